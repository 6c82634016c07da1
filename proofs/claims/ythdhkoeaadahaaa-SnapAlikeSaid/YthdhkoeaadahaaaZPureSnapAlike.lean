-- PACKED by wip/kit/pack.py: what the law's proof uses of PureSnapAlike (printed words and texts of this seat)
import Derived.Test.YthdhkoeaadahaaaZSnapCore
import Derived.Test.YthdhkoeaadahaaaZPx102
import Derived.Test.YthdhkoeaadahaaaZGood
namespace Go.Proofs.Ythdhkoeaadahaaa.Pure
open Go.RowKit Go.Proofs.Ythdhkoeaadahaaa.P Go.Proofs.Ythdhkoeaadahaaa.VolsCore Go.Proofs.YthdhkoeaadahaaaW.PrintWords Go.Proofs.YthdhkoeaadahaaaW.PrintLast
theorem sawake_ev : Ev (fun _ => counterfoillaw09_awake.f) true := Ev.const (by decide +kernel)
theorem SnapAlike : counterfoillaw09_SnapAlike.Pure := by
  intro kept l v b hk hl _ _
  have hlen : l.length < 9223372036854775807 := by omega
  have hklen : kept.length < 9223372036854775807 := by omega
  suffices h : Ev (fun k => counterfoillaw09_SnapAlike.f k kept l v b) true by
    obtain ⟨k, hk⟩ := h
    exact ⟨k, hk k (Nat.le_refl _)⟩
  unfold counterfoillaw09_SnapAlike.f
  obtain ⟨t, ht, hs⟩ := small_ev l kept hlen
  refine Ev.bind ht ?_
  cases t with
  | false => exact Ev.neg (by simp) (Ev.bind sawake_ev (Ev.now _))
  | true =>
    refine Ev.pos rfl (Ev.bind (back_ev kept l hklen) (Ev.bind (read_ev kept l v b hklen) ?_))
    cases hs : snapB kept l with
    | true =>
      have eb : backR kept l = (applyV l kept, 0) := by unfold backR; rw [if_pos hs]
      have er : readR kept l v b = getV (applyV l kept) v b := by unfold readR; rw [if_pos hs]
      rw [eb, er]
      have hg := vget_ev (applyV l kept) v b
      rw [if_pos (back_right hs)] at hg
      exact Ev.pos rfl (Ev.bind hg (Ev.pos rfl (Ev.pos rfl (Ev.bind sawake_ev (Ev.now _)))))
    | false =>
      have eb : backR kept l = ([], 1) := by unfold backR; rw [if_neg (by rw [hs]; simp)]
      have er : readR kept l v b = (⟨#[]⟩, 1) := by unfold readR; rw [if_neg (by rw [hs]; simp)]
      rw [eb, er]
      exact Ev.neg (by decide) (Ev.pos (show (⟨#[]⟩ : ByteArray).toList = [] by rw [ByteArray.toList_eq]) (Ev.pos rfl (Ev.bind sawake_ev (Ev.now _))))
end Go.Proofs.Ythdhkoeaadahaaa.Pure
