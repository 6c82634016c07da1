/- Volumes behind folded writes are what they are behind the writes; no condition. -/
import Derived.Test.YthdhkoeaadahaaaDoesCore
import Derived.Test.YthdhkoeaadahaaaPx79
import Derived.Test.YthdhkoeaadahaaaGood
namespace Go.Proofs.Ythdhkoeaadahaaa.Pure
open Go.RowKit Go.Proofs.Ythdhkoeaadahaaa.P Go.Proofs.Ythdhkoeaadahaaa.VolsCore Go.Proofs.YthdhkoeaadahaaaW.PrintWords Go.Proofs.YthdhkoeaadahaaaW.PrintLast
theorem fawake_ev : Ev (fun _ => counterfoillaw08_awake.f) true := Ev.const (by decide +kernel)
theorem FoldDoes : counterfoillaw08_FoldDoes.Pure := by
  intro l ws hl hw
  have hlen : l.length < 9223372036854775807 := by omega
  suffices h : Ev (fun k => counterfoillaw08_FoldDoes.f k l ws) true by
    obtain ⟨k, hk⟩ := h
    exact ⟨k, hk k (Nat.le_refl _)⟩
  unfold counterfoillaw08_FoldDoes.f
  obtain ⟨t, ht, hs⟩ := small_ev l ws hlen
  refine Ev.bind ht ?_
  cases t with
  | false => exact Ev.neg (by simp) (Ev.bind fawake_ev (Ev.now _))
  | true =>
    obtain ⟨h1, h2, h3⟩ := hs rfl
    refine Ev.pos rfl (Ev.bind (apply_ev l ws) (Ev.bind (FoldCore.fold_ev ws (by omega)) (Ev.bind (apply_ev l (foldW ws)) ?_)))
    by_cases hz : checkV l ws = 0
    · obtain ⟨hr, hc⟩ := checkV_right hz
      have e : applyR l ws = (applyV l ws, 0) := by unfold applyR; rw [if_pos hz]
      have e2 : applyR l (foldW ws) = (applyV l ws, 0) := by unfold applyR; rw [if_pos (does_check hz), does_apply hz]
      rw [e, e2]
      have hs := vsame_ev (applyV l ws) (applyV l ws)
      rw [vsame_self, apply_right ws l (fun x hx => (checkL_all l ws hc x hx).2) hr] at hs
      exact Ev.pos rfl (Ev.pos rfl (Ev.bind hs (Ev.pos rfl (Ev.bind fawake_ev (Ev.now _)))))
    · have e : applyR l ws = ([], checkV l ws) := by unfold applyR; rw [if_neg hz]
      rw [e]
      exact Ev.neg hz (Ev.pos (by simp) (Ev.bind fawake_ev (Ev.now _)))
end Go.Proofs.Ythdhkoeaadahaaa.Pure
