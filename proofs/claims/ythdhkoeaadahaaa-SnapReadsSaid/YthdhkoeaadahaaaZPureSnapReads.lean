-- PACKED by wip/kit/pack.py: what the law's proof uses of PureSnapReads (printed words and texts of this seat)
import Derived.Test.YthdhkoeaadahaaaZSnapRef
import Derived.Test.YthdhkoeaadahaaaZPx101
import Derived.Test.YthdhkoeaadahaaaZGood
namespace Go.Proofs.Ythdhkoeaadahaaa.Pure
open Go.RowKit Go.Proofs.Ythdhkoeaadahaaa.P Go.Proofs.Ythdhkoeaadahaaa.VolsCore Go.Proofs.YthdhkoeaadahaaaW.PrintWords Go.Proofs.YthdhkoeaadahaaaW.PrintLast
theorem sawake_ev : Ev (fun _ => counterfoillaw09_awake.f) true := Ev.const (by decide +kernel)
theorem rread_ev (kept : List S74) (l : List S49) (v b : Int) (hl : l.length ≤ 1000) (hb : ∀ x ∈ l, x.f1.length ≤ 1000) (hk : kept.length ≤ 1000) : Ev (fun k => counterfoilref09_Read.f k kept l v b) (readR kept l v b) := by
  unfold counterfoilref09_Read.f readR
  refine Ev.bind (rsnap_ev kept l hl hb hk) ?_
  cases hs : snapB kept l with
  | false =>
    have e : (if false = true then getV (applyV l kept) v b else ((⟨#[]⟩ : ByteArray), (1 : Int))) = (⟨#[]⟩, 1) := if_neg (by simp)
    rw [e]
    exact Ev.neg (by simp) (Ev.now _)
  | true =>
    have e : (if true = true then getV (applyV l kept) v b else ((⟨#[]⟩ : ByteArray), (1 : Int))) = getV (applyV l kept) v b := if_pos rfl
    rw [e, get_back (snapB_iff.1 hs).1]
    refine Ev.pos rfl (Ev.bind (get_ev l v b hl) ?_)
    by_cases hz : (getV l v b).2 = 0
    · have e2 : (if (getV l v b).2 = 0 then (((lastQ kept v b).getD (getV l v b).1, 0) : ByteArray × Int) else (⟨#[]⟩, (getV l v b).2)) = ((lastQ kept v b).getD (getV l v b).1, 0) := if_pos hz
      rw [e2]
      refine Ev.pos hz (Ev.bind (last_ev kept v b hk) ?_)
      unfold lastP
      cases lastQ kept v b with
      | some t => exact Ev.pos rfl (Ev.now _)
      | none => exact Ev.neg (by simp) (Ev.now _)
    · have e2 : (if (getV l v b).2 = 0 then (((lastQ kept v b).getD (getV l v b).1, 0) : ByteArray × Int) else (⟨#[]⟩, (getV l v b).2)) = (⟨#[]⟩, (getV l v b).2) := if_neg hz
      rw [e2]
      exact Ev.neg hz (Ev.now _)
theorem SnapReads : counterfoillaw09_SnapReads.Pure := by
  intro kept l v b hk hl _ _
  have hlen : l.length < 9223372036854775807 := by omega
  have hklen : kept.length < 9223372036854775807 := by omega
  suffices h : Ev (fun k => counterfoillaw09_SnapReads.f k kept l v b) true by
    obtain ⟨k, hk⟩ := h
    exact ⟨k, hk k (Nat.le_refl _)⟩
  unfold counterfoillaw09_SnapReads.f
  obtain ⟨t, ht, hs⟩ := small_ev l kept hlen
  refine Ev.bind ht ?_
  cases t with
  | false => exact Ev.neg (by simp) (Ev.bind sawake_ev (Ev.now _))
  | true =>
    obtain ⟨h1, h2, h3⟩ := hs rfl
    have hb : ∀ x ∈ l, x.f1.length ≤ 1000 := fun x hx => by have := h3 x hx; omega
    refine Ev.pos rfl (Ev.bind (read_ev kept l v b hklen) (Ev.bind (rread_ev kept l v b (by omega) hb (by omega)) (Ev.pos rfl ?_)))
    have e0 : ((readR kept l v b).2 != (readR kept l v b).2) = false := by simp
    rw [e0]
    refine Ev.succ ?_
    simp only [counterfoillaw09_SnapReads.j0]
    refine Ev.neg (by simp) (Ev.bind (back_ev kept l hklen) (Ev.bind (rsnap_ev kept l (by omega) hb (by omega)) ?_))
    cases hs : snapB kept l with
    | true =>
      have eb : backR kept l = (applyV l kept, 0) := by unfold backR; rw [if_pos hs]
      rw [eb]
      have hc := (snapB_iff.1 hs).1
      have ha := rapply_ev l kept (by omega) hb (by omega)
      unfold applyR at ha
      rw [if_pos hc] at ha
      have hsm := apply_small l kept (checkV_right hc).1
      have he := equal_ev (applyV l kept) (applyV l kept) hsm.1 hsm.2
      rw [eqVs_self] at he
      exact Ev.pos rfl (Ev.bind ha (Ev.pos rfl (Ev.bind he (Ev.pos rfl (Ev.bind sawake_ev (Ev.now _))))))
    | false =>
      have eb : backR kept l = ([], 1) := by unfold backR; rw [if_neg (by rw [hs]; simp)]
      rw [eb]
      exact Ev.neg (by simp) (Ev.pos (by decide) (Ev.pos (by decide) (Ev.bind sawake_ev (Ev.now _))))
end Go.Proofs.Ythdhkoeaadahaaa.Pure
