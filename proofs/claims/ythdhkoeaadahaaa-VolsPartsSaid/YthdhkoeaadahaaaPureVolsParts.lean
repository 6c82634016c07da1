/- Writes in two parts are the writes at once; no condition. -/
import Derived.Test.YthdhkoeaadahaaaApplyCore
import Derived.Test.YthdhkoeaadahaaaPx85
namespace Go.Proofs.Ythdhkoeaadahaaa.Pure
open Go.RowKit Go.Proofs.Ythdhkoeaadahaaa.P Go.Proofs.Ythdhkoeaadahaaa.VolsCore Go.Proofs.YthdhkoeaadahaaaW.PrintWords Go.Proofs.YthdhkoeaadahaaaW.PrintLast
theorem parts_one (l : List S49) (a b : List S74) (h : checkV l a = 0) : applyR (applyV l a) b = applyR l (a ++ b) := by
  obtain ⟨hr, hc⟩ := checkV_right h
  have e : checkV (applyV l a) b = checkV l (a ++ b) := by
    unfold checkV
    rw [apply_right a l (fun x hx => (checkL_all l a hc x hx).2) hr, hr, if_pos rfl, if_pos rfl, checkL_append l a b hc]
    exact checkL_err l _ b (applyV_same l a)
  unfold applyR
  rw [e]
  unfold applyV
  rw [List.foldl_append]
theorem VolsParts : counterfoillaw07_VolsParts.Pure := by
  intro l a b hl ha hb
  have hlen : l.length < 9223372036854775807 := by omega
  suffices h : Ev (fun k => counterfoillaw07_VolsParts.f k l a b) true by
    obtain ⟨k, hk⟩ := h
    exact ⟨k, hk k (Nat.le_refl _)⟩
  have dull : Ev (fun k => counterfoillaw07_VolsParts.j0 k l a b true) true := by
    refine Ev.succ ?_
    simp only [counterfoillaw07_VolsParts.j0]
    exact Ev.pos (by simp) (Ev.bind awake_ev (Ev.now _))
  unfold counterfoillaw07_VolsParts.f
  obtain ⟨t, ht, hs⟩ := small_ev l a hlen
  refine Ev.bind ht ?_
  cases t with
  | false => exact Ev.neg (by simp) dull
  | true =>
    obtain ⟨h1, h2, h3⟩ := hs rfl
    obtain ⟨u, hu, hs2⟩ := small_ev l b hlen
    refine Ev.pos rfl (Ev.bind hu ?_)
    cases u with
    | false => exact dull
    | true =>
      obtain ⟨_, h4, _⟩ := hs2 rfl
      refine Ev.succ ?_
      simp only [counterfoillaw07_VolsParts.j0]
      refine Ev.neg (by simp) (Ev.bind (apply_ev l a) ?_)
      by_cases hz : checkV l a = 0
      · have e : applyR l a = (applyV l a, 0) := by unfold applyR; rw [if_pos hz]
        rw [e]
        refine Ev.pos rfl (Ev.bind (apply_ev (applyV l a) b) ?_)
        refine Ev.pos (by simp; omega) ?_
        refine Ev.bind (Ev.now _) (Ev.pos (by simp; omega) ?_)
        rw [List.nil_append]
        refine Ev.bind (apply_ev l (a ++ b)) ?_
        rw [parts_one l a b hz]
        have hsm := applyR_small l (a ++ b)
        have he := equal_ev (applyR l (a ++ b)).1 (applyR l (a ++ b)).1 hsm.1 hsm.2
        rw [eqVs_self] at he
        exact Ev.pos rfl (Ev.bind he (Ev.pos rfl (Ev.bind awake_ev (Ev.now _))))
      · have e : applyR l a = ([], checkV l a) := by unfold applyR; rw [if_neg hz]
        rw [e]
        exact Ev.neg hz (Ev.pos (by simp) (Ev.bind awake_ev (Ev.now _)))
end Go.Proofs.Ythdhkoeaadahaaa.Pure
