/- Any writes are done as the reference says, or refused as a whole; no condition. -/
import Derived.Test.YthdhkoeaadahaaaRefApply
import Derived.Test.YthdhkoeaadahaaaPx84
namespace Go.Proofs.Ythdhkoeaadahaaa.Pure
open Go.RowKit Go.Proofs.Ythdhkoeaadahaaa.P Go.Proofs.Ythdhkoeaadahaaa.VolsCore Go.Proofs.YthdhkoeaadahaaaW.PrintWords Go.Proofs.YthdhkoeaadahaaaW.PrintLast
theorem VolsApplies : counterfoillaw07_VolsApplies.Pure := by
  intro l ws hl hw
  have hlen : l.length < 9223372036854775807 := by omega
  suffices h : Ev (fun k => counterfoillaw07_VolsApplies.f k l ws) true by
    obtain ⟨k, hk⟩ := h
    exact ⟨k, hk k (Nat.le_refl _)⟩
  unfold counterfoillaw07_VolsApplies.f
  obtain ⟨t, ht, hs⟩ := small_ev l ws hlen
  refine Ev.bind ht ?_
  cases t with
  | false => exact Ev.neg (by simp) (Ev.bind awake_ev (Ev.now _))
  | true =>
    obtain ⟨h1, h2, h3⟩ := hs rfl
    refine Ev.pos rfl (Ev.bind (apply_ev l ws) (Ev.bind (rapply_ev l ws (by omega) (fun x hx => by have := h3 x hx; omega) (by omega)) ?_))
    have hsm := applyR_small l ws
    have he := equal_ev (applyR l ws).1 (applyR l ws).1 hsm.1 hsm.2
    rw [eqVs_self] at he
    have ec : checkV l ws = (applyR l ws).2 := by
      unfold applyR
      by_cases hz : checkV l ws = 0
      · rw [if_pos hz]; exact hz
      · rw [if_neg hz]
    exact Ev.bind he (Ev.pos rfl (Ev.pos rfl (Ev.bind (check_ev l ws) (Ev.pos ec (Ev.bind awake_ev (Ev.now _))))))
end Go.Proofs.Ythdhkoeaadahaaa.Pure
