/- Two are the same just if both are right and equal; no condition. -/
import Derived.Test.YthdhkoeaadahaaaVolsCore2
import Derived.Test.YthdhkoeaadahaaaPx74
namespace Go.Proofs.Ythdhkoeaadahaaa.Pure
open Go.RowKit Go.Proofs.Ythdhkoeaadahaaa.P Go.Proofs.Ythdhkoeaadahaaa.VolsCore Go.Proofs.YthdhkoeaadahaaaW.PrintWords Go.Proofs.YthdhkoeaadahaaaW.PrintLast
theorem VolsSame : counterfoillaw07_VolsSame.Pure := by
  intro l m hl hm
  have hlen : l.length < 9223372036854775807 := by omega
  have hlen2 : m.length < 9223372036854775807 := by omega
  suffices h : Ev (fun k => counterfoillaw07_VolsSame.f k l m) true by
    obtain ⟨k, hk⟩ := h
    exact ⟨k, hk k (Nat.le_refl _)⟩
  have dull : Ev (fun k => counterfoillaw07_VolsSame.j0 k l m true) true := by
    refine Ev.succ ?_
    simp only [counterfoillaw07_VolsSame.j0]
    exact Ev.pos (by simp) (Ev.bind awake_ev (Ev.now _))
  unfold counterfoillaw07_VolsSame.f
  obtain ⟨t, ht, hs⟩ := small_ev l [] hlen
  refine Ev.bind ht ?_
  cases t with
  | false => exact Ev.neg (by simp) dull
  | true =>
    obtain ⟨h1, _, h2⟩ := hs rfl
    obtain ⟨u, hu, _⟩ := small_ev m [] hlen2
    refine Ev.pos rfl (Ev.bind hu ?_)
    cases u with
    | false => exact dull
    | true =>
      refine Ev.succ ?_
      simp only [counterfoillaw07_VolsSame.j0]
      refine Ev.neg (by simp) (Ev.bind (right_ev l (by omega) (fun x hx => by have := h2 x hx; omega)) (Ev.bind (vsame_ev l m) ?_))
      have hself := vsame_ev l l
      rw [vsame_self] at hself
      cases hr : rightV l with
      | true =>
        rw [hr] at hself
        refine Ev.pos rfl (Ev.bind (equal_ev l m (by omega) (fun x hx => by have := h2 x hx; omega)) ?_)
        have e : ((true && rightV m && eqVs l m) == eqVs l m) = true := by
          cases he : eqVs l m with
          | true =>
            obtain rfl := eqVs_iff.1 he
            rw [hr]; rfl
          | false => simp
        rw [e]
        exact Ev.pos rfl (Ev.bind hself (Ev.pos rfl (Ev.bind awake_ev (Ev.now _))))
      | false =>
        rw [hr] at hself
        exact Ev.neg (by simp) (Ev.pos (by simp) (Ev.bind hself (Ev.pos rfl (Ev.bind awake_ev (Ev.now _)))))
end Go.Proofs.Ythdhkoeaadahaaa.Pure
