/- What blocks hold is told; no condition. -/
import Derived.Test.YthdhkoeaadahaaaPickCore
import Derived.Test.YthdhkoeaadahaaaFoldPure
import Derived.Test.YthdhkoeaadahaaaPx78
import Derived.Test.YthdhkoeaadahaaaGood
namespace Go.Proofs.Ythdhkoeaadahaaa.Pure
open Go.RowKit Go.Proofs.Ythdhkoeaadahaaa.P Go.Proofs.Ythdhkoeaadahaaa.VolsCore Go.Proofs.YthdhkoeaadahaaaW.PrintWords Go.Proofs.YthdhkoeaadahaaaW.PrintLast
theorem fawake_ev : Ev (fun _ => counterfoillaw08_awake.f) true := Ev.const (by decide +kernel)
theorem rpick_ev (l : List S49) (ms : List S124) (hl : l.length ≤ 1000) (hb : ∀ x ∈ l, x.f1.length ≤ 1000) (h : ms.length ≤ 10000) : Ev (fun k => counterfoilref08_Pick.f k l ms) (pickR l ms) := by
  have loop : ∀ (d i : Nat) (o : List S74), i + d = ms.length → o.length ≤ i → Ev (fun k => counterfoilref08_Pick.l0 k l ms o (i : Int)) (pickV l (ms.drop i) o) := by
    intro d
    induction d with
    | zero =>
      intro i o hi ho
      refine Ev.succ ?_
      simp only [counterfoilref08_Pick.l0]
      rw [List.drop_eq_nil_of_le (by omega)]
      exact Ev.neg (by omega) (Ev.now _)
    | succ d ih =>
      intro i o hi ho
      refine Ev.succ ?_
      simp only [counterfoilref08_Pick.l0]
      rw [wrap_succ (by omega), drop124 ms (i := i) (by omega), pickV]
      refine Ev.pos (by omega) (Ev.pos (by omega) (Ev.bind (get_ev l _ _ hl) ?_))
      by_cases hz : (getV l (rd_T124 ms (i : Int)).f0 (rd_T124 ms (i : Int)).f1).2 = 0
      · rw [if_pos hz]
        exact Ev.pos hz (Ev.pos (by omega) (ih (i + 1) _ (by omega) (by simp; omega)))
      · rw [if_neg hz]
        exact Ev.neg hz (Ev.now _)
  unfold counterfoilref08_Pick.f pickR
  refine Ev.bind (right_ev l hl hb) ?_
  cases hr : rightV l with
  | true =>
    have := loop ms.length 0 [] (by omega) (by simp)
    rw [List.drop_zero] at this
    rw [if_pos rfl]
    exact Ev.pos rfl this
  | false =>
    rw [if_neg (by simp)]
    exact Ev.neg (by simp) (Ev.now _)
theorem FoldPicks : counterfoillaw08_FoldPicks.Pure := by
  intro l ms hl hm
  have hlen : l.length < 9223372036854775807 := by omega
  suffices h : Ev (fun k => counterfoillaw08_FoldPicks.f k l ms) true by
    obtain ⟨k, hk⟩ := h
    exact ⟨k, hk k (Nat.le_refl _)⟩
  have dull : Ev (fun k => counterfoillaw08_FoldPicks.j0 k l ms true) true := by
    refine Ev.succ ?_
    simp only [counterfoillaw08_FoldPicks.j0]
    exact Ev.pos (by simp) (Ev.bind fawake_ev (Ev.now _))
  unfold counterfoillaw08_FoldPicks.f
  obtain ⟨t, ht, hs⟩ := small_ev l [] hlen
  refine Ev.bind ht ?_
  cases t with
  | false => exact Ev.neg (by simp) dull
  | true =>
    obtain ⟨h1, _, h2⟩ := hs rfl
    refine Ev.pos rfl ?_
    by_cases h3 : (ms.length : Int) > 200
    · rw [decide_eq_true h3]; exact dull
    · rw [decide_eq_false h3]
      have hlp := pickR_length l ms
      refine Ev.succ ?_
      simp only [counterfoillaw08_FoldPicks.j0]
      exact Ev.neg (by simp) (Ev.bind (pick_ev l ms (by omega)) (Ev.bind (rpick_ev l ms (by omega) (fun x hx => by have := h2 x hx; omega) (by omega)) (Ev.bind (FoldCore.eqw_self _ (by omega)) (Ev.pos rfl (Ev.pos rfl (Ev.bind fawake_ev (Ev.now _)))))))
end Go.Proofs.Ythdhkoeaadahaaa.Pure
