/- The next epoch of a site is the least one above that is its own, and no other site's; no condition. -/
import Derived.Test.YtlkfmmjoiadoiaaLineCore1
import Derived.Test.YtlkfmmjoiadoiaaPx14
namespace Go.Proofs.Ytlkfmmjoiadoiaa.Pure
open Go.RowKit Go.Proofs.Ytlkfmmjoiadoiaa.P Go.Proofs.Ytlkfmmjoiadoiaa.LineCore Go.Proofs.YtlkfmmjoiadoiaaW.PrintWords Go.Proofs.YtlkfmmjoiadoiaaW.PrintLast
theorem LineNext : counterfoillaw11_LineNext.Pure := by
  intro n s _ _
  refine Ev.rounds ?_
  unfold counterfoillaw11_LineNext.f
  refine Ev.bind (next_ev n s) ?_
  have hno : nextS n s = 0 → Ev (fun k => counterfoillaw11_LineNext.j0 k n s (nextS n s) true) true := by
    intro h
    rw [h]
    refine Ev.succ ?_
    simp only [counterfoillaw11_LineNext.j0, if_true]
    exact Ev.bind awake_ev (Ev.now _)
  by_cases h1 : n < 0
  · exact Ev.pos h1 (hno (by unfold nextS; rw [if_neg (by omega)]))
  refine Ev.neg h1 ?_
  by_cases h2 : n > 1099511627774
  · exact Ev.pos h2 (hno (by unfold nextS; rw [if_neg (by omega)]))
  refine Ev.neg h2 ?_
  have hyes : (s = 0 ∨ s = 1) → Ev (fun k => counterfoillaw11_LineNext.j0 k n s (nextS n s) false) true := by
    intro h
    have e2 : wrap64 (n + 2) = n + 2 := by unfold wrap64; omega
    have e3 : wrap64 (1 - s) = 1 - s := by unfold wrap64; omega
    have hx : nextS n s = (if (n + 1) % 2 = s then n + 2 else n + 1) := by unfold nextS; rw [if_pos (by omega)]
    have hy : nextS n (1 - s) = (if (n + 1) % 2 = 1 - s then n + 2 else n + 1) := by unfold nextS; rw [if_pos (by omega)]
    have b : n < nextS n s ∧ nextS n s ≤ n + 2 ∧ nextS n s % 2 = 1 - s ∧ nextS n s ≠ nextS n (1 - s) := by
      rw [hx, hy]
      split <;> split <;> omega
    have et : Int.tmod (nextS n s) 2 = nextS n s % 2 := Int.tmod_eq_emod_of_nonneg (by omega)
    refine Ev.succ ?_
    simp only [counterfoillaw11_LineNext.j0, e2, e3, et]
    exact Ev.neg (by simp) (Ev.pos b.1 (Ev.pos b.2.1 (Ev.pos b.2.2.1 (Ev.bind (next_ev n (1 - s)) (Ev.neg b.2.2.2 (Ev.bind awake_ev (Ev.now _)))))))
  by_cases h3 : s = 0
  · exact Ev.pos h3 (hyes (.inl h3))
  refine Ev.neg h3 ?_
  by_cases h4 : s = 1
  · rw [show (s != 1) = false by simp [h4]]; exact hyes (.inr h4)
  · rw [show (s != 1) = true by simp [h4]]
    exact hno (by unfold nextS; rw [if_neg (by omega)])
end Go.Proofs.Ytlkfmmjoiadoiaa.Pure
