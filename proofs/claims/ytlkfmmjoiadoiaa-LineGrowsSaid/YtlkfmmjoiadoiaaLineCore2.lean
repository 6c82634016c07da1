/- The references of the package line come to the same plain functions. -/
import Derived.Test.YtlkfmmjoiadoiaaLineCore1
import Derived.Test.YtlkfmmjoiadoiaaPx10
namespace Go.Proofs.Ytlkfmmjoiadoiaa.LineCore
open Go.RowKit Go.Proofs.Ytlkfmmjoiadoiaa.P Go.Proofs.YtlkfmmjoiadoiaaW.PrintWords Go.Proofs.YtlkfmmjoiadoiaaW.PrintLast
theorem j2_no (l : List S61) (i : Int) : Ev (fun k => counterfoilref11_Right.j2 k l i true) false := by
  refine Ev.succ ?_
  simp only [counterfoilref11_Right.j2, if_true]
  exact Ev.now _
/-- A round's first four tests. -/
theorem rr_first (l : List S61) (i : Nat) (hi : i < l.length) {r : Bool}
    (hno : ¬ (1 ≤ (rd_T61 l (i : Int)).f0 ∧ (rd_T61 l (i : Int)).f0 ≤ 1099511627776 ∧ 0 ≤ (rd_T61 l (i : Int)).f1 ∧ (rd_T61 l (i : Int)).f1 ≤ 1099511627776) → r = false)
    (hyes : (1 ≤ (rd_T61 l (i : Int)).f0 ∧ (rd_T61 l (i : Int)).f0 ≤ 1099511627776 ∧ 0 ≤ (rd_T61 l (i : Int)).f1 ∧ (rd_T61 l (i : Int)).f1 ≤ 1099511627776) → Ev (fun k => counterfoilref11_Right.j2 k l (i : Int) false) r) :
    Ev (fun k => counterfoilref11_Right.l0 k l (i : Int)) r := by
  refine Ev.succ ?_
  simp only [counterfoilref11_Right.l0]
  refine Ev.pos (by omega) (Ev.pos (by omega) ?_)
  by_cases h1 : (rd_T61 l (i : Int)).f0 < 1
  · rw [hno (by omega)]; exact Ev.pos h1 (j2_no _ _)
  refine Ev.neg h1 ?_
  by_cases h2 : (rd_T61 l (i : Int)).f0 > 1099511627776
  · rw [hno (by omega)]; exact Ev.pos h2 (j2_no _ _)
  refine Ev.neg h2 ?_
  by_cases h3 : (rd_T61 l (i : Int)).f1 < 0
  · rw [hno (by omega)]; exact Ev.pos h3 (j2_no _ _)
  refine Ev.neg h3 ?_
  by_cases h4 : (rd_T61 l (i : Int)).f1 > 1099511627776
  · rw [hno (by omega), decide_eq_true h4]; exact j2_no _ _
  rw [decide_eq_false h4]
  exact hyes (by omega)
theorem rr_loop (l : List S61) (hl : l.length ≤ 64) (d : Nat) : ∀ i : Nat, i + 1 + d = l.length → 1 ≤ (rd_T61 l (i : Int)).f0 → 0 ≤ (rd_T61 l (i : Int)).f1 →
    Ev (fun k => counterfoilref11_Right.l0 k l ((i + 1 : Nat) : Int)) (chain (rd_T61 l (i : Int)).f0 (rd_T61 l (i : Int)).f1 (l.drop (i + 1))) := by
  induction d with
  | zero =>
    intro i hi _ _
    refine Ev.succ ?_
    simp only [counterfoilref11_Right.l0]
    rw [List.drop_eq_nil_of_le (by omega)]
    exact Ev.neg (by omega) (Ev.now _)
  | succ d ih =>
    intro i hi g0 g1
    rw [drop_cons l (show i + 1 < l.length by omega), chain]
    refine rr_first l (i + 1) (by omega) (fun h => ?_) (fun h => ?_)
    · rw [Bool.and_eq_false_iff, decide_eq_false_iff_not]; omega
    · refine Ev.succ ?_
      simp only [counterfoilref11_Right.j2]
      refine Ev.neg (by simp) (Ev.neg (by omega) (Ev.succ ?_))
      simp only [counterfoilref11_Right.j3]
      have ew : wrap64 (((i + 1 : Nat) : Int) - 1) = (i : Int) := by unfold wrap64; omega
      rw [ew]
      refine Ev.neg (by simp) (Ev.pos (by omega) (Ev.pos (by omega) (Ev.pos (by omega) (Ev.pos (by omega) (Ev.pos (by omega) ?_)))))
      by_cases h1 : (rd_T61 l ((i + 1 : Nat) : Int)).f0 ≤ (rd_T61 l (i : Int)).f0
      · rw [decide_eq_false (fun z => by omega), Bool.false_and]; exact Ev.pos h1 (Ev.now _)
      refine Ev.neg h1 ?_
      by_cases h2 : (rd_T61 l ((i + 1 : Nat) : Int)).f1 < (rd_T61 l (i : Int)).f1
      · rw [decide_eq_false (fun z => by omega), Bool.false_and]; exact Ev.pos h2 (Ev.now _)
      refine Ev.neg h2 ?_
      rw [decide_eq_true (by omega), Bool.true_and, wrap_succ (by omega)]
      exact ih (i + 1) (by omega) (by omega) (by omega)
theorem rright_ev (l : List S61) : Ev (fun k => counterfoilref11_Right.f k l) (rightS l) := by
  have hno : Ev (fun k => counterfoilref11_Right.j0 k l true) false := by
    refine Ev.succ ?_
    simp only [counterfoilref11_Right.j0, if_true]
    exact Ev.now _
  unfold counterfoilref11_Right.f
  by_cases h1 : (l.length : Int) = 0
  · rw [show rightS l = false by unfold rightS; rw [Bool.and_eq_false_iff, decide_eq_false_iff_not]; omega]
    exact Ev.pos h1 hno
  refine Ev.neg h1 ?_
  by_cases h2 : (l.length : Int) > 64
  · rw [show rightS l = false by unfold rightS; rw [Bool.and_eq_false_iff, decide_eq_false_iff_not]; omega, decide_eq_true h2]
    exact hno
  rw [decide_eq_false h2]
  refine Ev.succ ?_
  simp only [counterfoilref11_Right.j0]
  have hd : l = rd_T61 l ((0 : Nat) : Int) :: l.drop 1 := by
    have := drop_cons l (show 0 < l.length by omega)
    rwa [List.drop_zero] at this
  have hr : rightS l = (decide ((rd_T61 l 0).f1 = 0) && chain 0 0 (rd_T61 l ((0 : Nat) : Int) :: l.drop 1)) := by
    rw [← hd]
    unfold rightS
    by_cases h3 : (rd_T61 l 0).f1 = 0
    · rw [decide_eq_true h3, decide_eq_true (by omega)]
    · rw [decide_eq_false h3, decide_eq_false (fun z => h3 z.2.2), Bool.false_and]
  refine Ev.neg (by simp) (rr_first l 0 (by omega) (fun h => ?_) (fun h => ?_))
  · rw [hr, chain, Bool.and_eq_false_iff, Bool.and_eq_false_iff, decide_eq_false_iff_not, decide_eq_false_iff_not]
    omega
  · rw [hr, chain, decide_eq_true (show 0 < (rd_T61 l ((0 : Nat) : Int)).f0 ∧ (rd_T61 l ((0 : Nat) : Int)).f0 ≤ 1099511627776 ∧ 0 ≤ (rd_T61 l ((0 : Nat) : Int)).f1 ∧ (rd_T61 l ((0 : Nat) : Int)).f1 ≤ 1099511627776 by omega), Bool.true_and]
    refine Ev.succ ?_
    simp only [counterfoilref11_Right.j2]
    refine Ev.neg (by simp) (Ev.pos (by omega) (Ev.pos (by omega) (Ev.pos (by omega) ?_)))
    refine Ev.succ ?_
    simp only [counterfoilref11_Right.j3]
    by_cases h3 : (rd_T61 l 0).f1 = 0
    · rw [decide_eq_true h3, Bool.true_and, show ((rd_T61 l ((0 : Nat) : Int)).f1 != 0) = false by simpa using h3]
      refine Ev.neg (by simp) (Ev.neg (by omega) ?_)
      rw [wrap_succ (by omega)]
      exact rr_loop l (by omega) (l.length - 1) 0 (by omega) (by omega) (by omega)
    · rw [decide_eq_false h3, Bool.false_and, show ((rd_T61 l ((0 : Nat) : Int)).f1 != 0) = true by simpa using h3]
      exact Ev.pos rfl (Ev.now _)
theorem rplaced_ev (l : List S61) (s : Int) : Ev (fun k => counterfoilref11_Placed.f k l s) (placedS l s) := by
  unfold counterfoilref11_Placed.f placedS
  refine Ev.bind (rright_ev l) ?_
  cases hr : rightS l with
  | false => rw [Bool.false_and]; exact Ev.neg (by simp) (Ev.now _)
  | true =>
    obtain ⟨h1, h2, _, _⟩ := right_len hr
    have ew : wrap64 ((l.length : Int) - 1) = ((l.length - 1 : Nat) : Int) := by unfold wrap64; omega
    rw [ew, Bool.true_and]
    refine Ev.pos rfl ?_
    by_cases h : s ≤ 1099511627776
    · refine Ev.pos h (Ev.pos (by omega) (Ev.pos (by omega) ?_))
      rw [show decide ((rd_T61 l ((l.length - 1 : Nat) : Int)).f1 ≤ s ∧ s ≤ 1099511627776) = decide ((rd_T61 l ((l.length - 1 : Nat) : Int)).f1 ≤ s) by
        rw [decide_eq_decide]
        exact ⟨fun z => z.1, fun z => ⟨z, h⟩⟩]
      exact Ev.now _
    · refine Ev.neg h ?_
      rw [show decide ((rd_T61 l ((l.length - 1 : Nat) : Int)).f1 ≤ s ∧ s ≤ 1099511627776) = false from decide_eq_false (fun z => h z.2)]
      exact Ev.now _
end Go.Proofs.Ytlkfmmjoiadoiaa.LineCore
