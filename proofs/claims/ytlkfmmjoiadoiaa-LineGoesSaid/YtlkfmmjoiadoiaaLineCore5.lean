/- A branch more, and the last epoch. -/
import Derived.Test.YtlkfmmjoiadoiaaLineCore1
import Derived.Test.YtlkfmmjoiadoiaaPx25
import Derived.Test.YtlkfmmjoiadoiaaPx27
namespace Go.Proofs.Ytlkfmmjoiadoiaa.LineCore
open Go.RowKit Go.Proofs.Ytlkfmmjoiadoiaa.P Go.Proofs.YtlkfmmjoiadoiaaW.PrintWords Go.Proofs.YtlkfmmjoiadoiaaW.PrintLast
/-- May a line go on so? -/
def mayGrow (l : List S61) (e a : Int) : Bool := rightS l && decide ((rd_T61 l ((l.length - 1 : Nat) : Int)).f0 < e ∧ e ≤ 1099511627776 ∧ (rd_T61 l ((l.length - 1 : Nat) : Int)).f1 ≤ a ∧ a ≤ 1099511627776)
def growS (l : List S61) (e a : Int) : List S61 × Int := if mayGrow l e a = true then (if l.length = 64 then ([], 6) else (l ++ [⟨e, a⟩], 0)) else ([], 1)
theorem grow_ev (l : List S61) (e a : Int) : Ev (fun k => line_Grow.f k l e a) (growS l e a) := by
  unfold line_Grow.f
  refine Ev.bind (right_ev l) ?_
  have hno : Ev (fun k => line_Grow.j0 k l e a true) (([] : List S61), 1) := by
    refine Ev.succ ?_
    simp only [line_Grow.j0, if_true]
    exact Ev.now _
  have no : mayGrow l e a = false → growS l e a = ([], 1) := fun h => by unfold growS; rw [h]; rfl
  cases hr : rightS l with
  | false =>
    rw [no (by unfold mayGrow; rw [hr]; rfl)]
    exact Ev.neg (by simp) (Ev.now _)
  | true =>
    obtain ⟨h1, h2, _, _⟩ := right_len hr
    have ew : wrap64 ((l.length : Int) - 1) = ((l.length - 1 : Nat) : Int) := by unfold wrap64; omega
    rw [ew]
    have no' : ¬ ((rd_T61 l ((l.length - 1 : Nat) : Int)).f0 < e ∧ e ≤ 1099511627776 ∧ (rd_T61 l ((l.length - 1 : Nat) : Int)).f1 ≤ a ∧ a ≤ 1099511627776) → growS l e a = ([], 1) := fun h => no (by unfold mayGrow; rw [hr, decide_eq_false h]; rfl)
    refine Ev.pos rfl (Ev.pos (by omega) (Ev.pos (by omega) ?_))
    by_cases g1 : e ≤ (rd_T61 l ((l.length - 1 : Nat) : Int)).f0
    · rw [no' (by omega)]; exact Ev.pos g1 hno
    refine Ev.neg g1 ?_
    by_cases g2 : e > 1099511627776
    · rw [no' (by omega)]; exact Ev.pos g2 hno
    refine Ev.neg g2 ?_
    by_cases g3 : a < (rd_T61 l ((l.length - 1 : Nat) : Int)).f1
    · rw [no' (by omega)]; exact Ev.pos g3 hno
    refine Ev.neg g3 ?_
    by_cases g4 : a > 1099511627776
    · rw [no' (by omega), decide_eq_true g4]; exact hno
    have hy : mayGrow l e a = true := by unfold mayGrow; rw [hr, decide_eq_true (by omega)]; rfl
    have hg : growS l e a = if l.length = 64 then ([], 6) else (l ++ [⟨e, a⟩], 0) := by unfold growS; rw [hy]; rfl
    rw [decide_eq_false g4, hg]
    refine Ev.succ ?_
    simp only [line_Grow.j0]
    refine Ev.neg (by simp) ?_
    by_cases h : l.length = 64
    · refine Ev.pos (by omega) ?_
      rw [if_pos h]
      exact Ev.now _
    · refine Ev.neg (by omega) ?_
      rw [if_neg h]
      have hc : api_Branch_51.f l = some l := by unfold api_Branch_51.f; rw [if_pos (by omega)]
      exact Ev.bind (Ev.const hc) (Ev.pos (by omega) (Ev.now _))
def lastS (l : List S61) : Int := if rightS l = true then (rd_T61 l ((l.length - 1 : Nat) : Int)).f0 else 0
theorem last_ev (l : List S61) : Ev (fun k => line_Last.f k l) (lastS l) := by
  unfold line_Last.f lastS
  refine Ev.bind (right_ev l) ?_
  cases hr : rightS l with
  | false => exact Ev.neg (by simp) (Ev.now _)
  | true =>
    obtain ⟨h1, h2, _, _⟩ := right_len hr
    have ew : wrap64 ((l.length : Int) - 1) = ((l.length - 1 : Nat) : Int) := by unfold wrap64; omega
    rw [ew]
    exact Ev.pos rfl (Ev.pos (by omega) (Ev.pos (by omega) (Ev.now _)))
end Go.Proofs.Ytlkfmmjoiadoiaa.LineCore
