/- A line grows as the reference says, or the call is refused; what is right, and the last epoch, is told; no condition. -/
import Derived.Test.YtlkfmmjoiadoiaaLineCore2
import Derived.Test.YtlkfmmjoiadoiaaLineCore5
import Derived.Test.YtlkfmmjoiadoiaaPx28
namespace Go.Proofs.Ytlkfmmjoiadoiaa.Pure
open Go.RowKit Go.Proofs.Ytlkfmmjoiadoiaa.P Go.Proofs.Ytlkfmmjoiadoiaa.LineCore Go.Proofs.YtlkfmmjoiadoiaaW.PrintWords Go.Proofs.YtlkfmmjoiadoiaaW.PrintLast
theorem rgrow_ev (l : List S61) (e a : Int) : Ev (fun k => counterfoilref11_Grow.f k l e a) (growS l e a) := by
  unfold counterfoilref11_Grow.f
  refine Ev.bind (rright_ev l) ?_
  have hno : Ev (fun k => counterfoilref11_Grow.j0 k l e a true) (([] : List S61), 1) := by
    refine Ev.succ ?_
    simp only [counterfoilref11_Grow.j0, if_true]
    exact Ev.now _
  have no : mayGrow l e a = false → growS l e a = ([], 1) := fun h => by unfold growS; rw [h]; rfl
  cases hr : rightS l with
  | false =>
    rw [no (by unfold mayGrow; rw [hr]; rfl)]
    exact Ev.neg (by simp) hno
  | true =>
    obtain ⟨h1, h2, _, _⟩ := right_len hr
    have ew : wrap64 ((l.length : Int) - 1) = ((l.length - 1 : Nat) : Int) := by unfold wrap64; omega
    rw [ew]
    have no' : ¬ ((rd_T61 l ((l.length - 1 : Nat) : Int)).f0 < e ∧ e ≤ 1099511627776 ∧ (rd_T61 l ((l.length - 1 : Nat) : Int)).f1 ≤ a ∧ a ≤ 1099511627776) → growS l e a = ([], 1) := fun h => no (by unfold mayGrow; rw [hr, decide_eq_false h]; rfl)
    refine Ev.pos rfl ?_
    by_cases g2 : e > 1099511627776
    · rw [no' (by omega)]; exact Ev.pos g2 hno
    refine Ev.neg g2 ?_
    by_cases g4 : a > 1099511627776
    · rw [no' (by omega)]; exact Ev.pos g4 hno
    refine Ev.neg g4 (Ev.pos (by omega) (Ev.pos (by omega) ?_))
    by_cases g1 : e ≤ (rd_T61 l ((l.length - 1 : Nat) : Int)).f0
    · rw [no' (by omega)]; exact Ev.pos g1 hno
    refine Ev.neg g1 ?_
    by_cases g3 : a < (rd_T61 l ((l.length - 1 : Nat) : Int)).f1
    · rw [no' (by omega), decide_eq_true g3]; exact hno
    have hy : mayGrow l e a = true := by unfold mayGrow; rw [hr, decide_eq_true (by omega)]; rfl
    have hg : growS l e a = if l.length = 64 then ([], 6) else (l ++ [⟨e, a⟩], 0) := by unfold growS; rw [hy]; rfl
    rw [decide_eq_false g3, hg]
    refine Ev.succ ?_
    simp only [counterfoilref11_Grow.j0]
    refine Ev.neg (by simp) ?_
    by_cases h : l.length = 64
    · refine Ev.pos (by omega) ?_
      rw [if_pos h]
      exact Ev.now _
    · refine Ev.neg (by omega) ?_
      rw [if_neg h]
      refine Ev.pos (by simp; omega) (Ev.bind (Ev.now _) ?_)
      exact Ev.pos (by simp; omega) (by rw [List.nil_append]; exact Ev.now _)
theorem requal_self (a : List S61) (hm : a.length ≤ 9223372036854775806) : Ev (fun k => counterfoilref11_Equal.f k a a) true := by
  have loop : ∀ (d i : Nat), i + d = a.length → Ev (fun k => counterfoilref11_Equal.l0 k a a (i : Int)) true := by
    intro d
    induction d with
    | zero =>
      intro i hi
      refine Ev.succ ?_
      simp only [counterfoilref11_Equal.l0]
      exact Ev.neg (by omega) (Ev.now _)
    | succ d ih =>
      intro i hi
      refine Ev.succ ?_
      simp only [counterfoilref11_Equal.l0]
      rw [neB, eqB_self, wrap_succ (by omega)]
      exact Ev.pos (by omega) (Ev.pos (by omega) (Ev.pos (by omega) (Ev.neg (by simp) (ih (i + 1) (by omega)))))
  unfold counterfoilref11_Equal.f
  exact Ev.pos (by simp) (loop a.length 0 (by omega))
theorem LineGrows : counterfoillaw11_LineGrows.Pure := by
  intro l e a hl _ _
  refine Ev.rounds ?_
  have hA := Ev.bind awake_ev (f := fun _ t => some t) (Ev.now true)
  have hm : l.length ≤ 140737488351232 := by have := hl.1; omega
  have hg : (growS l e a).1.length ≤ 9223372036854775806 := by
    unfold growS
    split
    · split
      · simp
      · simp; omega
    · simp
  have hj : Ev (fun k => counterfoillaw11_LineGrows.j0 k l (growS l e a).1 (growS l e a).2 (growS l e a).1 (growS l e a).2 (lastS l)) true := by
    refine Ev.succ ?_
    simp only [counterfoillaw11_LineGrows.j0]
    exact Ev.bind (requal_self _ hg) (Ev.pos rfl (Ev.pos (by simp) (Ev.bind (right_ev l) (Ev.bind (rright_ev l) (Ev.pos (by simp) (Ev.bind (last_ev l) (Ev.pos (by simp) hA)))))))
  unfold counterfoillaw11_LineGrows.f
  by_cases g : (l.length : Int) > 100
  · exact Ev.pos g hA
  refine Ev.neg g (Ev.bind (grow_ev l e a) (Ev.bind (rgrow_ev l e a) (Ev.bind (rright_ev l) ?_)))
  unfold lastS at hj
  cases hr : rightS l with
  | false => rw [hr, if_neg (by simp)] at hj; exact Ev.neg (by simp) hj
  | true =>
    obtain ⟨h1, h2, _, _⟩ := right_len hr
    have ew : wrap64 ((l.length : Int) - 1) = ((l.length - 1 : Nat) : Int) := by unfold wrap64; omega
    rw [hr, if_pos rfl] at hj
    rw [ew]
    exact Ev.pos rfl (Ev.pos (by omega) (Ev.pos (by omega) hj))
end Go.Proofs.Ytlkfmmjoiadoiaa.Pure
