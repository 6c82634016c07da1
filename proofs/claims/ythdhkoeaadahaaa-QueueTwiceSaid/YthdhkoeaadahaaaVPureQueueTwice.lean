-- PACKED by wip/kit/pack.py: what the law's proof uses of PureQueueTwice (printed words and texts of this seat)
import Derived.Test.YthdhkoeaadahaaaVQAwake
import Derived.Test.YthdhkoeaadahaaaVDoneCore
import Derived.Test.YthdhkoeaadahaaaVPx88
import Derived.Test.YthdhkoeaadahaaaVGood
namespace Go.Proofs.Ythdhkoeaadahaaa.Pure
open Go.RowKit Go.Proofs.Ythdhkoeaadahaaa.P Go.Proofs.Ythdhkoeaadahaaa.FoldCore Go.Proofs.Ythdhkoeaadahaaa.QueueCore Go.Proofs.Ythdhkoeaadahaaa.QAwake Go.Proofs.Ythdhkoeaadahaaa.DoneCore Go.Proofs.YthdhkoeaadahaaaW.PrintWords Go.Proofs.YthdhkoeaadahaaaW.PrintLast Go.Proofs.YthdhkoeaadahaaaW.PrintMore
set_option linter.unusedVariables false
theorem late_both (l : List S99) (a b : Int) : (l.filter (lateQ a)).filter (lateQ b) = l.filter (lateQ (mx a b)) := by
  rw [List.filter_filter]
  refine List.filter_congr (fun x _ => ?_)
  unfold lateQ mx
  rw [Bool.eq_iff_iff]
  simp only [Bool.and_eq_true, Bool.not_eq_true', decide_eq_false_iff_not]
  split <;> omega
theorem QueueTwice : counterfoillaw12_QueueTwice.Pure := by
  intro l o a b p q hl ho _ _ _ _
  suffices H : Ev (fun k => counterfoillaw12_QueueTwice.f k l o a b p q) true by
    obtain ⟨k, hk⟩ := H
    exact ⟨k, hk k (Nat.le_refl _)⟩
  unfold counterfoillaw12_QueueTwice.f
  have dull : Ev (fun k => counterfoillaw12_QueueTwice.j0 k p q true l o a b) true := by
    refine Ev.succ ?_
    simp only [counterfoillaw12_QueueTwice.j0]
    exact Ev.pos (by simp) (Ev.bind awake12 (Ev.now _))
  obtain ⟨t, ht, hsm⟩ := small_ev l o a b
  refine Ev.bind ht ?_
  cases t with
  | false => exact Ev.neg (by simp) dull
  | true =>
    obtain ⟨h1, h2, h3⟩ := hsm rfl
    refine Ev.pos rfl (Ev.bind (right_ev l o a b h1 h3 h2) ?_)
    cases hq : qB o a b l (tailP l a) with
    | false => exact dull
    | true =>
      have fl : ∀ z : Int, (l.filter (lateQ z)).length ≤ 20 := fun z => Nat.le_trans (List.length_filter_le _ _) h1
      have fs : ∀ z : Int, smallL (l.filter (lateQ z)) := fun z => small_filter h3 (lateQ z)
      obtain ⟨r1, _, _⟩ := done_right p hq
      obtain ⟨r2, _, _⟩ := done_right (mx p q) hq
      have d1 := done_ev l o a b p h1 h3 h2 hq
      have d2 := done_ev (l.filter (lateQ p)) o a b q (fl p) (fs p) h2 r1
      have d3 := done_ev l o a b (mx p q) h1 h3 h2 hq
      rw [late_both] at d2
      have e1 := qequal_self (l.filter (lateQ (mx p q))) o a b (by have := fl (mx p q); omega) (fun i hi => by have := fs (mx p q) i hi; omega) (by omega)
      have e2 := right_ev (l.filter (lateQ (mx p q))) o a b (fl _) (fs _) h2
      rw [r2] at e2
      refine Ev.succ ?_
      simp only [counterfoillaw12_QueueTwice.j0]
      exact Ev.neg (by simp) (Ev.bind d1 (Ev.bind d2 (Ev.bind d3 (Ev.pos rfl (Ev.pos rfl (Ev.pos rfl (Ev.bind e1 (Ev.pos rfl (Ev.bind e2 (Ev.pos rfl (Ev.bind awake12 (Ev.now _))))))))))))
end Go.Proofs.Ythdhkoeaadahaaa.Pure
