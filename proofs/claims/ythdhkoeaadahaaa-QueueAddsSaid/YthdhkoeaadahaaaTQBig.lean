-- PACKED by wip/kit/pack.py: what the law's proof uses of QBig (printed words and texts of this seat)
import Derived.Test.YthdhkoeaadahaaaTQueueCore
import Derived.Test.YthdhkoeaadahaaaTDoneCore
import Derived.Test.YthdhkoeaadahaaaTMergeLaw
import Derived.Test.YthdhkoeaadahaaaTFoldBase
import Derived.Test.YthdhkoeaadahaaaTFoldedB
import Derived.Test.YthdhkoeaadahaaaTPx82
import Derived.Test.YthdhkoeaadahaaaTPx85
namespace Go.Proofs.Ythdhkoeaadahaaa.QBig
open Go.RowKit Go.Proofs.Ythdhkoeaadahaaa.P Go.Proofs.Ythdhkoeaadahaaa.FoldCore Go.Proofs.Ythdhkoeaadahaaa.QueueCore Go.Proofs.Ythdhkoeaadahaaa.DoneCore Go.Proofs.YthdhkoeaadahaaaW.PrintWords Go.Proofs.YthdhkoeaadahaaaW.PrintLast Go.Proofs.Ythdhkoeaadahaaa.SortCore
set_option linter.unusedVariables false
theorem mem99 (l : List S99) (i : Nat) (h : i < l.length) : rd_T99 l (i : Int) ∈ l := by rw [rd99 l i h]; exact List.getElem_mem h
theorem right_big (l : List S99) (o : List S74) (a b : Int) (hq : smallQ l o) : Ev (fun k => queue_Right.f k l o a b) (qB o a b l (tailP l a)) := by
  obtain ⟨hl, ho, hs⟩ := hq
  have loop : ∀ (d i : Nat) (p : Int), i + d = l.length → Ev (fun k => queue_Right.l0 k p l (l.length : Int) (i : Int) l o a b) (qB o a b (l.drop i) p) := by
    intro d
    induction d with
    | zero =>
      intro i p hi
      refine Ev.succ ?_
      simp only [queue_Right.l0]
      rw [List.drop_eq_nil_of_le (by omega)]
      refine Ev.neg (by omega) ?_
      simp only [qB, endB]
      refine Ev.gateP (fun _ => Ev.gate (fits_ev a) (fun _ => Ev.gateP (fun _ => Ev.gate (fits_ev b) (fun _ => Ev.gate (folded_ev o (by omega)) (fun _ => ?_)))))
      unfold lastB
      by_cases h : b > a
      · refine Ev.pos h ?_
        rw [if_pos h]; exact Ev.now _
      · refine Ev.neg h ?_
        rw [if_neg h]; exact Ev.now _
    | succ d ih =>
      intro i p hi
      refine Ev.succ ?_
      simp only [queue_Right.l0]
      rw [drop99 l (by omega), wrap_succ (by omega)]
      refine Ev.pos (by omega) (Ev.pos (by omega) (Ev.pos (by omega) ?_))
      simp only [qB]
      have := hs _ (mem99 l i (by omega))
      exact Ev.gate (fits_ev _) (fun _ => Ev.gateP (fun _ => Ev.gateN (fun _ => Ev.gate (fits_ev _) (fun _ => Ev.gate (folded_ev _ (by omega)) (fun _ => ih (i + 1) _ (by omega))))))
  unfold queue_Right.f
  have := loop l.length 0 (tailP l a) (by omega)
  rw [List.drop_zero] at this
  exact Ev.bind (tail_ev l o a b) this
theorem clone_is (l : List S99) (o : List S74) (a b : Int) (hs : smallQ l o) : Ev (fun _ => queue_clone.f l o a b) (l, o, a, b) := Ev.const (by unfold queue_clone.f; rw [if_pos hs])
theorem add_big (l : List S99) (o ws : List S74) (a b : Int) (hs : smallQ l o) (hw : o.length + ws.length ≤ 10000) (hq : qB o a b l (tailP l a) = true) (hb : b < 1099511627776) : Ev (fun k => queue_Add.f k l o a b ws) (l, foldW (o ++ ws), a, b + 1, 0) := by
  obtain ⟨b1, b2⟩ := (fitB_iff _).1 (qB_end hq).2
  unfold queue_Add.f
  refine Ev.bind (right_big l o a b hs) (Ev.pos hq ?_)
  rw [show (b == 1099511627776) = false from beq_eq_false_iff_ne.2 (by omega)]
  refine Ev.succ ?_
  simp only [queue_Add.j0]
  refine Ev.neg (by simp) (Ev.bind (clone_is l o a b hs) (Ev.bind (merge_ev o ws hw) ?_))
  rw [show wrap64 (b + 1) = b + 1 by unfold wrap64; omega]
  exact Ev.now _
theorem cut_big (l : List S99) (o : List S74) (a b : Int) (hs : smallQ l o) (hq : qB o a b l (tailP l a) = true) (hb : b ≠ a) : Ev (fun k => queue_Cut.f k l o a b) (l ++ [⟨a, b, o⟩], [], b, b, 0) := by
  unfold queue_Cut.f
  refine Ev.bind (right_big l o a b hs) (Ev.pos hq (Ev.neg hb (Ev.bind (clone_is l o a b hs) (Ev.pos (by have := hs.1; simp only; omega) (Ev.now _)))))
end Go.Proofs.Ythdhkoeaadahaaa.QBig
