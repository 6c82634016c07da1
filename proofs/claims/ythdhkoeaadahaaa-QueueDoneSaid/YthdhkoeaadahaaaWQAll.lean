-- PACKED by wip/kit/pack.py: what the law's proof uses of QAll (printed words and texts of this seat)
import Derived.Test.YthdhkoeaadahaaaWQueueCore
import Derived.Test.YthdhkoeaadahaaaWDoneCore
import Derived.Test.YthdhkoeaadahaaaWMergeLaw
import Derived.Test.YthdhkoeaadahaaaWFoldBase
import Derived.Test.YthdhkoeaadahaaaWFoldedB
import Derived.Test.YthdhkoeaadahaaaWPx82
import Derived.Test.YthdhkoeaadahaaaWPx0
import Derived.Test.YthdhkoeaadahaaaWPx8
import Derived.Test.YthdhkoeaadahaaaWEQClone
import Derived.Test.YthdhkoeaadahaaaWPx90
import Derived.Test.YthdhkoeaadahaaaWPx9
namespace Go.Proofs.Ythdhkoeaadahaaa.QBig
open Go.RowKit Go.Proofs.Ythdhkoeaadahaaa.P Go.Proofs.Ythdhkoeaadahaaa.FoldCore Go.Proofs.Ythdhkoeaadahaaa.QueueCore Go.Proofs.Ythdhkoeaadahaaa.DoneCore Go.Proofs.YthdhkoeaadahaaaW.PrintWords Go.Proofs.YthdhkoeaadahaaaW.PrintLast Go.Proofs.Ythdhkoeaadahaaa.SortCore
set_option linter.unusedVariables false
theorem fold_more (x y : List S74) : foldW (foldW x ++ y) = foldW (x ++ y) := by
  have h1 := fold_append weakW (SortCore.fold ltW x) y
  have h2 := fold_append weakW x y
  rw [fold_fold weakW] at h1
  exact h1.symm.trans h2
theorem all_ev (l : List S99) (o : List S74) (a b : Int) (hl : l.length ≤ 20) (hs : smallL l) (ho : o.length ≤ 60) (hq : qB o a b l (tailP l a) = true) : Ev (fun k => queue_All.f k l o a b) (foldW (allW l ++ o)) := by
  have loop : ∀ (d i : Nat) (x : List S74), i + d = l.length → x.length ≤ 60 * i → Ev (fun k => queue_All.l0 k (foldW x) l (l.length : Int) (i : Int) l o a b) (foldW (x ++ (allW (l.drop i) ++ o))) := by
    intro d
    induction d with
    | zero =>
      intro i x hi hx
      have hf := foldW_length x
      refine Ev.succ ?_
      simp only [queue_All.l0]
      rw [List.drop_eq_nil_of_le (by omega), allW, List.nil_append, ← fold_more x o]
      exact Ev.neg (by omega) (Ev.bind (merge_ev (foldW x) o (by omega)) (Ev.now _))
    | succ d ih =>
      intro i x hi hx
      have hf := foldW_length x
      have hsi := hs i (by omega)
      have nx := ih (i + 1) (x ++ (rd_T99 l (i : Int)).f2) (by omega) (by rw [List.length_append]; omega)
      refine Ev.succ ?_
      simp only [queue_All.l0]
      rw [drop99 l (by omega), allW, wrap_succ (by omega)]
      rw [← fold_more x, List.append_assoc] at nx
      rw [List.append_assoc]
      exact Ev.pos (by omega) (Ev.pos (by omega) (Ev.pos (by omega) (Ev.bind (merge_ev (foldW x) _ (by omega)) nx)))
  have h0 := loop l.length 0 [] (by omega) (by simp)
  rw [List.drop_zero, List.nil_append] at h0
  unfold queue_All.f
  have hr := right_ev l o a b hl hs ho
  rw [hq] at hr
  exact Ev.bind hr (Ev.pos rfl h0)
theorem all_no (l : List S99) (o : List S74) (a b : Int) (hl : l.length ≤ 20) (hs : smallL l) (ho : o.length ≤ 60) (hq : qB o a b l (tailP l a) = false) : Ev (fun k => queue_All.f k l o a b) [] := by
  unfold queue_All.f
  have hr := right_ev l o a b hl hs ho
  rw [hq] at hr
  exact Ev.bind hr (Ev.neg (by simp) (Ev.now _))
theorem qtail_ev (l : List S99) (o : List S74) (a b : Int) (hl : l.length ≤ 20) (hs : smallL l) (ho : o.length ≤ 60) : Ev (fun k => queue_Tail.f k l o a b) (if qB o a b l (tailP l a) = true then tailP l a else 0) := by
  unfold queue_Tail.f
  refine Ev.bind (right_ev l o a b hl hs ho) ?_
  cases qB o a b l (tailP l a) with
  | true => exact Ev.pos rfl (Ev.bind (tail_ev l o a b) (Ev.now _))
  | false => exact Ev.neg (by simp) (Ev.now _)
end Go.Proofs.Ythdhkoeaadahaaa.QBig
