/- The blocks that writes name: the package's answer and the reference's are one. -/
import Derived.Test.YthdhkoeaadahaaaFoldPure
import Derived.Test.YthdhkoeaadahaaaPx57
namespace Go.Proofs.Ythdhkoeaadahaaa.FoldCore
open Go.RowKit Go.Proofs.Ythdhkoeaadahaaa.P Go.Proofs.YthdhkoeaadahaaaW.PrintWords Go.Proofs.YthdhkoeaadahaaaW.PrintLast Go.Proofs.Ythdhkoeaadahaaa.SortCore
set_option linter.unusedVariables false

def markOf (x : S74) : S124 := ⟨x.f0, x.f1⟩
theorem drop_rd74 (l : List S74) {i : Nat} (h : i < l.length) : l.drop i = rd_T74 l (i : Int) :: l.drop (i + 1) := by
  rw [rdj l i h]; exact List.drop_eq_getElem_cons h
theorem marks_ev (l : List S74) (h : l.length ≤ 10000) : Ev (fun k => fold_Marks.f k l) ((foldW l).map markOf) := by
  have hlen := foldW_length l
  have loop : ∀ (d i : Nat) (o : List S124), i + d = (foldW l).length → o.length = i → Ev (fun k => fold_Marks.l0 k o (foldW l) ((foldW l).length : Int) (i : Int)) (o ++ ((foldW l).drop i).map markOf) := by
    intro d
    induction d with
    | zero =>
      intro i o hi ho
      refine Ev.succ ?_
      simp only [fold_Marks.l0]
      rw [List.drop_eq_nil_of_le (by omega), List.map_nil, List.append_nil]
      exact Ev.neg (by omega) (Ev.now _)
    | succ d ih =>
      intro i o hi ho
      refine Ev.succ ?_
      simp only [fold_Marks.l0]
      rw [wrap_succ (by omega)]
      have := ih (i + 1) (o ++ [markOf (rd_T74 (foldW l) (i : Int))]) (by omega) (by simp; omega)
      rw [List.append_assoc, List.singleton_append, ← List.map_cons, ← drop_rd74 _ (by omega)] at this
      exact Ev.pos (by omega) (Ev.pos (by omega) (Ev.pos (by omega) (Ev.pos (by omega) this)))
  unfold fold_Marks.f
  refine Ev.bind (fold_ev l h) ?_
  have := loop (foldW l).length 0 [] (by omega) rfl
  rw [List.drop_zero, List.nil_append] at this
  exact this
end Go.Proofs.Ythdhkoeaadahaaa.FoldCore
