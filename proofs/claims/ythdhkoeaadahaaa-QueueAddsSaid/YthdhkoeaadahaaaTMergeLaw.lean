-- PACKED by wip/kit/pack.py: what the law's proof uses of MergeLaw (printed words and texts of this seat)
import Derived.Test.YthdhkoeaadahaaaTFoldBase
import Derived.Test.YthdhkoeaadahaaaTPx11
namespace Go.Proofs.Ythdhkoeaadahaaa.FoldCore
open Go.RowKit Go.Proofs.Ythdhkoeaadahaaa.P Go.Proofs.YthdhkoeaadahaaaW.PrintWords Go.Proofs.YthdhkoeaadahaaaW.PrintLast Go.Proofs.Ythdhkoeaadahaaa.SortCore
set_option linter.unusedVariables false
theorem merge_ev (a b : List S74) (h : a.length + b.length ≤ 10000) : Ev (fun _ => fold_Merge.f a b) (foldW (a ++ b)) := by
  unfold fold_Merge.f
  refine Ev.bind (Ev.const (r := a ++ b) ?_) (Ev.bind (fold_ev (a ++ b) (by rw [List.length_append]; exact h)) (Ev.now _))
  show (if a.length + b.length ≤ 100000 then some (a ++ b) else none) = some (a ++ b)
  exact if_pos (by omega)
end Go.Proofs.Ythdhkoeaadahaaa.FoldCore
