-- PACKED by wip/kit/pack.py: what the law's proof uses of FoldBase (printed words and texts of this seat)
import Derived.Test.YthdhkoeaadahaaaTEvBase
import Derived.Test.YthdhkoeaadahaaaTEFold
namespace Go.Proofs.Ythdhkoeaadahaaa.FoldCore
open Go.RowKit Go.Proofs.Ythdhkoeaadahaaa.P Go.Proofs.YthdhkoeaadahaaaW.PrintWords Go.Proofs.YthdhkoeaadahaaaW.PrintLast Go.Proofs.Ythdhkoeaadahaaa.SortCore
set_option linter.unusedVariables false
theorem eqvW {a b : S74} : eqv ltW a b = true ↔ a.f0 = b.f0 ∧ a.f1 = b.f1 := by rw [eqv_iff, ltW_false, ltW_false]; omega
theorem fold_ev (l : List S74) (h : l.length ≤ 10000) : Ev (fun _ => fold_Fold.f l) (foldW l) := Ev.const (by unfold fold_Fold.f; rw [if_pos (by omega)])
theorem foldW_length (l : List S74) : (foldW l).length ≤ l.length := fold_length l
end Go.Proofs.Ythdhkoeaadahaaa.FoldCore
