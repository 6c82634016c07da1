-- PACKED by wip/kit/pack.py: what the law's proof uses of FoldedB (printed words and texts of this seat)
import Derived.Test.YthdhkoeaadahaaaTFoldedCore
import Derived.Test.YthdhkoeaadahaaaTFoldBase
namespace Go.Proofs.Ythdhkoeaadahaaa.FoldCore
open Go.RowKit Go.Proofs.Ythdhkoeaadahaaa.P Go.Proofs.YthdhkoeaadahaaaW.PrintWords Go.Proofs.YthdhkoeaadahaaaW.PrintLast Go.Proofs.Ythdhkoeaadahaaa.SortCore
set_option linter.unusedVariables false
theorem adj_pairwise {r : List S74} : Adj r ↔ r.Pairwise (fun a b => ltW a b = true) := by
  rw [List.pairwise_iff_getElem]
  constructor
  · intro h i j hi hj hij
    have := h.lt hij hj
    rw [rdj r i hi, rdj r j hj] at this
    exact ltW_iff.2 this
  · intro h j hj
    rw [rdj r j (by omega), rdj r (j + 1) hj]
    exact ltW_iff.1 (h j (j + 1) (by omega) hj (by omega))
end Go.Proofs.Ythdhkoeaadahaaa.FoldCore
