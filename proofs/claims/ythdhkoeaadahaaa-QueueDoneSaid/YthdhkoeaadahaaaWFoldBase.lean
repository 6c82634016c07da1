-- PACKED by wip/kit/pack.py: what the law's proof uses of FoldBase (printed words and texts of this seat)
import Derived.Test.YthdhkoeaadahaaaWEvBase
import Derived.Test.YthdhkoeaadahaaaWEFold
namespace Go.Proofs.Ythdhkoeaadahaaa.FoldCore
open Go.RowKit Go.Proofs.Ythdhkoeaadahaaa.P Go.Proofs.YthdhkoeaadahaaaW.PrintWords Go.Proofs.YthdhkoeaadahaaaW.PrintLast Go.Proofs.Ythdhkoeaadahaaa.SortCore
set_option linter.unusedVariables false
theorem eqvW {a b : S74} : eqv ltW a b = true ↔ a.f0 = b.f0 ∧ a.f1 = b.f1 := by rw [eqv_iff, ltW_false, ltW_false]; omega
theorem bytes_eqW {s t : ByteArray} (h : s.toList = t.toList) : s = t := by
  refine ByteArray.ext (Array.ext' ?_)
  rw [← ByteArray.toList_eq, ← ByteArray.toList_eq]; exact h
theorem eq74 {a b : S74} (h0 : a.f0 = b.f0) (h1 : a.f1 = b.f1) (h2 : a.f2 = b.f2) : a = b := by
  cases a; cases b; simp_all
theorem fold_ev (l : List S74) (h : l.length ≤ 10000) : Ev (fun _ => fold_Fold.f l) (foldW l) := Ev.const (by unfold fold_Fold.f; rw [if_pos (by omega)])
theorem foldW_length (l : List S74) : (foldW l).length ≤ l.length := fold_length l
end Go.Proofs.Ythdhkoeaadahaaa.FoldCore
