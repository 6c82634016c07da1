-- PACKED by wip/kit/pack.py: what the law's proof uses of BytesCore (printed words and texts of this seat)
import Derived.Test.YthdhkoeaadahaaaVFoldCore
import Derived.Test.YthdhkoeaadahaaaVPx5
namespace Go.Proofs.Ythdhkoeaadahaaa.FoldCore
open Go.RowKit Go.Proofs.Ythdhkoeaadahaaa.P Go.Proofs.YthdhkoeaadahaaaW.PrintWords Go.Proofs.YthdhkoeaadahaaaW.PrintLast
set_option linter.unusedVariables false
def bytesS : List S74 → Int
  | [] => 0
  | x :: r => 8 + (x.f2.size : Int) + bytesS r
theorem bytesS_nn : ∀ l, 0 ≤ bytesS l
  | [] => Int.le_refl _
  | x :: r => by have := bytesS_nn r; unfold bytesS; omega
theorem bytesS_app : ∀ l m, bytesS (l ++ m) = bytesS l + bytesS m
  | [], m => by simp [bytesS]
  | x :: r, m => by have := bytesS_app r m; rw [List.cons_append, bytesS, bytesS, this]; omega
end Go.Proofs.Ythdhkoeaadahaaa.FoldCore
