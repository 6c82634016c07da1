-- PACKED by wip/kit/pack.py: what the law's proof uses of Px4 (printed words and texts of this seat)
import Derived.Test.YthdhkoeaadahaaaTPx0
import Derived.Test.YthdhkoeaadahaaaTPx5
import Derived.Test.YthdhkoeaadahaaaTPx8
import Derived.Test.YthdhkoeaadahaaaTPx9
namespace Go.Proofs.Ythdhkoeaadahaaa.P
open Go.RowKit Go.Proofs.YthdhkoeaadahaaaW.PrintWords Go.Proofs.YthdhkoeaadahaaaW.PrintLast Go.Proofs.YthdhkoeaadahaaaW.PrintMore
attribute [local go_sem] max2_int min2_int max_two min_two max_three min_three max_four min_four
set_option linter.unusedVariables false
set_option linter.unusedSimpArgs false
mutual
def lag_Judge.j0 : Nat → List (S74) → Bool → Int → Int → Bool → List (S99) → List (S74) → Int → Int → Option (Int)
  | 0, _, _, _, _, _, _, _, _, _ => none
  | k + 1, x2, x16, x140000, x140001, x140002, x141000, x141001, x141002, x141003 => if x16 = true then (some 0) else ((queue_Load.f k x141000 x141001 x141002 x141003).bind fun bt143 => (if bt143.1 < x140000 then ((fold_Bytes.f k x2).bind fun t145 => (lag_Judge.j1 k (decide ((wrap64 (bt143.2 + t145)) ≤ x140001)) x140000 x140001 x140002)) else (lag_Judge.j1 k false x140000 x140001 x140002)))
def lag_Judge.j1 : Nat → Bool → Int → Int → Bool → Option (Int)
  | 0, _, _, _, _ => none
  | k + 1, x22, x140000, x140001, x140002 => if x22 = true then (some 1) else (if x140002 = true then (some 2) else (some 3))
end
end Go.Proofs.Ythdhkoeaadahaaa.P
