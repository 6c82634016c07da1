-- PACKED by wip/kit/pack.py: what the law's proof uses of Px44 (printed words and texts of this seat)
import Derived.Test.YthdhkoeaadahaaaSPx0
namespace Go.Proofs.Ythdhkoeaadahaaa.P
open Go.RowKit Go.Proofs.YthdhkoeaadahaaaW.PrintWords Go.Proofs.YthdhkoeaadahaaaW.PrintLast Go.Proofs.YthdhkoeaadahaaaW.PrintMore
attribute [local go_sem] max2_int min2_int max_two min_two max_three min_three max_four min_four
set_option linter.unusedVariables false
set_option linter.unusedSimpArgs false
mutual
def counterfoilref07_Equal.l0 : Nat → List (S49) → List (S49) → Int → Option (Bool)
  | 0, _, _, _ => none
  | k + 1, x0, x1, x5 => if x5 < (x0.length : Int) then (if 0 ≤ x5 then (if x5 < (x1.length : Int) then (if ((rd_T49 x0 x5).f0) = ((rd_T49 x1 x5).f0) then (counterfoilref07_Equal.j1 k x0 x1 x5 ((((rd_T49 x0 x5).f1).length : Int) != (((rd_T49 x1 x5).f1).length : Int))) else (counterfoilref07_Equal.j1 k x0 x1 x5 true)) else (none)) else (none)) else (some true)
def counterfoilref07_Equal.j1 : Nat → List (S49) → List (S49) → Int → Bool → Option (Bool)
  | 0, _, _, _, _ => none
  | k + 1, x0, x1, x5, x43 => if x43 = true then (some false) else (counterfoilref07_Equal.l1 k x0 x1 x5 0)
def counterfoilref07_Equal.l1 : Nat → List (S49) → List (S49) → Int → Int → Option (Bool)
  | 0, _, _, _, _ => none
  | k + 1, x0, x1, x5, x6 => if 0 ≤ x5 then (if x5 < (x0.length : Int) then (if x6 < (((rd_T49 x0 x5).f1).length : Int) then (if 0 ≤ x6 then (if x5 < (x1.length : Int) then (if x6 < (((rd_T49 x1 x5).f1).length : Int) then (if (rdOf ByteArray.empty ((rd_T49 x0 x5).f1) x6).toList = (rdOf ByteArray.empty ((rd_T49 x1 x5).f1) x6).toList then (counterfoilref07_Equal.l1 k x0 x1 x5 (wrap64 (x6 + 1))) else (some false)) else (none)) else (none)) else (none)) else (counterfoilref07_Equal.l0 k x0 x1 (wrap64 (x5 + 1)))) else (none)) else (none)
end
end Go.Proofs.Ythdhkoeaadahaaa.P
