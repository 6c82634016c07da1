-- PACKED by wip/kit/pack.py: what the law's proof uses of Px83 (printed words and texts of this seat)
import Derived.Test.YthdhkoeaadahaaaSPx0
import Derived.Test.YthdhkoeaadahaaaSPx13
namespace Go.Proofs.Ythdhkoeaadahaaa.P
open Go.RowKit Go.Proofs.YthdhkoeaadahaaaW.PrintWords Go.Proofs.YthdhkoeaadahaaaW.PrintLast Go.Proofs.YthdhkoeaadahaaaW.PrintMore
attribute [local go_sem] max2_int min2_int max_two min_two max_three min_three max_four min_four
set_option linter.unusedVariables false
set_option linter.unusedSimpArgs false
mutual
def counterfoilref12_Equal.j0 : Nat → Bool → List (S99) → List (S74) → Int → Int → List (S99) → List (S74) → Int → Int → Option (Bool)
  | 0, _, _, _, _, _, _, _, _, _ => none
  | k + 1, x34, x667000, x667001, x667002, x667003, x668000, x668001, x668002, x668003 => if x34 = true then (some false) else (counterfoilref12_Equal.l0 k 0 x667000 x667001 x667002 x667003 x668000 x668001 x668002 x668003)
def counterfoilref12_Equal.l0 : Nat → Int → List (S99) → List (S74) → Int → Int → List (S99) → List (S74) → Int → Int → Option (Bool)
  | 0, _, _, _, _, _, _, _, _, _ => none
  | k + 1, x5, x667000, x667001, x667002, x667003, x668000, x668001, x668002, x668003 => if x5 < (x667000.length : Int) then (if 0 ≤ x5 then (if x5 < (x668000.length : Int) then (if ((rd_T99 x667000 x5).f0) = ((rd_T99 x668000 x5).f0) then (if ((rd_T99 x667000 x5).f1) = ((rd_T99 x668000 x5).f1) then ((counterfoilref08_Equal.f k ((rd_T99 x667000 x5).f2) ((rd_T99 x668000 x5).f2)).bind fun t675 => (if t675 = true then (counterfoilref12_Equal.l0 k (wrap64 (x5 + 1)) x667000 x667001 x667002 x667003 x668000 x668001 x668002 x668003) else (some false))) else (some false)) else (some false)) else (none)) else (none)) else (some true)
end
end Go.Proofs.Ythdhkoeaadahaaa.P
