-- PACKED by wip/kit/pack.py: what the law's proof uses of Px3 (printed words and texts of this seat)
import Derived.Test.YthdhkoeaadahaaaSPx0
namespace Go.Proofs.Ythdhkoeaadahaaa.P
open Go.RowKit Go.Proofs.YthdhkoeaadahaaaW.PrintWords Go.Proofs.YthdhkoeaadahaaaW.PrintLast Go.Proofs.YthdhkoeaadahaaaW.PrintMore
attribute [local go_sem] max2_int min2_int max_two min_two max_three min_three max_four min_four
set_option linter.unusedVariables false
set_option linter.unusedSimpArgs false
mutual
def counterfoilref12_Small.j0 : Nat → Bool → List (S99) → List (S74) → Int → Int → Option (Bool)
 | 0, _, _, _, _, _ => none
 | k + 1, x13, x102000, x102001, x102002, x102003 => if x13 = true then (some false) else (counterfoilref12_Small.l0 k 0 x102000 x102001 x102002 x102003)
def counterfoilref12_Small.l0 : Nat → Int → List (S99) → List (S74) → Int → Int → Option (Bool)
 | 0, _, _, _, _, _ => none
 | k + 1, x3, x102000, x102001, x102002, x102003 => if x3 < (x102000.length : Int) then (if 0 ≤ x3 then (if (((rd_T99 x102000 x3).f2).length : Int) > 60 then (some false) else (counterfoilref12_Small.l0 k (wrap64 (x3 + 1)) x102000 x102001 x102002 x102003)) else (none)) else (some true)
end
def counterfoilref12_Small.f (k : Nat) (l0_0 : List (S99)) (l0_1 : List (S74)) (a0_2 : Int) (a0_3 : Int) : Option (Bool) := if (l0_0.length : Int) > 20 then (counterfoilref12_Small.j0 k true l0_0 l0_1 a0_2 a0_3) else (counterfoilref12_Small.j0 k (decide ((l0_1.length : Int) > 60)) l0_0 l0_1 a0_2 a0_3)
end Go.Proofs.Ythdhkoeaadahaaa.P
