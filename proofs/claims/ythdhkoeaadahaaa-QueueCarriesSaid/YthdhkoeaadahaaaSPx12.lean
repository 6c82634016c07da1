-- PACKED by wip/kit/pack.py: what the law's proof uses of Px12 (printed words and texts of this seat)
import Derived.Test.YthdhkoeaadahaaaSPx0
import Derived.Test.YthdhkoeaadahaaaSPx13
namespace Go.Proofs.Ythdhkoeaadahaaa.P
open Go.RowKit Go.Proofs.YthdhkoeaadahaaaW.PrintWords Go.Proofs.YthdhkoeaadahaaaW.PrintLast Go.Proofs.YthdhkoeaadahaaaW.PrintMore
attribute [local go_sem] max2_int min2_int max_two min_two max_three min_three max_four min_four
set_option linter.unusedVariables false
set_option linter.unusedSimpArgs false
def counterfoilref12_fits.f (a0 : Int) : Option (Bool) := if a0 ≥ 0 then (some (decide (a0 ≤ 1099511627776))) else (some false)
mutual
def counterfoilref12_Right.l0 : Nat → Int → Int → List (S99) → List (S74) → Int → Int → Option (Bool)
 | 0, _, _, _, _, _, _ => none
 | k + 1, x3, x4, x176000, x176001, x176002, x176003 => if x4 < x3 then (if 0 ≤ x4 then (if x4 < (x176000.length : Int) then ((counterfoilref12_fits.f ((rd_T99 x176000 x4).f0)).bind fun t178 => (if t178 = true then ((counterfoilref12_fits.f ((rd_T99 x176000 x4).f1)).bind fun t179 => (if t179 = true then (if ((rd_T99 x176000 x4).f0) ≥ ((rd_T99 x176000 x4).f1) then (counterfoilref12_Right.j1 k x3 x4 true x176000 x176001 x176002 x176003 ((rd_T99 x176000 x4).f0) ((rd_T99 x176000 x4).f1) ((rd_T99 x176000 x4).f2)) else ((counterfoilref12_folded.f k ((rd_T99 x176000 x4).f2)).bind fun t180 => (counterfoilref12_Right.j1 k x3 x4 (!t180) x176000 x176001 x176002 x176003 ((rd_T99 x176000 x4).f0) ((rd_T99 x176000 x4).f1) ((rd_T99 x176000 x4).f2)))) else (counterfoilref12_Right.j1 k x3 x4 true x176000 x176001 x176002 x176003 ((rd_T99 x176000 x4).f0) ((rd_T99 x176000 x4).f1) ((rd_T99 x176000 x4).f2)))) else (counterfoilref12_Right.j1 k x3 x4 true x176000 x176001 x176002 x176003 ((rd_T99 x176000 x4).f0) ((rd_T99 x176000 x4).f1) ((rd_T99 x176000 x4).f2)))) else (none)) else (none)) else (if x3 > 0 then (if 0 ≤ (wrap64 (x3 - 1)) then (if (wrap64 (x3 - 1)) < (x176000.length : Int) then (counterfoilref12_Right.j2 k (((rd_T99 x176000 (wrap64 (x3 - 1))).f1) != x176002) x176000 x176001 x176002 x176003) else (none)) else (none)) else (counterfoilref12_Right.j2 k false x176000 x176001 x176002 x176003))
def counterfoilref12_Right.j1 : Nat → Int → Int → Bool → List (S99) → List (S74) → Int → Int → Int → Int → List (S74) → Option (Bool)
 | 0, _, _, _, _, _, _, _, _, _, _ => none
 | k + 1, x3, x4, x41, x176000, x176001, x176002, x176003, x178000, x178001, x178002 => if x41 = true then (some false) else (if x4 > 0 then (if 0 ≤ (wrap64 (x4 - 1)) then (if (wrap64 (x4 - 1)) < (x176000.length : Int) then (if ((rd_T99 x176000 (wrap64 (x4 - 1))).f1) = x178000 then (counterfoilref12_Right.l0 k x3 (wrap64 (x4 + 1)) x176000 x176001 x176002 x176003) else (some false)) else (none)) else (none)) else (counterfoilref12_Right.l0 k x3 (wrap64 (x4 + 1)) x176000 x176001 x176002 x176003))
def counterfoilref12_Right.j2 : Nat → Bool → List (S99) → List (S74) → Int → Int → Option (Bool)
 | 0, _, _, _, _, _ => none
 | k + 1, x69, x176000, x176001, x176002, x176003 => if x69 = true then (some false) else ((counterfoilref12_fits.f x176002).bind fun t183 => (if t183 = true then ((counterfoilref12_fits.f x176003).bind fun t184 => (if t184 = true then (if x176002 > x176003 then (some false) else ((counterfoilref12_folded.f k x176001).bind fun t185 => (if t185 = true then (if x176002 < x176003 then (some true) else (some ((x176001.length : Int) == 0))) else (some false)))) else (some false))) else (some false)))
end
end Go.Proofs.Ythdhkoeaadahaaa.P
