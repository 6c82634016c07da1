-- PACKED by wip/kit/pack.py: what the law's proof uses of Px13 (printed words and texts of this seat)
import Derived.Test.YthdhkoeaadahaaaSPx0
import Derived.Test.YthdhkoeaadahaaaSPx1
namespace Go.Proofs.Ythdhkoeaadahaaa.P
open Go.RowKit Go.Proofs.YthdhkoeaadahaaaW.PrintWords Go.Proofs.YthdhkoeaadahaaaW.PrintLast Go.Proofs.YthdhkoeaadahaaaW.PrintMore
attribute [local go_sem] max2_int min2_int max_two min_two max_three min_three max_four min_four
set_option linter.unusedVariables false
set_option linter.unusedSimpArgs false
attribute [local go_sem high] eqA74
def counterfoilref08_Equal.l0 : Nat → List (S74) → List (S74) → Int → Option (Bool)
 | 0, _, _, _ => none
 | k + 1, x0, x1, x5 => if x5 < (x0.length : Int) then (if 0 ≤ x5 then (if x5 < (x1.length : Int) then (if (!(((rd_T74 x0 x5).f0) == ((rd_T74 x1 x5).f0)) || (!(((rd_T74 x0 x5).f1) == ((rd_T74 x1 x5).f1)) || (!((((rd_T74 x0 x5).f2).toList) == (((rd_T74 x1 x5).f2).toList))))) = true then (some false) else (counterfoilref08_Equal.l0 k x0 x1 (wrap64 (x5 + 1)))) else (none)) else (none)) else (some true)
def counterfoilref08_Equal.f (k : Nat) (l0 : List (S74)) (l1 : List (S74)) : Option (Bool) := if (l0.length : Int) = (l1.length : Int) then (counterfoilref08_Equal.l0 k l0 l1 0) else (some false)
def counterfoilref08_less.f (a0_0 : Int) (a0_1 : Int) (a0_2 : ByteArray) (a1_0 : Int) (a1_1 : Int) (a1_2 : ByteArray) : Option (Bool) := if a0_0 < a1_0 then (some true) else (if a0_0 = a1_0 then (some (decide (a0_1 < a1_1))) else (some false))
mutual
def counterfoilref08_Fold.l0 : Nat → List (S74) → List (S74) → Option ((List (S74)))
 | 0, _, _ => none
 | k + 1, x0, x3 => counterfoilref08_Fold.l1 k x0 x3 (-1) 0
def counterfoilref08_Fold.l1 : Nat → List (S74) → List (S74) → Int → Int → Option ((List (S74)))
 | 0, _, _, _, _ => none
 | k + 1, x0, x3, x4, x5 => if x5 < (x0.length : Int) then (if (x3.length : Int) > 0 then (if 0 ≤ (wrap64 ((x3.length : Int) - 1)) then (if (wrap64 ((x3.length : Int) - 1)) < (x3.length : Int) then (if 0 ≤ x5 then ((counterfoilref08_less.f ((rd_T74 x3 (wrap64 ((x3.length : Int) - 1))).f0) ((rd_T74 x3 (wrap64 ((x3.length : Int) - 1))).f1) ((rd_T74 x3 (wrap64 ((x3.length : Int) - 1))).f2) ((rd_T74 x0 x5).f0) ((rd_T74 x0 x5).f1) ((rd_T74 x0 x5).f2)).bind fun t167 => (counterfoilref08_Fold.j2 k x0 x3 x4 x5 (!t167))) else (none)) else (none)) else (none)) else (counterfoilref08_Fold.j2 k x0 x3 x4 x5 false)) else (if x4 < 0 then (some x3) else (if 0 ≤ x4 then (if x4 < (x0.length : Int) then (if x3.length < 4398046511104 then (counterfoilref08_Fold.l0 k x0 (x3 ++ [(⟨(rd_T74 x0 x4).f0, (rd_T74 x0 x4).f1, (rd_T74 x0 x4).f2⟩ : S74)])) else (none)) else (none)) else (none)))
def counterfoilref08_Fold.j2 : Nat → List (S74) → List (S74) → Int → Int → Bool → Option ((List (S74)))
 | 0, _, _, _, _, _ => none
 | k + 1, x0, x3, x4, x5, x28 => if x28 = true then (counterfoilref08_Fold.l1 k x0 x3 x4 (wrap64 (x5 + 1))) else (if x4 < 0 then (counterfoilref08_Fold.l1 k x0 x3 x5 (wrap64 (x5 + 1))) else (if 0 ≤ x4 then (if x4 < (x0.length : Int) then (if 0 ≤ x5 then (if x5 < (x0.length : Int) then ((counterfoilref08_less.f ((rd_T74 x0 x4).f0) ((rd_T74 x0 x4).f1) ((rd_T74 x0 x4).f2) ((rd_T74 x0 x5).f0) ((rd_T74 x0 x5).f1) ((rd_T74 x0 x5).f2)).bind fun t170 => (if t170 = true then (counterfoilref08_Fold.l1 k x0 x3 x4 (wrap64 (x5 + 1))) else (counterfoilref08_Fold.l1 k x0 x3 x5 (wrap64 (x5 + 1))))) else (none)) else (none)) else (none)) else (none)))
end
def counterfoilref08_Fold.f (k : Nat) (l0 : List (S74)) : Option ((List (S74))) := counterfoilref08_Fold.l0 k l0 ([] : List (S74))
def counterfoilref12_folded.f (k : Nat) (l0 : List (S74)) : Option (Bool) := (counterfoilref08_Fold.f k l0).bind fun t171 => ((counterfoilref08_Equal.f k l0 t171).bind fun t174 => (some t174))
end Go.Proofs.Ythdhkoeaadahaaa.P
