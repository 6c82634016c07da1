-- PACKED by wip/kit/pack.py: what the law's proof uses of Px83 (printed words and texts of this seat)
import Derived.Test.YthdhkoeaadahaaaWPx0
import Derived.Test.YthdhkoeaadahaaaWPx13
namespace Go.Proofs.Ythdhkoeaadahaaa.P
open Go.RowKit Go.Proofs.YthdhkoeaadahaaaW.PrintWords Go.Proofs.YthdhkoeaadahaaaW.PrintLast Go.Proofs.YthdhkoeaadahaaaW.PrintMore
attribute [local go_sem] max2_int min2_int max_two min_two max_three min_three max_four min_four
set_option linter.unusedVariables false
set_option linter.unusedSimpArgs false
mutual
def counterfoilref12_Equal.j0 : Nat → Bool → List (S99) → List (S74) → Int → Int → List (S99) → List (S74) → Int → Int → Option (Bool)
 | 0, _, _, _, _, _, _, _, _, _ => none
 | k + 1, x34, x639000, x639001, x639002, x639003, x640000, x640001, x640002, x640003 => if x34 = true then (some false) else (counterfoilref12_Equal.l0 k 0 x639000 x639001 x639002 x639003 x640000 x640001 x640002 x640003)
def counterfoilref12_Equal.l0 : Nat → Int → List (S99) → List (S74) → Int → Int → List (S99) → List (S74) → Int → Int → Option (Bool)
 | 0, _, _, _, _, _, _, _, _, _ => none
 | k + 1, x5, x639000, x639001, x639002, x639003, x640000, x640001, x640002, x640003 => if x5 < (x639000.length : Int) then (if 0 ≤ x5 then (if x5 < (x640000.length : Int) then (if ((rd_T99 x639000 x5).f0) = ((rd_T99 x640000 x5).f0) then (if ((rd_T99 x639000 x5).f1) = ((rd_T99 x640000 x5).f1) then ((counterfoilref08_Equal.f k ((rd_T99 x639000 x5).f2) ((rd_T99 x640000 x5).f2)).bind fun t647 => (if t647 = true then (counterfoilref12_Equal.l0 k (wrap64 (x5 + 1)) x639000 x639001 x639002 x639003 x640000 x640001 x640002 x640003) else (some false))) else (some false)) else (some false)) else (none)) else (none)) else (some true)
end
def counterfoilref12_Equal.f (k : Nat) (l0_0 : List (S99)) (l0_1 : List (S74)) (a0_2 : Int) (a0_3 : Int) (l1_0 : List (S99)) (l1_1 : List (S74)) (a1_2 : Int) (a1_3 : Int) : Option (Bool) := if (l0_0.length : Int) = (l1_0.length : Int) then (if a0_2 = a1_2 then (if a0_3 = a1_3 then ((counterfoilref08_Equal.f k l0_1 l1_1).bind fun t640 => (counterfoilref12_Equal.j0 k (!t640) l0_0 l0_1 a0_2 a0_3 l1_0 l1_1 a1_2 a1_3)) else (counterfoilref12_Equal.j0 k true l0_0 l0_1 a0_2 a0_3 l1_0 l1_1 a1_2 a1_3)) else (counterfoilref12_Equal.j0 k true l0_0 l0_1 a0_2 a0_3 l1_0 l1_1 a1_2 a1_3)) else (counterfoilref12_Equal.j0 k true l0_0 l0_1 a0_2 a0_3 l1_0 l1_1 a1_2 a1_3)
def counterfoilref12_Equal.T6 : Bool × List (List Nat × List Nat) := (true, [([], []), ([0], [0]), ([], []), ([1, 2], [1, 2]), ([3], [3]), ([4], [4]), ([], []), ([6], [6]), ([], []), ([7, 8], [7, 8]), ([9], [9]), ([10], [10]), ([5, 11], [5, 11]), ([12], [12]), ([13], [13]), ([14, 13], [13, 14]), ([13], [13]), ([15, 16, 13], [13, 15, 16]), ([17, 13], [13, 17]), ([18, 13], [13, 18]), ([13], [13]), ([20, 13], [13, 20]), ([13], [13]), ([21, 22, 13], [13, 21, 22]), ([23, 13], [13, 23]), ([24, 13], [13, 24]), ([19, 25, 13], [13, 19, 25]), ([13, 26], [13, 26]), ([27, 13], [27]), ([28], [28]), ([29, 28], [28, 29]), ([28], [28]), ([30, 31, 28], [28, 30, 31]), ([32, 28], [28, 32]), ([33, 28], [28, 33]), ([28], [28]), ([35, 28], [28, 35]), ([28], [28]), ([36, 37, 28], [28, 36, 37]), ([38, 28], [28, 38]), ([39, 28], [28, 39]), ([34, 40, 28, 28], [28, 34, 40]), ([41, 28], [28, 41]), ([28, 42], [28, 42])])
def counterfoilref12_Equal.B6 : List Nat := [0, 1, 0, 7, 15, 31, 0, 64, 0, 448, 960, 1984, 4095, 8191, 16383, 32767, 16383, 131071, 262143, 524287, 16383, 1064959, 16383, 7356415, 15745023, 32522239, 67108863, 134217727, 268435455, 536870911, 1073741823, 536870911, 4294967295, 8589934591, 17179869183, 536870911, 34896609279, 536870911, 241055039487, 515932946431, 1065688760319, 2199023255551, 4398046511103, 8796093022207]
theorem counterfoilref12_Equal.tab6 : rtab .any (opsOf Try.f72 6) = counterfoilref12_Equal.T6 := by kernel_rfl
theorem counterfoilref12_Equal.bits6 : waitsOk counterfoilref12_Equal.T6.2 counterfoilref12_Equal.B6 = true := by kernel_rfl
theorem A0q83_ {p : Prop} (h : p) : Aside0 p := ⟨h⟩
theorem z1q83_ {α : Type} (l : List α) (i : Nat) (a : α) : l.toArray.setIfInBounds i a = (l.set i a).toArray := List.setIfInBounds_toArray l i a
theorem z2q83_ {α : Type} {x : α} {xs : List α} {a : α} : (x :: xs).set 0 a = a :: xs := List.set_cons_zero
theorem z3q83_ {α : Type} {x : α} {xs : List α} {n : Nat} {a : α} : (x :: xs).set (n + 1) a = x :: xs.set n a := List.set_cons_succ
abbrev mk0q83_ : Array Bool := #[false, false, false, false, false, false, false, false, false, false, false, false, false, false, false, false, false, false, false, false, false, false, false, false, false, false, false, false, false, false, false, false, false, false, false, false, false, false, false, false, false, false, false, false]
abbrev mk1q83_ : Array Bool := #[true, false, false, false, false, false, false, false, false, false, false, false, false, false, false, false, false, false, false, false, false, false, false, false, false, false, false, false, false, false, false, false, false, false, false, false, false, false, false, false, false, false, false, false]
abbrev mk2q83_ : Array Bool := #[true, false, true, false, false, false, false, false, false, false, false, false, false, false, false, false, false, false, false, false, false, false, false, false, false, false, false, false, false, false, false, false, false, false, false, false, false, false, false, false, false, false, false, false]
abbrev mk3q83_ : Array Bool := #[true, false, true, false, false, false, true, false, false, false, false, false, false, false, false, false, false, false, false, false, false, false, false, false, false, false, false, false, false, false, false, false, false, false, false, false, false, false, false, false, false, false, false, false]
abbrev mk4q83_ : Array Bool := #[true, false, true, false, false, false, true, false, true, false, false, false, false, false, false, false, false, false, false, false, false, false, false, false, false, false, false, false, false, false, false, false, false, false, false, false, false, false, false, false, false, false, false, false]
abbrev mk5q83_ : Array Bool := #[true, true, true, false, false, false, true, false, true, false, false, false, false, false, false, false, false, false, false, false, false, false, false, false, false, false, false, false, false, false, false, false, false, false, false, false, false, false, false, false, false, false, false, false]
abbrev mk6q83_ : Array Bool := #[true, true, true, true, false, false, true, false, true, false, false, false, false, false, false, false, false, false, false, false, false, false, false, false, false, false, false, false, false, false, false, false, false, false, false, false, false, false, false, false, false, false, false, false]
abbrev mk7q83_ : Array Bool := #[true, true, true, true, true, false, true, false, true, false, false, false, false, false, false, false, false, false, false, false, false, false, false, false, false, false, false, false, false, false, false, false, false, false, false, false, false, false, false, false, false, false, false, false]
abbrev mk8q83_ : Array Bool := #[true, true, true, true, true, true, true, false, true, false, false, false, false, false, false, false, false, false, false, false, false, false, false, false, false, false, false, false, false, false, false, false, false, false, false, false, false, false, false, false, false, false, false, false]
abbrev mk9q83_ : Array Bool := #[true, true, true, true, true, true, true, true, true, false, false, false, false, false, false, false, false, false, false, false, false, false, false, false, false, false, false, false, false, false, false, false, false, false, false, false, false, false, false, false, false, false, false, false]
abbrev mk10q83_ : Array Bool := #[true, true, true, true, true, true, true, true, true, true, false, false, false, false, false, false, false, false, false, false, false, false, false, false, false, false, false, false, false, false, false, false, false, false, false, false, false, false, false, false, false, false, false, false]
abbrev mk11q83_ : Array Bool := #[true, true, true, true, true, true, true, true, true, true, true, false, false, false, false, false, false, false, false, false, false, false, false, false, false, false, false, false, false, false, false, false, false, false, false, false, false, false, false, false, false, false, false, false]
abbrev mk12q83_ : Array Bool := #[true, true, true, true, true, true, true, true, true, true, true, true, false, false, false, false, false, false, false, false, false, false, false, false, false, false, false, false, false, false, false, false, false, false, false, false, false, false, false, false, false, false, false, false]
abbrev mk13q83_ : Array Bool := #[true, true, true, true, true, true, true, true, true, true, true, true, true, false, false, false, false, false, false, false, false, false, false, false, false, false, false, false, false, false, false, false, false, false, false, false, false, false, false, false, false, false, false, false]
abbrev mk14q83_ : Array Bool := #[true, true, true, true, true, true, true, true, true, true, true, true, true, true, false, false, false, false, false, false, false, false, false, false, false, false, false, false, false, false, false, false, false, false, false, false, false, false, false, false, false, false, false, false]
abbrev mk15q83_ : Array Bool := #[true, true, true, true, true, true, true, true, true, true, true, true, true, true, true, false, false, false, false, false, false, false, false, false, false, false, false, false, false, false, false, false, false, false, false, false, false, false, false, false, false, false, false, false]
abbrev mk16q83_ : Array Bool := #[true, true, true, true, true, true, true, true, true, true, true, true, true, true, true, false, true, false, false, false, false, false, false, false, false, false, false, false, false, false, false, false, false, false, false, false, false, false, false, false, false, false, false, false]
abbrev mk17q83_ : Array Bool := #[true, true, true, true, true, true, true, true, true, true, true, true, true, true, true, false, true, false, false, false, true, false, false, false, false, false, false, false, false, false, false, false, false, false, false, false, false, false, false, false, false, false, false, false]
abbrev mk18q83_ : Array Bool := #[true, true, true, true, true, true, true, true, true, true, true, true, true, true, true, false, true, false, false, false, true, false, true, false, false, false, false, false, false, false, false, false, false, false, false, false, false, false, false, false, false, false, false, false]
abbrev mk19q83_ : Array Bool := #[true, true, true, true, true, true, true, true, true, true, true, true, true, true, true, true, true, false, false, false, true, false, true, false, false, false, false, false, false, false, false, false, false, false, false, false, false, false, false, false, false, false, false, false]
abbrev mk20q83_ : Array Bool := #[true, true, true, true, true, true, true, true, true, true, true, true, true, true, true, true, true, true, false, false, true, false, true, false, false, false, false, false, false, false, false, false, false, false, false, false, false, false, false, false, false, false, false, false]
abbrev mk21q83_ : Array Bool := #[true, true, true, true, true, true, true, true, true, true, true, true, true, true, true, true, true, true, true, false, true, false, true, false, false, false, false, false, false, false, false, false, false, false, false, false, false, false, false, false, false, false, false, false]
abbrev mk22q83_ : Array Bool := #[true, true, true, true, true, true, true, true, true, true, true, true, true, true, true, true, true, true, true, true, true, false, true, false, false, false, false, false, false, false, false, false, false, false, false, false, false, false, false, false, false, false, false, false]
abbrev mk23q83_ : Array Bool := #[true, true, true, true, true, true, true, true, true, true, true, true, true, true, true, true, true, true, true, true, true, true, true, false, false, false, false, false, false, false, false, false, false, false, false, false, false, false, false, false, false, false, false, false]
abbrev mk24q83_ : Array Bool := #[true, true, true, true, true, true, true, true, true, true, true, true, true, true, true, true, true, true, true, true, true, true, true, true, false, false, false, false, false, false, false, false, false, false, false, false, false, false, false, false, false, false, false, false]
abbrev mk25q83_ : Array Bool := #[true, true, true, true, true, true, true, true, true, true, true, true, true, true, true, true, true, true, true, true, true, true, true, true, true, false, false, false, false, false, false, false, false, false, false, false, false, false, false, false, false, false, false, false]
abbrev mk26q83_ : Array Bool := #[true, true, true, true, true, true, true, true, true, true, true, true, true, true, true, true, true, true, true, true, true, true, true, true, true, true, false, false, false, false, false, false, false, false, false, false, false, false, false, false, false, false, false, false]
abbrev mk27q83_ : Array Bool := #[true, true, true, true, true, true, true, true, true, true, true, true, true, true, true, true, true, true, true, true, true, true, true, true, true, true, true, false, false, false, false, false, false, false, false, false, false, false, false, false, false, false, false, false]
abbrev mk28q83_ : Array Bool := #[true, true, true, true, true, true, true, true, true, true, true, true, true, true, true, true, true, true, true, true, true, true, true, true, true, true, true, true, false, false, false, false, false, false, false, false, false, false, false, false, false, false, false, false]
abbrev mk29q83_ : Array Bool := #[true, true, true, true, true, true, true, true, true, true, true, true, true, true, true, true, true, true, true, true, true, true, true, true, true, true, true, true, true, false, false, false, false, false, false, false, false, false, false, false, false, false, false, false]
abbrev mk30q83_ : Array Bool := #[true, true, true, true, true, true, true, true, true, true, true, true, true, true, true, true, true, true, true, true, true, true, true, true, true, true, true, true, true, true, false, false, false, false, false, false, false, false, false, false, false, false, false, false]
abbrev mk31q83_ : Array Bool := #[true, true, true, true, true, true, true, true, true, true, true, true, true, true, true, true, true, true, true, true, true, true, true, true, true, true, true, true, true, true, false, true, false, false, false, false, false, false, false, false, false, false, false, false]
abbrev mk32q83_ : Array Bool := #[true, true, true, true, true, true, true, true, true, true, true, true, true, true, true, true, true, true, true, true, true, true, true, true, true, true, true, true, true, true, false, true, false, false, false, true, false, false, false, false, false, false, false, false]
abbrev mk33q83_ : Array Bool := #[true, true, true, true, true, true, true, true, true, true, true, true, true, true, true, true, true, true, true, true, true, true, true, true, true, true, true, true, true, true, false, true, false, false, false, true, false, true, false, false, false, false, false, false]
abbrev mk34q83_ : Array Bool := #[true, true, true, true, true, true, true, true, true, true, true, true, true, true, true, true, true, true, true, true, true, true, true, true, true, true, true, true, true, true, true, true, false, false, false, true, false, true, false, false, false, false, false, false]
abbrev mk35q83_ : Array Bool := #[true, true, true, true, true, true, true, true, true, true, true, true, true, true, true, true, true, true, true, true, true, true, true, true, true, true, true, true, true, true, true, true, true, false, false, true, false, true, false, false, false, false, false, false]
abbrev mk36q83_ : Array Bool := #[true, true, true, true, true, true, true, true, true, true, true, true, true, true, true, true, true, true, true, true, true, true, true, true, true, true, true, true, true, true, true, true, true, true, false, true, false, true, false, false, false, false, false, false]
abbrev mk37q83_ : Array Bool := #[true, true, true, true, true, true, true, true, true, true, true, true, true, true, true, true, true, true, true, true, true, true, true, true, true, true, true, true, true, true, true, true, true, true, true, true, false, true, false, false, false, false, false, false]
abbrev mk38q83_ : Array Bool := #[true, true, true, true, true, true, true, true, true, true, true, true, true, true, true, true, true, true, true, true, true, true, true, true, true, true, true, true, true, true, true, true, true, true, true, true, true, true, false, false, false, false, false, false]
abbrev mk39q83_ : Array Bool := #[true, true, true, true, true, true, true, true, true, true, true, true, true, true, true, true, true, true, true, true, true, true, true, true, true, true, true, true, true, true, true, true, true, true, true, true, true, true, true, false, false, false, false, false]
abbrev mk40q83_ : Array Bool := #[true, true, true, true, true, true, true, true, true, true, true, true, true, true, true, true, true, true, true, true, true, true, true, true, true, true, true, true, true, true, true, true, true, true, true, true, true, true, true, true, false, false, false, false]
abbrev mk41q83_ : Array Bool := #[true, true, true, true, true, true, true, true, true, true, true, true, true, true, true, true, true, true, true, true, true, true, true, true, true, true, true, true, true, true, true, true, true, true, true, true, true, true, true, true, true, false, false, false]
abbrev mk42q83_ : Array Bool := #[true, true, true, true, true, true, true, true, true, true, true, true, true, true, true, true, true, true, true, true, true, true, true, true, true, true, true, true, true, true, true, true, true, true, true, true, true, true, true, true, true, true, false, false]
abbrev mk43q83_ : Array Bool := #[true, true, true, true, true, true, true, true, true, true, true, true, true, true, true, true, true, true, true, true, true, true, true, true, true, true, true, true, true, true, true, true, true, true, true, true, true, true, true, true, true, true, true, false]
abbrev mk44q83_ : Array Bool := #[true, true, true, true, true, true, true, true, true, true, true, true, true, true, true, true, true, true, true, true, true, true, true, true, true, true, true, true, true, true, true, true, true, true, true, true, true, true, true, true, true, true, true, true]
abbrev mk45q83_ : Array Bool := #[true, true, true, true, true, true, true, true, true, true, true, true, true, true, true, true, true, true, true, true, true, true, true, true, true, true, true, true, true, true, true, false, false, false, false, false, false, false, false, false, false, false, false, false]
abbrev mk46q83_ : Array Bool := #[true, true, true, true, true, true, true, true, true, true, true, true, true, true, true, true, true, true, true, true, true, true, true, true, true, true, true, true, true, true, true, true, false, false, false, false, false, false, false, false, false, false, false, false]
abbrev mk47q83_ : Array Bool := #[true, true, true, true, true, true, true, true, true, true, true, true, true, true, true, true, true, true, true, true, true, true, true, true, true, true, true, true, true, true, true, true, true, false, false, false, false, false, false, false, false, false, false, false]
abbrev mk48q83_ : Array Bool := #[true, true, true, true, true, true, true, true, true, true, true, true, true, true, true, true, true, true, true, true, true, true, true, true, true, true, true, true, true, true, true, true, true, true, false, false, false, false, false, false, false, false, false, false]
abbrev mk49q83_ : Array Bool := #[true, true, true, true, true, true, true, true, true, true, true, true, true, true, true, true, true, true, true, true, true, true, true, true, true, true, true, true, true, true, true, true, true, true, true, false, false, false, false, false, false, false, false, false]
abbrev mk50q83_ : Array Bool := #[true, true, true, true, true, true, true, true, true, true, true, true, true, true, true, true, true, true, true, true, true, true, true, true, true, true, true, true, true, true, true, true, true, true, true, true, false, false, false, false, false, false, false, false]
abbrev mk51q83_ : Array Bool := #[true, true, true, true, true, true, true, true, true, true, true, true, true, true, true, true, true, true, true, true, true, true, true, true, true, true, true, true, true, true, true, true, true, true, true, true, true, false, false, false, false, false, false, false]
abbrev mk52q83_ : Array Bool := #[true, true, true, true, true, true, true, true, true, true, true, true, true, true, true, true, false, false, false, false, false, false, false, false, false, false, false, false, false, false, false, false, false, false, false, false, false, false, false, false, false, false, false, false]
abbrev mk53q83_ : Array Bool := #[true, true, true, true, true, true, true, true, true, true, true, true, true, true, true, true, true, false, false, false, false, false, false, false, false, false, false, false, false, false, false, false, false, false, false, false, false, false, false, false, false, false, false, false]
abbrev mk54q83_ : Array Bool := #[true, true, true, true, true, true, true, true, true, true, true, true, true, true, true, true, true, true, false, false, false, false, false, false, false, false, false, false, false, false, false, false, false, false, false, false, false, false, false, false, false, false, false, false]
abbrev mk55q83_ : Array Bool := #[true, true, true, true, true, true, true, true, true, true, true, true, true, true, true, true, true, true, true, false, false, false, false, false, false, false, false, false, false, false, false, false, false, false, false, false, false, false, false, false, false, false, false, false]
abbrev mk56q83_ : Array Bool := #[true, true, true, true, true, true, true, true, true, true, true, true, true, true, true, true, true, true, true, true, false, false, false, false, false, false, false, false, false, false, false, false, false, false, false, false, false, false, false, false, false, false, false, false]
abbrev mk57q83_ : Array Bool := #[true, true, true, true, true, true, true, true, true, true, true, true, true, true, true, true, true, true, true, true, true, false, false, false, false, false, false, false, false, false, false, false, false, false, false, false, false, false, false, false, false, false, false, false]
abbrev mk58q83_ : Array Bool := #[true, true, true, true, true, true, true, true, true, true, true, true, true, true, true, true, true, true, true, true, true, true, false, false, false, false, false, false, false, false, false, false, false, false, false, false, false, false, false, false, false, false, false, false]
set_option maxHeartbeats 8000000 in
set_option maxRecDepth 100000 in
theorem counterfoilref12_Equal.calls (k : Nat) (A0_0 : Option Addr) (c0_0 : Nat) (l0_0 : List (S99)) (A0_1 : Option Addr) (c0_1 : Nat) (l0_1 : List (S74)) (a0_2 : Int) (a0_3 : Int) (A1_0 : Option Addr) (c1_0 : Nat) (l1_0 : List (S99)) (A1_1 : Option Addr) (c1_1 : Nat) (l1_1 : List (S74)) (a1_2 : Int) (a1_3 : Int) (r : Bool) (w : World) (hr0_0 : Kd.C k99 w A0_0 l0_0.length l0_0) (hc0_0 : l0_0.length ≤ c0_0) (hr0_1 : Kd.C k74 w A0_1 l0_1.length l0_1) (hc0_1 : l0_1.length ≤ c0_1) (hr1_0 : Kd.C k99 w A1_0 l1_0.length l1_0) (hc1_0 : l1_0.length ≤ c1_0) (hr1_1 : Kd.C k74 w A1_1 l1_1.length l1_1) (hc1_1 : l1_1.length ≤ c1_1) (h : counterfoilref12_Equal.f k l0_0 l0_1 a0_2 a0_3 l1_0 l1_1 a1_2 a1_3 = some r) :
  Calls Try.prog 72 #[.agg #[.slice A0_0 l0_0.length c0_0, .slice A0_1 l0_1.length c0_1, .int .i64 a0_2, .int .i64 a0_3], .agg #[.slice A1_0 l1_0.length c1_0, .slice A1_1 l1_1.length c1_1, .int .i64 a1_2, .int .i64 a1_3]] w fun e w' => e = .returned (.bool r) ∧ Below w.heap.size w w' := by
 have hu27 := Try.underlying27
 have HR0_0 := A0q83_ hr0_0
 have HC0_0 := A0q83_ hc0_0
 clear hr0_0 hc0_0
 have HR0_1 := A0q83_ hr0_1
 have HC0_1 := A0q83_ hc0_1
 clear hr0_1 hc0_1
 have HR1_0 := A0q83_ hr1_0
 have HC1_0 := A0q83_ hc1_0
 clear hr1_0 hc1_0
 have HR1_1 := A0q83_ hr1_1
 have HC1_1 := A0q83_ hc1_1
 clear hr1_1 hc1_1
 have HB := A0q83_ (Below.refl w.heap.size w)
 have H : (if (l0_0.length : Int) = (l1_0.length : Int) then (if a0_2 = a1_2 then (if a0_3 = a1_3 then ((counterfoilref08_Equal.f k l0_1 l1_1).bind fun t640 => (counterfoilref12_Equal.j0 k (!t640) l0_0 l0_1 a0_2 a0_3 l1_0 l1_1 a1_2 a1_3)) else (counterfoilref12_Equal.j0 k true l0_0 l0_1 a0_2 a0_3 l1_0 l1_1 a1_2 a1_3)) else (counterfoilref12_Equal.j0 k true l0_0 l0_1 a0_2 a0_3 l1_0 l1_1 a1_2 a1_3)) else (counterfoilref12_Equal.j0 k true l0_0 l0_1 a0_2 a0_3 l1_0 l1_1 a1_2 a1_3)) = some r := h
 clear h
 have HC3 := A0q83_ H
 clear H
 go_enter Try.func72, Try.ntmps72
 go_upto_region 1 with (first | ((with_reducible refine gate_dst (N:=2) rfl ?_); refine box_event ?hg (N:=2) ?hd (cs := #[.slice A0_0 l0_0.length c0_0, .slice A0_1 l0_1.length c0_1, .int .i64 a0_2, .int .i64 a0_3]) (t := 27) ?hr ?_; (case hd => rfl); (case hg => rfl); (case hr => first | (go_simp; done) | (go_simp; rfl)); intro gb638 hg w4 hbox hb; have n0_ := A0q83_ (below_step (by repeat (first | (with_reducible first | exact HB.out | apply below_alloc | apply pw_below_drewN | apply below_drew1) | exact HB.out)) hb); have n1_ := A0q83_ (hbox); have n2_ := A0q83_ ((by rw [hg]; exact (below_size (by repeat (first | (with_reducible first | exact HB.out | apply below_alloc | apply pw_below_drewN | apply below_drew1) | exact HB.out))) : w.heap.size ≤ gb638)); have n3_ := A0q83_ ((by rw [hg]; exact (below_size (by repeat (first | (with_reducible first | exact HB.out | apply below_alloc | apply pw_below_drewN | apply below_drew1) | exact HB.out))) : w.heap.size ≤ gb638)); clear HB; have HB := n0_; have BK638 := n1_; have GW638 := n2_; have GE638 := n3_; clear n0_ n1_ n2_ n3_; clear hb hbox hg) | ((with_reducible refine gate_dst (N:=3) rfl ?_); refine box_event ?hg (N:=3) ?hd (cs := #[.slice A1_0 l1_0.length c1_0, .slice A1_1 l1_1.length c1_1, .int .i64 a1_2, .int .i64 a1_3]) (t := 27) ?hr ?_; (case hd => rfl); (case hg => rfl); (case hr => first | (go_simp; done) | (go_simp; rfl)); intro gb639 hg w5 hbox hb; have n0_ := A0q83_ (blk_below (g:=gb638) (o:=.cells #[.slice A0_0 l0_0.length c0_0, .slice A0_1 l0_1.length c0_1, .int .i64 a0_2, .int .i64 a0_3] 27 (0, 0)) (by (with_reducible repeat (first | refine blk_drewN ?_ _ | refine blk_drew ?_ | refine blk_alloc ?_ _)); exact BK638.out) hb); have n1_ := A0q83_ (below_step (by repeat (first | (with_reducible first | exact HB.out | apply below_alloc | apply pw_below_drewN | apply below_drew1 | refine below_set ?_ GE638.out) | exact HB.out)) hb); have n2_ := A0q83_ (hbox); have n3_ := A0q83_ ((by rw [hg]; exact (below_size (by repeat (first | (with_reducible first | exact HB.out | apply below_alloc | apply pw_below_drewN | apply below_drew1 | refine below_set ?_ GE638.out) | exact HB.out))) : w.heap.size ≤ gb639)); have n4_ := A0q83_ ((by rw [hg]; exact (below_size (by repeat (first | (with_reducible first | exact HB.out | apply below_alloc | apply pw_below_drewN | apply below_drew1 | refine below_set ?_ GE638.out) | exact HB.out))) : w.heap.size ≤ gb639)); have n5_ := A0q83_ ((by rw [hg]; exact Nat.ne_of_lt (blk_lt (g:=gb638) (o:=.cells #[.slice A0_0 l0_0.length c0_0, .slice A0_1 l0_1.length c0_1, .int .i64 a0_2, .int .i64 a0_3] 27 (0, 0)) (by (with_reducible repeat (first | refine blk_drewN ?_ _ | refine blk_drew ?_ | refine blk_alloc ?_ _)); exact BK638.out)) : gb638 ≠ gb639)); have n6_ := A0q83_ ((by rw [hg]; exact Nat.ne_of_gt (blk_lt (g:=gb638) (o:=.cells #[.slice A0_0 l0_0.length c0_0, .slice A0_1 l0_1.length c0_1, .int .i64 a0_2, .int .i64 a0_3] 27 (0, 0)) (by (with_reducible repeat (first | refine blk_drewN ?_ _ | refine blk_drew ?_ | refine blk_alloc ?_ _)); exact BK638.out)) : gb639 ≠ gb638)); clear BK638; clear HB; have BK638 := n0_; have HB := n1_; have BK639 := n2_; have GW639 := n3_; have GE639 := n4_; have NB638_639 := n5_; have NB639_638 := n6_; clear n0_ n1_ n2_ n3_ n4_ n5_ n6_; clear hb hbox hg))
 (try simp only [Act.put, z1q83_, z2q83_, z3q83_])
 go_cut [34] (fun v34 wc => ∃ (kq : Nat) (x34_2 : Bool), v34 = .bool x34_2 ∧ Aside0 (counterfoilref12_Equal.j0 kq x34_2 l0_0 l0_1 a0_2 a0_3 l1_0 l1_1 a1_2 a1_3 = some r) ∧ Aside0 (kq ≤ k) ∧ Aside0 (wc.heap[gb638]? = some (.cells #[(.slice A0_0 l0_0.length c0_0), (.slice A0_1 l0_1.length c0_1), .int .i64 a0_2, .int .i64 a0_3] 27 (0, 0))) ∧ Aside0 (wc.heap[gb639]? = some (.cells #[(.slice A1_0 l1_0.length c1_0), (.slice A1_1 l1_1.length c1_1), .int .i64 a1_2, .int .i64 a1_3] 27 (0, 0))) ∧ Aside0 (Below w.heap.size w wc))
 case first =>
  have H := HC3.out
  clear HC3
  by_cases c6 : (l0_0.length : Int) = (l1_0.length : Int)
  ·rw [if_pos c6] at H
   have c6b0 : ((l0_0.length : Int) == (l1_0.length : Int)) = true := beq_iff_eq.mpr c6
   have c6b1 : ((l0_0.length : Int) != (l1_0.length : Int)) = false := bne_eq_false_iff_eq.mpr c6
   have c6b2 : (l0_0.length == l1_0.length) = true := by first | simpa using c6 | (simp at c6 ⊢; omega)
   clear c6
   (first | rw [c6b0] | (simp only [i64_w, i32_w]; rw [c6b0]) | skip)
   by_cases c7 : a0_2 = a1_2
   ·rw [if_pos c7] at H
    have c7b0 : (a0_2 == a1_2) = true := beq_iff_eq.mpr c7
    have c7b1 : (a0_2 != a1_2) = false := bne_eq_false_iff_eq.mpr c7
    clear c7
    by_cases c8 : a0_3 = a1_3
    ·rw [if_pos c8] at H
     have c8b0 : (a0_3 == a1_3) = true := beq_iff_eq.mpr c8
     have c8b1 : (a0_3 != a1_3) = false := bne_eq_false_iff_eq.mpr c8
     clear c8
     replace H := Option.bind_eq_some_iff.mp H
     obtain ⟨t640, A90, H⟩ := H
     replace H : (counterfoilref12_Equal.j0 k (!t640) l0_0 l0_1 a0_2 a0_3 l1_0 l1_1 a1_2 a1_3) = some r := H
     have A9 := A0q83_ A90
     clear A90
     have H' := A0q83_ H
     clear H
     have hnb10 := NB638_639.out
     have hnc10 := NB639_638.out
     have hcz11_0 : w5.cell? ⟨gb638, 0, none⟩ = some (.slice A0_0 l0_0.length c0_0) := (blk_cell BK638.out 0).trans rfl
     have hcz11_1 : w5.cell? ⟨gb638, 1, none⟩ = some (.slice A0_1 l0_1.length c0_1) := (blk_cell BK638.out 1).trans rfl
     have hcz11_2 : w5.cell? ⟨gb638, 2, none⟩ = some (.int .i64 a0_2) := (blk_cell BK638.out 2).trans rfl
     have hcz11_3 : w5.cell? ⟨gb638, 3, none⟩ = some (.int .i64 a0_3) := (blk_cell BK638.out 3).trans rfl
     have hfz11_0 := blk_frozen BK638.out 0
     have hfz11_1 := blk_frozen BK638.out 1
     have hfz11_2 := blk_frozen BK638.out 2
     have hfz11_3 := blk_frozen BK638.out 3
     have hcz12_0 : w5.cell? ⟨gb639, 0, none⟩ = some (.slice A1_0 l1_0.length c1_0) := (blk_cell BK639.out 0).trans rfl
     have hcz12_1 : w5.cell? ⟨gb639, 1, none⟩ = some (.slice A1_1 l1_1.length c1_1) := (blk_cell BK639.out 1).trans rfl
     have hcz12_2 : w5.cell? ⟨gb639, 2, none⟩ = some (.int .i64 a1_2) := (blk_cell BK639.out 2).trans rfl
     have hcz12_3 : w5.cell? ⟨gb639, 3, none⟩ = some (.int .i64 a1_3) := (blk_cell BK639.out 3).trans rfl
     have hfz12_0 := blk_frozen BK639.out 0
     have hfz12_1 := blk_frozen BK639.out 1
     have hfz12_2 := blk_frozen BK639.out 2
     have hfz12_3 := blk_frozen BK639.out 3
     go_wp2_with (first | (go_at_call 49; (with_reducible refine (counterfoilref08_Equal.calls k _ _ l0_1 _ _ l1_1 t640 _ ?side1 ?side2 ?side3 ?side4 A9.out).mono ?_); (case side1 => repeat (first | exact (Kd.C_below HR0_1.out HB.out) | (with_reducible refine Kd.C_alloc ?_ _) | (with_reducible refine Kd.C_drewN ?_ _) | (with_reducible refine Kd.C_drew ?_))); (case side2 => exact HC0_1.out); (case side3 => repeat (first | exact (Kd.C_below HR1_1.out HB.out) | (with_reducible refine Kd.C_alloc ?_ _) | (with_reducible refine Kd.C_drewN ?_ _) | (with_reducible refine Kd.C_drew ?_))); (case side4 => exact HC1_1.out); rintro e w' ⟨rfl, ⟨nd, rfl⟩⟩))
     go_meet
     case rel => exact ⟨_, (!t640), (by first | rfl | (simp; done) | (simp [*]; done)), H', ⟨by first | omega | exact Nat.le_refl _⟩, ⟨by (with_reducible repeat (first | refine blk_drewN ?_ _ | refine blk_drew ?_ | refine blk_alloc ?_ _)); exact BK638.out⟩, ⟨by (with_reducible repeat (first | refine blk_drewN ?_ _ | refine blk_drew ?_ | refine blk_alloc ?_ _)); exact BK639.out⟩, ⟨by repeat (first | (with_reducible first | exact HB.out | apply below_alloc | apply pw_below_drewN | apply below_drew1 | refine below_set ?_ GE638.out | refine below_set ?_ GE639.out) | exact HB.out)⟩⟩
    ·rw [if_neg c8] at H
     have c8b0 : (a0_3 == a1_3) = false := beq_eq_false_iff_ne.mpr c8
     have c8b1 : (a0_3 != a1_3) = true := bne_iff_ne.mpr c8
     have H' := A0q83_ H
     clear H
     have hnb13 := NB638_639.out
     have hnc13 := NB639_638.out
     have hcz14_0 : w5.cell? ⟨gb638, 0, none⟩ = some (.slice A0_0 l0_0.length c0_0) := (blk_cell BK638.out 0).trans rfl
     have hcz14_1 : w5.cell? ⟨gb638, 1, none⟩ = some (.slice A0_1 l0_1.length c0_1) := (blk_cell BK638.out 1).trans rfl
     have hcz14_2 : w5.cell? ⟨gb638, 2, none⟩ = some (.int .i64 a0_2) := (blk_cell BK638.out 2).trans rfl
     have hcz14_3 : w5.cell? ⟨gb638, 3, none⟩ = some (.int .i64 a0_3) := (blk_cell BK638.out 3).trans rfl
     have hfz14_0 := blk_frozen BK638.out 0
     have hfz14_1 := blk_frozen BK638.out 1
     have hfz14_2 := blk_frozen BK638.out 2
     have hfz14_3 := blk_frozen BK638.out 3
     have hcz15_0 : w5.cell? ⟨gb639, 0, none⟩ = some (.slice A1_0 l1_0.length c1_0) := (blk_cell BK639.out 0).trans rfl
     have hcz15_1 : w5.cell? ⟨gb639, 1, none⟩ = some (.slice A1_1 l1_1.length c1_1) := (blk_cell BK639.out 1).trans rfl
     have hcz15_2 : w5.cell? ⟨gb639, 2, none⟩ = some (.int .i64 a1_2) := (blk_cell BK639.out 2).trans rfl
     have hcz15_3 : w5.cell? ⟨gb639, 3, none⟩ = some (.int .i64 a1_3) := (blk_cell BK639.out 3).trans rfl
     have hfz15_0 := blk_frozen BK639.out 0
     have hfz15_1 := blk_frozen BK639.out 1
     have hfz15_2 := blk_frozen BK639.out 2
     have hfz15_3 := blk_frozen BK639.out 3
     go_wp2
     go_meet
     case rel => exact ⟨_, (true), (by first | rfl | (simp; done) | (simp [*]; done)), H', ⟨by first | omega | exact Nat.le_refl _⟩, ⟨by (with_reducible repeat (first | refine blk_drewN ?_ _ | refine blk_drew ?_ | refine blk_alloc ?_ _)); exact BK638.out⟩, ⟨by (with_reducible repeat (first | refine blk_drewN ?_ _ | refine blk_drew ?_ | refine blk_alloc ?_ _)); exact BK639.out⟩, ⟨by repeat (first | (with_reducible first | exact HB.out | apply below_alloc | apply pw_below_drewN | apply below_drew1 | refine below_set ?_ GE638.out | refine below_set ?_ GE639.out) | exact HB.out)⟩⟩
   ·rw [if_neg c7] at H
    have c7b0 : (a0_2 == a1_2) = false := beq_eq_false_iff_ne.mpr c7
    have c7b1 : (a0_2 != a1_2) = true := bne_iff_ne.mpr c7
    have H' := A0q83_ H
    clear H
    have hnb16 := NB638_639.out
    have hnc16 := NB639_638.out
    have hcz17_0 : w5.cell? ⟨gb638, 0, none⟩ = some (.slice A0_0 l0_0.length c0_0) := (blk_cell BK638.out 0).trans rfl
    have hcz17_1 : w5.cell? ⟨gb638, 1, none⟩ = some (.slice A0_1 l0_1.length c0_1) := (blk_cell BK638.out 1).trans rfl
    have hcz17_2 : w5.cell? ⟨gb638, 2, none⟩ = some (.int .i64 a0_2) := (blk_cell BK638.out 2).trans rfl
    have hcz17_3 : w5.cell? ⟨gb638, 3, none⟩ = some (.int .i64 a0_3) := (blk_cell BK638.out 3).trans rfl
    have hfz17_0 := blk_frozen BK638.out 0
    have hfz17_1 := blk_frozen BK638.out 1
    have hfz17_2 := blk_frozen BK638.out 2
    have hfz17_3 := blk_frozen BK638.out 3
    have hcz18_0 : w5.cell? ⟨gb639, 0, none⟩ = some (.slice A1_0 l1_0.length c1_0) := (blk_cell BK639.out 0).trans rfl
    have hcz18_1 : w5.cell? ⟨gb639, 1, none⟩ = some (.slice A1_1 l1_1.length c1_1) := (blk_cell BK639.out 1).trans rfl
    have hcz18_2 : w5.cell? ⟨gb639, 2, none⟩ = some (.int .i64 a1_2) := (blk_cell BK639.out 2).trans rfl
    have hcz18_3 : w5.cell? ⟨gb639, 3, none⟩ = some (.int .i64 a1_3) := (blk_cell BK639.out 3).trans rfl
    have hfz18_0 := blk_frozen BK639.out 0
    have hfz18_1 := blk_frozen BK639.out 1
    have hfz18_2 := blk_frozen BK639.out 2
    have hfz18_3 := blk_frozen BK639.out 3
    go_wp2
    go_meet
    case rel => exact ⟨_, (true), (by first | rfl | (simp; done) | (simp [*]; done)), H', ⟨by first | omega | exact Nat.le_refl _⟩, ⟨by (with_reducible repeat (first | refine blk_drewN ?_ _ | refine blk_drew ?_ | refine blk_alloc ?_ _)); exact BK638.out⟩, ⟨by (with_reducible repeat (first | refine blk_drewN ?_ _ | refine blk_drew ?_ | refine blk_alloc ?_ _)); exact BK639.out⟩, ⟨by repeat (first | (with_reducible first | exact HB.out | apply below_alloc | apply pw_below_drewN | apply below_drew1 | refine below_set ?_ GE638.out | refine below_set ?_ GE639.out) | exact HB.out)⟩⟩
  ·rw [if_neg c6] at H
   have c6b0 : ((l0_0.length : Int) == (l1_0.length : Int)) = false := beq_eq_false_iff_ne.mpr c6
   have c6b1 : ((l0_0.length : Int) != (l1_0.length : Int)) = true := bne_iff_ne.mpr c6
   have c6b2 : (l0_0.length == l1_0.length) = false := by first | simpa using c6 | (simp at c6 ⊢; omega)
   (first | rw [c6b0] | (simp only [i64_w, i32_w]; rw [c6b0]) | skip)
   have H' := A0q83_ H
   clear H
   have hnb19 := NB638_639.out
   have hnc19 := NB639_638.out
   have hcz20_0 : w5.cell? ⟨gb638, 0, none⟩ = some (.slice A0_0 l0_0.length c0_0) := (blk_cell BK638.out 0).trans rfl
   have hcz20_1 : w5.cell? ⟨gb638, 1, none⟩ = some (.slice A0_1 l0_1.length c0_1) := (blk_cell BK638.out 1).trans rfl
   have hcz20_2 : w5.cell? ⟨gb638, 2, none⟩ = some (.int .i64 a0_2) := (blk_cell BK638.out 2).trans rfl
   have hcz20_3 : w5.cell? ⟨gb638, 3, none⟩ = some (.int .i64 a0_3) := (blk_cell BK638.out 3).trans rfl
   have hfz20_0 := blk_frozen BK638.out 0
   have hfz20_1 := blk_frozen BK638.out 1
   have hfz20_2 := blk_frozen BK638.out 2
   have hfz20_3 := blk_frozen BK638.out 3
   have hcz21_0 : w5.cell? ⟨gb639, 0, none⟩ = some (.slice A1_0 l1_0.length c1_0) := (blk_cell BK639.out 0).trans rfl
   have hcz21_1 : w5.cell? ⟨gb639, 1, none⟩ = some (.slice A1_1 l1_1.length c1_1) := (blk_cell BK639.out 1).trans rfl
   have hcz21_2 : w5.cell? ⟨gb639, 2, none⟩ = some (.int .i64 a1_2) := (blk_cell BK639.out 2).trans rfl
   have hcz21_3 : w5.cell? ⟨gb639, 3, none⟩ = some (.int .i64 a1_3) := (blk_cell BK639.out 3).trans rfl
   have hfz21_0 := blk_frozen BK639.out 0
   have hfz21_1 := blk_frozen BK639.out 1
   have hfz21_2 := blk_frozen BK639.out 2
   have hfz21_3 := blk_frozen BK639.out 3
   go_wp2
   go_meet
   case rel => exact ⟨_, (true), (by first | rfl | (simp; done) | (simp [*]; done)), H', ⟨by first | omega | exact Nat.le_refl _⟩, ⟨by (with_reducible repeat (first | refine blk_drewN ?_ _ | refine blk_drew ?_ | refine blk_alloc ?_ _)); exact BK638.out⟩, ⟨by (with_reducible repeat (first | refine blk_drewN ?_ _ | refine blk_drew ?_ | refine blk_alloc ?_ _)); exact BK639.out⟩, ⟨by repeat (first | (with_reducible first | exact HB.out | apply below_alloc | apply pw_below_drewN | apply below_drew1 | refine below_set ?_ GE638.out | refine below_set ?_ GE639.out) | exact HB.out)⟩⟩
 case rest =>
  clear HC3
  try clear c1
  try clear p2
  try clear c6
  try clear c6b0
  try clear c6b1
  try clear c6b2
  try clear c7
  try clear c7b0
  try clear c7b1
  try clear c8
  try clear c8b0
  try clear c8b1
  try clear c10
  try clear c13
  try clear c16
  try clear c19
  try clear hcz11_0
  try clear hcz11_1
  try clear hcz11_2
  try clear hcz11_3
  try clear hcz12_0
  try clear hcz12_1
  try clear hcz12_2
  try clear hcz12_3
  try clear hcz14_0
  try clear hcz14_1
  try clear hcz14_2
  try clear hcz14_3
  try clear hcz15_0
  try clear hcz15_1
  try clear hcz15_2
  try clear hcz15_3
  try clear hcz17_0
  try clear hcz17_1
  try clear hcz17_2
  try clear hcz17_3
  try clear hcz18_0
  try clear hcz18_1
  try clear hcz18_2
  try clear hcz18_3
  try clear hcz20_0
  try clear hcz20_1
  try clear hcz20_2
  try clear hcz20_3
  try clear hcz21_0
  try clear hcz21_1
  try clear hcz21_2
  try clear hcz21_3
  try clear hfz11_0
  try clear hfz11_1
  try clear hfz11_2
  try clear hfz11_3
  try clear hfz12_0
  try clear hfz12_1
  try clear hfz12_2
  try clear hfz12_3
  try clear hfz14_0
  try clear hfz14_1
  try clear hfz14_2
  try clear hfz14_3
  try clear hfz15_0
  try clear hfz15_1
  try clear hfz15_2
  try clear hfz15_3
  try clear hfz17_0
  try clear hfz17_1
  try clear hfz17_2
  try clear hfz17_3
  try clear hfz18_0
  try clear hfz18_1
  try clear hfz18_2
  try clear hfz18_3
  try clear hfz20_0
  try clear hfz20_1
  try clear hfz20_2
  try clear hfz20_3
  try clear hfz21_0
  try clear hfz21_1
  try clear hfz21_2
  try clear hfz21_3
  obtain ⟨kq, x34_2, rfl, HA, HJ2, BK638, BK639, HB⟩ := hcut
  cases kq with
  | zero => exact absurd HA.out (by simp [counterfoilref12_Equal.j0])
  | succ kj2 =>
   have H := HA.out
   clear HA
   simp only [counterfoilref12_Equal.j0] at H
   by_cases c22 : x34_2 = true
   ·subst c22
    have H1 : (some false) = some r := by rw [if_pos rfl] at H; exact H
    clear H
    have H := H1
    clear H1
    obtain rfl := Option.some.inj H
    go_wp2
    go_ret
    exact ⟨by first | rfl | (simp [errW_none, errW_some] <;> rfl) | (simp [*, errW_none, errW_some] <;> rfl), by repeat (first | (with_reducible first | exact HB.out | apply below_alloc | apply pw_below_drewN | apply below_drew1 | refine below_set ?_ GE638.out | refine below_set ?_ GE639.out) | exact HB.out)⟩
   ·replace c22 := Bool.eq_false_iff.mpr c22
    subst c22
    have H1 : (counterfoilref12_Equal.l0 kj2 0 l0_0 l0_1 a0_2 a0_3 l1_0 l1_1 a1_2 a1_3) = some r := by rw [if_neg (show ¬ (false = true) by decide)] at H; exact H
    clear H
    have H := H1
    clear H1
    have H' := A0q83_ H
    clear H
    go_wp2
    go_loopg [5] kj2 (fun kq v5 w' => ∃ (x5_2 : Int), v5 = .int .i64 x5_2 ∧ Aside0 (counterfoilref12_Equal.l0 kq x5_2 l0_0 l0_1 a0_2 a0_3 l1_0 l1_1 a1_2 a1_3 = some r) ∧ Aside0 (kq ≤ kj2) ∧ Aside0 (w'.heap[gb638]? = some (.cells #[(.slice A0_0 l0_0.length c0_0), (.slice A0_1 l0_1.length c0_1), .int .i64 a0_2, .int .i64 a0_3] 27 (0, 0))) ∧ Aside0 (w'.heap[gb639]? = some (.cells #[(.slice A1_0 l1_0.length c1_0), (.slice A1_1 l1_1.length c1_1), .int .i64 a1_2, .int .i64 a1_3] 27 (0, 0))) ∧ Aside0 (Below w.heap.size w w'))
    case atStart => exact ⟨(0), (by first | rfl | (simp; done) | (simp [*]; done)), H', ⟨Nat.le_refl _⟩, ⟨by (with_reducible repeat (first | refine blk_drewN ?_ _ | refine blk_drew ?_ | refine blk_alloc ?_ _)); exact BK638.out⟩, ⟨by (with_reducible repeat (first | refine blk_drewN ?_ _ | refine blk_drew ?_ | refine blk_alloc ?_ _)); exact BK639.out⟩, ⟨by repeat (first | (with_reducible first | exact HB.out | apply below_alloc | apply pw_below_drewN | apply below_drew1 | refine below_set ?_ GE638.out | refine below_set ?_ GE639.out) | exact HB.out)⟩⟩
    case round =>
     clear H'
     try clear c1
     try clear c2
     try clear p2
     try clear c6
     try clear c6b0
     try clear c6b1
     try clear c6b2
     try clear c7
     try clear c7b0
     try clear c7b1
     try clear c8
     try clear c8b0
     try clear c8b1
     try clear c10
     try clear c13
     try clear c16
     try clear c19
     try clear c22
     try clear hcz11_0
     try clear hcz11_1
     try clear hcz11_2
     try clear hcz11_3
     try clear hcz12_0
     try clear hcz12_1
     try clear hcz12_2
     try clear hcz12_3
     try clear hcz14_0
     try clear hcz14_1
     try clear hcz14_2
     try clear hcz14_3
     try clear hcz15_0
     try clear hcz15_1
     try clear hcz15_2
     try clear hcz15_3
     try clear hcz17_0
     try clear hcz17_1
     try clear hcz17_2
     try clear hcz17_3
     try clear hcz18_0
     try clear hcz18_1
     try clear hcz18_2
     try clear hcz18_3
     try clear hcz20_0
     try clear hcz20_1
     try clear hcz20_2
     try clear hcz20_3
     try clear hcz21_0
     try clear hcz21_1
     try clear hcz21_2
     try clear hcz21_3
     try clear hfz11_0
     try clear hfz11_1
     try clear hfz11_2
     try clear hfz11_3
     try clear hfz12_0
     try clear hfz12_1
     try clear hfz12_2
     try clear hfz12_3
     try clear hfz14_0
     try clear hfz14_1
     try clear hfz14_2
     try clear hfz14_3
     try clear hfz15_0
     try clear hfz15_1
     try clear hfz15_2
     try clear hfz15_3
     try clear hfz17_0
     try clear hfz17_1
     try clear hfz17_2
     try clear hfz17_3
     try clear hfz18_0
     try clear hfz18_1
     try clear hfz18_2
     try clear hfz18_3
     try clear hfz20_0
     try clear hfz20_1
     try clear hfz20_2
     try clear hfz20_3
     try clear hfz21_0
     try clear hfz21_1
     try clear hfz21_2
     try clear hfz21_3
     try clear p2
     obtain ⟨x5_2, rfl, HA, HK2, BK638, BK639, HB⟩ := hrel
     cases gk with
     | zero => exact absurd HA.out (by simp [counterfoilref12_Equal.l0])
     | succ k2 =>
      have H := HA.out
      clear HA
      simp only [counterfoilref12_Equal.l0] at H
      by_cases c23 : x5_2 < (l0_0.length : Int)
      ·rw [if_pos c23] at H
       have c23b0 : decide (x5_2 < (l0_0.length : Int)) = true := decide_eq_true c23
       clear c23
       by_cases c24 : 0 ≤ x5_2
       ·rw [if_pos c24] at H
        have c24b0 : decide (0 ≤ x5_2) = true := decide_eq_true c24
        clear c24
        by_cases c25 : x5_2 < (l1_0.length : Int)
        ·rw [if_pos c25] at H
         have c25b0 : decide (x5_2 < (l1_0.length : Int)) = true := decide_eq_true c25
         clear c25
         by_cases c26 : ((rd_T99 l0_0 x5_2).f0) = ((rd_T99 l1_0 x5_2).f0)
         ·rw [if_pos c26] at H
          have c26b0 : (((rd_T99 l0_0 x5_2).f0) == ((rd_T99 l1_0 x5_2).f0)) = true := beq_iff_eq.mpr c26
          have c26b1 : (((rd_T99 l0_0 x5_2).f0) != ((rd_T99 l1_0 x5_2).f0)) = false := bne_eq_false_iff_eq.mpr c26
          clear c26
          by_cases c27 : ((rd_T99 l0_0 x5_2).f1) = ((rd_T99 l1_0 x5_2).f1)
          ·rw [if_pos c27] at H
           have c27b0 : (((rd_T99 l0_0 x5_2).f1) == ((rd_T99 l1_0 x5_2).f1)) = true := beq_iff_eq.mpr c27
           have c27b1 : (((rd_T99 l0_0 x5_2).f1) != ((rd_T99 l1_0 x5_2).f1)) = false := bne_eq_false_iff_eq.mpr c27
           clear c27
           replace H := Option.bind_eq_some_iff.mp H
           obtain ⟨t647, A280, H⟩ := H
           replace H : (if t647 = true then (counterfoilref12_Equal.l0 k2 (wrap64 (x5_2 + 1)) l0_0 l0_1 a0_2 a0_3 l1_0 l1_1 a1_2 a1_3) else (some false)) = some r := H
           have A28 := A0q83_ A280
           clear A280
           by_cases c29 : t647 = true
           ·subst c29
            have H1 : (counterfoilref12_Equal.l0 k2 (wrap64 (x5_2 + 1)) l0_0 l0_1 a0_2 a0_3 l1_0 l1_1 a1_2 a1_3) = some r := by rw [if_pos rfl] at H; exact H
            clear H
            have H := H1
            clear H1
            have H' := A0q83_ H
            clear H
            have hnb30 := NB638_639.out
            have hnc30 := NB639_638.out
            have hcz31_0 : wr.cell? ⟨gb638, 0, none⟩ = some (.slice A0_0 l0_0.length c0_0) := (blk_cell BK638.out 0).trans rfl
            have hcz31_1 : wr.cell? ⟨gb638, 1, none⟩ = some (.slice A0_1 l0_1.length c0_1) := (blk_cell BK638.out 1).trans rfl
            have hcz31_2 : wr.cell? ⟨gb638, 2, none⟩ = some (.int .i64 a0_2) := (blk_cell BK638.out 2).trans rfl
            have hcz31_3 : wr.cell? ⟨gb638, 3, none⟩ = some (.int .i64 a0_3) := (blk_cell BK638.out 3).trans rfl
            have hfz31_0 := blk_frozen BK638.out 0
            have hfz31_1 := blk_frozen BK638.out 1
            have hfz31_2 := blk_frozen BK638.out 2
            have hfz31_3 := blk_frozen BK638.out 3
            try go_wp2
            have n0_ := A0q83_ (blk_drew BK638.out)
            have n1_ := A0q83_ (blk_drew BK639.out)
            have n2_ := A0q83_ (below_drew1 HB.out)
            clear BK638
            clear BK639
            clear HB
            have BK638 := n0_
            have BK639 := n1_
            have HB := n2_
            clear n0_ n1_ n2_
            have p641 : 0 ≤ (x5_2 : Int) := of_decide_eq_true (by first | (with_reducible assumption) | assumption)
            have q641 : x5_2 < (l0_0.length : Int) := of_decide_eq_true (by first | (with_reducible assumption) | assumption)
            obtain ⟨ad641, A641_2, c641_2, e641, hx641_0, hx641_1, hx641_2, hl641_2, hi641_2⟩ := at_T99 HR0_0.out x5_2 p641 q641
            have hw641_2 := hx641_2
            have hw641_1 := hx641_1
            have hw641_0 := hx641_0
            cases e641
            replace hx641_0 := (HB.out.cell (World.block_lt_of_cell? w _ hx641_0)).trans hx641_0
            replace hx641_1 := (HB.out.cell (World.block_lt_of_cell? w _ hx641_1)).trans hx641_1
            replace hx641_2 := (HB.out.cell (World.block_lt_of_cell? w _ hx641_2)).trans hx641_2
            have HR641_2 := A0q83_ hi641_2
            have HC641_2 := A0q83_ hl641_2
            clear hi641_2 hl641_2
            replace p641 := eq_true p641
            replace q641 := eq_true q641
            have p642 : 0 ≤ (x5_2 : Int) := of_decide_eq_true (by first | (with_reducible assumption) | assumption)
            have q642 : x5_2 < (l1_0.length : Int) := of_decide_eq_true (by first | (with_reducible assumption) | assumption)
            obtain ⟨ad642, A642_2, c642_2, e642, hx642_0, hx642_1, hx642_2, hl642_2, hi642_2⟩ := at_T99 HR1_0.out x5_2 p642 q642
            have hw642_2 := hx642_2
            have hw642_1 := hx642_1
            have hw642_0 := hx642_0
            cases e642
            replace hx642_0 := (HB.out.cell (World.block_lt_of_cell? w _ hx642_0)).trans hx642_0
            replace hx642_1 := (HB.out.cell (World.block_lt_of_cell? w _ hx642_1)).trans hx642_1
            replace hx642_2 := (HB.out.cell (World.block_lt_of_cell? w _ hx642_2)).trans hx642_2
            have HR642_2 := A0q83_ hi642_2
            have HC642_2 := A0q83_ hl642_2
            clear hi642_2 hl642_2
            replace p642 := eq_true p642
            replace q642 := eq_true q642
            have p643 : 0 ≤ (x5_2 : Int) := of_decide_eq_true (by first | (with_reducible assumption) | assumption)
            have q643 : x5_2 < (l0_0.length : Int) := of_decide_eq_true (by first | (with_reducible assumption) | assumption)
            obtain ⟨ad643, A643_2, c643_2, e643, hx643_0, hx643_1, hx643_2, hl643_2, hi643_2⟩ := at_T99 HR0_0.out x5_2 p643 q643
            have hw643_2 := hx643_2
            have hw643_1 := hx643_1
            have hw643_0 := hx643_0
            obtain rfl : ad641 = ad643 := (by injection e643)
            replace hx643_0 := (HB.out.cell (World.block_lt_of_cell? w _ hx643_0)).trans hx643_0
            replace hx643_1 := (HB.out.cell (World.block_lt_of_cell? w _ hx643_1)).trans hx643_1
            replace hx643_2 := (HB.out.cell (World.block_lt_of_cell? w _ hx643_2)).trans hx643_2
            have HR643_2 := A0q83_ hi643_2
            have HC643_2 := A0q83_ hl643_2
            clear hi643_2 hl643_2
            replace p643 := eq_true p643
            replace q643 := eq_true q643
            have ea_ := Option.some.inj (hx641_2.symm.trans hx643_2)
            injection ea_ with ea_ en_ ec_
            subst ea_
            subst ec_
            clear en_
            have p644 : 0 ≤ (x5_2 : Int) := of_decide_eq_true (by first | (with_reducible assumption) | assumption)
            have q644 : x5_2 < (l1_0.length : Int) := of_decide_eq_true (by first | (with_reducible assumption) | assumption)
            obtain ⟨ad644, A644_2, c644_2, e644, hx644_0, hx644_1, hx644_2, hl644_2, hi644_2⟩ := at_T99 HR1_0.out x5_2 p644 q644
            have hw644_2 := hx644_2
            have hw644_1 := hx644_1
            have hw644_0 := hx644_0
            obtain rfl : ad642 = ad644 := (by injection e644)
            replace hx644_0 := (HB.out.cell (World.block_lt_of_cell? w _ hx644_0)).trans hx644_0
            replace hx644_1 := (HB.out.cell (World.block_lt_of_cell? w _ hx644_1)).trans hx644_1
            replace hx644_2 := (HB.out.cell (World.block_lt_of_cell? w _ hx644_2)).trans hx644_2
            have HR644_2 := A0q83_ hi644_2
            have HC644_2 := A0q83_ hl644_2
            clear hi644_2 hl644_2
            replace p644 := eq_true p644
            replace q644 := eq_true q644
            have ea_ := Option.some.inj (hx642_2.symm.trans hx644_2)
            injection ea_ with ea_ en_ ec_
            subst ea_
            subst ec_
            clear en_
            have p645 : 0 ≤ (x5_2 : Int) := of_decide_eq_true (by first | (with_reducible assumption) | assumption)
            have q645 : x5_2 < (l0_0.length : Int) := of_decide_eq_true (by first | (with_reducible assumption) | assumption)
            obtain ⟨ad645, A645_2, c645_2, e645, hx645_0, hx645_1, hx645_2, hl645_2, hi645_2⟩ := at_T99 HR0_0.out x5_2 p645 q645
            have hw645_2 := hx645_2
            have hw645_1 := hx645_1
            have hw645_0 := hx645_0
            obtain rfl : ad641 = ad645 := (by injection e645)
            replace hx645_0 := (HB.out.cell (World.block_lt_of_cell? w _ hx645_0)).trans hx645_0
            replace hx645_1 := (HB.out.cell (World.block_lt_of_cell? w _ hx645_1)).trans hx645_1
            replace hx645_2 := (HB.out.cell (World.block_lt_of_cell? w _ hx645_2)).trans hx645_2
            have HR645_2 := A0q83_ hi645_2
            have HC645_2 := A0q83_ hl645_2
            clear hi645_2 hl645_2
            replace p645 := eq_true p645
            replace q645 := eq_true q645
            have ea_ := Option.some.inj (hx641_2.symm.trans hx645_2)
            injection ea_ with ea_ en_ ec_
            subst ea_
            subst ec_
            clear en_
            have p646 : 0 ≤ (x5_2 : Int) := of_decide_eq_true (by first | (with_reducible assumption) | assumption)
            have q646 : x5_2 < (l1_0.length : Int) := of_decide_eq_true (by first | (with_reducible assumption) | assumption)
            obtain ⟨ad646, A646_2, c646_2, e646, hx646_0, hx646_1, hx646_2, hl646_2, hi646_2⟩ := at_T99 HR1_0.out x5_2 p646 q646
            have hw646_2 := hx646_2
            have hw646_1 := hx646_1
            have hw646_0 := hx646_0
            obtain rfl : ad642 = ad646 := (by injection e646)
            replace hx646_0 := (HB.out.cell (World.block_lt_of_cell? w _ hx646_0)).trans hx646_0
            replace hx646_1 := (HB.out.cell (World.block_lt_of_cell? w _ hx646_1)).trans hx646_1
            replace hx646_2 := (HB.out.cell (World.block_lt_of_cell? w _ hx646_2)).trans hx646_2
            have HR646_2 := A0q83_ hi646_2
            have HC646_2 := A0q83_ hl646_2
            clear hi646_2 hl646_2
            replace p646 := eq_true p646
            replace q646 := eq_true q646
            have ea_ := Option.some.inj (hx642_2.symm.trans hx646_2)
            injection ea_ with ea_ en_ ec_
            subst ea_
            subst ec_
            clear en_
            refine start_ (n := 44) (S := fun w' => w'.cell? ⟨gb638, 0, none⟩ = some (.slice (some ad641) l0_0.length c0_0) ∧ w'.cell? ⟨gb638, 1, none⟩ = some (.slice A0_1 l0_1.length c0_1) ∧ w'.cell? ⟨gb638, 2, none⟩ = some (.int .i64 a0_2) ∧ w'.cell? ⟨gb638, 3, none⟩ = some (.int .i64 a0_3) ∧ w'.cell? ⟨gb639, 0, none⟩ = some (.slice (some ad642) l1_0.length c1_0) ∧ w'.cell? ⟨gb639, 1, none⟩ = some (.slice A1_1 l1_1.length c1_1) ∧ w'.cell? ⟨gb639, 2, none⟩ = some (.int .i64 a1_2) ∧ w'.cell? ⟨gb639, 3, none⟩ = some (.int .i64 a1_3) ∧ w'.cell? (ad641.add ((x5_2).toNat * 3)) = some (.int .i64 ((rd_T99 l0_0 x5_2).f0)) ∧ w'.cell? ⟨(ad641.add ((x5_2).toNat * 3)).block, (ad641.add ((x5_2).toNat * 3)).off + 1, none⟩ = some (.int .i64 ((rd_T99 l0_0 x5_2).f1)) ∧ w'.cell? ⟨(ad641.add ((x5_2).toNat * 3)).block, (ad641.add ((x5_2).toNat * 3)).off + 2, none⟩ = some (.slice A641_2 ((rd_T99 l0_0 x5_2).f2).length c641_2) ∧ w'.cell? (ad642.add ((x5_2).toNat * 3)) = some (.int .i64 ((rd_T99 l1_0 x5_2).f0)) ∧ w'.cell? ⟨(ad642.add ((x5_2).toNat * 3)).block, (ad642.add ((x5_2).toNat * 3)).off + 1, none⟩ = some (.int .i64 ((rd_T99 l1_0 x5_2).f1)) ∧ w'.cell? ⟨(ad642.add ((x5_2).toNat * 3)).block, (ad642.add ((x5_2).toNat * 3)).off + 2, none⟩ = some (.slice A642_2 ((rd_T99 l1_0 x5_2).f2).length c642_2) ∧ w'.cell? (ad641.add ((x5_2).toNat * 3)) = some (.int .i64 ((rd_T99 l0_0 x5_2).f0)) ∧ w'.cell? ⟨(ad641.add ((x5_2).toNat * 3)).block, (ad641.add ((x5_2).toNat * 3)).off + 1, none⟩ = some (.int .i64 ((rd_T99 l0_0 x5_2).f1)) ∧ w'.cell? ⟨(ad641.add ((x5_2).toNat * 3)).block, (ad641.add ((x5_2).toNat * 3)).off + 2, none⟩ = some (.slice A641_2 ((rd_T99 l0_0 x5_2).f2).length c641_2) ∧ w'.cell? (ad642.add ((x5_2).toNat * 3)) = some (.int .i64 ((rd_T99 l1_0 x5_2).f0)) ∧ w'.cell? ⟨(ad642.add ((x5_2).toNat * 3)).block, (ad642.add ((x5_2).toNat * 3)).off + 1, none⟩ = some (.int .i64 ((rd_T99 l1_0 x5_2).f1)) ∧ w'.cell? ⟨(ad642.add ((x5_2).toNat * 3)).block, (ad642.add ((x5_2).toNat * 3)).off + 2, none⟩ = some (.slice A642_2 ((rd_T99 l1_0 x5_2).f2).length c642_2) ∧ w'.cell? (ad641.add ((x5_2).toNat * 3)) = some (.int .i64 ((rd_T99 l0_0 x5_2).f0)) ∧ w'.cell? ⟨(ad641.add ((x5_2).toNat * 3)).block, (ad641.add ((x5_2).toNat * 3)).off + 1, none⟩ = some (.int .i64 ((rd_T99 l0_0 x5_2).f1)) ∧ w'.cell? ⟨(ad641.add ((x5_2).toNat * 3)).block, (ad641.add ((x5_2).toNat * 3)).off + 2, none⟩ = some (.slice A641_2 ((rd_T99 l0_0 x5_2).f2).length c641_2) ∧ w'.cell? (ad642.add ((x5_2).toNat * 3)) = some (.int .i64 ((rd_T99 l1_0 x5_2).f0)) ∧ w'.cell? ⟨(ad642.add ((x5_2).toNat * 3)).block, (ad642.add ((x5_2).toNat * 3)).off + 1, none⟩ = some (.int .i64 ((rd_T99 l1_0 x5_2).f1)) ∧ w'.cell? ⟨(ad642.add ((x5_2).toNat * 3)).block, (ad642.add ((x5_2).toNat * 3)).off + 2, none⟩ = some (.slice A642_2 ((rd_T99 l1_0 x5_2).f2).length c642_2)) (ds := []) mk0q83_ (by kernel_rfl) rfl rfl ⟨(blk_cell BK638.out 0).trans rfl, (blk_cell BK638.out 1).trans rfl, (blk_cell BK638.out 2).trans rfl, (blk_cell BK638.out 3).trans rfl, (blk_cell BK639.out 0).trans rfl, (blk_cell BK639.out 1).trans rfl, (blk_cell BK639.out 2).trans rfl, (blk_cell BK639.out 3).trans rfl, ((HB.out.cell (World.block_lt_of_cell? w _ hw641_0)).trans hw641_0), ((HB.out.cell (World.block_lt_of_cell? w _ hw641_1)).trans hw641_1), ((HB.out.cell (World.block_lt_of_cell? w _ hw641_2)).trans hw641_2), ((HB.out.cell (World.block_lt_of_cell? w _ hw642_0)).trans hw642_0), ((HB.out.cell (World.block_lt_of_cell? w _ hw642_1)).trans hw642_1), ((HB.out.cell (World.block_lt_of_cell? w _ hw642_2)).trans hw642_2), ((HB.out.cell (World.block_lt_of_cell? w _ hw643_0)).trans hw643_0), ((HB.out.cell (World.block_lt_of_cell? w _ hw643_1)).trans hw643_1), ((HB.out.cell (World.block_lt_of_cell? w _ hw643_2)).trans hw643_2), ((HB.out.cell (World.block_lt_of_cell? w _ hw644_0)).trans hw644_0), ((HB.out.cell (World.block_lt_of_cell? w _ hw644_1)).trans hw644_1), ((HB.out.cell (World.block_lt_of_cell? w _ hw644_2)).trans hw644_2), ((HB.out.cell (World.block_lt_of_cell? w _ hw645_0)).trans hw645_0), ((HB.out.cell (World.block_lt_of_cell? w _ hw645_1)).trans hw645_1), ((HB.out.cell (World.block_lt_of_cell? w _ hw645_2)).trans hw645_2), ((HB.out.cell (World.block_lt_of_cell? w _ hw646_0)).trans hw646_0), ((HB.out.cell (World.block_lt_of_cell? w _ hw646_1)).trans hw646_1), ((HB.out.cell (World.block_lt_of_cell? w _ hw646_2)).trans hw646_2)⟩ (fun hHeld => ?_); refine with_tabW counterfoilref12_Equal.tab6 counterfoilref12_Equal.bits6 (fun HT_ HW_ => ?_)
            generalize wr.drew = w32 at BK638 BK639 HB HR641_2 HR642_2 HR643_2 HR644_2 HR645_2 HR646_2 hx641_0 hx641_1 hx641_2 hx642_0 hx642_1 hx642_2 hx643_0 hx643_1 hx643_2 hx644_0 hx644_1 hx644_2 hx645_0 hx645_1 hx645_2 hx646_0 hx646_1 hx646_2 hHeld ⊢
            refine pure_ (i:=0) (N:=some 42) (v:=?_) (a':=?_) mk1q83_ rfl rfl (any_of HT_.out (by kernel_rfl)) (fun _ _ _ h => h) (Or.inl ⟨by rfl, ?_⟩) ?_ ?_
            rotate_left
            ·intro w'
             go_simp
             with_reducible rfl
            rotate_left
            ·simp only [Act.put, z1q83_, z2q83_, z3q83_, i64_w, i32_w]
             rfl
            refine pure_ (i:=2) (N:=some 44) (v:=?_) (a':=?_) mk2q83_ rfl rfl (any_of HT_.out (by kernel_rfl)) (fun _ _ _ h => h) (Or.inl ⟨by rfl, ?_⟩) ?_ ?_
            rotate_left
            ·intro w'
             go_simp
             with_reducible rfl
            rotate_left
            ·simp only [Act.put, z1q83_, z2q83_, z3q83_, i64_w, i32_w]
             rfl
            refine pure_ (i:=6) (N:=some 48) (v:=?_) (a':=?_) mk3q83_ rfl rfl (any_of HT_.out (by kernel_rfl)) (fun _ _ _ h => h) (Or.inl ⟨by rfl, ?_⟩) ?_ ?_
            rotate_left
            ·intro w'
             go_simp
             with_reducible rfl
            rotate_left
            ·simp only [Act.put, z1q83_, z2q83_, z3q83_, i64_w, i32_w]
             rfl
            refine pure_ (i:=8) (N:=some 50) (v:=?_) (a':=?_) mk4q83_ rfl rfl (any_of HT_.out (by kernel_rfl)) (fun _ _ _ h => h) (Or.inl ⟨by rfl, ?_⟩) ?_ ?_
            rotate_left
            ·intro w'
             go_simp
             with_reducible rfl
            rotate_left
            ·simp only [Act.put, z1q83_, z2q83_, z3q83_, i64_w, i32_w]
             rfl
            refine take_ (i:=1) (N:=some 43) (v:=?_) (a':=?_) mk5q83_ rfl rfl (take_ofW HT_.out HW_.out (by kernel_rfl)) (fun _ _ _ h => h) (Or.inl ⟨by rfl, ?_⟩) hHeld ?_ ?_
            rotate_left
            ·rintro w' ⟨s0, s1, s2, s3, s4, s5, s6, s7, s8, s9, s10, s11, s12, s13, s14, s15, s16, s17, s18, s19, s20, s21, s22, s23, s24, s25⟩
             go_simp
             with_reducible rfl
            rotate_left
            ·simp only [Act.put, z1q83_, z2q83_, z3q83_, i64_w, i32_w]
             rfl
            refine pure_ (i:=3) (N:=some 45) (v:=?_) (a':=?_) mk6q83_ rfl rfl (any_of HT_.out (by kernel_rfl)) (fun _ _ _ h => h) (Or.inl ⟨by rfl, ?_⟩) ?_ ?_
            rotate_left
            ·intro w'
             go_simp
             with_reducible rfl
            rotate_left
            ·simp only [Act.put, z1q83_, z2q83_, z3q83_, i64_w, i32_w]
             rfl
            refine pure_ (i:=4) (N:=some 46) (v:=?_) (a':=?_) mk7q83_ rfl rfl (any_of HT_.out (by kernel_rfl)) (fun _ _ _ h => h) (Or.inl ⟨by rfl, ?_⟩) ?_ ?_
            rotate_left
            ·intro w'
             go_simp
             with_reducible rfl
            rotate_left
            ·simp only [Act.put, z1q83_, z2q83_, z3q83_, i64_w, i32_w]
             rfl
            refine take_ (i:=5) (N:=some 47) (v:=?_) (a':=?_) mk8q83_ rfl rfl (take_ofW HT_.out HW_.out (by kernel_rfl)) (fun _ _ _ h => h) (Or.inl ⟨by rfl, ?_⟩) hHeld ?_ ?_
            rotate_left
            ·rintro w' ⟨s0, s1, s2, s3, s4, s5, s6, s7, s8, s9, s10, s11, s12, s13, s14, s15, s16, s17, s18, s19, s20, s21, s22, s23, s24, s25⟩
             go_simp
             with_reducible rfl
            rotate_left
            ·simp only [Act.put, z1q83_, z2q83_, z3q83_, i64_w, i32_w]
             rfl
            refine take_ (i:=7) (N:=some 49) (v:=?_) (a':=?_) mk9q83_ rfl rfl (take_ofW HT_.out HW_.out (by kernel_rfl)) (fun _ _ _ h => h) (Or.inl ⟨by rfl, ?_⟩) hHeld ?_ ?_
            rotate_left
            ·rintro w' ⟨s0, s1, s2, s3, s4, s5, s6, s7, s8, s9, s10, s11, s12, s13, s14, s15, s16, s17, s18, s19, s20, s21, s22, s23, s24, s25⟩
             go_simp
             with_reducible rfl
            rotate_left
            ·simp only [Act.put, z1q83_, z2q83_, z3q83_, i64_w, i32_w]
             rfl
            refine pure_ (i:=9) (N:=some 51) (v:=?_) (a':=?_) mk10q83_ rfl rfl (any_of HT_.out (by kernel_rfl)) (fun _ _ _ h => h) (Or.inl ⟨by rfl, ?_⟩) ?_ ?_
            rotate_left
            ·intro w'
             go_simp
             with_reducible rfl
            rotate_left
            ·simp only [Act.put, z1q83_, z2q83_, z3q83_, i64_w, i32_w]
             rfl
            refine pure_ (i:=10) (N:=some 52) (v:=?_) (a':=?_) mk11q83_ rfl rfl (any_of HT_.out (by kernel_rfl)) (fun _ _ _ h => h) (Or.inl ⟨by rfl, ?_⟩) ?_ ?_
            rotate_left
            ·intro w'
             go_simp
             with_reducible rfl
            rotate_left
            ·simp only [Act.put, z1q83_, z2q83_, z3q83_, i64_w, i32_w]
             rfl
            refine take_ (i:=11) (N:=some 53) (v:=?_) (a':=?_) mk12q83_ rfl rfl (take_ofW HT_.out HW_.out (by kernel_rfl)) (fun _ _ _ h => h) (Or.inl ⟨by rfl, ?_⟩) hHeld ?_ ?_
            rotate_left
            ·rintro w' ⟨s0, s1, s2, s3, s4, s5, s6, s7, s8, s9, s10, s11, s12, s13, s14, s15, s16, s17, s18, s19, s20, s21, s22, s23, s24, s25⟩
             go_simp
             with_reducible rfl
            rotate_left
            ·simp only [Act.put, z1q83_, z2q83_, z3q83_, i64_w, i32_w]
             rfl
            refine pure_ (i:=12) (N:=some 54) (v:=?_) (a':=?_) mk13q83_ rfl rfl (any_of HT_.out (by kernel_rfl)) (fun _ _ _ h => h) (Or.inl ⟨by rfl, ?_⟩) ?_ ?_
            rotate_left
            ·intro w'
             go_simp
             with_reducible rfl
            rotate_left
            ·simp only [Act.put, z1q83_, z2q83_, z3q83_, i64_w, i32_w]
             rfl
            refine pure_ (i:=13) (N:=some 55) (v:=?_) (a':=?_) mk14q83_ rfl rfl (any_of HT_.out (by kernel_rfl)) (fun _ _ _ h => h) (Or.inl ⟨by rfl, ?_⟩) ?_ ?_
            rotate_left
            ·intro w'
             go_simp
             with_reducible rfl
            rotate_left
            ·simp only [Act.put, z1q83_, z2q83_, z3q83_, i64_w, i32_w]
             rfl
            refine pure_ (i:=14) (N:=some 56) (v:=?_) (a':=?_) mk15q83_ rfl rfl (any_of HT_.out (by kernel_rfl)) (fun _ _ _ h => h) (Or.inl ⟨by rfl, ?_⟩) ?_ ?_
            rotate_left
            ·intro w'
             go_simp
             with_reducible rfl
            rotate_left
            ·simp only [Act.put, z1q83_, z2q83_, z3q83_, i64_w, i32_w]
             rfl
            refine pure_ (i:=16) (N:=some 58) (v:=?_) (a':=?_) mk16q83_ rfl rfl (any_of HT_.out (by kernel_rfl)) (fun _ _ _ h => h) (Or.inl ⟨by rfl, ?_⟩) ?_ ?_
            rotate_left
            ·intro w'
             go_simp
             with_reducible rfl
            rotate_left
            ·simp only [Act.put, z1q83_, z2q83_, z3q83_, i64_w, i32_w]
             rfl
            refine pure_ (i:=20) (N:=some 62) (v:=?_) (a':=?_) mk17q83_ rfl rfl (any_of HT_.out (by kernel_rfl)) (fun _ _ _ h => h) (Or.inl ⟨by rfl, ?_⟩) ?_ ?_
            rotate_left
            ·intro w'
             go_simp
             with_reducible rfl
            rotate_left
            ·simp only [Act.put, z1q83_, z2q83_, z3q83_, i64_w, i32_w]
             rfl
            refine pure_ (i:=22) (N:=some 64) (v:=?_) (a':=?_) mk18q83_ rfl rfl (any_of HT_.out (by kernel_rfl)) (fun _ _ _ h => h) (Or.inl ⟨by rfl, ?_⟩) ?_ ?_
            rotate_left
            ·intro w'
             go_simp
             with_reducible rfl
            rotate_left
            ·simp only [Act.put, z1q83_, z2q83_, z3q83_, i64_w, i32_w]
             rfl
            refine take_ (i:=15) (N:=some 57) (v:=?_) (a':=?_) mk19q83_ rfl rfl (take_ofW HT_.out HW_.out (by kernel_rfl)) (fun _ _ _ h => h) (Or.inl ⟨by rfl, ?_⟩) hHeld ?_ ?_
            rotate_left
            ·rintro w' ⟨s0, s1, s2, s3, s4, s5, s6, s7, s8, s9, s10, s11, s12, s13, s14, s15, s16, s17, s18, s19, s20, s21, s22, s23, s24, s25⟩
             go_simp
             with_reducible rfl
            rotate_left
            ·simp only [Act.put, z1q83_, z2q83_, z3q83_, i64_w, i32_w]
             rfl
            refine pure_ (i:=17) (N:=some 59) (v:=?_) (a':=?_) mk20q83_ rfl rfl (any_of HT_.out (by kernel_rfl)) (fun _ _ _ h => h) (Or.inl ⟨by rfl, ?_⟩) ?_ ?_
            rotate_left
            ·intro w'
             go_simp
             with_reducible rfl
            rotate_left
            ·simp only [Act.put, z1q83_, z2q83_, z3q83_, i64_w, i32_w]
             rfl
            refine pure_ (i:=18) (N:=some 60) (v:=?_) (a':=?_) mk21q83_ rfl rfl (any_of HT_.out (by kernel_rfl)) (fun _ _ _ h => h) (Or.inl ⟨by rfl, ?_⟩) ?_ ?_
            rotate_left
            ·intro w'
             go_simp
             with_reducible rfl
            rotate_left
            ·simp only [Act.put, z1q83_, z2q83_, z3q83_, i64_w, i32_w]
             rfl
            refine take_ (i:=19) (N:=some 61) (v:=?_) (a':=?_) mk22q83_ rfl rfl (take_ofW HT_.out HW_.out (by kernel_rfl)) (fun _ _ _ h => h) (Or.inl ⟨by rfl, ?_⟩) hHeld ?_ ?_
            rotate_left
            ·rintro w' ⟨s0, s1, s2, s3, s4, s5, s6, s7, s8, s9, s10, s11, s12, s13, s14, s15, s16, s17, s18, s19, s20, s21, s22, s23, s24, s25⟩
             go_simp
             with_reducible rfl
            rotate_left
            ·simp only [Act.put, z1q83_, z2q83_, z3q83_, i64_w, i32_w]
             rfl
            refine take_ (i:=21) (N:=some 63) (v:=?_) (a':=?_) mk23q83_ rfl rfl (take_ofW HT_.out HW_.out (by kernel_rfl)) (fun _ _ _ h => h) (Or.inl ⟨by rfl, ?_⟩) hHeld ?_ ?_
            rotate_left
            ·rintro w' ⟨s0, s1, s2, s3, s4, s5, s6, s7, s8, s9, s10, s11, s12, s13, s14, s15, s16, s17, s18, s19, s20, s21, s22, s23, s24, s25⟩
             go_simp
             with_reducible rfl
            rotate_left
            ·simp only [Act.put, z1q83_, z2q83_, z3q83_, i64_w, i32_w]
             rfl
            refine pure_ (i:=23) (N:=some 65) (v:=?_) (a':=?_) mk24q83_ rfl rfl (any_of HT_.out (by kernel_rfl)) (fun _ _ _ h => h) (Or.inl ⟨by rfl, ?_⟩) ?_ ?_
            rotate_left
            ·intro w'
             go_simp
             with_reducible rfl
            rotate_left
            ·simp only [Act.put, z1q83_, z2q83_, z3q83_, i64_w, i32_w]
             rfl
            refine pure_ (i:=24) (N:=some 66) (v:=?_) (a':=?_) mk25q83_ rfl rfl (any_of HT_.out (by kernel_rfl)) (fun _ _ _ h => h) (Or.inl ⟨by rfl, ?_⟩) ?_ ?_
            rotate_left
            ·intro w'
             go_simp
             with_reducible rfl
            rotate_left
            ·simp only [Act.put, z1q83_, z2q83_, z3q83_, i64_w, i32_w]
             rfl
            refine take_ (i:=25) (N:=some 67) (v:=?_) (a':=?_) mk26q83_ rfl rfl (take_ofW HT_.out HW_.out (by kernel_rfl)) (fun _ _ _ h => h) (Or.inl ⟨by rfl, ?_⟩) hHeld ?_ ?_
            rotate_left
            ·rintro w' ⟨s0, s1, s2, s3, s4, s5, s6, s7, s8, s9, s10, s11, s12, s13, s14, s15, s16, s17, s18, s19, s20, s21, s22, s23, s24, s25⟩
             go_simp
             with_reducible rfl
            rotate_left
            ·simp only [Act.put, z1q83_, z2q83_, z3q83_, i64_w, i32_w]
             rfl
            refine pure_ (i:=26) (N:=some 68) (v:=?_) (a':=?_) mk27q83_ rfl rfl (any_of HT_.out (by kernel_rfl)) (fun _ _ _ h => h) (Or.inl ⟨by rfl, ?_⟩) ?_ ?_
            rotate_left
            ·intro w'
             go_simp
             with_reducible rfl
            rotate_left
            ·simp only [Act.put, z1q83_, z2q83_, z3q83_, i64_w, i32_w]
             rfl
            refine pure_ (i:=27) (N:=some 69) (v:=?_) (a':=?_) mk28q83_ rfl rfl (any_of HT_.out (by kernel_rfl)) (fun _ _ _ h => h) (Or.inl ⟨by rfl, ?_⟩) ?_ ?_
            rotate_left
            ·intro w'
             go_simp
             with_reducible rfl
            rotate_left
            ·simp only [Act.put, z1q83_, z2q83_, z3q83_, i64_w, i32_w]
             rfl
            refine pure_ (i:=28) (N:=some 70) (v:=?_) (a':=?_) mk29q83_ rfl rfl (any_of HT_.out (by kernel_rfl)) (fun _ _ _ h => h) (Or.inl ⟨by rfl, ?_⟩) ?_ ?_
            rotate_left
            ·intro w'
             go_simp
             with_reducible rfl
            rotate_left
            ·simp only [Act.put, z1q83_, z2q83_, z3q83_, i64_w, i32_w]
             rfl
            refine pure_ (i:=29) (N:=some 71) (v:=?_) (a':=?_) mk30q83_ rfl rfl (any_of HT_.out (by kernel_rfl)) (fun _ _ _ h => h) (Or.inl ⟨by rfl, ?_⟩) ?_ ?_
            rotate_left
            ·intro w'
             go_simp
             with_reducible rfl
            rotate_left
            ·simp only [Act.put, z1q83_, z2q83_, z3q83_, i64_w, i32_w]
             rfl
            refine pure_ (i:=31) (N:=some 73) (v:=?_) (a':=?_) mk31q83_ rfl rfl (any_of HT_.out (by kernel_rfl)) (fun _ _ _ h => h) (Or.inl ⟨by rfl, ?_⟩) ?_ ?_
            rotate_left
            ·intro w'
             go_simp
             with_reducible rfl
            rotate_left
            ·simp only [Act.put, z1q83_, z2q83_, z3q83_, i64_w, i32_w]
             rfl
            refine pure_ (i:=35) (N:=some 77) (v:=?_) (a':=?_) mk32q83_ rfl rfl (any_of HT_.out (by kernel_rfl)) (fun _ _ _ h => h) (Or.inl ⟨by rfl, ?_⟩) ?_ ?_
            rotate_left
            ·intro w'
             go_simp
             with_reducible rfl
            rotate_left
            ·simp only [Act.put, z1q83_, z2q83_, z3q83_, i64_w, i32_w]
             rfl
            refine pure_ (i:=37) (N:=some 79) (v:=?_) (a':=?_) mk33q83_ rfl rfl (any_of HT_.out (by kernel_rfl)) (fun _ _ _ h => h) (Or.inl ⟨by rfl, ?_⟩) ?_ ?_
            rotate_left
            ·intro w'
             go_simp
             with_reducible rfl
            rotate_left
            ·simp only [Act.put, z1q83_, z2q83_, z3q83_, i64_w, i32_w]
             rfl
            refine take_ (i:=30) (N:=some 72) (v:=?_) (a':=?_) mk34q83_ rfl rfl (take_ofW HT_.out HW_.out (by kernel_rfl)) (fun _ _ _ h => h) (Or.inl ⟨by rfl, ?_⟩) hHeld ?_ ?_
            rotate_left
            ·rintro w' ⟨s0, s1, s2, s3, s4, s5, s6, s7, s8, s9, s10, s11, s12, s13, s14, s15, s16, s17, s18, s19, s20, s21, s22, s23, s24, s25⟩
             go_simp
             with_reducible rfl
            rotate_left
            ·simp only [Act.put, z1q83_, z2q83_, z3q83_, i64_w, i32_w]
             rfl
            refine pure_ (i:=32) (N:=some 74) (v:=?_) (a':=?_) mk35q83_ rfl rfl (any_of HT_.out (by kernel_rfl)) (fun _ _ _ h => h) (Or.inl ⟨by rfl, ?_⟩) ?_ ?_
            rotate_left
            ·intro w'
             go_simp
             with_reducible rfl
            rotate_left
            ·simp only [Act.put, z1q83_, z2q83_, z3q83_, i64_w, i32_w]
             rfl
            refine pure_ (i:=33) (N:=some 75) (v:=?_) (a':=?_) mk36q83_ rfl rfl (any_of HT_.out (by kernel_rfl)) (fun _ _ _ h => h) (Or.inl ⟨by rfl, ?_⟩) ?_ ?_
            rotate_left
            ·intro w'
             go_simp
             with_reducible rfl
            rotate_left
            ·simp only [Act.put, z1q83_, z2q83_, z3q83_, i64_w, i32_w]
             rfl
            refine take_ (i:=34) (N:=some 76) (v:=?_) (a':=?_) mk37q83_ rfl rfl (take_ofW HT_.out HW_.out (by kernel_rfl)) (fun _ _ _ h => h) (Or.inl ⟨by rfl, ?_⟩) hHeld ?_ ?_
            rotate_left
            ·rintro w' ⟨s0, s1, s2, s3, s4, s5, s6, s7, s8, s9, s10, s11, s12, s13, s14, s15, s16, s17, s18, s19, s20, s21, s22, s23, s24, s25⟩
             go_simp
             with_reducible rfl
            rotate_left
            ·simp only [Act.put, z1q83_, z2q83_, z3q83_, i64_w, i32_w]
             rfl
            refine take_ (i:=36) (N:=some 78) (v:=?_) (a':=?_) mk38q83_ rfl rfl (take_ofW HT_.out HW_.out (by kernel_rfl)) (fun _ _ _ h => h) (Or.inl ⟨by rfl, ?_⟩) hHeld ?_ ?_
            rotate_left
            ·rintro w' ⟨s0, s1, s2, s3, s4, s5, s6, s7, s8, s9, s10, s11, s12, s13, s14, s15, s16, s17, s18, s19, s20, s21, s22, s23, s24, s25⟩
             go_simp
             with_reducible rfl
            rotate_left
            ·simp only [Act.put, z1q83_, z2q83_, z3q83_, i64_w, i32_w]
             rfl
            refine pure_ (i:=38) (N:=some 80) (v:=?_) (a':=?_) mk39q83_ rfl rfl (any_of HT_.out (by kernel_rfl)) (fun _ _ _ h => h) (Or.inl ⟨by rfl, ?_⟩) ?_ ?_
            rotate_left
            ·intro w'
             go_simp
             with_reducible rfl
            rotate_left
            ·simp only [Act.put, z1q83_, z2q83_, z3q83_, i64_w, i32_w]
             rfl
            refine pure_ (i:=39) (N:=some 81) (v:=?_) (a':=?_) mk40q83_ rfl rfl (any_of HT_.out (by kernel_rfl)) (fun _ _ _ h => h) (Or.inl ⟨by rfl, ?_⟩) ?_ ?_
            rotate_left
            ·intro w'
             go_simp
             with_reducible rfl
            rotate_left
            ·simp only [Act.put, z1q83_, z2q83_, z3q83_, i64_w, i32_w]
             rfl
            refine take_ (i:=40) (N:=some 82) (v:=?_) (a':=?_) mk41q83_ rfl rfl (take_ofW HT_.out HW_.out (by kernel_rfl)) (fun _ _ _ h => h) (Or.inl ⟨by rfl, ?_⟩) hHeld ?_ ?_
            rotate_left
            ·rintro w' ⟨s0, s1, s2, s3, s4, s5, s6, s7, s8, s9, s10, s11, s12, s13, s14, s15, s16, s17, s18, s19, s20, s21, s22, s23, s24, s25⟩
             go_simp
             with_reducible rfl
            rotate_left
            ·simp only [Act.put, z1q83_, z2q83_, z3q83_, i64_w, i32_w]
             rfl
            refine one_ (i:=41) (N:=some 83) mk42q83_ rfl rfl (one_of HT_.out (by kernel_rfl)) (by decide) (fun K hK => ?_)
            refine goes_ Try.func49 (by kernel_rfl) rfl #[.slice A641_2 ((rd_T99 l0_0 x5_2).f2).length c641_2, .slice A642_2 ((rd_T99 l1_0 x5_2).f2).length c642_2] (by rfl) rfl rfl (by (try simp only [List.map_toArray, List.map_cons, List.map_nil]); first | done | rfl | (simp only [List.length_drop, List.length_take]; rfl)) ?_
            with_reducible refine (counterfoilref08_Equal.calls k2 _ _ ((rd_T99 l0_0 x5_2).f2) _ _ ((rd_T99 l1_0 x5_2).f2) true _ ?side1 ?side2 ?side3 ?side4 A28.out).mono ?_
            (case side1 => repeat (first | exact (Kd.C_below HR645_2.out HB.out) | (with_reducible refine Kd.C_alloc ?_ _) | (with_reducible refine Kd.C_drewN ?_ _) | (with_reducible refine Kd.C_drew ?_)))
            (case side2 => exact HC645_2.out)
            (case side3 => repeat (first | exact (Kd.C_below HR646_2.out HB.out) | (with_reducible refine Kd.C_alloc ?_ _) | (with_reducible refine Kd.C_drewN ?_ _) | (with_reducible refine Kd.C_drew ?_)))
            (case side4 => exact HC646_2.out)
            rintro e w' ⟨rfl, ⟨nd, rfl⟩⟩
            refine ⟨_, rfl, ?_⟩
            refine hK.out _ _ ⟨(blk_cell BK638.out 0).trans rfl, (blk_cell BK638.out 1).trans rfl, (blk_cell BK638.out 2).trans rfl, (blk_cell BK638.out 3).trans rfl, (blk_cell BK639.out 0).trans rfl, (blk_cell BK639.out 1).trans rfl, (blk_cell BK639.out 2).trans rfl, (blk_cell BK639.out 3).trans rfl, ((HB.out.cell (World.block_lt_of_cell? w _ hw641_0)).trans hw641_0), ((HB.out.cell (World.block_lt_of_cell? w _ hw641_1)).trans hw641_1), ((HB.out.cell (World.block_lt_of_cell? w _ hw641_2)).trans hw641_2), ((HB.out.cell (World.block_lt_of_cell? w _ hw642_0)).trans hw642_0), ((HB.out.cell (World.block_lt_of_cell? w _ hw642_1)).trans hw642_1), ((HB.out.cell (World.block_lt_of_cell? w _ hw642_2)).trans hw642_2), ((HB.out.cell (World.block_lt_of_cell? w _ hw643_0)).trans hw643_0), ((HB.out.cell (World.block_lt_of_cell? w _ hw643_1)).trans hw643_1), ((HB.out.cell (World.block_lt_of_cell? w _ hw643_2)).trans hw643_2), ((HB.out.cell (World.block_lt_of_cell? w _ hw644_0)).trans hw644_0), ((HB.out.cell (World.block_lt_of_cell? w _ hw644_1)).trans hw644_1), ((HB.out.cell (World.block_lt_of_cell? w _ hw644_2)).trans hw644_2), ((HB.out.cell (World.block_lt_of_cell? w _ hw645_0)).trans hw645_0), ((HB.out.cell (World.block_lt_of_cell? w _ hw645_1)).trans hw645_1), ((HB.out.cell (World.block_lt_of_cell? w _ hw645_2)).trans hw645_2), ((HB.out.cell (World.block_lt_of_cell? w _ hw646_0)).trans hw646_0), ((HB.out.cell (World.block_lt_of_cell? w _ hw646_1)).trans hw646_1), ((HB.out.cell (World.block_lt_of_cell? w _ hw646_2)).trans hw646_2)⟩ (fun hHeld => ?_)
            clear hK K
            refine norm_ (a' := ?_) ?_ ?_
            rotate_left
            ·show Act.put _ (some 83) _ = _
             simp only [Act.put, z1q83_, z2q83_, z3q83_, i64_w, i32_w]
             rfl
            refine pure_ (i:=42) (N:=some 84) (v:=?_) (a':=?_) mk43q83_ rfl rfl (any_of HT_.out (by kernel_rfl)) (fun _ _ _ h => h) (Or.inl ⟨by rfl, ?_⟩) ?_ ?_
            rotate_left
            ·intro w'
             go_simp
             with_reducible rfl
            rotate_left
            ·simp only [Act.put, z1q83_, z2q83_, z3q83_, i64_w, i32_w]
             rfl
            refine pure_ (i:=43) (N:=some 85) (v:=?_) (a':=?_) mk44q83_ rfl rfl (any_of HT_.out (by kernel_rfl)) (fun _ _ _ h => h) (Or.inl ⟨by rfl, ?_⟩) ?_ ?_
            rotate_left
            ·intro w'
             go_simp
             with_reducible rfl
            rotate_left
            ·simp only [Act.put, z1q83_, z2q83_, z3q83_, i64_w, i32_w]
             rfl
            refine done_ (done_of HT_.out (by kernel_rfl)) ?_
            try go_wp2
            go_roundg k2
            case measure => have := HJ2.out; have := HK2.out; omega
            case rel => exact ⟨(wrap64 (x5_2 + 1)), (by first | rfl | (simp; done) | (simp [*]; done)), H', ⟨by have := HJ2.out; have := HK2.out; omega⟩, ⟨by (with_reducible repeat (first | refine blk_drewN ?_ _ | refine blk_drew ?_ | refine blk_alloc ?_ _)); exact BK638.out⟩, ⟨by (with_reducible repeat (first | refine blk_drewN ?_ _ | refine blk_drew ?_ | refine blk_alloc ?_ _)); exact BK639.out⟩, ⟨by repeat (first | (with_reducible first | exact HB.out | apply below_alloc | apply pw_below_drewN | apply below_drew1 | refine below_set ?_ GE638.out | refine below_set ?_ GE639.out) | exact HB.out)⟩⟩
           ·replace c29 := Bool.eq_false_iff.mpr c29
            subst c29
            have H1 : (some false) = some r := by rw [if_neg (show ¬ (false = true) by decide)] at H; exact H
            clear H
            have H := H1
            clear H1
            obtain rfl := Option.some.inj H
            have hnb33 := NB638_639.out
            have hnc33 := NB639_638.out
            have hcz34_0 : wr.cell? ⟨gb638, 0, none⟩ = some (.slice A0_0 l0_0.length c0_0) := (blk_cell BK638.out 0).trans rfl
            have hcz34_1 : wr.cell? ⟨gb638, 1, none⟩ = some (.slice A0_1 l0_1.length c0_1) := (blk_cell BK638.out 1).trans rfl
            have hcz34_2 : wr.cell? ⟨gb638, 2, none⟩ = some (.int .i64 a0_2) := (blk_cell BK638.out 2).trans rfl
            have hcz34_3 : wr.cell? ⟨gb638, 3, none⟩ = some (.int .i64 a0_3) := (blk_cell BK638.out 3).trans rfl
            have hfz34_0 := blk_frozen BK638.out 0
            have hfz34_1 := blk_frozen BK638.out 1
            have hfz34_2 := blk_frozen BK638.out 2
            have hfz34_3 := blk_frozen BK638.out 3
            try go_wp2
            have n0_ := A0q83_ (blk_drew BK638.out)
            have n1_ := A0q83_ (blk_drew BK639.out)
            have n2_ := A0q83_ (below_drew1 HB.out)
            clear BK638
            clear BK639
            clear HB
            have BK638 := n0_
            have BK639 := n1_
            have HB := n2_
            clear n0_ n1_ n2_
            have p641 : 0 ≤ (x5_2 : Int) := of_decide_eq_true (by first | (with_reducible assumption) | assumption)
            have q641 : x5_2 < (l0_0.length : Int) := of_decide_eq_true (by first | (with_reducible assumption) | assumption)
            obtain ⟨ad641, A641_2, c641_2, e641, hx641_0, hx641_1, hx641_2, hl641_2, hi641_2⟩ := at_T99 HR0_0.out x5_2 p641 q641
            have hw641_2 := hx641_2
            have hw641_1 := hx641_1
            have hw641_0 := hx641_0
            cases e641
            replace hx641_0 := (HB.out.cell (World.block_lt_of_cell? w _ hx641_0)).trans hx641_0
            replace hx641_1 := (HB.out.cell (World.block_lt_of_cell? w _ hx641_1)).trans hx641_1
            replace hx641_2 := (HB.out.cell (World.block_lt_of_cell? w _ hx641_2)).trans hx641_2
            have HR641_2 := A0q83_ hi641_2
            have HC641_2 := A0q83_ hl641_2
            clear hi641_2 hl641_2
            replace p641 := eq_true p641
            replace q641 := eq_true q641
            have p642 : 0 ≤ (x5_2 : Int) := of_decide_eq_true (by first | (with_reducible assumption) | assumption)
            have q642 : x5_2 < (l1_0.length : Int) := of_decide_eq_true (by first | (with_reducible assumption) | assumption)
            obtain ⟨ad642, A642_2, c642_2, e642, hx642_0, hx642_1, hx642_2, hl642_2, hi642_2⟩ := at_T99 HR1_0.out x5_2 p642 q642
            have hw642_2 := hx642_2
            have hw642_1 := hx642_1
            have hw642_0 := hx642_0
            cases e642
            replace hx642_0 := (HB.out.cell (World.block_lt_of_cell? w _ hx642_0)).trans hx642_0
            replace hx642_1 := (HB.out.cell (World.block_lt_of_cell? w _ hx642_1)).trans hx642_1
            replace hx642_2 := (HB.out.cell (World.block_lt_of_cell? w _ hx642_2)).trans hx642_2
            have HR642_2 := A0q83_ hi642_2
            have HC642_2 := A0q83_ hl642_2
            clear hi642_2 hl642_2
            replace p642 := eq_true p642
            replace q642 := eq_true q642
            have p643 : 0 ≤ (x5_2 : Int) := of_decide_eq_true (by first | (with_reducible assumption) | assumption)
            have q643 : x5_2 < (l0_0.length : Int) := of_decide_eq_true (by first | (with_reducible assumption) | assumption)
            obtain ⟨ad643, A643_2, c643_2, e643, hx643_0, hx643_1, hx643_2, hl643_2, hi643_2⟩ := at_T99 HR0_0.out x5_2 p643 q643
            have hw643_2 := hx643_2
            have hw643_1 := hx643_1
            have hw643_0 := hx643_0
            obtain rfl : ad641 = ad643 := (by injection e643)
            replace hx643_0 := (HB.out.cell (World.block_lt_of_cell? w _ hx643_0)).trans hx643_0
            replace hx643_1 := (HB.out.cell (World.block_lt_of_cell? w _ hx643_1)).trans hx643_1
            replace hx643_2 := (HB.out.cell (World.block_lt_of_cell? w _ hx643_2)).trans hx643_2
            have HR643_2 := A0q83_ hi643_2
            have HC643_2 := A0q83_ hl643_2
            clear hi643_2 hl643_2
            replace p643 := eq_true p643
            replace q643 := eq_true q643
            have ea_ := Option.some.inj (hx641_2.symm.trans hx643_2)
            injection ea_ with ea_ en_ ec_
            subst ea_
            subst ec_
            clear en_
            have p644 : 0 ≤ (x5_2 : Int) := of_decide_eq_true (by first | (with_reducible assumption) | assumption)
            have q644 : x5_2 < (l1_0.length : Int) := of_decide_eq_true (by first | (with_reducible assumption) | assumption)
            obtain ⟨ad644, A644_2, c644_2, e644, hx644_0, hx644_1, hx644_2, hl644_2, hi644_2⟩ := at_T99 HR1_0.out x5_2 p644 q644
            have hw644_2 := hx644_2
            have hw644_1 := hx644_1
            have hw644_0 := hx644_0
            obtain rfl : ad642 = ad644 := (by injection e644)
            replace hx644_0 := (HB.out.cell (World.block_lt_of_cell? w _ hx644_0)).trans hx644_0
            replace hx644_1 := (HB.out.cell (World.block_lt_of_cell? w _ hx644_1)).trans hx644_1
            replace hx644_2 := (HB.out.cell (World.block_lt_of_cell? w _ hx644_2)).trans hx644_2
            have HR644_2 := A0q83_ hi644_2
            have HC644_2 := A0q83_ hl644_2
            clear hi644_2 hl644_2
            replace p644 := eq_true p644
            replace q644 := eq_true q644
            have ea_ := Option.some.inj (hx642_2.symm.trans hx644_2)
            injection ea_ with ea_ en_ ec_
            subst ea_
            subst ec_
            clear en_
            have p645 : 0 ≤ (x5_2 : Int) := of_decide_eq_true (by first | (with_reducible assumption) | assumption)
            have q645 : x5_2 < (l0_0.length : Int) := of_decide_eq_true (by first | (with_reducible assumption) | assumption)
            obtain ⟨ad645, A645_2, c645_2, e645, hx645_0, hx645_1, hx645_2, hl645_2, hi645_2⟩ := at_T99 HR0_0.out x5_2 p645 q645
            have hw645_2 := hx645_2
            have hw645_1 := hx645_1
            have hw645_0 := hx645_0
            obtain rfl : ad641 = ad645 := (by injection e645)
            replace hx645_0 := (HB.out.cell (World.block_lt_of_cell? w _ hx645_0)).trans hx645_0
            replace hx645_1 := (HB.out.cell (World.block_lt_of_cell? w _ hx645_1)).trans hx645_1
            replace hx645_2 := (HB.out.cell (World.block_lt_of_cell? w _ hx645_2)).trans hx645_2
            have HR645_2 := A0q83_ hi645_2
            have HC645_2 := A0q83_ hl645_2
            clear hi645_2 hl645_2
            replace p645 := eq_true p645
            replace q645 := eq_true q645
            have ea_ := Option.some.inj (hx641_2.symm.trans hx645_2)
            injection ea_ with ea_ en_ ec_
            subst ea_
            subst ec_
            clear en_
            have p646 : 0 ≤ (x5_2 : Int) := of_decide_eq_true (by first | (with_reducible assumption) | assumption)
            have q646 : x5_2 < (l1_0.length : Int) := of_decide_eq_true (by first | (with_reducible assumption) | assumption)
            obtain ⟨ad646, A646_2, c646_2, e646, hx646_0, hx646_1, hx646_2, hl646_2, hi646_2⟩ := at_T99 HR1_0.out x5_2 p646 q646
            have hw646_2 := hx646_2
            have hw646_1 := hx646_1
            have hw646_0 := hx646_0
            obtain rfl : ad642 = ad646 := (by injection e646)
            replace hx646_0 := (HB.out.cell (World.block_lt_of_cell? w _ hx646_0)).trans hx646_0
            replace hx646_1 := (HB.out.cell (World.block_lt_of_cell? w _ hx646_1)).trans hx646_1
            replace hx646_2 := (HB.out.cell (World.block_lt_of_cell? w _ hx646_2)).trans hx646_2
            have HR646_2 := A0q83_ hi646_2
            have HC646_2 := A0q83_ hl646_2
            clear hi646_2 hl646_2
            replace p646 := eq_true p646
            replace q646 := eq_true q646
            have ea_ := Option.some.inj (hx642_2.symm.trans hx646_2)
            injection ea_ with ea_ en_ ec_
            subst ea_
            subst ec_
            clear en_
            refine start_ (n := 44) (S := fun w' => w'.cell? ⟨gb638, 0, none⟩ = some (.slice (some ad641) l0_0.length c0_0) ∧ w'.cell? ⟨gb638, 1, none⟩ = some (.slice A0_1 l0_1.length c0_1) ∧ w'.cell? ⟨gb638, 2, none⟩ = some (.int .i64 a0_2) ∧ w'.cell? ⟨gb638, 3, none⟩ = some (.int .i64 a0_3) ∧ w'.cell? ⟨gb639, 0, none⟩ = some (.slice (some ad642) l1_0.length c1_0) ∧ w'.cell? ⟨gb639, 1, none⟩ = some (.slice A1_1 l1_1.length c1_1) ∧ w'.cell? ⟨gb639, 2, none⟩ = some (.int .i64 a1_2) ∧ w'.cell? ⟨gb639, 3, none⟩ = some (.int .i64 a1_3) ∧ w'.cell? (ad641.add ((x5_2).toNat * 3)) = some (.int .i64 ((rd_T99 l0_0 x5_2).f0)) ∧ w'.cell? ⟨(ad641.add ((x5_2).toNat * 3)).block, (ad641.add ((x5_2).toNat * 3)).off + 1, none⟩ = some (.int .i64 ((rd_T99 l0_0 x5_2).f1)) ∧ w'.cell? ⟨(ad641.add ((x5_2).toNat * 3)).block, (ad641.add ((x5_2).toNat * 3)).off + 2, none⟩ = some (.slice A641_2 ((rd_T99 l0_0 x5_2).f2).length c641_2) ∧ w'.cell? (ad642.add ((x5_2).toNat * 3)) = some (.int .i64 ((rd_T99 l1_0 x5_2).f0)) ∧ w'.cell? ⟨(ad642.add ((x5_2).toNat * 3)).block, (ad642.add ((x5_2).toNat * 3)).off + 1, none⟩ = some (.int .i64 ((rd_T99 l1_0 x5_2).f1)) ∧ w'.cell? ⟨(ad642.add ((x5_2).toNat * 3)).block, (ad642.add ((x5_2).toNat * 3)).off + 2, none⟩ = some (.slice A642_2 ((rd_T99 l1_0 x5_2).f2).length c642_2) ∧ w'.cell? (ad641.add ((x5_2).toNat * 3)) = some (.int .i64 ((rd_T99 l0_0 x5_2).f0)) ∧ w'.cell? ⟨(ad641.add ((x5_2).toNat * 3)).block, (ad641.add ((x5_2).toNat * 3)).off + 1, none⟩ = some (.int .i64 ((rd_T99 l0_0 x5_2).f1)) ∧ w'.cell? ⟨(ad641.add ((x5_2).toNat * 3)).block, (ad641.add ((x5_2).toNat * 3)).off + 2, none⟩ = some (.slice A641_2 ((rd_T99 l0_0 x5_2).f2).length c641_2) ∧ w'.cell? (ad642.add ((x5_2).toNat * 3)) = some (.int .i64 ((rd_T99 l1_0 x5_2).f0)) ∧ w'.cell? ⟨(ad642.add ((x5_2).toNat * 3)).block, (ad642.add ((x5_2).toNat * 3)).off + 1, none⟩ = some (.int .i64 ((rd_T99 l1_0 x5_2).f1)) ∧ w'.cell? ⟨(ad642.add ((x5_2).toNat * 3)).block, (ad642.add ((x5_2).toNat * 3)).off + 2, none⟩ = some (.slice A642_2 ((rd_T99 l1_0 x5_2).f2).length c642_2) ∧ w'.cell? (ad641.add ((x5_2).toNat * 3)) = some (.int .i64 ((rd_T99 l0_0 x5_2).f0)) ∧ w'.cell? ⟨(ad641.add ((x5_2).toNat * 3)).block, (ad641.add ((x5_2).toNat * 3)).off + 1, none⟩ = some (.int .i64 ((rd_T99 l0_0 x5_2).f1)) ∧ w'.cell? ⟨(ad641.add ((x5_2).toNat * 3)).block, (ad641.add ((x5_2).toNat * 3)).off + 2, none⟩ = some (.slice A641_2 ((rd_T99 l0_0 x5_2).f2).length c641_2) ∧ w'.cell? (ad642.add ((x5_2).toNat * 3)) = some (.int .i64 ((rd_T99 l1_0 x5_2).f0)) ∧ w'.cell? ⟨(ad642.add ((x5_2).toNat * 3)).block, (ad642.add ((x5_2).toNat * 3)).off + 1, none⟩ = some (.int .i64 ((rd_T99 l1_0 x5_2).f1)) ∧ w'.cell? ⟨(ad642.add ((x5_2).toNat * 3)).block, (ad642.add ((x5_2).toNat * 3)).off + 2, none⟩ = some (.slice A642_2 ((rd_T99 l1_0 x5_2).f2).length c642_2)) (ds := []) mk0q83_ (by kernel_rfl) rfl rfl ⟨(blk_cell BK638.out 0).trans rfl, (blk_cell BK638.out 1).trans rfl, (blk_cell BK638.out 2).trans rfl, (blk_cell BK638.out 3).trans rfl, (blk_cell BK639.out 0).trans rfl, (blk_cell BK639.out 1).trans rfl, (blk_cell BK639.out 2).trans rfl, (blk_cell BK639.out 3).trans rfl, ((HB.out.cell (World.block_lt_of_cell? w _ hw641_0)).trans hw641_0), ((HB.out.cell (World.block_lt_of_cell? w _ hw641_1)).trans hw641_1), ((HB.out.cell (World.block_lt_of_cell? w _ hw641_2)).trans hw641_2), ((HB.out.cell (World.block_lt_of_cell? w _ hw642_0)).trans hw642_0), ((HB.out.cell (World.block_lt_of_cell? w _ hw642_1)).trans hw642_1), ((HB.out.cell (World.block_lt_of_cell? w _ hw642_2)).trans hw642_2), ((HB.out.cell (World.block_lt_of_cell? w _ hw643_0)).trans hw643_0), ((HB.out.cell (World.block_lt_of_cell? w _ hw643_1)).trans hw643_1), ((HB.out.cell (World.block_lt_of_cell? w _ hw643_2)).trans hw643_2), ((HB.out.cell (World.block_lt_of_cell? w _ hw644_0)).trans hw644_0), ((HB.out.cell (World.block_lt_of_cell? w _ hw644_1)).trans hw644_1), ((HB.out.cell (World.block_lt_of_cell? w _ hw644_2)).trans hw644_2), ((HB.out.cell (World.block_lt_of_cell? w _ hw645_0)).trans hw645_0), ((HB.out.cell (World.block_lt_of_cell? w _ hw645_1)).trans hw645_1), ((HB.out.cell (World.block_lt_of_cell? w _ hw645_2)).trans hw645_2), ((HB.out.cell (World.block_lt_of_cell? w _ hw646_0)).trans hw646_0), ((HB.out.cell (World.block_lt_of_cell? w _ hw646_1)).trans hw646_1), ((HB.out.cell (World.block_lt_of_cell? w _ hw646_2)).trans hw646_2)⟩ (fun hHeld => ?_); refine with_tabW counterfoilref12_Equal.tab6 counterfoilref12_Equal.bits6 (fun HT_ HW_ => ?_)
            generalize wr.drew = w35 at BK638 BK639 HB HR641_2 HR642_2 HR643_2 HR644_2 HR645_2 HR646_2 hx641_0 hx641_1 hx641_2 hx642_0 hx642_1 hx642_2 hx643_0 hx643_1 hx643_2 hx644_0 hx644_1 hx644_2 hx645_0 hx645_1 hx645_2 hx646_0 hx646_1 hx646_2 hHeld ⊢
            refine pure_ (i:=0) (N:=some 42) (v:=?_) (a':=?_) mk1q83_ rfl rfl (any_of HT_.out (by kernel_rfl)) (fun _ _ _ h => h) (Or.inl ⟨by rfl, ?_⟩) ?_ ?_
            rotate_left
            ·intro w'
             go_simp
             with_reducible rfl
            rotate_left
            ·simp only [Act.put, z1q83_, z2q83_, z3q83_, i64_w, i32_w]
             rfl
            refine pure_ (i:=2) (N:=some 44) (v:=?_) (a':=?_) mk2q83_ rfl rfl (any_of HT_.out (by kernel_rfl)) (fun _ _ _ h => h) (Or.inl ⟨by rfl, ?_⟩) ?_ ?_
            rotate_left
            ·intro w'
             go_simp
             with_reducible rfl
            rotate_left
            ·simp only [Act.put, z1q83_, z2q83_, z3q83_, i64_w, i32_w]
             rfl
            refine pure_ (i:=6) (N:=some 48) (v:=?_) (a':=?_) mk3q83_ rfl rfl (any_of HT_.out (by kernel_rfl)) (fun _ _ _ h => h) (Or.inl ⟨by rfl, ?_⟩) ?_ ?_
            rotate_left
            ·intro w'
             go_simp
             with_reducible rfl
            rotate_left
            ·simp only [Act.put, z1q83_, z2q83_, z3q83_, i64_w, i32_w]
             rfl
            refine pure_ (i:=8) (N:=some 50) (v:=?_) (a':=?_) mk4q83_ rfl rfl (any_of HT_.out (by kernel_rfl)) (fun _ _ _ h => h) (Or.inl ⟨by rfl, ?_⟩) ?_ ?_
            rotate_left
            ·intro w'
             go_simp
             with_reducible rfl
            rotate_left
            ·simp only [Act.put, z1q83_, z2q83_, z3q83_, i64_w, i32_w]
             rfl
            refine take_ (i:=1) (N:=some 43) (v:=?_) (a':=?_) mk5q83_ rfl rfl (take_ofW HT_.out HW_.out (by kernel_rfl)) (fun _ _ _ h => h) (Or.inl ⟨by rfl, ?_⟩) hHeld ?_ ?_
            rotate_left
            ·rintro w' ⟨s0, s1, s2, s3, s4, s5, s6, s7, s8, s9, s10, s11, s12, s13, s14, s15, s16, s17, s18, s19, s20, s21, s22, s23, s24, s25⟩
             go_simp
             with_reducible rfl
            rotate_left
            ·simp only [Act.put, z1q83_, z2q83_, z3q83_, i64_w, i32_w]
             rfl
            refine pure_ (i:=3) (N:=some 45) (v:=?_) (a':=?_) mk6q83_ rfl rfl (any_of HT_.out (by kernel_rfl)) (fun _ _ _ h => h) (Or.inl ⟨by rfl, ?_⟩) ?_ ?_
            rotate_left
            ·intro w'
             go_simp
             with_reducible rfl
            rotate_left
            ·simp only [Act.put, z1q83_, z2q83_, z3q83_, i64_w, i32_w]
             rfl
            refine pure_ (i:=4) (N:=some 46) (v:=?_) (a':=?_) mk7q83_ rfl rfl (any_of HT_.out (by kernel_rfl)) (fun _ _ _ h => h) (Or.inl ⟨by rfl, ?_⟩) ?_ ?_
            rotate_left
            ·intro w'
             go_simp
             with_reducible rfl
            rotate_left
            ·simp only [Act.put, z1q83_, z2q83_, z3q83_, i64_w, i32_w]
             rfl
            refine take_ (i:=5) (N:=some 47) (v:=?_) (a':=?_) mk8q83_ rfl rfl (take_ofW HT_.out HW_.out (by kernel_rfl)) (fun _ _ _ h => h) (Or.inl ⟨by rfl, ?_⟩) hHeld ?_ ?_
            rotate_left
            ·rintro w' ⟨s0, s1, s2, s3, s4, s5, s6, s7, s8, s9, s10, s11, s12, s13, s14, s15, s16, s17, s18, s19, s20, s21, s22, s23, s24, s25⟩
             go_simp
             with_reducible rfl
            rotate_left
            ·simp only [Act.put, z1q83_, z2q83_, z3q83_, i64_w, i32_w]
             rfl
            refine take_ (i:=7) (N:=some 49) (v:=?_) (a':=?_) mk9q83_ rfl rfl (take_ofW HT_.out HW_.out (by kernel_rfl)) (fun _ _ _ h => h) (Or.inl ⟨by rfl, ?_⟩) hHeld ?_ ?_
            rotate_left
            ·rintro w' ⟨s0, s1, s2, s3, s4, s5, s6, s7, s8, s9, s10, s11, s12, s13, s14, s15, s16, s17, s18, s19, s20, s21, s22, s23, s24, s25⟩
             go_simp
             with_reducible rfl
            rotate_left
            ·simp only [Act.put, z1q83_, z2q83_, z3q83_, i64_w, i32_w]
             rfl
            refine pure_ (i:=9) (N:=some 51) (v:=?_) (a':=?_) mk10q83_ rfl rfl (any_of HT_.out (by kernel_rfl)) (fun _ _ _ h => h) (Or.inl ⟨by rfl, ?_⟩) ?_ ?_
            rotate_left
            ·intro w'
             go_simp
             with_reducible rfl
            rotate_left
            ·simp only [Act.put, z1q83_, z2q83_, z3q83_, i64_w, i32_w]
             rfl
            refine pure_ (i:=10) (N:=some 52) (v:=?_) (a':=?_) mk11q83_ rfl rfl (any_of HT_.out (by kernel_rfl)) (fun _ _ _ h => h) (Or.inl ⟨by rfl, ?_⟩) ?_ ?_
            rotate_left
            ·intro w'
             go_simp
             with_reducible rfl
            rotate_left
            ·simp only [Act.put, z1q83_, z2q83_, z3q83_, i64_w, i32_w]
             rfl
            refine take_ (i:=11) (N:=some 53) (v:=?_) (a':=?_) mk12q83_ rfl rfl (take_ofW HT_.out HW_.out (by kernel_rfl)) (fun _ _ _ h => h) (Or.inl ⟨by rfl, ?_⟩) hHeld ?_ ?_
            rotate_left
            ·rintro w' ⟨s0, s1, s2, s3, s4, s5, s6, s7, s8, s9, s10, s11, s12, s13, s14, s15, s16, s17, s18, s19, s20, s21, s22, s23, s24, s25⟩
             go_simp
             with_reducible rfl
            rotate_left
            ·simp only [Act.put, z1q83_, z2q83_, z3q83_, i64_w, i32_w]
             rfl
            refine pure_ (i:=12) (N:=some 54) (v:=?_) (a':=?_) mk13q83_ rfl rfl (any_of HT_.out (by kernel_rfl)) (fun _ _ _ h => h) (Or.inl ⟨by rfl, ?_⟩) ?_ ?_
            rotate_left
            ·intro w'
             go_simp
             with_reducible rfl
            rotate_left
            ·simp only [Act.put, z1q83_, z2q83_, z3q83_, i64_w, i32_w]
             rfl
            refine pure_ (i:=13) (N:=some 55) (v:=?_) (a':=?_) mk14q83_ rfl rfl (any_of HT_.out (by kernel_rfl)) (fun _ _ _ h => h) (Or.inl ⟨by rfl, ?_⟩) ?_ ?_
            rotate_left
            ·intro w'
             go_simp
             with_reducible rfl
            rotate_left
            ·simp only [Act.put, z1q83_, z2q83_, z3q83_, i64_w, i32_w]
             rfl
            refine pure_ (i:=14) (N:=some 56) (v:=?_) (a':=?_) mk15q83_ rfl rfl (any_of HT_.out (by kernel_rfl)) (fun _ _ _ h => h) (Or.inl ⟨by rfl, ?_⟩) ?_ ?_
            rotate_left
            ·intro w'
             go_simp
             with_reducible rfl
            rotate_left
            ·simp only [Act.put, z1q83_, z2q83_, z3q83_, i64_w, i32_w]
             rfl
            refine pure_ (i:=16) (N:=some 58) (v:=?_) (a':=?_) mk16q83_ rfl rfl (any_of HT_.out (by kernel_rfl)) (fun _ _ _ h => h) (Or.inl ⟨by rfl, ?_⟩) ?_ ?_
            rotate_left
            ·intro w'
             go_simp
             with_reducible rfl
            rotate_left
            ·simp only [Act.put, z1q83_, z2q83_, z3q83_, i64_w, i32_w]
             rfl
            refine pure_ (i:=20) (N:=some 62) (v:=?_) (a':=?_) mk17q83_ rfl rfl (any_of HT_.out (by kernel_rfl)) (fun _ _ _ h => h) (Or.inl ⟨by rfl, ?_⟩) ?_ ?_
            rotate_left
            ·intro w'
             go_simp
             with_reducible rfl
            rotate_left
            ·simp only [Act.put, z1q83_, z2q83_, z3q83_, i64_w, i32_w]
             rfl
            refine pure_ (i:=22) (N:=some 64) (v:=?_) (a':=?_) mk18q83_ rfl rfl (any_of HT_.out (by kernel_rfl)) (fun _ _ _ h => h) (Or.inl ⟨by rfl, ?_⟩) ?_ ?_
            rotate_left
            ·intro w'
             go_simp
             with_reducible rfl
            rotate_left
            ·simp only [Act.put, z1q83_, z2q83_, z3q83_, i64_w, i32_w]
             rfl
            refine take_ (i:=15) (N:=some 57) (v:=?_) (a':=?_) mk19q83_ rfl rfl (take_ofW HT_.out HW_.out (by kernel_rfl)) (fun _ _ _ h => h) (Or.inl ⟨by rfl, ?_⟩) hHeld ?_ ?_
            rotate_left
            ·rintro w' ⟨s0, s1, s2, s3, s4, s5, s6, s7, s8, s9, s10, s11, s12, s13, s14, s15, s16, s17, s18, s19, s20, s21, s22, s23, s24, s25⟩
             go_simp
             with_reducible rfl
            rotate_left
            ·simp only [Act.put, z1q83_, z2q83_, z3q83_, i64_w, i32_w]
             rfl
            refine pure_ (i:=17) (N:=some 59) (v:=?_) (a':=?_) mk20q83_ rfl rfl (any_of HT_.out (by kernel_rfl)) (fun _ _ _ h => h) (Or.inl ⟨by rfl, ?_⟩) ?_ ?_
            rotate_left
            ·intro w'
             go_simp
             with_reducible rfl
            rotate_left
            ·simp only [Act.put, z1q83_, z2q83_, z3q83_, i64_w, i32_w]
             rfl
            refine pure_ (i:=18) (N:=some 60) (v:=?_) (a':=?_) mk21q83_ rfl rfl (any_of HT_.out (by kernel_rfl)) (fun _ _ _ h => h) (Or.inl ⟨by rfl, ?_⟩) ?_ ?_
            rotate_left
            ·intro w'
             go_simp
             with_reducible rfl
            rotate_left
            ·simp only [Act.put, z1q83_, z2q83_, z3q83_, i64_w, i32_w]
             rfl
            refine take_ (i:=19) (N:=some 61) (v:=?_) (a':=?_) mk22q83_ rfl rfl (take_ofW HT_.out HW_.out (by kernel_rfl)) (fun _ _ _ h => h) (Or.inl ⟨by rfl, ?_⟩) hHeld ?_ ?_
            rotate_left
            ·rintro w' ⟨s0, s1, s2, s3, s4, s5, s6, s7, s8, s9, s10, s11, s12, s13, s14, s15, s16, s17, s18, s19, s20, s21, s22, s23, s24, s25⟩
             go_simp
             with_reducible rfl
            rotate_left
            ·simp only [Act.put, z1q83_, z2q83_, z3q83_, i64_w, i32_w]
             rfl
            refine take_ (i:=21) (N:=some 63) (v:=?_) (a':=?_) mk23q83_ rfl rfl (take_ofW HT_.out HW_.out (by kernel_rfl)) (fun _ _ _ h => h) (Or.inl ⟨by rfl, ?_⟩) hHeld ?_ ?_
            rotate_left
            ·rintro w' ⟨s0, s1, s2, s3, s4, s5, s6, s7, s8, s9, s10, s11, s12, s13, s14, s15, s16, s17, s18, s19, s20, s21, s22, s23, s24, s25⟩
             go_simp
             with_reducible rfl
            rotate_left
            ·simp only [Act.put, z1q83_, z2q83_, z3q83_, i64_w, i32_w]
             rfl
            refine pure_ (i:=23) (N:=some 65) (v:=?_) (a':=?_) mk24q83_ rfl rfl (any_of HT_.out (by kernel_rfl)) (fun _ _ _ h => h) (Or.inl ⟨by rfl, ?_⟩) ?_ ?_
            rotate_left
            ·intro w'
             go_simp
             with_reducible rfl
            rotate_left
            ·simp only [Act.put, z1q83_, z2q83_, z3q83_, i64_w, i32_w]
             rfl
            refine pure_ (i:=24) (N:=some 66) (v:=?_) (a':=?_) mk25q83_ rfl rfl (any_of HT_.out (by kernel_rfl)) (fun _ _ _ h => h) (Or.inl ⟨by rfl, ?_⟩) ?_ ?_
            rotate_left
            ·intro w'
             go_simp
             with_reducible rfl
            rotate_left
            ·simp only [Act.put, z1q83_, z2q83_, z3q83_, i64_w, i32_w]
             rfl
            refine take_ (i:=25) (N:=some 67) (v:=?_) (a':=?_) mk26q83_ rfl rfl (take_ofW HT_.out HW_.out (by kernel_rfl)) (fun _ _ _ h => h) (Or.inl ⟨by rfl, ?_⟩) hHeld ?_ ?_
            rotate_left
            ·rintro w' ⟨s0, s1, s2, s3, s4, s5, s6, s7, s8, s9, s10, s11, s12, s13, s14, s15, s16, s17, s18, s19, s20, s21, s22, s23, s24, s25⟩
             go_simp
             with_reducible rfl
            rotate_left
            ·simp only [Act.put, z1q83_, z2q83_, z3q83_, i64_w, i32_w]
             rfl
            refine pure_ (i:=26) (N:=some 68) (v:=?_) (a':=?_) mk27q83_ rfl rfl (any_of HT_.out (by kernel_rfl)) (fun _ _ _ h => h) (Or.inl ⟨by rfl, ?_⟩) ?_ ?_
            rotate_left
            ·intro w'
             go_simp
             with_reducible rfl
            rotate_left
            ·simp only [Act.put, z1q83_, z2q83_, z3q83_, i64_w, i32_w]
             rfl
            refine pure_ (i:=27) (N:=some 69) (v:=?_) (a':=?_) mk28q83_ rfl rfl (any_of HT_.out (by kernel_rfl)) (fun _ _ _ h => h) (Or.inl ⟨by rfl, ?_⟩) ?_ ?_
            rotate_left
            ·intro w'
             go_simp
             with_reducible rfl
            rotate_left
            ·simp only [Act.put, z1q83_, z2q83_, z3q83_, i64_w, i32_w]
             rfl
            refine pure_ (i:=28) (N:=some 70) (v:=?_) (a':=?_) mk29q83_ rfl rfl (any_of HT_.out (by kernel_rfl)) (fun _ _ _ h => h) (Or.inl ⟨by rfl, ?_⟩) ?_ ?_
            rotate_left
            ·intro w'
             go_simp
             with_reducible rfl
            rotate_left
            ·simp only [Act.put, z1q83_, z2q83_, z3q83_, i64_w, i32_w]
             rfl
            refine pure_ (i:=29) (N:=some 71) (v:=?_) (a':=?_) mk30q83_ rfl rfl (any_of HT_.out (by kernel_rfl)) (fun _ _ _ h => h) (Or.inl ⟨by rfl, ?_⟩) ?_ ?_
            rotate_left
            ·intro w'
             go_simp
             with_reducible rfl
            rotate_left
            ·simp only [Act.put, z1q83_, z2q83_, z3q83_, i64_w, i32_w]
             rfl
            refine pure_ (i:=31) (N:=some 73) (v:=?_) (a':=?_) mk31q83_ rfl rfl (any_of HT_.out (by kernel_rfl)) (fun _ _ _ h => h) (Or.inl ⟨by rfl, ?_⟩) ?_ ?_
            rotate_left
            ·intro w'
             go_simp
             with_reducible rfl
            rotate_left
            ·simp only [Act.put, z1q83_, z2q83_, z3q83_, i64_w, i32_w]
             rfl
            refine pure_ (i:=35) (N:=some 77) (v:=?_) (a':=?_) mk32q83_ rfl rfl (any_of HT_.out (by kernel_rfl)) (fun _ _ _ h => h) (Or.inl ⟨by rfl, ?_⟩) ?_ ?_
            rotate_left
            ·intro w'
             go_simp
             with_reducible rfl
            rotate_left
            ·simp only [Act.put, z1q83_, z2q83_, z3q83_, i64_w, i32_w]
             rfl
            refine pure_ (i:=37) (N:=some 79) (v:=?_) (a':=?_) mk33q83_ rfl rfl (any_of HT_.out (by kernel_rfl)) (fun _ _ _ h => h) (Or.inl ⟨by rfl, ?_⟩) ?_ ?_
            rotate_left
            ·intro w'
             go_simp
             with_reducible rfl
            rotate_left
            ·simp only [Act.put, z1q83_, z2q83_, z3q83_, i64_w, i32_w]
             rfl
            refine take_ (i:=30) (N:=some 72) (v:=?_) (a':=?_) mk34q83_ rfl rfl (take_ofW HT_.out HW_.out (by kernel_rfl)) (fun _ _ _ h => h) (Or.inl ⟨by rfl, ?_⟩) hHeld ?_ ?_
            rotate_left
            ·rintro w' ⟨s0, s1, s2, s3, s4, s5, s6, s7, s8, s9, s10, s11, s12, s13, s14, s15, s16, s17, s18, s19, s20, s21, s22, s23, s24, s25⟩
             go_simp
             with_reducible rfl
            rotate_left
            ·simp only [Act.put, z1q83_, z2q83_, z3q83_, i64_w, i32_w]
             rfl
            refine pure_ (i:=32) (N:=some 74) (v:=?_) (a':=?_) mk35q83_ rfl rfl (any_of HT_.out (by kernel_rfl)) (fun _ _ _ h => h) (Or.inl ⟨by rfl, ?_⟩) ?_ ?_
            rotate_left
            ·intro w'
             go_simp
             with_reducible rfl
            rotate_left
            ·simp only [Act.put, z1q83_, z2q83_, z3q83_, i64_w, i32_w]
             rfl
            refine pure_ (i:=33) (N:=some 75) (v:=?_) (a':=?_) mk36q83_ rfl rfl (any_of HT_.out (by kernel_rfl)) (fun _ _ _ h => h) (Or.inl ⟨by rfl, ?_⟩) ?_ ?_
            rotate_left
            ·intro w'
             go_simp
             with_reducible rfl
            rotate_left
            ·simp only [Act.put, z1q83_, z2q83_, z3q83_, i64_w, i32_w]
             rfl
            refine take_ (i:=34) (N:=some 76) (v:=?_) (a':=?_) mk37q83_ rfl rfl (take_ofW HT_.out HW_.out (by kernel_rfl)) (fun _ _ _ h => h) (Or.inl ⟨by rfl, ?_⟩) hHeld ?_ ?_
            rotate_left
            ·rintro w' ⟨s0, s1, s2, s3, s4, s5, s6, s7, s8, s9, s10, s11, s12, s13, s14, s15, s16, s17, s18, s19, s20, s21, s22, s23, s24, s25⟩
             go_simp
             with_reducible rfl
            rotate_left
            ·simp only [Act.put, z1q83_, z2q83_, z3q83_, i64_w, i32_w]
             rfl
            refine take_ (i:=36) (N:=some 78) (v:=?_) (a':=?_) mk38q83_ rfl rfl (take_ofW HT_.out HW_.out (by kernel_rfl)) (fun _ _ _ h => h) (Or.inl ⟨by rfl, ?_⟩) hHeld ?_ ?_
            rotate_left
            ·rintro w' ⟨s0, s1, s2, s3, s4, s5, s6, s7, s8, s9, s10, s11, s12, s13, s14, s15, s16, s17, s18, s19, s20, s21, s22, s23, s24, s25⟩
             go_simp
             with_reducible rfl
            rotate_left
            ·simp only [Act.put, z1q83_, z2q83_, z3q83_, i64_w, i32_w]
             rfl
            refine pure_ (i:=38) (N:=some 80) (v:=?_) (a':=?_) mk39q83_ rfl rfl (any_of HT_.out (by kernel_rfl)) (fun _ _ _ h => h) (Or.inl ⟨by rfl, ?_⟩) ?_ ?_
            rotate_left
            ·intro w'
             go_simp
             with_reducible rfl
            rotate_left
            ·simp only [Act.put, z1q83_, z2q83_, z3q83_, i64_w, i32_w]
             rfl
            refine pure_ (i:=39) (N:=some 81) (v:=?_) (a':=?_) mk40q83_ rfl rfl (any_of HT_.out (by kernel_rfl)) (fun _ _ _ h => h) (Or.inl ⟨by rfl, ?_⟩) ?_ ?_
            rotate_left
            ·intro w'
             go_simp
             with_reducible rfl
            rotate_left
            ·simp only [Act.put, z1q83_, z2q83_, z3q83_, i64_w, i32_w]
             rfl
            refine take_ (i:=40) (N:=some 82) (v:=?_) (a':=?_) mk41q83_ rfl rfl (take_ofW HT_.out HW_.out (by kernel_rfl)) (fun _ _ _ h => h) (Or.inl ⟨by rfl, ?_⟩) hHeld ?_ ?_
            rotate_left
            ·rintro w' ⟨s0, s1, s2, s3, s4, s5, s6, s7, s8, s9, s10, s11, s12, s13, s14, s15, s16, s17, s18, s19, s20, s21, s22, s23, s24, s25⟩
             go_simp
             with_reducible rfl
            rotate_left
            ·simp only [Act.put, z1q83_, z2q83_, z3q83_, i64_w, i32_w]
             rfl
            refine one_ (i:=41) (N:=some 83) mk42q83_ rfl rfl (one_of HT_.out (by kernel_rfl)) (by decide) (fun K hK => ?_)
            refine goes_ Try.func49 (by kernel_rfl) rfl #[.slice A641_2 ((rd_T99 l0_0 x5_2).f2).length c641_2, .slice A642_2 ((rd_T99 l1_0 x5_2).f2).length c642_2] (by rfl) rfl rfl (by (try simp only [List.map_toArray, List.map_cons, List.map_nil]); first | done | rfl | (simp only [List.length_drop, List.length_take]; rfl)) ?_
            with_reducible refine (counterfoilref08_Equal.calls k2 _ _ ((rd_T99 l0_0 x5_2).f2) _ _ ((rd_T99 l1_0 x5_2).f2) false _ ?side1 ?side2 ?side3 ?side4 A28.out).mono ?_
            (case side1 => repeat (first | exact (Kd.C_below HR645_2.out HB.out) | (with_reducible refine Kd.C_alloc ?_ _) | (with_reducible refine Kd.C_drewN ?_ _) | (with_reducible refine Kd.C_drew ?_)))
            (case side2 => exact HC645_2.out)
            (case side3 => repeat (first | exact (Kd.C_below HR646_2.out HB.out) | (with_reducible refine Kd.C_alloc ?_ _) | (with_reducible refine Kd.C_drewN ?_ _) | (with_reducible refine Kd.C_drew ?_)))
            (case side4 => exact HC646_2.out)
            rintro e w' ⟨rfl, ⟨nd, rfl⟩⟩
            refine ⟨_, rfl, ?_⟩
            refine hK.out _ _ ⟨(blk_cell BK638.out 0).trans rfl, (blk_cell BK638.out 1).trans rfl, (blk_cell BK638.out 2).trans rfl, (blk_cell BK638.out 3).trans rfl, (blk_cell BK639.out 0).trans rfl, (blk_cell BK639.out 1).trans rfl, (blk_cell BK639.out 2).trans rfl, (blk_cell BK639.out 3).trans rfl, ((HB.out.cell (World.block_lt_of_cell? w _ hw641_0)).trans hw641_0), ((HB.out.cell (World.block_lt_of_cell? w _ hw641_1)).trans hw641_1), ((HB.out.cell (World.block_lt_of_cell? w _ hw641_2)).trans hw641_2), ((HB.out.cell (World.block_lt_of_cell? w _ hw642_0)).trans hw642_0), ((HB.out.cell (World.block_lt_of_cell? w _ hw642_1)).trans hw642_1), ((HB.out.cell (World.block_lt_of_cell? w _ hw642_2)).trans hw642_2), ((HB.out.cell (World.block_lt_of_cell? w _ hw643_0)).trans hw643_0), ((HB.out.cell (World.block_lt_of_cell? w _ hw643_1)).trans hw643_1), ((HB.out.cell (World.block_lt_of_cell? w _ hw643_2)).trans hw643_2), ((HB.out.cell (World.block_lt_of_cell? w _ hw644_0)).trans hw644_0), ((HB.out.cell (World.block_lt_of_cell? w _ hw644_1)).trans hw644_1), ((HB.out.cell (World.block_lt_of_cell? w _ hw644_2)).trans hw644_2), ((HB.out.cell (World.block_lt_of_cell? w _ hw645_0)).trans hw645_0), ((HB.out.cell (World.block_lt_of_cell? w _ hw645_1)).trans hw645_1), ((HB.out.cell (World.block_lt_of_cell? w _ hw645_2)).trans hw645_2), ((HB.out.cell (World.block_lt_of_cell? w _ hw646_0)).trans hw646_0), ((HB.out.cell (World.block_lt_of_cell? w _ hw646_1)).trans hw646_1), ((HB.out.cell (World.block_lt_of_cell? w _ hw646_2)).trans hw646_2)⟩ (fun hHeld => ?_)
            clear hK K
            refine norm_ (a' := ?_) ?_ ?_
            rotate_left
            ·show Act.put _ (some 83) _ = _
             simp only [Act.put, z1q83_, z2q83_, z3q83_, i64_w, i32_w]
             rfl
            refine pure_ (i:=42) (N:=some 84) (v:=?_) (a':=?_) mk43q83_ rfl rfl (any_of HT_.out (by kernel_rfl)) (fun _ _ _ h => h) (Or.inl ⟨by rfl, ?_⟩) ?_ ?_
            rotate_left
            ·intro w'
             go_simp
             with_reducible rfl
            rotate_left
            ·simp only [Act.put, z1q83_, z2q83_, z3q83_, i64_w, i32_w]
             rfl
            refine pure_ (i:=43) (N:=some 85) (v:=?_) (a':=?_) mk44q83_ rfl rfl (any_of HT_.out (by kernel_rfl)) (fun _ _ _ h => h) (Or.inl ⟨by rfl, ?_⟩) ?_ ?_
            rotate_left
            ·intro w'
             go_simp
             with_reducible rfl
            rotate_left
            ·simp only [Act.put, z1q83_, z2q83_, z3q83_, i64_w, i32_w]
             rfl
            refine done_ (done_of HT_.out (by kernel_rfl)) ?_
            try go_wp2
            go_ret
            exact ⟨by first | rfl | (simp [errW_none, errW_some] <;> rfl) | (simp [*, errW_none, errW_some] <;> rfl), by repeat (first | (with_reducible first | exact HB.out | apply below_alloc | apply pw_below_drewN | apply below_drew1 | refine below_set ?_ GE638.out | refine below_set ?_ GE639.out) | exact HB.out)⟩
          ·rw [if_neg c27] at H
           have c27b0 : (((rd_T99 l0_0 x5_2).f1) == ((rd_T99 l1_0 x5_2).f1)) = false := beq_eq_false_iff_ne.mpr c27
           have c27b1 : (((rd_T99 l0_0 x5_2).f1) != ((rd_T99 l1_0 x5_2).f1)) = true := bne_iff_ne.mpr c27
           obtain rfl := Option.some.inj H
           have hnb36 := NB638_639.out
           have hnc36 := NB639_638.out
           have hcz37_0 : wr.cell? ⟨gb638, 0, none⟩ = some (.slice A0_0 l0_0.length c0_0) := (blk_cell BK638.out 0).trans rfl
           have hcz37_1 : wr.cell? ⟨gb638, 1, none⟩ = some (.slice A0_1 l0_1.length c0_1) := (blk_cell BK638.out 1).trans rfl
           have hcz37_2 : wr.cell? ⟨gb638, 2, none⟩ = some (.int .i64 a0_2) := (blk_cell BK638.out 2).trans rfl
           have hcz37_3 : wr.cell? ⟨gb638, 3, none⟩ = some (.int .i64 a0_3) := (blk_cell BK638.out 3).trans rfl
           have hfz37_0 := blk_frozen BK638.out 0
           have hfz37_1 := blk_frozen BK638.out 1
           have hfz37_2 := blk_frozen BK638.out 2
           have hfz37_3 := blk_frozen BK638.out 3
           try go_wp2
           have n0_ := A0q83_ (blk_drew BK638.out)
           have n1_ := A0q83_ (blk_drew BK639.out)
           have n2_ := A0q83_ (below_drew1 HB.out)
           clear BK638
           clear BK639
           clear HB
           have BK638 := n0_
           have BK639 := n1_
           have HB := n2_
           clear n0_ n1_ n2_
           have p641 : 0 ≤ (x5_2 : Int) := of_decide_eq_true (by first | (with_reducible assumption) | assumption)
           have q641 : x5_2 < (l0_0.length : Int) := of_decide_eq_true (by first | (with_reducible assumption) | assumption)
           obtain ⟨ad641, A641_2, c641_2, e641, hx641_0, hx641_1, hx641_2, hl641_2, hi641_2⟩ := at_T99 HR0_0.out x5_2 p641 q641
           have hw641_2 := hx641_2
           have hw641_1 := hx641_1
           have hw641_0 := hx641_0
           cases e641
           replace hx641_0 := (HB.out.cell (World.block_lt_of_cell? w _ hx641_0)).trans hx641_0
           replace hx641_1 := (HB.out.cell (World.block_lt_of_cell? w _ hx641_1)).trans hx641_1
           replace hx641_2 := (HB.out.cell (World.block_lt_of_cell? w _ hx641_2)).trans hx641_2
           have HR641_2 := A0q83_ hi641_2
           have HC641_2 := A0q83_ hl641_2
           clear hi641_2 hl641_2
           replace p641 := eq_true p641
           replace q641 := eq_true q641
           have p642 : 0 ≤ (x5_2 : Int) := of_decide_eq_true (by first | (with_reducible assumption) | assumption)
           have q642 : x5_2 < (l1_0.length : Int) := of_decide_eq_true (by first | (with_reducible assumption) | assumption)
           obtain ⟨ad642, A642_2, c642_2, e642, hx642_0, hx642_1, hx642_2, hl642_2, hi642_2⟩ := at_T99 HR1_0.out x5_2 p642 q642
           have hw642_2 := hx642_2
           have hw642_1 := hx642_1
           have hw642_0 := hx642_0
           cases e642
           replace hx642_0 := (HB.out.cell (World.block_lt_of_cell? w _ hx642_0)).trans hx642_0
           replace hx642_1 := (HB.out.cell (World.block_lt_of_cell? w _ hx642_1)).trans hx642_1
           replace hx642_2 := (HB.out.cell (World.block_lt_of_cell? w _ hx642_2)).trans hx642_2
           have HR642_2 := A0q83_ hi642_2
           have HC642_2 := A0q83_ hl642_2
           clear hi642_2 hl642_2
           replace p642 := eq_true p642
           replace q642 := eq_true q642
           have p643 : 0 ≤ (x5_2 : Int) := of_decide_eq_true (by first | (with_reducible assumption) | assumption)
           have q643 : x5_2 < (l0_0.length : Int) := of_decide_eq_true (by first | (with_reducible assumption) | assumption)
           obtain ⟨ad643, A643_2, c643_2, e643, hx643_0, hx643_1, hx643_2, hl643_2, hi643_2⟩ := at_T99 HR0_0.out x5_2 p643 q643
           have hw643_2 := hx643_2
           have hw643_1 := hx643_1
           have hw643_0 := hx643_0
           obtain rfl : ad641 = ad643 := (by injection e643)
           replace hx643_0 := (HB.out.cell (World.block_lt_of_cell? w _ hx643_0)).trans hx643_0
           replace hx643_1 := (HB.out.cell (World.block_lt_of_cell? w _ hx643_1)).trans hx643_1
           replace hx643_2 := (HB.out.cell (World.block_lt_of_cell? w _ hx643_2)).trans hx643_2
           have HR643_2 := A0q83_ hi643_2
           have HC643_2 := A0q83_ hl643_2
           clear hi643_2 hl643_2
           replace p643 := eq_true p643
           replace q643 := eq_true q643
           have ea_ := Option.some.inj (hx641_2.symm.trans hx643_2)
           injection ea_ with ea_ en_ ec_
           subst ea_
           subst ec_
           clear en_
           have p644 : 0 ≤ (x5_2 : Int) := of_decide_eq_true (by first | (with_reducible assumption) | assumption)
           have q644 : x5_2 < (l1_0.length : Int) := of_decide_eq_true (by first | (with_reducible assumption) | assumption)
           obtain ⟨ad644, A644_2, c644_2, e644, hx644_0, hx644_1, hx644_2, hl644_2, hi644_2⟩ := at_T99 HR1_0.out x5_2 p644 q644
           have hw644_2 := hx644_2
           have hw644_1 := hx644_1
           have hw644_0 := hx644_0
           obtain rfl : ad642 = ad644 := (by injection e644)
           replace hx644_0 := (HB.out.cell (World.block_lt_of_cell? w _ hx644_0)).trans hx644_0
           replace hx644_1 := (HB.out.cell (World.block_lt_of_cell? w _ hx644_1)).trans hx644_1
           replace hx644_2 := (HB.out.cell (World.block_lt_of_cell? w _ hx644_2)).trans hx644_2
           have HR644_2 := A0q83_ hi644_2
           have HC644_2 := A0q83_ hl644_2
           clear hi644_2 hl644_2
           replace p644 := eq_true p644
           replace q644 := eq_true q644
           have ea_ := Option.some.inj (hx642_2.symm.trans hx644_2)
           injection ea_ with ea_ en_ ec_
           subst ea_
           subst ec_
           clear en_
           refine start_ (n := 44) (S := fun w' => w'.cell? ⟨gb638, 0, none⟩ = some (.slice (some ad641) l0_0.length c0_0) ∧ w'.cell? ⟨gb638, 1, none⟩ = some (.slice A0_1 l0_1.length c0_1) ∧ w'.cell? ⟨gb638, 2, none⟩ = some (.int .i64 a0_2) ∧ w'.cell? ⟨gb638, 3, none⟩ = some (.int .i64 a0_3) ∧ w'.cell? ⟨gb639, 0, none⟩ = some (.slice (some ad642) l1_0.length c1_0) ∧ w'.cell? ⟨gb639, 1, none⟩ = some (.slice A1_1 l1_1.length c1_1) ∧ w'.cell? ⟨gb639, 2, none⟩ = some (.int .i64 a1_2) ∧ w'.cell? ⟨gb639, 3, none⟩ = some (.int .i64 a1_3) ∧ w'.cell? (ad641.add ((x5_2).toNat * 3)) = some (.int .i64 ((rd_T99 l0_0 x5_2).f0)) ∧ w'.cell? ⟨(ad641.add ((x5_2).toNat * 3)).block, (ad641.add ((x5_2).toNat * 3)).off + 1, none⟩ = some (.int .i64 ((rd_T99 l0_0 x5_2).f1)) ∧ w'.cell? ⟨(ad641.add ((x5_2).toNat * 3)).block, (ad641.add ((x5_2).toNat * 3)).off + 2, none⟩ = some (.slice A641_2 ((rd_T99 l0_0 x5_2).f2).length c641_2) ∧ w'.cell? (ad642.add ((x5_2).toNat * 3)) = some (.int .i64 ((rd_T99 l1_0 x5_2).f0)) ∧ w'.cell? ⟨(ad642.add ((x5_2).toNat * 3)).block, (ad642.add ((x5_2).toNat * 3)).off + 1, none⟩ = some (.int .i64 ((rd_T99 l1_0 x5_2).f1)) ∧ w'.cell? ⟨(ad642.add ((x5_2).toNat * 3)).block, (ad642.add ((x5_2).toNat * 3)).off + 2, none⟩ = some (.slice A642_2 ((rd_T99 l1_0 x5_2).f2).length c642_2) ∧ w'.cell? (ad641.add ((x5_2).toNat * 3)) = some (.int .i64 ((rd_T99 l0_0 x5_2).f0)) ∧ w'.cell? ⟨(ad641.add ((x5_2).toNat * 3)).block, (ad641.add ((x5_2).toNat * 3)).off + 1, none⟩ = some (.int .i64 ((rd_T99 l0_0 x5_2).f1)) ∧ w'.cell? ⟨(ad641.add ((x5_2).toNat * 3)).block, (ad641.add ((x5_2).toNat * 3)).off + 2, none⟩ = some (.slice A641_2 ((rd_T99 l0_0 x5_2).f2).length c641_2) ∧ w'.cell? (ad642.add ((x5_2).toNat * 3)) = some (.int .i64 ((rd_T99 l1_0 x5_2).f0)) ∧ w'.cell? ⟨(ad642.add ((x5_2).toNat * 3)).block, (ad642.add ((x5_2).toNat * 3)).off + 1, none⟩ = some (.int .i64 ((rd_T99 l1_0 x5_2).f1)) ∧ w'.cell? ⟨(ad642.add ((x5_2).toNat * 3)).block, (ad642.add ((x5_2).toNat * 3)).off + 2, none⟩ = some (.slice A642_2 ((rd_T99 l1_0 x5_2).f2).length c642_2)) (ds := []) mk0q83_ (by kernel_rfl) rfl rfl ⟨(blk_cell BK638.out 0).trans rfl, (blk_cell BK638.out 1).trans rfl, (blk_cell BK638.out 2).trans rfl, (blk_cell BK638.out 3).trans rfl, (blk_cell BK639.out 0).trans rfl, (blk_cell BK639.out 1).trans rfl, (blk_cell BK639.out 2).trans rfl, (blk_cell BK639.out 3).trans rfl, ((HB.out.cell (World.block_lt_of_cell? w _ hw641_0)).trans hw641_0), ((HB.out.cell (World.block_lt_of_cell? w _ hw641_1)).trans hw641_1), ((HB.out.cell (World.block_lt_of_cell? w _ hw641_2)).trans hw641_2), ((HB.out.cell (World.block_lt_of_cell? w _ hw642_0)).trans hw642_0), ((HB.out.cell (World.block_lt_of_cell? w _ hw642_1)).trans hw642_1), ((HB.out.cell (World.block_lt_of_cell? w _ hw642_2)).trans hw642_2), ((HB.out.cell (World.block_lt_of_cell? w _ hw643_0)).trans hw643_0), ((HB.out.cell (World.block_lt_of_cell? w _ hw643_1)).trans hw643_1), ((HB.out.cell (World.block_lt_of_cell? w _ hw643_2)).trans hw643_2), ((HB.out.cell (World.block_lt_of_cell? w _ hw644_0)).trans hw644_0), ((HB.out.cell (World.block_lt_of_cell? w _ hw644_1)).trans hw644_1), ((HB.out.cell (World.block_lt_of_cell? w _ hw644_2)).trans hw644_2)⟩ (fun hHeld => ?_); refine with_tabW counterfoilref12_Equal.tab6 counterfoilref12_Equal.bits6 (fun HT_ HW_ => ?_)
           generalize wr.drew = w38 at BK638 BK639 HB HR641_2 HR642_2 HR643_2 HR644_2 hx641_0 hx641_1 hx641_2 hx642_0 hx642_1 hx642_2 hx643_0 hx643_1 hx643_2 hx644_0 hx644_1 hx644_2 hHeld ⊢
           refine pure_ (i:=0) (N:=some 42) (v:=?_) (a':=?_) mk1q83_ rfl rfl (any_of HT_.out (by kernel_rfl)) (fun _ _ _ h => h) (Or.inl ⟨by rfl, ?_⟩) ?_ ?_
           rotate_left
           ·intro w'
            go_simp
            with_reducible rfl
           rotate_left
           ·simp only [Act.put, z1q83_, z2q83_, z3q83_, i64_w, i32_w]
            rfl
           refine pure_ (i:=2) (N:=some 44) (v:=?_) (a':=?_) mk2q83_ rfl rfl (any_of HT_.out (by kernel_rfl)) (fun _ _ _ h => h) (Or.inl ⟨by rfl, ?_⟩) ?_ ?_
           rotate_left
           ·intro w'
            go_simp
            with_reducible rfl
           rotate_left
           ·simp only [Act.put, z1q83_, z2q83_, z3q83_, i64_w, i32_w]
            rfl
           refine pure_ (i:=6) (N:=some 48) (v:=?_) (a':=?_) mk3q83_ rfl rfl (any_of HT_.out (by kernel_rfl)) (fun _ _ _ h => h) (Or.inl ⟨by rfl, ?_⟩) ?_ ?_
           rotate_left
           ·intro w'
            go_simp
            with_reducible rfl
           rotate_left
           ·simp only [Act.put, z1q83_, z2q83_, z3q83_, i64_w, i32_w]
            rfl
           refine pure_ (i:=8) (N:=some 50) (v:=?_) (a':=?_) mk4q83_ rfl rfl (any_of HT_.out (by kernel_rfl)) (fun _ _ _ h => h) (Or.inl ⟨by rfl, ?_⟩) ?_ ?_
           rotate_left
           ·intro w'
            go_simp
            with_reducible rfl
           rotate_left
           ·simp only [Act.put, z1q83_, z2q83_, z3q83_, i64_w, i32_w]
            rfl
           refine take_ (i:=1) (N:=some 43) (v:=?_) (a':=?_) mk5q83_ rfl rfl (take_ofW HT_.out HW_.out (by kernel_rfl)) (fun _ _ _ h => h) (Or.inl ⟨by rfl, ?_⟩) hHeld ?_ ?_
           rotate_left
           ·rintro w' ⟨s0, s1, s2, s3, s4, s5, s6, s7, s8, s9, s10, s11, s12, s13, s14, s15, s16, s17, s18, s19⟩
            go_simp
            with_reducible rfl
           rotate_left
           ·simp only [Act.put, z1q83_, z2q83_, z3q83_, i64_w, i32_w]
            rfl
           refine pure_ (i:=3) (N:=some 45) (v:=?_) (a':=?_) mk6q83_ rfl rfl (any_of HT_.out (by kernel_rfl)) (fun _ _ _ h => h) (Or.inl ⟨by rfl, ?_⟩) ?_ ?_
           rotate_left
           ·intro w'
            go_simp
            with_reducible rfl
           rotate_left
           ·simp only [Act.put, z1q83_, z2q83_, z3q83_, i64_w, i32_w]
            rfl
           refine pure_ (i:=4) (N:=some 46) (v:=?_) (a':=?_) mk7q83_ rfl rfl (any_of HT_.out (by kernel_rfl)) (fun _ _ _ h => h) (Or.inl ⟨by rfl, ?_⟩) ?_ ?_
           rotate_left
           ·intro w'
            go_simp
            with_reducible rfl
           rotate_left
           ·simp only [Act.put, z1q83_, z2q83_, z3q83_, i64_w, i32_w]
            rfl
           refine take_ (i:=5) (N:=some 47) (v:=?_) (a':=?_) mk8q83_ rfl rfl (take_ofW HT_.out HW_.out (by kernel_rfl)) (fun _ _ _ h => h) (Or.inl ⟨by rfl, ?_⟩) hHeld ?_ ?_
           rotate_left
           ·rintro w' ⟨s0, s1, s2, s3, s4, s5, s6, s7, s8, s9, s10, s11, s12, s13, s14, s15, s16, s17, s18, s19⟩
            go_simp
            with_reducible rfl
           rotate_left
           ·simp only [Act.put, z1q83_, z2q83_, z3q83_, i64_w, i32_w]
            rfl
           refine take_ (i:=7) (N:=some 49) (v:=?_) (a':=?_) mk9q83_ rfl rfl (take_ofW HT_.out HW_.out (by kernel_rfl)) (fun _ _ _ h => h) (Or.inl ⟨by rfl, ?_⟩) hHeld ?_ ?_
           rotate_left
           ·rintro w' ⟨s0, s1, s2, s3, s4, s5, s6, s7, s8, s9, s10, s11, s12, s13, s14, s15, s16, s17, s18, s19⟩
            go_simp
            with_reducible rfl
           rotate_left
           ·simp only [Act.put, z1q83_, z2q83_, z3q83_, i64_w, i32_w]
            rfl
           refine pure_ (i:=9) (N:=some 51) (v:=?_) (a':=?_) mk10q83_ rfl rfl (any_of HT_.out (by kernel_rfl)) (fun _ _ _ h => h) (Or.inl ⟨by rfl, ?_⟩) ?_ ?_
           rotate_left
           ·intro w'
            go_simp
            with_reducible rfl
           rotate_left
           ·simp only [Act.put, z1q83_, z2q83_, z3q83_, i64_w, i32_w]
            rfl
           refine pure_ (i:=10) (N:=some 52) (v:=?_) (a':=?_) mk11q83_ rfl rfl (any_of HT_.out (by kernel_rfl)) (fun _ _ _ h => h) (Or.inl ⟨by rfl, ?_⟩) ?_ ?_
           rotate_left
           ·intro w'
            go_simp
            with_reducible rfl
           rotate_left
           ·simp only [Act.put, z1q83_, z2q83_, z3q83_, i64_w, i32_w]
            rfl
           refine take_ (i:=11) (N:=some 53) (v:=?_) (a':=?_) mk12q83_ rfl rfl (take_ofW HT_.out HW_.out (by kernel_rfl)) (fun _ _ _ h => h) (Or.inl ⟨by rfl, ?_⟩) hHeld ?_ ?_
           rotate_left
           ·rintro w' ⟨s0, s1, s2, s3, s4, s5, s6, s7, s8, s9, s10, s11, s12, s13, s14, s15, s16, s17, s18, s19⟩
            go_simp
            with_reducible rfl
           rotate_left
           ·simp only [Act.put, z1q83_, z2q83_, z3q83_, i64_w, i32_w]
            rfl
           refine pure_ (i:=12) (N:=some 54) (v:=?_) (a':=?_) mk13q83_ rfl rfl (any_of HT_.out (by kernel_rfl)) (fun _ _ _ h => h) (Or.inl ⟨by rfl, ?_⟩) ?_ ?_
           rotate_left
           ·intro w'
            go_simp
            with_reducible rfl
           rotate_left
           ·simp only [Act.put, z1q83_, z2q83_, z3q83_, i64_w, i32_w]
            rfl
           refine pure_ (i:=13) (N:=some 55) (v:=?_) (a':=?_) mk14q83_ rfl rfl (any_of HT_.out (by kernel_rfl)) (fun _ _ _ h => h) (Or.inl ⟨by rfl, ?_⟩) ?_ ?_
           rotate_left
           ·intro w'
            go_simp
            with_reducible rfl
           rotate_left
           ·simp only [Act.put, z1q83_, z2q83_, z3q83_, i64_w, i32_w]
            rfl
           refine pure_ (i:=14) (N:=some 56) (v:=?_) (a':=?_) mk15q83_ rfl rfl (any_of HT_.out (by kernel_rfl)) (fun _ _ _ h => h) (Or.inl ⟨by rfl, ?_⟩) ?_ ?_
           rotate_left
           ·intro w'
            go_simp
            with_reducible rfl
           rotate_left
           ·simp only [Act.put, z1q83_, z2q83_, z3q83_, i64_w, i32_w]
            rfl
           refine pure_ (i:=16) (N:=some 58) (v:=?_) (a':=?_) mk16q83_ rfl rfl (any_of HT_.out (by kernel_rfl)) (fun _ _ _ h => h) (Or.inl ⟨by rfl, ?_⟩) ?_ ?_
           rotate_left
           ·intro w'
            go_simp
            with_reducible rfl
           rotate_left
           ·simp only [Act.put, z1q83_, z2q83_, z3q83_, i64_w, i32_w]
            rfl
           refine pure_ (i:=20) (N:=some 62) (v:=?_) (a':=?_) mk17q83_ rfl rfl (any_of HT_.out (by kernel_rfl)) (fun _ _ _ h => h) (Or.inl ⟨by rfl, ?_⟩) ?_ ?_
           rotate_left
           ·intro w'
            go_simp
            with_reducible rfl
           rotate_left
           ·simp only [Act.put, z1q83_, z2q83_, z3q83_, i64_w, i32_w]
            rfl
           refine pure_ (i:=22) (N:=some 64) (v:=?_) (a':=?_) mk18q83_ rfl rfl (any_of HT_.out (by kernel_rfl)) (fun _ _ _ h => h) (Or.inl ⟨by rfl, ?_⟩) ?_ ?_
           rotate_left
           ·intro w'
            go_simp
            with_reducible rfl
           rotate_left
           ·simp only [Act.put, z1q83_, z2q83_, z3q83_, i64_w, i32_w]
            rfl
           refine take_ (i:=15) (N:=some 57) (v:=?_) (a':=?_) mk19q83_ rfl rfl (take_ofW HT_.out HW_.out (by kernel_rfl)) (fun _ _ _ h => h) (Or.inl ⟨by rfl, ?_⟩) hHeld ?_ ?_
           rotate_left
           ·rintro w' ⟨s0, s1, s2, s3, s4, s5, s6, s7, s8, s9, s10, s11, s12, s13, s14, s15, s16, s17, s18, s19⟩
            go_simp
            with_reducible rfl
           rotate_left
           ·simp only [Act.put, z1q83_, z2q83_, z3q83_, i64_w, i32_w]
            rfl
           refine pure_ (i:=17) (N:=some 59) (v:=?_) (a':=?_) mk20q83_ rfl rfl (any_of HT_.out (by kernel_rfl)) (fun _ _ _ h => h) (Or.inl ⟨by rfl, ?_⟩) ?_ ?_
           rotate_left
           ·intro w'
            go_simp
            with_reducible rfl
           rotate_left
           ·simp only [Act.put, z1q83_, z2q83_, z3q83_, i64_w, i32_w]
            rfl
           refine pure_ (i:=18) (N:=some 60) (v:=?_) (a':=?_) mk21q83_ rfl rfl (any_of HT_.out (by kernel_rfl)) (fun _ _ _ h => h) (Or.inl ⟨by rfl, ?_⟩) ?_ ?_
           rotate_left
           ·intro w'
            go_simp
            with_reducible rfl
           rotate_left
           ·simp only [Act.put, z1q83_, z2q83_, z3q83_, i64_w, i32_w]
            rfl
           refine take_ (i:=19) (N:=some 61) (v:=?_) (a':=?_) mk22q83_ rfl rfl (take_ofW HT_.out HW_.out (by kernel_rfl)) (fun _ _ _ h => h) (Or.inl ⟨by rfl, ?_⟩) hHeld ?_ ?_
           rotate_left
           ·rintro w' ⟨s0, s1, s2, s3, s4, s5, s6, s7, s8, s9, s10, s11, s12, s13, s14, s15, s16, s17, s18, s19⟩
            go_simp
            with_reducible rfl
           rotate_left
           ·simp only [Act.put, z1q83_, z2q83_, z3q83_, i64_w, i32_w]
            rfl
           refine take_ (i:=21) (N:=some 63) (v:=?_) (a':=?_) mk23q83_ rfl rfl (take_ofW HT_.out HW_.out (by kernel_rfl)) (fun _ _ _ h => h) (Or.inl ⟨by rfl, ?_⟩) hHeld ?_ ?_
           rotate_left
           ·rintro w' ⟨s0, s1, s2, s3, s4, s5, s6, s7, s8, s9, s10, s11, s12, s13, s14, s15, s16, s17, s18, s19⟩
            go_simp
            with_reducible rfl
           rotate_left
           ·simp only [Act.put, z1q83_, z2q83_, z3q83_, i64_w, i32_w]
            rfl
           refine pure_ (i:=23) (N:=some 65) (v:=?_) (a':=?_) mk24q83_ rfl rfl (any_of HT_.out (by kernel_rfl)) (fun _ _ _ h => h) (Or.inl ⟨by rfl, ?_⟩) ?_ ?_
           rotate_left
           ·intro w'
            go_simp
            with_reducible rfl
           rotate_left
           ·simp only [Act.put, z1q83_, z2q83_, z3q83_, i64_w, i32_w]
            rfl
           refine pure_ (i:=24) (N:=some 66) (v:=?_) (a':=?_) mk25q83_ rfl rfl (any_of HT_.out (by kernel_rfl)) (fun _ _ _ h => h) (Or.inl ⟨by rfl, ?_⟩) ?_ ?_
           rotate_left
           ·intro w'
            go_simp
            with_reducible rfl
           rotate_left
           ·simp only [Act.put, z1q83_, z2q83_, z3q83_, i64_w, i32_w]
            rfl
           refine take_ (i:=25) (N:=some 67) (v:=?_) (a':=?_) mk26q83_ rfl rfl (take_ofW HT_.out HW_.out (by kernel_rfl)) (fun _ _ _ h => h) (Or.inl ⟨by rfl, ?_⟩) hHeld ?_ ?_
           rotate_left
           ·rintro w' ⟨s0, s1, s2, s3, s4, s5, s6, s7, s8, s9, s10, s11, s12, s13, s14, s15, s16, s17, s18, s19⟩
            go_simp
            with_reducible rfl
           rotate_left
           ·simp only [Act.put, z1q83_, z2q83_, z3q83_, i64_w, i32_w]
            rfl
           refine pure_ (i:=26) (N:=some 68) (v:=?_) (a':=?_) mk27q83_ rfl rfl (any_of HT_.out (by kernel_rfl)) (fun _ _ _ h => h) (Or.inl ⟨by rfl, ?_⟩) ?_ ?_
           rotate_left
           ·intro w'
            go_simp
            with_reducible rfl
           rotate_left
           ·simp only [Act.put, z1q83_, z2q83_, z3q83_, i64_w, i32_w]
            rfl
           refine pure_ (i:=27) (N:=some 69) (v:=?_) (a':=?_) mk28q83_ rfl rfl (any_of HT_.out (by kernel_rfl)) (fun _ _ _ h => h) (Or.inl ⟨by rfl, ?_⟩) ?_ ?_
           rotate_left
           ·intro w'
            go_simp
            with_reducible rfl
           rotate_left
           ·simp only [Act.put, z1q83_, z2q83_, z3q83_, i64_w, i32_w]
            rfl
           refine pure_ (i:=28) (N:=some 70) (v:=?_) (a':=?_) mk29q83_ rfl rfl (any_of HT_.out (by kernel_rfl)) (fun _ _ _ h => h) (Or.inl ⟨by rfl, ?_⟩) ?_ ?_
           rotate_left
           ·intro w'
            go_simp
            with_reducible rfl
           rotate_left
           ·simp only [Act.put, z1q83_, z2q83_, z3q83_, i64_w, i32_w]
            rfl
           refine pure_ (i:=29) (N:=some 71) (v := undef) (a' := ?_) mk30q83_ rfl rfl (any_of HT_.out (by kernel_rfl)) (fun _ _ _ h => h) (Or.inr ⟨by rfl, rfl⟩) ?_ ?_
           rotate_left
           ·simp only [Act.put, z1q83_, z2q83_, z3q83_, i64_w, i32_w]
            rfl
           refine pure_ (i:=30) (N:=some 72) (v := undef) (a' := ?_) mk45q83_ rfl rfl (any_of HT_.out (by kernel_rfl)) (fun _ _ _ h => h) (Or.inr ⟨by rfl, rfl⟩) ?_ ?_
           rotate_left
           ·simp only [Act.put, z1q83_, z2q83_, z3q83_, i64_w, i32_w]
            rfl
           refine pure_ (i:=31) (N:=some 73) (v := undef) (a' := ?_) mk46q83_ rfl rfl (any_of HT_.out (by kernel_rfl)) (fun _ _ _ h => h) (Or.inr ⟨by rfl, rfl⟩) ?_ ?_
           rotate_left
           ·simp only [Act.put, z1q83_, z2q83_, z3q83_, i64_w, i32_w]
            rfl
           refine pure_ (i:=32) (N:=some 74) (v := undef) (a' := ?_) mk47q83_ rfl rfl (any_of HT_.out (by kernel_rfl)) (fun _ _ _ h => h) (Or.inr ⟨by rfl, rfl⟩) ?_ ?_
           rotate_left
           ·simp only [Act.put, z1q83_, z2q83_, z3q83_, i64_w, i32_w]
            rfl
           refine pure_ (i:=33) (N:=some 75) (v := undef) (a' := ?_) mk48q83_ rfl rfl (any_of HT_.out (by kernel_rfl)) (fun _ _ _ h => h) (Or.inr ⟨by rfl, rfl⟩) ?_ ?_
           rotate_left
           ·simp only [Act.put, z1q83_, z2q83_, z3q83_, i64_w, i32_w]
            rfl
           refine pure_ (i:=34) (N:=some 76) (v := undef) (a' := ?_) mk49q83_ rfl rfl (any_of HT_.out (by kernel_rfl)) (fun _ _ _ h => h) (Or.inr ⟨by rfl, rfl⟩) ?_ ?_
           rotate_left
           ·simp only [Act.put, z1q83_, z2q83_, z3q83_, i64_w, i32_w]
            rfl
           refine pure_ (i:=35) (N:=some 77) (v := undef) (a' := ?_) mk50q83_ rfl rfl (any_of HT_.out (by kernel_rfl)) (fun _ _ _ h => h) (Or.inr ⟨by rfl, rfl⟩) ?_ ?_
           rotate_left
           ·simp only [Act.put, z1q83_, z2q83_, z3q83_, i64_w, i32_w]
            rfl
           refine pure_ (i:=36) (N:=some 78) (v := undef) (a' := ?_) mk51q83_ rfl rfl (any_of HT_.out (by kernel_rfl)) (fun _ _ _ h => h) (Or.inr ⟨by rfl, rfl⟩) ?_ ?_
           rotate_left
           ·simp only [Act.put, z1q83_, z2q83_, z3q83_, i64_w, i32_w]
            rfl
           refine pure_ (i:=37) (N:=some 79) (v := undef) (a' := ?_) mk38q83_ rfl rfl (any_of HT_.out (by kernel_rfl)) (fun _ _ _ h => h) (Or.inr ⟨by rfl, rfl⟩) ?_ ?_
           rotate_left
           ·simp only [Act.put, z1q83_, z2q83_, z3q83_, i64_w, i32_w]
            rfl
           refine pure_ (i:=38) (N:=some 80) (v := undef) (a' := ?_) mk39q83_ rfl rfl (any_of HT_.out (by kernel_rfl)) (fun _ _ _ h => h) (Or.inr ⟨by rfl, rfl⟩) ?_ ?_
           rotate_left
           ·simp only [Act.put, z1q83_, z2q83_, z3q83_, i64_w, i32_w]
            rfl
           refine pure_ (i:=39) (N:=some 81) (v := undef) (a' := ?_) mk40q83_ rfl rfl (any_of HT_.out (by kernel_rfl)) (fun _ _ _ h => h) (Or.inr ⟨by rfl, rfl⟩) ?_ ?_
           rotate_left
           ·simp only [Act.put, z1q83_, z2q83_, z3q83_, i64_w, i32_w]
            rfl
           refine pure_ (i:=40) (N:=some 82) (v := undef) (a' := ?_) mk41q83_ rfl rfl (any_of HT_.out (by kernel_rfl)) (fun _ _ _ h => h) (Or.inr ⟨by rfl, rfl⟩) ?_ ?_
           rotate_left
           ·simp only [Act.put, z1q83_, z2q83_, z3q83_, i64_w, i32_w]
            rfl
           refine pure_ (i:=41) (N:=some 83) (v := undef) (a' := ?_) mk42q83_ rfl rfl (any_of HT_.out (by kernel_rfl)) (fun _ _ _ h => h) (Or.inr ⟨by rfl, rfl⟩) ?_ ?_
           rotate_left
           ·simp only [Act.put, z1q83_, z2q83_, z3q83_, i64_w, i32_w]
            rfl
           refine pure_ (i:=42) (N:=some 84) (v := undef) (a' := ?_) mk43q83_ rfl rfl (any_of HT_.out (by kernel_rfl)) (fun _ _ _ h => h) (Or.inr ⟨by rfl, rfl⟩) ?_ ?_
           rotate_left
           ·simp only [Act.put, z1q83_, z2q83_, z3q83_, i64_w, i32_w]
            rfl
           refine pure_ (i:=43) (N:=some 85) (v:=?_) (a':=?_) mk44q83_ rfl rfl (any_of HT_.out (by kernel_rfl)) (fun _ _ _ h => h) (Or.inl ⟨by rfl, ?_⟩) ?_ ?_
           rotate_left
           ·intro w'
            go_simp
            with_reducible rfl
           rotate_left
           ·simp only [Act.put, z1q83_, z2q83_, z3q83_, i64_w, i32_w]
            rfl
           refine done_ (done_of HT_.out (by kernel_rfl)) ?_
           try go_wp2
           go_ret
           exact ⟨by first | rfl | (simp [errW_none, errW_some] <;> rfl) | (simp [*, errW_none, errW_some] <;> rfl), by repeat (first | (with_reducible first | exact HB.out | apply below_alloc | apply pw_below_drewN | apply below_drew1 | refine below_set ?_ GE638.out | refine below_set ?_ GE639.out) | exact HB.out)⟩
         ·rw [if_neg c26] at H
          have c26b0 : (((rd_T99 l0_0 x5_2).f0) == ((rd_T99 l1_0 x5_2).f0)) = false := beq_eq_false_iff_ne.mpr c26
          have c26b1 : (((rd_T99 l0_0 x5_2).f0) != ((rd_T99 l1_0 x5_2).f0)) = true := bne_iff_ne.mpr c26
          obtain rfl := Option.some.inj H
          have hnb39 := NB638_639.out
          have hnc39 := NB639_638.out
          have hcz40_0 : wr.cell? ⟨gb638, 0, none⟩ = some (.slice A0_0 l0_0.length c0_0) := (blk_cell BK638.out 0).trans rfl
          have hcz40_1 : wr.cell? ⟨gb638, 1, none⟩ = some (.slice A0_1 l0_1.length c0_1) := (blk_cell BK638.out 1).trans rfl
          have hcz40_2 : wr.cell? ⟨gb638, 2, none⟩ = some (.int .i64 a0_2) := (blk_cell BK638.out 2).trans rfl
          have hcz40_3 : wr.cell? ⟨gb638, 3, none⟩ = some (.int .i64 a0_3) := (blk_cell BK638.out 3).trans rfl
          have hfz40_0 := blk_frozen BK638.out 0
          have hfz40_1 := blk_frozen BK638.out 1
          have hfz40_2 := blk_frozen BK638.out 2
          have hfz40_3 := blk_frozen BK638.out 3
          try go_wp2
          have n0_ := A0q83_ (blk_drew BK638.out)
          have n1_ := A0q83_ (blk_drew BK639.out)
          have n2_ := A0q83_ (below_drew1 HB.out)
          clear BK638
          clear BK639
          clear HB
          have BK638 := n0_
          have BK639 := n1_
          have HB := n2_
          clear n0_ n1_ n2_
          have p641 : 0 ≤ (x5_2 : Int) := of_decide_eq_true (by first | (with_reducible assumption) | assumption)
          have q641 : x5_2 < (l0_0.length : Int) := of_decide_eq_true (by first | (with_reducible assumption) | assumption)
          obtain ⟨ad641, A641_2, c641_2, e641, hx641_0, hx641_1, hx641_2, hl641_2, hi641_2⟩ := at_T99 HR0_0.out x5_2 p641 q641
          have hw641_2 := hx641_2
          have hw641_1 := hx641_1
          have hw641_0 := hx641_0
          cases e641
          replace hx641_0 := (HB.out.cell (World.block_lt_of_cell? w _ hx641_0)).trans hx641_0
          replace hx641_1 := (HB.out.cell (World.block_lt_of_cell? w _ hx641_1)).trans hx641_1
          replace hx641_2 := (HB.out.cell (World.block_lt_of_cell? w _ hx641_2)).trans hx641_2
          have HR641_2 := A0q83_ hi641_2
          have HC641_2 := A0q83_ hl641_2
          clear hi641_2 hl641_2
          replace p641 := eq_true p641
          replace q641 := eq_true q641
          have p642 : 0 ≤ (x5_2 : Int) := of_decide_eq_true (by first | (with_reducible assumption) | assumption)
          have q642 : x5_2 < (l1_0.length : Int) := of_decide_eq_true (by first | (with_reducible assumption) | assumption)
          obtain ⟨ad642, A642_2, c642_2, e642, hx642_0, hx642_1, hx642_2, hl642_2, hi642_2⟩ := at_T99 HR1_0.out x5_2 p642 q642
          have hw642_2 := hx642_2
          have hw642_1 := hx642_1
          have hw642_0 := hx642_0
          cases e642
          replace hx642_0 := (HB.out.cell (World.block_lt_of_cell? w _ hx642_0)).trans hx642_0
          replace hx642_1 := (HB.out.cell (World.block_lt_of_cell? w _ hx642_1)).trans hx642_1
          replace hx642_2 := (HB.out.cell (World.block_lt_of_cell? w _ hx642_2)).trans hx642_2
          have HR642_2 := A0q83_ hi642_2
          have HC642_2 := A0q83_ hl642_2
          clear hi642_2 hl642_2
          replace p642 := eq_true p642
          replace q642 := eq_true q642
          refine start_ (n := 44) (S := fun w' => w'.cell? ⟨gb638, 0, none⟩ = some (.slice (some ad641) l0_0.length c0_0) ∧ w'.cell? ⟨gb638, 1, none⟩ = some (.slice A0_1 l0_1.length c0_1) ∧ w'.cell? ⟨gb638, 2, none⟩ = some (.int .i64 a0_2) ∧ w'.cell? ⟨gb638, 3, none⟩ = some (.int .i64 a0_3) ∧ w'.cell? ⟨gb639, 0, none⟩ = some (.slice (some ad642) l1_0.length c1_0) ∧ w'.cell? ⟨gb639, 1, none⟩ = some (.slice A1_1 l1_1.length c1_1) ∧ w'.cell? ⟨gb639, 2, none⟩ = some (.int .i64 a1_2) ∧ w'.cell? ⟨gb639, 3, none⟩ = some (.int .i64 a1_3) ∧ w'.cell? (ad641.add ((x5_2).toNat * 3)) = some (.int .i64 ((rd_T99 l0_0 x5_2).f0)) ∧ w'.cell? ⟨(ad641.add ((x5_2).toNat * 3)).block, (ad641.add ((x5_2).toNat * 3)).off + 1, none⟩ = some (.int .i64 ((rd_T99 l0_0 x5_2).f1)) ∧ w'.cell? ⟨(ad641.add ((x5_2).toNat * 3)).block, (ad641.add ((x5_2).toNat * 3)).off + 2, none⟩ = some (.slice A641_2 ((rd_T99 l0_0 x5_2).f2).length c641_2) ∧ w'.cell? (ad642.add ((x5_2).toNat * 3)) = some (.int .i64 ((rd_T99 l1_0 x5_2).f0)) ∧ w'.cell? ⟨(ad642.add ((x5_2).toNat * 3)).block, (ad642.add ((x5_2).toNat * 3)).off + 1, none⟩ = some (.int .i64 ((rd_T99 l1_0 x5_2).f1)) ∧ w'.cell? ⟨(ad642.add ((x5_2).toNat * 3)).block, (ad642.add ((x5_2).toNat * 3)).off + 2, none⟩ = some (.slice A642_2 ((rd_T99 l1_0 x5_2).f2).length c642_2)) (ds := []) mk0q83_ (by kernel_rfl) rfl rfl ⟨(blk_cell BK638.out 0).trans rfl, (blk_cell BK638.out 1).trans rfl, (blk_cell BK638.out 2).trans rfl, (blk_cell BK638.out 3).trans rfl, (blk_cell BK639.out 0).trans rfl, (blk_cell BK639.out 1).trans rfl, (blk_cell BK639.out 2).trans rfl, (blk_cell BK639.out 3).trans rfl, ((HB.out.cell (World.block_lt_of_cell? w _ hw641_0)).trans hw641_0), ((HB.out.cell (World.block_lt_of_cell? w _ hw641_1)).trans hw641_1), ((HB.out.cell (World.block_lt_of_cell? w _ hw641_2)).trans hw641_2), ((HB.out.cell (World.block_lt_of_cell? w _ hw642_0)).trans hw642_0), ((HB.out.cell (World.block_lt_of_cell? w _ hw642_1)).trans hw642_1), ((HB.out.cell (World.block_lt_of_cell? w _ hw642_2)).trans hw642_2)⟩ (fun hHeld => ?_); refine with_tabW counterfoilref12_Equal.tab6 counterfoilref12_Equal.bits6 (fun HT_ HW_ => ?_)
          generalize wr.drew = w41 at BK638 BK639 HB HR641_2 HR642_2 hx641_0 hx641_1 hx641_2 hx642_0 hx642_1 hx642_2 hHeld ⊢
          refine pure_ (i:=0) (N:=some 42) (v:=?_) (a':=?_) mk1q83_ rfl rfl (any_of HT_.out (by kernel_rfl)) (fun _ _ _ h => h) (Or.inl ⟨by rfl, ?_⟩) ?_ ?_
          rotate_left
          ·intro w'
           go_simp
           with_reducible rfl
          rotate_left
          ·simp only [Act.put, z1q83_, z2q83_, z3q83_, i64_w, i32_w]
           rfl
          refine pure_ (i:=2) (N:=some 44) (v:=?_) (a':=?_) mk2q83_ rfl rfl (any_of HT_.out (by kernel_rfl)) (fun _ _ _ h => h) (Or.inl ⟨by rfl, ?_⟩) ?_ ?_
          rotate_left
          ·intro w'
           go_simp
           with_reducible rfl
          rotate_left
          ·simp only [Act.put, z1q83_, z2q83_, z3q83_, i64_w, i32_w]
           rfl
          refine pure_ (i:=6) (N:=some 48) (v:=?_) (a':=?_) mk3q83_ rfl rfl (any_of HT_.out (by kernel_rfl)) (fun _ _ _ h => h) (Or.inl ⟨by rfl, ?_⟩) ?_ ?_
          rotate_left
          ·intro w'
           go_simp
           with_reducible rfl
          rotate_left
          ·simp only [Act.put, z1q83_, z2q83_, z3q83_, i64_w, i32_w]
           rfl
          refine pure_ (i:=8) (N:=some 50) (v:=?_) (a':=?_) mk4q83_ rfl rfl (any_of HT_.out (by kernel_rfl)) (fun _ _ _ h => h) (Or.inl ⟨by rfl, ?_⟩) ?_ ?_
          rotate_left
          ·intro w'
           go_simp
           with_reducible rfl
          rotate_left
          ·simp only [Act.put, z1q83_, z2q83_, z3q83_, i64_w, i32_w]
           rfl
          refine take_ (i:=1) (N:=some 43) (v:=?_) (a':=?_) mk5q83_ rfl rfl (take_ofW HT_.out HW_.out (by kernel_rfl)) (fun _ _ _ h => h) (Or.inl ⟨by rfl, ?_⟩) hHeld ?_ ?_
          rotate_left
          ·rintro w' ⟨s0, s1, s2, s3, s4, s5, s6, s7, s8, s9, s10, s11, s12, s13⟩
           go_simp
           with_reducible rfl
          rotate_left
          ·simp only [Act.put, z1q83_, z2q83_, z3q83_, i64_w, i32_w]
           rfl
          refine pure_ (i:=3) (N:=some 45) (v:=?_) (a':=?_) mk6q83_ rfl rfl (any_of HT_.out (by kernel_rfl)) (fun _ _ _ h => h) (Or.inl ⟨by rfl, ?_⟩) ?_ ?_
          rotate_left
          ·intro w'
           go_simp
           with_reducible rfl
          rotate_left
          ·simp only [Act.put, z1q83_, z2q83_, z3q83_, i64_w, i32_w]
           rfl
          refine pure_ (i:=4) (N:=some 46) (v:=?_) (a':=?_) mk7q83_ rfl rfl (any_of HT_.out (by kernel_rfl)) (fun _ _ _ h => h) (Or.inl ⟨by rfl, ?_⟩) ?_ ?_
          rotate_left
          ·intro w'
           go_simp
           with_reducible rfl
          rotate_left
          ·simp only [Act.put, z1q83_, z2q83_, z3q83_, i64_w, i32_w]
           rfl
          refine take_ (i:=5) (N:=some 47) (v:=?_) (a':=?_) mk8q83_ rfl rfl (take_ofW HT_.out HW_.out (by kernel_rfl)) (fun _ _ _ h => h) (Or.inl ⟨by rfl, ?_⟩) hHeld ?_ ?_
          rotate_left
          ·rintro w' ⟨s0, s1, s2, s3, s4, s5, s6, s7, s8, s9, s10, s11, s12, s13⟩
           go_simp
           with_reducible rfl
          rotate_left
          ·simp only [Act.put, z1q83_, z2q83_, z3q83_, i64_w, i32_w]
           rfl
          refine take_ (i:=7) (N:=some 49) (v:=?_) (a':=?_) mk9q83_ rfl rfl (take_ofW HT_.out HW_.out (by kernel_rfl)) (fun _ _ _ h => h) (Or.inl ⟨by rfl, ?_⟩) hHeld ?_ ?_
          rotate_left
          ·rintro w' ⟨s0, s1, s2, s3, s4, s5, s6, s7, s8, s9, s10, s11, s12, s13⟩
           go_simp
           with_reducible rfl
          rotate_left
          ·simp only [Act.put, z1q83_, z2q83_, z3q83_, i64_w, i32_w]
           rfl
          refine pure_ (i:=9) (N:=some 51) (v:=?_) (a':=?_) mk10q83_ rfl rfl (any_of HT_.out (by kernel_rfl)) (fun _ _ _ h => h) (Or.inl ⟨by rfl, ?_⟩) ?_ ?_
          rotate_left
          ·intro w'
           go_simp
           with_reducible rfl
          rotate_left
          ·simp only [Act.put, z1q83_, z2q83_, z3q83_, i64_w, i32_w]
           rfl
          refine pure_ (i:=10) (N:=some 52) (v:=?_) (a':=?_) mk11q83_ rfl rfl (any_of HT_.out (by kernel_rfl)) (fun _ _ _ h => h) (Or.inl ⟨by rfl, ?_⟩) ?_ ?_
          rotate_left
          ·intro w'
           go_simp
           with_reducible rfl
          rotate_left
          ·simp only [Act.put, z1q83_, z2q83_, z3q83_, i64_w, i32_w]
           rfl
          refine take_ (i:=11) (N:=some 53) (v:=?_) (a':=?_) mk12q83_ rfl rfl (take_ofW HT_.out HW_.out (by kernel_rfl)) (fun _ _ _ h => h) (Or.inl ⟨by rfl, ?_⟩) hHeld ?_ ?_
          rotate_left
          ·rintro w' ⟨s0, s1, s2, s3, s4, s5, s6, s7, s8, s9, s10, s11, s12, s13⟩
           go_simp
           with_reducible rfl
          rotate_left
          ·simp only [Act.put, z1q83_, z2q83_, z3q83_, i64_w, i32_w]
           rfl
          refine pure_ (i:=12) (N:=some 54) (v:=?_) (a':=?_) mk13q83_ rfl rfl (any_of HT_.out (by kernel_rfl)) (fun _ _ _ h => h) (Or.inl ⟨by rfl, ?_⟩) ?_ ?_
          rotate_left
          ·intro w'
           go_simp
           with_reducible rfl
          rotate_left
          ·simp only [Act.put, z1q83_, z2q83_, z3q83_, i64_w, i32_w]
           rfl
          refine pure_ (i:=13) (N:=some 55) (v:=?_) (a':=?_) mk14q83_ rfl rfl (any_of HT_.out (by kernel_rfl)) (fun _ _ _ h => h) (Or.inl ⟨by rfl, ?_⟩) ?_ ?_
          rotate_left
          ·intro w'
           go_simp
           with_reducible rfl
          rotate_left
          ·simp only [Act.put, z1q83_, z2q83_, z3q83_, i64_w, i32_w]
           rfl
          refine pure_ (i:=14) (N:=some 56) (v := undef) (a' := ?_) mk15q83_ rfl rfl (any_of HT_.out (by kernel_rfl)) (fun _ _ _ h => h) (Or.inr ⟨by rfl, rfl⟩) ?_ ?_
          rotate_left
          ·simp only [Act.put, z1q83_, z2q83_, z3q83_, i64_w, i32_w]
           rfl
          refine pure_ (i:=15) (N:=some 57) (v := undef) (a' := ?_) mk52q83_ rfl rfl (any_of HT_.out (by kernel_rfl)) (fun _ _ _ h => h) (Or.inr ⟨by rfl, rfl⟩) ?_ ?_
          rotate_left
          ·simp only [Act.put, z1q83_, z2q83_, z3q83_, i64_w, i32_w]
           rfl
          refine pure_ (i:=16) (N:=some 58) (v := undef) (a' := ?_) mk53q83_ rfl rfl (any_of HT_.out (by kernel_rfl)) (fun _ _ _ h => h) (Or.inr ⟨by rfl, rfl⟩) ?_ ?_
          rotate_left
          ·simp only [Act.put, z1q83_, z2q83_, z3q83_, i64_w, i32_w]
           rfl
          refine pure_ (i:=17) (N:=some 59) (v := undef) (a' := ?_) mk54q83_ rfl rfl (any_of HT_.out (by kernel_rfl)) (fun _ _ _ h => h) (Or.inr ⟨by rfl, rfl⟩) ?_ ?_
          rotate_left
          ·simp only [Act.put, z1q83_, z2q83_, z3q83_, i64_w, i32_w]
           rfl
          refine pure_ (i:=18) (N:=some 60) (v := undef) (a' := ?_) mk55q83_ rfl rfl (any_of HT_.out (by kernel_rfl)) (fun _ _ _ h => h) (Or.inr ⟨by rfl, rfl⟩) ?_ ?_
          rotate_left
          ·simp only [Act.put, z1q83_, z2q83_, z3q83_, i64_w, i32_w]
           rfl
          refine pure_ (i:=19) (N:=some 61) (v := undef) (a' := ?_) mk56q83_ rfl rfl (any_of HT_.out (by kernel_rfl)) (fun _ _ _ h => h) (Or.inr ⟨by rfl, rfl⟩) ?_ ?_
          rotate_left
          ·simp only [Act.put, z1q83_, z2q83_, z3q83_, i64_w, i32_w]
           rfl
          refine pure_ (i:=20) (N:=some 62) (v := undef) (a' := ?_) mk57q83_ rfl rfl (any_of HT_.out (by kernel_rfl)) (fun _ _ _ h => h) (Or.inr ⟨by rfl, rfl⟩) ?_ ?_
          rotate_left
          ·simp only [Act.put, z1q83_, z2q83_, z3q83_, i64_w, i32_w]
           rfl
          refine pure_ (i:=21) (N:=some 63) (v := undef) (a' := ?_) mk58q83_ rfl rfl (any_of HT_.out (by kernel_rfl)) (fun _ _ _ h => h) (Or.inr ⟨by rfl, rfl⟩) ?_ ?_
          rotate_left
          ·simp only [Act.put, z1q83_, z2q83_, z3q83_, i64_w, i32_w]
           rfl
          refine pure_ (i:=22) (N:=some 64) (v := undef) (a' := ?_) mk23q83_ rfl rfl (any_of HT_.out (by kernel_rfl)) (fun _ _ _ h => h) (Or.inr ⟨by rfl, rfl⟩) ?_ ?_
          rotate_left
          ·simp only [Act.put, z1q83_, z2q83_, z3q83_, i64_w, i32_w]
           rfl
          refine pure_ (i:=23) (N:=some 65) (v := undef) (a' := ?_) mk24q83_ rfl rfl (any_of HT_.out (by kernel_rfl)) (fun _ _ _ h => h) (Or.inr ⟨by rfl, rfl⟩) ?_ ?_
          rotate_left
          ·simp only [Act.put, z1q83_, z2q83_, z3q83_, i64_w, i32_w]
           rfl
          refine pure_ (i:=24) (N:=some 66) (v := undef) (a' := ?_) mk25q83_ rfl rfl (any_of HT_.out (by kernel_rfl)) (fun _ _ _ h => h) (Or.inr ⟨by rfl, rfl⟩) ?_ ?_
          rotate_left
          ·simp only [Act.put, z1q83_, z2q83_, z3q83_, i64_w, i32_w]
           rfl
          refine pure_ (i:=25) (N:=some 67) (v := undef) (a' := ?_) mk26q83_ rfl rfl (any_of HT_.out (by kernel_rfl)) (fun _ _ _ h => h) (Or.inr ⟨by rfl, rfl⟩) ?_ ?_
          rotate_left
          ·simp only [Act.put, z1q83_, z2q83_, z3q83_, i64_w, i32_w]
           rfl
          refine pure_ (i:=26) (N:=some 68) (v := undef) (a' := ?_) mk27q83_ rfl rfl (any_of HT_.out (by kernel_rfl)) (fun _ _ _ h => h) (Or.inr ⟨by rfl, rfl⟩) ?_ ?_
          rotate_left
          ·simp only [Act.put, z1q83_, z2q83_, z3q83_, i64_w, i32_w]
           rfl
          refine pure_ (i:=27) (N:=some 69) (v:=?_) (a':=?_) mk28q83_ rfl rfl (any_of HT_.out (by kernel_rfl)) (fun _ _ _ h => h) (Or.inl ⟨by rfl, ?_⟩) ?_ ?_
          rotate_left
          ·intro w'
           go_simp
           with_reducible rfl
          rotate_left
          ·simp only [Act.put, z1q83_, z2q83_, z3q83_, i64_w, i32_w]
           rfl
          refine pure_ (i:=28) (N:=some 70) (v:=?_) (a':=?_) mk29q83_ rfl rfl (any_of HT_.out (by kernel_rfl)) (fun _ _ _ h => h) (Or.inl ⟨by rfl, ?_⟩) ?_ ?_
          rotate_left
          ·intro w'
           go_simp
           with_reducible rfl
          rotate_left
          ·simp only [Act.put, z1q83_, z2q83_, z3q83_, i64_w, i32_w]
           rfl
          refine pure_ (i:=29) (N:=some 71) (v := undef) (a' := ?_) mk30q83_ rfl rfl (any_of HT_.out (by kernel_rfl)) (fun _ _ _ h => h) (Or.inr ⟨by rfl, rfl⟩) ?_ ?_
          rotate_left
          ·simp only [Act.put, z1q83_, z2q83_, z3q83_, i64_w, i32_w]
           rfl
          refine pure_ (i:=30) (N:=some 72) (v := undef) (a' := ?_) mk45q83_ rfl rfl (any_of HT_.out (by kernel_rfl)) (fun _ _ _ h => h) (Or.inr ⟨by rfl, rfl⟩) ?_ ?_
          rotate_left
          ·simp only [Act.put, z1q83_, z2q83_, z3q83_, i64_w, i32_w]
           rfl
          refine pure_ (i:=31) (N:=some 73) (v := undef) (a' := ?_) mk46q83_ rfl rfl (any_of HT_.out (by kernel_rfl)) (fun _ _ _ h => h) (Or.inr ⟨by rfl, rfl⟩) ?_ ?_
          rotate_left
          ·simp only [Act.put, z1q83_, z2q83_, z3q83_, i64_w, i32_w]
           rfl
          refine pure_ (i:=32) (N:=some 74) (v := undef) (a' := ?_) mk47q83_ rfl rfl (any_of HT_.out (by kernel_rfl)) (fun _ _ _ h => h) (Or.inr ⟨by rfl, rfl⟩) ?_ ?_
          rotate_left
          ·simp only [Act.put, z1q83_, z2q83_, z3q83_, i64_w, i32_w]
           rfl
          refine pure_ (i:=33) (N:=some 75) (v := undef) (a' := ?_) mk48q83_ rfl rfl (any_of HT_.out (by kernel_rfl)) (fun _ _ _ h => h) (Or.inr ⟨by rfl, rfl⟩) ?_ ?_
          rotate_left
          ·simp only [Act.put, z1q83_, z2q83_, z3q83_, i64_w, i32_w]
           rfl
          refine pure_ (i:=34) (N:=some 76) (v := undef) (a' := ?_) mk49q83_ rfl rfl (any_of HT_.out (by kernel_rfl)) (fun _ _ _ h => h) (Or.inr ⟨by rfl, rfl⟩) ?_ ?_
          rotate_left
          ·simp only [Act.put, z1q83_, z2q83_, z3q83_, i64_w, i32_w]
           rfl
          refine pure_ (i:=35) (N:=some 77) (v := undef) (a' := ?_) mk50q83_ rfl rfl (any_of HT_.out (by kernel_rfl)) (fun _ _ _ h => h) (Or.inr ⟨by rfl, rfl⟩) ?_ ?_
          rotate_left
          ·simp only [Act.put, z1q83_, z2q83_, z3q83_, i64_w, i32_w]
           rfl
          refine pure_ (i:=36) (N:=some 78) (v := undef) (a' := ?_) mk51q83_ rfl rfl (any_of HT_.out (by kernel_rfl)) (fun _ _ _ h => h) (Or.inr ⟨by rfl, rfl⟩) ?_ ?_
          rotate_left
          ·simp only [Act.put, z1q83_, z2q83_, z3q83_, i64_w, i32_w]
           rfl
          refine pure_ (i:=37) (N:=some 79) (v := undef) (a' := ?_) mk38q83_ rfl rfl (any_of HT_.out (by kernel_rfl)) (fun _ _ _ h => h) (Or.inr ⟨by rfl, rfl⟩) ?_ ?_
          rotate_left
          ·simp only [Act.put, z1q83_, z2q83_, z3q83_, i64_w, i32_w]
           rfl
          refine pure_ (i:=38) (N:=some 80) (v := undef) (a' := ?_) mk39q83_ rfl rfl (any_of HT_.out (by kernel_rfl)) (fun _ _ _ h => h) (Or.inr ⟨by rfl, rfl⟩) ?_ ?_
          rotate_left
          ·simp only [Act.put, z1q83_, z2q83_, z3q83_, i64_w, i32_w]
           rfl
          refine pure_ (i:=39) (N:=some 81) (v := undef) (a' := ?_) mk40q83_ rfl rfl (any_of HT_.out (by kernel_rfl)) (fun _ _ _ h => h) (Or.inr ⟨by rfl, rfl⟩) ?_ ?_
          rotate_left
          ·simp only [Act.put, z1q83_, z2q83_, z3q83_, i64_w, i32_w]
           rfl
          refine pure_ (i:=40) (N:=some 82) (v := undef) (a' := ?_) mk41q83_ rfl rfl (any_of HT_.out (by kernel_rfl)) (fun _ _ _ h => h) (Or.inr ⟨by rfl, rfl⟩) ?_ ?_
          rotate_left
          ·simp only [Act.put, z1q83_, z2q83_, z3q83_, i64_w, i32_w]
           rfl
          refine pure_ (i:=41) (N:=some 83) (v := undef) (a' := ?_) mk42q83_ rfl rfl (any_of HT_.out (by kernel_rfl)) (fun _ _ _ h => h) (Or.inr ⟨by rfl, rfl⟩) ?_ ?_
          rotate_left
          ·simp only [Act.put, z1q83_, z2q83_, z3q83_, i64_w, i32_w]
           rfl
          refine pure_ (i:=42) (N:=some 84) (v := undef) (a' := ?_) mk43q83_ rfl rfl (any_of HT_.out (by kernel_rfl)) (fun _ _ _ h => h) (Or.inr ⟨by rfl, rfl⟩) ?_ ?_
          rotate_left
          ·simp only [Act.put, z1q83_, z2q83_, z3q83_, i64_w, i32_w]
           rfl
          refine pure_ (i:=43) (N:=some 85) (v:=?_) (a':=?_) mk44q83_ rfl rfl (any_of HT_.out (by kernel_rfl)) (fun _ _ _ h => h) (Or.inl ⟨by rfl, ?_⟩) ?_ ?_
          rotate_left
          ·intro w'
           go_simp
           with_reducible rfl
          rotate_left
          ·simp only [Act.put, z1q83_, z2q83_, z3q83_, i64_w, i32_w]
           rfl
          refine done_ (done_of HT_.out (by kernel_rfl)) ?_
          try go_wp2
          go_ret
          exact ⟨by first | rfl | (simp [errW_none, errW_some] <;> rfl) | (simp [*, errW_none, errW_some] <;> rfl), by repeat (first | (with_reducible first | exact HB.out | apply below_alloc | apply pw_below_drewN | apply below_drew1 | refine below_set ?_ GE638.out | refine below_set ?_ GE639.out) | exact HB.out)⟩
        ·rw [if_neg c25] at H
         exact absurd H (by simp)
       ·rw [if_neg c24] at H
        exact absurd H (by simp)
      ·rw [if_neg c23] at H
       have c23b0 : decide (x5_2 < (l0_0.length : Int)) = false := decide_eq_false c23
       clear c23
       obtain rfl := Option.some.inj H
       have hnb42 := NB638_639.out
       have hnc42 := NB639_638.out
       have hcz43_0 : wr.cell? ⟨gb638, 0, none⟩ = some (.slice A0_0 l0_0.length c0_0) := (blk_cell BK638.out 0).trans rfl
       have hcz43_1 : wr.cell? ⟨gb638, 1, none⟩ = some (.slice A0_1 l0_1.length c0_1) := (blk_cell BK638.out 1).trans rfl
       have hcz43_2 : wr.cell? ⟨gb638, 2, none⟩ = some (.int .i64 a0_2) := (blk_cell BK638.out 2).trans rfl
       have hcz43_3 : wr.cell? ⟨gb638, 3, none⟩ = some (.int .i64 a0_3) := (blk_cell BK638.out 3).trans rfl
       have hfz43_0 := blk_frozen BK638.out 0
       have hfz43_1 := blk_frozen BK638.out 1
       have hfz43_2 := blk_frozen BK638.out 2
       have hfz43_3 := blk_frozen BK638.out 3
       go_wp2
       go_ret
       exact ⟨by first | rfl | (simp [errW_none, errW_some] <;> rfl) | (simp [*, errW_none, errW_some] <;> rfl), by repeat (first | (with_reducible first | exact HB.out | apply below_alloc | apply pw_below_drewN | apply below_drew1 | refine below_set ?_ GE638.out | refine below_set ?_ GE639.out) | exact HB.out)⟩
end Go.Proofs.Ythdhkoeaadahaaa.P
