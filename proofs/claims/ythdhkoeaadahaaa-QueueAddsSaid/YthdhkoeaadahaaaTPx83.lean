-- PACKED by wip/kit/pack.py: what the law's proof uses of Px83 (printed words and texts of this seat)
import Derived.Test.YthdhkoeaadahaaaTPx0
import Derived.Test.YthdhkoeaadahaaaTPx13
namespace Go.Proofs.Ythdhkoeaadahaaa.P
open Go.RowKit Go.Proofs.YthdhkoeaadahaaaW.PrintWords Go.Proofs.YthdhkoeaadahaaaW.PrintLast Go.Proofs.YthdhkoeaadahaaaW.PrintMore
attribute [local go_sem] max2_int min2_int max_two min_two max_three min_three max_four min_four
set_option linter.unusedVariables false
set_option linter.unusedSimpArgs false
mutual
def counterfoilref12_Equal.j0 : Nat → Bool → List (S99) → List (S74) → Int → Int → List (S99) → List (S74) → Int → Int → Option (Bool)
 | 0, _, _, _, _, _, _, _, _, _ => none
 | k + 1, x34, x667000, x667001, x667002, x667003, x668000, x668001, x668002, x668003 => if x34 = true then (some false) else (counterfoilref12_Equal.l0 k 0 x667000 x667001 x667002 x667003 x668000 x668001 x668002 x668003)
def counterfoilref12_Equal.l0 : Nat → Int → List (S99) → List (S74) → Int → Int → List (S99) → List (S74) → Int → Int → Option (Bool)
 | 0, _, _, _, _, _, _, _, _, _ => none
 | k + 1, x5, x667000, x667001, x667002, x667003, x668000, x668001, x668002, x668003 => if x5 < (x667000.length : Int) then (if 0 ≤ x5 then (if x5 < (x668000.length : Int) then (if ((rd_T99 x667000 x5).f0) = ((rd_T99 x668000 x5).f0) then (if ((rd_T99 x667000 x5).f1) = ((rd_T99 x668000 x5).f1) then ((counterfoilref08_Equal.f k ((rd_T99 x667000 x5).f2) ((rd_T99 x668000 x5).f2)).bind fun t675 => (if t675 = true then (counterfoilref12_Equal.l0 k (wrap64 (x5 + 1)) x667000 x667001 x667002 x667003 x668000 x668001 x668002 x668003) else (some false))) else (some false)) else (some false)) else (none)) else (none)) else (some true)
end
def counterfoilref12_Equal.f (k : Nat) (l0_0 : List (S99)) (l0_1 : List (S74)) (a0_2 : Int) (a0_3 : Int) (l1_0 : List (S99)) (l1_1 : List (S74)) (a1_2 : Int) (a1_3 : Int) : Option (Bool) := if (l0_0.length : Int) = (l1_0.length : Int) then (if a0_2 = a1_2 then (if a0_3 = a1_3 then ((counterfoilref08_Equal.f k l0_1 l1_1).bind fun t668 => (counterfoilref12_Equal.j0 k (!t668) l0_0 l0_1 a0_2 a0_3 l1_0 l1_1 a1_2 a1_3)) else (counterfoilref12_Equal.j0 k true l0_0 l0_1 a0_2 a0_3 l1_0 l1_1 a1_2 a1_3)) else (counterfoilref12_Equal.j0 k true l0_0 l0_1 a0_2 a0_3 l1_0 l1_1 a1_2 a1_3)) else (counterfoilref12_Equal.j0 k true l0_0 l0_1 a0_2 a0_3 l1_0 l1_1 a1_2 a1_3)
def counterfoilref12_Equal.T6 : Bool × List (List Nat × List Nat) := (true, [([], []), ([0], [0]), ([], []), ([1, 2], [1, 2]), ([3], [3]), ([4], [4]), ([], []), ([6], [6]), ([], []), ([7, 8], [7, 8]), ([9], [9]), ([10], [10]), ([5, 11], [5, 11]), ([12], [12]), ([13], [13]), ([14, 13], [13, 14]), ([13], [13]), ([15, 16, 13], [13, 15, 16]), ([17, 13], [13, 17]), ([18, 13], [13, 18]), ([13], [13]), ([20, 13], [13, 20]), ([13], [13]), ([21, 22, 13], [13, 21, 22]), ([23, 13], [13, 23]), ([24, 13], [13, 24]), ([19, 25, 13], [13, 19, 25]), ([13, 26], [13, 26]), ([27, 13], [27]), ([28], [28]), ([29, 28], [28, 29]), ([28], [28]), ([30, 31, 28], [28, 30, 31]), ([32, 28], [28, 32]), ([33, 28], [28, 33]), ([28], [28]), ([35, 28], [28, 35]), ([28], [28]), ([36, 37, 28], [28, 36, 37]), ([38, 28], [28, 38]), ([39, 28], [28, 39]), ([34, 40, 28, 28], [28, 34, 40]), ([41, 28], [28, 41]), ([28, 42], [28, 42])])
def counterfoilref12_Equal.B6 : List Nat := [0, 1, 0, 7, 15, 31, 0, 64, 0, 448, 960, 1984, 4095, 8191, 16383, 32767, 16383, 131071, 262143, 524287, 16383, 1064959, 16383, 7356415, 15745023, 32522239, 67108863, 134217727, 268435455, 536870911, 1073741823, 536870911, 4294967295, 8589934591, 17179869183, 536870911, 34896609279, 536870911, 241055039487, 515932946431, 1065688760319, 2199023255551, 4398046511103, 8796093022207]
theorem counterfoilref12_Equal.tab6 : rtab .any (opsOf Try.f72 6) = counterfoilref12_Equal.T6 := by kernel_rfl
theorem counterfoilref12_Equal.bits6 : waitsOk counterfoilref12_Equal.T6.2 counterfoilref12_Equal.B6 = true := by kernel_rfl
theorem A0q83_ {p : Prop} (h : p) : Aside0 p := ⟨h⟩
theorem z1q83_ {α : Type} (l : List α) (i : Nat) (a : α) : l.toArray.setIfInBounds i a = (l.set i a).toArray := List.setIfInBounds_toArray l i a
theorem z2q83_ {α : Type} {x : α} {xs : List α} {a : α} : (x :: xs).set 0 a = a :: xs := List.set_cons_zero
theorem z3q83_ {α : Type} {x : α} {xs : List α} {n : Nat} {a : α} : (x :: xs).set (n + 1) a = x :: xs.set n a := List.set_cons_succ
abbrev mk0q83_ : Array Bool := #[false, false, false, false, false, false, false, false, false, false, false, false, false, false, false, false, false, false, false, false, false, false, false, false, false, false, false, false, false, false, false, false, false, false, false, false, false, false, false, false, false, false, false, false]
abbrev mk1q83_ : Array Bool := #[true, false, false, false, false, false, false, false, false, false, false, false, false, false, false, false, false, false, false, false, false, false, false, false, false, false, false, false, false, false, false, false, false, false, false, false, false, false, false, false, false, false, false, false]
abbrev mk2q83_ : Array Bool := #[true, false, true, false, false, false, false, false, false, false, false, false, false, false, false, false, false, false, false, false, false, false, false, false, false, false, false, false, false, false, false, false, false, false, false, false, false, false, false, false, false, false, false, false]
abbrev mk3q83_ : Array Bool := #[true, false, true, false, false, false, true, false, false, false, false, false, false, false, false, false, false, false, false, false, false, false, false, false, false, false, false, false, false, false, false, false, false, false, false, false, false, false, false, false, false, false, false, false]
abbrev mk4q83_ : Array Bool := #[true, false, true, false, false, false, true, false, true, false, false, false, false, false, false, false, false, false, false, false, false, false, false, false, false, false, false, false, false, false, false, false, false, false, false, false, false, false, false, false, false, false, false, false]
abbrev mk5q83_ : Array Bool := #[true, true, true, false, false, false, true, false, true, false, false, false, false, false, false, false, false, false, false, false, false, false, false, false, false, false, false, false, false, false, false, false, false, false, false, false, false, false, false, false, false, false, false, false]
abbrev mk6q83_ : Array Bool := #[true, true, true, true, false, false, true, false, true, false, false, false, false, false, false, false, false, false, false, false, false, false, false, false, false, false, false, false, false, false, false, false, false, false, false, false, false, false, false, false, false, false, false, false]
abbrev mk7q83_ : Array Bool := #[true, true, true, true, true, false, true, false, true, false, false, false, false, false, false, false, false, false, false, false, false, false, false, false, false, false, false, false, false, false, false, false, false, false, false, false, false, false, false, false, false, false, false, false]
abbrev mk8q83_ : Array Bool := #[true, true, true, true, true, true, true, false, true, false, false, false, false, false, false, false, false, false, false, false, false, false, false, false, false, false, false, false, false, false, false, false, false, false, false, false, false, false, false, false, false, false, false, false]
abbrev mk9q83_ : Array Bool := #[true, true, true, true, true, true, true, true, true, false, false, false, false, false, false, false, false, false, false, false, false, false, false, false, false, false, false, false, false, false, false, false, false, false, false, false, false, false, false, false, false, false, false, false]
abbrev mk10q83_ : Array Bool := #[true, true, true, true, true, true, true, true, true, true, false, false, false, false, false, false, false, false, false, false, false, false, false, false, false, false, false, false, false, false, false, false, false, false, false, false, false, false, false, false, false, false, false, false]
abbrev mk11q83_ : Array Bool := #[true, true, true, true, true, true, true, true, true, true, true, false, false, false, false, false, false, false, false, false, false, false, false, false, false, false, false, false, false, false, false, false, false, false, false, false, false, false, false, false, false, false, false, false]
abbrev mk12q83_ : Array Bool := #[true, true, true, true, true, true, true, true, true, true, true, true, false, false, false, false, false, false, false, false, false, false, false, false, false, false, false, false, false, false, false, false, false, false, false, false, false, false, false, false, false, false, false, false]
abbrev mk13q83_ : Array Bool := #[true, true, true, true, true, true, true, true, true, true, true, true, true, false, false, false, false, false, false, false, false, false, false, false, false, false, false, false, false, false, false, false, false, false, false, false, false, false, false, false, false, false, false, false]
abbrev mk14q83_ : Array Bool := #[true, true, true, true, true, true, true, true, true, true, true, true, true, true, false, false, false, false, false, false, false, false, false, false, false, false, false, false, false, false, false, false, false, false, false, false, false, false, false, false, false, false, false, false]
abbrev mk15q83_ : Array Bool := #[true, true, true, true, true, true, true, true, true, true, true, true, true, true, true, false, false, false, false, false, false, false, false, false, false, false, false, false, false, false, false, false, false, false, false, false, false, false, false, false, false, false, false, false]
abbrev mk16q83_ : Array Bool := #[true, true, true, true, true, true, true, true, true, true, true, true, true, true, true, false, true, false, false, false, false, false, false, false, false, false, false, false, false, false, false, false, false, false, false, false, false, false, false, false, false, false, false, false]
abbrev mk17q83_ : Array Bool := #[true, true, true, true, true, true, true, true, true, true, true, true, true, true, true, false, true, false, false, false, true, false, false, false, false, false, false, false, false, false, false, false, false, false, false, false, false, false, false, false, false, false, false, false]
abbrev mk18q83_ : Array Bool := #[true, true, true, true, true, true, true, true, true, true, true, true, true, true, true, false, true, false, false, false, true, false, true, false, false, false, false, false, false, false, false, false, false, false, false, false, false, false, false, false, false, false, false, false]
abbrev mk19q83_ : Array Bool := #[true, true, true, true, true, true, true, true, true, true, true, true, true, true, true, true, true, false, false, false, true, false, true, false, false, false, false, false, false, false, false, false, false, false, false, false, false, false, false, false, false, false, false, false]
abbrev mk20q83_ : Array Bool := #[true, true, true, true, true, true, true, true, true, true, true, true, true, true, true, true, true, true, false, false, true, false, true, false, false, false, false, false, false, false, false, false, false, false, false, false, false, false, false, false, false, false, false, false]
abbrev mk21q83_ : Array Bool := #[true, true, true, true, true, true, true, true, true, true, true, true, true, true, true, true, true, true, true, false, true, false, true, false, false, false, false, false, false, false, false, false, false, false, false, false, false, false, false, false, false, false, false, false]
abbrev mk22q83_ : Array Bool := #[true, true, true, true, true, true, true, true, true, true, true, true, true, true, true, true, true, true, true, true, true, false, true, false, false, false, false, false, false, false, false, false, false, false, false, false, false, false, false, false, false, false, false, false]
abbrev mk23q83_ : Array Bool := #[true, true, true, true, true, true, true, true, true, true, true, true, true, true, true, true, true, true, true, true, true, true, true, false, false, false, false, false, false, false, false, false, false, false, false, false, false, false, false, false, false, false, false, false]
abbrev mk24q83_ : Array Bool := #[true, true, true, true, true, true, true, true, true, true, true, true, true, true, true, true, true, true, true, true, true, true, true, true, false, false, false, false, false, false, false, false, false, false, false, false, false, false, false, false, false, false, false, false]
abbrev mk25q83_ : Array Bool := #[true, true, true, true, true, true, true, true, true, true, true, true, true, true, true, true, true, true, true, true, true, true, true, true, true, false, false, false, false, false, false, false, false, false, false, false, false, false, false, false, false, false, false, false]
abbrev mk26q83_ : Array Bool := #[true, true, true, true, true, true, true, true, true, true, true, true, true, true, true, true, true, true, true, true, true, true, true, true, true, true, false, false, false, false, false, false, false, false, false, false, false, false, false, false, false, false, false, false]
abbrev mk27q83_ : Array Bool := #[true, true, true, true, true, true, true, true, true, true, true, true, true, true, true, true, true, true, true, true, true, true, true, true, true, true, true, false, false, false, false, false, false, false, false, false, false, false, false, false, false, false, false, false]
abbrev mk28q83_ : Array Bool := #[true, true, true, true, true, true, true, true, true, true, true, true, true, true, true, true, true, true, true, true, true, true, true, true, true, true, true, true, false, false, false, false, false, false, false, false, false, false, false, false, false, false, false, false]
abbrev mk29q83_ : Array Bool := #[true, true, true, true, true, true, true, true, true, true, true, true, true, true, true, true, true, true, true, true, true, true, true, true, true, true, true, true, true, false, false, false, false, false, false, false, false, false, false, false, false, false, false, false]
abbrev mk30q83_ : Array Bool := #[true, true, true, true, true, true, true, true, true, true, true, true, true, true, true, true, true, true, true, true, true, true, true, true, true, true, true, true, true, true, false, false, false, false, false, false, false, false, false, false, false, false, false, false]
abbrev mk31q83_ : Array Bool := #[true, true, true, true, true, true, true, true, true, true, true, true, true, true, true, true, true, true, true, true, true, true, true, true, true, true, true, true, true, true, false, true, false, false, false, false, false, false, false, false, false, false, false, false]
abbrev mk32q83_ : Array Bool := #[true, true, true, true, true, true, true, true, true, true, true, true, true, true, true, true, true, true, true, true, true, true, true, true, true, true, true, true, true, true, false, true, false, false, false, true, false, false, false, false, false, false, false, false]
abbrev mk33q83_ : Array Bool := #[true, true, true, true, true, true, true, true, true, true, true, true, true, true, true, true, true, true, true, true, true, true, true, true, true, true, true, true, true, true, false, true, false, false, false, true, false, true, false, false, false, false, false, false]
abbrev mk34q83_ : Array Bool := #[true, true, true, true, true, true, true, true, true, true, true, true, true, true, true, true, true, true, true, true, true, true, true, true, true, true, true, true, true, true, true, true, false, false, false, true, false, true, false, false, false, false, false, false]
abbrev mk35q83_ : Array Bool := #[true, true, true, true, true, true, true, true, true, true, true, true, true, true, true, true, true, true, true, true, true, true, true, true, true, true, true, true, true, true, true, true, true, false, false, true, false, true, false, false, false, false, false, false]
abbrev mk36q83_ : Array Bool := #[true, true, true, true, true, true, true, true, true, true, true, true, true, true, true, true, true, true, true, true, true, true, true, true, true, true, true, true, true, true, true, true, true, true, false, true, false, true, false, false, false, false, false, false]
abbrev mk37q83_ : Array Bool := #[true, true, true, true, true, true, true, true, true, true, true, true, true, true, true, true, true, true, true, true, true, true, true, true, true, true, true, true, true, true, true, true, true, true, true, true, false, true, false, false, false, false, false, false]
abbrev mk38q83_ : Array Bool := #[true, true, true, true, true, true, true, true, true, true, true, true, true, true, true, true, true, true, true, true, true, true, true, true, true, true, true, true, true, true, true, true, true, true, true, true, true, true, false, false, false, false, false, false]
abbrev mk39q83_ : Array Bool := #[true, true, true, true, true, true, true, true, true, true, true, true, true, true, true, true, true, true, true, true, true, true, true, true, true, true, true, true, true, true, true, true, true, true, true, true, true, true, true, false, false, false, false, false]
abbrev mk40q83_ : Array Bool := #[true, true, true, true, true, true, true, true, true, true, true, true, true, true, true, true, true, true, true, true, true, true, true, true, true, true, true, true, true, true, true, true, true, true, true, true, true, true, true, true, false, false, false, false]
abbrev mk41q83_ : Array Bool := #[true, true, true, true, true, true, true, true, true, true, true, true, true, true, true, true, true, true, true, true, true, true, true, true, true, true, true, true, true, true, true, true, true, true, true, true, true, true, true, true, true, false, false, false]
abbrev mk42q83_ : Array Bool := #[true, true, true, true, true, true, true, true, true, true, true, true, true, true, true, true, true, true, true, true, true, true, true, true, true, true, true, true, true, true, true, true, true, true, true, true, true, true, true, true, true, true, false, false]
abbrev mk43q83_ : Array Bool := #[true, true, true, true, true, true, true, true, true, true, true, true, true, true, true, true, true, true, true, true, true, true, true, true, true, true, true, true, true, true, true, true, true, true, true, true, true, true, true, true, true, true, true, false]
abbrev mk44q83_ : Array Bool := #[true, true, true, true, true, true, true, true, true, true, true, true, true, true, true, true, true, true, true, true, true, true, true, true, true, true, true, true, true, true, true, true, true, true, true, true, true, true, true, true, true, true, true, true]
set_option maxHeartbeats 8000000 in
set_option maxRecDepth 100000 in
theorem counterfoilref12_Equal.calls (k : Nat) (A0_0 : Option Addr) (c0_0 : Nat) (l0_0 : List (S99)) (A0_1 : Option Addr) (c0_1 : Nat) (l0_1 : List (S74)) (a0_2 : Int) (a0_3 : Int) (A1_0 : Option Addr) (c1_0 : Nat) (l1_0 : List (S99)) (A1_1 : Option Addr) (c1_1 : Nat) (l1_1 : List (S74)) (a1_2 : Int) (a1_3 : Int) (r : Bool) (w : World) (hr0_0 : Kd.C k99 w A0_0 l0_0.length l0_0) (hc0_0 : l0_0.length ≤ c0_0) (hr0_1 : Kd.C k74 w A0_1 l0_1.length l0_1) (hc0_1 : l0_1.length ≤ c0_1) (hr1_0 : Kd.C k99 w A1_0 l1_0.length l1_0) (hc1_0 : l1_0.length ≤ c1_0) (hr1_1 : Kd.C k74 w A1_1 l1_1.length l1_1) (hc1_1 : l1_1.length ≤ c1_1) (h : counterfoilref12_Equal.f k l0_0 l0_1 a0_2 a0_3 l1_0 l1_1 a1_2 a1_3 = some r) (hr_ : r = true := by rfl) :
  Calls Try.prog 72 #[.agg #[.slice A0_0 l0_0.length c0_0, .slice A0_1 l0_1.length c0_1, .int .i64 a0_2, .int .i64 a0_3], .agg #[.slice A1_0 l1_0.length c1_0, .slice A1_1 l1_1.length c1_1, .int .i64 a1_2, .int .i64 a1_3]] w fun e w' => e = .returned (.bool r) ∧ Below w.heap.size w w' := by
 have HR_ := A0q83_ hr_
 clear hr_
 have hu27 := Try.underlying27
 have HR0_0 := A0q83_ hr0_0
 have HC0_0 := A0q83_ hc0_0
 clear hr0_0 hc0_0
 have HR0_1 := A0q83_ hr0_1
 have HC0_1 := A0q83_ hc0_1
 clear hr0_1 hc0_1
 have HR1_0 := A0q83_ hr1_0
 have HC1_0 := A0q83_ hc1_0
 clear hr1_0 hc1_0
 have HR1_1 := A0q83_ hr1_1
 have HC1_1 := A0q83_ hc1_1
 clear hr1_1 hc1_1
 have HB := A0q83_ (Below.refl w.heap.size w)
 have H : (if (l0_0.length : Int) = (l1_0.length : Int) then (if a0_2 = a1_2 then (if a0_3 = a1_3 then ((counterfoilref08_Equal.f k l0_1 l1_1).bind fun t668 => (counterfoilref12_Equal.j0 k (!t668) l0_0 l0_1 a0_2 a0_3 l1_0 l1_1 a1_2 a1_3)) else (counterfoilref12_Equal.j0 k true l0_0 l0_1 a0_2 a0_3 l1_0 l1_1 a1_2 a1_3)) else (counterfoilref12_Equal.j0 k true l0_0 l0_1 a0_2 a0_3 l1_0 l1_1 a1_2 a1_3)) else (counterfoilref12_Equal.j0 k true l0_0 l0_1 a0_2 a0_3 l1_0 l1_1 a1_2 a1_3)) = some r := h
 clear h
 have HC3 := A0q83_ H
 clear H
 go_enter Try.func72, Try.ntmps72
 go_upto_region 1 with (first | ((with_reducible refine gate_dst (N:=2) rfl ?_); refine box_event ?hg (N:=2) ?hd (cs := #[.slice A0_0 l0_0.length c0_0, .slice A0_1 l0_1.length c0_1, .int .i64 a0_2, .int .i64 a0_3]) (t := 27) ?hr ?_; (case hd => rfl); (case hg => rfl); (case hr => first | (go_simp; done) | (go_simp; rfl)); intro gb666 hg w4 hbox hb; have n0_ := A0q83_ (below_step (by repeat (first | (with_reducible first | exact HB.out | apply below_alloc | apply pw_below_drewN | apply below_drew1) | exact HB.out)) hb); have n1_ := A0q83_ (hbox); have n2_ := A0q83_ ((by rw [hg]; exact (below_size (by repeat (first | (with_reducible first | exact HB.out | apply below_alloc | apply pw_below_drewN | apply below_drew1) | exact HB.out))) : w.heap.size ≤ gb666)); have n3_ := A0q83_ ((by rw [hg]; exact (below_size (by repeat (first | (with_reducible first | exact HB.out | apply below_alloc | apply pw_below_drewN | apply below_drew1) | exact HB.out))) : w.heap.size ≤ gb666)); clear HB; have HB := n0_; have BK666 := n1_; have GW666 := n2_; have GE666 := n3_; clear n0_ n1_ n2_ n3_; clear hb hbox hg) | ((with_reducible refine gate_dst (N:=3) rfl ?_); refine box_event ?hg (N:=3) ?hd (cs := #[.slice A1_0 l1_0.length c1_0, .slice A1_1 l1_1.length c1_1, .int .i64 a1_2, .int .i64 a1_3]) (t := 27) ?hr ?_; (case hd => rfl); (case hg => rfl); (case hr => first | (go_simp; done) | (go_simp; rfl)); intro gb667 hg w5 hbox hb; have n0_ := A0q83_ (blk_below (g:=gb666) (o:=.cells #[.slice A0_0 l0_0.length c0_0, .slice A0_1 l0_1.length c0_1, .int .i64 a0_2, .int .i64 a0_3] 27 (0, 0)) (by (with_reducible repeat (first | refine blk_drewN ?_ _ | refine blk_drew ?_ | refine blk_alloc ?_ _)); exact BK666.out) hb); have n1_ := A0q83_ (below_step (by repeat (first | (with_reducible first | exact HB.out | apply below_alloc | apply pw_below_drewN | apply below_drew1 | refine below_set ?_ GE666.out) | exact HB.out)) hb); have n2_ := A0q83_ (hbox); have n3_ := A0q83_ ((by rw [hg]; exact (below_size (by repeat (first | (with_reducible first | exact HB.out | apply below_alloc | apply pw_below_drewN | apply below_drew1 | refine below_set ?_ GE666.out) | exact HB.out))) : w.heap.size ≤ gb667)); have n4_ := A0q83_ ((by rw [hg]; exact (below_size (by repeat (first | (with_reducible first | exact HB.out | apply below_alloc | apply pw_below_drewN | apply below_drew1 | refine below_set ?_ GE666.out) | exact HB.out))) : w.heap.size ≤ gb667)); have n5_ := A0q83_ ((by rw [hg]; exact Nat.ne_of_lt (blk_lt (g:=gb666) (o:=.cells #[.slice A0_0 l0_0.length c0_0, .slice A0_1 l0_1.length c0_1, .int .i64 a0_2, .int .i64 a0_3] 27 (0, 0)) (by (with_reducible repeat (first | refine blk_drewN ?_ _ | refine blk_drew ?_ | refine blk_alloc ?_ _)); exact BK666.out)) : gb666 ≠ gb667)); have n6_ := A0q83_ ((by rw [hg]; exact Nat.ne_of_gt (blk_lt (g:=gb666) (o:=.cells #[.slice A0_0 l0_0.length c0_0, .slice A0_1 l0_1.length c0_1, .int .i64 a0_2, .int .i64 a0_3] 27 (0, 0)) (by (with_reducible repeat (first | refine blk_drewN ?_ _ | refine blk_drew ?_ | refine blk_alloc ?_ _)); exact BK666.out)) : gb667 ≠ gb666)); clear BK666; clear HB; have BK666 := n0_; have HB := n1_; have BK667 := n2_; have GW667 := n3_; have GE667 := n4_; have NB666_667 := n5_; have NB667_666 := n6_; clear n0_ n1_ n2_ n3_ n4_ n5_ n6_; clear hb hbox hg))
 (try simp only [Act.put, z1q83_, z2q83_, z3q83_])
 go_cut [34] (fun v34 wc => ∃ (kq : Nat) (x34_2 : Bool), v34 = .bool x34_2 ∧ Aside0 (counterfoilref12_Equal.j0 kq x34_2 l0_0 l0_1 a0_2 a0_3 l1_0 l1_1 a1_2 a1_3 = some r) ∧ Aside0 (kq ≤ k) ∧ Aside0 (wc.heap[gb666]? = some (.cells #[(.slice A0_0 l0_0.length c0_0), (.slice A0_1 l0_1.length c0_1), .int .i64 a0_2, .int .i64 a0_3] 27 (0, 0))) ∧ Aside0 (wc.heap[gb667]? = some (.cells #[(.slice A1_0 l1_0.length c1_0), (.slice A1_1 l1_1.length c1_1), .int .i64 a1_2, .int .i64 a1_3] 27 (0, 0))) ∧ Aside0 (Below w.heap.size w wc))
 case first =>
  have H := HC3.out
  clear HC3
  by_cases c6 : (l0_0.length : Int) = (l1_0.length : Int)
  ·rw [if_pos c6] at H
   have c6b0 : ((l0_0.length : Int) == (l1_0.length : Int)) = true := beq_iff_eq.mpr c6
   have c6b1 : ((l0_0.length : Int) != (l1_0.length : Int)) = false := bne_eq_false_iff_eq.mpr c6
   have c6b2 : (l0_0.length == l1_0.length) = true := by first | simpa using c6 | (simp at c6 ⊢; omega)
   clear c6
   (first | rw [c6b0] | (simp only [i64_w, i32_w]; rw [c6b0]) | skip)
   by_cases c7 : a0_2 = a1_2
   ·rw [if_pos c7] at H
    have c7b0 : (a0_2 == a1_2) = true := beq_iff_eq.mpr c7
    have c7b1 : (a0_2 != a1_2) = false := bne_eq_false_iff_eq.mpr c7
    clear c7
    by_cases c8 : a0_3 = a1_3
    ·rw [if_pos c8] at H
     have c8b0 : (a0_3 == a1_3) = true := beq_iff_eq.mpr c8
     have c8b1 : (a0_3 != a1_3) = false := bne_eq_false_iff_eq.mpr c8
     clear c8
     replace H := Option.bind_eq_some_iff.mp H
     obtain ⟨t668, A90, H⟩ := H
     replace H : (counterfoilref12_Equal.j0 k (!t668) l0_0 l0_1 a0_2 a0_3 l1_0 l1_1 a1_2 a1_3) = some r := H
     have A9 := A0q83_ A90
     clear A90
     have H' := A0q83_ H
     clear H
     have hnb10 := NB666_667.out
     have hnc10 := NB667_666.out
     have hcz11_0 : w5.cell? ⟨gb666, 0, none⟩ = some (.slice A0_0 l0_0.length c0_0) := (blk_cell BK666.out 0).trans rfl
     have hcz11_1 : w5.cell? ⟨gb666, 1, none⟩ = some (.slice A0_1 l0_1.length c0_1) := (blk_cell BK666.out 1).trans rfl
     have hcz11_2 : w5.cell? ⟨gb666, 2, none⟩ = some (.int .i64 a0_2) := (blk_cell BK666.out 2).trans rfl
     have hcz11_3 : w5.cell? ⟨gb666, 3, none⟩ = some (.int .i64 a0_3) := (blk_cell BK666.out 3).trans rfl
     have hfz11_0 := blk_frozen BK666.out 0
     have hfz11_1 := blk_frozen BK666.out 1
     have hfz11_2 := blk_frozen BK666.out 2
     have hfz11_3 := blk_frozen BK666.out 3
     have hcz12_0 : w5.cell? ⟨gb667, 0, none⟩ = some (.slice A1_0 l1_0.length c1_0) := (blk_cell BK667.out 0).trans rfl
     have hcz12_1 : w5.cell? ⟨gb667, 1, none⟩ = some (.slice A1_1 l1_1.length c1_1) := (blk_cell BK667.out 1).trans rfl
     have hcz12_2 : w5.cell? ⟨gb667, 2, none⟩ = some (.int .i64 a1_2) := (blk_cell BK667.out 2).trans rfl
     have hcz12_3 : w5.cell? ⟨gb667, 3, none⟩ = some (.int .i64 a1_3) := (blk_cell BK667.out 3).trans rfl
     have hfz12_0 := blk_frozen BK667.out 0
     have hfz12_1 := blk_frozen BK667.out 1
     have hfz12_2 := blk_frozen BK667.out 2
     have hfz12_3 := blk_frozen BK667.out 3
     go_wp2_with (first | (go_at_call 49; (with_reducible refine (counterfoilref08_Equal.calls k _ _ l0_1 _ _ l1_1 t668 _ ?side1 ?side2 ?side3 ?side4 A9.out).mono ?_); (case side1 => repeat (first | exact (Kd.C_below HR0_1.out HB.out) | (with_reducible refine Kd.C_alloc ?_ _) | (with_reducible refine Kd.C_drewN ?_ _) | (with_reducible refine Kd.C_drew ?_))); (case side2 => exact HC0_1.out); (case side3 => repeat (first | exact (Kd.C_below HR1_1.out HB.out) | (with_reducible refine Kd.C_alloc ?_ _) | (with_reducible refine Kd.C_drewN ?_ _) | (with_reducible refine Kd.C_drew ?_))); (case side4 => exact HC1_1.out); rintro e w' ⟨rfl, ⟨nd, rfl⟩⟩))
     go_meet
     case rel => exact ⟨_, (!t668), (by first | rfl | (simp; done) | (simp [*]; done)), H', ⟨by first | omega | exact Nat.le_refl _⟩, ⟨by (with_reducible repeat (first | refine blk_drewN ?_ _ | refine blk_drew ?_ | refine blk_alloc ?_ _)); exact BK666.out⟩, ⟨by (with_reducible repeat (first | refine blk_drewN ?_ _ | refine blk_drew ?_ | refine blk_alloc ?_ _)); exact BK667.out⟩, ⟨by repeat (first | (with_reducible first | exact HB.out | apply below_alloc | apply pw_below_drewN | apply below_drew1 | refine below_set ?_ GE666.out | refine below_set ?_ GE667.out) | exact HB.out)⟩⟩
    ·rw [if_neg c8] at H
     have c8b0 : (a0_3 == a1_3) = false := beq_eq_false_iff_ne.mpr c8
     have c8b1 : (a0_3 != a1_3) = true := bne_iff_ne.mpr c8
     have H' := A0q83_ H
     clear H
     have hnb13 := NB666_667.out
     have hnc13 := NB667_666.out
     have hcz14_0 : w5.cell? ⟨gb666, 0, none⟩ = some (.slice A0_0 l0_0.length c0_0) := (blk_cell BK666.out 0).trans rfl
     have hcz14_1 : w5.cell? ⟨gb666, 1, none⟩ = some (.slice A0_1 l0_1.length c0_1) := (blk_cell BK666.out 1).trans rfl
     have hcz14_2 : w5.cell? ⟨gb666, 2, none⟩ = some (.int .i64 a0_2) := (blk_cell BK666.out 2).trans rfl
     have hcz14_3 : w5.cell? ⟨gb666, 3, none⟩ = some (.int .i64 a0_3) := (blk_cell BK666.out 3).trans rfl
     have hfz14_0 := blk_frozen BK666.out 0
     have hfz14_1 := blk_frozen BK666.out 1
     have hfz14_2 := blk_frozen BK666.out 2
     have hfz14_3 := blk_frozen BK666.out 3
     have hcz15_0 : w5.cell? ⟨gb667, 0, none⟩ = some (.slice A1_0 l1_0.length c1_0) := (blk_cell BK667.out 0).trans rfl
     have hcz15_1 : w5.cell? ⟨gb667, 1, none⟩ = some (.slice A1_1 l1_1.length c1_1) := (blk_cell BK667.out 1).trans rfl
     have hcz15_2 : w5.cell? ⟨gb667, 2, none⟩ = some (.int .i64 a1_2) := (blk_cell BK667.out 2).trans rfl
     have hcz15_3 : w5.cell? ⟨gb667, 3, none⟩ = some (.int .i64 a1_3) := (blk_cell BK667.out 3).trans rfl
     have hfz15_0 := blk_frozen BK667.out 0
     have hfz15_1 := blk_frozen BK667.out 1
     have hfz15_2 := blk_frozen BK667.out 2
     have hfz15_3 := blk_frozen BK667.out 3
     go_wp2
     go_meet
     case rel => exact ⟨_, (true), (by first | rfl | (simp; done) | (simp [*]; done)), H', ⟨by first | omega | exact Nat.le_refl _⟩, ⟨by (with_reducible repeat (first | refine blk_drewN ?_ _ | refine blk_drew ?_ | refine blk_alloc ?_ _)); exact BK666.out⟩, ⟨by (with_reducible repeat (first | refine blk_drewN ?_ _ | refine blk_drew ?_ | refine blk_alloc ?_ _)); exact BK667.out⟩, ⟨by repeat (first | (with_reducible first | exact HB.out | apply below_alloc | apply pw_below_drewN | apply below_drew1 | refine below_set ?_ GE666.out | refine below_set ?_ GE667.out) | exact HB.out)⟩⟩
   ·rw [if_neg c7] at H
    have c7b0 : (a0_2 == a1_2) = false := beq_eq_false_iff_ne.mpr c7
    have c7b1 : (a0_2 != a1_2) = true := bne_iff_ne.mpr c7
    have H' := A0q83_ H
    clear H
    have hnb16 := NB666_667.out
    have hnc16 := NB667_666.out
    have hcz17_0 : w5.cell? ⟨gb666, 0, none⟩ = some (.slice A0_0 l0_0.length c0_0) := (blk_cell BK666.out 0).trans rfl
    have hcz17_1 : w5.cell? ⟨gb666, 1, none⟩ = some (.slice A0_1 l0_1.length c0_1) := (blk_cell BK666.out 1).trans rfl
    have hcz17_2 : w5.cell? ⟨gb666, 2, none⟩ = some (.int .i64 a0_2) := (blk_cell BK666.out 2).trans rfl
    have hcz17_3 : w5.cell? ⟨gb666, 3, none⟩ = some (.int .i64 a0_3) := (blk_cell BK666.out 3).trans rfl
    have hfz17_0 := blk_frozen BK666.out 0
    have hfz17_1 := blk_frozen BK666.out 1
    have hfz17_2 := blk_frozen BK666.out 2
    have hfz17_3 := blk_frozen BK666.out 3
    have hcz18_0 : w5.cell? ⟨gb667, 0, none⟩ = some (.slice A1_0 l1_0.length c1_0) := (blk_cell BK667.out 0).trans rfl
    have hcz18_1 : w5.cell? ⟨gb667, 1, none⟩ = some (.slice A1_1 l1_1.length c1_1) := (blk_cell BK667.out 1).trans rfl
    have hcz18_2 : w5.cell? ⟨gb667, 2, none⟩ = some (.int .i64 a1_2) := (blk_cell BK667.out 2).trans rfl
    have hcz18_3 : w5.cell? ⟨gb667, 3, none⟩ = some (.int .i64 a1_3) := (blk_cell BK667.out 3).trans rfl
    have hfz18_0 := blk_frozen BK667.out 0
    have hfz18_1 := blk_frozen BK667.out 1
    have hfz18_2 := blk_frozen BK667.out 2
    have hfz18_3 := blk_frozen BK667.out 3
    go_wp2
    go_meet
    case rel => exact ⟨_, (true), (by first | rfl | (simp; done) | (simp [*]; done)), H', ⟨by first | omega | exact Nat.le_refl _⟩, ⟨by (with_reducible repeat (first | refine blk_drewN ?_ _ | refine blk_drew ?_ | refine blk_alloc ?_ _)); exact BK666.out⟩, ⟨by (with_reducible repeat (first | refine blk_drewN ?_ _ | refine blk_drew ?_ | refine blk_alloc ?_ _)); exact BK667.out⟩, ⟨by repeat (first | (with_reducible first | exact HB.out | apply below_alloc | apply pw_below_drewN | apply below_drew1 | refine below_set ?_ GE666.out | refine below_set ?_ GE667.out) | exact HB.out)⟩⟩
  ·rw [if_neg c6] at H
   have c6b0 : ((l0_0.length : Int) == (l1_0.length : Int)) = false := beq_eq_false_iff_ne.mpr c6
   have c6b1 : ((l0_0.length : Int) != (l1_0.length : Int)) = true := bne_iff_ne.mpr c6
   have c6b2 : (l0_0.length == l1_0.length) = false := by first | simpa using c6 | (simp at c6 ⊢; omega)
   (first | rw [c6b0] | (simp only [i64_w, i32_w]; rw [c6b0]) | skip)
   have H' := A0q83_ H
   clear H
   have hnb19 := NB666_667.out
   have hnc19 := NB667_666.out
   have hcz20_0 : w5.cell? ⟨gb666, 0, none⟩ = some (.slice A0_0 l0_0.length c0_0) := (blk_cell BK666.out 0).trans rfl
   have hcz20_1 : w5.cell? ⟨gb666, 1, none⟩ = some (.slice A0_1 l0_1.length c0_1) := (blk_cell BK666.out 1).trans rfl
   have hcz20_2 : w5.cell? ⟨gb666, 2, none⟩ = some (.int .i64 a0_2) := (blk_cell BK666.out 2).trans rfl
   have hcz20_3 : w5.cell? ⟨gb666, 3, none⟩ = some (.int .i64 a0_3) := (blk_cell BK666.out 3).trans rfl
   have hfz20_0 := blk_frozen BK666.out 0
   have hfz20_1 := blk_frozen BK666.out 1
   have hfz20_2 := blk_frozen BK666.out 2
   have hfz20_3 := blk_frozen BK666.out 3
   have hcz21_0 : w5.cell? ⟨gb667, 0, none⟩ = some (.slice A1_0 l1_0.length c1_0) := (blk_cell BK667.out 0).trans rfl
   have hcz21_1 : w5.cell? ⟨gb667, 1, none⟩ = some (.slice A1_1 l1_1.length c1_1) := (blk_cell BK667.out 1).trans rfl
   have hcz21_2 : w5.cell? ⟨gb667, 2, none⟩ = some (.int .i64 a1_2) := (blk_cell BK667.out 2).trans rfl
   have hcz21_3 : w5.cell? ⟨gb667, 3, none⟩ = some (.int .i64 a1_3) := (blk_cell BK667.out 3).trans rfl
   have hfz21_0 := blk_frozen BK667.out 0
   have hfz21_1 := blk_frozen BK667.out 1
   have hfz21_2 := blk_frozen BK667.out 2
   have hfz21_3 := blk_frozen BK667.out 3
   go_wp2
   go_meet
   case rel => exact ⟨_, (true), (by first | rfl | (simp; done) | (simp [*]; done)), H', ⟨by first | omega | exact Nat.le_refl _⟩, ⟨by (with_reducible repeat (first | refine blk_drewN ?_ _ | refine blk_drew ?_ | refine blk_alloc ?_ _)); exact BK666.out⟩, ⟨by (with_reducible repeat (first | refine blk_drewN ?_ _ | refine blk_drew ?_ | refine blk_alloc ?_ _)); exact BK667.out⟩, ⟨by repeat (first | (with_reducible first | exact HB.out | apply below_alloc | apply pw_below_drewN | apply below_drew1 | refine below_set ?_ GE666.out | refine below_set ?_ GE667.out) | exact HB.out)⟩⟩
 case rest =>
  clear HC3
  try clear c1
  try clear p2
  try clear c6
  try clear c6b0
  try clear c6b1
  try clear c6b2
  try clear c7
  try clear c7b0
  try clear c7b1
  try clear c8
  try clear c8b0
  try clear c8b1
  try clear c10
  try clear c13
  try clear c16
  try clear c19
  try clear hcz11_0
  try clear hcz11_1
  try clear hcz11_2
  try clear hcz11_3
  try clear hcz12_0
  try clear hcz12_1
  try clear hcz12_2
  try clear hcz12_3
  try clear hcz14_0
  try clear hcz14_1
  try clear hcz14_2
  try clear hcz14_3
  try clear hcz15_0
  try clear hcz15_1
  try clear hcz15_2
  try clear hcz15_3
  try clear hcz17_0
  try clear hcz17_1
  try clear hcz17_2
  try clear hcz17_3
  try clear hcz18_0
  try clear hcz18_1
  try clear hcz18_2
  try clear hcz18_3
  try clear hcz20_0
  try clear hcz20_1
  try clear hcz20_2
  try clear hcz20_3
  try clear hcz21_0
  try clear hcz21_1
  try clear hcz21_2
  try clear hcz21_3
  try clear hfz11_0
  try clear hfz11_1
  try clear hfz11_2
  try clear hfz11_3
  try clear hfz12_0
  try clear hfz12_1
  try clear hfz12_2
  try clear hfz12_3
  try clear hfz14_0
  try clear hfz14_1
  try clear hfz14_2
  try clear hfz14_3
  try clear hfz15_0
  try clear hfz15_1
  try clear hfz15_2
  try clear hfz15_3
  try clear hfz17_0
  try clear hfz17_1
  try clear hfz17_2
  try clear hfz17_3
  try clear hfz18_0
  try clear hfz18_1
  try clear hfz18_2
  try clear hfz18_3
  try clear hfz20_0
  try clear hfz20_1
  try clear hfz20_2
  try clear hfz20_3
  try clear hfz21_0
  try clear hfz21_1
  try clear hfz21_2
  try clear hfz21_3
  obtain ⟨kq, x34_2, rfl, HA, HJ2, BK666, BK667, HB⟩ := hcut
  cases kq with
  | zero => exact absurd HA.out (by simp [counterfoilref12_Equal.j0])
  | succ kj2 =>
   have H := HA.out
   clear HA
   simp only [counterfoilref12_Equal.j0] at H
   by_cases c22 : x34_2 = true
   ·subst c22
    have H1 : (some false) = some r := by rw [if_pos rfl] at H; exact H
    clear H
    have H := H1
    clear H1
    obtain rfl := Option.some.inj H
    exact absurd HR_.out Bool.false_ne_true
   ·replace c22 := Bool.eq_false_iff.mpr c22
    subst c22
    have H1 : (counterfoilref12_Equal.l0 kj2 0 l0_0 l0_1 a0_2 a0_3 l1_0 l1_1 a1_2 a1_3) = some r := by rw [if_neg (show ¬ (false = true) by decide)] at H; exact H
    clear H
    have H := H1
    clear H1
    have H' := A0q83_ H
    clear H
    go_wp2
    go_loopg [5] kj2 (fun kq v5 w' => ∃ (x5_2 : Int), v5 = .int .i64 x5_2 ∧ Aside0 (counterfoilref12_Equal.l0 kq x5_2 l0_0 l0_1 a0_2 a0_3 l1_0 l1_1 a1_2 a1_3 = some r) ∧ Aside0 (kq ≤ kj2) ∧ Aside0 (w'.heap[gb666]? = some (.cells #[(.slice A0_0 l0_0.length c0_0), (.slice A0_1 l0_1.length c0_1), .int .i64 a0_2, .int .i64 a0_3] 27 (0, 0))) ∧ Aside0 (w'.heap[gb667]? = some (.cells #[(.slice A1_0 l1_0.length c1_0), (.slice A1_1 l1_1.length c1_1), .int .i64 a1_2, .int .i64 a1_3] 27 (0, 0))) ∧ Aside0 (Below w.heap.size w w'))
    case atStart => exact ⟨(0), (by first | rfl | (simp; done) | (simp [*]; done)), H', ⟨Nat.le_refl _⟩, ⟨by (with_reducible repeat (first | refine blk_drewN ?_ _ | refine blk_drew ?_ | refine blk_alloc ?_ _)); exact BK666.out⟩, ⟨by (with_reducible repeat (first | refine blk_drewN ?_ _ | refine blk_drew ?_ | refine blk_alloc ?_ _)); exact BK667.out⟩, ⟨by repeat (first | (with_reducible first | exact HB.out | apply below_alloc | apply pw_below_drewN | apply below_drew1 | refine below_set ?_ GE666.out | refine below_set ?_ GE667.out) | exact HB.out)⟩⟩
    case round =>
     clear H'
     try clear c1
     try clear c2
     try clear p2
     try clear c6
     try clear c6b0
     try clear c6b1
     try clear c6b2
     try clear c7
     try clear c7b0
     try clear c7b1
     try clear c8
     try clear c8b0
     try clear c8b1
     try clear c10
     try clear c13
     try clear c16
     try clear c19
     try clear c22
     try clear hcz11_0
     try clear hcz11_1
     try clear hcz11_2
     try clear hcz11_3
     try clear hcz12_0
     try clear hcz12_1
     try clear hcz12_2
     try clear hcz12_3
     try clear hcz14_0
     try clear hcz14_1
     try clear hcz14_2
     try clear hcz14_3
     try clear hcz15_0
     try clear hcz15_1
     try clear hcz15_2
     try clear hcz15_3
     try clear hcz17_0
     try clear hcz17_1
     try clear hcz17_2
     try clear hcz17_3
     try clear hcz18_0
     try clear hcz18_1
     try clear hcz18_2
     try clear hcz18_3
     try clear hcz20_0
     try clear hcz20_1
     try clear hcz20_2
     try clear hcz20_3
     try clear hcz21_0
     try clear hcz21_1
     try clear hcz21_2
     try clear hcz21_3
     try clear hfz11_0
     try clear hfz11_1
     try clear hfz11_2
     try clear hfz11_3
     try clear hfz12_0
     try clear hfz12_1
     try clear hfz12_2
     try clear hfz12_3
     try clear hfz14_0
     try clear hfz14_1
     try clear hfz14_2
     try clear hfz14_3
     try clear hfz15_0
     try clear hfz15_1
     try clear hfz15_2
     try clear hfz15_3
     try clear hfz17_0
     try clear hfz17_1
     try clear hfz17_2
     try clear hfz17_3
     try clear hfz18_0
     try clear hfz18_1
     try clear hfz18_2
     try clear hfz18_3
     try clear hfz20_0
     try clear hfz20_1
     try clear hfz20_2
     try clear hfz20_3
     try clear hfz21_0
     try clear hfz21_1
     try clear hfz21_2
     try clear hfz21_3
     try clear p2
     obtain ⟨x5_2, rfl, HA, HK2, BK666, BK667, HB⟩ := hrel
     cases gk with
     | zero => exact absurd HA.out (by simp [counterfoilref12_Equal.l0])
     | succ k2 =>
      have H := HA.out
      clear HA
      simp only [counterfoilref12_Equal.l0] at H
      by_cases c23 : x5_2 < (l0_0.length : Int)
      ·rw [if_pos c23] at H
       have c23b0 : decide (x5_2 < (l0_0.length : Int)) = true := decide_eq_true c23
       clear c23
       by_cases c24 : 0 ≤ x5_2
       ·rw [if_pos c24] at H
        have c24b0 : decide (0 ≤ x5_2) = true := decide_eq_true c24
        clear c24
        by_cases c25 : x5_2 < (l1_0.length : Int)
        ·rw [if_pos c25] at H
         have c25b0 : decide (x5_2 < (l1_0.length : Int)) = true := decide_eq_true c25
         clear c25
         by_cases c26 : ((rd_T99 l0_0 x5_2).f0) = ((rd_T99 l1_0 x5_2).f0)
         ·rw [if_pos c26] at H
          have c26b0 : (((rd_T99 l0_0 x5_2).f0) == ((rd_T99 l1_0 x5_2).f0)) = true := beq_iff_eq.mpr c26
          have c26b1 : (((rd_T99 l0_0 x5_2).f0) != ((rd_T99 l1_0 x5_2).f0)) = false := bne_eq_false_iff_eq.mpr c26
          clear c26
          by_cases c27 : ((rd_T99 l0_0 x5_2).f1) = ((rd_T99 l1_0 x5_2).f1)
          ·rw [if_pos c27] at H
           have c27b0 : (((rd_T99 l0_0 x5_2).f1) == ((rd_T99 l1_0 x5_2).f1)) = true := beq_iff_eq.mpr c27
           have c27b1 : (((rd_T99 l0_0 x5_2).f1) != ((rd_T99 l1_0 x5_2).f1)) = false := bne_eq_false_iff_eq.mpr c27
           clear c27
           replace H := Option.bind_eq_some_iff.mp H
           obtain ⟨t675, A280, H⟩ := H
           replace H : (if t675 = true then (counterfoilref12_Equal.l0 k2 (wrap64 (x5_2 + 1)) l0_0 l0_1 a0_2 a0_3 l1_0 l1_1 a1_2 a1_3) else (some false)) = some r := H
           have A28 := A0q83_ A280
           clear A280
           by_cases c29 : t675 = true
           ·subst c29
            have H1 : (counterfoilref12_Equal.l0 k2 (wrap64 (x5_2 + 1)) l0_0 l0_1 a0_2 a0_3 l1_0 l1_1 a1_2 a1_3) = some r := by rw [if_pos rfl] at H; exact H
            clear H
            have H := H1
            clear H1
            have H' := A0q83_ H
            clear H
            have hnb30 := NB666_667.out
            have hnc30 := NB667_666.out
            have hcz31_0 : wr.cell? ⟨gb666, 0, none⟩ = some (.slice A0_0 l0_0.length c0_0) := (blk_cell BK666.out 0).trans rfl
            have hcz31_1 : wr.cell? ⟨gb666, 1, none⟩ = some (.slice A0_1 l0_1.length c0_1) := (blk_cell BK666.out 1).trans rfl
            have hcz31_2 : wr.cell? ⟨gb666, 2, none⟩ = some (.int .i64 a0_2) := (blk_cell BK666.out 2).trans rfl
            have hcz31_3 : wr.cell? ⟨gb666, 3, none⟩ = some (.int .i64 a0_3) := (blk_cell BK666.out 3).trans rfl
            have hfz31_0 := blk_frozen BK666.out 0
            have hfz31_1 := blk_frozen BK666.out 1
            have hfz31_2 := blk_frozen BK666.out 2
            have hfz31_3 := blk_frozen BK666.out 3
            try go_wp2
            have n0_ := A0q83_ (blk_drew BK666.out)
            have n1_ := A0q83_ (blk_drew BK667.out)
            have n2_ := A0q83_ (below_drew1 HB.out)
            clear BK666
            clear BK667
            clear HB
            have BK666 := n0_
            have BK667 := n1_
            have HB := n2_
            clear n0_ n1_ n2_
            have p669 : 0 ≤ (x5_2 : Int) := of_decide_eq_true (by first | (with_reducible assumption) | assumption)
            have q669 : x5_2 < (l0_0.length : Int) := of_decide_eq_true (by first | (with_reducible assumption) | assumption)
            obtain ⟨ad669, A669_2, c669_2, e669, hx669_0, hx669_1, hx669_2, hl669_2, hi669_2⟩ := at_T99 HR0_0.out x5_2 p669 q669
            have hw669_2 := hx669_2
            have hw669_1 := hx669_1
            have hw669_0 := hx669_0
            cases e669
            replace hx669_0 := (HB.out.cell (World.block_lt_of_cell? w _ hx669_0)).trans hx669_0
            replace hx669_1 := (HB.out.cell (World.block_lt_of_cell? w _ hx669_1)).trans hx669_1
            replace hx669_2 := (HB.out.cell (World.block_lt_of_cell? w _ hx669_2)).trans hx669_2
            have HR669_2 := A0q83_ hi669_2
            have HC669_2 := A0q83_ hl669_2
            clear hi669_2 hl669_2
            replace p669 := eq_true p669
            replace q669 := eq_true q669
            have p670 : 0 ≤ (x5_2 : Int) := of_decide_eq_true (by first | (with_reducible assumption) | assumption)
            have q670 : x5_2 < (l1_0.length : Int) := of_decide_eq_true (by first | (with_reducible assumption) | assumption)
            obtain ⟨ad670, A670_2, c670_2, e670, hx670_0, hx670_1, hx670_2, hl670_2, hi670_2⟩ := at_T99 HR1_0.out x5_2 p670 q670
            have hw670_2 := hx670_2
            have hw670_1 := hx670_1
            have hw670_0 := hx670_0
            cases e670
            replace hx670_0 := (HB.out.cell (World.block_lt_of_cell? w _ hx670_0)).trans hx670_0
            replace hx670_1 := (HB.out.cell (World.block_lt_of_cell? w _ hx670_1)).trans hx670_1
            replace hx670_2 := (HB.out.cell (World.block_lt_of_cell? w _ hx670_2)).trans hx670_2
            have HR670_2 := A0q83_ hi670_2
            have HC670_2 := A0q83_ hl670_2
            clear hi670_2 hl670_2
            replace p670 := eq_true p670
            replace q670 := eq_true q670
            have p671 : 0 ≤ (x5_2 : Int) := of_decide_eq_true (by first | (with_reducible assumption) | assumption)
            have q671 : x5_2 < (l0_0.length : Int) := of_decide_eq_true (by first | (with_reducible assumption) | assumption)
            obtain ⟨ad671, A671_2, c671_2, e671, hx671_0, hx671_1, hx671_2, hl671_2, hi671_2⟩ := at_T99 HR0_0.out x5_2 p671 q671
            have hw671_2 := hx671_2
            have hw671_1 := hx671_1
            have hw671_0 := hx671_0
            obtain rfl : ad669 = ad671 := (by injection e671)
            replace hx671_0 := (HB.out.cell (World.block_lt_of_cell? w _ hx671_0)).trans hx671_0
            replace hx671_1 := (HB.out.cell (World.block_lt_of_cell? w _ hx671_1)).trans hx671_1
            replace hx671_2 := (HB.out.cell (World.block_lt_of_cell? w _ hx671_2)).trans hx671_2
            have HR671_2 := A0q83_ hi671_2
            have HC671_2 := A0q83_ hl671_2
            clear hi671_2 hl671_2
            replace p671 := eq_true p671
            replace q671 := eq_true q671
            have ea_ := Option.some.inj (hx669_2.symm.trans hx671_2)
            injection ea_ with ea_ en_ ec_
            subst ea_
            subst ec_
            clear en_
            have p672 : 0 ≤ (x5_2 : Int) := of_decide_eq_true (by first | (with_reducible assumption) | assumption)
            have q672 : x5_2 < (l1_0.length : Int) := of_decide_eq_true (by first | (with_reducible assumption) | assumption)
            obtain ⟨ad672, A672_2, c672_2, e672, hx672_0, hx672_1, hx672_2, hl672_2, hi672_2⟩ := at_T99 HR1_0.out x5_2 p672 q672
            have hw672_2 := hx672_2
            have hw672_1 := hx672_1
            have hw672_0 := hx672_0
            obtain rfl : ad670 = ad672 := (by injection e672)
            replace hx672_0 := (HB.out.cell (World.block_lt_of_cell? w _ hx672_0)).trans hx672_0
            replace hx672_1 := (HB.out.cell (World.block_lt_of_cell? w _ hx672_1)).trans hx672_1
            replace hx672_2 := (HB.out.cell (World.block_lt_of_cell? w _ hx672_2)).trans hx672_2
            have HR672_2 := A0q83_ hi672_2
            have HC672_2 := A0q83_ hl672_2
            clear hi672_2 hl672_2
            replace p672 := eq_true p672
            replace q672 := eq_true q672
            have ea_ := Option.some.inj (hx670_2.symm.trans hx672_2)
            injection ea_ with ea_ en_ ec_
            subst ea_
            subst ec_
            clear en_
            have p673 : 0 ≤ (x5_2 : Int) := of_decide_eq_true (by first | (with_reducible assumption) | assumption)
            have q673 : x5_2 < (l0_0.length : Int) := of_decide_eq_true (by first | (with_reducible assumption) | assumption)
            obtain ⟨ad673, A673_2, c673_2, e673, hx673_0, hx673_1, hx673_2, hl673_2, hi673_2⟩ := at_T99 HR0_0.out x5_2 p673 q673
            have hw673_2 := hx673_2
            have hw673_1 := hx673_1
            have hw673_0 := hx673_0
            obtain rfl : ad669 = ad673 := (by injection e673)
            replace hx673_0 := (HB.out.cell (World.block_lt_of_cell? w _ hx673_0)).trans hx673_0
            replace hx673_1 := (HB.out.cell (World.block_lt_of_cell? w _ hx673_1)).trans hx673_1
            replace hx673_2 := (HB.out.cell (World.block_lt_of_cell? w _ hx673_2)).trans hx673_2
            have HR673_2 := A0q83_ hi673_2
            have HC673_2 := A0q83_ hl673_2
            clear hi673_2 hl673_2
            replace p673 := eq_true p673
            replace q673 := eq_true q673
            have ea_ := Option.some.inj (hx669_2.symm.trans hx673_2)
            injection ea_ with ea_ en_ ec_
            subst ea_
            subst ec_
            clear en_
            have p674 : 0 ≤ (x5_2 : Int) := of_decide_eq_true (by first | (with_reducible assumption) | assumption)
            have q674 : x5_2 < (l1_0.length : Int) := of_decide_eq_true (by first | (with_reducible assumption) | assumption)
            obtain ⟨ad674, A674_2, c674_2, e674, hx674_0, hx674_1, hx674_2, hl674_2, hi674_2⟩ := at_T99 HR1_0.out x5_2 p674 q674
            have hw674_2 := hx674_2
            have hw674_1 := hx674_1
            have hw674_0 := hx674_0
            obtain rfl : ad670 = ad674 := (by injection e674)
            replace hx674_0 := (HB.out.cell (World.block_lt_of_cell? w _ hx674_0)).trans hx674_0
            replace hx674_1 := (HB.out.cell (World.block_lt_of_cell? w _ hx674_1)).trans hx674_1
            replace hx674_2 := (HB.out.cell (World.block_lt_of_cell? w _ hx674_2)).trans hx674_2
            have HR674_2 := A0q83_ hi674_2
            have HC674_2 := A0q83_ hl674_2
            clear hi674_2 hl674_2
            replace p674 := eq_true p674
            replace q674 := eq_true q674
            have ea_ := Option.some.inj (hx670_2.symm.trans hx674_2)
            injection ea_ with ea_ en_ ec_
            subst ea_
            subst ec_
            clear en_
            refine start_ (n := 44) (S := fun w' => w'.cell? ⟨gb666, 0, none⟩ = some (.slice (some ad669) l0_0.length c0_0) ∧ w'.cell? ⟨gb666, 1, none⟩ = some (.slice A0_1 l0_1.length c0_1) ∧ w'.cell? ⟨gb666, 2, none⟩ = some (.int .i64 a0_2) ∧ w'.cell? ⟨gb666, 3, none⟩ = some (.int .i64 a0_3) ∧ w'.cell? ⟨gb667, 0, none⟩ = some (.slice (some ad670) l1_0.length c1_0) ∧ w'.cell? ⟨gb667, 1, none⟩ = some (.slice A1_1 l1_1.length c1_1) ∧ w'.cell? ⟨gb667, 2, none⟩ = some (.int .i64 a1_2) ∧ w'.cell? ⟨gb667, 3, none⟩ = some (.int .i64 a1_3) ∧ w'.cell? (ad669.add ((x5_2).toNat * 3)) = some (.int .i64 ((rd_T99 l0_0 x5_2).f0)) ∧ w'.cell? ⟨(ad669.add ((x5_2).toNat * 3)).block, (ad669.add ((x5_2).toNat * 3)).off + 1, none⟩ = some (.int .i64 ((rd_T99 l0_0 x5_2).f1)) ∧ w'.cell? ⟨(ad669.add ((x5_2).toNat * 3)).block, (ad669.add ((x5_2).toNat * 3)).off + 2, none⟩ = some (.slice A669_2 ((rd_T99 l0_0 x5_2).f2).length c669_2) ∧ w'.cell? (ad670.add ((x5_2).toNat * 3)) = some (.int .i64 ((rd_T99 l1_0 x5_2).f0)) ∧ w'.cell? ⟨(ad670.add ((x5_2).toNat * 3)).block, (ad670.add ((x5_2).toNat * 3)).off + 1, none⟩ = some (.int .i64 ((rd_T99 l1_0 x5_2).f1)) ∧ w'.cell? ⟨(ad670.add ((x5_2).toNat * 3)).block, (ad670.add ((x5_2).toNat * 3)).off + 2, none⟩ = some (.slice A670_2 ((rd_T99 l1_0 x5_2).f2).length c670_2) ∧ w'.cell? (ad669.add ((x5_2).toNat * 3)) = some (.int .i64 ((rd_T99 l0_0 x5_2).f0)) ∧ w'.cell? ⟨(ad669.add ((x5_2).toNat * 3)).block, (ad669.add ((x5_2).toNat * 3)).off + 1, none⟩ = some (.int .i64 ((rd_T99 l0_0 x5_2).f1)) ∧ w'.cell? ⟨(ad669.add ((x5_2).toNat * 3)).block, (ad669.add ((x5_2).toNat * 3)).off + 2, none⟩ = some (.slice A669_2 ((rd_T99 l0_0 x5_2).f2).length c669_2) ∧ w'.cell? (ad670.add ((x5_2).toNat * 3)) = some (.int .i64 ((rd_T99 l1_0 x5_2).f0)) ∧ w'.cell? ⟨(ad670.add ((x5_2).toNat * 3)).block, (ad670.add ((x5_2).toNat * 3)).off + 1, none⟩ = some (.int .i64 ((rd_T99 l1_0 x5_2).f1)) ∧ w'.cell? ⟨(ad670.add ((x5_2).toNat * 3)).block, (ad670.add ((x5_2).toNat * 3)).off + 2, none⟩ = some (.slice A670_2 ((rd_T99 l1_0 x5_2).f2).length c670_2) ∧ w'.cell? (ad669.add ((x5_2).toNat * 3)) = some (.int .i64 ((rd_T99 l0_0 x5_2).f0)) ∧ w'.cell? ⟨(ad669.add ((x5_2).toNat * 3)).block, (ad669.add ((x5_2).toNat * 3)).off + 1, none⟩ = some (.int .i64 ((rd_T99 l0_0 x5_2).f1)) ∧ w'.cell? ⟨(ad669.add ((x5_2).toNat * 3)).block, (ad669.add ((x5_2).toNat * 3)).off + 2, none⟩ = some (.slice A669_2 ((rd_T99 l0_0 x5_2).f2).length c669_2) ∧ w'.cell? (ad670.add ((x5_2).toNat * 3)) = some (.int .i64 ((rd_T99 l1_0 x5_2).f0)) ∧ w'.cell? ⟨(ad670.add ((x5_2).toNat * 3)).block, (ad670.add ((x5_2).toNat * 3)).off + 1, none⟩ = some (.int .i64 ((rd_T99 l1_0 x5_2).f1)) ∧ w'.cell? ⟨(ad670.add ((x5_2).toNat * 3)).block, (ad670.add ((x5_2).toNat * 3)).off + 2, none⟩ = some (.slice A670_2 ((rd_T99 l1_0 x5_2).f2).length c670_2)) (ds := []) mk0q83_ (by kernel_rfl) rfl rfl ⟨(blk_cell BK666.out 0).trans rfl, (blk_cell BK666.out 1).trans rfl, (blk_cell BK666.out 2).trans rfl, (blk_cell BK666.out 3).trans rfl, (blk_cell BK667.out 0).trans rfl, (blk_cell BK667.out 1).trans rfl, (blk_cell BK667.out 2).trans rfl, (blk_cell BK667.out 3).trans rfl, ((HB.out.cell (World.block_lt_of_cell? w _ hw669_0)).trans hw669_0), ((HB.out.cell (World.block_lt_of_cell? w _ hw669_1)).trans hw669_1), ((HB.out.cell (World.block_lt_of_cell? w _ hw669_2)).trans hw669_2), ((HB.out.cell (World.block_lt_of_cell? w _ hw670_0)).trans hw670_0), ((HB.out.cell (World.block_lt_of_cell? w _ hw670_1)).trans hw670_1), ((HB.out.cell (World.block_lt_of_cell? w _ hw670_2)).trans hw670_2), ((HB.out.cell (World.block_lt_of_cell? w _ hw671_0)).trans hw671_0), ((HB.out.cell (World.block_lt_of_cell? w _ hw671_1)).trans hw671_1), ((HB.out.cell (World.block_lt_of_cell? w _ hw671_2)).trans hw671_2), ((HB.out.cell (World.block_lt_of_cell? w _ hw672_0)).trans hw672_0), ((HB.out.cell (World.block_lt_of_cell? w _ hw672_1)).trans hw672_1), ((HB.out.cell (World.block_lt_of_cell? w _ hw672_2)).trans hw672_2), ((HB.out.cell (World.block_lt_of_cell? w _ hw673_0)).trans hw673_0), ((HB.out.cell (World.block_lt_of_cell? w _ hw673_1)).trans hw673_1), ((HB.out.cell (World.block_lt_of_cell? w _ hw673_2)).trans hw673_2), ((HB.out.cell (World.block_lt_of_cell? w _ hw674_0)).trans hw674_0), ((HB.out.cell (World.block_lt_of_cell? w _ hw674_1)).trans hw674_1), ((HB.out.cell (World.block_lt_of_cell? w _ hw674_2)).trans hw674_2)⟩ (fun hHeld => ?_); refine with_tabW counterfoilref12_Equal.tab6 counterfoilref12_Equal.bits6 (fun HT_ HW_ => ?_)
            generalize wr.drew = w32 at BK666 BK667 HB HR669_2 HR670_2 HR671_2 HR672_2 HR673_2 HR674_2 hx669_0 hx669_1 hx669_2 hx670_0 hx670_1 hx670_2 hx671_0 hx671_1 hx671_2 hx672_0 hx672_1 hx672_2 hx673_0 hx673_1 hx673_2 hx674_0 hx674_1 hx674_2 hHeld ⊢
            refine pure_ (i:=0) (N:=some 42) (v:=?_) (a':=?_) mk1q83_ rfl rfl (any_of HT_.out (by kernel_rfl)) (fun _ _ _ h => h) (Or.inl ⟨by rfl, ?_⟩) ?_ ?_
            rotate_left
            ·intro w'
             go_simp
             with_reducible rfl
            rotate_left
            ·simp only [Act.put, z1q83_, z2q83_, z3q83_, i64_w, i32_w]
             rfl
            refine pure_ (i:=2) (N:=some 44) (v:=?_) (a':=?_) mk2q83_ rfl rfl (any_of HT_.out (by kernel_rfl)) (fun _ _ _ h => h) (Or.inl ⟨by rfl, ?_⟩) ?_ ?_
            rotate_left
            ·intro w'
             go_simp
             with_reducible rfl
            rotate_left
            ·simp only [Act.put, z1q83_, z2q83_, z3q83_, i64_w, i32_w]
             rfl
            refine pure_ (i:=6) (N:=some 48) (v:=?_) (a':=?_) mk3q83_ rfl rfl (any_of HT_.out (by kernel_rfl)) (fun _ _ _ h => h) (Or.inl ⟨by rfl, ?_⟩) ?_ ?_
            rotate_left
            ·intro w'
             go_simp
             with_reducible rfl
            rotate_left
            ·simp only [Act.put, z1q83_, z2q83_, z3q83_, i64_w, i32_w]
             rfl
            refine pure_ (i:=8) (N:=some 50) (v:=?_) (a':=?_) mk4q83_ rfl rfl (any_of HT_.out (by kernel_rfl)) (fun _ _ _ h => h) (Or.inl ⟨by rfl, ?_⟩) ?_ ?_
            rotate_left
            ·intro w'
             go_simp
             with_reducible rfl
            rotate_left
            ·simp only [Act.put, z1q83_, z2q83_, z3q83_, i64_w, i32_w]
             rfl
            refine take_ (i:=1) (N:=some 43) (v:=?_) (a':=?_) mk5q83_ rfl rfl (take_ofW HT_.out HW_.out (by kernel_rfl)) (fun _ _ _ h => h) (Or.inl ⟨by rfl, ?_⟩) hHeld ?_ ?_
            rotate_left
            ·rintro w' ⟨s0, s1, s2, s3, s4, s5, s6, s7, s8, s9, s10, s11, s12, s13, s14, s15, s16, s17, s18, s19, s20, s21, s22, s23, s24, s25⟩
             go_simp
             with_reducible rfl
            rotate_left
            ·simp only [Act.put, z1q83_, z2q83_, z3q83_, i64_w, i32_w]
             rfl
            refine pure_ (i:=3) (N:=some 45) (v:=?_) (a':=?_) mk6q83_ rfl rfl (any_of HT_.out (by kernel_rfl)) (fun _ _ _ h => h) (Or.inl ⟨by rfl, ?_⟩) ?_ ?_
            rotate_left
            ·intro w'
             go_simp
             with_reducible rfl
            rotate_left
            ·simp only [Act.put, z1q83_, z2q83_, z3q83_, i64_w, i32_w]
             rfl
            refine pure_ (i:=4) (N:=some 46) (v:=?_) (a':=?_) mk7q83_ rfl rfl (any_of HT_.out (by kernel_rfl)) (fun _ _ _ h => h) (Or.inl ⟨by rfl, ?_⟩) ?_ ?_
            rotate_left
            ·intro w'
             go_simp
             with_reducible rfl
            rotate_left
            ·simp only [Act.put, z1q83_, z2q83_, z3q83_, i64_w, i32_w]
             rfl
            refine take_ (i:=5) (N:=some 47) (v:=?_) (a':=?_) mk8q83_ rfl rfl (take_ofW HT_.out HW_.out (by kernel_rfl)) (fun _ _ _ h => h) (Or.inl ⟨by rfl, ?_⟩) hHeld ?_ ?_
            rotate_left
            ·rintro w' ⟨s0, s1, s2, s3, s4, s5, s6, s7, s8, s9, s10, s11, s12, s13, s14, s15, s16, s17, s18, s19, s20, s21, s22, s23, s24, s25⟩
             go_simp
             with_reducible rfl
            rotate_left
            ·simp only [Act.put, z1q83_, z2q83_, z3q83_, i64_w, i32_w]
             rfl
            refine take_ (i:=7) (N:=some 49) (v:=?_) (a':=?_) mk9q83_ rfl rfl (take_ofW HT_.out HW_.out (by kernel_rfl)) (fun _ _ _ h => h) (Or.inl ⟨by rfl, ?_⟩) hHeld ?_ ?_
            rotate_left
            ·rintro w' ⟨s0, s1, s2, s3, s4, s5, s6, s7, s8, s9, s10, s11, s12, s13, s14, s15, s16, s17, s18, s19, s20, s21, s22, s23, s24, s25⟩
             go_simp
             with_reducible rfl
            rotate_left
            ·simp only [Act.put, z1q83_, z2q83_, z3q83_, i64_w, i32_w]
             rfl
            refine pure_ (i:=9) (N:=some 51) (v:=?_) (a':=?_) mk10q83_ rfl rfl (any_of HT_.out (by kernel_rfl)) (fun _ _ _ h => h) (Or.inl ⟨by rfl, ?_⟩) ?_ ?_
            rotate_left
            ·intro w'
             go_simp
             with_reducible rfl
            rotate_left
            ·simp only [Act.put, z1q83_, z2q83_, z3q83_, i64_w, i32_w]
             rfl
            refine pure_ (i:=10) (N:=some 52) (v:=?_) (a':=?_) mk11q83_ rfl rfl (any_of HT_.out (by kernel_rfl)) (fun _ _ _ h => h) (Or.inl ⟨by rfl, ?_⟩) ?_ ?_
            rotate_left
            ·intro w'
             go_simp
             with_reducible rfl
            rotate_left
            ·simp only [Act.put, z1q83_, z2q83_, z3q83_, i64_w, i32_w]
             rfl
            refine take_ (i:=11) (N:=some 53) (v:=?_) (a':=?_) mk12q83_ rfl rfl (take_ofW HT_.out HW_.out (by kernel_rfl)) (fun _ _ _ h => h) (Or.inl ⟨by rfl, ?_⟩) hHeld ?_ ?_
            rotate_left
            ·rintro w' ⟨s0, s1, s2, s3, s4, s5, s6, s7, s8, s9, s10, s11, s12, s13, s14, s15, s16, s17, s18, s19, s20, s21, s22, s23, s24, s25⟩
             go_simp
             with_reducible rfl
            rotate_left
            ·simp only [Act.put, z1q83_, z2q83_, z3q83_, i64_w, i32_w]
             rfl
            refine pure_ (i:=12) (N:=some 54) (v:=?_) (a':=?_) mk13q83_ rfl rfl (any_of HT_.out (by kernel_rfl)) (fun _ _ _ h => h) (Or.inl ⟨by rfl, ?_⟩) ?_ ?_
            rotate_left
            ·intro w'
             go_simp
             with_reducible rfl
            rotate_left
            ·simp only [Act.put, z1q83_, z2q83_, z3q83_, i64_w, i32_w]
             rfl
            refine pure_ (i:=13) (N:=some 55) (v:=?_) (a':=?_) mk14q83_ rfl rfl (any_of HT_.out (by kernel_rfl)) (fun _ _ _ h => h) (Or.inl ⟨by rfl, ?_⟩) ?_ ?_
            rotate_left
            ·intro w'
             go_simp
             with_reducible rfl
            rotate_left
            ·simp only [Act.put, z1q83_, z2q83_, z3q83_, i64_w, i32_w]
             rfl
            refine pure_ (i:=14) (N:=some 56) (v:=?_) (a':=?_) mk15q83_ rfl rfl (any_of HT_.out (by kernel_rfl)) (fun _ _ _ h => h) (Or.inl ⟨by rfl, ?_⟩) ?_ ?_
            rotate_left
            ·intro w'
             go_simp
             with_reducible rfl
            rotate_left
            ·simp only [Act.put, z1q83_, z2q83_, z3q83_, i64_w, i32_w]
             rfl
            refine pure_ (i:=16) (N:=some 58) (v:=?_) (a':=?_) mk16q83_ rfl rfl (any_of HT_.out (by kernel_rfl)) (fun _ _ _ h => h) (Or.inl ⟨by rfl, ?_⟩) ?_ ?_
            rotate_left
            ·intro w'
             go_simp
             with_reducible rfl
            rotate_left
            ·simp only [Act.put, z1q83_, z2q83_, z3q83_, i64_w, i32_w]
             rfl
            refine pure_ (i:=20) (N:=some 62) (v:=?_) (a':=?_) mk17q83_ rfl rfl (any_of HT_.out (by kernel_rfl)) (fun _ _ _ h => h) (Or.inl ⟨by rfl, ?_⟩) ?_ ?_
            rotate_left
            ·intro w'
             go_simp
             with_reducible rfl
            rotate_left
            ·simp only [Act.put, z1q83_, z2q83_, z3q83_, i64_w, i32_w]
             rfl
            refine pure_ (i:=22) (N:=some 64) (v:=?_) (a':=?_) mk18q83_ rfl rfl (any_of HT_.out (by kernel_rfl)) (fun _ _ _ h => h) (Or.inl ⟨by rfl, ?_⟩) ?_ ?_
            rotate_left
            ·intro w'
             go_simp
             with_reducible rfl
            rotate_left
            ·simp only [Act.put, z1q83_, z2q83_, z3q83_, i64_w, i32_w]
             rfl
            refine take_ (i:=15) (N:=some 57) (v:=?_) (a':=?_) mk19q83_ rfl rfl (take_ofW HT_.out HW_.out (by kernel_rfl)) (fun _ _ _ h => h) (Or.inl ⟨by rfl, ?_⟩) hHeld ?_ ?_
            rotate_left
            ·rintro w' ⟨s0, s1, s2, s3, s4, s5, s6, s7, s8, s9, s10, s11, s12, s13, s14, s15, s16, s17, s18, s19, s20, s21, s22, s23, s24, s25⟩
             go_simp
             with_reducible rfl
            rotate_left
            ·simp only [Act.put, z1q83_, z2q83_, z3q83_, i64_w, i32_w]
             rfl
            refine pure_ (i:=17) (N:=some 59) (v:=?_) (a':=?_) mk20q83_ rfl rfl (any_of HT_.out (by kernel_rfl)) (fun _ _ _ h => h) (Or.inl ⟨by rfl, ?_⟩) ?_ ?_
            rotate_left
            ·intro w'
             go_simp
             with_reducible rfl
            rotate_left
            ·simp only [Act.put, z1q83_, z2q83_, z3q83_, i64_w, i32_w]
             rfl
            refine pure_ (i:=18) (N:=some 60) (v:=?_) (a':=?_) mk21q83_ rfl rfl (any_of HT_.out (by kernel_rfl)) (fun _ _ _ h => h) (Or.inl ⟨by rfl, ?_⟩) ?_ ?_
            rotate_left
            ·intro w'
             go_simp
             with_reducible rfl
            rotate_left
            ·simp only [Act.put, z1q83_, z2q83_, z3q83_, i64_w, i32_w]
             rfl
            refine take_ (i:=19) (N:=some 61) (v:=?_) (a':=?_) mk22q83_ rfl rfl (take_ofW HT_.out HW_.out (by kernel_rfl)) (fun _ _ _ h => h) (Or.inl ⟨by rfl, ?_⟩) hHeld ?_ ?_
            rotate_left
            ·rintro w' ⟨s0, s1, s2, s3, s4, s5, s6, s7, s8, s9, s10, s11, s12, s13, s14, s15, s16, s17, s18, s19, s20, s21, s22, s23, s24, s25⟩
             go_simp
             with_reducible rfl
            rotate_left
            ·simp only [Act.put, z1q83_, z2q83_, z3q83_, i64_w, i32_w]
             rfl
            refine take_ (i:=21) (N:=some 63) (v:=?_) (a':=?_) mk23q83_ rfl rfl (take_ofW HT_.out HW_.out (by kernel_rfl)) (fun _ _ _ h => h) (Or.inl ⟨by rfl, ?_⟩) hHeld ?_ ?_
            rotate_left
            ·rintro w' ⟨s0, s1, s2, s3, s4, s5, s6, s7, s8, s9, s10, s11, s12, s13, s14, s15, s16, s17, s18, s19, s20, s21, s22, s23, s24, s25⟩
             go_simp
             with_reducible rfl
            rotate_left
            ·simp only [Act.put, z1q83_, z2q83_, z3q83_, i64_w, i32_w]
             rfl
            refine pure_ (i:=23) (N:=some 65) (v:=?_) (a':=?_) mk24q83_ rfl rfl (any_of HT_.out (by kernel_rfl)) (fun _ _ _ h => h) (Or.inl ⟨by rfl, ?_⟩) ?_ ?_
            rotate_left
            ·intro w'
             go_simp
             with_reducible rfl
            rotate_left
            ·simp only [Act.put, z1q83_, z2q83_, z3q83_, i64_w, i32_w]
             rfl
            refine pure_ (i:=24) (N:=some 66) (v:=?_) (a':=?_) mk25q83_ rfl rfl (any_of HT_.out (by kernel_rfl)) (fun _ _ _ h => h) (Or.inl ⟨by rfl, ?_⟩) ?_ ?_
            rotate_left
            ·intro w'
             go_simp
             with_reducible rfl
            rotate_left
            ·simp only [Act.put, z1q83_, z2q83_, z3q83_, i64_w, i32_w]
             rfl
            refine take_ (i:=25) (N:=some 67) (v:=?_) (a':=?_) mk26q83_ rfl rfl (take_ofW HT_.out HW_.out (by kernel_rfl)) (fun _ _ _ h => h) (Or.inl ⟨by rfl, ?_⟩) hHeld ?_ ?_
            rotate_left
            ·rintro w' ⟨s0, s1, s2, s3, s4, s5, s6, s7, s8, s9, s10, s11, s12, s13, s14, s15, s16, s17, s18, s19, s20, s21, s22, s23, s24, s25⟩
             go_simp
             with_reducible rfl
            rotate_left
            ·simp only [Act.put, z1q83_, z2q83_, z3q83_, i64_w, i32_w]
             rfl
            refine pure_ (i:=26) (N:=some 68) (v:=?_) (a':=?_) mk27q83_ rfl rfl (any_of HT_.out (by kernel_rfl)) (fun _ _ _ h => h) (Or.inl ⟨by rfl, ?_⟩) ?_ ?_
            rotate_left
            ·intro w'
             go_simp
             with_reducible rfl
            rotate_left
            ·simp only [Act.put, z1q83_, z2q83_, z3q83_, i64_w, i32_w]
             rfl
            refine pure_ (i:=27) (N:=some 69) (v:=?_) (a':=?_) mk28q83_ rfl rfl (any_of HT_.out (by kernel_rfl)) (fun _ _ _ h => h) (Or.inl ⟨by rfl, ?_⟩) ?_ ?_
            rotate_left
            ·intro w'
             go_simp
             with_reducible rfl
            rotate_left
            ·simp only [Act.put, z1q83_, z2q83_, z3q83_, i64_w, i32_w]
             rfl
            refine pure_ (i:=28) (N:=some 70) (v:=?_) (a':=?_) mk29q83_ rfl rfl (any_of HT_.out (by kernel_rfl)) (fun _ _ _ h => h) (Or.inl ⟨by rfl, ?_⟩) ?_ ?_
            rotate_left
            ·intro w'
             go_simp
             with_reducible rfl
            rotate_left
            ·simp only [Act.put, z1q83_, z2q83_, z3q83_, i64_w, i32_w]
             rfl
            refine pure_ (i:=29) (N:=some 71) (v:=?_) (a':=?_) mk30q83_ rfl rfl (any_of HT_.out (by kernel_rfl)) (fun _ _ _ h => h) (Or.inl ⟨by rfl, ?_⟩) ?_ ?_
            rotate_left
            ·intro w'
             go_simp
             with_reducible rfl
            rotate_left
            ·simp only [Act.put, z1q83_, z2q83_, z3q83_, i64_w, i32_w]
             rfl
            refine pure_ (i:=31) (N:=some 73) (v:=?_) (a':=?_) mk31q83_ rfl rfl (any_of HT_.out (by kernel_rfl)) (fun _ _ _ h => h) (Or.inl ⟨by rfl, ?_⟩) ?_ ?_
            rotate_left
            ·intro w'
             go_simp
             with_reducible rfl
            rotate_left
            ·simp only [Act.put, z1q83_, z2q83_, z3q83_, i64_w, i32_w]
             rfl
            refine pure_ (i:=35) (N:=some 77) (v:=?_) (a':=?_) mk32q83_ rfl rfl (any_of HT_.out (by kernel_rfl)) (fun _ _ _ h => h) (Or.inl ⟨by rfl, ?_⟩) ?_ ?_
            rotate_left
            ·intro w'
             go_simp
             with_reducible rfl
            rotate_left
            ·simp only [Act.put, z1q83_, z2q83_, z3q83_, i64_w, i32_w]
             rfl
            refine pure_ (i:=37) (N:=some 79) (v:=?_) (a':=?_) mk33q83_ rfl rfl (any_of HT_.out (by kernel_rfl)) (fun _ _ _ h => h) (Or.inl ⟨by rfl, ?_⟩) ?_ ?_
            rotate_left
            ·intro w'
             go_simp
             with_reducible rfl
            rotate_left
            ·simp only [Act.put, z1q83_, z2q83_, z3q83_, i64_w, i32_w]
             rfl
            refine take_ (i:=30) (N:=some 72) (v:=?_) (a':=?_) mk34q83_ rfl rfl (take_ofW HT_.out HW_.out (by kernel_rfl)) (fun _ _ _ h => h) (Or.inl ⟨by rfl, ?_⟩) hHeld ?_ ?_
            rotate_left
            ·rintro w' ⟨s0, s1, s2, s3, s4, s5, s6, s7, s8, s9, s10, s11, s12, s13, s14, s15, s16, s17, s18, s19, s20, s21, s22, s23, s24, s25⟩
             go_simp
             with_reducible rfl
            rotate_left
            ·simp only [Act.put, z1q83_, z2q83_, z3q83_, i64_w, i32_w]
             rfl
            refine pure_ (i:=32) (N:=some 74) (v:=?_) (a':=?_) mk35q83_ rfl rfl (any_of HT_.out (by kernel_rfl)) (fun _ _ _ h => h) (Or.inl ⟨by rfl, ?_⟩) ?_ ?_
            rotate_left
            ·intro w'
             go_simp
             with_reducible rfl
            rotate_left
            ·simp only [Act.put, z1q83_, z2q83_, z3q83_, i64_w, i32_w]
             rfl
            refine pure_ (i:=33) (N:=some 75) (v:=?_) (a':=?_) mk36q83_ rfl rfl (any_of HT_.out (by kernel_rfl)) (fun _ _ _ h => h) (Or.inl ⟨by rfl, ?_⟩) ?_ ?_
            rotate_left
            ·intro w'
             go_simp
             with_reducible rfl
            rotate_left
            ·simp only [Act.put, z1q83_, z2q83_, z3q83_, i64_w, i32_w]
             rfl
            refine take_ (i:=34) (N:=some 76) (v:=?_) (a':=?_) mk37q83_ rfl rfl (take_ofW HT_.out HW_.out (by kernel_rfl)) (fun _ _ _ h => h) (Or.inl ⟨by rfl, ?_⟩) hHeld ?_ ?_
            rotate_left
            ·rintro w' ⟨s0, s1, s2, s3, s4, s5, s6, s7, s8, s9, s10, s11, s12, s13, s14, s15, s16, s17, s18, s19, s20, s21, s22, s23, s24, s25⟩
             go_simp
             with_reducible rfl
            rotate_left
            ·simp only [Act.put, z1q83_, z2q83_, z3q83_, i64_w, i32_w]
             rfl
            refine take_ (i:=36) (N:=some 78) (v:=?_) (a':=?_) mk38q83_ rfl rfl (take_ofW HT_.out HW_.out (by kernel_rfl)) (fun _ _ _ h => h) (Or.inl ⟨by rfl, ?_⟩) hHeld ?_ ?_
            rotate_left
            ·rintro w' ⟨s0, s1, s2, s3, s4, s5, s6, s7, s8, s9, s10, s11, s12, s13, s14, s15, s16, s17, s18, s19, s20, s21, s22, s23, s24, s25⟩
             go_simp
             with_reducible rfl
            rotate_left
            ·simp only [Act.put, z1q83_, z2q83_, z3q83_, i64_w, i32_w]
             rfl
            refine pure_ (i:=38) (N:=some 80) (v:=?_) (a':=?_) mk39q83_ rfl rfl (any_of HT_.out (by kernel_rfl)) (fun _ _ _ h => h) (Or.inl ⟨by rfl, ?_⟩) ?_ ?_
            rotate_left
            ·intro w'
             go_simp
             with_reducible rfl
            rotate_left
            ·simp only [Act.put, z1q83_, z2q83_, z3q83_, i64_w, i32_w]
             rfl
            refine pure_ (i:=39) (N:=some 81) (v:=?_) (a':=?_) mk40q83_ rfl rfl (any_of HT_.out (by kernel_rfl)) (fun _ _ _ h => h) (Or.inl ⟨by rfl, ?_⟩) ?_ ?_
            rotate_left
            ·intro w'
             go_simp
             with_reducible rfl
            rotate_left
            ·simp only [Act.put, z1q83_, z2q83_, z3q83_, i64_w, i32_w]
             rfl
            refine take_ (i:=40) (N:=some 82) (v:=?_) (a':=?_) mk41q83_ rfl rfl (take_ofW HT_.out HW_.out (by kernel_rfl)) (fun _ _ _ h => h) (Or.inl ⟨by rfl, ?_⟩) hHeld ?_ ?_
            rotate_left
            ·rintro w' ⟨s0, s1, s2, s3, s4, s5, s6, s7, s8, s9, s10, s11, s12, s13, s14, s15, s16, s17, s18, s19, s20, s21, s22, s23, s24, s25⟩
             go_simp
             with_reducible rfl
            rotate_left
            ·simp only [Act.put, z1q83_, z2q83_, z3q83_, i64_w, i32_w]
             rfl
            refine one_ (i:=41) (N:=some 83) mk42q83_ rfl rfl (one_of HT_.out (by kernel_rfl)) (by decide) (fun K hK => ?_)
            refine goes_ Try.func49 (by kernel_rfl) rfl #[.slice A669_2 ((rd_T99 l0_0 x5_2).f2).length c669_2, .slice A670_2 ((rd_T99 l1_0 x5_2).f2).length c670_2] (by rfl) rfl rfl (by (try simp only [List.map_toArray, List.map_cons, List.map_nil]); first | done | rfl | (simp only [List.length_drop, List.length_take]; rfl)) ?_
            with_reducible refine (counterfoilref08_Equal.calls k2 _ _ ((rd_T99 l0_0 x5_2).f2) _ _ ((rd_T99 l1_0 x5_2).f2) true _ ?side1 ?side2 ?side3 ?side4 A28.out).mono ?_
            (case side1 => repeat (first | exact (Kd.C_below HR673_2.out HB.out) | (with_reducible refine Kd.C_alloc ?_ _) | (with_reducible refine Kd.C_drewN ?_ _) | (with_reducible refine Kd.C_drew ?_)))
            (case side2 => exact HC673_2.out)
            (case side3 => repeat (first | exact (Kd.C_below HR674_2.out HB.out) | (with_reducible refine Kd.C_alloc ?_ _) | (with_reducible refine Kd.C_drewN ?_ _) | (with_reducible refine Kd.C_drew ?_)))
            (case side4 => exact HC674_2.out)
            rintro e w' ⟨rfl, ⟨nd, rfl⟩⟩
            refine ⟨_, rfl, ?_⟩
            refine hK.out _ _ ⟨(blk_cell BK666.out 0).trans rfl, (blk_cell BK666.out 1).trans rfl, (blk_cell BK666.out 2).trans rfl, (blk_cell BK666.out 3).trans rfl, (blk_cell BK667.out 0).trans rfl, (blk_cell BK667.out 1).trans rfl, (blk_cell BK667.out 2).trans rfl, (blk_cell BK667.out 3).trans rfl, ((HB.out.cell (World.block_lt_of_cell? w _ hw669_0)).trans hw669_0), ((HB.out.cell (World.block_lt_of_cell? w _ hw669_1)).trans hw669_1), ((HB.out.cell (World.block_lt_of_cell? w _ hw669_2)).trans hw669_2), ((HB.out.cell (World.block_lt_of_cell? w _ hw670_0)).trans hw670_0), ((HB.out.cell (World.block_lt_of_cell? w _ hw670_1)).trans hw670_1), ((HB.out.cell (World.block_lt_of_cell? w _ hw670_2)).trans hw670_2), ((HB.out.cell (World.block_lt_of_cell? w _ hw671_0)).trans hw671_0), ((HB.out.cell (World.block_lt_of_cell? w _ hw671_1)).trans hw671_1), ((HB.out.cell (World.block_lt_of_cell? w _ hw671_2)).trans hw671_2), ((HB.out.cell (World.block_lt_of_cell? w _ hw672_0)).trans hw672_0), ((HB.out.cell (World.block_lt_of_cell? w _ hw672_1)).trans hw672_1), ((HB.out.cell (World.block_lt_of_cell? w _ hw672_2)).trans hw672_2), ((HB.out.cell (World.block_lt_of_cell? w _ hw673_0)).trans hw673_0), ((HB.out.cell (World.block_lt_of_cell? w _ hw673_1)).trans hw673_1), ((HB.out.cell (World.block_lt_of_cell? w _ hw673_2)).trans hw673_2), ((HB.out.cell (World.block_lt_of_cell? w _ hw674_0)).trans hw674_0), ((HB.out.cell (World.block_lt_of_cell? w _ hw674_1)).trans hw674_1), ((HB.out.cell (World.block_lt_of_cell? w _ hw674_2)).trans hw674_2)⟩ (fun hHeld => ?_)
            clear hK K
            refine norm_ (a' := ?_) ?_ ?_
            rotate_left
            ·show Act.put _ (some 83) _ = _
             simp only [Act.put, z1q83_, z2q83_, z3q83_, i64_w, i32_w]
             rfl
            refine pure_ (i:=42) (N:=some 84) (v:=?_) (a':=?_) mk43q83_ rfl rfl (any_of HT_.out (by kernel_rfl)) (fun _ _ _ h => h) (Or.inl ⟨by rfl, ?_⟩) ?_ ?_
            rotate_left
            ·intro w'
             go_simp
             with_reducible rfl
            rotate_left
            ·simp only [Act.put, z1q83_, z2q83_, z3q83_, i64_w, i32_w]
             rfl
            refine pure_ (i:=43) (N:=some 85) (v:=?_) (a':=?_) mk44q83_ rfl rfl (any_of HT_.out (by kernel_rfl)) (fun _ _ _ h => h) (Or.inl ⟨by rfl, ?_⟩) ?_ ?_
            rotate_left
            ·intro w'
             go_simp
             with_reducible rfl
            rotate_left
            ·simp only [Act.put, z1q83_, z2q83_, z3q83_, i64_w, i32_w]
             rfl
            refine done_ (done_of HT_.out (by kernel_rfl)) ?_
            try go_wp2
            go_roundg k2
            case measure => have := HJ2.out; have := HK2.out; omega
            case rel => exact ⟨(wrap64 (x5_2 + 1)), (by first | rfl | (simp; done) | (simp [*]; done)), H', ⟨by have := HJ2.out; have := HK2.out; omega⟩, ⟨by (with_reducible repeat (first | refine blk_drewN ?_ _ | refine blk_drew ?_ | refine blk_alloc ?_ _)); exact BK666.out⟩, ⟨by (with_reducible repeat (first | refine blk_drewN ?_ _ | refine blk_drew ?_ | refine blk_alloc ?_ _)); exact BK667.out⟩, ⟨by repeat (first | (with_reducible first | exact HB.out | apply below_alloc | apply pw_below_drewN | apply below_drew1 | refine below_set ?_ GE666.out | refine below_set ?_ GE667.out) | exact HB.out)⟩⟩
           ·replace c29 := Bool.eq_false_iff.mpr c29
            subst c29
            have H1 : (some false) = some r := by rw [if_neg (show ¬ (false = true) by decide)] at H; exact H
            clear H
            have H := H1
            clear H1
            obtain rfl := Option.some.inj H
            exact absurd HR_.out Bool.false_ne_true
          ·rw [if_neg c27] at H
           have c27b0 : (((rd_T99 l0_0 x5_2).f1) == ((rd_T99 l1_0 x5_2).f1)) = false := beq_eq_false_iff_ne.mpr c27
           have c27b1 : (((rd_T99 l0_0 x5_2).f1) != ((rd_T99 l1_0 x5_2).f1)) = true := bne_iff_ne.mpr c27
           obtain rfl := Option.some.inj H
           exact absurd HR_.out Bool.false_ne_true
         ·rw [if_neg c26] at H
          have c26b0 : (((rd_T99 l0_0 x5_2).f0) == ((rd_T99 l1_0 x5_2).f0)) = false := beq_eq_false_iff_ne.mpr c26
          have c26b1 : (((rd_T99 l0_0 x5_2).f0) != ((rd_T99 l1_0 x5_2).f0)) = true := bne_iff_ne.mpr c26
          obtain rfl := Option.some.inj H
          exact absurd HR_.out Bool.false_ne_true
        ·rw [if_neg c25] at H
         exact absurd H (by simp)
       ·rw [if_neg c24] at H
        exact absurd H (by simp)
      ·rw [if_neg c23] at H
       have c23b0 : decide (x5_2 < (l0_0.length : Int)) = false := decide_eq_false c23
       clear c23
       obtain rfl := Option.some.inj H
       have hnb42 := NB666_667.out
       have hnc42 := NB667_666.out
       have hcz43_0 : wr.cell? ⟨gb666, 0, none⟩ = some (.slice A0_0 l0_0.length c0_0) := (blk_cell BK666.out 0).trans rfl
       have hcz43_1 : wr.cell? ⟨gb666, 1, none⟩ = some (.slice A0_1 l0_1.length c0_1) := (blk_cell BK666.out 1).trans rfl
       have hcz43_2 : wr.cell? ⟨gb666, 2, none⟩ = some (.int .i64 a0_2) := (blk_cell BK666.out 2).trans rfl
       have hcz43_3 : wr.cell? ⟨gb666, 3, none⟩ = some (.int .i64 a0_3) := (blk_cell BK666.out 3).trans rfl
       have hfz43_0 := blk_frozen BK666.out 0
       have hfz43_1 := blk_frozen BK666.out 1
       have hfz43_2 := blk_frozen BK666.out 2
       have hfz43_3 := blk_frozen BK666.out 3
       go_wp2
       go_ret
       exact ⟨by first | rfl | (simp [errW_none, errW_some] <;> rfl) | (simp [*, errW_none, errW_some] <;> rfl), by repeat (first | (with_reducible first | exact HB.out | apply below_alloc | apply pw_below_drewN | apply below_drew1 | refine below_set ?_ GE666.out | refine below_set ?_ GE667.out) | exact HB.out)⟩
end Go.Proofs.Ythdhkoeaadahaaa.P
