-- PACKED by wip/kit/pack.py: what the law's proof uses of EQDLaw (printed words and texts of this seat)
import Derived.Test.YthdhkoeaadahaaaWERefDone
import Derived.Test.YthdhkoeaadahaaaWQueueCore
import Derived.Test.YthdhkoeaadahaaaWDoneCore
import Derived.Test.YthdhkoeaadahaaaWMergeLaw
import Derived.Test.YthdhkoeaadahaaaWFoldBase
import Derived.Test.YthdhkoeaadahaaaWFoldedB
import Derived.Test.YthdhkoeaadahaaaWPx82
import Derived.Test.YthdhkoeaadahaaaWPx0
import Derived.Test.YthdhkoeaadahaaaWPx8
import Derived.Test.YthdhkoeaadahaaaWEQClone
import Derived.Test.YthdhkoeaadahaaaWQAwake
import Derived.Test.YthdhkoeaadahaaaWPx3
import Derived.Test.YthdhkoeaadahaaaWPx12
namespace Go.Proofs.Ythdhkoeaadahaaa.P
open Go.RowKit Go.Proofs.YthdhkoeaadahaaaW.PrintWords Go.Proofs.YthdhkoeaadahaaaW.PrintLast Go.Proofs.YthdhkoeaadahaaaW.PrintMore
attribute [local go_sem] Oper.semAt_some
set_option linter.unusedVariables false
set_option linter.unusedSimpArgs false
def qd10.T : Bool × List (List Nat × List Nat) := (true, [([], []), ([], []), ([], []), ([1, 2], [1, 2]), ([0, 3, 3], [0, 3]), ([4, 4], [4]), ([5], [5]), ([6, 5], [5, 6]), ([5, 7], [5, 7]), ([8, 5], [8]), ([9], [9]), ([10, 9, 9], [9, 10]), ([9], [9]), ([11, 12, 9], [9, 11, 12]), ([9, 13], [9, 13]), ([14, 11], [14]), ([15], [15]), ([15], [15]), ([17, 15], [15, 17]), ([15], [15]), ([18, 19, 15], [15, 18, 19]), ([16, 20, 15], [15, 16, 20]), ([15, 21], [15, 21]), ([22, 15], [22]), ([23], [23]), ([23], [23]), ([25, 23, 23], [23, 25]), ([24, 26, 23], [23, 24, 26]), ([23, 27], [23, 27]), ([28, 26], [28]), ([29], [29]), ([29], [29]), ([31, 29, 29], [29, 31]), ([30, 32, 32, 29], [29, 30, 32]), ([29, 33], [29, 33]), ([34, 33], [34]), ([35, 35], [35]), ([35, 36], [35, 36]), ([37, 36, 0, 1, 2, 3, 4, 5, 6, 7, 8, 9, 10, 11, 12, 13, 14, 15, 16, 17, 18, 19, 20, 21, 22, 23, 24, 25, 26, 27, 28, 29, 30, 31, 32, 33, 34, 35, 36, 37], [37])])
def qd10.B : List Nat := [0, 0, 0, 6, 15, 31, 63, 127, 255, 511, 1023, 2047, 1023, 8191, 16383, 32767, 65535, 65535, 196607, 65535, 983039, 2097151, 4194303, 8388607, 16777215, 16777215, 50331647, 134217727, 268435455, 536870911, 1073741823, 1073741823, 3221225471, 8589934591, 17179869183, 34359738367, 68719476735, 137438953471, 274877906943]
theorem qd10.tab : rtab .any (opsOf Try.f22 10) = qd10.T := by kernel_rfl
theorem qd10.bits : waitsOk qd10.T.2 qd10.B = true := by kernel_rfl
theorem A0qdl_ {p : Prop} (h : p) : Aside0 p := ⟨h⟩
theorem z1qdl_ {α : Type} (l : List α) (i : Nat) (a : α) : l.toArray.setIfInBounds i a = (l.set i a).toArray := List.setIfInBounds_toArray l i a
theorem z2qdl_ {α : Type} {x : α} {xs : List α} {a : α} : (x :: xs).set 0 a = a :: xs := List.set_cons_zero
theorem z3qdl_ {α : Type} {x : α} {xs : List α} {n : Nat} {a : α} : (x :: xs).set (n + 1) a = x :: xs.set n a := List.set_cons_succ
abbrev mk0qdl_ : Array Bool := #[false, false, false, false, false, false, false, false, false, false, false, false, false, false, false, false, false, false, false, false, false, false, false, false, false, false, false, false, false, false, false, false, false, false, false, false, false, false, false]
abbrev mk1qdl_ : Array Bool := #[false, false, true, false, false, false, false, false, false, false, false, false, false, false, false, false, false, false, false, false, false, false, false, false, false, false, false, false, false, false, false, false, false, false, false, false, false, false, false]
abbrev mk2qdl_ : Array Bool := #[true, false, true, false, false, false, false, false, false, false, false, false, false, false, false, false, false, false, false, false, false, false, false, false, false, false, false, false, false, false, false, false, false, false, false, false, false, false, false]
abbrev mk3qdl_ : Array Bool := #[true, true, true, false, false, false, false, false, false, false, false, false, false, false, false, false, false, false, false, false, false, false, false, false, false, false, false, false, false, false, false, false, false, false, false, false, false, false, false]
abbrev mk4qdl_ : Array Bool := #[true, true, true, true, false, false, false, false, false, false, false, false, false, false, false, false, false, false, false, false, false, false, false, false, false, false, false, false, false, false, false, false, false, false, false, false, false, false, false]
abbrev mk5qdl_ : Array Bool := #[true, true, true, true, true, false, false, false, false, false, false, false, false, false, false, false, false, false, false, false, false, false, false, false, false, false, false, false, false, false, false, false, false, false, false, false, false, false, false]
abbrev mk6qdl_ : Array Bool := #[true, true, true, true, true, true, false, false, false, false, false, false, false, false, false, false, false, false, false, false, false, false, false, false, false, false, false, false, false, false, false, false, false, false, false, false, false, false, false]
abbrev mk7qdl_ : Array Bool := #[true, true, true, true, true, true, true, false, false, false, false, false, false, false, false, false, false, false, false, false, false, false, false, false, false, false, false, false, false, false, false, false, false, false, false, false, false, false, false]
abbrev mk8qdl_ : Array Bool := #[true, true, true, true, true, true, true, true, false, false, false, false, false, false, false, false, false, false, false, false, false, false, false, false, false, false, false, false, false, false, false, false, false, false, false, false, false, false, false]
abbrev mk9qdl_ : Array Bool := #[true, true, true, true, true, true, true, true, true, false, false, false, false, false, false, false, false, false, false, false, false, false, false, false, false, false, false, false, false, false, false, false, false, false, false, false, false, false, false]
abbrev mk10qdl_ : Array Bool := #[true, true, true, true, true, true, true, true, true, true, false, false, false, false, false, false, false, false, false, false, false, false, false, false, false, false, false, false, false, false, false, false, false, false, false, false, false, false, false]
abbrev mk11qdl_ : Array Bool := #[true, true, true, true, true, true, true, true, true, true, false, false, true, false, false, false, false, false, false, false, false, false, false, false, false, false, false, false, false, false, false, false, false, false, false, false, false, false, false]
abbrev mk12qdl_ : Array Bool := #[true, true, true, true, true, true, true, true, true, true, true, false, true, false, false, false, false, false, false, false, false, false, false, false, false, false, false, false, false, false, false, false, false, false, false, false, false, false, false]
abbrev mk13qdl_ : Array Bool := #[true, true, true, true, true, true, true, true, true, true, true, true, true, false, false, false, false, false, false, false, false, false, false, false, false, false, false, false, false, false, false, false, false, false, false, false, false, false, false]
abbrev mk14qdl_ : Array Bool := #[true, true, true, true, true, true, true, true, true, true, true, true, true, true, false, false, false, false, false, false, false, false, false, false, false, false, false, false, false, false, false, false, false, false, false, false, false, false, false]
abbrev mk15qdl_ : Array Bool := #[true, true, true, true, true, true, true, true, true, true, true, true, true, true, true, false, false, false, false, false, false, false, false, false, false, false, false, false, false, false, false, false, false, false, false, false, false, false, false]
abbrev mk16qdl_ : Array Bool := #[true, true, true, true, true, true, true, true, true, true, true, true, true, true, true, true, false, false, false, false, false, false, false, false, false, false, false, false, false, false, false, false, false, false, false, false, false, false, false]
abbrev mk17qdl_ : Array Bool := #[true, true, true, true, true, true, true, true, true, true, true, true, true, true, true, true, true, false, false, false, false, false, false, false, false, false, false, false, false, false, false, false, false, false, false, false, false, false, false]
abbrev mk18qdl_ : Array Bool := #[true, true, true, true, true, true, true, true, true, true, true, true, true, true, true, true, true, true, false, false, false, false, false, false, false, false, false, false, false, false, false, false, false, false, false, false, false, false, false]
abbrev mk19qdl_ : Array Bool := #[true, true, true, true, true, true, true, true, true, true, true, true, true, true, true, true, true, true, false, true, false, false, false, false, false, false, false, false, false, false, false, false, false, false, false, false, false, false, false]
abbrev mk20qdl_ : Array Bool := #[true, true, true, true, true, true, true, true, true, true, true, true, true, true, true, true, true, true, true, true, false, false, false, false, false, false, false, false, false, false, false, false, false, false, false, false, false, false, false]
abbrev mk21qdl_ : Array Bool := #[true, true, true, true, true, true, true, true, true, true, true, true, true, true, true, true, true, true, true, true, true, false, false, false, false, false, false, false, false, false, false, false, false, false, false, false, false, false, false]
abbrev mk22qdl_ : Array Bool := #[true, true, true, true, true, true, true, true, true, true, true, true, true, true, true, true, true, true, true, true, true, true, false, false, false, false, false, false, false, false, false, false, false, false, false, false, false, false, false]
abbrev mk23qdl_ : Array Bool := #[true, true, true, true, true, true, true, true, true, true, true, true, true, true, true, true, true, true, true, true, true, true, true, false, false, false, false, false, false, false, false, false, false, false, false, false, false, false, false]
abbrev mk24qdl_ : Array Bool := #[true, true, true, true, true, true, true, true, true, true, true, true, true, true, true, true, true, true, true, true, true, true, true, true, false, false, false, false, false, false, false, false, false, false, false, false, false, false, false]
abbrev mk25qdl_ : Array Bool := #[true, true, true, true, true, true, true, true, true, true, true, true, true, true, true, true, true, true, true, true, true, true, true, true, true, false, false, false, false, false, false, false, false, false, false, false, false, false, false]
abbrev mk26qdl_ : Array Bool := #[true, true, true, true, true, true, true, true, true, true, true, true, true, true, true, true, true, true, true, true, true, true, true, true, true, true, false, false, false, false, false, false, false, false, false, false, false, false, false]
abbrev mk27qdl_ : Array Bool := #[true, true, true, true, true, true, true, true, true, true, true, true, true, true, true, true, true, true, true, true, true, true, true, true, true, true, true, false, false, false, false, false, false, false, false, false, false, false, false]
abbrev mk28qdl_ : Array Bool := #[true, true, true, true, true, true, true, true, true, true, true, true, true, true, true, true, true, true, true, true, true, true, true, true, true, true, true, true, false, false, false, false, false, false, false, false, false, false, false]
abbrev mk29qdl_ : Array Bool := #[true, true, true, true, true, true, true, true, true, true, true, true, true, true, true, true, true, true, true, true, true, true, true, true, true, true, true, true, true, false, false, false, false, false, false, false, false, false, false]
abbrev mk30qdl_ : Array Bool := #[true, true, true, true, true, true, true, true, true, true, true, true, true, true, true, true, true, true, true, true, true, true, true, true, true, true, true, true, true, true, false, false, false, false, false, false, false, false, false]
abbrev mk31qdl_ : Array Bool := #[true, true, true, true, true, true, true, true, true, true, true, true, true, true, true, true, true, true, true, true, true, true, true, true, true, true, true, true, true, true, true, false, false, false, false, false, false, false, false]
abbrev mk32qdl_ : Array Bool := #[true, true, true, true, true, true, true, true, true, true, true, true, true, true, true, true, true, true, true, true, true, true, true, true, true, true, true, true, true, true, true, true, false, false, false, false, false, false, false]
abbrev mk33qdl_ : Array Bool := #[true, true, true, true, true, true, true, true, true, true, true, true, true, true, true, true, true, true, true, true, true, true, true, true, true, true, true, true, true, true, true, true, true, false, false, false, false, false, false]
abbrev mk34qdl_ : Array Bool := #[true, true, true, true, true, true, true, true, true, true, true, true, true, true, true, true, true, true, true, true, true, true, true, true, true, true, true, true, true, true, true, true, true, true, false, false, false, false, false]
abbrev mk35qdl_ : Array Bool := #[true, true, true, true, true, true, true, true, true, true, true, true, true, true, true, true, true, true, true, true, true, true, true, true, true, true, true, true, true, true, true, true, true, true, true, false, false, false, false]
abbrev mk36qdl_ : Array Bool := #[true, true, true, true, true, true, true, true, true, true, true, true, true, true, true, true, true, true, true, true, true, true, true, true, true, true, true, true, true, true, true, true, true, true, true, true, false, false, false]
abbrev mk37qdl_ : Array Bool := #[true, true, true, true, true, true, true, true, true, true, true, true, true, true, true, true, true, true, true, true, true, true, true, true, true, true, true, true, true, true, true, true, true, true, true, true, true, false, false]
abbrev mk38qdl_ : Array Bool := #[true, true, true, true, true, true, true, true, true, true, true, true, true, true, true, true, true, true, true, true, true, true, true, true, true, true, true, true, true, true, true, true, true, true, true, true, true, true, false]
abbrev mk39qdl_ : Array Bool := #[true, true, true, true, true, true, true, true, true, true, true, true, true, true, true, true, true, true, true, true, true, true, true, true, true, true, true, true, true, true, true, true, true, true, true, true, true, true, true]
set_option maxRecDepth 100000 in
set_option maxHeartbeats 8000000 in
theorem law_right (A0 A1 : Option Addr) (c0 c1 : Nat) (l : List S99) (o : List S74) (a b q : Int) (w : World)
  (h36 : ∀ W : World, Below w.heap.size w W → Calls Try.prog 36 #[.agg #[.slice A0 l.length c0, .slice A1 o.length c1, .int .i64 a, .int .i64 b], .int .i64 q] W fun e w' => ∃ v0 v1 : Value, e = .returned (.tuple #[.agg #[v0, v1, .int .i64 a, .int .i64 b], .int .i64 0]) ∧ Kd.S k99 99 w' W.heap.size (fun k_ => some k_ ≠ v1.ownBlock) v0 (l.filter (lateQ q)) ∧ Kd.R k74 74 w' W.heap.size (fun _ => True) v1 o ∧ Below W.heap.size W w')
  (n y t : Int) (all fd : List S74) (hnum : wrap64 (b - t) = n)
  (h85 : ∀ W : World, Below w.heap.size w W → Calls Try.prog 85 #[.agg #[.slice A0 l.length c0, .slice A1 o.length c1, .int .i64 a, .int .i64 b], .int .i64 q] W fun e w' => ∃ A7 c7, e = .returned (.agg #[.slice A7 (l.filter (lateQ q)).length c7, .slice A1 o.length c1, .int .i64 a, .int .i64 b]) ∧ Kd.C k99 w' A7 (l.filter (lateQ q)).length (l.filter (lateQ q)) ∧ (l.filter (lateQ q)).length ≤ c7 ∧ Below W.heap.size W w')
  (h72 : ∀ (W : World) (A5 A6 A7 : Option Addr) (c5 c6 c7 : Nat), Below w.heap.size w W → Kd.C k99 W A5 (l.filter (lateQ q)).length (l.filter (lateQ q)) → (l.filter (lateQ q)).length ≤ c5 → Kd.C k74 W A6 o.length o → o.length ≤ c6 → Kd.C k99 W A7 (l.filter (lateQ q)).length (l.filter (lateQ q)) → (l.filter (lateQ q)).length ≤ c7 → Calls Try.prog 72 #[.agg #[.slice A5 (l.filter (lateQ q)).length c5, .slice A6 o.length c6, .int .i64 a, .int .i64 b], .agg #[.slice A7 (l.filter (lateQ q)).length c7, .slice A1 o.length c1, .int .i64 a, .int .i64 b]] W fun e w' => e = .returned (.bool true) ∧ Below W.heap.size W w')
  (h76 : ∀ W : World, Below w.heap.size w W → Calls Try.prog 76 #[.agg #[.slice A0 l.length c0, .slice A1 o.length c1, .int .i64 a, .int .i64 b]] W fun e w' => e = .returned (.int .i64 t) ∧ Below W.heap.size W w')
  (h56 : ∀ (W : World) (A : Option Addr) (c : Nat), Kd.C k74 W A all.length all → all.length ≤ c → Calls Try.prog 56 #[.slice A all.length c] W fun e w' => e = .returned (.int .i64 y) ∧ Below W.heap.size W w')
  (h52 : ∀ (W : World) (A : Option Addr) (c : Nat), Kd.C k74 W A all.length all → all.length ≤ c → Calls Try.prog 52 #[.slice A all.length c] W fun e w' => ∃ v : Value, e = .returned v ∧ Kd.R k74 74 w' W.heap.size (fun _ => True) v fd ∧ Below W.heap.size W w')
  (h49 : ∀ (W : World) (A B : Option Addr) (c d : Nat), Kd.C k74 W A fd.length fd → fd.length ≤ c → Kd.C k74 W B fd.length fd → fd.length ≤ d → Calls Try.prog 49 #[.slice A fd.length c, .slice B fd.length d] W fun e w' => e = .returned (.bool true) ∧ Below W.heap.size W w')
  (h73 : ∀ W : World, Below w.heap.size w W → Calls Try.prog 73 #[] W fun e w' => e = .returned (.bool true) ∧ Below W.heap.size W w')
  (h74 : ∀ W : World, Below w.heap.size w W → Calls Try.prog 74 #[.agg #[.slice A0 l.length c0, .slice A1 o.length c1, .int .i64 a, .int .i64 b]] W fun e w' => e = .returned (.tuple #[.int .i64 n, .int .i64 y]) ∧ Below W.heap.size W w')
  (h82 : ∀ W : World, Below w.heap.size w W → Calls Try.prog 82 #[.agg #[.slice A0 l.length c0, .slice A1 o.length c1, .int .i64 a, .int .i64 b]] W fun e w' => ∃ v : Value, e = .returned v ∧ Kd.R k74 74 w' W.heap.size (fun _ => True) v fd ∧ Below W.heap.size W w')
  (h77 : ∀ W : World, Below w.heap.size w W → Calls Try.prog 77 #[.agg #[.slice A0 l.length c0, .slice A1 o.length c1, .int .i64 a, .int .i64 b]] W fun e w' => e = .returned (.bool true) ∧ Below W.heap.size W w')
  (h83 : ∀ W : World, Below w.heap.size w W → Calls Try.prog 83 #[.agg #[.slice A0 l.length c0, .slice A1 o.length c1, .int .i64 a, .int .i64 b]] W fun e w' => ∃ v : Value, e = .returned v ∧ Kd.R k74 74 w' W.heap.size (fun _ => True) v all ∧ Below W.heap.size W w')
  (h84 : ∀ W : World, Below w.heap.size w W → Calls Try.prog 84 #[.agg #[.slice A0 l.length c0, .slice A1 o.length c1, .int .i64 a, .int .i64 b]] W fun e w' => e = .returned (.int .i64 t) ∧ Below W.heap.size W w')
  (h30 : ∀ W : World, Below w.heap.size w W → Calls Try.prog 30 #[.agg #[.slice A0 l.length c0, .slice A1 o.length c1, .int .i64 a, .int .i64 b]] W fun e w' => e = .returned (.bool true) ∧ Below W.heap.size W w') :
  Calls Try.prog 22 #[.agg #[.slice A0 l.length c0, .slice A1 o.length c1, .int .i64 a, .int .i64 b], .int .i64 q] w fun e w' => e = .returned (.bool true) ∧ Below w.heap.size w w' := by
 have hu27 := Try.underlying27
 have H30 := A0qdl_ h30
 have H36 := A0qdl_ h36
 have H74 := A0qdl_ h74
 have H82 := A0qdl_ h82
 have H77 := A0qdl_ h77
 have H83 := A0qdl_ h83
 have H84 := A0qdl_ h84
 have H85 := A0qdl_ h85
 have H72 := A0qdl_ h72
 have H76 := A0qdl_ h76
 have H56 := A0qdl_ h56
 have H52 := A0qdl_ h52
 have H49 := A0qdl_ h49
 have H73 := A0qdl_ h73
 clear h30 h36 h74 h82 h77 h83 h84 h85 h72 h76 h56 h52 h49 h73
 go_enter Try.func22, Try.ntmps22
 go_wp2_with (first
  | ((with_reducible refine gate_dst (N:=2) rfl ?_); refine box_event ?hg (N:=2) ?hd (cs := #[.slice A0 l.length c0, .slice A1 o.length c1, .int .i64 a, .int .i64 b]) (t := 27) ?hr ?_; (case hd => rfl); (case hg => rfl); (case hr => first | (go_simp; done) | (go_simp; rfl)); intro g1 hg w1 hbox hb; have BK1 := A0qdl_ hbox; have HB1 := A0qdl_ hb; have GE1 := A0qdl_ (show w.heap.size ≤ g1 by rw [hg]; exact Nat.le_refl _); clear hb hbox hg; have x0 : w1.cell? ⟨g1, 0, none⟩ = some (.slice A0 l.length c0) := (blk_cell BK1.out 0).trans rfl; have x1 : w1.cell? ⟨g1, 1, none⟩ = some (.slice A1 o.length c1) := (blk_cell BK1.out 1).trans rfl; have x2 : w1.cell? ⟨g1, 2, none⟩ = some (.int .i64 a) := (blk_cell BK1.out 2).trans rfl; have x3 : w1.cell? ⟨g1, 3, none⟩ = some (.int .i64 b) := (blk_cell BK1.out 3).trans rfl)
  | (go_at_call 30; refine (H30.out _ HB1.out).mono ?_; rintro e w2 ⟨rfl, hb⟩; have BK2 := A0qdl_ (blk_below BK1.out hb); have HB2 := A0qdl_ (below_step HB1.out hb); clear hb x0 x1 x2 x3; have x0 : w2.cell? ⟨g1, 0, none⟩ = some (.slice A0 l.length c0) := (blk_cell BK2.out 0).trans rfl; have x1 : w2.cell? ⟨g1, 1, none⟩ = some (.slice A1 o.length c1) := (blk_cell BK2.out 1).trans rfl; have x2 : w2.cell? ⟨g1, 2, none⟩ = some (.int .i64 a) := (blk_cell BK2.out 2).trans rfl; have x3 : w2.cell? ⟨g1, 3, none⟩ = some (.int .i64 b) := (blk_cell BK2.out 3).trans rfl)
  | (go_at_call 36; refine (H36.out _ HB2.out).mono ?_; rintro e w3 ⟨v0, v1, rfl, hs, ho, hb⟩; obtain ⟨A6, c6, rfl⟩ := Kd.R_slice ho; obtain ⟨A5, c5, rfl⟩ := Kd.R_slice (Kd.S_R hs); have HS3 := A0qdl_ hs; have HO3 := A0qdl_ ho; have BK3 := A0qdl_ (blk_below BK2.out hb); have HB3 := A0qdl_ (below_step HB2.out hb); clear hs ho hb x0 x1 x2 x3; have x0 : w3.cell? ⟨g1, 0, none⟩ = some (.slice A0 l.length c0) := (blk_cell BK3.out 0).trans rfl; have x1 : w3.cell? ⟨g1, 1, none⟩ = some (.slice A1 o.length c1) := (blk_cell BK3.out 1).trans rfl; have x2 : w3.cell? ⟨g1, 2, none⟩ = some (.int .i64 a) := (blk_cell BK3.out 2).trans rfl; have x3 : w3.cell? ⟨g1, 3, none⟩ = some (.int .i64 b) := (blk_cell BK3.out 3).trans rfl)
  | ((with_reducible refine gate_dst (N:=5) rfl ?_); refine box_event ?hg (N:=5) ?hd (cs := #[.slice none 0 0, .slice none 0 0, .int .i64 0, .int .i64 0]) (t := 27) ?hr ?_; (case hd => rfl); (case hg => rfl); (case hr => first | (go_simp; done) | (go_simp; rfl)); intro g2 hg w4 hbox hb; have GK4 := A0qdl_ hbox; have BK4 := A0qdl_ (blk_below BK3.out hb); have HB4 := A0qdl_ (below_step HB3.out hb); have GE2 := A0qdl_ (show w.heap.size ≤ g2 by rw [hg]; exact HB3.out.size); have NB := A0qdl_ (show g1 ≠ g2 by rw [hg]; exact (Nat.ne_of_lt (blk_lt BK3.out))); have HS4 := A0qdl_ (Kd.S_below HS3.out hb); have HO4 := A0qdl_ (Kd.R_below HO3.out hb); clear hb hbox hg x0 x1 x2 x3; have nb1 := NB.out; have nb2 := NB.out.symm; have x0 : w4.cell? ⟨g1, 0, none⟩ = some (.slice A0 l.length c0) := (blk_cell BK4.out 0).trans rfl; have x1 : w4.cell? ⟨g1, 1, none⟩ = some (.slice A1 o.length c1) := (blk_cell BK4.out 1).trans rfl; have x2 : w4.cell? ⟨g1, 2, none⟩ = some (.int .i64 a) := (blk_cell BK4.out 2).trans rfl; have x3 : w4.cell? ⟨g1, 3, none⟩ = some (.int .i64 b) := (blk_cell BK4.out 3).trans rfl; have y0 : w4.cell? ⟨g2, 0, none⟩ = some (.slice none 0 0) := (blk_cell GK4.out 0).trans rfl; have y1 : w4.cell? ⟨g2, 1, none⟩ = some (.slice none 0 0) := (blk_cell GK4.out 1).trans rfl; have y2 : w4.cell? ⟨g2, 2, none⟩ = some (.int .i64 0) := (blk_cell GK4.out 2).trans rfl; have y3 : w4.cell? ⟨g2, 3, none⟩ = some (.int .i64 0) := (blk_cell GK4.out 3).trans rfl; have z0 := blk_frozen GK4.out 0; have z1 := blk_frozen GK4.out 1; have z2 := blk_frozen GK4.out 2; have z3 := blk_frozen GK4.out 3)
  | (go_at_call 74; refine (H74.out _ (below_set (below_set (below_set (below_set HB4.out GE2.out) GE2.out) GE2.out) GE2.out)).mono ?_; rintro e w5 ⟨rfl, hb⟩; have BK5 := A0qdl_ (blk_below (blk_far (p := ⟨g2, 3, none⟩) (blk_far (p := ⟨g2, 2, none⟩) (blk_far (p := ⟨g2, 1, none⟩) (blk_far (p := ⟨g2, 0, none⟩) BK4.out NB.out (.slice A5 (l.filter (lateQ q)).length c5)) NB.out (.slice A6 o.length c6)) NB.out (.int .i64 a)) NB.out (.int .i64 b)) hb); have GK5 := A0qdl_ (blk_below (blk_put (cs := #[.slice A5 (l.filter (lateQ q)).length c5, .slice A6 o.length c6, .int .i64 a, .int .i64 0]) (cs' := #[.slice A5 (l.filter (lateQ q)).length c5, .slice A6 o.length c6, .int .i64 a, .int .i64 b]) (blk_put (cs := #[.slice A5 (l.filter (lateQ q)).length c5, .slice A6 o.length c6, .int .i64 0, .int .i64 0]) (cs' := #[.slice A5 (l.filter (lateQ q)).length c5, .slice A6 o.length c6, .int .i64 a, .int .i64 0]) (blk_put (cs := #[.slice A5 (l.filter (lateQ q)).length c5, .slice none 0 0, .int .i64 0, .int .i64 0]) (cs' := #[.slice A5 (l.filter (lateQ q)).length c5, .slice A6 o.length c6, .int .i64 0, .int .i64 0]) (blk_put (cs := #[.slice none 0 0, .slice none 0 0, .int .i64 0, .int .i64 0]) (cs' := #[.slice A5 (l.filter (lateQ q)).length c5, .slice none 0 0, .int .i64 0, .int .i64 0]) GK4.out 0 (.slice A5 (l.filter (lateQ q)).length c5) rfl) 1 (.slice A6 o.length c6) rfl) 2 (.int .i64 a) rfl) 3 (.int .i64 b) rfl) hb); have HB5 := A0qdl_ (below_step (below_set (below_set (below_set (below_set HB4.out GE2.out) GE2.out) GE2.out) GE2.out) hb); have hsr := Kd.R_reads' (Kd.S_R (Kd.S_far (p := ⟨g2, 3, none⟩) (Kd.S_far (p := ⟨g2, 2, none⟩) (Kd.S_far (p := ⟨g2, 1, none⟩) (Kd.S_far (p := ⟨g2, 0, none⟩) (Kd.S_types HS4.out GK4.out (by decide)) (fun _ hk => hk.2) (.slice A5 (l.filter (lateQ q)).length c5)) (fun _ hk => hk.2) (.slice A6 o.length c6)) (fun _ hk => hk.2) (.int .i64 a)) (fun _ hk => hk.2) (.int .i64 b))); have hor := Kd.R_reads' (Kd.R_far (p := ⟨g2, 3, none⟩) (Kd.R_far (p := ⟨g2, 2, none⟩) (Kd.R_far (p := ⟨g2, 1, none⟩) (Kd.R_far (p := ⟨g2, 0, none⟩) (Kd.R_types HO4.out GK4.out (by decide)) (fun _ hk => hk.2) (.slice A5 (l.filter (lateQ q)).length c5)) (fun _ hk => hk.2) (.slice A6 o.length c6)) (fun _ hk => hk.2) (.int .i64 a)) (fun _ hk => hk.2) (.int .i64 b)); have LC5 := A0qdl_ hsr.2.1; have HC5 := A0qdl_ (Kd.C_below hsr.2.2 hb); have LC6 := A0qdl_ hor.2.1; have HC6 := A0qdl_ (Kd.C_below hor.2.2 hb); clear hsr hor hb HS4 HO4 HS3 HO3 x0 x1 x2 x3 y0 y1 y2 y3 z0 z1 z2 z3; have x0 : w5.cell? ⟨g1, 0, none⟩ = some (.slice A0 l.length c0) := (blk_cell BK5.out 0).trans rfl; have x1 : w5.cell? ⟨g1, 1, none⟩ = some (.slice A1 o.length c1) := (blk_cell BK5.out 1).trans rfl; have x2 : w5.cell? ⟨g1, 2, none⟩ = some (.int .i64 a) := (blk_cell BK5.out 2).trans rfl; have x3 : w5.cell? ⟨g1, 3, none⟩ = some (.int .i64 b) := (blk_cell BK5.out 3).trans rfl)
  | (go_at_call 82; refine (H82.out _ HB5.out).mono ?_; rintro e w6 ⟨v8, rfl, ho, hb⟩; obtain ⟨A8, c8, rfl⟩ := Kd.R_slice ho; have hrr := Kd.R_reads' ho; have L8 := A0qdl_ hrr.2.1; have F6 := A0qdl_ hrr.2.2; have BK6 := A0qdl_ (blk_below BK5.out hb); have GK6 := A0qdl_ (blk_below GK5.out hb); have HB6 := A0qdl_ (below_step HB5.out hb); have S6 := A0qdl_ (Kd.C_below HC5.out hb); have O6 := A0qdl_ (Kd.C_below HC6.out hb); clear hrr ho hb x0 x1 x2 x3; have x0 : w6.cell? ⟨g1, 0, none⟩ = some (.slice A0 l.length c0) := (blk_cell BK6.out 0).trans rfl; have x1 : w6.cell? ⟨g1, 1, none⟩ = some (.slice A1 o.length c1) := (blk_cell BK6.out 1).trans rfl; have x2 : w6.cell? ⟨g1, 2, none⟩ = some (.int .i64 a) := (blk_cell BK6.out 2).trans rfl; have x3 : w6.cell? ⟨g1, 3, none⟩ = some (.int .i64 b) := (blk_cell BK6.out 3).trans rfl)
  | (go_at_call 77; refine (H77.out _ HB6.out).mono ?_; rintro e w7 ⟨rfl, hb⟩; have BK7 := A0qdl_ (blk_below BK6.out hb); have GK7 := A0qdl_ (blk_below GK6.out hb); have HB7 := A0qdl_ (below_step HB6.out hb); have S7 := A0qdl_ (Kd.C_below S6.out hb); have O7 := A0qdl_ (Kd.C_below O6.out hb); have F7 := A0qdl_ (Kd.C_below F6.out hb); clear hb x0 x1 x2 x3; have x0 : w7.cell? ⟨g1, 0, none⟩ = some (.slice A0 l.length c0) := (blk_cell BK7.out 0).trans rfl; have x1 : w7.cell? ⟨g1, 1, none⟩ = some (.slice A1 o.length c1) := (blk_cell BK7.out 1).trans rfl; have x2 : w7.cell? ⟨g1, 2, none⟩ = some (.int .i64 a) := (blk_cell BK7.out 2).trans rfl; have x3 : w7.cell? ⟨g1, 3, none⟩ = some (.int .i64 b) := (blk_cell BK7.out 3).trans rfl)
  | (go_at_call 83; refine (H83.out _ HB7.out).mono ?_; rintro e w8 ⟨v9, rfl, ho, hb⟩; obtain ⟨A9, c9, rfl⟩ := Kd.R_slice ho; have hrr := Kd.R_reads' ho; have L9 := A0qdl_ hrr.2.1; have G8 := A0qdl_ hrr.2.2; have BK8 := A0qdl_ (blk_below BK7.out hb); have GK8 := A0qdl_ (blk_below GK7.out hb); have HB8 := A0qdl_ (below_step HB7.out hb); have S8 := A0qdl_ (Kd.C_below S7.out hb); have O8 := A0qdl_ (Kd.C_below O7.out hb); have F8 := A0qdl_ (Kd.C_below F7.out hb); clear hrr ho hb x0 x1 x2 x3; have x0 : w8.cell? ⟨g1, 0, none⟩ = some (.slice A0 l.length c0) := (blk_cell BK8.out 0).trans rfl; have x1 : w8.cell? ⟨g1, 1, none⟩ = some (.slice A1 o.length c1) := (blk_cell BK8.out 1).trans rfl; have x2 : w8.cell? ⟨g1, 2, none⟩ = some (.int .i64 a) := (blk_cell BK8.out 2).trans rfl; have x3 : w8.cell? ⟨g1, 3, none⟩ = some (.int .i64 b) := (blk_cell BK8.out 3).trans rfl)
  | (go_at_call 84; refine (H84.out _ HB8.out).mono ?_; rintro e wn ⟨rfl, hb⟩; have BKn := A0qdl_ (blk_below BK8.out hb); have GKn := A0qdl_ (blk_below GK8.out hb); have HBn := A0qdl_ (below_step HB8.out hb); have Sn := A0qdl_ (Kd.C_below S8.out hb); have On := A0qdl_ (Kd.C_below O8.out hb); have Fn := A0qdl_ (Kd.C_below F8.out hb); have Gn := A0qdl_ (Kd.C_below G8.out hb); clear hb x0 x1 x2 x3; have x0 : wn.cell? ⟨g1, 0, none⟩ = some (.slice A0 l.length c0) := (blk_cell BKn.out 0).trans rfl; have x1 : wn.cell? ⟨g1, 1, none⟩ = some (.slice A1 o.length c1) := (blk_cell BKn.out 1).trans rfl; have x2 : wn.cell? ⟨g1, 2, none⟩ = some (.int .i64 a) := (blk_cell BKn.out 2).trans rfl; have x3 : wn.cell? ⟨g1, 3, none⟩ = some (.int .i64 b) := (blk_cell BKn.out 3).trans rfl; have y0 : wn.cell? ⟨g2, 0, none⟩ = some (.slice A5 (l.filter (lateQ q)).length c5) := (blk_cell GKn.out 0).trans rfl; have y1 : wn.cell? ⟨g2, 1, none⟩ = some (.slice A6 o.length c6) := (blk_cell GKn.out 1).trans rfl; have y2 : wn.cell? ⟨g2, 2, none⟩ = some (.int .i64 a) := (blk_cell GKn.out 2).trans rfl; have y3 : wn.cell? ⟨g2, 3, none⟩ = some (.int .i64 b) := (blk_cell GKn.out 3).trans rfl))
 have BKp0 := A0qdl_ (blk_drew BKn.out)
 have GKp0 := A0qdl_ (blk_drew GKn.out)
 have HBp0 := A0qdl_ (below_drew1 HBn.out)
 have Sp0 := A0qdl_ (Kd.C_drew Sn.out)
 have Op0 := A0qdl_ (Kd.C_drew On.out)
 have Fp0 := A0qdl_ (Kd.C_drew Fn.out)
 have Gp0 := A0qdl_ (Kd.C_drew Gn.out)
 clear x0 x1 x2 x3 y0 y1 y2 y3 BKn GKn HBn Sn On Fn Gn
 refine start_ (n := 39) (S := fun w' => w'.cell? ⟨g1, 0, none⟩ = some (.slice A0 l.length c0) ∧ w'.cell? ⟨g1, 1, none⟩ = some (.slice A1 o.length c1) ∧ w'.cell? ⟨g1, 2, none⟩ = some (.int .i64 a) ∧ w'.cell? ⟨g1, 3, none⟩ = some (.int .i64 b) ∧ w'.cell? ⟨g2, 0, none⟩ = some (.slice A5 (l.filter (lateQ q)).length c5) ∧ w'.cell? ⟨g2, 1, none⟩ = some (.slice A6 o.length c6) ∧ w'.cell? ⟨g2, 2, none⟩ = some (.int .i64 a) ∧ w'.cell? ⟨g2, 3, none⟩ = some (.int .i64 b)) (ds := []) mk0qdl_ (by kernel_rfl) rfl rfl ⟨(blk_cell BKp0.out 0).trans rfl, (blk_cell BKp0.out 1).trans rfl, (blk_cell BKp0.out 2).trans rfl, (blk_cell BKp0.out 3).trans rfl, (blk_cell GKp0.out 0).trans rfl, (blk_cell GKp0.out 1).trans rfl, (blk_cell GKp0.out 2).trans rfl, (blk_cell GKp0.out 3).trans rfl⟩ (fun hHeld => ?_); refine with_tabW qd10.tab qd10.bits (fun HT_ HW_ => ?_)
 generalize wn.drew = wp0 at BKp0 GKp0 HBp0 Sp0 Op0 Fp0 Gp0 hHeld ⊢
 refine pure_ (i:=2) (N:=some 66) (v:=?_) (a':=?_) mk1qdl_ rfl rfl (any_of HT_.out (by kernel_rfl)) (fun _ _ _ h => h) (Or.inl ⟨by rfl, ?_⟩) ?_ ?_
 rotate_left
 ·intro w'
  go_simp
  with_reducible rfl
 rotate_left
 ·simp only [Act.put, z1qdl_, z2qdl_, z3qdl_, i64_w, i32_w]
  rfl
 refine take_ (i:=0) (N:=some 64) (v:=?_) (a':=?_) mk2qdl_ rfl rfl (take_ofW HT_.out HW_.out (by kernel_rfl)) (fun _ _ _ h => h) (Or.inl ⟨by rfl, ?_⟩) hHeld ?_ ?_
 rotate_left
 ·rintro w' ⟨s0, s1, s2, s3, s4, s5, s6, s7⟩
  go_simp
  with_reducible rfl
 rotate_left
 ·simp only [Act.put, z1qdl_, z2qdl_, z3qdl_, i64_w, i32_w]
  rfl
 refine take_ (i:=1) (N:=some 65) (v:=?_) (a':=?_) mk3qdl_ rfl rfl (take_ofW HT_.out HW_.out (by kernel_rfl)) (fun _ _ _ h => h) (Or.inl ⟨by rfl, ?_⟩) hHeld ?_ ?_
 rotate_left
 ·rintro w' ⟨s0, s1, s2, s3, s4, s5, s6, s7⟩
  go_simp
  with_reducible rfl
 rotate_left
 ·simp only [Act.put, z1qdl_, z2qdl_, z3qdl_, i64_w, i32_w]
  rfl
 refine one_ (i:=3) (N:=some 67) mk4qdl_ rfl rfl (one_of HT_.out (by kernel_rfl)) (by decide) (fun K hK => ?_)
 refine call_ 85 #[.agg #[.slice A0 l.length c0, .slice A1 o.length c1, .int .i64 a, .int .i64 b], .int .i64 q] (by rfl) rfl (by first | (go_simp; done) | (go_simp; rfl)) ?_
 refine (H85.out _ HBp0.out).mono ?_
 rintro e wp1 ⟨A7, c7, rfl, hS7, hl7, hb⟩
 refine ⟨_, rfl, ?_⟩
 have BKp1 := A0qdl_ (blk_below BKp0.out hb)
 have GKp1 := A0qdl_ (blk_below GKp0.out hb)
 have HBp1 := A0qdl_ (below_step HBp0.out hb)
 have Sp1 := A0qdl_ (Kd.C_below Sp0.out hb)
 have Op1 := A0qdl_ (Kd.C_below Op0.out hb)
 have Fp1 := A0qdl_ (Kd.C_below Fp0.out hb)
 have Gp1 := A0qdl_ (Kd.C_below Gp0.out hb)
 have S7 := A0qdl_ hS7
 have L7 := A0qdl_ hl7
 clear hS7 hl7
 refine hK.out _ _ ⟨(blk_cell BKp1.out 0).trans rfl, (blk_cell BKp1.out 1).trans rfl, (blk_cell BKp1.out 2).trans rfl, (blk_cell BKp1.out 3).trans rfl, (blk_cell GKp1.out 0).trans rfl, (blk_cell GKp1.out 1).trans rfl, (blk_cell GKp1.out 2).trans rfl, (blk_cell GKp1.out 3).trans rfl⟩ (fun hHeld => ?_)
 clear hK K hb BKp0 GKp0 HBp0 Sp0 Op0 Fp0 Gp0
 refine norm_ (a' := ?_) ?_ ?_
 rotate_left
 ·show Act.put _ (some 67) _ = _
  simp only [Act.put, z1qdl_, z2qdl_, z3qdl_, i64_w, i32_w]
  rfl
 refine one_ (i:=4) (N:=some 68) mk5qdl_ rfl rfl (one_of HT_.out (by kernel_rfl)) (by decide) (fun K hK => ?_)
 refine call_ 72 #[.agg #[.slice A5 (l.filter (lateQ q)).length c5, .slice A6 o.length c6, .int .i64 a, .int .i64 b], .agg #[.slice A7 (l.filter (lateQ q)).length c7, .slice A1 o.length c1, .int .i64 a, .int .i64 b]] (by rfl) rfl (by first | (go_simp; done) | (go_simp; rfl)) ?_
 refine (H72.out _ A5 A6 A7 c5 c6 c7 HBp1.out Sp1.out LC5.out Op1.out LC6.out S7.out L7.out).mono ?_
 rintro e wp2 ⟨rfl, hb⟩
 refine ⟨_, rfl, ?_⟩
 have BKp2 := A0qdl_ (blk_below BKp1.out hb)
 have GKp2 := A0qdl_ (blk_below GKp1.out hb)
 have HBp2 := A0qdl_ (below_step HBp1.out hb)
 have Sp2 := A0qdl_ (Kd.C_below Sp1.out hb)
 have Op2 := A0qdl_ (Kd.C_below Op1.out hb)
 have Fp2 := A0qdl_ (Kd.C_below Fp1.out hb)
 have Gp2 := A0qdl_ (Kd.C_below Gp1.out hb)
 refine hK.out _ _ ⟨(blk_cell BKp2.out 0).trans rfl, (blk_cell BKp2.out 1).trans rfl, (blk_cell BKp2.out 2).trans rfl, (blk_cell BKp2.out 3).trans rfl, (blk_cell GKp2.out 0).trans rfl, (blk_cell GKp2.out 1).trans rfl, (blk_cell GKp2.out 2).trans rfl, (blk_cell GKp2.out 3).trans rfl⟩ (fun hHeld => ?_)
 clear hK K hb BKp1 GKp1 HBp1 Sp1 Op1 Fp1 Gp1
 refine norm_ (a' := ?_) ?_ ?_
 rotate_left
 ·show Act.put _ (some 68) _ = _
  simp only [Act.put, z1qdl_, z2qdl_, z3qdl_, i64_w, i32_w]
  rfl
 refine pure_ (i:=5) (N:=some 69) (v:=?_) (a':=?_) mk6qdl_ rfl rfl (any_of HT_.out (by kernel_rfl)) (fun _ _ _ h => h) (Or.inl ⟨by rfl, ?_⟩) ?_ ?_
 rotate_left
 ·intro w'
  go_simp
  with_reducible rfl
 rotate_left
 ·simp only [Act.put, z1qdl_, z2qdl_, z3qdl_, i64_w, i32_w]
  rfl
 refine pure_ (i:=6) (N:=some 70) (v:=?_) (a':=?_) mk7qdl_ rfl rfl (any_of HT_.out (by kernel_rfl)) (fun _ _ _ h => h) (Or.inl ⟨by rfl, ?_⟩) ?_ ?_
 rotate_left
 ·intro w'
  go_simp
  with_reducible rfl
 rotate_left
 ·simp only [Act.put, z1qdl_, z2qdl_, z3qdl_, i64_w, i32_w]
  rfl
 refine pure_ (i:=7) (N:=some 71) (v:=?_) (a':=?_) mk8qdl_ rfl rfl (any_of HT_.out (by kernel_rfl)) (fun _ _ _ h => h) (Or.inl ⟨by rfl, ?_⟩) ?_ ?_
 rotate_left
 ·intro w'
  go_simp
  with_reducible rfl
 rotate_left
 ·simp only [Act.put, z1qdl_, z2qdl_, z3qdl_, i64_w, i32_w]
  rfl
 refine pure_ (i:=8) (N:=some 72) (v:=?_) (a':=?_) mk9qdl_ rfl rfl (any_of HT_.out (by kernel_rfl)) (fun _ _ _ h => h) (Or.inl ⟨by rfl, ?_⟩) ?_ ?_
 rotate_left
 ·intro w'
  go_simp
  with_reducible rfl
 rotate_left
 ·simp only [Act.put, z1qdl_, z2qdl_, z3qdl_, i64_w, i32_w]
  rfl
 refine pure_ (i:=9) (N:=some 73) (v:=?_) (a':=?_) mk10qdl_ rfl rfl (any_of HT_.out (by kernel_rfl)) (fun _ _ _ h => h) (Or.inl ⟨by rfl, ?_⟩) ?_ ?_
 rotate_left
 ·intro w'
  go_simp
  with_reducible rfl
 rotate_left
 ·simp only [Act.put, z1qdl_, z2qdl_, z3qdl_, i64_w, i32_w]
  rfl
 refine pure_ (i:=12) (N:=some 76) (v:=?_) (a':=?_) mk11qdl_ rfl rfl (any_of HT_.out (by kernel_rfl)) (fun _ _ _ h => h) (Or.inl ⟨by rfl, ?_⟩) ?_ ?_
 rotate_left
 ·intro w'
  go_simp
  with_reducible rfl
 rotate_left
 ·simp only [Act.put, z1qdl_, z2qdl_, z3qdl_, i64_w, i32_w]
  rfl
 refine take_ (i:=10) (N:=some 74) (v:=?_) (a':=?_) mk12qdl_ rfl rfl (take_ofW HT_.out HW_.out (by kernel_rfl)) (fun _ _ _ h => h) (Or.inl ⟨by rfl, ?_⟩) hHeld ?_ ?_
 rotate_left
 ·rintro w' ⟨s0, s1, s2, s3, s4, s5, s6, s7⟩
  go_simp
  with_reducible rfl
 rotate_left
 ·simp only [Act.put, z1qdl_, z2qdl_, z3qdl_, i64_w, i32_w]
  rfl
 refine one_ (i:=11) (N:=some 75) mk13qdl_ rfl rfl (one_of HT_.out (by kernel_rfl)) (by decide) (fun K hK => ?_)
 refine call_ 76 #[.agg #[.slice A0 l.length c0, .slice A1 o.length c1, .int .i64 a, .int .i64 b]] (by rfl) rfl (by first | (go_simp; done) | (go_simp; rfl)) ?_
 refine (H76.out _ HBp2.out).mono ?_
 rintro e wp3 ⟨rfl, hb⟩
 refine ⟨_, rfl, ?_⟩
 have BKp3 := A0qdl_ (blk_below BKp2.out hb)
 have GKp3 := A0qdl_ (blk_below GKp2.out hb)
 have HBp3 := A0qdl_ (below_step HBp2.out hb)
 have Sp3 := A0qdl_ (Kd.C_below Sp2.out hb)
 have Op3 := A0qdl_ (Kd.C_below Op2.out hb)
 have Fp3 := A0qdl_ (Kd.C_below Fp2.out hb)
 have Gp3 := A0qdl_ (Kd.C_below Gp2.out hb)
 refine hK.out _ _ ⟨(blk_cell BKp3.out 0).trans rfl, (blk_cell BKp3.out 1).trans rfl, (blk_cell BKp3.out 2).trans rfl, (blk_cell BKp3.out 3).trans rfl, (blk_cell GKp3.out 0).trans rfl, (blk_cell GKp3.out 1).trans rfl, (blk_cell GKp3.out 2).trans rfl, (blk_cell GKp3.out 3).trans rfl⟩ (fun hHeld => ?_)
 clear hK K hb BKp2 GKp2 HBp2 Sp2 Op2 Fp2 Gp2
 refine norm_ (a' := ?_) ?_ ?_
 rotate_left
 ·show Act.put _ (some 75) _ = _
  simp only [Act.put, z1qdl_, z2qdl_, z3qdl_, i64_w, i32_w]
  rfl
 refine pure_ (i:=13) (N:=some 77) (v:=?_) (a':=?_) mk14qdl_ rfl rfl (any_of HT_.out (by kernel_rfl)) (fun _ _ _ h => h) (Or.inl ⟨by rfl, ?_⟩) ?_ ?_
 rotate_left
 ·intro w'
  go_simp
  with_reducible rfl
 rotate_left
 ·simp only [Act.put, z1qdl_, z2qdl_, z3qdl_, i64_w, i32_w]
  rfl
 refine pure_ (i:=14) (N:=some 78) (v:=?_) (a':=?_) mk15qdl_ rfl rfl (any_of HT_.out (by kernel_rfl)) (fun _ _ _ h => h) (Or.inl ⟨by rfl, ?_⟩) ?_ ?_
 rotate_left
 ·intro w'
  go_simp
  with_reducible rfl
 rotate_left
 ·simp only [Act.put, z1qdl_, z2qdl_, z3qdl_, i64_w, i32_w]
  rfl
 refine pure_ (i:=15) (N:=some 79) (v:=?_) (a':=?_) mk16qdl_ rfl rfl (any_of HT_.out (by kernel_rfl)) (fun _ _ _ h => h) (Or.inl ⟨by rfl, ?_⟩) ?_ ?_
 rotate_left
 ·intro w'
  go_simp
  with_reducible rfl
 rotate_left
 ·simp only [Act.put, z1qdl_, z2qdl_, z3qdl_, i64_w, i32_w]
  rfl
 refine pure_ (i:=16) (N:=some 80) (v:=?_) (a':=?_) mk17qdl_ rfl rfl (any_of HT_.out (by kernel_rfl)) (fun _ _ _ h => h) (Or.inl ⟨by rfl, ?_⟩) ?_ ?_
 rotate_left
 ·intro w'
  go_simp
  with_reducible rfl
 rotate_left
 ·simp only [Act.put, z1qdl_, z2qdl_, z3qdl_, i64_w, i32_w]
  rfl
 refine pure_ (i:=17) (N:=some 81) (v:=?_) (a':=?_) mk18qdl_ rfl rfl (any_of HT_.out (by kernel_rfl)) (fun _ _ _ h => h) (Or.inl ⟨by rfl, ?_⟩) ?_ ?_
 rotate_left
 ·intro w'
  go_simp
  with_reducible rfl
 rotate_left
 ·simp only [Act.put, z1qdl_, z2qdl_, z3qdl_, i64_w, i32_w]
  rfl
 refine pure_ (i:=19) (N:=some 83) (v:=?_) (a':=?_) mk19qdl_ rfl rfl (any_of HT_.out (by kernel_rfl)) (fun _ _ _ h => h) (Or.inl ⟨by rfl, ?_⟩) ?_ ?_
 rotate_left
 ·intro w'
  go_simp
  with_reducible rfl
 rotate_left
 ·simp only [Act.put, z1qdl_, z2qdl_, z3qdl_, i64_w, i32_w]
  rfl
 refine take_ (i:=18) (N:=some 82) (v:=?_) (a':=?_) mk20qdl_ rfl rfl (take_ofW HT_.out HW_.out (by kernel_rfl)) (fun _ _ _ h => h) (Or.inl ⟨by rfl, ?_⟩) hHeld ?_ ?_
 rotate_left
 ·rintro w' ⟨s0, s1, s2, s3, s4, s5, s6, s7⟩
  go_simp
  with_reducible rfl
 rotate_left
 ·simp only [Act.put, z1qdl_, z2qdl_, z3qdl_, i64_w, i32_w]
  rfl
 refine pure_ (i:=20) (N:=some 84) (v:=?_) (a':=?_) mk21qdl_ rfl rfl (any_of HT_.out (by kernel_rfl)) (fun _ _ _ h => h) (Or.inl ⟨by rfl, ?_⟩) ?_ ?_
 rotate_left
 ·intro w'
  go_simp
  with_reducible rfl
 rotate_left
 ·simp only [Act.put, z1qdl_, z2qdl_, z3qdl_, i64_w, i32_w]
  rfl
 refine pure_ (i:=21) (N:=some 85) (v:=?_) (a':=?_) mk22qdl_ rfl rfl (any_of HT_.out (by kernel_rfl)) (fun _ _ _ h => h) (Or.inl ⟨by rfl, ?_⟩) ?_ ?_
 rotate_left
 ·intro w'
  go_simp
  with_reducible rfl
 rotate_left
 ·simp only [Act.put, z1qdl_, z2qdl_, z3qdl_, i64_w, i32_w]
  rfl
 refine pure_ (i:=22) (N:=some 86) (v:=?_) (a':=?_) mk23qdl_ rfl rfl (any_of HT_.out (by kernel_rfl)) (fun _ _ _ h => h) (Or.inl ⟨by rfl, ?_⟩) ?_ ?_
 rotate_left
 ·intro w'
  go_simp
  with_reducible rfl
 rotate_left
 ·simp only [Act.put, z1qdl_, z2qdl_, z3qdl_, i64_w, i32_w]
  rfl
 refine pure_ (i:=23) (N:=some 87) (v:=?_) (a':=?_) mk24qdl_ rfl rfl (any_of HT_.out (by kernel_rfl)) (fun _ _ _ h => h) (Or.inl ⟨by rfl, ?_⟩) ?_ ?_
 rotate_left
 ·intro w'
  go_simp
  with_reducible rfl
 rotate_left
 ·simp only [Act.put, z1qdl_, z2qdl_, z3qdl_, i64_w, i32_w]
  rfl
 refine pure_ (i:=24) (N:=some 88) (v:=?_) (a':=?_) mk25qdl_ rfl rfl (any_of HT_.out (by kernel_rfl)) (fun _ _ _ h => h) (Or.inl ⟨by rfl, ?_⟩) ?_ ?_
 rotate_left
 ·intro w'
  go_simp
  with_reducible rfl
 rotate_left
 ·simp only [Act.put, z1qdl_, z2qdl_, z3qdl_, i64_w, i32_w]
  rfl
 refine pure_ (i:=25) (N:=some 89) (v:=?_) (a':=?_) mk26qdl_ rfl rfl (any_of HT_.out (by kernel_rfl)) (fun _ _ _ h => h) (Or.inl ⟨by rfl, ?_⟩) ?_ ?_
 rotate_left
 ·intro w'
  go_simp
  with_reducible rfl
 rotate_left
 ·simp only [Act.put, z1qdl_, z2qdl_, z3qdl_, i64_w, i32_w]
  rfl
 refine one_ (i:=26) (N:=some 90) mk27qdl_ rfl rfl (one_of HT_.out (by kernel_rfl)) (by decide) (fun K hK => ?_)
 refine call_ 56 #[.slice A9 all.length c9] (by rfl) rfl (by first | (go_simp; done) | (go_simp; rfl)) ?_
 refine (H56.out _ A9 c9 Gp3.out L9.out).mono ?_
 rintro e wp4 ⟨rfl, hb⟩
 refine ⟨_, rfl, ?_⟩
 have BKp4 := A0qdl_ (blk_below BKp3.out hb)
 have GKp4 := A0qdl_ (blk_below GKp3.out hb)
 have HBp4 := A0qdl_ (below_step HBp3.out hb)
 have Sp4 := A0qdl_ (Kd.C_below Sp3.out hb)
 have Op4 := A0qdl_ (Kd.C_below Op3.out hb)
 have Fp4 := A0qdl_ (Kd.C_below Fp3.out hb)
 have Gp4 := A0qdl_ (Kd.C_below Gp3.out hb)
 refine hK.out _ _ ⟨(blk_cell BKp4.out 0).trans rfl, (blk_cell BKp4.out 1).trans rfl, (blk_cell BKp4.out 2).trans rfl, (blk_cell BKp4.out 3).trans rfl, (blk_cell GKp4.out 0).trans rfl, (blk_cell GKp4.out 1).trans rfl, (blk_cell GKp4.out 2).trans rfl, (blk_cell GKp4.out 3).trans rfl⟩ (fun hHeld => ?_)
 clear hK K hb BKp3 GKp3 HBp3 Sp3 Op3 Fp3 Gp3
 refine norm_ (a' := ?_) ?_ ?_
 rotate_left
 ·show Act.put _ (some 90) _ = _
  simp only [Act.put, z1qdl_, z2qdl_, z3qdl_, i64_w, i32_w]
  rfl
 refine pure_ (i:=27) (N:=some 91) (v:=?_) (a':=?_) mk28qdl_ rfl rfl (any_of HT_.out (by kernel_rfl)) (fun _ _ _ h => h) (Or.inl ⟨by rfl, ?_⟩) ?_ ?_
 rotate_left
 ·intro w'
  go_simp
  with_reducible rfl
 rotate_left
 ·simp only [Act.put, z1qdl_, z2qdl_, z3qdl_, i64_w, i32_w]
  rfl
 refine pure_ (i:=28) (N:=some 92) (v:=?_) (a':=?_) mk29qdl_ rfl rfl (any_of HT_.out (by kernel_rfl)) (fun _ _ _ h => h) (Or.inl ⟨by rfl, ?_⟩) ?_ ?_
 rotate_left
 ·intro w'
  go_simp
  with_reducible rfl
 rotate_left
 ·simp only [Act.put, z1qdl_, z2qdl_, z3qdl_, i64_w, i32_w]
  rfl
 refine pure_ (i:=29) (N:=some 93) (v:=?_) (a':=?_) mk30qdl_ rfl rfl (any_of HT_.out (by kernel_rfl)) (fun _ _ _ h => h) (Or.inl ⟨by rfl, ?_⟩) ?_ ?_
 rotate_left
 ·intro w'
  go_simp
  with_reducible rfl
 rotate_left
 ·simp only [Act.put, z1qdl_, z2qdl_, z3qdl_, i64_w, i32_w]
  rfl
 refine pure_ (i:=30) (N:=some 94) (v:=?_) (a':=?_) mk31qdl_ rfl rfl (any_of HT_.out (by kernel_rfl)) (fun _ _ _ h => h) (Or.inl ⟨by rfl, ?_⟩) ?_ ?_
 rotate_left
 ·intro w'
  go_simp
  with_reducible rfl
 rotate_left
 ·simp only [Act.put, z1qdl_, z2qdl_, z3qdl_, i64_w, i32_w]
  rfl
 refine pure_ (i:=31) (N:=some 95) (v:=?_) (a':=?_) mk32qdl_ rfl rfl (any_of HT_.out (by kernel_rfl)) (fun _ _ _ h => h) (Or.inl ⟨by rfl, ?_⟩) ?_ ?_
 rotate_left
 ·intro w'
  go_simp
  with_reducible rfl
 rotate_left
 ·simp only [Act.put, z1qdl_, z2qdl_, z3qdl_, i64_w, i32_w]
  rfl
 refine one_ (i:=32) (N:=some 96) mk33qdl_ rfl rfl (one_of HT_.out (by kernel_rfl)) (by decide) (fun K hK => ?_)
 refine call_ 52 #[.slice A9 all.length c9] (by rfl) rfl (by first | (go_simp; done) | (go_simp; rfl)) ?_
 refine (H52.out _ A9 c9 Gp4.out L9.out).mono ?_
 rintro e wp5 ⟨v10, rfl, ho10, hb⟩
 obtain ⟨A10, c10, rfl⟩ := Kd.R_slice ho10
 have L10 := A0qdl_ (Kd.R_reads' ho10).2.1
 have F10 := A0qdl_ (Kd.R_reads' ho10).2.2
 clear ho10
 refine ⟨_, rfl, ?_⟩
 have BKp5 := A0qdl_ (blk_below BKp4.out hb)
 have GKp5 := A0qdl_ (blk_below GKp4.out hb)
 have HBp5 := A0qdl_ (below_step HBp4.out hb)
 have Sp5 := A0qdl_ (Kd.C_below Sp4.out hb)
 have Op5 := A0qdl_ (Kd.C_below Op4.out hb)
 have Fp5 := A0qdl_ (Kd.C_below Fp4.out hb)
 have Gp5 := A0qdl_ (Kd.C_below Gp4.out hb)
 refine hK.out _ _ ⟨(blk_cell BKp5.out 0).trans rfl, (blk_cell BKp5.out 1).trans rfl, (blk_cell BKp5.out 2).trans rfl, (blk_cell BKp5.out 3).trans rfl, (blk_cell GKp5.out 0).trans rfl, (blk_cell GKp5.out 1).trans rfl, (blk_cell GKp5.out 2).trans rfl, (blk_cell GKp5.out 3).trans rfl⟩ (fun hHeld => ?_)
 clear hK K hb BKp4 GKp4 HBp4 Sp4 Op4 Fp4 Gp4
 refine norm_ (a' := ?_) ?_ ?_
 rotate_left
 ·show Act.put _ (some 96) _ = _
  simp only [Act.put, z1qdl_, z2qdl_, z3qdl_, i64_w, i32_w]
  rfl
 refine one_ (i:=33) (N:=some 97) mk34qdl_ rfl rfl (one_of HT_.out (by kernel_rfl)) (by decide) (fun K hK => ?_)
 refine call_ 49 #[.slice A8 fd.length c8, .slice A10 fd.length c10] (by rfl) rfl (by first | (go_simp; done) | (go_simp; rfl)) ?_
 refine (H49.out _ A8 A10 c8 c10 Fp5.out L8.out F10.out L10.out).mono ?_
 rintro e wp6 ⟨rfl, hb⟩
 refine ⟨_, rfl, ?_⟩
 have BKp6 := A0qdl_ (blk_below BKp5.out hb)
 have GKp6 := A0qdl_ (blk_below GKp5.out hb)
 have HBp6 := A0qdl_ (below_step HBp5.out hb)
 have Sp6 := A0qdl_ (Kd.C_below Sp5.out hb)
 have Op6 := A0qdl_ (Kd.C_below Op5.out hb)
 have Fp6 := A0qdl_ (Kd.C_below Fp5.out hb)
 have Gp6 := A0qdl_ (Kd.C_below Gp5.out hb)
 refine hK.out _ _ ⟨(blk_cell BKp6.out 0).trans rfl, (blk_cell BKp6.out 1).trans rfl, (blk_cell BKp6.out 2).trans rfl, (blk_cell BKp6.out 3).trans rfl, (blk_cell GKp6.out 0).trans rfl, (blk_cell GKp6.out 1).trans rfl, (blk_cell GKp6.out 2).trans rfl, (blk_cell GKp6.out 3).trans rfl⟩ (fun hHeld => ?_)
 clear hK K hb BKp5 GKp5 HBp5 Sp5 Op5 Fp5 Gp5
 refine norm_ (a' := ?_) ?_ ?_
 rotate_left
 ·show Act.put _ (some 97) _ = _
  simp only [Act.put, z1qdl_, z2qdl_, z3qdl_, i64_w, i32_w]
  rfl
 refine pure_ (i:=34) (N:=some 98) (v:=?_) (a':=?_) mk35qdl_ rfl rfl (any_of HT_.out (by kernel_rfl)) (fun _ _ _ h => h) (Or.inl ⟨by rfl, ?_⟩) ?_ ?_
 rotate_left
 ·intro w'
  go_simp
  with_reducible rfl
 rotate_left
 ·simp only [Act.put, z1qdl_, z2qdl_, z3qdl_, i64_w, i32_w]
  rfl
 refine pure_ (i:=35) (N:=some 99) (v:=?_) (a':=?_) mk36qdl_ rfl rfl (any_of HT_.out (by kernel_rfl)) (fun _ _ _ h => h) (Or.inl ⟨by rfl, ?_⟩) ?_ ?_
 rotate_left
 ·intro w'
  go_simp
  with_reducible rfl
 rotate_left
 ·simp only [Act.put, z1qdl_, z2qdl_, z3qdl_, i64_w, i32_w]
  rfl
 refine one_ (i:=36) (N:=some 100) mk37qdl_ rfl rfl (one_of HT_.out (by kernel_rfl)) (by decide) (fun K hK => ?_)
 refine call_ 73 #[] (by rfl) rfl (by first | (go_simp; done) | (go_simp; rfl)) ?_
 refine (H73.out _ HBp6.out).mono ?_
 rintro e wp7 ⟨rfl, hb⟩
 refine ⟨_, rfl, ?_⟩
 have BKp7 := A0qdl_ (blk_below BKp6.out hb)
 have GKp7 := A0qdl_ (blk_below GKp6.out hb)
 have HBp7 := A0qdl_ (below_step HBp6.out hb)
 have Sp7 := A0qdl_ (Kd.C_below Sp6.out hb)
 have Op7 := A0qdl_ (Kd.C_below Op6.out hb)
 have Fp7 := A0qdl_ (Kd.C_below Fp6.out hb)
 have Gp7 := A0qdl_ (Kd.C_below Gp6.out hb)
 refine hK.out _ _ ⟨(blk_cell BKp7.out 0).trans rfl, (blk_cell BKp7.out 1).trans rfl, (blk_cell BKp7.out 2).trans rfl, (blk_cell BKp7.out 3).trans rfl, (blk_cell GKp7.out 0).trans rfl, (blk_cell GKp7.out 1).trans rfl, (blk_cell GKp7.out 2).trans rfl, (blk_cell GKp7.out 3).trans rfl⟩ (fun hHeld => ?_)
 clear hK K hb BKp6 GKp6 HBp6 Sp6 Op6 Fp6 Gp6
 refine norm_ (a' := ?_) ?_ ?_
 rotate_left
 ·show Act.put _ (some 100) _ = _
  simp only [Act.put, z1qdl_, z2qdl_, z3qdl_, i64_w, i32_w]
  rfl
 refine pure_ (i:=37) (N:=some 101) (v:=?_) (a':=?_) mk38qdl_ rfl rfl (any_of HT_.out (by kernel_rfl)) (fun _ _ _ h => h) (Or.inl ⟨by rfl, ?_⟩) ?_ ?_
 rotate_left
 ·intro w'
  go_simp
  with_reducible rfl
 rotate_left
 ·simp only [Act.put, z1qdl_, z2qdl_, z3qdl_, i64_w, i32_w]
  rfl
 refine pure_ (i:=38) (N:=some 4) (v:=?_) (a':=?_) mk39qdl_ rfl rfl (any_of HT_.out (by kernel_rfl)) (fun _ _ _ h => h) (Or.inl ⟨by rfl, ?_⟩) ?_ ?_
 rotate_left
 ·intro w'
  go_simp
  with_reducible rfl
 rotate_left
 ·simp only [Act.put, z1qdl_, z2qdl_, z3qdl_, i64_w, i32_w]
  rfl
 refine done_ (done_of HT_.out (by kernel_rfl)) ?_
 (try go_wp2)
 go_ret
 exact ⟨rfl, HBp7.out⟩
end Go.Proofs.Ythdhkoeaadahaaa.P
