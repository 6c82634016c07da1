-- PACKED by wip/kit/pack.py: what the law's proof uses of EQA11 (printed words and texts of this seat)
import Derived.Test.YthdhkoeaadahaaaTESt
import Derived.Test.YthdhkoeaadahaaaTEQClone
import Derived.Test.YthdhkoeaadahaaaTPx8
import Derived.Test.YthdhkoeaadahaaaTQBig
import Derived.Test.YthdhkoeaadahaaaTQAwake
import Derived.Test.YthdhkoeaadahaaaTPx3
import Derived.Test.YthdhkoeaadahaaaTPx12
namespace Go.Proofs.Ythdhkoeaadahaaa.P
open Go.RowKit Go.Proofs.YthdhkoeaadahaaaW.PrintWords Go.Proofs.YthdhkoeaadahaaaW.PrintLast Go.Proofs.YthdhkoeaadahaaaW.PrintMore
attribute [local go_sem] Oper.semAt_some
set_option linter.unusedVariables false
set_option linter.unusedSimpArgs false
def add_right1114.T : Bool × List (List Nat × List Nat) := (true, [([], []), ([], []), ([], []), ([1, 2], [1, 2]), ([0, 3, 3], [0, 3]), ([4], [4]), ([5, 4], [5]), ([6], [6]), ([7, 6], [6, 7]), ([6, 8], [6, 8])])
def add_right1114.B : List Nat := [0, 0, 0, 6, 15, 31, 63, 127, 255, 511]
theorem add_right1114.tab : rtab .any (opsOf Try.f19 14) = add_right1114.T := by kernel_rfl
theorem add_right1114.bits : waitsOk add_right1114.T.2 add_right1114.B = true := by kernel_rfl
def add_right1118.T : Bool × List (List Nat × List Nat) := (true, [([], []), ([], []), ([1], [1]), ([0, 2, 2], [0, 2]), ([3, 3], [3]), ([4], [4]), ([5, 4], [4, 5]), ([4, 6], [4, 6]), ([7, 4], [7]), ([8, 8], [8]), ([8, 9], [8, 9]), ([10, 9, 0, 1, 2, 3, 4, 5, 6, 7, 8, 9, 10], [10])])
def add_right1118.B : List Nat := [0, 0, 2, 7, 15, 31, 63, 127, 255, 511, 1023, 2047]
theorem add_right1118.tab : rtab .any (opsOf Try.f19 18) = add_right1118.T := by kernel_rfl
theorem add_right1118.bits : waitsOk add_right1118.T.2 add_right1118.B = true := by kernel_rfl
theorem A0qa3_ {p : Prop} (h : p) : Aside0 p := ⟨h⟩
theorem z1qa3_ {α : Type} (l : List α) (i : Nat) (a : α) : l.toArray.setIfInBounds i a = (l.set i a).toArray := List.setIfInBounds_toArray l i a
theorem z2qa3_ {α : Type} {x : α} {xs : List α} {a : α} : (x :: xs).set 0 a = a :: xs := List.set_cons_zero
theorem z3qa3_ {α : Type} {x : α} {xs : List α} {n : Nat} {a : α} : (x :: xs).set (n + 1) a = x :: xs.set n a := List.set_cons_succ
abbrev mk0qa3_ : Array Bool := #[false, false, false, false, false, false, false, false, false, false]
abbrev mk1qa3_ : Array Bool := #[false, false, true, false, false, false, false, false, false, false]
abbrev mk2qa3_ : Array Bool := #[true, false, true, false, false, false, false, false, false, false]
abbrev mk3qa3_ : Array Bool := #[true, true, true, false, false, false, false, false, false, false]
abbrev mk4qa3_ : Array Bool := #[true, true, true, true, false, false, false, false, false, false]
abbrev mk5qa3_ : Array Bool := #[true, true, true, true, true, false, false, false, false, false]
abbrev mk6qa3_ : Array Bool := #[true, true, true, true, true, true, false, false, false, false]
abbrev mk7qa3_ : Array Bool := #[true, true, true, true, true, true, true, false, false, false]
abbrev mk8qa3_ : Array Bool := #[true, true, true, true, true, true, true, true, false, false]
abbrev mk9qa3_ : Array Bool := #[true, true, true, true, true, true, true, true, true, false]
abbrev mk10qa3_ : Array Bool := #[true, true, true, true, true, true, true, true, true, true]
abbrev mk11qa3_ : Array Bool := #[false, false, false, false, false, false, false, false, false, false, false, false]
abbrev mk12qa3_ : Array Bool := #[true, false, false, false, false, false, false, false, false, false, false, false]
abbrev mk13qa3_ : Array Bool := #[true, true, false, false, false, false, false, false, false, false, false, false]
abbrev mk14qa3_ : Array Bool := #[true, true, true, false, false, false, false, false, false, false, false, false]
abbrev mk15qa3_ : Array Bool := #[true, true, true, true, false, false, false, false, false, false, false, false]
abbrev mk16qa3_ : Array Bool := #[true, true, true, true, true, false, false, false, false, false, false, false]
abbrev mk17qa3_ : Array Bool := #[true, true, true, true, true, true, false, false, false, false, false, false]
abbrev mk18qa3_ : Array Bool := #[true, true, true, true, true, true, true, false, false, false, false, false]
abbrev mk19qa3_ : Array Bool := #[true, true, true, true, true, true, true, true, false, false, false, false]
abbrev mk20qa3_ : Array Bool := #[true, true, true, true, true, true, true, true, true, false, false, false]
abbrev mk21qa3_ : Array Bool := #[true, true, true, true, true, true, true, true, true, true, false, false]
abbrev mk22qa3_ : Array Bool := #[true, true, true, true, true, true, true, true, true, true, true, false]
abbrev mk23qa3_ : Array Bool := #[true, true, true, true, true, true, true, true, true, true, true, true]
set_option maxRecDepth 100000 in
set_option maxHeartbeats 1500000 in
theorem add_right11 (A0 A1 AW : Option Addr) (c0 c1 cw : Nat) (l : List S99) (o ws : List S74) (a b : Int) (w : World) (hws : ¬ 60 < ws.length) (la : List S99) (oa : List S74) (fa ta : Int) (lb : List S99) (ob : List S74) (fb tb : Int) (hb1 : ¬ b = 1099511627776) (hb2 : ¬ b = a)
  (h30 : ∀ W : World, Below w.heap.size w W → Calls Try.prog 30 #[.agg #[.slice A0 l.length c0, .slice A1 o.length c1, .int .i64 a, .int .i64 b]] W fun e w' => e = .returned (.bool true) ∧ Below W.heap.size W w')
  (h77 : ∀ W : World, Below w.heap.size w W → Calls Try.prog 77 #[.agg #[.slice A0 l.length c0, .slice A1 o.length c1, .int .i64 a, .int .i64 b]] W fun e w' => e = .returned (.bool true) ∧ Below W.heap.size W w')
  (h75 : ∀ W : World, Below w.heap.size w W → Calls Try.prog 75 #[.agg #[.slice A0 l.length c0, .slice A1 o.length c1, .int .i64 a, .int .i64 b]] W fun e w' => e = .returned (.bool true) ∧ Below W.heap.size W w')
  (h73 : ∀ W : World, Below w.heap.size w W → Calls Try.prog 73 #[] W fun e w' => e = .returned (.bool true) ∧ Below W.heap.size W w')
  (h78 : ∀ W : World, Below w.heap.size w W → Calls Try.prog 78 #[.agg #[.slice A0 l.length c0, .slice A1 o.length c1, .int .i64 a, .int .i64 b], .slice AW ws.length cw] W fun e w' => ∃ v0 v1 : Value, e = .returned (.tuple #[.agg #[v0, v1, .int .i64 fa, .int .i64 ta], .int .i64 0]) ∧ Kd.S k99 99 w' W.heap.size (fun k_ => some k_ ≠ v1.ownBlock) v0 la ∧ Kd.R k74 74 w' W.heap.size (fun _ => True) v1 oa ∧ Below W.heap.size W w')
  (h80 : ∀ W : World, Below w.heap.size w W → Calls Try.prog 80 #[.agg #[.slice A0 l.length c0, .slice A1 o.length c1, .int .i64 a, .int .i64 b], .slice AW ws.length cw] W fun e w' => ∃ A7 c7 A8 c8, e = .returned (.agg #[.slice A7 la.length c7, .slice A8 oa.length c8, .int .i64 fa, .int .i64 ta]) ∧ Kd.C k99 w' A7 la.length la ∧ la.length ≤ c7 ∧ Kd.C k74 w' A8 oa.length oa ∧ oa.length ≤ c8 ∧ Below W.heap.size W w')
  (h72a : ∀ (W : World) (A5 A6 A7 A8 : Option Addr) (c5 c6 c7 c8 : Nat), Kd.C k99 W A5 la.length la → la.length ≤ c5 → Kd.C k74 W A6 oa.length oa → oa.length ≤ c6 → Kd.C k99 W A7 la.length la → la.length ≤ c7 → Kd.C k74 W A8 oa.length oa → oa.length ≤ c8 → Calls Try.prog 72 #[.agg #[.slice A5 la.length c5, .slice A6 oa.length c6, .int .i64 fa, .int .i64 ta], .agg #[.slice A7 la.length c7, .slice A8 oa.length c8, .int .i64 fa, .int .i64 ta]] W fun e w' => e = .returned (.bool true) ∧ Below W.heap.size W w')
  (h79 : ∀ W : World, Below w.heap.size w W → Calls Try.prog 79 #[.agg #[.slice A0 l.length c0, .slice A1 o.length c1, .int .i64 a, .int .i64 b]] W fun e w' => ∃ v0 v1 : Value, e = .returned (.tuple #[.agg #[v0, v1, .int .i64 fb, .int .i64 tb], .int .i64 0]) ∧ Kd.S k99 99 w' W.heap.size (fun k_ => some k_ ≠ v1.ownBlock) v0 lb ∧ Kd.R k74 74 w' W.heap.size (fun _ => True) v1 ob ∧ Below W.heap.size W w')
  (h81 : ∀ W : World, Below w.heap.size w W → Calls Try.prog 81 #[.agg #[.slice A0 l.length c0, .slice A1 o.length c1, .int .i64 a, .int .i64 b]] W fun e w' => ∃ A7 c7 A8 c8, e = .returned (.agg #[.slice A7 lb.length c7, .slice A8 ob.length c8, .int .i64 fb, .int .i64 tb]) ∧ Kd.C k99 w' A7 lb.length lb ∧ lb.length ≤ c7 ∧ Kd.C k74 w' A8 ob.length ob ∧ ob.length ≤ c8 ∧ Below W.heap.size W w')
  (h72b : ∀ (W : World) (A5 A6 A7 A8 : Option Addr) (c5 c6 c7 c8 : Nat), Kd.C k99 W A5 lb.length lb → lb.length ≤ c5 → Kd.C k74 W A6 ob.length ob → ob.length ≤ c6 → Kd.C k99 W A7 lb.length lb → lb.length ≤ c7 → Kd.C k74 W A8 ob.length ob → ob.length ≤ c8 → Calls Try.prog 72 #[.agg #[.slice A5 lb.length c5, .slice A6 ob.length c6, .int .i64 fb, .int .i64 tb], .agg #[.slice A7 lb.length c7, .slice A8 ob.length c8, .int .i64 fb, .int .i64 tb]] W fun e w' => e = .returned (.bool true) ∧ Below W.heap.size W w') :
  Calls Try.prog 19 #[.agg #[.slice A0 l.length c0, .slice A1 o.length c1, .int .i64 a, .int .i64 b], .slice AW ws.length cw] w fun e w' => e = .returned (.bool true) ∧ Below w.heap.size w w' := by
 have hu27 := Try.underlying27
 have H30 := A0qa3_ h30
 have H77 := A0qa3_ h77
 have H75 := A0qa3_ h75
 have H73 := A0qa3_ h73
 have H78 := A0qa3_ h78
 have H80 := A0qa3_ h80
 have H72a := A0qa3_ h72a
 have H79 := A0qa3_ h79
 have H81 := A0qa3_ h81
 have H72b := A0qa3_ h72b
 clear h30 h77 h75 h73 h78 h80 h72a h79 h81 h72b
 have t0 : decide ((60 : Int) < (ws.length : Int)) = false := decide_eq_false (by omega)
 have t1 : (b == 1099511627776) = false := by simpa using hb1
 have t2 : (b == a) = false := by simpa using hb2
 clear hb1 hb2
 clear hws
 go_enter Try.func19, Try.ntmps19
 go_wp2_with (first
  | ((with_reducible refine gate_dst (N:=2) rfl ?_); refine box_event ?hg (N:=2) ?hd (cs := #[.slice A0 l.length c0, .slice A1 o.length c1, .int .i64 a, .int .i64 b]) (t := 27) ?hr ?_; (case hd => rfl); (case hg => rfl); (case hr => first | (go_simp; done) | (go_simp; rfl)); intro g1 hg w1 hbox hb; have BK1 := A0qa3_ hbox; have HB1 := A0qa3_ hb; clear hb hbox hg; have x0 : w1.cell? ⟨g1, 0, none⟩ = some (.slice A0 l.length c0) := (blk_cell BK1.out 0).trans rfl; have x1 : w1.cell? ⟨g1, 1, none⟩ = some (.slice A1 o.length c1) := (blk_cell BK1.out 1).trans rfl; have x2 : w1.cell? ⟨g1, 2, none⟩ = some (.int .i64 a) := (blk_cell BK1.out 2).trans rfl; have x3 : w1.cell? ⟨g1, 3, none⟩ = some (.int .i64 b) := (blk_cell BK1.out 3).trans rfl)
  | (go_at_call 30; refine (H30.out _ HB1.out).mono ?_; rintro e w2 ⟨rfl, hb⟩; have BK2 := A0qa3_ (blk_below BK1.out hb); have HB2 := A0qa3_ (below_step HB1.out hb); clear hb x0 x1 x2 x3; have x0 : w2.cell? ⟨g1, 0, none⟩ = some (.slice A0 l.length c0) := (blk_cell BK2.out 0).trans rfl; have x1 : w2.cell? ⟨g1, 1, none⟩ = some (.slice A1 o.length c1) := (blk_cell BK2.out 1).trans rfl; have x2 : w2.cell? ⟨g1, 2, none⟩ = some (.int .i64 a) := (blk_cell BK2.out 2).trans rfl; have x3 : w2.cell? ⟨g1, 3, none⟩ = some (.int .i64 b) := (blk_cell BK2.out 3).trans rfl)
  | (go_at_call 77; refine (H77.out _ HB2.out).mono ?_; rintro e w3 ⟨rfl, hb⟩; have BK3 := A0qa3_ (blk_below BK2.out hb); have HB3 := A0qa3_ (below_step HB2.out hb); clear hb x0 x1 x2 x3; have x0 : w3.cell? ⟨g1, 0, none⟩ = some (.slice A0 l.length c0) := (blk_cell BK3.out 0).trans rfl; have x1 : w3.cell? ⟨g1, 1, none⟩ = some (.slice A1 o.length c1) := (blk_cell BK3.out 1).trans rfl; have x2 : w3.cell? ⟨g1, 2, none⟩ = some (.int .i64 a) := (blk_cell BK3.out 2).trans rfl; have x3 : w3.cell? ⟨g1, 3, none⟩ = some (.int .i64 b) := (blk_cell BK3.out 3).trans rfl)
  | (go_at_call 78; refine (H78.out _ HB3.out).mono ?_; rintro e w4 ⟨v0, v1, rfl, hs, ho, hb⟩; obtain ⟨A6, c6, rfl⟩ := Kd.R_slice ho; obtain ⟨A5, c5, rfl⟩ := Kd.R_slice (Kd.S_R hs); have hsr := Kd.R_reads' (Kd.S_R hs); have hor := Kd.R_reads' ho; have LSA := A0qa3_ hsr.2.1; have SA4 := A0qa3_ hsr.2.2; have LOA := A0qa3_ hor.2.1; have OA4 := A0qa3_ hor.2.2; clear hsr hor hs ho; have BK4 := A0qa3_ (blk_below BK3.out hb); have HB4 := A0qa3_ (below_step HB3.out hb); clear hb x0 x1 x2 x3; have x0 : w4.cell? ⟨g1, 0, none⟩ = some (.slice A0 l.length c0) := (blk_cell BK4.out 0).trans rfl; have x1 : w4.cell? ⟨g1, 1, none⟩ = some (.slice A1 o.length c1) := (blk_cell BK4.out 1).trans rfl; have x2 : w4.cell? ⟨g1, 2, none⟩ = some (.int .i64 a) := (blk_cell BK4.out 2).trans rfl; have x3 : w4.cell? ⟨g1, 3, none⟩ = some (.int .i64 b) := (blk_cell BK4.out 3).trans rfl)
  | ((with_reducible refine gate_dst (N:=6) rfl ?_); refine box_event ?hg (N:=6) ?hd (cs := #[.slice none 0 0, .slice none 0 0, .int .i64 0, .int .i64 0]) (t := 27) ?hr ?_; (case hd => rfl); (case hg => rfl); (case hr => first | (go_simp; done) | (go_simp; rfl)); intro g2 hg w5 hbox hb; have GK5 := A0qa3_ hbox; have BK5 := A0qa3_ (blk_below BK4.out hb); have HX5 := A0qa3_ hb; have HB5 := A0qa3_ (below_step HB4.out hb); have GE5 := A0qa3_ (show w.heap.size ≤ g2 by rw [hg]; exact HB4.out.size); have GP5 := A0qa3_ (show w4.heap.size ≤ g2 by rw [hg]; exact Nat.le_refl _); have NB5 := A0qa3_ (show g1 ≠ g2 by rw [hg]; exact (Nat.ne_of_lt (blk_lt BK4.out))); clear hb hbox hg x0 x1 x2 x3; have nb5a := NB5.out; have nb5b := NB5.out.symm; have x0 : w5.cell? ⟨g1, 0, none⟩ = some (.slice A0 l.length c0) := (blk_cell BK5.out 0).trans rfl; have x1 : w5.cell? ⟨g1, 1, none⟩ = some (.slice A1 o.length c1) := (blk_cell BK5.out 1).trans rfl; have x2 : w5.cell? ⟨g1, 2, none⟩ = some (.int .i64 a) := (blk_cell BK5.out 2).trans rfl; have x3 : w5.cell? ⟨g1, 3, none⟩ = some (.int .i64 b) := (blk_cell BK5.out 3).trans rfl; have y0 : w5.cell? ⟨g2, 0, none⟩ = some (.slice none 0 0) := (blk_cell GK5.out 0).trans rfl; have y1 : w5.cell? ⟨g2, 1, none⟩ = some (.slice none 0 0) := (blk_cell GK5.out 1).trans rfl; have y2 : w5.cell? ⟨g2, 2, none⟩ = some (.int .i64 0) := (blk_cell GK5.out 2).trans rfl; have y3 : w5.cell? ⟨g2, 3, none⟩ = some (.int .i64 0) := (blk_cell GK5.out 3).trans rfl; have z0 := blk_frozen GK5.out 0; have z1 := blk_frozen GK5.out 1; have z2 := blk_frozen GK5.out 2; have z3 := blk_frozen GK5.out 3)
  | (go_at_call 79; refine (H79.out _ (below_set (below_set (below_set (below_set HB5.out GE5.out) GE5.out) GE5.out) GE5.out)).mono ?_; rintro e w6 ⟨v2, v3, rfl, hs, ho, hb⟩; obtain ⟨B6, d6, rfl⟩ := Kd.R_slice ho; obtain ⟨B5, d5, rfl⟩ := Kd.R_slice (Kd.S_R hs); have hsr := Kd.R_reads' (Kd.S_R hs); have hor := Kd.R_reads' ho; have LSB := A0qa3_ hsr.2.1; have SB6 := A0qa3_ hsr.2.2; have LOB := A0qa3_ hor.2.1; have OB6 := A0qa3_ hor.2.2; clear hsr hor hs ho; have BK6 := A0qa3_ (blk_below (blk_below BK4.out (below_set (below_set (below_set (below_set HX5.out GP5.out) GP5.out) GP5.out) GP5.out)) hb); have GK6 := A0qa3_ (blk_below (blk_put (cs := #[.slice A5 la.length c5, .slice A6 oa.length c6, .int .i64 fa, .int .i64 0]) (cs' := #[.slice A5 la.length c5, .slice A6 oa.length c6, .int .i64 fa, .int .i64 ta]) (blk_put (cs := #[.slice A5 la.length c5, .slice A6 oa.length c6, .int .i64 0, .int .i64 0]) (cs' := #[.slice A5 la.length c5, .slice A6 oa.length c6, .int .i64 fa, .int .i64 0]) (blk_put (cs := #[.slice A5 la.length c5, .slice none 0 0, .int .i64 0, .int .i64 0]) (cs' := #[.slice A5 la.length c5, .slice A6 oa.length c6, .int .i64 0, .int .i64 0]) (blk_put (cs := #[.slice none 0 0, .slice none 0 0, .int .i64 0, .int .i64 0]) (cs' := #[.slice A5 la.length c5, .slice none 0 0, .int .i64 0, .int .i64 0]) GK5.out 0 (.slice A5 la.length c5) rfl) 1 (.slice A6 oa.length c6) rfl) 2 (.int .i64 fa) rfl) 3 (.int .i64 ta) rfl) hb); have HB6 := A0qa3_ (below_step (below_set (below_set (below_set (below_set HB5.out GE5.out) GE5.out) GE5.out) GE5.out) hb); have SA6 := A0qa3_ (Kd.C_below (Kd.C_below SA4.out (below_set (below_set (below_set (below_set HX5.out GP5.out) GP5.out) GP5.out) GP5.out)) hb); have OA6 := A0qa3_ (Kd.C_below (Kd.C_below OA4.out (below_set (below_set (below_set (below_set HX5.out GP5.out) GP5.out) GP5.out) GP5.out)) hb); clear hb x0 x1 x2 x3 y0 y1 y2 y3 z0 z1 z2 z3 nb5a nb5b; have x0 : w6.cell? ⟨g1, 0, none⟩ = some (.slice A0 l.length c0) := (blk_cell BK6.out 0).trans rfl; have x1 : w6.cell? ⟨g1, 1, none⟩ = some (.slice A1 o.length c1) := (blk_cell BK6.out 1).trans rfl; have x2 : w6.cell? ⟨g1, 2, none⟩ = some (.int .i64 a) := (blk_cell BK6.out 2).trans rfl; have x3 : w6.cell? ⟨g1, 3, none⟩ = some (.int .i64 b) := (blk_cell BK6.out 3).trans rfl)
  | ((with_reducible refine gate_dst (N:=8) rfl ?_); refine box_event ?hg (N:=8) ?hd (cs := #[.slice none 0 0, .slice none 0 0, .int .i64 0, .int .i64 0]) (t := 27) ?hr ?_; (case hd => rfl); (case hg => rfl); (case hr => first | (go_simp; done) | (go_simp; rfl)); intro g3 hg w7 hbox hb; have HK7 := A0qa3_ hbox; have BK7 := A0qa3_ (blk_below BK6.out hb); have HX7 := A0qa3_ hb; have HB7 := A0qa3_ (below_step HB6.out hb); have GE7 := A0qa3_ (show w.heap.size ≤ g3 by rw [hg]; exact HB6.out.size); have GP7 := A0qa3_ (show w6.heap.size ≤ g3 by rw [hg]; exact Nat.le_refl _); have NB7 := A0qa3_ (show g1 ≠ g3 by rw [hg]; exact (Nat.ne_of_lt (blk_lt BK6.out))); clear hb hbox hg x0 x1 x2 x3; have nb7a := NB7.out; have nb7b := NB7.out.symm; have x0 : w7.cell? ⟨g1, 0, none⟩ = some (.slice A0 l.length c0) := (blk_cell BK7.out 0).trans rfl; have x1 : w7.cell? ⟨g1, 1, none⟩ = some (.slice A1 o.length c1) := (blk_cell BK7.out 1).trans rfl; have x2 : w7.cell? ⟨g1, 2, none⟩ = some (.int .i64 a) := (blk_cell BK7.out 2).trans rfl; have x3 : w7.cell? ⟨g1, 3, none⟩ = some (.int .i64 b) := (blk_cell BK7.out 3).trans rfl; have y0 : w7.cell? ⟨g3, 0, none⟩ = some (.slice none 0 0) := (blk_cell HK7.out 0).trans rfl; have y1 : w7.cell? ⟨g3, 1, none⟩ = some (.slice none 0 0) := (blk_cell HK7.out 1).trans rfl; have y2 : w7.cell? ⟨g3, 2, none⟩ = some (.int .i64 0) := (blk_cell HK7.out 2).trans rfl; have y3 : w7.cell? ⟨g3, 3, none⟩ = some (.int .i64 0) := (blk_cell HK7.out 3).trans rfl; have z0 := blk_frozen HK7.out 0; have z1 := blk_frozen HK7.out 1; have z2 := blk_frozen HK7.out 2; have z3 := blk_frozen HK7.out 3)
  | (go_at_call 75; refine (H75.out _ (below_set (below_set (below_set (below_set HB7.out GE7.out) GE7.out) GE7.out) GE7.out)).mono ?_; rintro e w8 ⟨rfl, hb⟩; have BK8 := A0qa3_ (blk_below (blk_below BK6.out (below_set (below_set (below_set (below_set HX7.out GP7.out) GP7.out) GP7.out) GP7.out)) hb); have HK8 := A0qa3_ (blk_below (blk_put (cs := #[.slice B5 lb.length d5, .slice B6 ob.length d6, .int .i64 fb, .int .i64 0]) (cs' := #[.slice B5 lb.length d5, .slice B6 ob.length d6, .int .i64 fb, .int .i64 tb]) (blk_put (cs := #[.slice B5 lb.length d5, .slice B6 ob.length d6, .int .i64 0, .int .i64 0]) (cs' := #[.slice B5 lb.length d5, .slice B6 ob.length d6, .int .i64 fb, .int .i64 0]) (blk_put (cs := #[.slice B5 lb.length d5, .slice none 0 0, .int .i64 0, .int .i64 0]) (cs' := #[.slice B5 lb.length d5, .slice B6 ob.length d6, .int .i64 0, .int .i64 0]) (blk_put (cs := #[.slice none 0 0, .slice none 0 0, .int .i64 0, .int .i64 0]) (cs' := #[.slice B5 lb.length d5, .slice none 0 0, .int .i64 0, .int .i64 0]) HK7.out 0 (.slice B5 lb.length d5) rfl) 1 (.slice B6 ob.length d6) rfl) 2 (.int .i64 fb) rfl) 3 (.int .i64 tb) rfl) hb); have HB8 := A0qa3_ (below_step (below_set (below_set (below_set (below_set HB7.out GE7.out) GE7.out) GE7.out) GE7.out) hb); have GK8 := A0qa3_ (blk_below (blk_below GK6.out (below_set (below_set (below_set (below_set HX7.out GP7.out) GP7.out) GP7.out) GP7.out)) hb); have SA8 := A0qa3_ (Kd.C_below (Kd.C_below SA6.out (below_set (below_set (below_set (below_set HX7.out GP7.out) GP7.out) GP7.out) GP7.out)) hb); have OA8 := A0qa3_ (Kd.C_below (Kd.C_below OA6.out (below_set (below_set (below_set (below_set HX7.out GP7.out) GP7.out) GP7.out) GP7.out)) hb); have SB8 := A0qa3_ (Kd.C_below (Kd.C_below SB6.out (below_set (below_set (below_set (below_set HX7.out GP7.out) GP7.out) GP7.out) GP7.out)) hb); have OB8 := A0qa3_ (Kd.C_below (Kd.C_below OB6.out (below_set (below_set (below_set (below_set HX7.out GP7.out) GP7.out) GP7.out) GP7.out)) hb); clear hb x0 x1 x2 x3 y0 y1 y2 y3 z0 z1 z2 z3 nb7a nb7b; have x0 : w8.cell? ⟨g1, 0, none⟩ = some (.slice A0 l.length c0) := (blk_cell BK8.out 0).trans rfl; have x1 : w8.cell? ⟨g1, 1, none⟩ = some (.slice A1 o.length c1) := (blk_cell BK8.out 1).trans rfl; have x2 : w8.cell? ⟨g1, 2, none⟩ = some (.int .i64 a) := (blk_cell BK8.out 2).trans rfl; have x3 : w8.cell? ⟨g1, 3, none⟩ = some (.int .i64 b) := (blk_cell BK8.out 3).trans rfl)
  | ((with_reducible refine gate_dst (N:=10) rfl ?_); refine box_event ?hg (N:=10) ?hd (cs := #[.slice none 0 0, .slice none 0 0, .int .i64 0, .int .i64 0]) (t := 27) ?hr ?_; (case hd => rfl); (case hg => rfl); (case hr => first | (go_simp; done) | (go_simp; rfl)); intro g4 hg w9 hbox hb; have NK9 := A0qa3_ hbox; have BK9 := A0qa3_ (blk_below BK8.out hb); have HX9 := A0qa3_ hb; have HB9 := A0qa3_ (below_step HB8.out hb); have GE9 := A0qa3_ (show w.heap.size ≤ g4 by rw [hg]; exact HB8.out.size); have GP9 := A0qa3_ (show w8.heap.size ≤ g4 by rw [hg]; exact Nat.le_refl _); have NB9 := A0qa3_ (show g1 ≠ g4 by rw [hg]; exact (Nat.ne_of_lt (blk_lt BK8.out))); clear hb hbox hg x0 x1 x2 x3; have nb9a := NB9.out; have nb9b := NB9.out.symm; have x0 : w9.cell? ⟨g1, 0, none⟩ = some (.slice A0 l.length c0) := (blk_cell BK9.out 0).trans rfl; have x1 : w9.cell? ⟨g1, 1, none⟩ = some (.slice A1 o.length c1) := (blk_cell BK9.out 1).trans rfl; have x2 : w9.cell? ⟨g1, 2, none⟩ = some (.int .i64 a) := (blk_cell BK9.out 2).trans rfl; have x3 : w9.cell? ⟨g1, 3, none⟩ = some (.int .i64 b) := (blk_cell BK9.out 3).trans rfl; have y0 : w9.cell? ⟨g4, 0, none⟩ = some (.slice none 0 0) := (blk_cell NK9.out 0).trans rfl; have y1 : w9.cell? ⟨g4, 1, none⟩ = some (.slice none 0 0) := (blk_cell NK9.out 1).trans rfl; have y2 : w9.cell? ⟨g4, 2, none⟩ = some (.int .i64 0) := (blk_cell NK9.out 2).trans rfl; have y3 : w9.cell? ⟨g4, 3, none⟩ = some (.int .i64 0) := (blk_cell NK9.out 3).trans rfl; have z0 := blk_frozen NK9.out 0; have z1 := blk_frozen NK9.out 1; have z2 := blk_frozen NK9.out 2; have z3 := blk_frozen NK9.out 3; have GK9 := A0qa3_ (blk_below GK8.out HX9.out); have HK9 := A0qa3_ (blk_below HK8.out HX9.out); have NG2 := A0qa3_ (show g2 ≠ g4 by have := blk_lt GK8.out; have := GP9.out; omega); have NG3 := A0qa3_ (show g3 ≠ g4 by have := blk_lt HK8.out; have := GP9.out; omega); have ng2a := NG2.out; have ng2b := NG2.out.symm; have ng3a := NG3.out; have ng3b := NG3.out.symm; have p0 : w9.cell? ⟨g2, 0, none⟩ = some (.slice A5 la.length c5) := (blk_cell GK9.out 0).trans rfl; have p1 : w9.cell? ⟨g2, 1, none⟩ = some (.slice A6 oa.length c6) := (blk_cell GK9.out 1).trans rfl; have p2 : w9.cell? ⟨g2, 2, none⟩ = some (.int .i64 fa) := (blk_cell GK9.out 2).trans rfl; have p3 : w9.cell? ⟨g2, 3, none⟩ = some (.int .i64 ta) := (blk_cell GK9.out 3).trans rfl; have q0 : w9.cell? ⟨g3, 0, none⟩ = some (.slice B5 lb.length d5) := (blk_cell HK9.out 0).trans rfl; have q1 : w9.cell? ⟨g3, 1, none⟩ = some (.slice B6 ob.length d6) := (blk_cell HK9.out 1).trans rfl; have q2 : w9.cell? ⟨g3, 2, none⟩ = some (.int .i64 fb) := (blk_cell HK9.out 2).trans rfl; have q3 : w9.cell? ⟨g3, 3, none⟩ = some (.int .i64 tb) := (blk_cell HK9.out 3).trans rfl; have SA9 := A0qa3_ (Kd.C_below SA8.out HX9.out); have OA9 := A0qa3_ (Kd.C_below OA8.out HX9.out); have SB9 := A0qa3_ (Kd.C_below SB8.out HX9.out); have OB9 := A0qa3_ (Kd.C_below OB8.out HX9.out)))
 have hb0 : Below ((((w9.setCell ⟨g4, 0, none⟩ (.slice none 0 0)).setCell ⟨g4, 1, none⟩ (.slice none 0 0)).setCell ⟨g4, 2, none⟩ (.int .i64 0)).setCell ⟨g4, 3, none⟩ (.int .i64 0)).heap.size ((((w9.setCell ⟨g4, 0, none⟩ (.slice none 0 0)).setCell ⟨g4, 1, none⟩ (.slice none 0 0)).setCell ⟨g4, 2, none⟩ (.int .i64 0)).setCell ⟨g4, 3, none⟩ (.int .i64 0)) ((((w9.setCell ⟨g4, 0, none⟩ (.slice none 0 0)).setCell ⟨g4, 1, none⟩ (.slice none 0 0)).setCell ⟨g4, 2, none⟩ (.int .i64 0)).setCell ⟨g4, 3, none⟩ (.int .i64 0)) := Below.refl _ _
 have BKs := A0qa3_ (blk_below (blk_below BK8.out (below_set (below_set (below_set (below_set HX9.out GP9.out) GP9.out) GP9.out) GP9.out)) hb0)
 have GKs := A0qa3_ (blk_below (blk_below GK8.out (below_set (below_set (below_set (below_set HX9.out GP9.out) GP9.out) GP9.out) GP9.out)) hb0)
 have HKs := A0qa3_ (blk_below (blk_below HK8.out (below_set (below_set (below_set (below_set HX9.out GP9.out) GP9.out) GP9.out) GP9.out)) hb0)
 have NKs := A0qa3_ (blk_below (blk_put (cs := #[.slice none 0 0, .slice none 0 0, .int .i64 0, .int .i64 0]) (cs' := #[.slice none 0 0, .slice none 0 0, .int .i64 0, .int .i64 0]) (blk_put (cs := #[.slice none 0 0, .slice none 0 0, .int .i64 0, .int .i64 0]) (cs' := #[.slice none 0 0, .slice none 0 0, .int .i64 0, .int .i64 0]) (blk_put (cs := #[.slice none 0 0, .slice none 0 0, .int .i64 0, .int .i64 0]) (cs' := #[.slice none 0 0, .slice none 0 0, .int .i64 0, .int .i64 0]) (blk_put (cs := #[.slice none 0 0, .slice none 0 0, .int .i64 0, .int .i64 0]) (cs' := #[.slice none 0 0, .slice none 0 0, .int .i64 0, .int .i64 0]) NK9.out 0 (.slice none 0 0) rfl) 1 (.slice none 0 0) rfl) 2 (.int .i64 0) rfl) 3 (.int .i64 0) rfl) hb0)
 have HBs := A0qa3_ (below_step (below_set (below_set (below_set (below_set HB9.out GE9.out) GE9.out) GE9.out) GE9.out) hb0)
 have SAs := A0qa3_ (Kd.C_below (Kd.C_below SA8.out (below_set (below_set (below_set (below_set HX9.out GP9.out) GP9.out) GP9.out) GP9.out)) hb0)
 have OAs := A0qa3_ (Kd.C_below (Kd.C_below OA8.out (below_set (below_set (below_set (below_set HX9.out GP9.out) GP9.out) GP9.out) GP9.out)) hb0)
 have SBs := A0qa3_ (Kd.C_below (Kd.C_below SB8.out (below_set (below_set (below_set (below_set HX9.out GP9.out) GP9.out) GP9.out) GP9.out)) hb0)
 have OBs := A0qa3_ (Kd.C_below (Kd.C_below OB8.out (below_set (below_set (below_set (below_set HX9.out GP9.out) GP9.out) GP9.out) GP9.out)) hb0)
 clear x0 x1 x2 x3 y0 y1 y2 y3 z0 z1 z2 z3 p0 p1 p2 p3 q0 q1 q2 q3 hb0
 have BK_p0 := A0qa3_ (blk_drew BKs.out)
 have GK_p0 := A0qa3_ (blk_drew GKs.out)
 have HK_p0 := A0qa3_ (blk_drew HKs.out)
 have NK_p0 := A0qa3_ (blk_drew NKs.out)
 have HB_p0 := A0qa3_ (below_drew1 HBs.out)
 have SA_p0 := A0qa3_ (Kd.C_drew SAs.out)
 have OA_p0 := A0qa3_ (Kd.C_drew OAs.out)
 have SB_p0 := A0qa3_ (Kd.C_drew SBs.out)
 have OB_p0 := A0qa3_ (Kd.C_drew OBs.out)
 clear BKs GKs HKs NKs HBs SAs OAs SBs OBs
 refine start_ (n := 10) (S := fun w' => w'.cell? ⟨g1, 0, none⟩ = some (.slice A0 l.length c0) ∧ w'.cell? ⟨g1, 1, none⟩ = some (.slice A1 o.length c1) ∧ w'.cell? ⟨g1, 2, none⟩ = some (.int .i64 a) ∧ w'.cell? ⟨g1, 3, none⟩ = some (.int .i64 b) ∧ w'.cell? ⟨g2, 0, none⟩ = some (.slice A5 la.length c5) ∧ w'.cell? ⟨g2, 1, none⟩ = some (.slice A6 oa.length c6) ∧ w'.cell? ⟨g2, 2, none⟩ = some (.int .i64 fa) ∧ w'.cell? ⟨g2, 3, none⟩ = some (.int .i64 ta)) (ds := []) mk0qa3_ (by kernel_rfl) rfl rfl ⟨(blk_cell BK_p0.out 0).trans rfl, (blk_cell BK_p0.out 1).trans rfl, (blk_cell BK_p0.out 2).trans rfl, (blk_cell BK_p0.out 3).trans rfl, (blk_cell GK_p0.out 0).trans rfl, (blk_cell GK_p0.out 1).trans rfl, (blk_cell GK_p0.out 2).trans rfl, (blk_cell GK_p0.out 3).trans rfl⟩ (fun hHeld => ?_); refine with_tabW add_right1114.tab add_right1114.bits (fun HT_ HW_ => ?_)
 generalize (World.drew _) = w_p0 at BK_p0 GK_p0 HK_p0 NK_p0 HB_p0 SA_p0 OA_p0 SB_p0 OB_p0 hHeld ⊢
 refine pure_ (i:=2) (N:=some 72) (v:=?_) (a':=?_) mk1qa3_ rfl rfl (any_of HT_.out (by kernel_rfl)) (fun _ _ _ h => h) (Or.inl ⟨by rfl, ?_⟩) ?_ ?_
 rotate_left
 ·intro w'
  go_simp
  with_reducible rfl
 rotate_left
 ·simp only [Act.put, z1qa3_, z2qa3_, z3qa3_, i64_w, i32_w]
  rfl
 refine take_ (i:=0) (N:=some 70) (v:=?_) (a':=?_) mk2qa3_ rfl rfl (take_ofW HT_.out HW_.out (by kernel_rfl)) (fun _ _ _ h => h) (Or.inl ⟨by rfl, ?_⟩) hHeld ?_ ?_
 rotate_left
 ·rintro w' ⟨s0, s1, s2, s3, s4, s5, s6, s7⟩
  go_simp
  with_reducible rfl
 rotate_left
 ·simp only [Act.put, z1qa3_, z2qa3_, z3qa3_, i64_w, i32_w]
  rfl
 refine take_ (i:=1) (N:=some 71) (v:=?_) (a':=?_) mk3qa3_ rfl rfl (take_ofW HT_.out HW_.out (by kernel_rfl)) (fun _ _ _ h => h) (Or.inl ⟨by rfl, ?_⟩) hHeld ?_ ?_
 rotate_left
 ·rintro w' ⟨s0, s1, s2, s3, s4, s5, s6, s7⟩
  go_simp
  with_reducible rfl
 rotate_left
 ·simp only [Act.put, z1qa3_, z2qa3_, z3qa3_, i64_w, i32_w]
  rfl
 refine one_ (i:=3) (N:=some 73) mk4qa3_ rfl rfl (one_of HT_.out (by kernel_rfl)) (by decide) (fun K hK => ?_)
 refine call_ 80 #[.agg #[.slice A0 l.length c0, .slice A1 o.length c1, .int .i64 a, .int .i64 b], .slice AW ws.length cw] (by rfl) rfl (by first | (go_simp; done) | (go_simp; rfl)) ?_
 refine (H80.out _ HB_p0.out).mono ?_
 rintro e w_p1 ⟨A7, c7, A8, c8, rfl, hS7, hl7, hO8, hl8, hb⟩
 refine ⟨_, rfl, ?_⟩
 have BK_p1 := A0qa3_ (blk_below BK_p0.out hb)
 have GK_p1 := A0qa3_ (blk_below GK_p0.out hb)
 have HK_p1 := A0qa3_ (blk_below HK_p0.out hb)
 have NK_p1 := A0qa3_ (blk_below NK_p0.out hb)
 have HB_p1 := A0qa3_ (below_step HB_p0.out hb)
 have SA_p1 := A0qa3_ (Kd.C_below SA_p0.out hb)
 have OA_p1 := A0qa3_ (Kd.C_below OA_p0.out hb)
 have SB_p1 := A0qa3_ (Kd.C_below SB_p0.out hb)
 have OB_p1 := A0qa3_ (Kd.C_below OB_p0.out hb)
 have S7_p1 := A0qa3_ hS7
 have O8_p1 := A0qa3_ hO8
 have L7 := A0qa3_ hl7
 have L8 := A0qa3_ hl8
 clear hS7 hl7 hO8 hl8
 refine hK.out _ _ ⟨(blk_cell BK_p1.out 0).trans rfl, (blk_cell BK_p1.out 1).trans rfl, (blk_cell BK_p1.out 2).trans rfl, (blk_cell BK_p1.out 3).trans rfl, (blk_cell GK_p1.out 0).trans rfl, (blk_cell GK_p1.out 1).trans rfl, (blk_cell GK_p1.out 2).trans rfl, (blk_cell GK_p1.out 3).trans rfl⟩ (fun hHeld => ?_)
 clear hK K hb BK_p0 GK_p0 HK_p0 NK_p0 HB_p0 SA_p0 OA_p0 SB_p0 OB_p0
 refine norm_ (a' := ?_) ?_ ?_
 rotate_left
 ·show Act.put _ (some 73) _ = _
  simp only [Act.put, z1qa3_, z2qa3_, z3qa3_, i64_w, i32_w]
  rfl
 refine one_ (i:=4) (N:=some 74) mk5qa3_ rfl rfl (one_of HT_.out (by kernel_rfl)) (by decide) (fun K hK => ?_)
 refine call_ 72 #[.agg #[.slice A5 la.length c5, .slice A6 oa.length c6, .int .i64 fa, .int .i64 ta], .agg #[.slice A7 la.length c7, .slice A8 oa.length c8, .int .i64 fa, .int .i64 ta]] (by rfl) rfl (by first | (go_simp; done) | (go_simp; rfl)) ?_
 refine (H72a.out _ A5 A6 A7 A8 c5 c6 c7 c8 SA_p1.out LSA.out OA_p1.out LOA.out S7_p1.out L7.out O8_p1.out L8.out).mono ?_
 rintro e w_p2 ⟨rfl, hb⟩
 refine ⟨_, rfl, ?_⟩
 have BK_p2 := A0qa3_ (blk_below BK_p1.out hb)
 have GK_p2 := A0qa3_ (blk_below GK_p1.out hb)
 have HK_p2 := A0qa3_ (blk_below HK_p1.out hb)
 have NK_p2 := A0qa3_ (blk_below NK_p1.out hb)
 have HB_p2 := A0qa3_ (below_step HB_p1.out hb)
 have SA_p2 := A0qa3_ (Kd.C_below SA_p1.out hb)
 have OA_p2 := A0qa3_ (Kd.C_below OA_p1.out hb)
 have SB_p2 := A0qa3_ (Kd.C_below SB_p1.out hb)
 have OB_p2 := A0qa3_ (Kd.C_below OB_p1.out hb)
 have S7_p2 := A0qa3_ (Kd.C_below S7_p1.out hb)
 have O8_p2 := A0qa3_ (Kd.C_below O8_p1.out hb)
 refine hK.out _ _ ⟨(blk_cell BK_p2.out 0).trans rfl, (blk_cell BK_p2.out 1).trans rfl, (blk_cell BK_p2.out 2).trans rfl, (blk_cell BK_p2.out 3).trans rfl, (blk_cell GK_p2.out 0).trans rfl, (blk_cell GK_p2.out 1).trans rfl, (blk_cell GK_p2.out 2).trans rfl, (blk_cell GK_p2.out 3).trans rfl⟩ (fun hHeld => ?_)
 clear hK K hb BK_p1 GK_p1 HK_p1 NK_p1 HB_p1 SA_p1 OA_p1 SB_p1 OB_p1 S7_p1 O8_p1
 refine norm_ (a' := ?_) ?_ ?_
 rotate_left
 ·show Act.put _ (some 74) _ = _
  simp only [Act.put, z1qa3_, z2qa3_, z3qa3_, i64_w, i32_w]
  rfl
 refine pure_ (i:=5) (N:=some 75) (v:=?_) (a':=?_) mk6qa3_ rfl rfl (any_of HT_.out (by kernel_rfl)) (fun _ _ _ h => h) (Or.inl ⟨by rfl, ?_⟩) ?_ ?_
 rotate_left
 ·intro w'
  go_simp
  with_reducible rfl
 rotate_left
 ·simp only [Act.put, z1qa3_, z2qa3_, z3qa3_, i64_w, i32_w]
  rfl
 refine pure_ (i:=6) (N:=some 76) (v:=?_) (a':=?_) mk7qa3_ rfl rfl (any_of HT_.out (by kernel_rfl)) (fun _ _ _ h => h) (Or.inl ⟨by rfl, ?_⟩) ?_ ?_
 rotate_left
 ·intro w'
  go_simp
  with_reducible rfl
 rotate_left
 ·simp only [Act.put, z1qa3_, z2qa3_, z3qa3_, i64_w, i32_w]
  rfl
 refine pure_ (i:=7) (N:=some 77) (v:=?_) (a':=?_) mk8qa3_ rfl rfl (any_of HT_.out (by kernel_rfl)) (fun _ _ _ h => h) (Or.inl ⟨by rfl, ?_⟩) ?_ ?_
 rotate_left
 ·intro w'
  go_simp
  with_reducible rfl
 rotate_left
 ·simp only [Act.put, z1qa3_, z2qa3_, z3qa3_, i64_w, i32_w]
  rfl
 refine pure_ (i:=8) (N:=some 78) (v:=?_) (a':=?_) mk9qa3_ rfl rfl (any_of HT_.out (by kernel_rfl)) (fun _ _ _ h => h) (Or.inl ⟨by rfl, ?_⟩) ?_ ?_
 rotate_left
 ·intro w'
  go_simp
  with_reducible rfl
 rotate_left
 ·simp only [Act.put, z1qa3_, z2qa3_, z3qa3_, i64_w, i32_w]
  rfl
 refine pure_ (i:=9) (N:=some 79) (v:=?_) (a':=?_) mk10qa3_ rfl rfl (any_of HT_.out (by kernel_rfl)) (fun _ _ _ h => h) (Or.inl ⟨by rfl, ?_⟩) ?_ ?_
 rotate_left
 ·intro w'
  go_simp
  with_reducible rfl
 rotate_left
 ·simp only [Act.put, z1qa3_, z2qa3_, z3qa3_, i64_w, i32_w]
  rfl
 refine done_ (done_of HT_.out (by kernel_rfl)) ?_
 clear HT_ HW_ hHeld
 have x0 : w_p2.cell? ⟨g1, 0, none⟩ = some (.slice A0 l.length c0) := (blk_cell BK_p2.out 0).trans rfl
 have x1 : w_p2.cell? ⟨g1, 1, none⟩ = some (.slice A1 o.length c1) := (blk_cell BK_p2.out 1).trans rfl
 have x2 : w_p2.cell? ⟨g1, 2, none⟩ = some (.int .i64 a) := (blk_cell BK_p2.out 2).trans rfl
 have x3 : w_p2.cell? ⟨g1, 3, none⟩ = some (.int .i64 b) := (blk_cell BK_p2.out 3).trans rfl
 have q0 : w_p2.cell? ⟨g3, 0, none⟩ = some (.slice B5 lb.length d5) := (blk_cell HK_p2.out 0).trans rfl
 have q1 : w_p2.cell? ⟨g3, 1, none⟩ = some (.slice B6 ob.length d6) := (blk_cell HK_p2.out 1).trans rfl
 have q2 : w_p2.cell? ⟨g3, 2, none⟩ = some (.int .i64 fb) := (blk_cell HK_p2.out 2).trans rfl
 have q3 : w_p2.cell? ⟨g3, 3, none⟩ = some (.int .i64 tb) := (blk_cell HK_p2.out 3).trans rfl
 have y0 : w_p2.cell? ⟨g4, 0, none⟩ = some (.slice none 0 0) := (blk_cell NK_p2.out 0).trans rfl
 have y1 : w_p2.cell? ⟨g4, 1, none⟩ = some (.slice none 0 0) := (blk_cell NK_p2.out 1).trans rfl
 have y2 : w_p2.cell? ⟨g4, 2, none⟩ = some (.int .i64 0) := (blk_cell NK_p2.out 2).trans rfl
 have y3 : w_p2.cell? ⟨g4, 3, none⟩ = some (.int .i64 0) := (blk_cell NK_p2.out 3).trans rfl
 go_wp2
 have BKr := A0qa3_ BK_p2.out
 have GKr := A0qa3_ GK_p2.out
 have HKr := A0qa3_ HK_p2.out
 have NKr := A0qa3_ NK_p2.out
 have HBr := A0qa3_ HB_p2.out
 have SAr := A0qa3_ SA_p2.out
 have OAr := A0qa3_ OA_p2.out
 have SBr := A0qa3_ SB_p2.out
 have OBr := A0qa3_ OB_p2.out
 clear BK_p2 GK_p2 HK_p2 NK_p2 HB_p2 SA_p2 OA_p2 SB_p2 OB_p2
 clear S7_p2 O8_p2 L7 L8
 clear x0 x1 x2 x3 q0 q1 q2 q3 y0 y1 y2 y3
 have BK_r0 := A0qa3_ (blk_drew BKr.out)
 have GK_r0 := A0qa3_ (blk_drew GKr.out)
 have HK_r0 := A0qa3_ (blk_drew HKr.out)
 have NK_r0 := A0qa3_ (blk_drew NKr.out)
 have HB_r0 := A0qa3_ (below_drew1 HBr.out)
 have SA_r0 := A0qa3_ (Kd.C_drew SAr.out)
 have OA_r0 := A0qa3_ (Kd.C_drew OAr.out)
 have SB_r0 := A0qa3_ (Kd.C_drew SBr.out)
 have OB_r0 := A0qa3_ (Kd.C_drew OBr.out)
 clear BKr GKr HKr NKr HBr SAr OAr SBr OBr
 refine start_ (n := 12) (S := fun w' => w'.cell? ⟨g1, 0, none⟩ = some (.slice A0 l.length c0) ∧ w'.cell? ⟨g1, 1, none⟩ = some (.slice A1 o.length c1) ∧ w'.cell? ⟨g1, 2, none⟩ = some (.int .i64 a) ∧ w'.cell? ⟨g1, 3, none⟩ = some (.int .i64 b) ∧ w'.cell? ⟨g3, 0, none⟩ = some (.slice B5 lb.length d5) ∧ w'.cell? ⟨g3, 1, none⟩ = some (.slice B6 ob.length d6) ∧ w'.cell? ⟨g3, 2, none⟩ = some (.int .i64 fb) ∧ w'.cell? ⟨g3, 3, none⟩ = some (.int .i64 tb)) (ds := []) mk11qa3_ (by kernel_rfl) rfl rfl ⟨(blk_cell BK_r0.out 0).trans rfl, (blk_cell BK_r0.out 1).trans rfl, (blk_cell BK_r0.out 2).trans rfl, (blk_cell BK_r0.out 3).trans rfl, (blk_cell HK_r0.out 0).trans rfl, (blk_cell HK_r0.out 1).trans rfl, (blk_cell HK_r0.out 2).trans rfl, (blk_cell HK_r0.out 3).trans rfl⟩ (fun hHeld => ?_); refine with_tabW add_right1118.tab add_right1118.bits (fun HT_ HW_ => ?_)
 generalize (World.drew _) = w_r0 at BK_r0 GK_r0 HK_r0 NK_r0 HB_r0 SA_r0 OA_r0 SB_r0 OB_r0 hHeld ⊢
 refine take_ (i:=0) (N:=some 95) (v:=?_) (a':=?_) mk12qa3_ rfl rfl (take_ofW HT_.out HW_.out (by kernel_rfl)) (fun _ _ _ h => h) (Or.inl ⟨by rfl, ?_⟩) hHeld ?_ ?_
 rotate_left
 ·rintro w' ⟨s0, s1, s2, s3, s4, s5, s6, s7⟩
  go_simp
  with_reducible rfl
 rotate_left
 ·simp only [Act.put, z1qa3_, z2qa3_, z3qa3_, i64_w, i32_w]
  rfl
 refine take_ (i:=1) (N:=some 96) (v:=?_) (a':=?_) mk13qa3_ rfl rfl (take_ofW HT_.out HW_.out (by kernel_rfl)) (fun _ _ _ h => h) (Or.inl ⟨by rfl, ?_⟩) hHeld ?_ ?_
 rotate_left
 ·rintro w' ⟨s0, s1, s2, s3, s4, s5, s6, s7⟩
  go_simp
  with_reducible rfl
 rotate_left
 ·simp only [Act.put, z1qa3_, z2qa3_, z3qa3_, i64_w, i32_w]
  rfl
 refine one_ (i:=2) (N:=some 97) mk14qa3_ rfl rfl (one_of HT_.out (by kernel_rfl)) (by decide) (fun K hK => ?_)
 refine call_ 81 #[.agg #[.slice A0 l.length c0, .slice A1 o.length c1, .int .i64 a, .int .i64 b]] (by rfl) rfl (by first | (go_simp; done) | (go_simp; rfl)) ?_
 refine (H81.out _ HB_r0.out).mono ?_
 rintro e w_r1 ⟨A7, c7, A8, c8, rfl, hS7, hl7, hO8, hl8, hb⟩
 refine ⟨_, rfl, ?_⟩
 have BK_r1 := A0qa3_ (blk_below BK_r0.out hb)
 have GK_r1 := A0qa3_ (blk_below GK_r0.out hb)
 have HK_r1 := A0qa3_ (blk_below HK_r0.out hb)
 have NK_r1 := A0qa3_ (blk_below NK_r0.out hb)
 have HB_r1 := A0qa3_ (below_step HB_r0.out hb)
 have SA_r1 := A0qa3_ (Kd.C_below SA_r0.out hb)
 have OA_r1 := A0qa3_ (Kd.C_below OA_r0.out hb)
 have SB_r1 := A0qa3_ (Kd.C_below SB_r0.out hb)
 have OB_r1 := A0qa3_ (Kd.C_below OB_r0.out hb)
 have S9_r1 := A0qa3_ hS7
 have O9_r1 := A0qa3_ hO8
 have L7 := A0qa3_ hl7
 have L8 := A0qa3_ hl8
 clear hS7 hl7 hO8 hl8
 refine hK.out _ _ ⟨(blk_cell BK_r1.out 0).trans rfl, (blk_cell BK_r1.out 1).trans rfl, (blk_cell BK_r1.out 2).trans rfl, (blk_cell BK_r1.out 3).trans rfl, (blk_cell HK_r1.out 0).trans rfl, (blk_cell HK_r1.out 1).trans rfl, (blk_cell HK_r1.out 2).trans rfl, (blk_cell HK_r1.out 3).trans rfl⟩ (fun hHeld => ?_)
 clear hK K hb BK_r0 GK_r0 HK_r0 NK_r0 HB_r0 SA_r0 OA_r0 SB_r0 OB_r0
 refine norm_ (a' := ?_) ?_ ?_
 rotate_left
 ·show Act.put _ (some 97) _ = _
  simp only [Act.put, z1qa3_, z2qa3_, z3qa3_, i64_w, i32_w]
  rfl
 refine one_ (i:=3) (N:=some 98) mk15qa3_ rfl rfl (one_of HT_.out (by kernel_rfl)) (by decide) (fun K hK => ?_)
 refine call_ 72 #[.agg #[.slice B5 lb.length d5, .slice B6 ob.length d6, .int .i64 fb, .int .i64 tb], .agg #[.slice A7 lb.length c7, .slice A8 ob.length c8, .int .i64 fb, .int .i64 tb]] (by rfl) rfl (by first | (go_simp; done) | (go_simp; rfl)) ?_
 refine (H72b.out _ B5 B6 A7 A8 d5 d6 c7 c8 SB_r1.out LSB.out OB_r1.out LOB.out S9_r1.out L7.out O9_r1.out L8.out).mono ?_
 rintro e w_r2 ⟨rfl, hb⟩
 refine ⟨_, rfl, ?_⟩
 have BK_r2 := A0qa3_ (blk_below BK_r1.out hb)
 have GK_r2 := A0qa3_ (blk_below GK_r1.out hb)
 have HK_r2 := A0qa3_ (blk_below HK_r1.out hb)
 have NK_r2 := A0qa3_ (blk_below NK_r1.out hb)
 have HB_r2 := A0qa3_ (below_step HB_r1.out hb)
 have SA_r2 := A0qa3_ (Kd.C_below SA_r1.out hb)
 have OA_r2 := A0qa3_ (Kd.C_below OA_r1.out hb)
 have SB_r2 := A0qa3_ (Kd.C_below SB_r1.out hb)
 have OB_r2 := A0qa3_ (Kd.C_below OB_r1.out hb)
 have S9_r2 := A0qa3_ (Kd.C_below S9_r1.out hb)
 have O9_r2 := A0qa3_ (Kd.C_below O9_r1.out hb)
 refine hK.out _ _ ⟨(blk_cell BK_r2.out 0).trans rfl, (blk_cell BK_r2.out 1).trans rfl, (blk_cell BK_r2.out 2).trans rfl, (blk_cell BK_r2.out 3).trans rfl, (blk_cell HK_r2.out 0).trans rfl, (blk_cell HK_r2.out 1).trans rfl, (blk_cell HK_r2.out 2).trans rfl, (blk_cell HK_r2.out 3).trans rfl⟩ (fun hHeld => ?_)
 clear hK K hb BK_r1 GK_r1 HK_r1 NK_r1 HB_r1 SA_r1 OA_r1 SB_r1 OB_r1 S9_r1 O9_r1
 refine norm_ (a' := ?_) ?_ ?_
 rotate_left
 ·show Act.put _ (some 98) _ = _
  simp only [Act.put, z1qa3_, z2qa3_, z3qa3_, i64_w, i32_w]
  rfl
 refine pure_ (i:=4) (N:=some 99) (v:=?_) (a':=?_) mk16qa3_ rfl rfl (any_of HT_.out (by kernel_rfl)) (fun _ _ _ h => h) (Or.inl ⟨by rfl, ?_⟩) ?_ ?_
 rotate_left
 ·intro w'
  go_simp
  with_reducible rfl
 rotate_left
 ·simp only [Act.put, z1qa3_, z2qa3_, z3qa3_, i64_w, i32_w]
  rfl
 refine pure_ (i:=5) (N:=some 100) (v:=?_) (a':=?_) mk17qa3_ rfl rfl (any_of HT_.out (by kernel_rfl)) (fun _ _ _ h => h) (Or.inl ⟨by rfl, ?_⟩) ?_ ?_
 rotate_left
 ·intro w'
  go_simp
  with_reducible rfl
 rotate_left
 ·simp only [Act.put, z1qa3_, z2qa3_, z3qa3_, i64_w, i32_w]
  rfl
 refine pure_ (i:=6) (N:=some 101) (v:=?_) (a':=?_) mk18qa3_ rfl rfl (any_of HT_.out (by kernel_rfl)) (fun _ _ _ h => h) (Or.inl ⟨by rfl, ?_⟩) ?_ ?_
 rotate_left
 ·intro w'
  go_simp
  with_reducible rfl
 rotate_left
 ·simp only [Act.put, z1qa3_, z2qa3_, z3qa3_, i64_w, i32_w]
  rfl
 refine pure_ (i:=7) (N:=some 102) (v:=?_) (a':=?_) mk19qa3_ rfl rfl (any_of HT_.out (by kernel_rfl)) (fun _ _ _ h => h) (Or.inl ⟨by rfl, ?_⟩) ?_ ?_
 rotate_left
 ·intro w'
  go_simp
  with_reducible rfl
 rotate_left
 ·simp only [Act.put, z1qa3_, z2qa3_, z3qa3_, i64_w, i32_w]
  rfl
 refine pure_ (i:=8) (N:=some 103) (v:=?_) (a':=?_) mk20qa3_ rfl rfl (any_of HT_.out (by kernel_rfl)) (fun _ _ _ h => h) (Or.inl ⟨by rfl, ?_⟩) ?_ ?_
 rotate_left
 ·intro w'
  go_simp
  with_reducible rfl
 rotate_left
 ·simp only [Act.put, z1qa3_, z2qa3_, z3qa3_, i64_w, i32_w]
  rfl
 refine one_ (i:=9) (N:=some 104) mk21qa3_ rfl rfl (one_of HT_.out (by kernel_rfl)) (by decide) (fun K hK => ?_)
 refine call_ 73 #[] (by rfl) rfl (by first | (go_simp; done) | (go_simp; rfl)) ?_
 refine (H73.out _ HB_r2.out).mono ?_
 rintro e w_r3 ⟨rfl, hb⟩
 refine ⟨_, rfl, ?_⟩
 have BK_r3 := A0qa3_ (blk_below BK_r2.out hb)
 have GK_r3 := A0qa3_ (blk_below GK_r2.out hb)
 have HK_r3 := A0qa3_ (blk_below HK_r2.out hb)
 have NK_r3 := A0qa3_ (blk_below NK_r2.out hb)
 have HB_r3 := A0qa3_ (below_step HB_r2.out hb)
 have SA_r3 := A0qa3_ (Kd.C_below SA_r2.out hb)
 have OA_r3 := A0qa3_ (Kd.C_below OA_r2.out hb)
 have SB_r3 := A0qa3_ (Kd.C_below SB_r2.out hb)
 have OB_r3 := A0qa3_ (Kd.C_below OB_r2.out hb)
 have S9_r3 := A0qa3_ (Kd.C_below S9_r2.out hb)
 have O9_r3 := A0qa3_ (Kd.C_below O9_r2.out hb)
 refine hK.out _ _ ⟨(blk_cell BK_r3.out 0).trans rfl, (blk_cell BK_r3.out 1).trans rfl, (blk_cell BK_r3.out 2).trans rfl, (blk_cell BK_r3.out 3).trans rfl, (blk_cell HK_r3.out 0).trans rfl, (blk_cell HK_r3.out 1).trans rfl, (blk_cell HK_r3.out 2).trans rfl, (blk_cell HK_r3.out 3).trans rfl⟩ (fun hHeld => ?_)
 clear hK K hb BK_r2 GK_r2 HK_r2 NK_r2 HB_r2 SA_r2 OA_r2 SB_r2 OB_r2 S9_r2 O9_r2
 refine norm_ (a' := ?_) ?_ ?_
 rotate_left
 ·show Act.put _ (some 104) _ = _
  simp only [Act.put, z1qa3_, z2qa3_, z3qa3_, i64_w, i32_w]
  rfl
 refine pure_ (i:=10) (N:=some 105) (v:=?_) (a':=?_) mk22qa3_ rfl rfl (any_of HT_.out (by kernel_rfl)) (fun _ _ _ h => h) (Or.inl ⟨by rfl, ?_⟩) ?_ ?_
 rotate_left
 ·intro w'
  go_simp
  with_reducible rfl
 rotate_left
 ·simp only [Act.put, z1qa3_, z2qa3_, z3qa3_, i64_w, i32_w]
  rfl
 refine pure_ (i:=11) (N:=some 4) (v:=?_) (a':=?_) mk23qa3_ rfl rfl (any_of HT_.out (by kernel_rfl)) (fun _ _ _ h => h) (Or.inl ⟨by rfl, ?_⟩) ?_ ?_
 rotate_left
 ·intro w'
  go_simp
  with_reducible rfl
 rotate_left
 ·simp only [Act.put, z1qa3_, z2qa3_, z3qa3_, i64_w, i32_w]
  rfl
 refine done_ (done_of HT_.out (by kernel_rfl)) ?_
 clear HT_ HW_ hHeld
 (try go_wp2)
 go_ret
 exact ⟨rfl, HB_r3.out⟩
end Go.Proofs.Ythdhkoeaadahaaa.P
