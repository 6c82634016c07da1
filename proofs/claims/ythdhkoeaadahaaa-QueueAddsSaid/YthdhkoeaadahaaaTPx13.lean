-- PACKED by wip/kit/pack.py: what the law's proof uses of Px13 (printed words and texts of this seat)
import Derived.Test.YthdhkoeaadahaaaTPx0
import Derived.Test.YthdhkoeaadahaaaTPx1
namespace Go.Proofs.Ythdhkoeaadahaaa.P
open Go.RowKit Go.Proofs.YthdhkoeaadahaaaW.PrintWords Go.Proofs.YthdhkoeaadahaaaW.PrintLast Go.Proofs.YthdhkoeaadahaaaW.PrintMore
attribute [local go_sem] max2_int min2_int max_two min_two max_three min_three max_four min_four
set_option linter.unusedVariables false
set_option linter.unusedSimpArgs false
attribute [local go_sem high] eqA74
def counterfoilref08_Equal.l0 : Nat → List (S74) → List (S74) → Int → Option (Bool)
 | 0, _, _, _ => none
 | k + 1, x0, x1, x5 => if x5 < (x0.length : Int) then (if 0 ≤ x5 then (if x5 < (x1.length : Int) then (if (!(((rd_T74 x0 x5).f0) == ((rd_T74 x1 x5).f0)) || (!(((rd_T74 x0 x5).f1) == ((rd_T74 x1 x5).f1)) || (!((((rd_T74 x0 x5).f2).toList) == (((rd_T74 x1 x5).f2).toList))))) = true then (some false) else (counterfoilref08_Equal.l0 k x0 x1 (wrap64 (x5 + 1)))) else (none)) else (none)) else (some true)
def counterfoilref08_Equal.f (k : Nat) (l0 : List (S74)) (l1 : List (S74)) : Option (Bool) := if (l0.length : Int) = (l1.length : Int) then (counterfoilref08_Equal.l0 k l0 l1 0) else (some false)
theorem A0q13_ {p : Prop} (h : p) : Aside0 p := ⟨h⟩
theorem z1q13_ {α : Type} (l : List α) (i : Nat) (a : α) : l.toArray.setIfInBounds i a = (l.set i a).toArray := List.setIfInBounds_toArray l i a
theorem z2q13_ {α : Type} {x : α} {xs : List α} {a : α} : (x :: xs).set 0 a = a :: xs := List.set_cons_zero
theorem z3q13_ {α : Type} {x : α} {xs : List α} {n : Nat} {a : α} : (x :: xs).set (n + 1) a = x :: xs.set n a := List.set_cons_succ
abbrev mk0q13_ : Array Bool := #[false, false, false, false, false, false, false, false, false, false, false, false, false, false, false, false, false]
abbrev mk1q13_ : Array Bool := #[true, false, false, false, false, false, false, false, false, false, false, false, false, false, false, false, false]
abbrev mk2q13_ : Array Bool := #[true, true, false, false, false, false, false, false, false, false, false, false, false, false, false, false, false]
abbrev mk3q13_ : Array Bool := #[true, true, true, false, false, false, false, false, false, false, false, false, false, false, false, false, false]
abbrev mk4q13_ : Array Bool := #[true, true, true, true, false, false, false, false, false, false, false, false, false, false, false, false, false]
abbrev mk5q13_ : Array Bool := #[true, true, true, true, true, false, false, false, false, false, false, false, false, false, false, false, false]
abbrev mk6q13_ : Array Bool := #[true, true, true, true, true, true, false, false, false, false, false, false, false, false, false, false, false]
abbrev mk7q13_ : Array Bool := #[true, true, true, true, true, true, true, false, false, false, false, false, false, false, false, false, false]
abbrev mk8q13_ : Array Bool := #[true, true, true, true, true, true, true, true, false, false, false, false, false, false, false, false, false]
abbrev mk9q13_ : Array Bool := #[true, true, true, true, true, true, true, true, true, false, false, false, false, false, false, false, false]
abbrev mk10q13_ : Array Bool := #[true, true, true, true, true, true, true, true, true, false, true, false, false, false, false, false, false]
abbrev mk11q13_ : Array Bool := #[true, true, true, true, true, true, true, true, true, false, true, true, false, false, false, false, false]
abbrev mk12q13_ : Array Bool := #[true, true, true, true, true, true, true, true, true, false, true, true, true, false, false, false, false]
abbrev mk13q13_ : Array Bool := #[true, true, true, true, true, true, true, true, true, true, true, true, true, false, false, false, false]
abbrev mk14q13_ : Array Bool := #[true, true, true, true, true, true, true, true, true, true, true, true, true, true, false, false, false]
abbrev mk15q13_ : Array Bool := #[true, true, true, true, true, true, true, true, true, true, true, true, true, true, true, false, false]
abbrev mk16q13_ : Array Bool := #[true, true, true, true, true, true, true, true, true, true, true, true, true, true, true, true, false]
abbrev mk17q13_ : Array Bool := #[true, true, true, true, true, true, true, true, true, true, true, true, true, true, true, true, true]
abbrev mk18q13_ : Array Bool := #[true, true, true, true, true, true, true, true, true, true, false, false, false, false, false, false, false]
abbrev mk19q13_ : Array Bool := #[true, true, true, true, true, true, true, true, true, true, true, false, false, false, false, false, false]
abbrev mk20q13_ : Array Bool := #[true, true, true, true, true, true, true, true, true, true, true, true, false, false, false, false, false]
abbrev mk21q13_ : Array Bool := #[false, false, false, false, false, false, false, false, false, false, false, false, false, false]
abbrev mk22q13_ : Array Bool := #[true, false, false, false, false, false, false, false, false, false, false, false, false, false]
abbrev mk23q13_ : Array Bool := #[true, true, false, false, false, false, false, false, false, false, false, false, false, false]
abbrev mk24q13_ : Array Bool := #[true, true, true, false, false, false, false, false, false, false, false, false, false, false]
abbrev mk25q13_ : Array Bool := #[true, true, true, true, false, false, false, false, false, false, false, false, false, false]
abbrev mk26q13_ : Array Bool := #[true, true, true, true, true, false, false, false, false, false, false, false, false, false]
abbrev mk27q13_ : Array Bool := #[true, true, true, true, true, true, false, false, false, false, false, false, false, false]
abbrev mk28q13_ : Array Bool := #[true, true, true, true, true, true, true, false, false, false, false, false, false, false]
abbrev mk29q13_ : Array Bool := #[true, true, true, true, true, true, true, true, false, false, false, false, false, false]
abbrev mk30q13_ : Array Bool := #[true, true, true, true, true, true, true, true, true, false, false, false, false, false]
abbrev mk31q13_ : Array Bool := #[true, true, true, true, true, true, true, true, true, true, false, false, false, false]
abbrev mk32q13_ : Array Bool := #[true, true, true, true, true, true, true, true, true, true, true, false, false, false]
abbrev mk33q13_ : Array Bool := #[true, true, true, true, true, true, true, true, true, true, true, true, false, false]
abbrev mk34q13_ : Array Bool := #[true, true, true, true, true, true, true, true, true, true, true, true, true, false]
abbrev mk35q13_ : Array Bool := #[true, true, true, true, true, true, true, true, true, true, true, true, true, true]
abbrev mk36q13_ : Array Bool := #[true, true, true, true, true, true, false, true, false, false, false, false, false, false]
abbrev mk37q13_ : Array Bool := #[true, true, true, true, true, true, false, true, true, false, false, false, false, false]
abbrev mk38q13_ : Array Bool := #[true, true, true, true, true, true, false, true, true, true, false, false, false, false]
set_option maxHeartbeats 8000000 in
set_option maxRecDepth 100000 in
theorem counterfoilref08_Equal.calls (k : Nat) (A0 : Option Addr) (c0 : Nat) (l0 : List (S74)) (A1 : Option Addr) (c1 : Nat) (l1 : List (S74)) (r : Bool) (w : World) (hr0 : Kd.C k74 w A0 l0.length l0) (hc0 : l0.length ≤ c0) (hr1 : Kd.C k74 w A1 l1.length l1) (hc1 : l1.length ≤ c1) (h : counterfoilref08_Equal.f k l0 l1 = some r) :
  Calls Try.prog 49 #[.slice A0 l0.length c0, .slice A1 l1.length c1] w fun e w' => e = .returned (.bool r) ∧ Drawn0 w w' := by
 have hu74 := Try.underlying74
 have HR0 := A0q13_ hr0
 have HC0 := A0q13_ hc0
 clear hr0 hc0
 have HR1 := A0q13_ hr1
 have HC1 := A0q13_ hc1
 clear hr1 hc1
 have H : (if (l0.length : Int) = (l1.length : Int) then (counterfoilref08_Equal.l0 k l0 l1 0) else (some false)) = some r := h
 clear h
 by_cases c3 : (l0.length : Int) = (l1.length : Int)
 ·rw [if_pos c3] at H
  have c3b0 : ((l0.length : Int) == (l1.length : Int)) = true := beq_iff_eq.mpr c3
  have c3b1 : ((l0.length : Int) != (l1.length : Int)) = false := bne_eq_false_iff_eq.mpr c3
  have c3b2 : (l0.length == l1.length) = true := by first | simpa using c3 | (simp at c3 ⊢; omega)
  clear c3
  have H' := A0q13_ H
  clear H
  go_enter Try.func49, Try.ntmps49
  go_wp2
  repeat (go_quiet (fail); try go_wp2)
  go_loopg [5] k (fun kq v5 w' => ∃ (x5_1 : Int), v5 = .int .i64 x5_1 ∧ Aside0 (counterfoilref08_Equal.l0 kq l0 l1 x5_1 = some r) ∧ Aside0 (kq ≤ k) ∧ Drawn0 w w')
  case atStart => exact ⟨(0), (by first | rfl | (simp; done) | (simp [*]; done)), H', ⟨Nat.le_refl _⟩, by repeat (first | exact Drawn0.refl _ | apply Drawn0.step)⟩
  case round =>
   clear H'
   try clear c1
   try clear p2
   try clear c3
   try clear c3b0
   try clear c3b1
   try clear c3b2
   obtain ⟨x5_1, rfl, HA, HK1, ⟨m1, rfl⟩⟩ := hrel
   cases gk with
   | zero => exact absurd HA.out (by simp [counterfoilref08_Equal.l0])
   | succ k1 =>
    have H := HA.out
    clear HA
    simp only [counterfoilref08_Equal.l0] at H
    by_cases c4 : x5_1 < (l0.length : Int)
    ·rw [if_pos c4] at H
     have c4b0 : decide (x5_1 < (l0.length : Int)) = true := decide_eq_true c4
     clear c4
     by_cases c5 : 0 ≤ x5_1
     ·rw [if_pos c5] at H
      have c5b0 : decide (0 ≤ x5_1) = true := decide_eq_true c5
      clear c5
      by_cases c6 : x5_1 < (l1.length : Int)
      ·rw [if_pos c6] at H
       have c6b0 : decide (x5_1 < (l1.length : Int)) = true := decide_eq_true c6
       clear c6
       by_cases c7 : (!(((rd_T74 l0 x5_1).f0) == ((rd_T74 l1 x5_1).f0)) || (!(((rd_T74 l0 x5_1).f1) == ((rd_T74 l1 x5_1).f1)) || (!((((rd_T74 l0 x5_1).f2).toList) == (((rd_T74 l1 x5_1).f2).toList))))) = true
       ·rw [if_pos c7] at H
        have c7b0 : (!(((rd_T74 l0 x5_1).f0) == ((rd_T74 l1 x5_1).f0)) || (!(((rd_T74 l0 x5_1).f1) == ((rd_T74 l1 x5_1).f1)) || (!((((rd_T74 l0 x5_1).f2).toList) == (((rd_T74 l1 x5_1).f2).toList))))) = true := c7
        clear c7
        obtain rfl := Option.some.inj H
        have p157 : 0 ≤ (x5_1 : Int) := of_decide_eq_true (by first | (with_reducible assumption) | assumption)
        have q157 : x5_1 < (l0.length : Int) := of_decide_eq_true (by first | (with_reducible assumption) | assumption)
        obtain ⟨ad157, e157, hx157_0, hx157_1, hx157_2⟩ := at_T74 HR0.out x5_1 p157 q157
        cases e157
        replace p157 := eq_true p157
        replace q157 := eq_true q157
        have p158 : 0 ≤ (x5_1 : Int) := of_decide_eq_true (by first | (with_reducible assumption) | assumption)
        have q158 : x5_1 < (l1.length : Int) := of_decide_eq_true (by first | (with_reducible assumption) | assumption)
        obtain ⟨ad158, e158, hx158_0, hx158_1, hx158_2⟩ := at_T74 HR1.out x5_1 p158 q158
        cases e158
        replace p158 := eq_true p158
        replace q158 := eq_true q158
        go_wp2
        repeat (go_quiet (fail); try go_wp2)
        go_ret
        exact ⟨by first | rfl | (simp; done) | (simp [*]; done), by repeat (first | exact Drawn0.refl _ | apply Drawn0.step)⟩
       ·rw [if_neg c7] at H
        have c7b0 : (!(((rd_T74 l0 x5_1).f0) == ((rd_T74 l1 x5_1).f0)) || (!(((rd_T74 l0 x5_1).f1) == ((rd_T74 l1 x5_1).f1)) || (!((((rd_T74 l0 x5_1).f2).toList) == (((rd_T74 l1 x5_1).f2).toList))))) = false := by simpa using c7
        clear c7
        have H' := A0q13_ H
        clear H
        have p157 : 0 ≤ (x5_1 : Int) := of_decide_eq_true (by first | (with_reducible assumption) | assumption)
        have q157 : x5_1 < (l0.length : Int) := of_decide_eq_true (by first | (with_reducible assumption) | assumption)
        obtain ⟨ad157, e157, hx157_0, hx157_1, hx157_2⟩ := at_T74 HR0.out x5_1 p157 q157
        cases e157
        replace p157 := eq_true p157
        replace q157 := eq_true q157
        have p158 : 0 ≤ (x5_1 : Int) := of_decide_eq_true (by first | (with_reducible assumption) | assumption)
        have q158 : x5_1 < (l1.length : Int) := of_decide_eq_true (by first | (with_reducible assumption) | assumption)
        obtain ⟨ad158, e158, hx158_0, hx158_1, hx158_2⟩ := at_T74 HR1.out x5_1 p158 q158
        cases e158
        replace p158 := eq_true p158
        replace q158 := eq_true q158
        go_wp2
        repeat (go_quiet (fail); try go_wp2)
        go_roundg k1
        case measure => have := HK1.out; omega
        case rel => exact ⟨(wrap64 (x5_1 + 1)), (by first | rfl | (simp; done) | (simp [*]; done)), H', ⟨by have := HK1.out; omega⟩, by repeat (first | exact Drawn0.refl _ | apply Drawn0.step)⟩
      ·rw [if_neg c6] at H
       exact absurd H (by simp)
     ·rw [if_neg c5] at H
      exact absurd H (by simp)
    ·rw [if_neg c4] at H
     have c4b0 : decide (x5_1 < (l0.length : Int)) = false := decide_eq_false c4
     clear c4
     obtain rfl := Option.some.inj H
     go_wp2
     repeat (go_quiet (fail); try go_wp2)
     go_ret
     exact ⟨by first | rfl | (simp; done) | (simp [*]; done), by repeat (first | exact Drawn0.refl _ | apply Drawn0.step)⟩
 ·rw [if_neg c3] at H
  have c3b0 : ((l0.length : Int) == (l1.length : Int)) = false := beq_eq_false_iff_ne.mpr c3
  have c3b1 : ((l0.length : Int) != (l1.length : Int)) = true := bne_iff_ne.mpr c3
  have c3b2 : (l0.length == l1.length) = false := by first | simpa using c3 | (simp at c3 ⊢; omega)
  obtain rfl := Option.some.inj H
  go_enter Try.func49, Try.ntmps49
  go_wp2
  repeat (go_quiet (fail); try go_wp2)
  go_ret
  exact ⟨by first | rfl | (simp; done) | (simp [*]; done), by repeat (first | exact Drawn0.refl _ | apply Drawn0.step)⟩
def counterfoilref08_less.f (a0_0 : Int) (a0_1 : Int) (a0_2 : ByteArray) (a1_0 : Int) (a1_1 : Int) (a1_2 : ByteArray) : Option (Bool) := if a0_0 < a1_0 then (some true) else (if a0_0 = a1_0 then (some (decide (a0_1 < a1_1))) else (some false))
set_option maxHeartbeats 8000000 in
set_option maxRecDepth 100000 in
theorem counterfoilref08_less.calls (a0_0 : Int) (a0_1 : Int) (a0_2 : ByteArray) (a1_0 : Int) (a1_1 : Int) (a1_2 : ByteArray) (r : Bool) (w : World) (h : counterfoilref08_less.f a0_0 a0_1 a0_2 a1_0 a1_1 a1_2 = some r) :
  Calls Try.prog 105 #[.agg #[.int .i64 a0_0, .int .i64 a0_1, .string a0_2], .agg #[.int .i64 a1_0, .int .i64 a1_1, .string a1_2]] w fun e w' => e = .returned (.bool r) ∧ Below w.heap.size w w' := by
 have hu74 := Try.underlying74
 have HB := A0q13_ (Below.refl w.heap.size w)
 have H : (if a0_0 < a1_0 then (some true) else (if a0_0 = a1_0 then (some (decide (a0_1 < a1_1))) else (some false))) = some r := h
 clear h
 by_cases c3 : a0_0 < a1_0
 ·rw [if_pos c3] at H
  have c3b0 : decide (a0_0 < a1_0) = true := decide_eq_true c3
  clear c3
  obtain rfl := Option.some.inj H
  go_enter Try.func105, Try.ntmps105
  go_wp2_with (first | ((with_reducible refine gate_dst (N:=2) rfl ?_); refine box_event ?hg (N:=2) ?hd (cs := #[.int .i64 a0_0, .int .i64 a0_1, .string a0_2]) (t := 74) ?hr ?_; (case hd => rfl); (case hg => rfl); (case hr => first | (go_simp; done) | (go_simp; rfl)); intro gb159 hg w4 hbox hb; have n0_ := A0q13_ (below_step (by repeat (first | (with_reducible first | exact HB.out | apply below_alloc | apply pw_below_drewN | apply below_drew1) | exact HB.out)) hb); have n1_ := A0q13_ (hbox); have n2_ := A0q13_ ((by rw [hg]; exact (below_size (by repeat (first | (with_reducible first | exact HB.out | apply below_alloc | apply pw_below_drewN | apply below_drew1) | exact HB.out))) : w.heap.size ≤ gb159)); have n3_ := A0q13_ ((by rw [hg]; exact (below_size (by repeat (first | (with_reducible first | exact HB.out | apply below_alloc | apply pw_below_drewN | apply below_drew1) | exact HB.out))) : w.heap.size ≤ gb159)); clear HB; have HB := n0_; have BK159 := n1_; have GW159 := n2_; have GE159 := n3_; clear n0_ n1_ n2_ n3_; clear hb hbox hg) | ((with_reducible refine gate_dst (N:=3) rfl ?_); refine box_event ?hg (N:=3) ?hd (cs := #[.int .i64 a1_0, .int .i64 a1_1, .string a1_2]) (t := 74) ?hr ?_; (case hd => rfl); (case hg => rfl); (case hr => first | (go_simp; done) | (go_simp; rfl)); intro gb160 hg w5 hbox hb; have n0_ := A0q13_ (blk_below (g:=gb159) (o:=.cells #[.int .i64 a0_0, .int .i64 a0_1, .string a0_2] 74 (0, 0)) (by (with_reducible repeat (first | refine blk_drewN ?_ _ | refine blk_drew ?_ | refine blk_alloc ?_ _)); exact BK159.out) hb); have n1_ := A0q13_ (below_step (by repeat (first | (with_reducible first | exact HB.out | apply below_alloc | apply pw_below_drewN | apply below_drew1 | refine below_set ?_ GE159.out) | exact HB.out)) hb); have n2_ := A0q13_ (hbox); have n3_ := A0q13_ ((by rw [hg]; exact (below_size (by repeat (first | (with_reducible first | exact HB.out | apply below_alloc | apply pw_below_drewN | apply below_drew1 | refine below_set ?_ GE159.out) | exact HB.out))) : w.heap.size ≤ gb160)); have n4_ := A0q13_ ((by rw [hg]; exact (below_size (by repeat (first | (with_reducible first | exact HB.out | apply below_alloc | apply pw_below_drewN | apply below_drew1 | refine below_set ?_ GE159.out) | exact HB.out))) : w.heap.size ≤ gb160)); have n5_ := A0q13_ ((by rw [hg]; exact Nat.ne_of_lt (blk_lt (g:=gb159) (o:=.cells #[.int .i64 a0_0, .int .i64 a0_1, .string a0_2] 74 (0, 0)) (by (with_reducible repeat (first | refine blk_drewN ?_ _ | refine blk_drew ?_ | refine blk_alloc ?_ _)); exact BK159.out)) : gb159 ≠ gb160)); have n6_ := A0q13_ ((by rw [hg]; exact Nat.ne_of_gt (blk_lt (g:=gb159) (o:=.cells #[.int .i64 a0_0, .int .i64 a0_1, .string a0_2] 74 (0, 0)) (by (with_reducible repeat (first | refine blk_drewN ?_ _ | refine blk_drew ?_ | refine blk_alloc ?_ _)); exact BK159.out)) : gb160 ≠ gb159)); clear BK159; clear HB; have BK159 := n0_; have HB := n1_; have BK160 := n2_; have GW160 := n3_; have GE160 := n4_; have NB159_160 := n5_; have NB160_159 := n6_; clear n0_ n1_ n2_ n3_ n4_ n5_ n6_; clear hb hbox hg; have hnb6 := NB159_160.out; have hnc6 := NB160_159.out; have hcz7_0 : w5.cell? ⟨gb159, 0, none⟩ = some (.int .i64 a0_0) := (blk_cell BK159.out 0).trans rfl; have hcz7_1 : w5.cell? ⟨gb159, 1, none⟩ = some (.int .i64 a0_1) := (blk_cell BK159.out 1).trans rfl; have hcz7_2 : w5.cell? ⟨gb159, 2, none⟩ = some (.string a0_2) := (blk_cell BK159.out 2).trans rfl; have hfz7_0 := blk_frozen BK159.out 0; have hfz7_1 := blk_frozen BK159.out 1; have hfz7_2 := blk_frozen BK159.out 2; have hcz8_0 : w5.cell? ⟨gb160, 0, none⟩ = some (.int .i64 a1_0) := (blk_cell BK160.out 0).trans rfl; have hcz8_1 : w5.cell? ⟨gb160, 1, none⟩ = some (.int .i64 a1_1) := (blk_cell BK160.out 1).trans rfl; have hcz8_2 : w5.cell? ⟨gb160, 2, none⟩ = some (.string a1_2) := (blk_cell BK160.out 2).trans rfl; have hfz8_0 := blk_frozen BK160.out 0; have hfz8_1 := blk_frozen BK160.out 1; have hfz8_2 := blk_frozen BK160.out 2))
  go_ret
  exact ⟨by first | rfl | (simp [errW_none, errW_some] <;> rfl) | (simp [*, errW_none, errW_some] <;> rfl), by repeat (first | (with_reducible first | exact HB.out | apply below_alloc | apply pw_below_drewN | apply below_drew1 | refine below_set ?_ GE159.out | refine below_set ?_ GE160.out) | exact HB.out)⟩
 ·rw [if_neg c3] at H
  have c3b0 : decide (a0_0 < a1_0) = false := decide_eq_false c3
  clear c3
  by_cases c9 : a0_0 = a1_0
  ·rw [if_pos c9] at H
   have c9b0 : (a0_0 == a1_0) = true := beq_iff_eq.mpr c9
   have c9b1 : (a0_0 != a1_0) = false := bne_eq_false_iff_eq.mpr c9
   clear c9
   obtain rfl := Option.some.inj H
   go_enter Try.func105, Try.ntmps105
   go_wp2_with (first | ((with_reducible refine gate_dst (N:=2) rfl ?_); refine box_event ?hg (N:=2) ?hd (cs := #[.int .i64 a0_0, .int .i64 a0_1, .string a0_2]) (t := 74) ?hr ?_; (case hd => rfl); (case hg => rfl); (case hr => first | (go_simp; done) | (go_simp; rfl)); intro gb159 hg w10 hbox hb; have n0_ := A0q13_ (below_step (by repeat (first | (with_reducible first | exact HB.out | apply below_alloc | apply pw_below_drewN | apply below_drew1) | exact HB.out)) hb); have n1_ := A0q13_ (hbox); have n2_ := A0q13_ ((by rw [hg]; exact (below_size (by repeat (first | (with_reducible first | exact HB.out | apply below_alloc | apply pw_below_drewN | apply below_drew1) | exact HB.out))) : w.heap.size ≤ gb159)); have n3_ := A0q13_ ((by rw [hg]; exact (below_size (by repeat (first | (with_reducible first | exact HB.out | apply below_alloc | apply pw_below_drewN | apply below_drew1) | exact HB.out))) : w.heap.size ≤ gb159)); clear HB; have HB := n0_; have BK159 := n1_; have GW159 := n2_; have GE159 := n3_; clear n0_ n1_ n2_ n3_; clear hb hbox hg) | ((with_reducible refine gate_dst (N:=3) rfl ?_); refine box_event ?hg (N:=3) ?hd (cs := #[.int .i64 a1_0, .int .i64 a1_1, .string a1_2]) (t := 74) ?hr ?_; (case hd => rfl); (case hg => rfl); (case hr => first | (go_simp; done) | (go_simp; rfl)); intro gb160 hg w11 hbox hb; have n0_ := A0q13_ (blk_below (g:=gb159) (o:=.cells #[.int .i64 a0_0, .int .i64 a0_1, .string a0_2] 74 (0, 0)) (by (with_reducible repeat (first | refine blk_drewN ?_ _ | refine blk_drew ?_ | refine blk_alloc ?_ _)); exact BK159.out) hb); have n1_ := A0q13_ (below_step (by repeat (first | (with_reducible first | exact HB.out | apply below_alloc | apply pw_below_drewN | apply below_drew1 | refine below_set ?_ GE159.out) | exact HB.out)) hb); have n2_ := A0q13_ (hbox); have n3_ := A0q13_ ((by rw [hg]; exact (below_size (by repeat (first | (with_reducible first | exact HB.out | apply below_alloc | apply pw_below_drewN | apply below_drew1 | refine below_set ?_ GE159.out) | exact HB.out))) : w.heap.size ≤ gb160)); have n4_ := A0q13_ ((by rw [hg]; exact (below_size (by repeat (first | (with_reducible first | exact HB.out | apply below_alloc | apply pw_below_drewN | apply below_drew1 | refine below_set ?_ GE159.out) | exact HB.out))) : w.heap.size ≤ gb160)); have n5_ := A0q13_ ((by rw [hg]; exact Nat.ne_of_lt (blk_lt (g:=gb159) (o:=.cells #[.int .i64 a0_0, .int .i64 a0_1, .string a0_2] 74 (0, 0)) (by (with_reducible repeat (first | refine blk_drewN ?_ _ | refine blk_drew ?_ | refine blk_alloc ?_ _)); exact BK159.out)) : gb159 ≠ gb160)); have n6_ := A0q13_ ((by rw [hg]; exact Nat.ne_of_gt (blk_lt (g:=gb159) (o:=.cells #[.int .i64 a0_0, .int .i64 a0_1, .string a0_2] 74 (0, 0)) (by (with_reducible repeat (first | refine blk_drewN ?_ _ | refine blk_drew ?_ | refine blk_alloc ?_ _)); exact BK159.out)) : gb160 ≠ gb159)); clear BK159; clear HB; have BK159 := n0_; have HB := n1_; have BK160 := n2_; have GW160 := n3_; have GE160 := n4_; have NB159_160 := n5_; have NB160_159 := n6_; clear n0_ n1_ n2_ n3_ n4_ n5_ n6_; clear hb hbox hg; have hnb12 := NB159_160.out; have hnc12 := NB160_159.out; have hcz13_0 : w11.cell? ⟨gb159, 0, none⟩ = some (.int .i64 a0_0) := (blk_cell BK159.out 0).trans rfl; have hcz13_1 : w11.cell? ⟨gb159, 1, none⟩ = some (.int .i64 a0_1) := (blk_cell BK159.out 1).trans rfl; have hcz13_2 : w11.cell? ⟨gb159, 2, none⟩ = some (.string a0_2) := (blk_cell BK159.out 2).trans rfl; have hfz13_0 := blk_frozen BK159.out 0; have hfz13_1 := blk_frozen BK159.out 1; have hfz13_2 := blk_frozen BK159.out 2; have hcz14_0 : w11.cell? ⟨gb160, 0, none⟩ = some (.int .i64 a1_0) := (blk_cell BK160.out 0).trans rfl; have hcz14_1 : w11.cell? ⟨gb160, 1, none⟩ = some (.int .i64 a1_1) := (blk_cell BK160.out 1).trans rfl; have hcz14_2 : w11.cell? ⟨gb160, 2, none⟩ = some (.string a1_2) := (blk_cell BK160.out 2).trans rfl; have hfz14_0 := blk_frozen BK160.out 0; have hfz14_1 := blk_frozen BK160.out 1; have hfz14_2 := blk_frozen BK160.out 2))
   go_ret
   exact ⟨by first | rfl | (simp [errW_none, errW_some] <;> rfl) | (simp [*, errW_none, errW_some] <;> rfl), by repeat (first | (with_reducible first | exact HB.out | apply below_alloc | apply pw_below_drewN | apply below_drew1 | refine below_set ?_ GE159.out | refine below_set ?_ GE160.out) | exact HB.out)⟩
  ·rw [if_neg c9] at H
   have c9b0 : (a0_0 == a1_0) = false := beq_eq_false_iff_ne.mpr c9
   have c9b1 : (a0_0 != a1_0) = true := bne_iff_ne.mpr c9
   obtain rfl := Option.some.inj H
   go_enter Try.func105, Try.ntmps105
   go_wp2_with (first | ((with_reducible refine gate_dst (N:=2) rfl ?_); refine box_event ?hg (N:=2) ?hd (cs := #[.int .i64 a0_0, .int .i64 a0_1, .string a0_2]) (t := 74) ?hr ?_; (case hd => rfl); (case hg => rfl); (case hr => first | (go_simp; done) | (go_simp; rfl)); intro gb159 hg w15 hbox hb; have n0_ := A0q13_ (below_step (by repeat (first | (with_reducible first | exact HB.out | apply below_alloc | apply pw_below_drewN | apply below_drew1) | exact HB.out)) hb); have n1_ := A0q13_ (hbox); have n2_ := A0q13_ ((by rw [hg]; exact (below_size (by repeat (first | (with_reducible first | exact HB.out | apply below_alloc | apply pw_below_drewN | apply below_drew1) | exact HB.out))) : w.heap.size ≤ gb159)); have n3_ := A0q13_ ((by rw [hg]; exact (below_size (by repeat (first | (with_reducible first | exact HB.out | apply below_alloc | apply pw_below_drewN | apply below_drew1) | exact HB.out))) : w.heap.size ≤ gb159)); clear HB; have HB := n0_; have BK159 := n1_; have GW159 := n2_; have GE159 := n3_; clear n0_ n1_ n2_ n3_; clear hb hbox hg) | ((with_reducible refine gate_dst (N:=3) rfl ?_); refine box_event ?hg (N:=3) ?hd (cs := #[.int .i64 a1_0, .int .i64 a1_1, .string a1_2]) (t := 74) ?hr ?_; (case hd => rfl); (case hg => rfl); (case hr => first | (go_simp; done) | (go_simp; rfl)); intro gb160 hg w16 hbox hb; have n0_ := A0q13_ (blk_below (g:=gb159) (o:=.cells #[.int .i64 a0_0, .int .i64 a0_1, .string a0_2] 74 (0, 0)) (by (with_reducible repeat (first | refine blk_drewN ?_ _ | refine blk_drew ?_ | refine blk_alloc ?_ _)); exact BK159.out) hb); have n1_ := A0q13_ (below_step (by repeat (first | (with_reducible first | exact HB.out | apply below_alloc | apply pw_below_drewN | apply below_drew1 | refine below_set ?_ GE159.out) | exact HB.out)) hb); have n2_ := A0q13_ (hbox); have n3_ := A0q13_ ((by rw [hg]; exact (below_size (by repeat (first | (with_reducible first | exact HB.out | apply below_alloc | apply pw_below_drewN | apply below_drew1 | refine below_set ?_ GE159.out) | exact HB.out))) : w.heap.size ≤ gb160)); have n4_ := A0q13_ ((by rw [hg]; exact (below_size (by repeat (first | (with_reducible first | exact HB.out | apply below_alloc | apply pw_below_drewN | apply below_drew1 | refine below_set ?_ GE159.out) | exact HB.out))) : w.heap.size ≤ gb160)); have n5_ := A0q13_ ((by rw [hg]; exact Nat.ne_of_lt (blk_lt (g:=gb159) (o:=.cells #[.int .i64 a0_0, .int .i64 a0_1, .string a0_2] 74 (0, 0)) (by (with_reducible repeat (first | refine blk_drewN ?_ _ | refine blk_drew ?_ | refine blk_alloc ?_ _)); exact BK159.out)) : gb159 ≠ gb160)); have n6_ := A0q13_ ((by rw [hg]; exact Nat.ne_of_gt (blk_lt (g:=gb159) (o:=.cells #[.int .i64 a0_0, .int .i64 a0_1, .string a0_2] 74 (0, 0)) (by (with_reducible repeat (first | refine blk_drewN ?_ _ | refine blk_drew ?_ | refine blk_alloc ?_ _)); exact BK159.out)) : gb160 ≠ gb159)); clear BK159; clear HB; have BK159 := n0_; have HB := n1_; have BK160 := n2_; have GW160 := n3_; have GE160 := n4_; have NB159_160 := n5_; have NB160_159 := n6_; clear n0_ n1_ n2_ n3_ n4_ n5_ n6_; clear hb hbox hg; have hnb17 := NB159_160.out; have hnc17 := NB160_159.out; have hcz18_0 : w16.cell? ⟨gb159, 0, none⟩ = some (.int .i64 a0_0) := (blk_cell BK159.out 0).trans rfl; have hcz18_1 : w16.cell? ⟨gb159, 1, none⟩ = some (.int .i64 a0_1) := (blk_cell BK159.out 1).trans rfl; have hcz18_2 : w16.cell? ⟨gb159, 2, none⟩ = some (.string a0_2) := (blk_cell BK159.out 2).trans rfl; have hfz18_0 := blk_frozen BK159.out 0; have hfz18_1 := blk_frozen BK159.out 1; have hfz18_2 := blk_frozen BK159.out 2; have hcz19_0 : w16.cell? ⟨gb160, 0, none⟩ = some (.int .i64 a1_0) := (blk_cell BK160.out 0).trans rfl; have hcz19_1 : w16.cell? ⟨gb160, 1, none⟩ = some (.int .i64 a1_1) := (blk_cell BK160.out 1).trans rfl; have hcz19_2 : w16.cell? ⟨gb160, 2, none⟩ = some (.string a1_2) := (blk_cell BK160.out 2).trans rfl; have hfz19_0 := blk_frozen BK160.out 0; have hfz19_1 := blk_frozen BK160.out 1; have hfz19_2 := blk_frozen BK160.out 2))
   go_ret
   exact ⟨by first | rfl | (simp [errW_none, errW_some] <;> rfl) | (simp [*, errW_none, errW_some] <;> rfl), by repeat (first | (with_reducible first | exact HB.out | apply below_alloc | apply pw_below_drewN | apply below_drew1 | refine below_set ?_ GE159.out | refine below_set ?_ GE160.out) | exact HB.out)⟩
mutual
def counterfoilref08_Fold.l0 : Nat → List (S74) → List (S74) → Option ((List (S74)))
 | 0, _, _ => none
 | k + 1, x0, x3 => counterfoilref08_Fold.l1 k x0 x3 (-1) 0
def counterfoilref08_Fold.l1 : Nat → List (S74) → List (S74) → Int → Int → Option ((List (S74)))
 | 0, _, _, _, _ => none
 | k + 1, x0, x3, x4, x5 => if x5 < (x0.length : Int) then (if (x3.length : Int) > 0 then (if 0 ≤ (wrap64 ((x3.length : Int) - 1)) then (if (wrap64 ((x3.length : Int) - 1)) < (x3.length : Int) then (if 0 ≤ x5 then ((counterfoilref08_less.f ((rd_T74 x3 (wrap64 ((x3.length : Int) - 1))).f0) ((rd_T74 x3 (wrap64 ((x3.length : Int) - 1))).f1) ((rd_T74 x3 (wrap64 ((x3.length : Int) - 1))).f2) ((rd_T74 x0 x5).f0) ((rd_T74 x0 x5).f1) ((rd_T74 x0 x5).f2)).bind fun t167 => (counterfoilref08_Fold.j2 k x0 x3 x4 x5 (!t167))) else (none)) else (none)) else (none)) else (counterfoilref08_Fold.j2 k x0 x3 x4 x5 false)) else (if x4 < 0 then (some x3) else (if 0 ≤ x4 then (if x4 < (x0.length : Int) then (if x3.length < 4398046511104 then (counterfoilref08_Fold.l0 k x0 (x3 ++ [(⟨(rd_T74 x0 x4).f0, (rd_T74 x0 x4).f1, (rd_T74 x0 x4).f2⟩ : S74)])) else (none)) else (none)) else (none)))
def counterfoilref08_Fold.j2 : Nat → List (S74) → List (S74) → Int → Int → Bool → Option ((List (S74)))
 | 0, _, _, _, _, _ => none
 | k + 1, x0, x3, x4, x5, x28 => if x28 = true then (counterfoilref08_Fold.l1 k x0 x3 x4 (wrap64 (x5 + 1))) else (if x4 < 0 then (counterfoilref08_Fold.l1 k x0 x3 x5 (wrap64 (x5 + 1))) else (if 0 ≤ x4 then (if x4 < (x0.length : Int) then (if 0 ≤ x5 then (if x5 < (x0.length : Int) then ((counterfoilref08_less.f ((rd_T74 x0 x4).f0) ((rd_T74 x0 x4).f1) ((rd_T74 x0 x4).f2) ((rd_T74 x0 x5).f0) ((rd_T74 x0 x5).f1) ((rd_T74 x0 x5).f2)).bind fun t170 => (if t170 = true then (counterfoilref08_Fold.l1 k x0 x3 x4 (wrap64 (x5 + 1))) else (counterfoilref08_Fold.l1 k x0 x3 x5 (wrap64 (x5 + 1))))) else (none)) else (none)) else (none)) else (none)))
end
def counterfoilref08_Fold.f (k : Nat) (l0 : List (S74)) : Option ((List (S74))) := counterfoilref08_Fold.l0 k l0 ([] : List (S74))
def counterfoilref08_Fold.T6 : Bool × List (List Nat × List Nat) := (true, [([], []), ([0], [0]), ([1], [1]), ([2], [2]), ([3], [3]), ([3], [3]), ([5, 3], [3, 5]), ([6, 3], [3, 6]), ([4, 7, 3], [3, 4, 7]), ([8, 3], [3, 8]), ([3], [3]), ([3], [3]), ([10, 11, 3], [3, 10, 11]), ([12, 3], [3, 12]), ([9, 13, 3, 3], [3, 9, 13]), ([14, 3], [3, 14]), ([3, 15], [3, 15])])
def counterfoilref08_Fold.B6 : List Nat := [0, 1, 3, 7, 15, 15, 47, 111, 255, 511, 15, 15, 3087, 7183, 16383, 32767, 65535]
theorem counterfoilref08_Fold.tab6 : rtab .any (opsOf Try.f52 6) = counterfoilref08_Fold.T6 := by kernel_rfl
theorem counterfoilref08_Fold.bits6 : waitsOk counterfoilref08_Fold.T6.2 counterfoilref08_Fold.B6 = true := by kernel_rfl
def counterfoilref08_Fold.T7 : Bool × List (List Nat × List Nat) := (true, [([], []), ([0], [0]), ([1], [1]), ([2], [2]), ([2], [2]), ([3, 4, 2], [2, 3, 4]), ([5, 2], [2, 5]), ([2], [2]), ([2], [2]), ([7, 8, 2], [2, 7, 8]), ([9, 2], [2, 9]), ([6, 10, 2, 2], [2, 6, 10]), ([11, 2], [2, 11]), ([2, 12], [2, 12])])
def counterfoilref08_Fold.B7 : List Nat := [0, 1, 3, 7, 7, 31, 63, 7, 7, 391, 903, 2047, 4095, 8191]
theorem counterfoilref08_Fold.tab7 : rtab .any (opsOf Try.f52 7) = counterfoilref08_Fold.T7 := by kernel_rfl
theorem counterfoilref08_Fold.bits7 : waitsOk counterfoilref08_Fold.T7.2 counterfoilref08_Fold.B7 = true := by kernel_rfl
set_option maxHeartbeats 8000000 in
set_option maxRecDepth 100000 in
theorem counterfoilref08_Fold.calls (k : Nat) (A0 : Option Addr) (c0 : Nat) (l0 : List (S74)) (r : List (S74)) (w : World) (hr0 : Kd.C k74 w A0 l0.length l0) (hc0 : l0.length ≤ c0) (h : counterfoilref08_Fold.f k l0 = some r) :
  Calls Try.prog 52 #[.slice A0 l0.length c0] w fun e w' => ∃ v0_ : Value, e = .returned (v0_) ∧ Kd.R k74 74 w' w.heap.size (fun _ => True) v0_ r ∧ Below w.heap.size w w' := by
 have hu74 := Try.underlying74
 have HR0 := A0q13_ hr0
 have HC0 := A0q13_ hc0
 clear hr0 hc0
 have HB := A0q13_ (Below.refl w.heap.size w)
 have H : (counterfoilref08_Fold.l0 k l0 ([] : List (S74))) = some r := h
 clear h
 have H' := A0q13_ H
 clear H
 go_enter Try.func52, Try.ntmps52
 go_wp2
 go_loopg [3] k (fun kq v3 w' => ∃ (x3_1 : List (S74)), Aside0 (counterfoilref08_Fold.l0 kq l0 x3_1 = some r) ∧ Aside0 (kq ≤ k) ∧ Aside0 (Kd.R k74 74 w' w.heap.size (fun _ => True) v3 x3_1) ∧ Aside0 (Below w.heap.size w w'))
 case atStart => exact ⟨(([] : List (S74))), H', ⟨Nat.le_refl _⟩, ⟨by first | exact Kd.R_nil _ _ _ _ _ | exact Kd.N_nil _ _ _ _ _ | exact Kd.V_nil _ _ _ _ _ | exact Kd.Q_nil _ _ _ _ _ | exact Kd.S_nil _ _ _ _ _⟩, ⟨by repeat (first | (with_reducible first | exact HB.out | apply below_alloc | apply pw_below_drewN | apply below_drew1) | exact HB.out)⟩⟩
 case round =>
  clear H'
  obtain ⟨x3_1, HA, HK1, HO_3, HB⟩ := hrel
  cases gk with
  | zero => exact absurd HA.out (by simp [counterfoilref08_Fold.l0])
  | succ k1 =>
   have H := HA.out
   clear HA
   simp only [counterfoilref08_Fold.l0] at H
   have H' := A0q13_ H
   clear H
   go_wp2
   go_loopg [4, 5] k1 (fun kq v4 v5 w' => ∃ (x4_2 : Int) (x5_2 : Int), v4 = .int .i64 x4_2 ∧ v5 = .int .i64 x5_2 ∧ Aside0 (counterfoilref08_Fold.l1 kq l0 x3_1 x4_2 x5_2 = some r) ∧ Aside0 (kq ≤ k1) ∧ Aside0 (Kd.R k74 74 w' w.heap.size (fun _ => True) u3 x3_1) ∧ Aside0 (Below w.heap.size w w'))
   case atStart => exact ⟨((-1)), (0), (by first | rfl | (simp; done) | (simp [*]; done)), (by first | rfl | (simp; done) | (simp [*]; done)), H', ⟨Nat.le_refl _⟩, ⟨by (with_reducible repeat (first | apply Kd.R_alloc | apply Kd.R_drewN | apply Kd.R_drew)); exact HO_3.out⟩, ⟨by repeat (first | (with_reducible first | exact HB.out | apply below_alloc | apply pw_below_drewN | apply below_drew1) | exact HB.out)⟩⟩
   case round =>
    clear H'
    obtain ⟨x4_2, x5_2, rfl, rfl, HA, HK2, HO_3, HB⟩ := hrel
    cases gk with
    | zero => exact absurd HA.out (by simp [counterfoilref08_Fold.l1])
    | succ k2 =>
     have H := HA.out
     clear HA
     simp only [counterfoilref08_Fold.l1] at H
     by_cases c2 : x5_2 < (l0.length : Int)
     ·rw [if_pos c2] at H
      have c2b0 : decide (x5_2 < (l0.length : Int)) = true := decide_eq_true c2
      clear c2
      have HC3 := A0q13_ H
      clear H
      go_upto_region 6 with (fail)
      go_cut [28] (fun v28 wc => ∃ (kq : Nat) (x28_2 : Bool), v28 = .bool x28_2 ∧ Aside0 (counterfoilref08_Fold.j2 kq l0 x3_1 x4_2 x5_2 x28_2 = some r) ∧ Aside0 (kq ≤ k2) ∧ Aside0 (Kd.R k74 74 wc w.heap.size (fun _ => True) u3 x3_1) ∧ Aside0 (Below w.heap.size w wc))
      case first =>
       have H := HC3.out
       clear HC3
       by_cases c4 : (x3_1.length : Int) > 0
       ·rw [if_pos c4] at H
        have c4b0 : decide (0 < (x3_1.length : Int)) = true := decide_eq_true c4
        have c4b1 : decide (0 < x3_1.length) = true := decide_eq_true (by omega)
        clear c4
        (first | rw [c4b0] | (simp only [i64_w, i32_w]; rw [c4b0]) | skip)
        obtain ⟨ji5, hji5⟩ : ∃ j_ : Int, (wrap64 ((x3_1.length : Int) - 1)) = j_ := ⟨_, rfl⟩
        replace H : (if 0 ≤ (ji5) then (if (ji5) < (x3_1.length : Int) then (if 0 ≤ x5_2 then ((counterfoilref08_less.f ((rd_T74 x3_1 (ji5)).f0) ((rd_T74 x3_1 (ji5)).f1) ((rd_T74 x3_1 (ji5)).f2) ((rd_T74 l0 x5_2).f0) ((rd_T74 l0 x5_2).f1) ((rd_T74 l0 x5_2).f2)).bind fun t167 => (counterfoilref08_Fold.j2 k2 l0 x3_1 x4_2 x5_2 (!t167))) else (none)) else (none)) else (none)) = some r := by first | (rw [hji5] at H; exact H) | (simp only [hji5] at H ⊢; exact H)
        have hji5w : (IntKind.i64.wrap ((x3_1.length : Int) - 1)) = ji5 := (i64_w _).trans hji5
        by_cases c6 : 0 ≤ (ji5)
        ·rw [if_pos c6] at H
         have c6b0 : decide (0 ≤ (ji5)) = true := decide_eq_true c6
         clear c6
         by_cases c7 : (ji5) < (x3_1.length : Int)
         ·rw [if_pos c7] at H
          have c7b0 : decide ((ji5) < (x3_1.length : Int)) = true := decide_eq_true c7
          clear c7
          by_cases c8 : 0 ≤ x5_2
          ·rw [if_pos c8] at H
           have c8b0 : decide (0 ≤ x5_2) = true := decide_eq_true c8
           clear c8
           replace H := Option.bind_eq_some_iff.mp H
           obtain ⟨t167, A90, H⟩ := H
           replace H : (counterfoilref08_Fold.j2 k2 l0 x3_1 x4_2 x5_2 (!t167)) = some r := H
           have A9 := A0q13_ A90
           clear A90
           have H' := A0q13_ H
           clear H
           try go_wp2
           have n0_ := A0q13_ (Kd.R_drew HO_3.out)
           have n1_ := A0q13_ (below_drew1 HB.out)
           clear HO_3
           clear HB
           have HO_3 := n0_
           have HB := n1_
           clear n0_ n1_
           obtain ⟨Ao11, co11, eo11⟩ := Kd.R_slice HO_3.out
           (first | subst eo11 | (injection eo11 with f1_ f2_ f3_; have f4_ := f1_.symm; have f5_ := f3_.symm; clear f1_ f2_ f3_; subst f4_; subst f5_))
           have p165 : 0 ≤ ((ji5) : Int) := of_decide_eq_true (by first | (with_reducible assumption) | assumption)
           have q165 : (ji5) < (x3_1.length : Int) := of_decide_eq_true (by first | (with_reducible assumption) | assumption)
           obtain ⟨ad165, e165, hx165_0, hx165_1, hx165_2⟩ := at_T74 (Kd.R_reads' HO_3.out).2.2 (ji5) p165 q165
           cases e165
           replace p165 := eq_true p165
           replace q165 := eq_true q165
           have p166 : 0 ≤ (x5_2 : Int) := of_decide_eq_true (by first | (with_reducible assumption) | assumption)
           have q166 : x5_2 < (l0.length : Int) := of_decide_eq_true (by first | (with_reducible assumption) | assumption)
           obtain ⟨ad166, e166, hx166_0, hx166_1, hx166_2⟩ := at_T74 HR0.out x5_2 p166 q166
           have hw166_2 := hx166_2
           have hw166_1 := hx166_1
           have hw166_0 := hx166_0
           cases e166
           replace hx166_0 := (HB.out.cell (World.block_lt_of_cell? w _ hx166_0)).trans hx166_0
           replace hx166_1 := (HB.out.cell (World.block_lt_of_cell? w _ hx166_1)).trans hx166_1
           replace hx166_2 := (HB.out.cell (World.block_lt_of_cell? w _ hx166_2)).trans hx166_2
           replace p166 := eq_true p166
           replace q166 := eq_true q166
           refine start_ (n := 17) (S := fun w' => w'.cell? (ad165.add (((ji5)).toNat * 3)) = some (.int .i64 ((rd_T74 x3_1 (ji5)).f0)) ∧ w'.cell? ⟨(ad165.add (((ji5)).toNat * 3)).block, (ad165.add (((ji5)).toNat * 3)).off + 1, none⟩ = some (.int .i64 ((rd_T74 x3_1 (ji5)).f1)) ∧ w'.cell? ⟨(ad165.add (((ji5)).toNat * 3)).block, (ad165.add (((ji5)).toNat * 3)).off + 2, none⟩ = some (.string ((rd_T74 x3_1 (ji5)).f2)) ∧ w'.cell? (ad166.add ((x5_2).toNat * 3)) = some (.int .i64 ((rd_T74 l0 x5_2).f0)) ∧ w'.cell? ⟨(ad166.add ((x5_2).toNat * 3)).block, (ad166.add ((x5_2).toNat * 3)).off + 1, none⟩ = some (.int .i64 ((rd_T74 l0 x5_2).f1)) ∧ w'.cell? ⟨(ad166.add ((x5_2).toNat * 3)).block, (ad166.add ((x5_2).toNat * 3)).off + 2, none⟩ = some (.string ((rd_T74 l0 x5_2).f2))) (ds := []) mk0q13_ (by kernel_rfl) rfl rfl ⟨hx165_0, hx165_1, hx165_2, ((HB.out.cell (World.block_lt_of_cell? w _ hw166_0)).trans hw166_0), ((HB.out.cell (World.block_lt_of_cell? w _ hw166_1)).trans hw166_1), ((HB.out.cell (World.block_lt_of_cell? w _ hw166_2)).trans hw166_2)⟩ (fun hHeld => ?_); refine with_tabW counterfoilref08_Fold.tab6 counterfoilref08_Fold.bits6 (fun HT_ HW_ => ?_)
           generalize wr.drew = w10 at HO_3 HB hx165_0 hx165_1 hx165_2 hx166_0 hx166_1 hx166_2 hHeld ⊢
           refine pure_ (i:=0) (N:=some 12) (v:=?_) (a':=?_) mk1q13_ rfl rfl (any_of HT_.out (by kernel_rfl)) (fun _ _ _ h => h) (Or.inl ⟨by rfl, ?_⟩) ?_ ?_
           rotate_left
           ·intro w'
            go_simp
            with_reducible rfl
           rotate_left
           ·simp only [Act.put, z1q13_, z2q13_, z3q13_, i64_w, i32_w]
            rfl
           refine pure_ (i:=1) (N:=some 13) (v:=?_) (a':=?_) mk2q13_ rfl rfl (any_of HT_.out (by kernel_rfl)) (fun _ _ _ h => h) (Or.inl ⟨by rfl, ?_⟩) ?_ ?_
           rotate_left
           ·intro w'
            go_simp
            with_reducible rfl
           rotate_left
           ·simp only [Act.put, z1q13_, z2q13_, z3q13_, i64_w, i32_w]
            rfl
           refine pure_ (i:=2) (N:=some 14) (v:=?_) (a':=?_) mk3q13_ rfl rfl (any_of HT_.out (by kernel_rfl)) (fun _ _ _ h => h) (Or.inl ⟨by rfl, ?_⟩) ?_ ?_
           rotate_left
           ·intro w'
            go_simp
            with_reducible rfl
           rotate_left
           ·simp only [Act.put, z1q13_, z2q13_, z3q13_, i64_w, i32_w]
            rfl
           refine pure_ (i:=3) (N:=some 15) (v:=?_) (a':=?_) mk4q13_ rfl rfl (any_of HT_.out (by kernel_rfl)) (fun _ _ _ h => h) (Or.inl ⟨by rfl, ?_⟩) ?_ ?_
           rotate_left
           ·intro w'
            go_simp
            with_reducible rfl
           rotate_left
           ·simp only [Act.put, z1q13_, z2q13_, z3q13_, i64_w, i32_w]
            rfl
           refine pure_ (i:=4) (N:=some 16) (v:=?_) (a':=?_) mk5q13_ rfl rfl (any_of HT_.out (by kernel_rfl)) (fun _ _ _ h => h) (Or.inl ⟨by rfl, ?_⟩) ?_ ?_
           rotate_left
           ·intro w'
            go_simp
            with_reducible rfl
           rotate_left
           ·simp only [Act.put, z1q13_, z2q13_, z3q13_, i64_w, i32_w]
            rfl
           refine pure_ (i:=5) (N:=some 17) (v:=?_) (a':=?_) mk6q13_ rfl rfl (any_of HT_.out (by kernel_rfl)) (fun _ _ _ h => h) (Or.inl ⟨by rfl, ?_⟩) ?_ ?_
           rotate_left
           ·intro w'
            go_simp
            with_reducible rfl
           rotate_left
           ·simp only [Act.put, z1q13_, z2q13_, z3q13_, i64_w, i32_w]
            rfl
           refine pure_ (i:=6) (N:=some 18) (v:=?_) (a':=?_) mk7q13_ rfl rfl (any_of HT_.out (by kernel_rfl)) (fun _ _ _ h => h) (Or.inl ⟨by rfl, ?_⟩) ?_ ?_
           rotate_left
           ·intro w'
            go_simp
            with_reducible rfl
           rotate_left
           ·simp only [Act.put, z1q13_, z2q13_, z3q13_, i64_w, i32_w]
            rfl
           refine pure_ (i:=7) (N:=some 19) (v:=?_) (a':=?_) mk8q13_ rfl rfl (any_of HT_.out (by kernel_rfl)) (fun _ _ _ h => h) (Or.inl ⟨by rfl, ?_⟩) ?_ ?_
           rotate_left
           ·intro w'
            go_simp
            with_reducible rfl
           rotate_left
           ·simp only [Act.put, z1q13_, z2q13_, z3q13_, i64_w, i32_w]
            rfl
           refine pure_ (i:=8) (N:=some 20) (v:=?_) (a':=?_) mk9q13_ rfl rfl (any_of HT_.out (by kernel_rfl)) (fun _ _ _ h => h) (Or.inl ⟨by rfl, ?_⟩) ?_ ?_
           rotate_left
           ·intro w'
            go_simp
            with_reducible rfl
           rotate_left
           ·simp only [Act.put, z1q13_, z2q13_, z3q13_, i64_w, i32_w]
            rfl
           refine pure_ (i:=10) (N:=some 22) (v:=?_) (a':=?_) mk10q13_ rfl rfl (any_of HT_.out (by kernel_rfl)) (fun _ _ _ h => h) (Or.inl ⟨by rfl, ?_⟩) ?_ ?_
           rotate_left
           ·intro w'
            go_simp
            with_reducible rfl
           rotate_left
           ·simp only [Act.put, z1q13_, z2q13_, z3q13_, i64_w, i32_w]
            rfl
           refine pure_ (i:=11) (N:=some 23) (v:=?_) (a':=?_) mk11q13_ rfl rfl (any_of HT_.out (by kernel_rfl)) (fun _ _ _ h => h) (Or.inl ⟨by rfl, ?_⟩) ?_ ?_
           rotate_left
           ·intro w'
            go_simp
            with_reducible rfl
           rotate_left
           ·simp only [Act.put, z1q13_, z2q13_, z3q13_, i64_w, i32_w]
            rfl
           refine pure_ (i:=12) (N:=some 24) (v:=?_) (a':=?_) mk12q13_ rfl rfl (any_of HT_.out (by kernel_rfl)) (fun _ _ _ h => h) (Or.inl ⟨by rfl, ?_⟩) ?_ ?_
           rotate_left
           ·intro w'
            go_simp
            with_reducible rfl
           rotate_left
           ·simp only [Act.put, z1q13_, z2q13_, z3q13_, i64_w, i32_w]
            rfl
           refine take_ (i:=9) (N:=some 21) (v:=?_) (a':=?_) mk13q13_ rfl rfl (take_ofW HT_.out HW_.out (by kernel_rfl)) (fun _ _ _ h => h) (Or.inl ⟨by rfl, ?_⟩) hHeld ?_ ?_
           rotate_left
           ·rintro w' ⟨s0, s1, s2, s3, s4, s5⟩
            go_simp
            with_reducible rfl
           rotate_left
           ·simp only [Act.put, z1q13_, z2q13_, z3q13_, i64_w, i32_w]
            rfl
           refine take_ (i:=13) (N:=some 25) (v:=?_) (a':=?_) mk14q13_ rfl rfl (take_ofW HT_.out HW_.out (by kernel_rfl)) (fun _ _ _ h => h) (Or.inl ⟨by rfl, ?_⟩) hHeld ?_ ?_
           rotate_left
           ·rintro w' ⟨s0, s1, s2, s3, s4, s5⟩
            go_simp
            with_reducible rfl
           rotate_left
           ·simp only [Act.put, z1q13_, z2q13_, z3q13_, i64_w, i32_w]
            rfl
           refine one_ (i:=14) (N:=some 26) mk15q13_ rfl rfl (one_of HT_.out (by kernel_rfl)) (by decide) (fun K hK => ?_)
           refine goes_ Try.func105 (by kernel_rfl) rfl #[.agg #[.int .i64 ((rd_T74 x3_1 (ji5)).f0), .int .i64 ((rd_T74 x3_1 (ji5)).f1), .string ((rd_T74 x3_1 (ji5)).f2)], .agg #[.int .i64 ((rd_T74 l0 x5_2).f0), .int .i64 ((rd_T74 l0 x5_2).f1), .string ((rd_T74 l0 x5_2).f2)]] (by rfl) rfl rfl (by (try simp only [List.map_toArray, List.map_cons, List.map_nil]); first | done | (simp only [hji5]; rfl) | rfl | (simp only [List.length_drop, List.length_take]; rfl)) ?_
           with_reducible refine (counterfoilref08_less.calls ((rd_T74 x3_1 (ji5)).f0) ((rd_T74 x3_1 (ji5)).f1) ((rd_T74 x3_1 (ji5)).f2) ((rd_T74 l0 x5_2).f0) ((rd_T74 l0 x5_2).f1) ((rd_T74 l0 x5_2).f2) t167 _ A9.out).mono ?_
           rintro e w12 ⟨rfl, hb⟩
           have HS0_ := (hb.cell (World.block_lt_of_cell? _ _ (hHeld.1))).trans (hHeld.1)
           have HS1_ := (hb.cell (World.block_lt_of_cell? _ _ (hHeld.2.1))).trans (hHeld.2.1)
           have HS2_ := (hb.cell (World.block_lt_of_cell? _ _ (hHeld.2.2.1))).trans (hHeld.2.2.1)
           refine ⟨_, rfl, ?_⟩
           have n0_ := A0q13_ (Kd.R_below (by (with_reducible repeat (first | apply Kd.R_alloc | apply Kd.R_drewN | apply Kd.R_drew)); exact HO_3.out) hb)
           have n1_ := A0q13_ (below_step (by repeat (first | (with_reducible first | exact HB.out | apply below_alloc | apply pw_below_drewN | apply below_drew1) | exact HB.out)) hb)
           clear HO_3
           clear HB
           have HO_3 := n0_
           have HB := n1_
           clear n0_ n1_
           (try clear hb)
           (try clear hb2)
           (try clear hk)
           (try clear hi)
           refine hK.out _ _ ⟨HS0_, HS1_, HS2_, ((HB.out.cell (World.block_lt_of_cell? w _ hw166_0)).trans hw166_0), ((HB.out.cell (World.block_lt_of_cell? w _ hw166_1)).trans hw166_1), ((HB.out.cell (World.block_lt_of_cell? w _ hw166_2)).trans hw166_2)⟩ (fun hHeld => ?_)
           clear hK K
           refine norm_ (a' := ?_) ?_ ?_
           rotate_left
           ·show Act.put _ (some 26) _ = _
            simp only [Act.put, z1q13_, z2q13_, z3q13_, i64_w, i32_w]
            rfl
           refine pure_ (i:=15) (N:=some 27) (v:=?_) (a':=?_) mk16q13_ rfl rfl (any_of HT_.out (by kernel_rfl)) (fun _ _ _ h => h) (Or.inl ⟨by rfl, ?_⟩) ?_ ?_
           rotate_left
           ·intro w'
            go_simp
            with_reducible rfl
           rotate_left
           ·simp only [Act.put, z1q13_, z2q13_, z3q13_, i64_w, i32_w]
            rfl
           refine pure_ (i:=16) (N:=some 28) (v:=?_) (a':=?_) mk17q13_ rfl rfl (any_of HT_.out (by kernel_rfl)) (fun _ _ _ h => h) (Or.inl ⟨by rfl, ?_⟩) ?_ ?_
           rotate_left
           ·intro w'
            go_simp
            with_reducible rfl
           rotate_left
           ·simp only [Act.put, z1q13_, z2q13_, z3q13_, i64_w, i32_w]
            rfl
           refine done_ (done_of HT_.out (by kernel_rfl)) ?_
           try go_wp2
           go_meet
           case rel => exact ⟨_, (!t167), (by first | rfl | (simp; done) | (simp [*]; done)), H', ⟨by have := HK1.out; have := HK2.out; first | omega | exact Nat.le_refl _⟩, ⟨by (with_reducible repeat (first | apply Kd.R_alloc | apply Kd.R_drewN | apply Kd.R_drew)); exact HO_3.out⟩, ⟨by repeat (first | (with_reducible first | exact HB.out | apply below_alloc | apply pw_below_drewN | apply below_drew1) | exact HB.out)⟩⟩
          ·rw [if_neg c8] at H
           exact absurd H (by simp)
         ·rw [if_neg c7] at H
          exact absurd H (by simp)
        ·rw [if_neg c6] at H
         exact absurd H (by simp)
       ·rw [if_neg c4] at H
        have c4b0 : decide (0 < (x3_1.length : Int)) = false := decide_eq_false c4
        have c4b1 : decide (0 < x3_1.length) = false := decide_eq_false (by omega)
        clear c4
        (first | rw [c4b0] | (simp only [i64_w, i32_w]; rw [c4b0]) | skip)
        have H' := A0q13_ H
        clear H
        try go_wp2
        have n0_ := A0q13_ (Kd.R_drew HO_3.out)
        have n1_ := A0q13_ (below_drew1 HB.out)
        clear HO_3
        clear HB
        have HO_3 := n0_
        have HB := n1_
        clear n0_ n1_
        obtain ⟨Ao14, co14, eo14⟩ := Kd.R_slice HO_3.out
        (first | subst eo14 | (injection eo14 with f1_ f2_ f3_; have f4_ := f1_.symm; have f5_ := f3_.symm; clear f1_ f2_ f3_; subst f4_; subst f5_))
        refine start_ (n := 17) (S := fun w' => True) (ds := []) mk0q13_ (by kernel_rfl) rfl rfl trivial (fun hHeld => ?_); refine with_tabW counterfoilref08_Fold.tab6 counterfoilref08_Fold.bits6 (fun HT_ HW_ => ?_)
        generalize wr.drew = w13 at HO_3 HB hHeld ⊢
        refine pure_ (i:=0) (N:=some 12) (v:=?_) (a':=?_) mk1q13_ rfl rfl (any_of HT_.out (by kernel_rfl)) (fun _ _ _ h => h) (Or.inl ⟨by rfl, ?_⟩) ?_ ?_
        rotate_left
        ·intro w'
         go_simp
         with_reducible rfl
        rotate_left
        ·simp only [Act.put, z1q13_, z2q13_, z3q13_, i64_w, i32_w]
         rfl
        refine pure_ (i:=1) (N:=some 13) (v:=?_) (a':=?_) mk2q13_ rfl rfl (any_of HT_.out (by kernel_rfl)) (fun _ _ _ h => h) (Or.inl ⟨by rfl, ?_⟩) ?_ ?_
        rotate_left
        ·intro w'
         go_simp
         with_reducible rfl
        rotate_left
        ·simp only [Act.put, z1q13_, z2q13_, z3q13_, i64_w, i32_w]
         rfl
        refine pure_ (i:=2) (N:=some 14) (v:=?_) (a':=?_) mk3q13_ rfl rfl (any_of HT_.out (by kernel_rfl)) (fun _ _ _ h => h) (Or.inl ⟨by rfl, ?_⟩) ?_ ?_
        rotate_left
        ·intro w'
         go_simp
         with_reducible rfl
        rotate_left
        ·simp only [Act.put, z1q13_, z2q13_, z3q13_, i64_w, i32_w]
         rfl
        refine pure_ (i:=3) (N:=some 15) (v:=?_) (a':=?_) mk4q13_ rfl rfl (any_of HT_.out (by kernel_rfl)) (fun _ _ _ h => h) (Or.inl ⟨by rfl, ?_⟩) ?_ ?_
        rotate_left
        ·intro w'
         go_simp
         with_reducible rfl
        rotate_left
        ·simp only [Act.put, z1q13_, z2q13_, z3q13_, i64_w, i32_w]
         rfl
        refine pure_ (i:=4) (N:=some 16) (v := undef) (a' := ?_) mk5q13_ rfl rfl (any_of HT_.out (by kernel_rfl)) (fun _ _ _ h => h) (Or.inr ⟨by rfl, rfl⟩) ?_ ?_
        rotate_left
        ·simp only [Act.put, z1q13_, z2q13_, z3q13_, i64_w, i32_w]
         rfl
        refine pure_ (i:=5) (N:=some 17) (v := undef) (a' := ?_) mk6q13_ rfl rfl (any_of HT_.out (by kernel_rfl)) (fun _ _ _ h => h) (Or.inr ⟨by rfl, rfl⟩) ?_ ?_
        rotate_left
        ·simp only [Act.put, z1q13_, z2q13_, z3q13_, i64_w, i32_w]
         rfl
        refine pure_ (i:=6) (N:=some 18) (v := undef) (a' := ?_) mk7q13_ rfl rfl (any_of HT_.out (by kernel_rfl)) (fun _ _ _ h => h) (Or.inr ⟨by rfl, rfl⟩) ?_ ?_
        rotate_left
        ·simp only [Act.put, z1q13_, z2q13_, z3q13_, i64_w, i32_w]
         rfl
        refine pure_ (i:=7) (N:=some 19) (v := undef) (a' := ?_) mk8q13_ rfl rfl (any_of HT_.out (by kernel_rfl)) (fun _ _ _ h => h) (Or.inr ⟨by rfl, rfl⟩) ?_ ?_
        rotate_left
        ·simp only [Act.put, z1q13_, z2q13_, z3q13_, i64_w, i32_w]
         rfl
        refine pure_ (i:=8) (N:=some 20) (v := undef) (a' := ?_) mk9q13_ rfl rfl (any_of HT_.out (by kernel_rfl)) (fun _ _ _ h => h) (Or.inr ⟨by rfl, rfl⟩) ?_ ?_
        rotate_left
        ·simp only [Act.put, z1q13_, z2q13_, z3q13_, i64_w, i32_w]
         rfl
        refine pure_ (i:=9) (N:=some 21) (v := undef) (a' := ?_) mk18q13_ rfl rfl (any_of HT_.out (by kernel_rfl)) (fun _ _ _ h => h) (Or.inr ⟨by rfl, rfl⟩) ?_ ?_
        rotate_left
        ·simp only [Act.put, z1q13_, z2q13_, z3q13_, i64_w, i32_w]
         rfl
        refine pure_ (i:=10) (N:=some 22) (v := undef) (a' := ?_) mk19q13_ rfl rfl (any_of HT_.out (by kernel_rfl)) (fun _ _ _ h => h) (Or.inr ⟨by rfl, rfl⟩) ?_ ?_
        rotate_left
        ·simp only [Act.put, z1q13_, z2q13_, z3q13_, i64_w, i32_w]
         rfl
        refine pure_ (i:=11) (N:=some 23) (v := undef) (a' := ?_) mk20q13_ rfl rfl (any_of HT_.out (by kernel_rfl)) (fun _ _ _ h => h) (Or.inr ⟨by rfl, rfl⟩) ?_ ?_
        rotate_left
        ·simp only [Act.put, z1q13_, z2q13_, z3q13_, i64_w, i32_w]
         rfl
        refine pure_ (i:=12) (N:=some 24) (v := undef) (a' := ?_) mk13q13_ rfl rfl (any_of HT_.out (by kernel_rfl)) (fun _ _ _ h => h) (Or.inr ⟨by rfl, rfl⟩) ?_ ?_
        rotate_left
        ·simp only [Act.put, z1q13_, z2q13_, z3q13_, i64_w, i32_w]
         rfl
        refine pure_ (i:=13) (N:=some 25) (v := undef) (a' := ?_) mk14q13_ rfl rfl (any_of HT_.out (by kernel_rfl)) (fun _ _ _ h => h) (Or.inr ⟨by rfl, rfl⟩) ?_ ?_
        rotate_left
        ·simp only [Act.put, z1q13_, z2q13_, z3q13_, i64_w, i32_w]
         rfl
        refine pure_ (i:=14) (N:=some 26) (v := undef) (a' := ?_) mk15q13_ rfl rfl (any_of HT_.out (by kernel_rfl)) (fun _ _ _ h => h) (Or.inr ⟨by rfl, rfl⟩) ?_ ?_
        rotate_left
        ·simp only [Act.put, z1q13_, z2q13_, z3q13_, i64_w, i32_w]
         rfl
        refine pure_ (i:=15) (N:=some 27) (v := undef) (a' := ?_) mk16q13_ rfl rfl (any_of HT_.out (by kernel_rfl)) (fun _ _ _ h => h) (Or.inr ⟨by rfl, rfl⟩) ?_ ?_
        rotate_left
        ·simp only [Act.put, z1q13_, z2q13_, z3q13_, i64_w, i32_w]
         rfl
        refine pure_ (i:=16) (N:=some 28) (v:=?_) (a':=?_) mk17q13_ rfl rfl (any_of HT_.out (by kernel_rfl)) (fun _ _ _ h => h) (Or.inl ⟨by rfl, ?_⟩) ?_ ?_
        rotate_left
        ·intro w'
         go_simp
         with_reducible rfl
        rotate_left
        ·simp only [Act.put, z1q13_, z2q13_, z3q13_, i64_w, i32_w]
         rfl
        refine done_ (done_of HT_.out (by kernel_rfl)) ?_
        try go_wp2
        go_meet
        case rel => exact ⟨_, (false), (by first | rfl | (simp; done) | (simp [*]; done)), H', ⟨by have := HK1.out; have := HK2.out; first | omega | exact Nat.le_refl _⟩, ⟨by (with_reducible repeat (first | apply Kd.R_alloc | apply Kd.R_drewN | apply Kd.R_drew)); exact HO_3.out⟩, ⟨by repeat (first | (with_reducible first | exact HB.out | apply below_alloc | apply pw_below_drewN | apply below_drew1) | exact HB.out)⟩⟩
      case rest =>
       clear HC3
       try clear c1
       try clear p1
       try clear q1
       try clear hx1
       try clear c2
       try clear c2b0
       try clear p2
       try clear c4
       try clear c4b0
       try clear c4b1
       try clear c5
       try clear c6
       try clear c6b0
       try clear p6
       try clear c7
       try clear c7b0
       try clear c8
       try clear c8b0
       try clear c10
       try clear hx165_0
       try clear hx165_1
       try clear hx165_2
       try clear hx166_0
       try clear hx166_1
       try clear hx166_2
       try clear p165
       try clear p166
       try clear q165
       try clear q166
       obtain ⟨kq, x28_2, rfl, HA, HJ2, HO_3, HB⟩ := hcut
       cases kq with
       | zero => exact absurd HA.out (by simp [counterfoilref08_Fold.j2])
       | succ kj2 =>
        have H := HA.out
        clear HA
        simp only [counterfoilref08_Fold.j2] at H
        by_cases c15 : x28_2 = true
        ·subst c15
         have H1 : (counterfoilref08_Fold.l1 kj2 l0 x3_1 x4_2 (wrap64 (x5_2 + 1))) = some r := by rw [if_pos rfl] at H; exact H
         clear H
         have H := H1
         clear H1
         have H' := A0q13_ H
         clear H
         go_wp2
         go_roundg kj2
         case measure => have := HK1.out; have := HK2.out; have := HJ2.out; omega
         case rel => exact ⟨(x4_2), (wrap64 (x5_2 + 1)), (by first | rfl | (simp; done) | (simp [*]; done)), (by first | rfl | (simp; done) | (simp [*]; done)), H', ⟨by have := HK1.out; have := HK2.out; have := HJ2.out; omega⟩, ⟨by (with_reducible repeat (first | apply Kd.R_alloc | apply Kd.R_drewN | apply Kd.R_drew)); exact HO_3.out⟩, ⟨by repeat (first | (with_reducible first | exact HB.out | apply below_alloc | apply pw_below_drewN | apply below_drew1) | exact HB.out)⟩⟩
        ·replace c15 := Bool.eq_false_iff.mpr c15
         subst c15
         have H1 : (if x4_2 < 0 then (counterfoilref08_Fold.l1 kj2 l0 x3_1 x5_2 (wrap64 (x5_2 + 1))) else (if 0 ≤ x4_2 then (if x4_2 < (l0.length : Int) then (if 0 ≤ x5_2 then (if x5_2 < (l0.length : Int) then ((counterfoilref08_less.f ((rd_T74 l0 x4_2).f0) ((rd_T74 l0 x4_2).f1) ((rd_T74 l0 x4_2).f2) ((rd_T74 l0 x5_2).f0) ((rd_T74 l0 x5_2).f1) ((rd_T74 l0 x5_2).f2)).bind fun t170 => (if t170 = true then (counterfoilref08_Fold.l1 kj2 l0 x3_1 x4_2 (wrap64 (x5_2 + 1))) else (counterfoilref08_Fold.l1 kj2 l0 x3_1 x5_2 (wrap64 (x5_2 + 1))))) else (none)) else (none)) else (none)) else (none))) = some r := by rw [if_neg (show ¬ (false = true) by decide)] at H; exact H
         clear H
         have H := H1
         clear H1
         by_cases c16 : x4_2 < 0
         ·rw [if_pos c16] at H
          have c16b0 : decide (x4_2 < 0) = true := decide_eq_true c16
          clear c16
          have H' := A0q13_ H
          clear H
          try go_wp2
          have n0_ := A0q13_ (Kd.R_drew HO_3.out)
          have n1_ := A0q13_ (below_drew1 HB.out)
          clear HO_3
          clear HB
          have HO_3 := n0_
          have HB := n1_
          clear n0_ n1_
          refine start_ (n := 14) (S := fun w' => True) (ds := []) mk21q13_ (by kernel_rfl) rfl rfl trivial (fun hHeld => ?_); refine with_tabW counterfoilref08_Fold.tab7 counterfoilref08_Fold.bits7 (fun HT_ HW_ => ?_)
          generalize wc.drew = w17 at HO_3 HB hHeld ⊢
          refine pure_ (i:=0) (N:=some 29) (v:=?_) (a':=?_) mk22q13_ rfl rfl (any_of HT_.out (by kernel_rfl)) (fun _ _ _ h => h) (Or.inl ⟨by rfl, ?_⟩) ?_ ?_
          rotate_left
          ·intro w'
           go_simp
           with_reducible rfl
          rotate_left
          ·simp only [Act.put, z1q13_, z2q13_, z3q13_, i64_w, i32_w]
           rfl
          refine pure_ (i:=1) (N:=some 30) (v:=?_) (a':=?_) mk23q13_ rfl rfl (any_of HT_.out (by kernel_rfl)) (fun _ _ _ h => h) (Or.inl ⟨by rfl, ?_⟩) ?_ ?_
          rotate_left
          ·intro w'
           go_simp
           with_reducible rfl
          rotate_left
          ·simp only [Act.put, z1q13_, z2q13_, z3q13_, i64_w, i32_w]
           rfl
          refine pure_ (i:=2) (N:=some 31) (v:=?_) (a':=?_) mk24q13_ rfl rfl (any_of HT_.out (by kernel_rfl)) (fun _ _ _ h => h) (Or.inl ⟨by rfl, ?_⟩) ?_ ?_
          rotate_left
          ·intro w'
           go_simp
           with_reducible rfl
          rotate_left
          ·simp only [Act.put, z1q13_, z2q13_, z3q13_, i64_w, i32_w]
           rfl
          refine pure_ (i:=3) (N:=some 32) (v := undef) (a' := ?_) mk25q13_ rfl rfl (any_of HT_.out (by kernel_rfl)) (fun _ _ _ h => h) (Or.inr ⟨by rfl, rfl⟩) ?_ ?_
          rotate_left
          ·simp only [Act.put, z1q13_, z2q13_, z3q13_, i64_w, i32_w]
           rfl
          refine pure_ (i:=4) (N:=some 33) (v := undef) (a' := ?_) mk26q13_ rfl rfl (any_of HT_.out (by kernel_rfl)) (fun _ _ _ h => h) (Or.inr ⟨by rfl, rfl⟩) ?_ ?_
          rotate_left
          ·simp only [Act.put, z1q13_, z2q13_, z3q13_, i64_w, i32_w]
           rfl
          refine pure_ (i:=5) (N:=some 34) (v := undef) (a' := ?_) mk27q13_ rfl rfl (any_of HT_.out (by kernel_rfl)) (fun _ _ _ h => h) (Or.inr ⟨by rfl, rfl⟩) ?_ ?_
          rotate_left
          ·simp only [Act.put, z1q13_, z2q13_, z3q13_, i64_w, i32_w]
           rfl
          refine pure_ (i:=6) (N:=some 35) (v := undef) (a' := ?_) mk28q13_ rfl rfl (any_of HT_.out (by kernel_rfl)) (fun _ _ _ h => h) (Or.inr ⟨by rfl, rfl⟩) ?_ ?_
          rotate_left
          ·simp only [Act.put, z1q13_, z2q13_, z3q13_, i64_w, i32_w]
           rfl
          refine pure_ (i:=7) (N:=some 36) (v := undef) (a' := ?_) mk29q13_ rfl rfl (any_of HT_.out (by kernel_rfl)) (fun _ _ _ h => h) (Or.inr ⟨by rfl, rfl⟩) ?_ ?_
          rotate_left
          ·simp only [Act.put, z1q13_, z2q13_, z3q13_, i64_w, i32_w]
           rfl
          refine pure_ (i:=8) (N:=some 37) (v := undef) (a' := ?_) mk30q13_ rfl rfl (any_of HT_.out (by kernel_rfl)) (fun _ _ _ h => h) (Or.inr ⟨by rfl, rfl⟩) ?_ ?_
          rotate_left
          ·simp only [Act.put, z1q13_, z2q13_, z3q13_, i64_w, i32_w]
           rfl
          refine pure_ (i:=9) (N:=some 38) (v := undef) (a' := ?_) mk31q13_ rfl rfl (any_of HT_.out (by kernel_rfl)) (fun _ _ _ h => h) (Or.inr ⟨by rfl, rfl⟩) ?_ ?_
          rotate_left
          ·simp only [Act.put, z1q13_, z2q13_, z3q13_, i64_w, i32_w]
           rfl
          refine pure_ (i:=10) (N:=some 39) (v := undef) (a' := ?_) mk32q13_ rfl rfl (any_of HT_.out (by kernel_rfl)) (fun _ _ _ h => h) (Or.inr ⟨by rfl, rfl⟩) ?_ ?_
          rotate_left
          ·simp only [Act.put, z1q13_, z2q13_, z3q13_, i64_w, i32_w]
           rfl
          refine pure_ (i:=11) (N:=some 40) (v := undef) (a' := ?_) mk33q13_ rfl rfl (any_of HT_.out (by kernel_rfl)) (fun _ _ _ h => h) (Or.inr ⟨by rfl, rfl⟩) ?_ ?_
          rotate_left
          ·simp only [Act.put, z1q13_, z2q13_, z3q13_, i64_w, i32_w]
           rfl
          refine pure_ (i:=12) (N:=some 41) (v := undef) (a' := ?_) mk34q13_ rfl rfl (any_of HT_.out (by kernel_rfl)) (fun _ _ _ h => h) (Or.inr ⟨by rfl, rfl⟩) ?_ ?_
          rotate_left
          ·simp only [Act.put, z1q13_, z2q13_, z3q13_, i64_w, i32_w]
           rfl
          refine pure_ (i:=13) (N:=some 42) (v:=?_) (a':=?_) mk35q13_ rfl rfl (any_of HT_.out (by kernel_rfl)) (fun _ _ _ h => h) (Or.inl ⟨by rfl, ?_⟩) ?_ ?_
          rotate_left
          ·intro w'
           go_simp
           with_reducible rfl
          rotate_left
          ·simp only [Act.put, z1q13_, z2q13_, z3q13_, i64_w, i32_w]
           rfl
          refine done_ (done_of HT_.out (by kernel_rfl)) ?_
          try go_wp2
          go_roundg kj2
          case measure => have := HK1.out; have := HK2.out; have := HJ2.out; omega
          case rel => exact ⟨(x5_2), (wrap64 (x5_2 + 1)), (by first | rfl | (simp; done) | (simp [*]; done)), (by first | rfl | (simp; done) | (simp [*]; done)), H', ⟨by have := HK1.out; have := HK2.out; have := HJ2.out; omega⟩, ⟨by (with_reducible repeat (first | apply Kd.R_alloc | apply Kd.R_drewN | apply Kd.R_drew)); exact HO_3.out⟩, ⟨by repeat (first | (with_reducible first | exact HB.out | apply below_alloc | apply pw_below_drewN | apply below_drew1) | exact HB.out)⟩⟩
         ·rw [if_neg c16] at H
          have c16b0 : decide (x4_2 < 0) = false := decide_eq_false c16
          clear c16
          by_cases c18 : 0 ≤ x4_2
          ·rw [if_pos c18] at H
           have c18b0 : decide (0 ≤ x4_2) = true := decide_eq_true c18
           clear c18
           by_cases c19 : x4_2 < (l0.length : Int)
           ·rw [if_pos c19] at H
            have c19b0 : decide (x4_2 < (l0.length : Int)) = true := decide_eq_true c19
            clear c19
            by_cases c20 : 0 ≤ x5_2
            ·rw [if_pos c20] at H
             have c20b0 : decide (0 ≤ x5_2) = true := decide_eq_true c20
             clear c20
             by_cases c21 : x5_2 < (l0.length : Int)
             ·rw [if_pos c21] at H
              have c21b0 : decide (x5_2 < (l0.length : Int)) = true := decide_eq_true c21
              clear c21
              replace H := Option.bind_eq_some_iff.mp H
              obtain ⟨t170, A220, H⟩ := H
              replace H : (if t170 = true then (counterfoilref08_Fold.l1 kj2 l0 x3_1 x4_2 (wrap64 (x5_2 + 1))) else (counterfoilref08_Fold.l1 kj2 l0 x3_1 x5_2 (wrap64 (x5_2 + 1)))) = some r := H
              have A22 := A0q13_ A220
              clear A220
              by_cases c23 : t170 = true
              ·subst c23
               have H1 : (counterfoilref08_Fold.l1 kj2 l0 x3_1 x4_2 (wrap64 (x5_2 + 1))) = some r := by rw [if_pos rfl] at H; exact H
               clear H
               have H := H1
               clear H1
               have H' := A0q13_ H
               clear H
               try go_wp2
               have n0_ := A0q13_ (Kd.R_drew HO_3.out)
               have n1_ := A0q13_ (below_drew1 HB.out)
               clear HO_3
               clear HB
               have HO_3 := n0_
               have HB := n1_
               clear n0_ n1_
               have p168 : 0 ≤ (x4_2 : Int) := of_decide_eq_true (by first | (with_reducible assumption) | assumption)
               have q168 : x4_2 < (l0.length : Int) := of_decide_eq_true (by first | (with_reducible assumption) | assumption)
               obtain ⟨ad168, e168, hx168_0, hx168_1, hx168_2⟩ := at_T74 HR0.out x4_2 p168 q168
               have hw168_2 := hx168_2
               have hw168_1 := hx168_1
               have hw168_0 := hx168_0
               cases e168
               replace hx168_0 := (HB.out.cell (World.block_lt_of_cell? w _ hx168_0)).trans hx168_0
               replace hx168_1 := (HB.out.cell (World.block_lt_of_cell? w _ hx168_1)).trans hx168_1
               replace hx168_2 := (HB.out.cell (World.block_lt_of_cell? w _ hx168_2)).trans hx168_2
               replace p168 := eq_true p168
               replace q168 := eq_true q168
               have p169 : 0 ≤ (x5_2 : Int) := of_decide_eq_true (by first | (with_reducible assumption) | assumption)
               have q169 : x5_2 < (l0.length : Int) := of_decide_eq_true (by first | (with_reducible assumption) | assumption)
               obtain ⟨ad169, e169, hx169_0, hx169_1, hx169_2⟩ := at_T74 HR0.out x5_2 p169 q169
               have hw169_2 := hx169_2
               have hw169_1 := hx169_1
               have hw169_0 := hx169_0
               obtain rfl : ad168 = ad169 := (by injection e169)
               replace hx169_0 := (HB.out.cell (World.block_lt_of_cell? w _ hx169_0)).trans hx169_0
               replace hx169_1 := (HB.out.cell (World.block_lt_of_cell? w _ hx169_1)).trans hx169_1
               replace hx169_2 := (HB.out.cell (World.block_lt_of_cell? w _ hx169_2)).trans hx169_2
               replace p169 := eq_true p169
               replace q169 := eq_true q169
               refine start_ (n := 14) (S := fun w' => w'.cell? (ad168.add ((x4_2).toNat * 3)) = some (.int .i64 ((rd_T74 l0 x4_2).f0)) ∧ w'.cell? ⟨(ad168.add ((x4_2).toNat * 3)).block, (ad168.add ((x4_2).toNat * 3)).off + 1, none⟩ = some (.int .i64 ((rd_T74 l0 x4_2).f1)) ∧ w'.cell? ⟨(ad168.add ((x4_2).toNat * 3)).block, (ad168.add ((x4_2).toNat * 3)).off + 2, none⟩ = some (.string ((rd_T74 l0 x4_2).f2)) ∧ w'.cell? (ad168.add ((x5_2).toNat * 3)) = some (.int .i64 ((rd_T74 l0 x5_2).f0)) ∧ w'.cell? ⟨(ad168.add ((x5_2).toNat * 3)).block, (ad168.add ((x5_2).toNat * 3)).off + 1, none⟩ = some (.int .i64 ((rd_T74 l0 x5_2).f1)) ∧ w'.cell? ⟨(ad168.add ((x5_2).toNat * 3)).block, (ad168.add ((x5_2).toNat * 3)).off + 2, none⟩ = some (.string ((rd_T74 l0 x5_2).f2))) (ds := []) mk21q13_ (by kernel_rfl) rfl rfl ⟨((HB.out.cell (World.block_lt_of_cell? w _ hw168_0)).trans hw168_0), ((HB.out.cell (World.block_lt_of_cell? w _ hw168_1)).trans hw168_1), ((HB.out.cell (World.block_lt_of_cell? w _ hw168_2)).trans hw168_2), ((HB.out.cell (World.block_lt_of_cell? w _ hw169_0)).trans hw169_0), ((HB.out.cell (World.block_lt_of_cell? w _ hw169_1)).trans hw169_1), ((HB.out.cell (World.block_lt_of_cell? w _ hw169_2)).trans hw169_2)⟩ (fun hHeld => ?_); refine with_tabW counterfoilref08_Fold.tab7 counterfoilref08_Fold.bits7 (fun HT_ HW_ => ?_)
               generalize wc.drew = w24 at HO_3 HB hx168_0 hx168_1 hx168_2 hx169_0 hx169_1 hx169_2 hHeld ⊢
               refine pure_ (i:=0) (N:=some 29) (v:=?_) (a':=?_) mk22q13_ rfl rfl (any_of HT_.out (by kernel_rfl)) (fun _ _ _ h => h) (Or.inl ⟨by rfl, ?_⟩) ?_ ?_
               rotate_left
               ·intro w'
                go_simp
                with_reducible rfl
               rotate_left
               ·simp only [Act.put, z1q13_, z2q13_, z3q13_, i64_w, i32_w]
                rfl
               refine pure_ (i:=1) (N:=some 30) (v:=?_) (a':=?_) mk23q13_ rfl rfl (any_of HT_.out (by kernel_rfl)) (fun _ _ _ h => h) (Or.inl ⟨by rfl, ?_⟩) ?_ ?_
               rotate_left
               ·intro w'
                go_simp
                with_reducible rfl
               rotate_left
               ·simp only [Act.put, z1q13_, z2q13_, z3q13_, i64_w, i32_w]
                rfl
               refine pure_ (i:=2) (N:=some 31) (v:=?_) (a':=?_) mk24q13_ rfl rfl (any_of HT_.out (by kernel_rfl)) (fun _ _ _ h => h) (Or.inl ⟨by rfl, ?_⟩) ?_ ?_
               rotate_left
               ·intro w'
                go_simp
                with_reducible rfl
               rotate_left
               ·simp only [Act.put, z1q13_, z2q13_, z3q13_, i64_w, i32_w]
                rfl
               refine pure_ (i:=3) (N:=some 32) (v:=?_) (a':=?_) mk25q13_ rfl rfl (any_of HT_.out (by kernel_rfl)) (fun _ _ _ h => h) (Or.inl ⟨by rfl, ?_⟩) ?_ ?_
               rotate_left
               ·intro w'
                go_simp
                with_reducible rfl
               rotate_left
               ·simp only [Act.put, z1q13_, z2q13_, z3q13_, i64_w, i32_w]
                rfl
               refine pure_ (i:=4) (N:=some 33) (v:=?_) (a':=?_) mk26q13_ rfl rfl (any_of HT_.out (by kernel_rfl)) (fun _ _ _ h => h) (Or.inl ⟨by rfl, ?_⟩) ?_ ?_
               rotate_left
               ·intro w'
                go_simp
                with_reducible rfl
               rotate_left
               ·simp only [Act.put, z1q13_, z2q13_, z3q13_, i64_w, i32_w]
                rfl
               refine pure_ (i:=5) (N:=some 34) (v:=?_) (a':=?_) mk27q13_ rfl rfl (any_of HT_.out (by kernel_rfl)) (fun _ _ _ h => h) (Or.inl ⟨by rfl, ?_⟩) ?_ ?_
               rotate_left
               ·intro w'
                go_simp
                with_reducible rfl
               rotate_left
               ·simp only [Act.put, z1q13_, z2q13_, z3q13_, i64_w, i32_w]
                rfl
               refine pure_ (i:=7) (N:=some 36) (v:=?_) (a':=?_) mk36q13_ rfl rfl (any_of HT_.out (by kernel_rfl)) (fun _ _ _ h => h) (Or.inl ⟨by rfl, ?_⟩) ?_ ?_
               rotate_left
               ·intro w'
                go_simp
                with_reducible rfl
               rotate_left
               ·simp only [Act.put, z1q13_, z2q13_, z3q13_, i64_w, i32_w]
                rfl
               refine pure_ (i:=8) (N:=some 37) (v:=?_) (a':=?_) mk37q13_ rfl rfl (any_of HT_.out (by kernel_rfl)) (fun _ _ _ h => h) (Or.inl ⟨by rfl, ?_⟩) ?_ ?_
               rotate_left
               ·intro w'
                go_simp
                with_reducible rfl
               rotate_left
               ·simp only [Act.put, z1q13_, z2q13_, z3q13_, i64_w, i32_w]
                rfl
               refine pure_ (i:=9) (N:=some 38) (v:=?_) (a':=?_) mk38q13_ rfl rfl (any_of HT_.out (by kernel_rfl)) (fun _ _ _ h => h) (Or.inl ⟨by rfl, ?_⟩) ?_ ?_
               rotate_left
               ·intro w'
                go_simp
                with_reducible rfl
               rotate_left
               ·simp only [Act.put, z1q13_, z2q13_, z3q13_, i64_w, i32_w]
                rfl
               refine take_ (i:=6) (N:=some 35) (v:=?_) (a':=?_) mk31q13_ rfl rfl (take_ofW HT_.out HW_.out (by kernel_rfl)) (fun _ _ _ h => h) (Or.inl ⟨by rfl, ?_⟩) hHeld ?_ ?_
               rotate_left
               ·rintro w' ⟨s0, s1, s2, s3, s4, s5⟩
                go_simp
                with_reducible rfl
               rotate_left
               ·simp only [Act.put, z1q13_, z2q13_, z3q13_, i64_w, i32_w]
                rfl
               refine take_ (i:=10) (N:=some 39) (v:=?_) (a':=?_) mk32q13_ rfl rfl (take_ofW HT_.out HW_.out (by kernel_rfl)) (fun _ _ _ h => h) (Or.inl ⟨by rfl, ?_⟩) hHeld ?_ ?_
               rotate_left
               ·rintro w' ⟨s0, s1, s2, s3, s4, s5⟩
                go_simp
                with_reducible rfl
               rotate_left
               ·simp only [Act.put, z1q13_, z2q13_, z3q13_, i64_w, i32_w]
                rfl
               refine one_ (i:=11) (N:=some 40) mk33q13_ rfl rfl (one_of HT_.out (by kernel_rfl)) (by decide) (fun K hK => ?_)
               refine goes_ Try.func105 (by kernel_rfl) rfl #[.agg #[.int .i64 ((rd_T74 l0 x4_2).f0), .int .i64 ((rd_T74 l0 x4_2).f1), .string ((rd_T74 l0 x4_2).f2)], .agg #[.int .i64 ((rd_T74 l0 x5_2).f0), .int .i64 ((rd_T74 l0 x5_2).f1), .string ((rd_T74 l0 x5_2).f2)]] (by rfl) rfl rfl (by (try simp only [List.map_toArray, List.map_cons, List.map_nil]); first | done | rfl | (simp only [List.length_drop, List.length_take]; rfl)) ?_
               with_reducible refine (counterfoilref08_less.calls ((rd_T74 l0 x4_2).f0) ((rd_T74 l0 x4_2).f1) ((rd_T74 l0 x4_2).f2) ((rd_T74 l0 x5_2).f0) ((rd_T74 l0 x5_2).f1) ((rd_T74 l0 x5_2).f2) true _ A22.out).mono ?_
               rintro e w25 ⟨rfl, hb⟩
               refine ⟨_, rfl, ?_⟩
               have n0_ := A0q13_ (Kd.R_below (by (with_reducible repeat (first | apply Kd.R_alloc | apply Kd.R_drewN | apply Kd.R_drew)); exact HO_3.out) hb)
               have n1_ := A0q13_ (below_step (by repeat (first | (with_reducible first | exact HB.out | apply below_alloc | apply pw_below_drewN | apply below_drew1) | exact HB.out)) hb)
               clear HO_3
               clear HB
               have HO_3 := n0_
               have HB := n1_
               clear n0_ n1_
               (try clear hb)
               (try clear hb2)
               (try clear hk)
               (try clear hi)
               refine hK.out _ _ ⟨((HB.out.cell (World.block_lt_of_cell? w _ hw168_0)).trans hw168_0), ((HB.out.cell (World.block_lt_of_cell? w _ hw168_1)).trans hw168_1), ((HB.out.cell (World.block_lt_of_cell? w _ hw168_2)).trans hw168_2), ((HB.out.cell (World.block_lt_of_cell? w _ hw169_0)).trans hw169_0), ((HB.out.cell (World.block_lt_of_cell? w _ hw169_1)).trans hw169_1), ((HB.out.cell (World.block_lt_of_cell? w _ hw169_2)).trans hw169_2)⟩ (fun hHeld => ?_)
               clear hK K
               refine norm_ (a' := ?_) ?_ ?_
               rotate_left
               ·show Act.put _ (some 40) _ = _
                simp only [Act.put, z1q13_, z2q13_, z3q13_, i64_w, i32_w]
                rfl
               refine pure_ (i:=12) (N:=some 41) (v:=?_) (a':=?_) mk34q13_ rfl rfl (any_of HT_.out (by kernel_rfl)) (fun _ _ _ h => h) (Or.inl ⟨by rfl, ?_⟩) ?_ ?_
               rotate_left
               ·intro w'
                go_simp
                with_reducible rfl
               rotate_left
               ·simp only [Act.put, z1q13_, z2q13_, z3q13_, i64_w, i32_w]
                rfl
               refine pure_ (i:=13) (N:=some 42) (v:=?_) (a':=?_) mk35q13_ rfl rfl (any_of HT_.out (by kernel_rfl)) (fun _ _ _ h => h) (Or.inl ⟨by rfl, ?_⟩) ?_ ?_
               rotate_left
               ·intro w'
                go_simp
                with_reducible rfl
               rotate_left
               ·simp only [Act.put, z1q13_, z2q13_, z3q13_, i64_w, i32_w]
                rfl
               refine done_ (done_of HT_.out (by kernel_rfl)) ?_
               try go_wp2
               go_roundg kj2
               case measure => have := HK1.out; have := HK2.out; have := HJ2.out; omega
               case rel => exact ⟨(x4_2), (wrap64 (x5_2 + 1)), (by first | rfl | (simp; done) | (simp [*]; done)), (by first | rfl | (simp; done) | (simp [*]; done)), H', ⟨by have := HK1.out; have := HK2.out; have := HJ2.out; omega⟩, ⟨by (with_reducible repeat (first | apply Kd.R_alloc | apply Kd.R_drewN | apply Kd.R_drew)); exact HO_3.out⟩, ⟨by repeat (first | (with_reducible first | exact HB.out | apply below_alloc | apply pw_below_drewN | apply below_drew1) | exact HB.out)⟩⟩
              ·replace c23 := Bool.eq_false_iff.mpr c23
               subst c23
               have H1 : (counterfoilref08_Fold.l1 kj2 l0 x3_1 x5_2 (wrap64 (x5_2 + 1))) = some r := by rw [if_neg (show ¬ (false = true) by decide)] at H; exact H
               clear H
               have H := H1
               clear H1
               have H' := A0q13_ H
               clear H
               try go_wp2
               have n0_ := A0q13_ (Kd.R_drew HO_3.out)
               have n1_ := A0q13_ (below_drew1 HB.out)
               clear HO_3
               clear HB
               have HO_3 := n0_
               have HB := n1_
               clear n0_ n1_
               have p168 : 0 ≤ (x4_2 : Int) := of_decide_eq_true (by first | (with_reducible assumption) | assumption)
               have q168 : x4_2 < (l0.length : Int) := of_decide_eq_true (by first | (with_reducible assumption) | assumption)
               obtain ⟨ad168, e168, hx168_0, hx168_1, hx168_2⟩ := at_T74 HR0.out x4_2 p168 q168
               have hw168_2 := hx168_2
               have hw168_1 := hx168_1
               have hw168_0 := hx168_0
               cases e168
               replace hx168_0 := (HB.out.cell (World.block_lt_of_cell? w _ hx168_0)).trans hx168_0
               replace hx168_1 := (HB.out.cell (World.block_lt_of_cell? w _ hx168_1)).trans hx168_1
               replace hx168_2 := (HB.out.cell (World.block_lt_of_cell? w _ hx168_2)).trans hx168_2
               replace p168 := eq_true p168
               replace q168 := eq_true q168
               have p169 : 0 ≤ (x5_2 : Int) := of_decide_eq_true (by first | (with_reducible assumption) | assumption)
               have q169 : x5_2 < (l0.length : Int) := of_decide_eq_true (by first | (with_reducible assumption) | assumption)
               obtain ⟨ad169, e169, hx169_0, hx169_1, hx169_2⟩ := at_T74 HR0.out x5_2 p169 q169
               have hw169_2 := hx169_2
               have hw169_1 := hx169_1
               have hw169_0 := hx169_0
               obtain rfl : ad168 = ad169 := (by injection e169)
               replace hx169_0 := (HB.out.cell (World.block_lt_of_cell? w _ hx169_0)).trans hx169_0
               replace hx169_1 := (HB.out.cell (World.block_lt_of_cell? w _ hx169_1)).trans hx169_1
               replace hx169_2 := (HB.out.cell (World.block_lt_of_cell? w _ hx169_2)).trans hx169_2
               replace p169 := eq_true p169
               replace q169 := eq_true q169
               refine start_ (n := 14) (S := fun w' => w'.cell? (ad168.add ((x4_2).toNat * 3)) = some (.int .i64 ((rd_T74 l0 x4_2).f0)) ∧ w'.cell? ⟨(ad168.add ((x4_2).toNat * 3)).block, (ad168.add ((x4_2).toNat * 3)).off + 1, none⟩ = some (.int .i64 ((rd_T74 l0 x4_2).f1)) ∧ w'.cell? ⟨(ad168.add ((x4_2).toNat * 3)).block, (ad168.add ((x4_2).toNat * 3)).off + 2, none⟩ = some (.string ((rd_T74 l0 x4_2).f2)) ∧ w'.cell? (ad168.add ((x5_2).toNat * 3)) = some (.int .i64 ((rd_T74 l0 x5_2).f0)) ∧ w'.cell? ⟨(ad168.add ((x5_2).toNat * 3)).block, (ad168.add ((x5_2).toNat * 3)).off + 1, none⟩ = some (.int .i64 ((rd_T74 l0 x5_2).f1)) ∧ w'.cell? ⟨(ad168.add ((x5_2).toNat * 3)).block, (ad168.add ((x5_2).toNat * 3)).off + 2, none⟩ = some (.string ((rd_T74 l0 x5_2).f2))) (ds := []) mk21q13_ (by kernel_rfl) rfl rfl ⟨((HB.out.cell (World.block_lt_of_cell? w _ hw168_0)).trans hw168_0), ((HB.out.cell (World.block_lt_of_cell? w _ hw168_1)).trans hw168_1), ((HB.out.cell (World.block_lt_of_cell? w _ hw168_2)).trans hw168_2), ((HB.out.cell (World.block_lt_of_cell? w _ hw169_0)).trans hw169_0), ((HB.out.cell (World.block_lt_of_cell? w _ hw169_1)).trans hw169_1), ((HB.out.cell (World.block_lt_of_cell? w _ hw169_2)).trans hw169_2)⟩ (fun hHeld => ?_); refine with_tabW counterfoilref08_Fold.tab7 counterfoilref08_Fold.bits7 (fun HT_ HW_ => ?_)
               generalize wc.drew = w26 at HO_3 HB hx168_0 hx168_1 hx168_2 hx169_0 hx169_1 hx169_2 hHeld ⊢
               refine pure_ (i:=0) (N:=some 29) (v:=?_) (a':=?_) mk22q13_ rfl rfl (any_of HT_.out (by kernel_rfl)) (fun _ _ _ h => h) (Or.inl ⟨by rfl, ?_⟩) ?_ ?_
               rotate_left
               ·intro w'
                go_simp
                with_reducible rfl
               rotate_left
               ·simp only [Act.put, z1q13_, z2q13_, z3q13_, i64_w, i32_w]
                rfl
               refine pure_ (i:=1) (N:=some 30) (v:=?_) (a':=?_) mk23q13_ rfl rfl (any_of HT_.out (by kernel_rfl)) (fun _ _ _ h => h) (Or.inl ⟨by rfl, ?_⟩) ?_ ?_
               rotate_left
               ·intro w'
                go_simp
                with_reducible rfl
               rotate_left
               ·simp only [Act.put, z1q13_, z2q13_, z3q13_, i64_w, i32_w]
                rfl
               refine pure_ (i:=2) (N:=some 31) (v:=?_) (a':=?_) mk24q13_ rfl rfl (any_of HT_.out (by kernel_rfl)) (fun _ _ _ h => h) (Or.inl ⟨by rfl, ?_⟩) ?_ ?_
               rotate_left
               ·intro w'
                go_simp
                with_reducible rfl
               rotate_left
               ·simp only [Act.put, z1q13_, z2q13_, z3q13_, i64_w, i32_w]
                rfl
               refine pure_ (i:=3) (N:=some 32) (v:=?_) (a':=?_) mk25q13_ rfl rfl (any_of HT_.out (by kernel_rfl)) (fun _ _ _ h => h) (Or.inl ⟨by rfl, ?_⟩) ?_ ?_
               rotate_left
               ·intro w'
                go_simp
                with_reducible rfl
               rotate_left
               ·simp only [Act.put, z1q13_, z2q13_, z3q13_, i64_w, i32_w]
                rfl
               refine pure_ (i:=4) (N:=some 33) (v:=?_) (a':=?_) mk26q13_ rfl rfl (any_of HT_.out (by kernel_rfl)) (fun _ _ _ h => h) (Or.inl ⟨by rfl, ?_⟩) ?_ ?_
               rotate_left
               ·intro w'
                go_simp
                with_reducible rfl
               rotate_left
               ·simp only [Act.put, z1q13_, z2q13_, z3q13_, i64_w, i32_w]
                rfl
               refine pure_ (i:=5) (N:=some 34) (v:=?_) (a':=?_) mk27q13_ rfl rfl (any_of HT_.out (by kernel_rfl)) (fun _ _ _ h => h) (Or.inl ⟨by rfl, ?_⟩) ?_ ?_
               rotate_left
               ·intro w'
                go_simp
                with_reducible rfl
               rotate_left
               ·simp only [Act.put, z1q13_, z2q13_, z3q13_, i64_w, i32_w]
                rfl
               refine pure_ (i:=7) (N:=some 36) (v:=?_) (a':=?_) mk36q13_ rfl rfl (any_of HT_.out (by kernel_rfl)) (fun _ _ _ h => h) (Or.inl ⟨by rfl, ?_⟩) ?_ ?_
               rotate_left
               ·intro w'
                go_simp
                with_reducible rfl
               rotate_left
               ·simp only [Act.put, z1q13_, z2q13_, z3q13_, i64_w, i32_w]
                rfl
               refine pure_ (i:=8) (N:=some 37) (v:=?_) (a':=?_) mk37q13_ rfl rfl (any_of HT_.out (by kernel_rfl)) (fun _ _ _ h => h) (Or.inl ⟨by rfl, ?_⟩) ?_ ?_
               rotate_left
               ·intro w'
                go_simp
                with_reducible rfl
               rotate_left
               ·simp only [Act.put, z1q13_, z2q13_, z3q13_, i64_w, i32_w]
                rfl
               refine pure_ (i:=9) (N:=some 38) (v:=?_) (a':=?_) mk38q13_ rfl rfl (any_of HT_.out (by kernel_rfl)) (fun _ _ _ h => h) (Or.inl ⟨by rfl, ?_⟩) ?_ ?_
               rotate_left
               ·intro w'
                go_simp
                with_reducible rfl
               rotate_left
               ·simp only [Act.put, z1q13_, z2q13_, z3q13_, i64_w, i32_w]
                rfl
               refine take_ (i:=6) (N:=some 35) (v:=?_) (a':=?_) mk31q13_ rfl rfl (take_ofW HT_.out HW_.out (by kernel_rfl)) (fun _ _ _ h => h) (Or.inl ⟨by rfl, ?_⟩) hHeld ?_ ?_
               rotate_left
               ·rintro w' ⟨s0, s1, s2, s3, s4, s5⟩
                go_simp
                with_reducible rfl
               rotate_left
               ·simp only [Act.put, z1q13_, z2q13_, z3q13_, i64_w, i32_w]
                rfl
               refine take_ (i:=10) (N:=some 39) (v:=?_) (a':=?_) mk32q13_ rfl rfl (take_ofW HT_.out HW_.out (by kernel_rfl)) (fun _ _ _ h => h) (Or.inl ⟨by rfl, ?_⟩) hHeld ?_ ?_
               rotate_left
               ·rintro w' ⟨s0, s1, s2, s3, s4, s5⟩
                go_simp
                with_reducible rfl
               rotate_left
               ·simp only [Act.put, z1q13_, z2q13_, z3q13_, i64_w, i32_w]
                rfl
               refine one_ (i:=11) (N:=some 40) mk33q13_ rfl rfl (one_of HT_.out (by kernel_rfl)) (by decide) (fun K hK => ?_)
               refine goes_ Try.func105 (by kernel_rfl) rfl #[.agg #[.int .i64 ((rd_T74 l0 x4_2).f0), .int .i64 ((rd_T74 l0 x4_2).f1), .string ((rd_T74 l0 x4_2).f2)], .agg #[.int .i64 ((rd_T74 l0 x5_2).f0), .int .i64 ((rd_T74 l0 x5_2).f1), .string ((rd_T74 l0 x5_2).f2)]] (by rfl) rfl rfl (by (try simp only [List.map_toArray, List.map_cons, List.map_nil]); first | done | rfl | (simp only [List.length_drop, List.length_take]; rfl)) ?_
               with_reducible refine (counterfoilref08_less.calls ((rd_T74 l0 x4_2).f0) ((rd_T74 l0 x4_2).f1) ((rd_T74 l0 x4_2).f2) ((rd_T74 l0 x5_2).f0) ((rd_T74 l0 x5_2).f1) ((rd_T74 l0 x5_2).f2) false _ A22.out).mono ?_
               rintro e w27 ⟨rfl, hb⟩
               refine ⟨_, rfl, ?_⟩
               have n0_ := A0q13_ (Kd.R_below (by (with_reducible repeat (first | apply Kd.R_alloc | apply Kd.R_drewN | apply Kd.R_drew)); exact HO_3.out) hb)
               have n1_ := A0q13_ (below_step (by repeat (first | (with_reducible first | exact HB.out | apply below_alloc | apply pw_below_drewN | apply below_drew1) | exact HB.out)) hb)
               clear HO_3
               clear HB
               have HO_3 := n0_
               have HB := n1_
               clear n0_ n1_
               (try clear hb)
               (try clear hb2)
               (try clear hk)
               (try clear hi)
               refine hK.out _ _ ⟨((HB.out.cell (World.block_lt_of_cell? w _ hw168_0)).trans hw168_0), ((HB.out.cell (World.block_lt_of_cell? w _ hw168_1)).trans hw168_1), ((HB.out.cell (World.block_lt_of_cell? w _ hw168_2)).trans hw168_2), ((HB.out.cell (World.block_lt_of_cell? w _ hw169_0)).trans hw169_0), ((HB.out.cell (World.block_lt_of_cell? w _ hw169_1)).trans hw169_1), ((HB.out.cell (World.block_lt_of_cell? w _ hw169_2)).trans hw169_2)⟩ (fun hHeld => ?_)
               clear hK K
               refine norm_ (a' := ?_) ?_ ?_
               rotate_left
               ·show Act.put _ (some 40) _ = _
                simp only [Act.put, z1q13_, z2q13_, z3q13_, i64_w, i32_w]
                rfl
               refine pure_ (i:=12) (N:=some 41) (v:=?_) (a':=?_) mk34q13_ rfl rfl (any_of HT_.out (by kernel_rfl)) (fun _ _ _ h => h) (Or.inl ⟨by rfl, ?_⟩) ?_ ?_
               rotate_left
               ·intro w'
                go_simp
                with_reducible rfl
               rotate_left
               ·simp only [Act.put, z1q13_, z2q13_, z3q13_, i64_w, i32_w]
                rfl
               refine pure_ (i:=13) (N:=some 42) (v:=?_) (a':=?_) mk35q13_ rfl rfl (any_of HT_.out (by kernel_rfl)) (fun _ _ _ h => h) (Or.inl ⟨by rfl, ?_⟩) ?_ ?_
               rotate_left
               ·intro w'
                go_simp
                with_reducible rfl
               rotate_left
               ·simp only [Act.put, z1q13_, z2q13_, z3q13_, i64_w, i32_w]
                rfl
               refine done_ (done_of HT_.out (by kernel_rfl)) ?_
               try go_wp2
               go_roundg kj2
               case measure => have := HK1.out; have := HK2.out; have := HJ2.out; omega
               case rel => exact ⟨(x5_2), (wrap64 (x5_2 + 1)), (by first | rfl | (simp; done) | (simp [*]; done)), (by first | rfl | (simp; done) | (simp [*]; done)), H', ⟨by have := HK1.out; have := HK2.out; have := HJ2.out; omega⟩, ⟨by (with_reducible repeat (first | apply Kd.R_alloc | apply Kd.R_drewN | apply Kd.R_drew)); exact HO_3.out⟩, ⟨by repeat (first | (with_reducible first | exact HB.out | apply below_alloc | apply pw_below_drewN | apply below_drew1) | exact HB.out)⟩⟩
             ·rw [if_neg c21] at H
              exact absurd H (by simp)
            ·rw [if_neg c20] at H
             exact absurd H (by simp)
           ·rw [if_neg c19] at H
            exact absurd H (by simp)
          ·rw [if_neg c18] at H
           exact absurd H (by simp)
     ·rw [if_neg c2] at H
      have c2b0 : decide (x5_2 < (l0.length : Int)) = false := decide_eq_false c2
      clear c2
      by_cases c28 : x4_2 < 0
      ·rw [if_pos c28] at H
       have c28b0 : decide (x4_2 < 0) = true := decide_eq_true c28
       clear c28
       obtain rfl := Option.some.inj H
       go_wp2
       go_ret
       exact ⟨_, by first | rfl | (simp [errW_none, errW_some] <;> rfl) | (simp [*, errW_none, errW_some] <;> rfl), by (with_reducible repeat (first | apply Kd.R_alloc | apply Kd.R_drewN | apply Kd.R_drew)); exact HO_3.out, by repeat (first | (with_reducible first | exact HB.out | apply below_alloc | apply pw_below_drewN | apply below_drew1) | exact HB.out)⟩
      ·rw [if_neg c28] at H
       have c28b0 : decide (x4_2 < 0) = false := decide_eq_false c28
       clear c28
       by_cases c29 : 0 ≤ x4_2
       ·rw [if_pos c29] at H
        have c29b0 : decide (0 ≤ x4_2) = true := decide_eq_true c29
        clear c29
        by_cases c30 : x4_2 < (l0.length : Int)
        ·rw [if_pos c30] at H
         have c30b0 : decide (x4_2 < (l0.length : Int)) = true := decide_eq_true c30
         clear c30
         by_cases c31 : x3_1.length < 4398046511104
         ·rw [if_pos c31] at H
          have LMc31 := A0q13_ c31
          clear c31
          obtain ⟨y162, hy162⟩ : ∃ y_ : List (S74), y_ = (x3_1 ++ [(⟨(rd_T74 l0 x4_2).f0, (rd_T74 l0 x4_2).f1, (rd_T74 l0 x4_2).f2⟩ : S74)]) := ⟨_, rfl⟩
          replace H : (counterfoilref08_Fold.l0 k2 l0 y162) = some r := by first | (rw [hy162]; with_reducible exact H) | (have H2_ := (Option.bind_some _ _).symm.trans H; rw [hy162]; with_reducible exact H2_) | (have H2_ := (Option.bind_some _ _).symm.trans H; with_reducible exact H2_) | with_reducible exact H | (rw [hy162]; exact H) | exact H
          have Ny162 := A0q13_ hy162
          clear hy162
          have H' := A0q13_ H
          clear H
          have p161 : 0 ≤ (x4_2 : Int) := of_decide_eq_true (by first | (with_reducible assumption) | assumption)
          have q161 : x4_2 < (l0.length : Int) := of_decide_eq_true (by first | (with_reducible assumption) | assumption)
          obtain ⟨ad161, e161, hx161_0, hx161_1, hx161_2⟩ := at_T74 HR0.out x4_2 p161 q161
          cases e161
          replace hx161_0 := (HB.out.cell (World.block_lt_of_cell? w _ hx161_0)).trans hx161_0
          replace hx161_1 := (HB.out.cell (World.block_lt_of_cell? w _ hx161_1)).trans hx161_1
          replace hx161_2 := (HB.out.cell (World.block_lt_of_cell? w _ hx161_2)).trans hx161_2
          replace p161 := eq_true p161
          replace q161 := eq_true q161
          go_wp2_with (first | ((with_reducible refine gate_builtin (b := .append) (xs := #[.tmp 47, .tmp 52]) rfl ?_); (try (refine gate_guard (by rfl) ?_; dsimp only)); at_builtin; refine Kd.R_append k74 (w0 := w) w.heap.size rfl (.tmp 47) (.tmp 52) 25 74 (.agg #[(.int .i64 0), (.int .i64 0), (.string ⟨#[]⟩)]) 32 rfl Try.underlying25 info74 rfl (by decide) (by omega) u3 x3_1 (⟨(rd_T74 l0 x4_2).f0, (rd_T74 l0 x4_2).f1, (rd_T74 l0 x4_2).f2⟩ : S74) [.int .i64 ((rd_T74 l0 x4_2).f0), .int .i64 ((rd_T74 l0 x4_2).f1), .string ((rd_T74 l0 x4_2).f2)] (fun _ => True) (fun _ => False) rfl rfl ?aP (fun _ hk => hk.elim) ?aF ?aO ?aB ?aS ?aL ?_; (case aP => exact k74_mkM _ _ _ (⟨(rd_T74 l0 x4_2).f0, (rd_T74 l0 x4_2).f1, (rd_T74 l0 x4_2).f2⟩ : S74)); (case aB => exact (by repeat (first | (with_reducible first | exact HB.out | apply below_alloc | apply pw_below_drewN | apply below_drew1) | exact HB.out))); (case aF => exact (fun _ _ => trivial)); (case aO => exact (by (with_reducible repeat (first | apply Kd.R_alloc | apply Kd.R_drewN | apply Kd.R_drew)); exact HO_3.out)); (case aS => exact (below_size (by repeat (first | (with_reducible first | exact HB.out | apply below_alloc | apply pw_below_drewN | apply below_drew1) | exact HB.out)))); (case aL => have := LMc31.out; omega); intro v163 w32 ho hb hg hat; rw [← Ny162.out] at ho; have n0_ := A0q13_ (hb); have n1_ := A0q13_ (ho); clear HB; clear HO_3; have HB := n0_; have HO164 := n1_; clear n0_ n1_; clear ho hb hg hat))
          go_roundg k2
          case measure => have := HK1.out; have := HK2.out; omega
          case rel => exact ⟨(y162), H', ⟨by have := HK1.out; have := HK2.out; omega⟩, ⟨by (with_reducible repeat (first | apply Kd.R_alloc | apply Kd.R_drewN | apply Kd.R_drew)); exact HO164.out⟩, ⟨by repeat (first | (with_reducible first | exact HB.out | apply below_alloc | apply pw_below_drewN | apply below_drew1) | exact HB.out)⟩⟩
         ·rw [if_neg c31] at H
          exact absurd H (by simp)
        ·rw [if_neg c30] at H
         exact absurd H (by simp)
       ·rw [if_neg c29] at H
        exact absurd H (by simp)
def counterfoilref12_folded.f (k : Nat) (l0 : List (S74)) : Option (Bool) := (counterfoilref08_Fold.f k l0).bind fun t171 => ((counterfoilref08_Equal.f k l0 t171).bind fun t174 => (some t174))
set_option maxHeartbeats 8000000 in
set_option maxRecDepth 100000 in
theorem counterfoilref12_folded.calls (k : Nat) (A0 : Option Addr) (c0 : Nat) (l0 : List (S74)) (r : Bool) (w : World) (hr0 : Kd.C k74 w A0 l0.length l0) (hc0 : l0.length ≤ c0) (h : counterfoilref12_folded.f k l0 = some r) :
  Calls Try.prog 119 #[.slice A0 l0.length c0] w fun e w' => e = .returned (.bool r) ∧ Below w.heap.size w w' := by
 have HR0 := A0q13_ hr0
 have HC0 := A0q13_ hc0
 clear hr0 hc0
 have HB := A0q13_ (Below.refl w.heap.size w)
 have H : ((counterfoilref08_Fold.f k l0).bind fun t171 => ((counterfoilref08_Equal.f k l0 t171).bind fun t174 => (some t174))) = some r := h
 clear h
 replace H := Option.bind_eq_some_iff.mp H
 obtain ⟨t171, A20, H⟩ := H
 replace H : ((counterfoilref08_Equal.f k l0 t171).bind fun t174 => (some t174)) = some r := H
 have A2 := A0q13_ A20
 clear A20
 replace H := Option.bind_eq_some_iff.mp H
 obtain ⟨t174, A30, H⟩ := H
 replace H : (some t174) = some r := H
 have A3 := A0q13_ A30
 clear A30
 obtain rfl := Option.some.inj H
 go_enter Try.func119, Try.ntmps119
 go_wp2_with (first | ((with_reducible refine gate_callee (f := 52) rfl ?_); refine goesL_ (some 5) rfl rfl Try.func52 (by kernel_rfl) rfl #[.slice A0 l0.length c0] rfl (by (try simp only [List.map_toArray, List.map_cons, List.map_nil]); first | done | rfl | (simp only [List.length_drop, List.length_take]; rfl)) ?_; (with_reducible refine (counterfoilref08_Fold.calls k _ _ l0 t171 _ ?side1 ?side2 A2.out).mono ?_); (case side1 => repeat (first | exact HR0.out | (with_reducible refine Kd.C_alloc ?_ _) | (with_reducible refine Kd.C_drewN ?_ _) | (with_reducible refine Kd.C_drew ?_))); (case side2 => exact HC0.out); rintro e w4 ⟨v172, rfl, ho0, hb⟩; refine ⟨_, rfl, ?_⟩; have n0_ := A0q13_ (Kd.R_lower ho0 (below_size (by repeat (first | (with_reducible first | exact HB.out | apply below_alloc | apply pw_below_drewN | apply below_drew1) | exact HB.out)))); have n1_ := A0q13_ (below_step (by repeat (first | (with_reducible first | exact HB.out | apply below_alloc | apply pw_below_drewN | apply below_drew1) | exact HB.out)) hb); clear HB; have HO173 := n0_; have HB := n1_; clear n0_ n1_; (try clear hb); (try clear hb2); (try clear hk); (try clear hi); (try clear ho0); obtain ⟨Ao5, co5, eo5⟩ := Kd.R_slice HO173.out; subst eo5) | ((with_reducible refine gate_callee (f := 49) rfl ?_); refine goesL_ (some 6) rfl rfl Try.func49 (by kernel_rfl) rfl #[.slice A0 l0.length c0, .slice Ao5 t171.length co5] rfl (by (try simp only [List.map_toArray, List.map_cons, List.map_nil]); first | done | rfl | (simp only [List.length_drop, List.length_take]; rfl)) ?_; (with_reducible refine (counterfoilref08_Equal.calls k _ _ l0 _ _ t171 t174 _ ?side1 ?side2 ?side3 ?side4 A3.out).mono ?_); (case side1 => repeat (first | exact (Kd.C_below HR0.out HB.out) | (with_reducible refine Kd.C_alloc ?_ _) | (with_reducible refine Kd.C_drewN ?_ _) | (with_reducible refine Kd.C_drew ?_))); (case side2 => exact HC0.out); (case side3 => repeat (first | exact (Kd.R_reads' HO173.out).2.2 | (with_reducible refine Kd.C_alloc ?_ _) | (with_reducible refine Kd.C_drewN ?_ _) | (with_reducible refine Kd.C_drew ?_))); (case side4 => exact (Kd.R_reads' HO173.out).2.1); rintro e w' ⟨rfl, ⟨nd, rfl⟩⟩; refine ⟨_, rfl, ?_⟩))
 go_ret
 exact ⟨by first | rfl | (simp [errW_none, errW_some] <;> rfl) | (simp [*, errW_none, errW_some] <;> rfl), by repeat (first | (with_reducible first | exact HB.out | apply below_alloc | apply pw_below_drewN | apply below_drew1) | exact HB.out)⟩
end Go.Proofs.Ythdhkoeaadahaaa.P
