-- PACKED by wip/kit/pack.py: what the law's proof uses of Px86 (printed words and texts of this seat)
import Derived.Test.YthdhkoeaadahaaaTPx0
import Derived.Test.YthdhkoeaadahaaaTPx11
import Derived.Test.YthdhkoeaadahaaaTPx13
namespace Go.Proofs.Ythdhkoeaadahaaa.P
open Go.RowKit Go.Proofs.YthdhkoeaadahaaaW.PrintWords Go.Proofs.YthdhkoeaadahaaaW.PrintLast Go.Proofs.YthdhkoeaadahaaaW.PrintMore
attribute [local go_sem] max2_int min2_int max_two min_two max_three min_three max_four min_four
set_option linter.unusedVariables false
set_option linter.unusedSimpArgs false
def counterfoilref12_Add.f (k : Nat) (l0_0 : List (S99)) (l0_1 : List (S74)) (a0_2 : Int) (a0_3 : Int) (l1 : List (S74)) : Option ((List (S99)) × (List (S74)) × Int × Int) := (counterfoilref08_Join.f l0_1 l1).bind fun t751 => ((counterfoilref08_Fold.f k t751).bind fun t754 => (some (l0_0, t754, a0_2, wrap64 (a0_3 + 1))))
def counterfoilref12_Add.T1 : Bool × List (List Nat × List Nat) := (true, [([], []), ([0], [0]), ([], []), ([2], [2]), ([], []), ([3, 4], [3, 4]), ([5, 5], [5]), ([], []), ([7], [7]), ([], []), ([9], [9]), ([10], [10]), ([1, 6, 8, 11], [1, 6, 8, 11]), ([12, 6, 0, 1, 2, 3, 4, 5, 6, 7, 8, 9, 10, 11, 12], [12])])
def counterfoilref12_Add.B1 : List Nat := [0, 1, 0, 4, 0, 28, 60, 0, 128, 0, 512, 1536, 4095, 8191]
theorem counterfoilref12_Add.tab1 : rtab .any (opsOf Try.f80 1) = counterfoilref12_Add.T1 := by kernel_rfl
theorem counterfoilref12_Add.bits1 : waitsOk counterfoilref12_Add.T1.2 counterfoilref12_Add.B1 = true := by kernel_rfl
theorem A0q86_ {p : Prop} (h : p) : Aside0 p := ⟨h⟩
theorem z1q86_ {α : Type} (l : List α) (i : Nat) (a : α) : l.toArray.setIfInBounds i a = (l.set i a).toArray := List.setIfInBounds_toArray l i a
theorem z2q86_ {α : Type} {x : α} {xs : List α} {a : α} : (x :: xs).set 0 a = a :: xs := List.set_cons_zero
theorem z3q86_ {α : Type} {x : α} {xs : List α} {n : Nat} {a : α} : (x :: xs).set (n + 1) a = x :: xs.set n a := List.set_cons_succ
abbrev mk0q86_ : Array Bool := #[false, false, false, false, false, false, false, false, false, false, false, false, false, false]
abbrev mk1q86_ : Array Bool := #[true, false, false, false, false, false, false, false, false, false, false, false, false, false]
abbrev mk2q86_ : Array Bool := #[true, false, true, false, false, false, false, false, false, false, false, false, false, false]
abbrev mk3q86_ : Array Bool := #[true, false, true, false, true, false, false, false, false, false, false, false, false, false]
abbrev mk4q86_ : Array Bool := #[true, false, true, false, true, false, false, true, false, false, false, false, false, false]
abbrev mk5q86_ : Array Bool := #[true, false, true, false, true, false, false, true, false, true, false, false, false, false]
abbrev mk6q86_ : Array Bool := #[true, true, true, false, true, false, false, true, false, true, false, false, false, false]
abbrev mk7q86_ : Array Bool := #[true, true, true, true, true, false, false, true, false, true, false, false, false, false]
abbrev mk8q86_ : Array Bool := #[true, true, true, true, true, false, false, true, true, true, false, false, false, false]
abbrev mk9q86_ : Array Bool := #[true, true, true, true, true, false, false, true, true, true, true, false, false, false]
abbrev mk10q86_ : Array Bool := #[true, true, true, true, true, false, false, true, true, true, true, true, false, false]
abbrev mk11q86_ : Array Bool := #[true, true, true, true, true, true, false, true, true, true, true, true, false, false]
abbrev mk12q86_ : Array Bool := #[true, true, true, true, true, true, true, true, true, true, true, true, false, false]
abbrev mk13q86_ : Array Bool := #[true, true, true, true, true, true, true, true, true, true, true, true, true, false]
abbrev mk14q86_ : Array Bool := #[true, true, true, true, true, true, true, true, true, true, true, true, true, true]
abbrev mk15q86_ : Array Bool := #[false, false, false, false, false, false, false, false, false, false, false, false, false, false, false, false, false, false, false]
abbrev mk16q86_ : Array Bool := #[true, false, false, false, false, false, false, false, false, false, false, false, false, false, false, false, false, false, false]
abbrev mk17q86_ : Array Bool := #[true, true, false, false, false, false, false, false, false, false, false, false, false, false, false, false, false, false, false]
abbrev mk18q86_ : Array Bool := #[true, true, false, false, true, false, false, false, false, false, false, false, false, false, false, false, false, false, false]
abbrev mk19q86_ : Array Bool := #[true, true, false, false, true, false, true, false, false, false, false, false, false, false, false, false, false, false, false]
abbrev mk20q86_ : Array Bool := #[true, true, false, false, true, false, true, false, true, false, false, false, false, false, false, false, false, false, false]
abbrev mk21q86_ : Array Bool := #[true, true, false, false, true, false, true, false, true, false, false, false, false, true, false, false, false, false, false]
abbrev mk22q86_ : Array Bool := #[true, true, false, false, true, false, true, false, true, false, false, false, false, true, false, true, false, false, false]
abbrev mk23q86_ : Array Bool := #[true, true, true, false, true, false, true, false, true, false, false, false, false, true, false, true, false, false, false]
abbrev mk24q86_ : Array Bool := #[true, true, true, false, true, true, true, false, true, false, false, false, false, true, false, true, false, false, false]
abbrev mk25q86_ : Array Bool := #[true, true, true, false, true, true, true, true, true, false, false, false, false, true, false, true, false, false, false]
abbrev mk26q86_ : Array Bool := #[true, true, true, false, true, true, true, true, true, true, false, false, false, true, false, true, false, false, false]
abbrev mk27q86_ : Array Bool := #[true, true, true, false, true, true, true, true, true, true, true, false, false, true, false, true, false, false, false]
abbrev mk28q86_ : Array Bool := #[true, true, true, false, true, true, true, true, true, true, true, false, false, true, true, true, false, false, false]
abbrev mk29q86_ : Array Bool := #[true, true, true, false, true, true, true, true, true, true, true, false, false, true, true, true, true, false, false]
abbrev mk30q86_ : Array Bool := #[true, true, true, true, true, true, true, true, true, true, true, true, false, true, true, true, true, false, false]
abbrev mk31q86_ : Array Bool := #[true, true, true, true, true, true, true, true, true, true, true, false, false, true, true, true, true, false, false]
abbrev mk32q86_ : Array Bool := #[true, true, true, false, true, true, true, true, true, true, true, true, false, true, true, true, true, false, false]
abbrev mk33q86_ : Array Bool := #[true, true, true, true, true, true, true, true, true, true, true, true, true, true, true, true, true, false, false]
abbrev mk34q86_ : Array Bool := #[true, true, true, true, true, true, true, true, true, true, true, true, true, true, true, true, true, true, false]
abbrev mk35q86_ : Array Bool := #[true, true, true, true, true, true, true, true, true, true, true, true, true, true, true, true, true, true, true]
set_option maxHeartbeats 8000000 in
set_option maxRecDepth 100000 in
theorem counterfoilref12_Add.calls (k : Nat) (P0_0_ : Nat → Prop) (A0_0 : Option Addr) (c0_0 : Nat) (l0_0 : List (S99)) (A0_1 : Option Addr) (c0_1 : Nat) (l0_1 : List (S74)) (a0_2 : Int) (a0_3 : Int) (A1 : Option Addr) (c1 : Nat) (l1 : List (S74)) (r1 : List (S99)) (r2 : List (S74)) (r3 : Int) (r4 : Int) (w : World) (hs0_0 : Kd.V k99 99 w w.heap.size (fun k_ => P0_0_ k_) (.slice A0_0 l0_0.length c0_0) l0_0) (hr0_1 : Kd.C k74 w A0_1 l0_1.length l0_1) (hc0_1 : l0_1.length ≤ c0_1) (hr1 : Kd.C k74 w A1 l1.length l1) (hc1 : l1.length ≤ c1) (h : counterfoilref12_Add.f k l0_0 l0_1 a0_2 a0_3 l1 = some (r1, r2, r3, r4)) :
  Calls Try.prog 80 #[.agg #[.slice A0_0 l0_0.length c0_0, .slice A0_1 l0_1.length c0_1, .int .i64 a0_2, .int .i64 a0_3], .slice A1 l1.length c1] w fun e w' => ∃ v0_ v1_ : Value, e = .returned (.agg #[v0_, v1_, .int .i64 r3, .int .i64 r4]) ∧ Kd.V k99 99 w' w.heap.size (fun k_ => (P0_0_ k_ ∨ w.heap.size ≤ k_) ∧ some k_ ≠ (v1_ : Value).ownBlock) v0_ r1 ∧ Kd.R k74 74 w' w.heap.size (fun k_ => (w.heap.size ≤ k_)) v1_ r2 ∧ Below w.heap.size w w' := by
 have hu27 := Try.underlying27
 have HO0_0 := A0q86_ (show Kd.V k99 99 w w.heap.size (fun k_ => (P0_0_ k_ ∨ w.heap.size ≤ k_)) (.slice A0_0 l0_0.length c0_0) l0_0 from Kd.V_mono hs0_0 (fun k_ hk => .inl hk))
 have HR0_1 := A0q86_ hr0_1
 have HC0_1 := A0q86_ hc0_1
 clear hr0_1 hc0_1
 have HR1 := A0q86_ hr1
 have HC1 := A0q86_ hc1
 clear hr1 hc1
 have HB := A0q86_ (Below.refl w.heap.size w)
 have H : ((counterfoilref08_Join.f l0_1 l1).bind fun t751 => ((counterfoilref08_Fold.f k t751).bind fun t754 => (some (l0_0, t754, a0_2, wrap64 (a0_3 + 1))))) = some (r1, r2, r3, r4) := h
 clear h
 replace H := Option.bind_eq_some_iff.mp H
 obtain ⟨t751, A30, H⟩ := H
 replace H : ((counterfoilref08_Fold.f k t751).bind fun t754 => (some (l0_0, t754, a0_2, wrap64 (a0_3 + 1)))) = some (r1, r2, r3, r4) := H
 have A3 := A0q86_ A30
 clear A30
 replace H := Option.bind_eq_some_iff.mp H
 obtain ⟨t754, A40, H⟩ := H
 replace H : (some (l0_0, t754, a0_2, wrap64 (a0_3 + 1))) = some (r1, r2, r3, r4) := H
 have A4 := A0q86_ A40
 clear A40
 simp only [Option.some.injEq, Prod.mk.injEq] at H
 obtain ⟨rfl, rfl, rfl, rfl⟩ := H
 go_enter Try.func80, Try.ntmps80
 try go_wp2_with (first | ((with_reducible refine gate_dst (N:=2) rfl ?_); refine box_event ?hg (N:=2) ?hd (cs := #[.slice A0_0 l0_0.length c0_0, .slice A0_1 l0_1.length c0_1, .int .i64 a0_2, .int .i64 a0_3]) (t := 27) ?hr ?_; (case hd => rfl); (case hg => rfl); (case hr => first | (go_simp; done) | (go_simp; rfl)); intro gb749 hg w5 hbox hb; have n0_ := A0q86_ (Kd.V_below (Kd.V_elderB (by (with_reducible repeat (first | apply Kd.V_alloc | apply Kd.V_drewN | apply Kd.V_drew)); exact HO0_0.out) gb749 (Nat.le_of_eq hg.symm)) hb); have n1_ := A0q86_ (below_step (by repeat (first | (with_reducible first | exact HB.out | apply below_alloc | apply pw_below_drewN | apply below_drew1) | exact HB.out)) hb); have n2_ := A0q86_ (hbox); have n3_ := A0q86_ ((by rw [hg]; exact (below_size (by repeat (first | (with_reducible first | exact HB.out | apply below_alloc | apply pw_below_drewN | apply below_drew1) | exact HB.out))) : w.heap.size ≤ gb749)); have n4_ := A0q86_ ((by rw [hg]; exact (below_size (by repeat (first | (with_reducible first | exact HB.out | apply below_alloc | apply pw_below_drewN | apply below_drew1) | exact HB.out))) : w.heap.size ≤ gb749)); clear HO0_0; clear HB; have HO0_0 := n0_; have HB := n1_; have BK749 := n2_; have GW749 := n3_; have GE749 := n4_; clear n0_ n1_ n2_ n3_ n4_; clear hb hbox hg) | ((with_reducible refine gate_dst (N:=4) rfl ?_); refine box_event ?hg (N:=4) ?hd (cs := #[.slice none 0 0, .slice none 0 0, .int .i64 0, .int .i64 0]) (t := 27) ?hr ?_; (case hd => rfl); (case hg => rfl); (case hr => first | (go_simp; done) | (go_simp; rfl)); intro gb750 hg w6 hbox hb; have n0_ := A0q86_ (Kd.V_below (Kd.V_elderB (by (with_reducible repeat (first | apply Kd.V_alloc | apply Kd.V_drewN | apply Kd.V_drew)); exact HO0_0.out) gb750 (Nat.le_of_eq hg.symm)) hb); have n1_ := A0q86_ (blk_below (g:=gb749) (o:=.cells #[.slice A0_0 l0_0.length c0_0, .slice A0_1 l0_1.length c0_1, .int .i64 a0_2, .int .i64 a0_3] 27 (0, 0)) (by (with_reducible repeat (first | refine blk_drewN ?_ _ | refine blk_drew ?_ | refine blk_alloc ?_ _)); exact BK749.out) hb); have n2_ := A0q86_ (below_step (by repeat (first | (with_reducible first | exact HB.out | apply below_alloc | apply pw_below_drewN | apply below_drew1 | refine below_set ?_ GE749.out) | exact HB.out)) hb); have n3_ := A0q86_ (hbox); have n4_ := A0q86_ ((by rw [hg]; exact (below_size (by repeat (first | (with_reducible first | exact HB.out | apply below_alloc | apply pw_below_drewN | apply below_drew1 | refine below_set ?_ GE749.out) | exact HB.out))) : w.heap.size ≤ gb750)); have n5_ := A0q86_ ((by rw [hg]; exact (below_size (by repeat (first | (with_reducible first | exact HB.out | apply below_alloc | apply pw_below_drewN | apply below_drew1 | refine below_set ?_ GE749.out) | exact HB.out))) : w.heap.size ≤ gb750)); have n6_ := A0q86_ ((by rw [hg]; exact Nat.ne_of_lt (blk_lt (g:=gb749) (o:=.cells #[.slice A0_0 l0_0.length c0_0, .slice A0_1 l0_1.length c0_1, .int .i64 a0_2, .int .i64 a0_3] 27 (0, 0)) (by (with_reducible repeat (first | refine blk_drewN ?_ _ | refine blk_drew ?_ | refine blk_alloc ?_ _)); exact BK749.out)) : gb749 ≠ gb750)); have n7_ := A0q86_ ((by rw [hg]; exact Nat.ne_of_gt (blk_lt (g:=gb749) (o:=.cells #[.slice A0_0 l0_0.length c0_0, .slice A0_1 l0_1.length c0_1, .int .i64 a0_2, .int .i64 a0_3] 27 (0, 0)) (by (with_reducible repeat (first | refine blk_drewN ?_ _ | refine blk_drew ?_ | refine blk_alloc ?_ _)); exact BK749.out)) : gb750 ≠ gb749)); clear HO0_0; clear BK749; clear HB; have HO0_0 := n0_; have BK749 := n1_; have HB := n2_; have BK750 := n3_; have GW750 := n4_; have GE750 := n5_; have NB749_750 := n6_; have NB750_749 := n7_; clear n0_ n1_ n2_ n3_ n4_ n5_ n6_ n7_; clear hb hbox hg))
 have n0_ := A0q86_ (Kd.V_drew HO0_0.out)
 have n1_ := A0q86_ (blk_drew BK749.out)
 have n2_ := A0q86_ (blk_drew BK750.out)
 have n3_ := A0q86_ (below_drew1 HB.out)
 clear HO0_0
 clear BK749
 clear BK750
 clear HB
 have HO0_0 := n0_
 have BK749 := n1_
 have BK750 := n2_
 have HB := n3_
 clear n0_ n1_ n2_ n3_
 refine start_ (n := 14) (S := fun w' => w'.cell? ⟨gb749, 0, none⟩ = some (.slice A0_0 l0_0.length c0_0) ∧ w'.cell? ⟨gb749, 1, none⟩ = some (.slice A0_1 l0_1.length c0_1) ∧ w'.cell? ⟨gb749, 2, none⟩ = some (.int .i64 a0_2) ∧ w'.cell? ⟨gb749, 3, none⟩ = some (.int .i64 a0_3)) (ds := []) mk0q86_ (by kernel_rfl) rfl rfl ⟨(blk_cell BK749.out 0).trans rfl, (blk_cell BK749.out 1).trans rfl, (blk_cell BK749.out 2).trans rfl, (blk_cell BK749.out 3).trans rfl⟩ (fun hHeld => ?_); refine with_tabW counterfoilref12_Add.tab1 counterfoilref12_Add.bits1 (fun HT_ HW_ => ?_)
 generalize w6.drew = w7 at HO0_0 BK749 BK750 HB hHeld ⊢
 refine pure_ (i:=0) (N:=some 5) (v:=?_) (a':=?_) mk1q86_ rfl rfl (any_of HT_.out (by kernel_rfl)) (fun _ _ _ h => h) (Or.inl ⟨by rfl, ?_⟩) ?_ ?_
 rotate_left
 ·intro w'
  go_simp
  with_reducible rfl
 rotate_left
 ·simp only [Act.put, z1q86_, z2q86_, z3q86_, i64_w, i32_w]
  rfl
 refine pure_ (i:=2) (N:=some 7) (v:=?_) (a':=?_) mk2q86_ rfl rfl (any_of HT_.out (by kernel_rfl)) (fun _ _ _ h => h) (Or.inl ⟨by rfl, ?_⟩) ?_ ?_
 rotate_left
 ·intro w'
  go_simp
  with_reducible rfl
 rotate_left
 ·simp only [Act.put, z1q86_, z2q86_, z3q86_, i64_w, i32_w]
  rfl
 refine pure_ (i:=4) (N:=some 9) (v:=?_) (a':=?_) mk3q86_ rfl rfl (any_of HT_.out (by kernel_rfl)) (fun _ _ _ h => h) (Or.inl ⟨by rfl, ?_⟩) ?_ ?_
 rotate_left
 ·intro w'
  go_simp
  with_reducible rfl
 rotate_left
 ·simp only [Act.put, z1q86_, z2q86_, z3q86_, i64_w, i32_w]
  rfl
 refine pure_ (i:=7) (N:=some 12) (v:=?_) (a':=?_) mk4q86_ rfl rfl (any_of HT_.out (by kernel_rfl)) (fun _ _ _ h => h) (Or.inl ⟨by rfl, ?_⟩) ?_ ?_
 rotate_left
 ·intro w'
  go_simp
  with_reducible rfl
 rotate_left
 ·simp only [Act.put, z1q86_, z2q86_, z3q86_, i64_w, i32_w]
  rfl
 refine pure_ (i:=9) (N:=some 14) (v:=?_) (a':=?_) mk5q86_ rfl rfl (any_of HT_.out (by kernel_rfl)) (fun _ _ _ h => h) (Or.inl ⟨by rfl, ?_⟩) ?_ ?_
 rotate_left
 ·intro w'
  go_simp
  with_reducible rfl
 rotate_left
 ·simp only [Act.put, z1q86_, z2q86_, z3q86_, i64_w, i32_w]
  rfl
 refine take_ (i:=1) (N:=some 6) (v:=?_) (a':=?_) mk6q86_ rfl rfl (take_ofW HT_.out HW_.out (by kernel_rfl)) (fun _ _ _ h => h) (Or.inl ⟨by rfl, ?_⟩) hHeld ?_ ?_
 rotate_left
 ·rintro w' ⟨s0, s1, s2, s3⟩
  go_simp
  with_reducible rfl
 rotate_left
 ·simp only [Act.put, z1q86_, z2q86_, z3q86_, i64_w, i32_w]
  rfl
 refine take_ (i:=3) (N:=some 8) (v:=?_) (a':=?_) mk7q86_ rfl rfl (take_ofW HT_.out HW_.out (by kernel_rfl)) (fun _ _ _ h => h) (Or.inl ⟨by rfl, ?_⟩) hHeld ?_ ?_
 rotate_left
 ·rintro w' ⟨s0, s1, s2, s3⟩
  go_simp
  with_reducible rfl
 rotate_left
 ·simp only [Act.put, z1q86_, z2q86_, z3q86_, i64_w, i32_w]
  rfl
 refine take_ (i:=8) (N:=some 13) (v:=?_) (a':=?_) mk8q86_ rfl rfl (take_ofW HT_.out HW_.out (by kernel_rfl)) (fun _ _ _ h => h) (Or.inl ⟨by rfl, ?_⟩) hHeld ?_ ?_
 rotate_left
 ·rintro w' ⟨s0, s1, s2, s3⟩
  go_simp
  with_reducible rfl
 rotate_left
 ·simp only [Act.put, z1q86_, z2q86_, z3q86_, i64_w, i32_w]
  rfl
 refine take_ (i:=10) (N:=some 15) (v:=?_) (a':=?_) mk9q86_ rfl rfl (take_ofW HT_.out HW_.out (by kernel_rfl)) (fun _ _ _ h => h) (Or.inl ⟨by rfl, ?_⟩) hHeld ?_ ?_
 rotate_left
 ·rintro w' ⟨s0, s1, s2, s3⟩
  go_simp
  with_reducible rfl
 rotate_left
 ·simp only [Act.put, z1q86_, z2q86_, z3q86_, i64_w, i32_w]
  rfl
 refine pure_ (i:=11) (N:=some 16) (v:=?_) (a':=?_) mk10q86_ rfl rfl (any_of HT_.out (by kernel_rfl)) (fun _ _ _ h => h) (Or.inl ⟨by rfl, ?_⟩) ?_ ?_
 rotate_left
 ·intro w'
  go_simp
  with_reducible rfl
 rotate_left
 ·simp only [Act.put, z1q86_, z2q86_, z3q86_, i64_w, i32_w]
  rfl
 refine one_ (i:=5) (N:=some 10) mk11q86_ rfl rfl (one_of HT_.out (by kernel_rfl)) (by decide) (fun K hK => ?_)
 refine goes_ Try.func68 (by kernel_rfl) rfl #[.slice A0_1 l0_1.length c0_1, .slice A1 l1.length c1] (by rfl) rfl rfl (by (try simp only [List.map_toArray, List.map_cons, List.map_nil]); first | done | rfl | (simp only [List.length_drop, List.length_take]; rfl)) ?_
 with_reducible refine (counterfoilref08_Join.calls _ _ l0_1 _ _ l1 t751 _ ?side1 ?side2 ?side3 ?side4 A3.out).mono ?_
 (case side1 => repeat (first | exact (Kd.C_below HR0_1.out HB.out) | (with_reducible refine Kd.C_alloc ?_ _) | (with_reducible refine Kd.C_drewN ?_ _) | (with_reducible refine Kd.C_drew ?_)))
 (case side2 => exact HC0_1.out)
 (case side3 => repeat (first | exact (Kd.C_below HR1.out HB.out) | (with_reducible refine Kd.C_alloc ?_ _) | (with_reducible refine Kd.C_drewN ?_ _) | (with_reducible refine Kd.C_drew ?_)))
 (case side4 => exact HC1.out)
 rintro e w8 ⟨v752, rfl, ho0, hb⟩
 refine ⟨_, rfl, ?_⟩
 have n0_ := A0q86_ (Kd.V_elder' (by (with_reducible repeat (first | apply Kd.V_alloc | apply Kd.V_drewN | apply Kd.V_drew)); exact HO0_0.out) (Kd.R_base ho0) hb)
 have n1_ := A0q86_ (Kd.R_lower (Kd.R_newM (M := fun k_ => (w.heap.size ≤ k_)) ho0 (below_size (by repeat (first | (with_reducible first | exact HB.out | apply below_alloc | apply pw_below_drewN | apply below_drew1 | refine below_set ?_ GE749.out | refine below_set ?_ GE750.out) | exact HB.out))) (fun k_ h_ => h_)) (below_size (by repeat (first | (with_reducible first | exact HB.out | apply below_alloc | apply pw_below_drewN | apply below_drew1 | refine below_set ?_ GE749.out | refine below_set ?_ GE750.out) | exact HB.out))))
 have n2_ := A0q86_ (blk_below (g:=gb749) (o:=.cells #[.slice A0_0 l0_0.length c0_0, .slice A0_1 l0_1.length c0_1, .int .i64 a0_2, .int .i64 a0_3] 27 (0, 0)) (by (with_reducible repeat (first | refine blk_drewN ?_ _ | refine blk_drew ?_ | refine blk_alloc ?_ _)); exact BK749.out) hb)
 have n3_ := A0q86_ (blk_below (g:=gb750) (o:=.cells #[.slice none 0 0, .slice none 0 0, .int .i64 0, .int .i64 0] 27 (0, 0)) (by (with_reducible repeat (first | refine blk_drewN ?_ _ | refine blk_drew ?_ | refine blk_alloc ?_ _)); exact BK750.out) hb)
 have n4_ := A0q86_ (below_step (by repeat (first | (with_reducible first | exact HB.out | apply below_alloc | apply pw_below_drewN | apply below_drew1 | refine below_set ?_ GE749.out | refine below_set ?_ GE750.out) | exact HB.out)) hb)
 clear HO0_0
 clear BK749
 clear BK750
 clear HB
 have HO0_0 := n0_
 have HO753 := n1_
 have BK749 := n2_
 have BK750 := n3_
 have HB := n4_
 clear n0_ n1_ n2_ n3_ n4_
 (try clear hb)
 (try clear hb2)
 (try clear hk)
 (try clear hi)
 (try clear ho0)
 obtain ⟨Ao9, co9, eo9⟩ := Kd.R_slice HO753.out
 (first | subst eo9 | (injection eo9 with f1_ f2_ f3_; have f4_ := f1_.symm; have f5_ := f3_.symm; clear f1_ f2_ f3_; subst f4_; subst f5_))
 refine hK.out _ _ ⟨(blk_cell BK749.out 0).trans rfl, (blk_cell BK749.out 1).trans rfl, (blk_cell BK749.out 2).trans rfl, (blk_cell BK749.out 3).trans rfl⟩ (fun hHeld => ?_)
 clear hK K
 refine norm_ (a' := ?_) ?_ ?_
 rotate_left
 ·show Act.put _ (some 10) _ = _
  simp only [Act.put, z1q86_, z2q86_, z3q86_, i64_w, i32_w]
  rfl
 refine one_ (i:=6) (N:=some 11) mk12q86_ rfl rfl (one_of HT_.out (by kernel_rfl)) (by decide) (fun K hK => ?_)
 refine goes_ Try.func52 (by kernel_rfl) rfl #[.slice Ao9 t751.length co9] (by rfl) rfl rfl (by (try simp only [List.map_toArray, List.map_cons, List.map_nil]); first | done | rfl | (simp only [List.length_drop, List.length_take]; rfl)) ?_
 with_reducible refine (counterfoilref08_Fold.calls k _ _ t751 t754 _ ?side1 ?side2 A4.out).mono ?_
 (case side1 => repeat (first | exact (Kd.R_reads' HO753.out).2.2 | (with_reducible refine Kd.C_alloc ?_ _) | (with_reducible refine Kd.C_drewN ?_ _) | (with_reducible refine Kd.C_drew ?_)))
 (case side2 => exact (Kd.R_reads' HO753.out).2.1)
 rintro e w10 ⟨v755, rfl, ho0, hb⟩
 refine ⟨_, rfl, ?_⟩
 have n0_ := A0q86_ (Kd.V_elder' (by (with_reducible repeat (first | apply Kd.V_alloc | apply Kd.V_drewN | apply Kd.V_drew)); exact HO0_0.out) (Kd.R_base ho0) hb)
 have n1_ := A0q86_ (Kd.R_elder' (by (with_reducible repeat (first | apply Kd.R_alloc | apply Kd.R_drewN | apply Kd.R_drew)); exact HO753.out) (Kd.R_base ho0) hb)
 have n2_ := A0q86_ (Kd.R_lower (Kd.R_new' (Kd.R_newM (M := fun k_ => (w.heap.size ≤ k_)) ho0 (below_size (by repeat (first | (with_reducible first | exact HB.out | apply below_alloc | apply pw_below_drewN | apply below_drew1 | refine below_set ?_ GE749.out | refine below_set ?_ GE750.out) | exact HB.out))) (fun k_ h_ => h_)) (Kd.R_lt (by (with_reducible repeat (first | apply Kd.R_alloc | apply Kd.R_drewN | apply Kd.R_drew)); exact HO753.out))) (below_size (by repeat (first | (with_reducible first | exact HB.out | apply below_alloc | apply pw_below_drewN | apply below_drew1 | refine below_set ?_ GE749.out | refine below_set ?_ GE750.out) | exact HB.out))))
 have n3_ := A0q86_ (blk_below (g:=gb749) (o:=.cells #[.slice A0_0 l0_0.length c0_0, .slice A0_1 l0_1.length c0_1, .int .i64 a0_2, .int .i64 a0_3] 27 (0, 0)) (by (with_reducible repeat (first | refine blk_drewN ?_ _ | refine blk_drew ?_ | refine blk_alloc ?_ _)); exact BK749.out) hb)
 have n4_ := A0q86_ (blk_below (g:=gb750) (o:=.cells #[.slice none 0 0, .slice none 0 0, .int .i64 0, .int .i64 0] 27 (0, 0)) (by (with_reducible repeat (first | refine blk_drewN ?_ _ | refine blk_drew ?_ | refine blk_alloc ?_ _)); exact BK750.out) hb)
 have n5_ := A0q86_ (below_step (by repeat (first | (with_reducible first | exact HB.out | apply below_alloc | apply pw_below_drewN | apply below_drew1 | refine below_set ?_ GE749.out | refine below_set ?_ GE750.out) | exact HB.out)) hb)
 clear HO0_0
 clear HO753
 clear BK749
 clear BK750
 clear HB
 have HO0_0 := n0_
 have HO753 := n1_
 have HO756 := n2_
 have BK749 := n3_
 have BK750 := n4_
 have HB := n5_
 clear n0_ n1_ n2_ n3_ n4_ n5_
 (try clear hb)
 (try clear hb2)
 (try clear hk)
 (try clear hi)
 (try clear ho0)
 obtain ⟨Ao11, co11, eo11⟩ := Kd.R_slice HO756.out
 (first | subst eo11 | (injection eo11 with f1_ f2_ f3_; have f4_ := f1_.symm; have f5_ := f3_.symm; clear f1_ f2_ f3_; subst f4_; subst f5_))
 refine hK.out _ _ ⟨(blk_cell BK749.out 0).trans rfl, (blk_cell BK749.out 1).trans rfl, (blk_cell BK749.out 2).trans rfl, (blk_cell BK749.out 3).trans rfl⟩ (fun hHeld => ?_)
 clear hK K
 refine norm_ (a' := ?_) ?_ ?_
 rotate_left
 ·show Act.put _ (some 11) _ = _
  simp only [Act.put, z1q86_, z2q86_, z3q86_, i64_w, i32_w]
  rfl
 refine pure_ (i:=12) (N:=some 17) (v:=?_) (a':=?_) mk13q86_ rfl rfl (any_of HT_.out (by kernel_rfl)) (fun _ _ _ h => h) (Or.inl ⟨by rfl, ?_⟩) ?_ ?_
 rotate_left
 ·intro w'
  go_simp
  with_reducible rfl
 rotate_left
 ·simp only [Act.put, z1q86_, z2q86_, z3q86_, i64_w, i32_w]
  rfl
 refine one_ (i:=13) (N:=none) mk14q86_ rfl rfl (one_of HT_.out (by kernel_rfl)) (by decide) (fun K hK => ?_)
 have hs12 : w10.cell? ⟨gb750, 0, none⟩ = some (.slice none 0 0) := (blk_cell BK750.out 0).trans rfl
 have hfs12 := blk_frozen BK750.out 0
 have hns12_0 := NB749_750.out
 have hms12_0 := NB750_749.out
 have hs13 : w10.cell? ⟨gb750, 1, none⟩ = some (.slice none 0 0) := (blk_cell BK750.out 1).trans rfl
 have hfs13 := blk_frozen BK750.out 1
 have hns13_0 := NB749_750.out
 have hms13_0 := NB750_749.out
 have hs14 : w10.cell? ⟨gb750, 2, none⟩ = some (.int .i64 0) := (blk_cell BK750.out 2).trans rfl
 have hfs14 := blk_frozen BK750.out 2
 have hns14_0 := NB749_750.out
 have hms14_0 := NB750_749.out
 have hs15 : w10.cell? ⟨gb750, 3, none⟩ = some (.int .i64 0) := (blk_cell BK750.out 3).trans rfl
 have hfs15 := blk_frozen BK750.out 3
 have hns15_0 := NB749_750.out
 have hms15_0 := NB750_749.out
 refine skip_ (w1 := ?_) (by rfl) rfl ?_ ?_
 rotate_left
 ·go_simp
  rfl
 refine hK.out _ _ ⟨((cell_far (p := ⟨gb750, _, none⟩) NB749_750.out _).trans (((cell_far (p := ⟨gb750, _, none⟩) NB749_750.out _).trans (((cell_far (p := ⟨gb750, _, none⟩) NB749_750.out _).trans (((cell_far (p := ⟨gb750, _, none⟩) NB749_750.out _).trans (hHeld.1)))))))), ((cell_far (p := ⟨gb750, _, none⟩) NB749_750.out _).trans (((cell_far (p := ⟨gb750, _, none⟩) NB749_750.out _).trans (((cell_far (p := ⟨gb750, _, none⟩) NB749_750.out _).trans (((cell_far (p := ⟨gb750, _, none⟩) NB749_750.out _).trans (hHeld.2.1)))))))), ((cell_far (p := ⟨gb750, _, none⟩) NB749_750.out _).trans (((cell_far (p := ⟨gb750, _, none⟩) NB749_750.out _).trans (((cell_far (p := ⟨gb750, _, none⟩) NB749_750.out _).trans (((cell_far (p := ⟨gb750, _, none⟩) NB749_750.out _).trans (hHeld.2.2.1)))))))), ((cell_far (p := ⟨gb750, _, none⟩) NB749_750.out _).trans (((cell_far (p := ⟨gb750, _, none⟩) NB749_750.out _).trans (((cell_far (p := ⟨gb750, _, none⟩) NB749_750.out _).trans (((cell_far (p := ⟨gb750, _, none⟩) NB749_750.out _).trans (hHeld.2.2.2))))))))⟩ (fun hHeld => ?_)
 clear hK K
 refine done_ (done_of HT_.out (by kernel_rfl)) ?_
 try go_wp2
 refine bodyPost_ret (results_cell_row rfl _ _ gb750 27 #[.slice A0_0 l0_0.length c0_0, .slice Ao11 t754.length co11, .int .i64 a0_2, .int .i64 (wrap64 (a0_3 + 1))] (0, 0) _ rfl (by (with_reducible repeat (first | refine blk_drewN ?_ _ | refine blk_drew ?_ | refine blk_alloc ?_ _)); refine blk_put (cs := #[.slice A0_0 l0_0.length c0_0, .slice Ao11 t754.length co11, .int .i64 a0_2, .int .i64 0]) ?_ 3 _ rfl; (with_reducible repeat (first | refine blk_drewN ?_ _ | refine blk_drew ?_ | refine blk_alloc ?_ _)); refine blk_put (cs := #[.slice A0_0 l0_0.length c0_0, .slice Ao11 t754.length co11, .int .i64 0, .int .i64 0]) ?_ 2 _ rfl; (with_reducible repeat (first | refine blk_drewN ?_ _ | refine blk_drew ?_ | refine blk_alloc ?_ _)); refine blk_put (cs := #[.slice A0_0 l0_0.length c0_0, .slice none 0 0, .int .i64 0, .int .i64 0]) ?_ 1 _ rfl; (with_reducible repeat (first | refine blk_drewN ?_ _ | refine blk_drew ?_ | refine blk_alloc ?_ _)); refine blk_put (cs := #[.slice none 0 0, .slice none 0 0, .int .i64 0, .int .i64 0]) ?_ 0 _ rfl; (with_reducible repeat (first | refine blk_drewN ?_ _ | refine blk_drew ?_ | refine blk_alloc ?_ _)); exact BK750.out) Try.underlying27 rfl (by kernel_rfl)) rfl ?_
 exact ⟨_, _, by first | rfl | (simp [errW_none, errW_some] <;> rfl) | (simp [*, errW_none, errW_some] <;> rfl), by (with_reducible repeat (first | apply Kd.V_alloc | apply Kd.V_drewN | apply Kd.V_drew)); exact Kd.V_mono (Kd.V_far (p := ⟨gb750, 3, none⟩) (Kd.V_far (p := ⟨gb750, 2, none⟩) (Kd.V_far (p := ⟨gb750, 1, none⟩) (Kd.V_far (p := ⟨gb750, 0, none⟩) (Kd.V_mono HO0_0.out (fun k_ hk => (⟨hk, hk.1.1.2⟩ : _ ∧ k_ ≠ gb750))) (fun _ hk => hk.2) (.slice A0_0 l0_0.length c0_0)) (fun _ hk => hk.2) (.slice Ao11 t754.length co11)) (fun _ hk => hk.2) (.int .i64 a0_2)) (fun _ hk => hk.2) (.int .i64 (wrap64 (a0_3 + 1)))) (fun _ hk => ⟨hk.1.1.1.1.1, hk.1.2⟩), by (with_reducible repeat (first | apply Kd.R_alloc | apply Kd.R_drewN | apply Kd.R_drew)); exact Kd.R_mono (Kd.R_far (p := ⟨gb750, 3, none⟩) (Kd.R_far (p := ⟨gb750, 2, none⟩) (Kd.R_far (p := ⟨gb750, 1, none⟩) (Kd.R_far (p := ⟨gb750, 0, none⟩) (Kd.R_types HO756.out BK750.out (by decide)) (fun _ hk => hk.2) (.slice A0_0 l0_0.length c0_0)) (fun _ hk => hk.2) (.slice Ao11 t754.length co11)) (fun _ hk => hk.2) (.int .i64 a0_2)) (fun _ hk => hk.2) (.int .i64 (wrap64 (a0_3 + 1)))) (fun _ hk => hk.1.1.1), by repeat (first | (with_reducible first | exact HB.out | apply below_alloc | apply pw_below_drewN | apply below_drew1 | refine below_set ?_ GE749.out | refine below_set ?_ GE750.out) | exact HB.out)⟩
def counterfoilref12_Cut.f (l0_0 : List (S99)) (l0_1 : List (S74)) (a0_2 : Int) (a0_3 : Int) : Option ((List (S99)) × (List (S74)) × Int × Int) := if ([] : List (S99)).length + l0_0.length < 3518437208883 then ((some (([] : List (S99)) ++ l0_0 : List (S99))).bind fun y759 => ((some (([(⟨a0_2, a0_3, l0_1⟩ : S99)] : List (S99)) : List (S99))).bind fun y762 => (if y759.length + y762.length < 3518437208883 then (some ((y759 ++ y762), ([] : List (S74)), a0_3, a0_3)) else (none)))) else (none)
def counterfoilref12_Cut.T2 : Bool × List (List Nat × List Nat) := (true, [([], []), ([], []), ([1], [1]), ([0, 2], [0, 2]), ([], []), ([4], [4]), ([], []), ([6], [6]), ([], []), ([8], [8]), ([5, 7, 9], [5, 7, 9]), ([10], [10]), ([3, 11, 3], [3, 11]), ([], []), ([13], [13]), ([], []), ([15], [15]), ([12, 14, 16], [12, 14, 16]), ([17, 12, 0, 1, 2, 3, 4, 5, 6, 7, 8, 9, 10, 11, 12, 13, 14, 15, 16, 17], [17])])
def counterfoilref12_Cut.B2 : List Nat := [0, 0, 2, 7, 0, 16, 0, 64, 0, 256, 1008, 2032, 4095, 0, 8192, 0, 32768, 131071, 262143]
theorem counterfoilref12_Cut.tab2 : rtab .any (opsOf Try.f81 2) = counterfoilref12_Cut.T2 := by kernel_rfl
theorem counterfoilref12_Cut.bits2 : waitsOk counterfoilref12_Cut.T2.2 counterfoilref12_Cut.B2 = true := by kernel_rfl
set_option maxHeartbeats 8000000 in
set_option maxRecDepth 100000 in
theorem counterfoilref12_Cut.calls (P0_0_ : Nat → Prop) (A0_0 : Option Addr) (c0_0 : Nat) (l0_0 : List (S99)) (P0_1_ : Nat → Prop) (A0_1 : Option Addr) (c0_1 : Nat) (l0_1 : List (S74)) (a0_2 : Int) (a0_3 : Int) (r1 : List (S99)) (r2 : List (S74)) (r3 : Int) (r4 : Int) (w : World) (hs0_0 : Kd.V k99 99 w w.heap.size (fun k_ => P0_0_ k_) (.slice A0_0 l0_0.length c0_0) l0_0) (hs0_1 : Kd.V k74 74 w w.heap.size (fun k_ => P0_1_ k_) (.slice A0_1 l0_1.length c0_1) l0_1) (h : counterfoilref12_Cut.f l0_0 l0_1 a0_2 a0_3 = some (r1, r2, r3, r4)) :
  Calls Try.prog 81 #[.agg #[.slice A0_0 l0_0.length c0_0, .slice A0_1 l0_1.length c0_1, .int .i64 a0_2, .int .i64 a0_3]] w fun e w' => ∃ v0_ v1_ : Value, e = .returned (.agg #[v0_, v1_, .int .i64 r3, .int .i64 r4]) ∧ Kd.N k99 99 w' w.heap.size (fun k_ => ((P0_0_ k_ ∨ P0_1_ k_) ∨ w.heap.size ≤ k_) ∧ some k_ ≠ (v1_ : Value).ownBlock) v0_ r1 ∧ Kd.R k74 74 w' w.heap.size (fun k_ => (w.heap.size ≤ k_)) v1_ r2 ∧ Below w.heap.size w w' := by
 have hu27 := Try.underlying27
 have hu99 := Try.underlying99
 have HO0_0 := A0q86_ (show Kd.V k99 99 w w.heap.size (fun k_ => ((P0_0_ k_ ∨ P0_1_ k_) ∨ w.heap.size ≤ k_)) (.slice A0_0 l0_0.length c0_0) l0_0 from Kd.V_mono hs0_0 (fun k_ hk => .inl (.inl hk)))
 have HO0_1 := A0q86_ (show Kd.V k74 74 w w.heap.size (fun k_ => ((P0_0_ k_ ∨ P0_1_ k_) ∨ w.heap.size ≤ k_)) (.slice A0_1 l0_1.length c0_1) l0_1 from Kd.V_mono hs0_1 (fun k_ hk => .inl (.inr hk)))
 have HB := A0q86_ (Below.refl w.heap.size w)
 have H : (if ([] : List (S99)).length + l0_0.length < 3518437208883 then ((some (([] : List (S99)) ++ l0_0 : List (S99))).bind fun y759 => ((some (([(⟨a0_2, a0_3, l0_1⟩ : S99)] : List (S99)) : List (S99))).bind fun y762 => (if y759.length + y762.length < 3518437208883 then (some ((y759 ++ y762), ([] : List (S74)), a0_3, a0_3)) else (none)))) else (none)) = some (r1, r2, r3, r4) := h
 clear h
 by_cases c2 : ([] : List (S99)).length + l0_0.length < 3518437208883
 ·rw [if_pos c2] at H
  have LMc2 := A0q86_ c2
  clear c2
  obtain ⟨y759, hy759⟩ : ∃ y_ : List (S99), y_ = (([] : List (S99)) ++ l0_0) := ⟨_, rfl⟩
  replace H : ((some (([(⟨a0_2, a0_3, l0_1⟩ : S99)] : List (S99)) : List (S99))).bind fun y762 => (if y759.length + y762.length < 3518437208883 then (some ((y759 ++ y762), ([] : List (S74)), a0_3, a0_3)) else (none))) = some (r1, r2, r3, r4) := by first | (rw [hy759]; with_reducible exact H) | (have H2_ := (Option.bind_some _ _).symm.trans H; rw [hy759]; with_reducible exact H2_) | (have H2_ := (Option.bind_some _ _).symm.trans H; with_reducible exact H2_) | with_reducible exact H | (rw [hy759]; exact H) | exact H
  have Ny759 := A0q86_ hy759
  clear hy759
  obtain ⟨y762, hy762⟩ : ∃ y_ : List (S99), y_ = (([(⟨a0_2, a0_3, l0_1⟩ : S99)] : List (S99))) := ⟨_, rfl⟩
  replace H : (if y759.length + y762.length < 3518437208883 then (some ((y759 ++ y762), ([] : List (S74)), a0_3, a0_3)) else (none)) = some (r1, r2, r3, r4) := by first | (rw [hy762]; with_reducible exact H) | (have H2_ := (Option.bind_some _ _).symm.trans H; rw [hy762]; with_reducible exact H2_) | (have H2_ := (Option.bind_some _ _).symm.trans H; with_reducible exact H2_) | with_reducible exact H | (rw [hy762]; exact H) | exact H
  have Ny762 := A0q86_ hy762
  clear hy762
  by_cases c3 : y759.length + y762.length < 3518437208883
  ·rw [if_pos c3] at H
   have LMc3 := A0q86_ c3
   clear c3
   obtain ⟨y765, hy765⟩ : ∃ y_ : List (S99), y_ = (y759 ++ y762) := ⟨_, rfl⟩
   replace H : (some (y765, ([] : List (S74)), a0_3, a0_3)) = some (r1, r2, r3, r4) := by first | (rw [hy765]; with_reducible exact H) | (have H2_ := (Option.bind_some _ _).symm.trans H; rw [hy765]; with_reducible exact H2_) | (have H2_ := (Option.bind_some _ _).symm.trans H; with_reducible exact H2_) | with_reducible exact H | (rw [hy765]; exact H) | exact H
   have Ny765 := A0q86_ hy765
   clear hy765
   simp only [Option.some.injEq, Prod.mk.injEq] at H
   obtain ⟨rfl, rfl, rfl, rfl⟩ := H
   go_enter Try.func81, Try.ntmps81
   try go_wp2_with (first | ((with_reducible refine gate_dst (N:=1) rfl ?_); refine box_event ?hg (N:=1) ?hd (cs := #[.slice A0_0 l0_0.length c0_0, .slice A0_1 l0_1.length c0_1, .int .i64 a0_2, .int .i64 a0_3]) (t := 27) ?hr ?_; (case hd => rfl); (case hg => rfl); (case hr => first | (go_simp; done) | (go_simp; rfl)); intro gb757 hg w4 hbox hb; have n0_ := A0q86_ (Kd.V_below (Kd.V_elderB (by (with_reducible repeat (first | apply Kd.V_alloc | apply Kd.V_drewN | apply Kd.V_drew)); exact HO0_0.out) gb757 (Nat.le_of_eq hg.symm)) hb); have n1_ := A0q86_ (Kd.V_below (Kd.V_elderB (by (with_reducible repeat (first | apply Kd.V_alloc | apply Kd.V_drewN | apply Kd.V_drew)); exact HO0_1.out) gb757 (Nat.le_of_eq hg.symm)) hb); have n2_ := A0q86_ (below_step (by repeat (first | (with_reducible first | exact HB.out | apply below_alloc | apply pw_below_drewN | apply below_drew1) | exact HB.out)) hb); have n3_ := A0q86_ (hbox); have n4_ := A0q86_ ((by rw [hg]; exact (below_size (by repeat (first | (with_reducible first | exact HB.out | apply below_alloc | apply pw_below_drewN | apply below_drew1) | exact HB.out))) : w.heap.size ≤ gb757)); have n5_ := A0q86_ ((by rw [hg]; exact (below_size (by repeat (first | (with_reducible first | exact HB.out | apply below_alloc | apply pw_below_drewN | apply below_drew1) | exact HB.out))) : w.heap.size ≤ gb757)); clear HO0_0; clear HO0_1; clear HB; have HO0_0 := n0_; have HO0_1 := n1_; have HB := n2_; have BK757 := n3_; have GW757 := n4_; have GE757 := n5_; clear n0_ n1_ n2_ n3_ n4_ n5_; clear hb hbox hg) | ((with_reducible refine gate_dst (N:=2) rfl ?_); refine box_event ?hg (N:=2) ?hd (cs := #[.slice none 0 0, .slice none 0 0, .int .i64 0, .int .i64 0]) (t := 27) ?hr ?_; (case hd => rfl); (case hg => rfl); (case hr => first | (go_simp; done) | (go_simp; rfl)); intro gb758 hg w5 hbox hb; have n0_ := A0q86_ (Kd.V_below (Kd.V_elderB (by (with_reducible repeat (first | apply Kd.V_alloc | apply Kd.V_drewN | apply Kd.V_drew)); exact HO0_0.out) gb758 (Nat.le_of_eq hg.symm)) hb); have n1_ := A0q86_ (Kd.V_below (Kd.V_elderB (by (with_reducible repeat (first | apply Kd.V_alloc | apply Kd.V_drewN | apply Kd.V_drew)); exact HO0_1.out) gb758 (Nat.le_of_eq hg.symm)) hb); have n2_ := A0q86_ (blk_below (g:=gb757) (o:=.cells #[.slice A0_0 l0_0.length c0_0, .slice A0_1 l0_1.length c0_1, .int .i64 a0_2, .int .i64 a0_3] 27 (0, 0)) (by (with_reducible repeat (first | refine blk_drewN ?_ _ | refine blk_drew ?_ | refine blk_alloc ?_ _)); exact BK757.out) hb); have n3_ := A0q86_ (below_step (by repeat (first | (with_reducible first | exact HB.out | apply below_alloc | apply pw_below_drewN | apply below_drew1 | refine below_set ?_ GE757.out) | exact HB.out)) hb); have n4_ := A0q86_ (hbox); have n5_ := A0q86_ ((by rw [hg]; exact (below_size (by repeat (first | (with_reducible first | exact HB.out | apply below_alloc | apply pw_below_drewN | apply below_drew1 | refine below_set ?_ GE757.out) | exact HB.out))) : w.heap.size ≤ gb758)); have n6_ := A0q86_ ((by rw [hg]; exact (below_size (by repeat (first | (with_reducible first | exact HB.out | apply below_alloc | apply pw_below_drewN | apply below_drew1 | refine below_set ?_ GE757.out) | exact HB.out))) : w.heap.size ≤ gb758)); have n7_ := A0q86_ ((by rw [hg]; exact Nat.ne_of_lt (blk_lt (g:=gb757) (o:=.cells #[.slice A0_0 l0_0.length c0_0, .slice A0_1 l0_1.length c0_1, .int .i64 a0_2, .int .i64 a0_3] 27 (0, 0)) (by (with_reducible repeat (first | refine blk_drewN ?_ _ | refine blk_drew ?_ | refine blk_alloc ?_ _)); exact BK757.out)) : gb757 ≠ gb758)); have n8_ := A0q86_ ((by rw [hg]; exact Nat.ne_of_gt (blk_lt (g:=gb757) (o:=.cells #[.slice A0_0 l0_0.length c0_0, .slice A0_1 l0_1.length c0_1, .int .i64 a0_2, .int .i64 a0_3] 27 (0, 0)) (by (with_reducible repeat (first | refine blk_drewN ?_ _ | refine blk_drew ?_ | refine blk_alloc ?_ _)); exact BK757.out)) : gb758 ≠ gb757)); clear HO0_0; clear HO0_1; clear BK757; clear HB; have HO0_0 := n0_; have HO0_1 := n1_; have BK757 := n2_; have HB := n3_; have BK758 := n4_; have GW758 := n5_; have GE758 := n6_; have NB757_758 := n7_; have NB758_757 := n8_; clear n0_ n1_ n2_ n3_ n4_ n5_ n6_ n7_ n8_; clear hb hbox hg))
   have n0_ := A0q86_ (Kd.V_drew HO0_0.out)
   have n1_ := A0q86_ (Kd.V_drew HO0_1.out)
   have n2_ := A0q86_ (blk_drew BK757.out)
   have n3_ := A0q86_ (blk_drew BK758.out)
   have n4_ := A0q86_ (below_drew1 HB.out)
   clear HO0_0
   clear HO0_1
   clear BK757
   clear BK758
   clear HB
   have HO0_0 := n0_
   have HO0_1 := n1_
   have BK757 := n2_
   have BK758 := n3_
   have HB := n4_
   clear n0_ n1_ n2_ n3_ n4_
   refine start_ (n := 19) (S := fun w' => w'.cell? ⟨gb757, 0, none⟩ = some (.slice A0_0 l0_0.length c0_0) ∧ w'.cell? ⟨gb757, 1, none⟩ = some (.slice A0_1 l0_1.length c0_1) ∧ w'.cell? ⟨gb757, 2, none⟩ = some (.int .i64 a0_2) ∧ w'.cell? ⟨gb757, 3, none⟩ = some (.int .i64 a0_3)) (ds := []) mk15q86_ (by kernel_rfl) rfl rfl ⟨(blk_cell BK757.out 0).trans rfl, (blk_cell BK757.out 1).trans rfl, (blk_cell BK757.out 2).trans rfl, (blk_cell BK757.out 3).trans rfl⟩ (fun hHeld => ?_); refine with_tabW counterfoilref12_Cut.tab2 counterfoilref12_Cut.bits2 (fun HT_ HW_ => ?_)
   generalize w5.drew = w6 at HO0_0 HO0_1 BK757 BK758 HB hHeld ⊢
   refine pure_ (i:=0) (N:=some 4) (v:=?_) (a':=?_) mk16q86_ rfl rfl (any_of HT_.out (by kernel_rfl)) (fun _ _ _ h => h) (Or.inl ⟨by rfl, ?_⟩) ?_ ?_
   rotate_left
   ·intro w'
    go_simp
    with_reducible rfl
   rotate_left
   ·simp only [Act.put, z1q86_, z2q86_, z3q86_, i64_w, i32_w]
    rfl
   refine pure_ (i:=1) (N:=some 5) (v:=?_) (a':=?_) mk17q86_ rfl rfl (any_of HT_.out (by kernel_rfl)) (fun _ _ _ h => h) (Or.inl ⟨by rfl, ?_⟩) ?_ ?_
   rotate_left
   ·intro w'
    go_simp
    with_reducible rfl
   rotate_left
   ·simp only [Act.put, z1q86_, z2q86_, z3q86_, i64_w, i32_w]
    rfl
   refine pure_ (i:=4) (N:=some 8) (v:=?_) (a':=?_) mk18q86_ rfl rfl (any_of HT_.out (by kernel_rfl)) (fun _ _ _ h => h) (Or.inl ⟨by rfl, ?_⟩) ?_ ?_
   rotate_left
   ·intro w'
    go_simp
    with_reducible rfl
   rotate_left
   ·simp only [Act.put, z1q86_, z2q86_, z3q86_, i64_w, i32_w]
    rfl
   refine pure_ (i:=6) (N:=some 10) (v:=?_) (a':=?_) mk19q86_ rfl rfl (any_of HT_.out (by kernel_rfl)) (fun _ _ _ h => h) (Or.inl ⟨by rfl, ?_⟩) ?_ ?_
   rotate_left
   ·intro w'
    go_simp
    with_reducible rfl
   rotate_left
   ·simp only [Act.put, z1q86_, z2q86_, z3q86_, i64_w, i32_w]
    rfl
   refine pure_ (i:=8) (N:=some 12) (v:=?_) (a':=?_) mk20q86_ rfl rfl (any_of HT_.out (by kernel_rfl)) (fun _ _ _ h => h) (Or.inl ⟨by rfl, ?_⟩) ?_ ?_
   rotate_left
   ·intro w'
    go_simp
    with_reducible rfl
   rotate_left
   ·simp only [Act.put, z1q86_, z2q86_, z3q86_, i64_w, i32_w]
    rfl
   refine pure_ (i:=13) (N:=some 17) (v:=?_) (a':=?_) mk21q86_ rfl rfl (any_of HT_.out (by kernel_rfl)) (fun _ _ _ h => h) (Or.inl ⟨by rfl, ?_⟩) ?_ ?_
   rotate_left
   ·intro w'
    go_simp
    with_reducible rfl
   rotate_left
   ·simp only [Act.put, z1q86_, z2q86_, z3q86_, i64_w, i32_w]
    rfl
   refine pure_ (i:=15) (N:=some 19) (v:=?_) (a':=?_) mk22q86_ rfl rfl (any_of HT_.out (by kernel_rfl)) (fun _ _ _ h => h) (Or.inl ⟨by rfl, ?_⟩) ?_ ?_
   rotate_left
   ·intro w'
    go_simp
    with_reducible rfl
   rotate_left
   ·simp only [Act.put, z1q86_, z2q86_, z3q86_, i64_w, i32_w]
    rfl
   refine take_ (i:=2) (N:=some 6) (v:=?_) (a':=?_) mk23q86_ rfl rfl (take_ofW HT_.out HW_.out (by kernel_rfl)) (fun _ _ _ h => h) (Or.inl ⟨by rfl, ?_⟩) hHeld ?_ ?_
   rotate_left
   ·rintro w' ⟨s0, s1, s2, s3⟩
    go_simp
    with_reducible rfl
   rotate_left
   ·simp only [Act.put, z1q86_, z2q86_, z3q86_, i64_w, i32_w]
    rfl
   refine take_ (i:=5) (N:=some 9) (v:=?_) (a':=?_) mk24q86_ rfl rfl (take_ofW HT_.out HW_.out (by kernel_rfl)) (fun _ _ _ h => h) (Or.inl ⟨by rfl, ?_⟩) hHeld ?_ ?_
   rotate_left
   ·rintro w' ⟨s0, s1, s2, s3⟩
    go_simp
    with_reducible rfl
   rotate_left
   ·simp only [Act.put, z1q86_, z2q86_, z3q86_, i64_w, i32_w]
    rfl
   refine take_ (i:=7) (N:=some 11) (v:=?_) (a':=?_) mk25q86_ rfl rfl (take_ofW HT_.out HW_.out (by kernel_rfl)) (fun _ _ _ h => h) (Or.inl ⟨by rfl, ?_⟩) hHeld ?_ ?_
   rotate_left
   ·rintro w' ⟨s0, s1, s2, s3⟩
    go_simp
    with_reducible rfl
   rotate_left
   ·simp only [Act.put, z1q86_, z2q86_, z3q86_, i64_w, i32_w]
    rfl
   refine take_ (i:=9) (N:=some 13) (v:=?_) (a':=?_) mk26q86_ rfl rfl (take_ofW HT_.out HW_.out (by kernel_rfl)) (fun _ _ _ h => h) (Or.inl ⟨by rfl, ?_⟩) hHeld ?_ ?_
   rotate_left
   ·rintro w' ⟨s0, s1, s2, s3⟩
    go_simp
    with_reducible rfl
   rotate_left
   ·simp only [Act.put, z1q86_, z2q86_, z3q86_, i64_w, i32_w]
    rfl
   refine pure_ (i:=10) (N:=some 14) (v:=?_) (a':=?_) mk27q86_ rfl rfl (any_of HT_.out (by kernel_rfl)) (fun _ _ _ h => h) (Or.inl ⟨by rfl, ?_⟩) ?_ ?_
   rotate_left
   ·intro w'
    go_simp
    with_reducible rfl
   rotate_left
   ·simp only [Act.put, z1q86_, z2q86_, z3q86_, i64_w, i32_w]
    rfl
   refine take_ (i:=14) (N:=some 18) (v:=?_) (a':=?_) mk28q86_ rfl rfl (take_ofW HT_.out HW_.out (by kernel_rfl)) (fun _ _ _ h => h) (Or.inl ⟨by rfl, ?_⟩) hHeld ?_ ?_
   rotate_left
   ·rintro w' ⟨s0, s1, s2, s3⟩
    go_simp
    with_reducible rfl
   rotate_left
   ·simp only [Act.put, z1q86_, z2q86_, z3q86_, i64_w, i32_w]
    rfl
   refine take_ (i:=16) (N:=some 20) (v:=?_) (a':=?_) mk29q86_ rfl rfl (take_ofW HT_.out HW_.out (by kernel_rfl)) (fun _ _ _ h => h) (Or.inl ⟨by rfl, ?_⟩) hHeld ?_ ?_
   rotate_left
   ·rintro w' ⟨s0, s1, s2, s3⟩
    go_simp
    with_reducible rfl
   rotate_left
   ·simp only [Act.put, z1q86_, z2q86_, z3q86_, i64_w, i32_w]
    rfl
   refine join_ (σ := Value × Value) 3 mk30q86_ (fun s_ => [(7, s_.1), (15, s_.2)]) (fun s_ w' => (w'.cell? ⟨gb757, 0, none⟩ = some (.slice A0_0 l0_0.length c0_0) ∧ w'.cell? ⟨gb757, 1, none⟩ = some (.slice A0_1 l0_1.length c0_1) ∧ w'.cell? ⟨gb757, 2, none⟩ = some (.int .i64 a0_2) ∧ w'.cell? ⟨gb757, 3, none⟩ = some (.int .i64 a0_3)) ∧ (Kd.V k99 99 w' w.heap.size (fun k_ => ((P0_0_ k_ ∨ P0_1_ k_) ∨ w.heap.size ≤ k_) ∧ some k_ ≠ (s_.1 : Value).ownBlock ∧ some k_ ≠ (s_.2 : Value).ownBlock ∧ k_ ≠ gb757 ∧ k_ ≠ gb758) (.slice A0_0 l0_0.length c0_0) l0_0) ∧ (Kd.V k74 74 w' w.heap.size (fun k_ => ((P0_0_ k_ ∨ P0_1_ k_) ∨ w.heap.size ≤ k_) ∧ some k_ ≠ (s_.1 : Value).ownBlock ∧ some k_ ≠ (s_.2 : Value).ownBlock ∧ k_ ≠ gb757 ∧ k_ ≠ gb758) (.slice A0_1 l0_1.length c0_1) l0_1) ∧ (Kd.N k99 99 w' w.heap.size (fun k_ => ((P0_0_ k_ ∨ P0_1_ k_) ∨ w.heap.size ≤ k_) ∧ some k_ ≠ (s_.2 : Value).ownBlock ∧ k_ ≠ gb757 ∧ k_ ≠ gb758) s_.1 y759) ∧ (Kd.N k99 99 w' w.heap.size (fun k_ => ((P0_0_ k_ ∨ P0_1_ k_) ∨ w.heap.size ≤ k_) ∧ some k_ ≠ (s_.1 : Value).ownBlock ∧ k_ ≠ gb757 ∧ k_ ≠ gb758) s_.2 y762) ∧ (w'.heap[gb757]? = some (.cells #[.slice A0_0 l0_0.length c0_0, .slice A0_1 l0_1.length c0_1, .int .i64 a0_2, .int .i64 a0_3] 27 (0, 0))) ∧ (w'.heap[gb758]? = some (.cells #[.slice none 0 0, .slice none 0 0, .int .i64 0, .int .i64 0] 27 (0, 0))) ∧ (Below w.heap.size w w')) ?_ ?_
   rotate_left
   ·intro hCont
    refine two_ (i:=3) (j := 11) (Ni := some 7) (Nj := some 15) mk31q86_ mk32q86_ rfl rfl rfl rfl (two_of HT_.out (by kernel_rfl)) (by decide) (by decide) (fun K hK => ?_) (fun K hK => ?_)
    ·skip
     refine Kd.N_append_rows_step k99 (w0 := w) w.heap.size (by rfl) (.tmp 4) (.tmp 6) 24 99 (.agg #[(.int .i64 0), (.int .i64 0), (.slice none 0 0)]) 40 rfl Try.underlying24 info99 rfl (by decide) (by omega) (.slice none 0 0) ([] : List (S99)) l0_0 _ _ _ (fun k_ => ((P0_0_ k_ ∨ P0_1_ k_) ∨ w.heap.size ≤ k_) ∧ k_ ≠ gb757 ∧ k_ ≠ gb758) (fun k_ => ((fun k_ => ((P0_0_ k_ ∨ P0_1_ k_) ∨ w.heap.size ≤ k_) ∧ k_ ≠ gb757 ∧ k_ ≠ gb758)) k_ ∧ some k_ ≠ (.slice none 0 0 : Value).ownBlock) rfl rfl ?aO ?aR (fun _ hk => hk) ?aF ?aB ?aS ?aL ?_
     (case aR => exact (by skip; exact Kd.V_F (Kd.V_mono (ok' := (fun k_ => ((fun k_ => ((P0_0_ k_ ∨ P0_1_ k_) ∨ w.heap.size ≤ k_) ∧ k_ ≠ gb757 ∧ k_ ≠ gb758)) k_ ∧ some k_ ≠ (.slice none 0 0 : Value).ownBlock)) (HO0_0.out) (fun k_ hk => ⟨⟨hk.1.1, ⟨hk.1.2, hk.2⟩⟩, (by simp [Value.ownBlock])⟩))))
     (case aB => exact (by repeat (first | (with_reducible first | exact HB.out | apply below_alloc | apply pw_below_drewN | apply below_drew1 | refine below_set ?_ GE757.out | refine below_set ?_ GE758.out) | exact HB.out)))
     (case aF => exact (fun k_ hk => ⟨(.inr (Nat.le_trans (below_size (by repeat (first | (with_reducible first | exact HB.out | apply below_alloc | apply pw_below_drewN | apply below_drew1 | refine below_set ?_ GE757.out | refine below_set ?_ GE758.out) | exact HB.out))) hk)), Kd.freshB (g:=gb757) (o:=.cells #[.slice A0_0 l0_0.length c0_0, .slice A0_1 l0_1.length c0_1, .int .i64 a0_2, .int .i64 a0_3] 27 (0, 0)) (by (with_reducible repeat (first | refine blk_drewN ?_ _ | refine blk_drew ?_ | refine blk_alloc ?_ _)); exact BK757.out) k_ hk, Kd.freshB (g:=gb758) (o:=.cells #[.slice none 0 0, .slice none 0 0, .int .i64 0, .int .i64 0] 27 (0, 0)) (by (with_reducible repeat (first | refine blk_drewN ?_ _ | refine blk_drew ?_ | refine blk_alloc ?_ _)); exact BK758.out) k_ hk⟩))
     (case aO => exact ((Kd.N_nil _ _ _ _ (fun k_ => ((P0_0_ k_ ∨ P0_1_ k_) ∨ w.heap.size ≤ k_) ∧ k_ ≠ gb757 ∧ k_ ≠ gb758))))
     (case aS => exact (below_size (by repeat (first | (with_reducible first | exact HB.out | apply below_alloc | apply pw_below_drewN | apply below_drew1 | refine below_set ?_ GE757.out | refine below_set ?_ GE758.out) | exact HB.out))))
     (case aL => have := LMc2.out; omega)
     intro v760 w7 ho hb hg hat
     rw [← Ny759.out] at ho
     have n0_ := A0q86_ (Kd.V_afterv (Kd.V_apart_nil (by (with_reducible repeat (first | apply Kd.V_alloc | apply Kd.V_drewN | apply Kd.V_drew)); exact HO0_0.out)) hg hat)
     have n1_ := A0q86_ (Kd.V_afterv (Kd.V_apart_nil (by (with_reducible repeat (first | apply Kd.V_alloc | apply Kd.V_drewN | apply Kd.V_drew)); exact HO0_1.out)) hg hat)
     have n2_ := A0q86_ (blk_grown (g:=gb757) (o:=.cells #[.slice A0_0 l0_0.length c0_0, .slice A0_1 l0_1.length c0_1, .int .i64 a0_2, .int .i64 a0_3] 27 (0, 0)) (by (with_reducible repeat (first | refine blk_drewN ?_ _ | refine blk_drew ?_ | refine blk_alloc ?_ _)); exact BK757.out) hg (by simp [Value.ownBlock]))
     have n3_ := A0q86_ (blk_grown (g:=gb758) (o:=.cells #[.slice none 0 0, .slice none 0 0, .int .i64 0, .int .i64 0] 27 (0, 0)) (by (with_reducible repeat (first | refine blk_drewN ?_ _ | refine blk_drew ?_ | refine blk_alloc ?_ _)); exact BK758.out) hg (by simp [Value.ownBlock]))
     have n4_ := A0q86_ (hb)
     have n5_ := A0q86_ (ho)
     clear HO0_0
     clear HO0_1
     clear BK757
     clear BK758
     clear HB
     have HO0_0 := n0_
     have HO0_1 := n1_
     have BK757 := n2_
     have BK758 := n3_
     have HB := n4_
     have HO761 := n5_
     clear n0_ n1_ n2_ n3_ n4_ n5_
     clear ho hb hg hat
     refine hK.out _ _ ⟨(blk_cell BK757.out 0).trans rfl, (blk_cell BK757.out 1).trans rfl, (blk_cell BK757.out 2).trans rfl, (blk_cell BK757.out 3).trans rfl⟩ (fun hHeld => ?_)
     clear hK K
     refine norm_ (a' := ?_) ?_ ?_
     rotate_left
     ·show Act.put _ (some 7) _ = _
      simp only [Act.put, z1q86_, z2q86_, z3q86_, i64_w, i32_w]
      rfl
     refine one_ (i:=11) (N:=some 15) mk30q86_ rfl rfl (one_of HT_.out (by kernel_rfl)) (by decide) (fun K hK => ?_)
     refine Kd.N_lit_step k99 _ 99 ?hg (N' := 15) ?hd (xs := ([(⟨a0_2, a0_3, l0_1⟩ : S99)] : List (S99))) (inner := [.int .i64 a0_2, .int .i64 a0_3, .slice A0_1 l0_1.length c0_1]) (ok := (fun k_ => ((P0_0_ k_ ∨ P0_1_ k_) ∨ w.heap.size ≤ k_) ∧ some k_ ≠ (v760 : Value).ownBlock ∧ k_ ≠ gb757 ∧ k_ ≠ gb758)) (okp := (fun k_ => ((P0_0_ k_ ∨ P0_1_ k_) ∨ w.heap.size ≤ k_) ∧ some k_ ≠ (v760 : Value).ownBlock ∧ k_ ≠ gb757 ∧ k_ ≠ gb758)) ?hr ?hp (fun _ hk => hk) ((show ∀ k_, w7.heap.size ≤ k_ → (fun k_ => ((P0_0_ k_ ∨ P0_1_ k_) ∨ w.heap.size ≤ k_) ∧ some k_ ≠ (v760 : Value).ownBlock ∧ k_ ≠ gb757 ∧ k_ ≠ gb758) k_ from fun k_ hk => ⟨(.inr (Nat.le_trans (below_size (by repeat (first | (with_reducible first | exact HB.out | apply below_alloc | apply pw_below_drewN | apply below_drew1 | refine below_set ?_ GE757.out | refine below_set ?_ GE758.out) | exact HB.out))) hk)), Kd.fresh' (Kd.N_lt (by (with_reducible repeat (first | apply Kd.N_alloc | apply Kd.N_drewN | apply Kd.N_drew)); exact HO761.out)) k_ hk, Kd.freshB (g:=gb757) (o:=.cells #[.slice A0_0 l0_0.length c0_0, .slice A0_1 l0_1.length c0_1, .int .i64 a0_2, .int .i64 a0_3] 27 (0, 0)) (by (with_reducible repeat (first | refine blk_drewN ?_ _ | refine blk_drew ?_ | refine blk_alloc ?_ _)); exact BK757.out) k_ hk, Kd.freshB (g:=gb758) (o:=.cells #[.slice none 0 0, .slice none 0 0, .int .i64 0, .int .i64 0] 27 (0, 0)) (by (with_reducible repeat (first | refine blk_drewN ?_ _ | refine blk_drew ?_ | refine blk_alloc ?_ _)); exact BK758.out) k_ hk⟩) _ (Nat.le_refl _)) (Below.refl _ _) (Nat.le_refl _) (by simp) ?_; (case hd => rfl); (case hg => rfl); (case hr => first | (go_simp; done) | (go_simp; rfl)); (case hp => exact (Reps.c3 (show Kd.FK k99 _ _ (⟨a0_2, a0_3, l0_1⟩ : S99) [.int .i64 a0_2, .int .i64 a0_3, .slice A0_1 l0_1.length c0_1] from (k99_mkF _ _ (⟨a0_2, a0_3, l0_1⟩ : S99) (Kd.V_reads' (Kd.V_mono (ok' := (fun k_ => ((P0_0_ k_ ∨ P0_1_ k_) ∨ w.heap.size ≤ k_) ∧ some k_ ≠ (v760 : Value).ownBlock ∧ k_ ≠ gb757 ∧ k_ ≠ gb758)) (HO0_1.out) (fun k_ hk => ⟨hk.1.1.1, ⟨hk.2, ⟨hk.1.1.2, hk.1.2⟩⟩⟩))).2.1 (Kd.V_F (Kd.V_mono (ok' := (fun k_ => ((P0_0_ k_ ∨ P0_1_ k_) ∨ w.heap.size ≤ k_) ∧ some k_ ≠ (v760 : Value).ownBlock ∧ k_ ≠ gb757 ∧ k_ ≠ gb758)) (HO0_1.out) (fun k_ hk => ⟨hk.1.1.1, ⟨hk.2, ⟨hk.1.1.2, hk.1.2⟩⟩⟩))))) (Reps.none _ _)))
     intro v763 w8 ho9 hb hg_ hnew_
     clear hg_ hnew_
     (first | rw [← Ny762.out] at ho9 | (simp only [Int.reduceToNat] at ho9; rw [← Ny762.out] at ho9))
     have n0_ := A0q86_ (Kd.V_elder' (by (with_reducible repeat (first | apply Kd.V_alloc | apply Kd.V_drewN | apply Kd.V_drew)); exact HO0_0.out) (Kd.N_base ho9) hb)
     have n1_ := A0q86_ (Kd.V_elder' (by (with_reducible repeat (first | apply Kd.V_alloc | apply Kd.V_drewN | apply Kd.V_drew)); exact HO0_1.out) (Kd.N_base ho9) hb)
     have n2_ := A0q86_ (Kd.N_elder' (by (with_reducible repeat (first | apply Kd.N_alloc | apply Kd.N_drewN | apply Kd.N_drew)); exact HO761.out) (Kd.N_base ho9) hb)
     have n3_ := A0q86_ (Kd.N_lower ho9 (below_size (by repeat (first | (with_reducible first | exact HB.out | apply below_alloc | apply pw_below_drewN | apply below_drew1 | refine below_set ?_ GE757.out | refine below_set ?_ GE758.out) | exact HB.out))))
     have n4_ := A0q86_ (blk_below (g:=gb757) (o:=.cells #[.slice A0_0 l0_0.length c0_0, .slice A0_1 l0_1.length c0_1, .int .i64 a0_2, .int .i64 a0_3] 27 (0, 0)) (by (with_reducible repeat (first | refine blk_drewN ?_ _ | refine blk_drew ?_ | refine blk_alloc ?_ _)); exact BK757.out) hb)
     have n5_ := A0q86_ (blk_below (g:=gb758) (o:=.cells #[.slice none 0 0, .slice none 0 0, .int .i64 0, .int .i64 0] 27 (0, 0)) (by (with_reducible repeat (first | refine blk_drewN ?_ _ | refine blk_drew ?_ | refine blk_alloc ?_ _)); exact BK758.out) hb)
     have n6_ := A0q86_ (below_step (by repeat (first | (with_reducible first | exact HB.out | apply below_alloc | apply pw_below_drewN | apply below_drew1 | refine below_set ?_ GE757.out | refine below_set ?_ GE758.out) | exact HB.out)) hb)
     clear HO0_0
     clear HO0_1
     clear HO761
     clear BK757
     clear BK758
     clear HB
     have HO0_0 := n0_
     have HO0_1 := n1_
     have HO761 := n2_
     have HO764 := n3_
     have BK757 := n4_
     have BK758 := n5_
     have HB := n6_
     clear n0_ n1_ n2_ n3_ n4_ n5_ n6_
     clear hb ho9
     refine hK.out _ _ ⟨(blk_cell BK757.out 0).trans rfl, (blk_cell BK757.out 1).trans rfl, (blk_cell BK757.out 2).trans rfl, (blk_cell BK757.out 3).trans rfl⟩ (fun hHeld => ?_)
     clear hK K
     refine norm_ (a' := ?_) ?_ ?_
     rotate_left
     ·show Act.put _ (some 15) _ = _
      simp only [Act.put, z1q86_, z2q86_, z3q86_, i64_w, i32_w]
      rfl
     exact norm_ (by simp only [putAll, Act.put, z1q86_, z2q86_, z3q86_]) (hCont (v760, v763) _ ⟨hHeld, (by (with_reducible repeat (first | apply Kd.V_alloc | apply Kd.V_drewN | apply Kd.V_drew)); exact Kd.V_mono HO0_0.out (fun _ hk => ⟨hk.1.1.1.1, ⟨hk.1.2, ⟨hk.2, ⟨hk.1.1.1.2, hk.1.1.2⟩⟩⟩⟩)), (by (with_reducible repeat (first | apply Kd.V_alloc | apply Kd.V_drewN | apply Kd.V_drew)); exact Kd.V_mono HO0_1.out (fun _ hk => ⟨hk.1.1.1.1, ⟨hk.1.2, ⟨hk.2, ⟨hk.1.1.1.2, hk.1.1.2⟩⟩⟩⟩)), (by (with_reducible repeat (first | apply Kd.N_alloc | apply Kd.N_drewN | apply Kd.N_drew)); exact Kd.N_mono HO761.out (fun _ hk => ⟨hk.1.1, ⟨hk.2, ⟨hk.1.2.1, hk.1.2.2⟩⟩⟩)), (by (with_reducible repeat (first | apply Kd.N_alloc | apply Kd.N_drewN | apply Kd.N_drew)); exact HO764.out), (by (with_reducible repeat (first | refine blk_drewN ?_ _ | refine blk_drew ?_ | refine blk_alloc ?_ _)); exact BK757.out), (by (with_reducible repeat (first | refine blk_drewN ?_ _ | refine blk_drew ?_ | refine blk_alloc ?_ _)); exact BK758.out), (by repeat (first | (with_reducible first | exact HB.out | apply below_alloc | apply pw_below_drewN | apply below_drew1 | refine below_set ?_ GE757.out | refine below_set ?_ GE758.out) | exact HB.out))⟩)
    ·skip
     refine Kd.N_lit_step k99 _ 99 ?hg (N' := 15) ?hd (xs := ([(⟨a0_2, a0_3, l0_1⟩ : S99)] : List (S99))) (inner := [.int .i64 a0_2, .int .i64 a0_3, .slice A0_1 l0_1.length c0_1]) (ok := (fun k_ => ((P0_0_ k_ ∨ P0_1_ k_) ∨ w.heap.size ≤ k_) ∧ k_ ≠ gb757 ∧ k_ ≠ gb758)) (okp := (fun k_ => ((P0_0_ k_ ∨ P0_1_ k_) ∨ w.heap.size ≤ k_) ∧ k_ ≠ gb757 ∧ k_ ≠ gb758)) ?hr ?hp (fun _ hk => hk) ((show ∀ k_, w6.heap.size ≤ k_ → (fun k_ => ((P0_0_ k_ ∨ P0_1_ k_) ∨ w.heap.size ≤ k_) ∧ k_ ≠ gb757 ∧ k_ ≠ gb758) k_ from fun k_ hk => ⟨(.inr (Nat.le_trans (below_size (by repeat (first | (with_reducible first | exact HB.out | apply below_alloc | apply pw_below_drewN | apply below_drew1 | refine below_set ?_ GE757.out | refine below_set ?_ GE758.out) | exact HB.out))) hk)), Kd.freshB (g:=gb757) (o:=.cells #[.slice A0_0 l0_0.length c0_0, .slice A0_1 l0_1.length c0_1, .int .i64 a0_2, .int .i64 a0_3] 27 (0, 0)) (by (with_reducible repeat (first | refine blk_drewN ?_ _ | refine blk_drew ?_ | refine blk_alloc ?_ _)); exact BK757.out) k_ hk, Kd.freshB (g:=gb758) (o:=.cells #[.slice none 0 0, .slice none 0 0, .int .i64 0, .int .i64 0] 27 (0, 0)) (by (with_reducible repeat (first | refine blk_drewN ?_ _ | refine blk_drew ?_ | refine blk_alloc ?_ _)); exact BK758.out) k_ hk⟩) _ (Nat.le_refl _)) (Below.refl _ _) (Nat.le_refl _) (by simp) ?_; (case hd => rfl); (case hg => rfl); (case hr => first | (go_simp; done) | (go_simp; rfl)); (case hp => exact (Reps.c3 (show Kd.FK k99 _ _ (⟨a0_2, a0_3, l0_1⟩ : S99) [.int .i64 a0_2, .int .i64 a0_3, .slice A0_1 l0_1.length c0_1] from (k99_mkF _ _ (⟨a0_2, a0_3, l0_1⟩ : S99) (Kd.V_reads' (Kd.V_mono (ok' := (fun k_ => ((P0_0_ k_ ∨ P0_1_ k_) ∨ w.heap.size ≤ k_) ∧ k_ ≠ gb757 ∧ k_ ≠ gb758)) (HO0_1.out) (fun k_ hk => ⟨hk.1.1, ⟨hk.1.2, hk.2⟩⟩))).2.1 (Kd.V_F (Kd.V_mono (ok' := (fun k_ => ((P0_0_ k_ ∨ P0_1_ k_) ∨ w.heap.size ≤ k_) ∧ k_ ≠ gb757 ∧ k_ ≠ gb758)) (HO0_1.out) (fun k_ hk => ⟨hk.1.1, ⟨hk.1.2, hk.2⟩⟩))))) (Reps.none _ _)))
     intro v763 w7 ho8 hb hg_ hnew_
     clear hg_ hnew_
     (first | rw [← Ny762.out] at ho8 | (simp only [Int.reduceToNat] at ho8; rw [← Ny762.out] at ho8))
     have n0_ := A0q86_ (Kd.V_elder' (by (with_reducible repeat (first | apply Kd.V_alloc | apply Kd.V_drewN | apply Kd.V_drew)); exact HO0_0.out) (Kd.N_base ho8) hb)
     have n1_ := A0q86_ (Kd.V_elder' (by (with_reducible repeat (first | apply Kd.V_alloc | apply Kd.V_drewN | apply Kd.V_drew)); exact HO0_1.out) (Kd.N_base ho8) hb)
     have n2_ := A0q86_ (Kd.N_lower ho8 (below_size (by repeat (first | (with_reducible first | exact HB.out | apply below_alloc | apply pw_below_drewN | apply below_drew1 | refine below_set ?_ GE757.out | refine below_set ?_ GE758.out) | exact HB.out))))
     have n3_ := A0q86_ (blk_below (g:=gb757) (o:=.cells #[.slice A0_0 l0_0.length c0_0, .slice A0_1 l0_1.length c0_1, .int .i64 a0_2, .int .i64 a0_3] 27 (0, 0)) (by (with_reducible repeat (first | refine blk_drewN ?_ _ | refine blk_drew ?_ | refine blk_alloc ?_ _)); exact BK757.out) hb)
     have n4_ := A0q86_ (blk_below (g:=gb758) (o:=.cells #[.slice none 0 0, .slice none 0 0, .int .i64 0, .int .i64 0] 27 (0, 0)) (by (with_reducible repeat (first | refine blk_drewN ?_ _ | refine blk_drew ?_ | refine blk_alloc ?_ _)); exact BK758.out) hb)
     have n5_ := A0q86_ (below_step (by repeat (first | (with_reducible first | exact HB.out | apply below_alloc | apply pw_below_drewN | apply below_drew1 | refine below_set ?_ GE757.out | refine below_set ?_ GE758.out) | exact HB.out)) hb)
     clear HO0_0
     clear HO0_1
     clear BK757
     clear BK758
     clear HB
     have HO0_0 := n0_
     have HO0_1 := n1_
     have HO764 := n2_
     have BK757 := n3_
     have BK758 := n4_
     have HB := n5_
     clear n0_ n1_ n2_ n3_ n4_ n5_
     clear hb ho8
     refine hK.out _ _ ⟨(blk_cell BK757.out 0).trans rfl, (blk_cell BK757.out 1).trans rfl, (blk_cell BK757.out 2).trans rfl, (blk_cell BK757.out 3).trans rfl⟩ (fun hHeld => ?_)
     clear hK K
     refine norm_ (a' := ?_) ?_ ?_
     rotate_left
     ·show Act.put _ (some 15) _ = _
      simp only [Act.put, z1q86_, z2q86_, z3q86_, i64_w, i32_w]
      rfl
     refine one_ (i:=3) (N:=some 7) mk30q86_ rfl rfl (one_of HT_.out (by kernel_rfl)) (by decide) (fun K hK => ?_)
     refine Kd.N_append_rows_step k99 (w0 := w) w.heap.size (by rfl) (.tmp 4) (.tmp 6) 24 99 (.agg #[(.int .i64 0), (.int .i64 0), (.slice none 0 0)]) 40 rfl Try.underlying24 info99 rfl (by decide) (by omega) (.slice none 0 0) ([] : List (S99)) l0_0 _ _ _ (fun k_ => ((P0_0_ k_ ∨ P0_1_ k_) ∨ w.heap.size ≤ k_) ∧ some k_ ≠ (v763 : Value).ownBlock ∧ k_ ≠ gb757 ∧ k_ ≠ gb758) (fun k_ => ((fun k_ => ((P0_0_ k_ ∨ P0_1_ k_) ∨ w.heap.size ≤ k_) ∧ some k_ ≠ (v763 : Value).ownBlock ∧ k_ ≠ gb757 ∧ k_ ≠ gb758)) k_ ∧ some k_ ≠ (.slice none 0 0 : Value).ownBlock) rfl rfl ?aO ?aR (fun _ hk => hk) ?aF ?aB ?aS ?aL ?_
     (case aR => exact (by skip; exact Kd.V_F (Kd.V_mono (ok' := (fun k_ => ((fun k_ => ((P0_0_ k_ ∨ P0_1_ k_) ∨ w.heap.size ≤ k_) ∧ some k_ ≠ (v763 : Value).ownBlock ∧ k_ ≠ gb757 ∧ k_ ≠ gb758)) k_ ∧ some k_ ≠ (.slice none 0 0 : Value).ownBlock)) (HO0_0.out) (fun k_ hk => ⟨⟨hk.1.1.1, ⟨hk.2, ⟨hk.1.1.2, hk.1.2⟩⟩⟩, (by simp [Value.ownBlock])⟩))))
     (case aB => exact (by repeat (first | (with_reducible first | exact HB.out | apply below_alloc | apply pw_below_drewN | apply below_drew1 | refine below_set ?_ GE757.out | refine below_set ?_ GE758.out) | exact HB.out)))
     (case aF => exact (fun k_ hk => ⟨(.inr (Nat.le_trans (below_size (by repeat (first | (with_reducible first | exact HB.out | apply below_alloc | apply pw_below_drewN | apply below_drew1 | refine below_set ?_ GE757.out | refine below_set ?_ GE758.out) | exact HB.out))) hk)), Kd.fresh' (Kd.N_lt (by (with_reducible repeat (first | apply Kd.N_alloc | apply Kd.N_drewN | apply Kd.N_drew)); exact HO764.out)) k_ hk, Kd.freshB (g:=gb757) (o:=.cells #[.slice A0_0 l0_0.length c0_0, .slice A0_1 l0_1.length c0_1, .int .i64 a0_2, .int .i64 a0_3] 27 (0, 0)) (by (with_reducible repeat (first | refine blk_drewN ?_ _ | refine blk_drew ?_ | refine blk_alloc ?_ _)); exact BK757.out) k_ hk, Kd.freshB (g:=gb758) (o:=.cells #[.slice none 0 0, .slice none 0 0, .int .i64 0, .int .i64 0] 27 (0, 0)) (by (with_reducible repeat (first | refine blk_drewN ?_ _ | refine blk_drew ?_ | refine blk_alloc ?_ _)); exact BK758.out) k_ hk⟩))
     (case aO => exact ((Kd.N_nil _ _ _ _ (fun k_ => ((P0_0_ k_ ∨ P0_1_ k_) ∨ w.heap.size ≤ k_) ∧ some k_ ≠ (v763 : Value).ownBlock ∧ k_ ≠ gb757 ∧ k_ ≠ gb758))))
     (case aS => exact (below_size (by repeat (first | (with_reducible first | exact HB.out | apply below_alloc | apply pw_below_drewN | apply below_drew1 | refine below_set ?_ GE757.out | refine below_set ?_ GE758.out) | exact HB.out))))
     (case aL => have := LMc2.out; omega)
     intro v760 w9 ho hb hg hat
     rw [← Ny759.out] at ho
     have n0_ := A0q86_ (Kd.V_afterv (Kd.V_apart_nil (by (with_reducible repeat (first | apply Kd.V_alloc | apply Kd.V_drewN | apply Kd.V_drew)); exact HO0_0.out)) hg hat)
     have n1_ := A0q86_ (Kd.V_afterv (Kd.V_apart_nil (by (with_reducible repeat (first | apply Kd.V_alloc | apply Kd.V_drewN | apply Kd.V_drew)); exact HO0_1.out)) hg hat)
     have n2_ := A0q86_ (blk_grown (g:=gb757) (o:=.cells #[.slice A0_0 l0_0.length c0_0, .slice A0_1 l0_1.length c0_1, .int .i64 a0_2, .int .i64 a0_3] 27 (0, 0)) (by (with_reducible repeat (first | refine blk_drewN ?_ _ | refine blk_drew ?_ | refine blk_alloc ?_ _)); exact BK757.out) hg (by simp [Value.ownBlock]))
     have n3_ := A0q86_ (blk_grown (g:=gb758) (o:=.cells #[.slice none 0 0, .slice none 0 0, .int .i64 0, .int .i64 0] 27 (0, 0)) (by (with_reducible repeat (first | refine blk_drewN ?_ _ | refine blk_drew ?_ | refine blk_alloc ?_ _)); exact BK758.out) hg (by simp [Value.ownBlock]))
     have n4_ := A0q86_ (Kd.N_afterv (Kd.N_apart_nil (by (with_reducible repeat (first | apply Kd.N_alloc | apply Kd.N_drewN | apply Kd.N_drew)); exact HO764.out)) hg hat)
     have n5_ := A0q86_ (hb)
     have n6_ := A0q86_ (ho)
     clear HO0_0
     clear HO0_1
     clear BK757
     clear BK758
     clear HO764
     clear HB
     have HO0_0 := n0_
     have HO0_1 := n1_
     have BK757 := n2_
     have BK758 := n3_
     have HO764 := n4_
     have HB := n5_
     have HO761 := n6_
     clear n0_ n1_ n2_ n3_ n4_ n5_ n6_
     clear ho hb hg hat
     refine hK.out _ _ ⟨(blk_cell BK757.out 0).trans rfl, (blk_cell BK757.out 1).trans rfl, (blk_cell BK757.out 2).trans rfl, (blk_cell BK757.out 3).trans rfl⟩ (fun hHeld => ?_)
     clear hK K
     refine norm_ (a' := ?_) ?_ ?_
     rotate_left
     ·show Act.put _ (some 7) _ = _
      simp only [Act.put, z1q86_, z2q86_, z3q86_, i64_w, i32_w]
      rfl
     exact norm_ (by simp only [putAll, Act.put, z1q86_, z2q86_, z3q86_]) (hCont (v760, v763) _ ⟨hHeld, (by (with_reducible repeat (first | apply Kd.V_alloc | apply Kd.V_drewN | apply Kd.V_drew)); exact Kd.V_mono HO0_0.out (fun _ hk => ⟨hk.1.1.1.1, ⟨hk.2, ⟨hk.1.2, ⟨hk.1.1.1.2, hk.1.1.2⟩⟩⟩⟩)), (by (with_reducible repeat (first | apply Kd.V_alloc | apply Kd.V_drewN | apply Kd.V_drew)); exact Kd.V_mono HO0_1.out (fun _ hk => ⟨hk.1.1.1.1, ⟨hk.2, ⟨hk.1.2, ⟨hk.1.1.1.2, hk.1.1.2⟩⟩⟩⟩)), (by (with_reducible repeat (first | apply Kd.N_alloc | apply Kd.N_drewN | apply Kd.N_drew)); exact HO761.out), (by (with_reducible repeat (first | apply Kd.N_alloc | apply Kd.N_drewN | apply Kd.N_drew)); exact Kd.N_mono HO764.out (fun _ hk => ⟨hk.1.1, ⟨hk.2, ⟨hk.1.2.1, hk.1.2.2⟩⟩⟩)), (by (with_reducible repeat (first | refine blk_drewN ?_ _ | refine blk_drew ?_ | refine blk_alloc ?_ _)); exact BK757.out), (by (with_reducible repeat (first | refine blk_drewN ?_ _ | refine blk_drew ?_ | refine blk_alloc ?_ _)); exact BK758.out), (by repeat (first | (with_reducible first | exact HB.out | apply below_alloc | apply pw_below_drewN | apply below_drew1 | refine below_set ?_ GE757.out | refine below_set ?_ GE758.out) | exact HB.out))⟩)
   rintro ⟨v760, v763⟩ w10 ⟨hS_, h0_, h1_, h2_, h3_, h4_, h5_, h6_⟩
   have n0_ : Aside0 (Kd.V k99 99 w10 w.heap.size (fun k_ => ((P0_0_ k_ ∨ P0_1_ k_) ∨ w.heap.size ≤ k_) ∧ some k_ ≠ (v760 : Value).ownBlock ∧ some k_ ≠ (v763 : Value).ownBlock ∧ k_ ≠ gb757 ∧ k_ ≠ gb758) (.slice A0_0 l0_0.length c0_0) l0_0) := ⟨h0_⟩
   have n1_ : Aside0 (Kd.V k74 74 w10 w.heap.size (fun k_ => ((P0_0_ k_ ∨ P0_1_ k_) ∨ w.heap.size ≤ k_) ∧ some k_ ≠ (v760 : Value).ownBlock ∧ some k_ ≠ (v763 : Value).ownBlock ∧ k_ ≠ gb757 ∧ k_ ≠ gb758) (.slice A0_1 l0_1.length c0_1) l0_1) := ⟨h1_⟩
   have n2_ : Aside0 (Kd.N k99 99 w10 w.heap.size (fun k_ => ((P0_0_ k_ ∨ P0_1_ k_) ∨ w.heap.size ≤ k_) ∧ some k_ ≠ (v763 : Value).ownBlock ∧ k_ ≠ gb757 ∧ k_ ≠ gb758) v760 y759) := ⟨h2_⟩
   have n3_ : Aside0 (Kd.N k99 99 w10 w.heap.size (fun k_ => ((P0_0_ k_ ∨ P0_1_ k_) ∨ w.heap.size ≤ k_) ∧ some k_ ≠ (v760 : Value).ownBlock ∧ k_ ≠ gb757 ∧ k_ ≠ gb758) v763 y762) := ⟨h3_⟩
   have n4_ : Aside0 (w10.heap[gb757]? = some (.cells #[.slice A0_0 l0_0.length c0_0, .slice A0_1 l0_1.length c0_1, .int .i64 a0_2, .int .i64 a0_3] 27 (0, 0))) := ⟨h4_⟩
   have n5_ : Aside0 (w10.heap[gb758]? = some (.cells #[.slice none 0 0, .slice none 0 0, .int .i64 0, .int .i64 0] 27 (0, 0))) := ⟨h5_⟩
   have n6_ : Aside0 (Below w.heap.size w w10) := ⟨h6_⟩
   clear HO0_0
   clear HO0_1
   clear BK757
   clear BK758
   clear HB
   clear h0_ h1_ h2_ h3_ h4_ h5_ h6_
   have HO0_0 := n0_
   have HO0_1 := n1_
   have HO761 := n2_
   have HO764 := n3_
   have BK757 := n4_
   have BK758 := n5_
   have HB := n6_
   clear n0_ n1_ n2_ n3_ n4_ n5_ n6_
   have hHeld : w10.cell? ⟨gb757, 0, none⟩ = some (.slice A0_0 l0_0.length c0_0) ∧ w10.cell? ⟨gb757, 1, none⟩ = some (.slice A0_1 l0_1.length c0_1) ∧ w10.cell? ⟨gb757, 2, none⟩ = some (.int .i64 a0_2) ∧ w10.cell? ⟨gb757, 3, none⟩ = some (.int .i64 a0_3) := hS_
   obtain ⟨Ao12, co12, eo12⟩ := Kd.N_slice HO764.out
   (first | subst eo12 | (injection eo12 with f1_ f2_ f3_; have f4_ := f1_.symm; have f5_ := f3_.symm; clear f1_ f2_ f3_; subst f4_; subst f5_))
   refine norm_ (a' := ?_) ?_ ?_
   rotate_left
   ·simp only [putAll, Act.put, z1q86_, z2q86_, z3q86_]
    rfl
   refine one_ (i:=12) (N:=some 16) mk33q86_ rfl rfl (one_of HT_.out (by kernel_rfl)) (by decide) (fun K hK => ?_)
   refine Kd.N_append_rows_step k99 (w0 := w) w.heap.size (by rfl) (.tmp 7) (.tmp 15) 24 99 (.agg #[(.int .i64 0), (.int .i64 0), (.slice none 0 0)]) 40 rfl Try.underlying24 info99 rfl (by decide) (by omega) v760 y759 y762 _ _ _ (fun k_ => ((P0_0_ k_ ∨ P0_1_ k_) ∨ w.heap.size ≤ k_) ∧ k_ ≠ gb757 ∧ k_ ≠ gb758) (fun k_ => ((fun k_ => ((P0_0_ k_ ∨ P0_1_ k_) ∨ w.heap.size ≤ k_) ∧ k_ ≠ gb757 ∧ k_ ≠ gb758)) k_ ∧ some k_ ≠ (v760 : Value).ownBlock) rfl rfl ?aO ?aR (fun _ hk => hk) ?aF ?aB ?aS ?aL ?_
   (case aR => exact (by skip; exact Kd.N_F (Kd.N_mono (ok' := (fun k_ => ((fun k_ => ((P0_0_ k_ ∨ P0_1_ k_) ∨ w.heap.size ≤ k_) ∧ k_ ≠ gb757 ∧ k_ ≠ gb758)) k_ ∧ some k_ ≠ (v760 : Value).ownBlock)) (HO764.out) (fun k_ hk => ⟨⟨hk.1, ⟨hk.2.2.1, hk.2.2.2⟩⟩, hk.2.1⟩))))
   (case aB => exact (by repeat (first | (with_reducible first | exact HB.out | apply below_alloc | apply pw_below_drewN | apply below_drew1 | refine below_set ?_ GE757.out | refine below_set ?_ GE758.out) | exact HB.out)))
   (case aF => exact (fun k_ hk => ⟨(.inr (Nat.le_trans (below_size (by repeat (first | (with_reducible first | exact HB.out | apply below_alloc | apply pw_below_drewN | apply below_drew1 | refine below_set ?_ GE757.out | refine below_set ?_ GE758.out) | exact HB.out))) hk)), Kd.freshB (g:=gb757) (o:=.cells #[.slice A0_0 l0_0.length c0_0, .slice A0_1 l0_1.length c0_1, .int .i64 a0_2, .int .i64 a0_3] 27 (0, 0)) (by (with_reducible repeat (first | refine blk_drewN ?_ _ | refine blk_drew ?_ | refine blk_alloc ?_ _)); exact BK757.out) k_ hk, Kd.freshB (g:=gb758) (o:=.cells #[.slice none 0 0, .slice none 0 0, .int .i64 0, .int .i64 0] 27 (0, 0)) (by (with_reducible repeat (first | refine blk_drewN ?_ _ | refine blk_drew ?_ | refine blk_alloc ?_ _)); exact BK758.out) k_ hk⟩))
   (case aO => exact (by (with_reducible repeat (first | apply Kd.N_alloc | apply Kd.N_drewN | apply Kd.N_drew)); exact Kd.N_mono HO761.out (fun _ hk => ⟨hk.1, ⟨hk.2.2.1, hk.2.2.2⟩⟩)))
   (case aS => exact (below_size (by repeat (first | (with_reducible first | exact HB.out | apply below_alloc | apply pw_below_drewN | apply below_drew1 | refine below_set ?_ GE757.out | refine below_set ?_ GE758.out) | exact HB.out))))
   (case aL => have := LMc3.out; omega)
   intro v766 w11 ho hb hg hat
   rw [← Ny765.out] at ho
   have n0_ := A0q86_ (Kd.V_afterv (ok := (fun k_ => ((P0_0_ k_ ∨ P0_1_ k_) ∨ w.heap.size ≤ k_) ∧ some k_ ≠ (.slice Ao12 y762.length co12 : Value).ownBlock ∧ k_ ≠ gb757 ∧ k_ ≠ gb758)) (by (with_reducible repeat (first | apply Kd.V_alloc | apply Kd.V_drewN | apply Kd.V_drew)); exact Kd.V_mono HO0_0.out (fun _ hk => ⟨⟨hk.1, ⟨hk.2.2.1, ⟨hk.2.2.2.1, hk.2.2.2.2⟩⟩⟩, hk.2.1⟩)) hg hat)
   have n1_ := A0q86_ (Kd.V_afterv (ok := (fun k_ => ((P0_0_ k_ ∨ P0_1_ k_) ∨ w.heap.size ≤ k_) ∧ some k_ ≠ (.slice Ao12 y762.length co12 : Value).ownBlock ∧ k_ ≠ gb757 ∧ k_ ≠ gb758)) (by (with_reducible repeat (first | apply Kd.V_alloc | apply Kd.V_drewN | apply Kd.V_drew)); exact Kd.V_mono HO0_1.out (fun _ hk => ⟨⟨hk.1, ⟨hk.2.2.1, ⟨hk.2.2.2.1, hk.2.2.2.2⟩⟩⟩, hk.2.1⟩)) hg hat)
   have n2_ := A0q86_ (blk_grown (g:=gb757) (o:=.cells #[.slice A0_0 l0_0.length c0_0, .slice A0_1 l0_1.length c0_1, .int .i64 a0_2, .int .i64 a0_3] 27 (0, 0)) (by (with_reducible repeat (first | refine blk_drewN ?_ _ | refine blk_drew ?_ | refine blk_alloc ?_ _)); exact BK757.out) hg (Kd.N_ne HO761.out BK757.out (by decide)))
   have n3_ := A0q86_ (blk_grown (g:=gb758) (o:=.cells #[.slice none 0 0, .slice none 0 0, .int .i64 0, .int .i64 0] 27 (0, 0)) (by (with_reducible repeat (first | refine blk_drewN ?_ _ | refine blk_drew ?_ | refine blk_alloc ?_ _)); exact BK758.out) hg (Kd.N_ne HO761.out BK758.out (by decide)))
   have n4_ := A0q86_ (Kd.N_afterv (ok := (fun k_ => ((P0_0_ k_ ∨ P0_1_ k_) ∨ w.heap.size ≤ k_) ∧ k_ ≠ gb757 ∧ k_ ≠ gb758)) (by (with_reducible repeat (first | apply Kd.N_alloc | apply Kd.N_drewN | apply Kd.N_drew)); exact Kd.N_mono HO764.out (fun _ hk => ⟨⟨hk.1, ⟨hk.2.2.1, hk.2.2.2⟩⟩, hk.2.1⟩)) hg hat)
   have n5_ := A0q86_ (hb)
   have n6_ := A0q86_ (ho)
   clear HO0_0
   clear HO0_1
   clear BK757
   clear BK758
   clear HO764
   clear HB
   clear HO761
   have HO0_0 := n0_
   have HO0_1 := n1_
   have BK757 := n2_
   have BK758 := n3_
   have HO764 := n4_
   have HB := n5_
   have HO767 := n6_
   clear n0_ n1_ n2_ n3_ n4_ n5_ n6_
   clear ho hb hg hat
   obtain ⟨Ao13, co13, eo13⟩ := Kd.N_slice HO767.out
   (first | subst eo13 | (injection eo13 with f1_ f2_ f3_; have f4_ := f1_.symm; have f5_ := f3_.symm; clear f1_ f2_ f3_; subst f4_; subst f5_))
   refine hK.out _ _ ⟨(blk_cell BK757.out 0).trans rfl, (blk_cell BK757.out 1).trans rfl, (blk_cell BK757.out 2).trans rfl, (blk_cell BK757.out 3).trans rfl⟩ (fun hHeld => ?_)
   clear hK K
   refine norm_ (a' := ?_) ?_ ?_
   rotate_left
   ·show Act.put _ (some 16) _ = _
    simp only [Act.put, z1q86_, z2q86_, z3q86_, i64_w, i32_w]
    rfl
   refine pure_ (i:=17) (N:=some 21) (v:=?_) (a':=?_) mk34q86_ rfl rfl (any_of HT_.out (by kernel_rfl)) (fun _ _ _ h => h) (Or.inl ⟨by rfl, ?_⟩) ?_ ?_
   rotate_left
   ·intro w'
    go_simp
    with_reducible rfl
   rotate_left
   ·simp only [Act.put, z1q86_, z2q86_, z3q86_, i64_w, i32_w]
    rfl
   refine one_ (i:=18) (N:=none) mk35q86_ rfl rfl (one_of HT_.out (by kernel_rfl)) (by decide) (fun K hK => ?_)
   have hs14 : w11.cell? ⟨gb758, 0, none⟩ = some (.slice none 0 0) := (blk_cell BK758.out 0).trans rfl
   have hfs14 := blk_frozen BK758.out 0
   have hns14_0 := NB757_758.out
   have hms14_0 := NB758_757.out
   have hs15 : w11.cell? ⟨gb758, 1, none⟩ = some (.slice none 0 0) := (blk_cell BK758.out 1).trans rfl
   have hfs15 := blk_frozen BK758.out 1
   have hns15_0 := NB757_758.out
   have hms15_0 := NB758_757.out
   have hs16 : w11.cell? ⟨gb758, 2, none⟩ = some (.int .i64 0) := (blk_cell BK758.out 2).trans rfl
   have hfs16 := blk_frozen BK758.out 2
   have hns16_0 := NB757_758.out
   have hms16_0 := NB758_757.out
   have hs17 : w11.cell? ⟨gb758, 3, none⟩ = some (.int .i64 0) := (blk_cell BK758.out 3).trans rfl
   have hfs17 := blk_frozen BK758.out 3
   have hns17_0 := NB757_758.out
   have hms17_0 := NB758_757.out
   refine skip_ (w1 := ?_) (by rfl) rfl ?_ ?_
   rotate_left
   ·go_simp
    rfl
   refine hK.out _ _ ⟨((cell_far (p := ⟨gb758, _, none⟩) NB757_758.out _).trans (((cell_far (p := ⟨gb758, _, none⟩) NB757_758.out _).trans (((cell_far (p := ⟨gb758, _, none⟩) NB757_758.out _).trans (((cell_far (p := ⟨gb758, _, none⟩) NB757_758.out _).trans (hHeld.1)))))))), ((cell_far (p := ⟨gb758, _, none⟩) NB757_758.out _).trans (((cell_far (p := ⟨gb758, _, none⟩) NB757_758.out _).trans (((cell_far (p := ⟨gb758, _, none⟩) NB757_758.out _).trans (((cell_far (p := ⟨gb758, _, none⟩) NB757_758.out _).trans (hHeld.2.1)))))))), ((cell_far (p := ⟨gb758, _, none⟩) NB757_758.out _).trans (((cell_far (p := ⟨gb758, _, none⟩) NB757_758.out _).trans (((cell_far (p := ⟨gb758, _, none⟩) NB757_758.out _).trans (((cell_far (p := ⟨gb758, _, none⟩) NB757_758.out _).trans (hHeld.2.2.1)))))))), ((cell_far (p := ⟨gb758, _, none⟩) NB757_758.out _).trans (((cell_far (p := ⟨gb758, _, none⟩) NB757_758.out _).trans (((cell_far (p := ⟨gb758, _, none⟩) NB757_758.out _).trans (((cell_far (p := ⟨gb758, _, none⟩) NB757_758.out _).trans (hHeld.2.2.2))))))))⟩ (fun hHeld => ?_)
   clear hK K
   refine done_ (done_of HT_.out (by kernel_rfl)) ?_
   try go_wp2
   refine bodyPost_ret (results_cell_row rfl _ _ gb758 27 #[.slice Ao13 y765.length co13, .slice none 0 0, .int .i64 a0_3, .int .i64 a0_3] (0, 0) _ rfl (by (with_reducible repeat (first | refine blk_drewN ?_ _ | refine blk_drew ?_ | refine blk_alloc ?_ _)); refine blk_put (cs := #[.slice Ao13 y765.length co13, .slice none 0 0, .int .i64 a0_3, .int .i64 0]) ?_ 3 _ rfl; (with_reducible repeat (first | refine blk_drewN ?_ _ | refine blk_drew ?_ | refine blk_alloc ?_ _)); refine blk_put (cs := #[.slice Ao13 y765.length co13, .slice none 0 0, .int .i64 0, .int .i64 0]) ?_ 2 _ rfl; (with_reducible repeat (first | refine blk_drewN ?_ _ | refine blk_drew ?_ | refine blk_alloc ?_ _)); refine blk_put (cs := #[.slice Ao13 y765.length co13, .slice none 0 0, .int .i64 0, .int .i64 0]) ?_ 1 _ rfl; (with_reducible repeat (first | refine blk_drewN ?_ _ | refine blk_drew ?_ | refine blk_alloc ?_ _)); refine blk_put (cs := #[.slice none 0 0, .slice none 0 0, .int .i64 0, .int .i64 0]) ?_ 0 _ rfl; (with_reducible repeat (first | refine blk_drewN ?_ _ | refine blk_drew ?_ | refine blk_alloc ?_ _)); exact BK758.out) Try.underlying27 rfl (by kernel_rfl)) rfl ?_
   exact ⟨_, _, by first | rfl | (simp [errW_none, errW_some] <;> rfl) | (simp [*, errW_none, errW_some] <;> rfl), by (with_reducible repeat (first | apply Kd.N_alloc | apply Kd.N_drewN | apply Kd.N_drew)); exact Kd.N_mono (Kd.N_far (p := ⟨gb758, 3, none⟩) (Kd.N_far (p := ⟨gb758, 2, none⟩) (Kd.N_far (p := ⟨gb758, 1, none⟩) (Kd.N_far (p := ⟨gb758, 0, none⟩) (Kd.N_mono HO767.out (fun k_ hk => (⟨hk, hk.2.2⟩ : _ ∧ k_ ≠ gb758))) (fun _ hk => hk.2) (.slice Ao13 y765.length co13)) (fun _ hk => hk.2) (.slice none 0 0)) (fun _ hk => hk.2) (.int .i64 a0_3)) (fun _ hk => hk.2) (.int .i64 a0_3)) (fun _ hk => ⟨hk.1.1, (by simp [Value.ownBlock])⟩), by first | exact Kd.R_nil _ _ _ _ _ | exact Kd.N_nil _ _ _ _ _ | exact Kd.V_nil _ _ _ _ _ | exact Kd.Q_nil _ _ _ _ _ | exact Kd.S_nil _ _ _ _ _, by repeat (first | (with_reducible first | exact HB.out | apply below_alloc | apply pw_below_drewN | apply below_drew1 | refine below_set ?_ GE757.out | refine below_set ?_ GE758.out) | exact HB.out)⟩
  ·rw [if_neg c3] at H
   exact absurd H (by simp)
 ·rw [if_neg c2] at H
  exact absurd H (by simp)
end Go.Proofs.Ythdhkoeaadahaaa.P
