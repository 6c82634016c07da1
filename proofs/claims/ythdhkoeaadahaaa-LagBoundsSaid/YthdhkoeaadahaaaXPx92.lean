-- PACKED by wip/kit/pack.py: what the law's proof uses of Px92 (printed words and texts of this seat)
import Derived.Test.YthdhkoeaadahaaaXPx0
import Derived.Test.YthdhkoeaadahaaaXPx4
import Derived.Test.YthdhkoeaadahaaaXPx8
import Derived.Test.YthdhkoeaadahaaaXPx82
import Derived.Test.YthdhkoeaadahaaaXPx85
import Derived.Test.YthdhkoeaadahaaaXPx9
import Derived.Test.YthdhkoeaadahaaaXEQDone
import Derived.Test.YthdhkoeaadahaaaXGood
namespace Go.Proofs.Ythdhkoeaadahaaa.P
open Go.RowKit Go.Proofs.YthdhkoeaadahaaaW.PrintWords Go.Proofs.YthdhkoeaadahaaaW.PrintLast Go.Proofs.YthdhkoeaadahaaaW.PrintMore
attribute [local go_sem] max2_int min2_int max_two min_two max_three min_three max_four min_four
set_option linter.unusedVariables false
set_option linter.unusedSimpArgs false
mutual
def counterfoillaw13_LagBounds.l0 : Nat → List (List (S74)) → List Bool → List Bool → Int → Int → Int → Bool → List (S99) → List (S74) → Int → Int → Option (Bool)
  | 0, _, _, _, _, _, _, _, _, _, _, _ => none
  | k + 1, x1, x2, x3, x11, x898000, x898001, x898002, x911000, x911001, x911002, x911003 => if x11 < (x1.length : Int) then (counterfoillaw13_LagBounds.j1 k x1 x2 x3 x11 (decide (x11 < 40)) x898000 x898001 x898002 x911000 x911001 x911002 x911003) else (counterfoillaw13_LagBounds.j1 k x1 x2 x3 x11 false x898000 x898001 x898002 x911000 x911001 x911002 x911003)
def counterfoillaw13_LagBounds.j1 : Nat → List (List (S74)) → List Bool → List Bool → Int → Bool → Int → Int → Bool → List (S99) → List (S74) → Int → Int → Option (Bool)
  | 0, _, _, _, _, _, _, _, _, _, _, _, _ => none
  | k + 1, x1, x2, x3, x11, x37, x898000, x898001, x898002, x911000, x911001, x911002, x911003 => if x37 = true then (if 0 ≤ x11 then (if x11 < (x1.length : Int) then (if ((rd_L3 x1 x11).length : Int) > 10 then (counterfoillaw13_LagBounds.l0 k x1 x2 x3 (wrap64 (x11 + 1)) x898000 x898001 x898002 x911000 x911001 x911002 x911003) else ((lag_Judge.f k x898000 x898001 x898002 x911000 x911001 x911002 x911003 (rd_L3 x1 x11)).bind fun t914 => (if t914 = 1 then ((queue_Add.f k x911000 x911001 x911002 x911003 (rd_L3 x1 x11)).bind fun bt916 => (if bt916.2.2.2.2 = 0 then (counterfoillaw13_LagBounds.j2 k x1 x2 x3 x11 x898000 x898001 x898002 bt916.1 bt916.2.1 bt916.2.2.1 bt916.2.2.2.1) else (some false))) else (if t914 = 2 then (if x898002 = true then (counterfoillaw13_LagBounds.j2 k x1 x2 x3 x11 x898000 x898001 x898002 x911000 x911001 x911002 x911003) else (some false)) else (if t914 = 3 then (if x898002 = true then (some false) else (counterfoillaw13_LagBounds.j2 k x1 x2 x3 x11 x898000 x898001 x898002 x911000 x911001 x911002 x911003)) else (some false)))))) else (none)) else (none)) else ((counterfoillaw13_awake.f k).bind fun t911 => (some t911))
def counterfoillaw13_LagBounds.j2 : Nat → List (List (S74)) → List Bool → List Bool → Int → Int → Int → Bool → List (S99) → List (S74) → Int → Int → Option (Bool)
  | 0, _, _, _, _, _, _, _, _, _, _, _ => none
  | k + 1, x1, x2, x3, x11, x898000, x898001, x898002, x911000, x911001, x911002, x911003 => if x11 < (x2.length : Int) then (if 0 ≤ x11 then (if rdOf false x2 x11 = true then (counterfoillaw13_LagBounds.j3 k x1 x2 x3 x11 (decide (x911003 > x911002)) x898000 x898001 x898002 x911000 x911001 x911002 x911003) else (counterfoillaw13_LagBounds.j3 k x1 x2 x3 x11 false x898000 x898001 x898002 x911000 x911001 x911002 x911003)) else (none)) else (counterfoillaw13_LagBounds.j3 k x1 x2 x3 x11 false x898000 x898001 x898002 x911000 x911001 x911002 x911003)
def counterfoillaw13_LagBounds.j3 : Nat → List (List (S74)) → List Bool → List Bool → Int → Bool → Int → Int → Bool → List (S99) → List (S74) → Int → Int → Option (Bool)
  | 0, _, _, _, _, _, _, _, _, _, _, _, _ => none
  | k + 1, x1, x2, x3, x11, x91, x898000, x898001, x898002, x911000, x911001, x911002, x911003 => if x91 = true then ((queue_Cut.f k x911000 x911001 x911002 x911003).bind fun bt926 => (counterfoillaw13_LagBounds.j4 k x1 x2 x3 x11 x898000 x898001 x898002 bt926.1 bt926.2.1 bt926.2.2.1 bt926.2.2.2.1)) else (counterfoillaw13_LagBounds.j4 k x1 x2 x3 x11 x898000 x898001 x898002 x911000 x911001 x911002 x911003)
def counterfoillaw13_LagBounds.j4 : Nat → List (List (S74)) → List Bool → List Bool → Int → Int → Int → Bool → List (S99) → List (S74) → Int → Int → Option (Bool)
  | 0, _, _, _, _, _, _, _, _, _, _, _ => none
  | k + 1, x1, x2, x3, x11, x898000, x898001, x898002, x911000, x911001, x911002, x911003 => if x11 < (x3.length : Int) then (if 0 ≤ x11 then (if rdOf false x3 x11 = true then (counterfoillaw13_LagBounds.j5 k x1 x2 x3 x11 (decide ((x911000.length : Int) > 0)) x898000 x898001 x898002 x911000 x911001 x911002 x911003) else (counterfoillaw13_LagBounds.j5 k x1 x2 x3 x11 false x898000 x898001 x898002 x911000 x911001 x911002 x911003)) else (none)) else (counterfoillaw13_LagBounds.j5 k x1 x2 x3 x11 false x898000 x898001 x898002 x911000 x911001 x911002 x911003)
def counterfoillaw13_LagBounds.j5 : Nat → List (List (S74)) → List Bool → List Bool → Int → Bool → Int → Int → Bool → List (S99) → List (S74) → Int → Int → Option (Bool)
  | 0, _, _, _, _, _, _, _, _, _, _, _, _ => none
  | k + 1, x1, x2, x3, x11, x112, x898000, x898001, x898002, x911000, x911001, x911002, x911003 => if x112 = true then (if 0 < (x911000.length : Int) then ((queue_Done.f k x911000 x911001 x911002 x911003 ((rd_T99 x911000 0).f1)).bind fun bt937 => (counterfoillaw13_LagBounds.j6 k x1 x2 x3 x11 x898000 x898001 x898002 bt937.1 bt937.2.1 bt937.2.2.1 bt937.2.2.2.1)) else (none)) else (counterfoillaw13_LagBounds.j6 k x1 x2 x3 x11 x898000 x898001 x898002 x911000 x911001 x911002 x911003)
def counterfoillaw13_LagBounds.j6 : Nat → List (List (S74)) → List Bool → List Bool → Int → Int → Int → Bool → List (S99) → List (S74) → Int → Int → Option (Bool)
  | 0, _, _, _, _, _, _, _, _, _, _, _ => none
  | k + 1, x1, x2, x3, x11, x898000, x898001, x898002, x911000, x911001, x911002, x911003 => (queue_Load.f k x911000 x911001 x911002 x911003).bind fun bt946 => (if bt946.1 > x898000 then (some false) else (if bt946.2 > x898001 then (some false) else ((queue_Right.f k x911000 x911001 x911002 x911003).bind fun t948 => (if t948 = true then (counterfoillaw13_LagBounds.l0 k x1 x2 x3 (wrap64 (x11 + 1)) x898000 x898001 x898002 x911000 x911001 x911002 x911003) else (some false)))))
end
def counterfoillaw13_LagBounds.f (k : Nat) (a0_0 : Int) (a0_1 : Int) (a0_2 : Bool) (l1 : List (List (S74))) (l2 : List Bool) (l3 : List Bool) : Option (Bool) := (lag_Right.f a0_0 a0_1 a0_2).bind fun t898 => (if t898 = true then ((queue_New.f 0).bind fun bt901 => (if bt901.2.2.2.2 = 0 then (counterfoillaw13_LagBounds.l0 k l1 l2 l3 0 a0_0 a0_1 a0_2 bt901.1 bt901.2.1 bt901.2.2.1 bt901.2.2.2.1) else (some false))) else ((lag_Judge.f k a0_0 a0_1 a0_2 ([] : List (S99)) ([] : List (S74)) 0 0 ([] : List (S74))).bind fun t899 => (if t899 = 0 then ((counterfoillaw13_awake.f k).bind fun t900 => (some t900)) else (some false))))
def counterfoillaw13_LagBounds.T13 : Bool × List (List Nat × List Nat) := (true, [([], []), ([], []), ([], []), ([1, 2], [1, 2]), ([3], [3]), ([0, 4], [0, 4]), ([5], [5]), ([6], [6]), ([6], [6]), ([7, 5, 0, 1, 2, 3, 4, 5, 6, 7], [7]), ([8, 9, 0, 1, 2, 3, 4, 5, 6, 7, 8, 9], [8])])
def counterfoillaw13_LagBounds.B13 : List Nat := [0, 0, 0, 6, 14, 31, 63, 127, 127, 255, 1023]
theorem counterfoillaw13_LagBounds.tab13 : rtab .any (opsOf Try.f23 13) = counterfoillaw13_LagBounds.T13 := by kernel_rfl
theorem counterfoillaw13_LagBounds.bits13 : waitsOk counterfoillaw13_LagBounds.T13.2 counterfoillaw13_LagBounds.B13 = true := by kernel_rfl
def counterfoillaw13_LagBounds.T25 : Bool × List (List Nat × List Nat) := (true, [([], []), ([], []), ([1], [1]), ([2], [2]), ([3], [3]), ([4], [4]), ([0, 5], [0, 5]), ([6], [6]), ([7], [7]), ([7], [7]), ([8, 6, 0, 1, 2, 3, 4, 5, 6, 7, 8], [8])])
def counterfoillaw13_LagBounds.B25 : List Nat := [0, 0, 2, 6, 14, 30, 63, 127, 255, 255, 511]
theorem counterfoillaw13_LagBounds.tab25 : rtab .any (opsOf Try.f23 25) = counterfoillaw13_LagBounds.T25 := by kernel_rfl
theorem counterfoillaw13_LagBounds.bits25 : waitsOk counterfoillaw13_LagBounds.T25.2 counterfoillaw13_LagBounds.B25 = true := by kernel_rfl
set_option maxHeartbeats 8000000 in
set_option maxRecDepth 100000 in
theorem counterfoillaw13_LagBounds.calls (k : Nat) (a0_0 : Int) (a0_1 : Int) (a0_2 : Bool) (A1 : Option Addr) (c1 : Nat) (l1 : List (List (S74))) (A2 : Option Addr) (c2 : Nat) (l2 : List Bool) (A3 : Option Addr) (c3 : Nat) (l3 : List Bool) (r : Bool) (w : World) (hr1 : Kd.C (Kd.slice 74 k74) w A1 l1.length l1) (hc1 : l1.length ≤ c1) (hr2 : Kd.C Kd.bool w A2 l2.length l2) (hc2 : l2.length ≤ c2) (hr3 : Kd.C Kd.bool w A3 l3.length l3) (hc3 : l3.length ≤ c3) (h : counterfoillaw13_LagBounds.f k a0_0 a0_1 a0_2 l1 l2 l3 = some r) :
    Calls Try.prog 23 #[.agg #[.int .i64 a0_0, .int .i64 a0_1, .bool a0_2], .slice A1 l1.length c1, .slice A2 l2.length c2, .slice A3 l3.length c3] w fun e w' => e = .returned (.bool r) ∧ Below w.heap.size w w' := by
  have hu23 := Try.underlying23
  have hu27 := Try.underlying27
  have HR1 := Aside0.mk hr1
  have HC1 := Aside0.mk hc1
  clear hr1 hc1
  have HR2 := Aside0.mk hr2
  have HC2 := Aside0.mk hc2
  clear hr2 hc2
  have HR3 := Aside0.mk hr3
  have HC3 := Aside0.mk hc3
  clear hr3 hc3
  have HB := Aside0.mk (Below.refl w.heap.size w)
  have H : ((lag_Right.f a0_0 a0_1 a0_2).bind fun t898 => (if t898 = true then ((queue_New.f 0).bind fun bt901 => (if bt901.2.2.2.2 = 0 then (counterfoillaw13_LagBounds.l0 k l1 l2 l3 0 a0_0 a0_1 a0_2 bt901.1 bt901.2.1 bt901.2.2.1 bt901.2.2.2.1) else (some false))) else ((lag_Judge.f k a0_0 a0_1 a0_2 ([] : List (S99)) ([] : List (S74)) 0 0 ([] : List (S74))).bind fun t899 => (if t899 = 0 then ((counterfoillaw13_awake.f k).bind fun t900 => (some t900)) else (some false))))) = some r := h
  clear h
  replace H := Option.bind_eq_some_iff.mp H
  obtain ⟨t898, A50, H⟩ := H
  replace H : (if t898 = true then ((queue_New.f 0).bind fun bt901 => (if bt901.2.2.2.2 = 0 then (counterfoillaw13_LagBounds.l0 k l1 l2 l3 0 a0_0 a0_1 a0_2 bt901.1 bt901.2.1 bt901.2.2.1 bt901.2.2.2.1) else (some false))) else ((lag_Judge.f k a0_0 a0_1 a0_2 ([] : List (S99)) ([] : List (S74)) 0 0 ([] : List (S74))).bind fun t899 => (if t899 = 0 then ((counterfoillaw13_awake.f k).bind fun t900 => (some t900)) else (some false)))) = some r := H
  have A5 := Aside0.mk A50
  clear A50
  by_cases c6 : t898 = true
  · subst c6
    have H1 : ((queue_New.f 0).bind fun bt901 => (if bt901.2.2.2.2 = 0 then (counterfoillaw13_LagBounds.l0 k l1 l2 l3 0 a0_0 a0_1 a0_2 bt901.1 bt901.2.1 bt901.2.2.1 bt901.2.2.2.1) else (some false))) = some r := by rw [if_pos rfl] at H; exact H
    clear H
    have H := H1
    clear H1
    replace H := Option.bind_eq_some_iff.mp H
    obtain ⟨⟨t901, t904, t907, t908, t909⟩, A70, H⟩ := H
    replace H : (if t909 = 0 then (counterfoillaw13_LagBounds.l0 k l1 l2 l3 0 a0_0 a0_1 a0_2 t901 t904 t907 t908) else (some false)) = some r := H
    have A7 := Aside0.mk A70
    clear A70
    by_cases c8 : t909 = 0
    · rw [if_pos c8] at H
      have c8b0 : (t909 == 0) = true := beq_iff_eq.mpr c8
      have c8b1 : (t909 != 0) = false := bne_eq_false_iff_eq.mpr c8
      clear c8
      have H' := Aside0.mk H
      clear H
      go_enter Try.func23, Try.ntmps23
      go_wp2_with (first | ((with_reducible refine gate_dst (N := 4) rfl ?_); (try (refine gate_guard (by rfl) ?_; dsimp only)); refine box_event ?hg (N := 4) ?hd (cs := #[.int .i64 a0_0, .int .i64 a0_1, .bool a0_2]) (t := 23) ?hr ?_; (case hd => rfl); (case hg => rfl); (case hr => first | (go_simp; done) | (go_simp; rfl)); intro gb897 hg w9 hbox hb; have n0_ := Aside0.mk (below_step (by repeat (first | (with_reducible first | exact HB.out | apply below_alloc | apply pw_below_drewN | apply below_drew1) | exact HB.out)) hb); have n1_ := Aside0.mk (hbox); have n2_ := Aside0.mk ((by rw [hg]; exact (below_size (by repeat (first | (with_reducible first | exact HB.out | apply below_alloc | apply pw_below_drewN | apply below_drew1) | exact HB.out))) : w.heap.size ≤ gb897)); have n3_ := Aside0.mk ((by rw [hg]; exact (below_size (by repeat (first | (with_reducible first | exact HB.out | apply below_alloc | apply pw_below_drewN | apply below_drew1) | exact HB.out))) : w.heap.size ≤ gb897)); clear HB; have HB := n0_; have BK897 := n1_; have GW897 := n2_; have GE897 := n3_; clear n0_ n1_ n2_ n3_; clear hb hbox hg; have hcz10_0 : w9.cell? ⟨gb897, 0, none⟩ = some (.int .i64 a0_0) := (blk_cell BK897.out 0).trans rfl; have hcz10_1 : w9.cell? ⟨gb897, 1, none⟩ = some (.int .i64 a0_1) := (blk_cell BK897.out 1).trans rfl; have hcz10_2 : w9.cell? ⟨gb897, 2, none⟩ = some (.bool a0_2) := (blk_cell BK897.out 2).trans rfl; have hfz10_0 := blk_frozen BK897.out 0; have hfz10_1 := blk_frozen BK897.out 1; have hfz10_2 := blk_frozen BK897.out 2) | ((with_reducible refine gate_callee (f := 34) rfl ?_); refine goesL_ (some 15) rfl rfl Try.func34 (by kernel_rfl) rfl #[.agg #[.int .i64 a0_0, .int .i64 a0_1, .bool a0_2]] rfl (by (try simp only [List.map_toArray, List.map_cons, List.map_nil]); first | done | rfl | (simp only [List.length_drop, List.length_take]; rfl)) ?_; (with_reducible refine (lag_Right.calls a0_0 a0_1 a0_2 true _ A5.out).mono ?_); rintro e w11 ⟨rfl, hb⟩; refine ⟨_, rfl, ?_⟩; have n0_ := Aside0.mk (blk_below (g := gb897) (o := .cells #[.int .i64 a0_0, .int .i64 a0_1, .bool a0_2] 23 (0, 0)) (by (with_reducible repeat (first | refine blk_drewN ?_ _ | refine blk_drew ?_ | refine blk_alloc ?_ _)); exact BK897.out) hb); have n1_ := Aside0.mk (below_step (by repeat (first | (with_reducible first | exact HB.out | apply below_alloc | apply pw_below_drewN | apply below_drew1 | refine below_set ?_ GE897.out) | exact HB.out)) hb); clear BK897; clear HB; have BK897 := n0_; have HB := n1_; clear n0_ n1_; (try clear hb); (try clear hb2); (try clear hk); (try clear hi)) | ((with_reducible refine gate_callee (f := 71) rfl ?_); refine goesL_ (some 25) rfl rfl Try.func71 (by kernel_rfl) rfl #[.int .i64 0] rfl (by (try simp only [List.map_toArray, List.map_cons, List.map_nil]); first | done | rfl | (simp only [List.length_drop, List.length_take]; rfl)) ?_; (with_reducible refine (queue_New.calls 0 t901 t904 t907 t908 t909 _ A7.out).mono ?_); rintro e w12 ⟨v902, v905, rfl, ho0, ho1, hb⟩; refine ⟨_, rfl, ?_⟩; have n0_ := Aside0.mk (Kd.S_lower ho0 (below_size (by repeat (first | (with_reducible first | exact HB.out | apply below_alloc | apply pw_below_drewN | apply below_drew1 | refine below_set ?_ GE897.out) | exact HB.out)))); have n1_ := Aside0.mk (Kd.R_lower ho1 (below_size (by repeat (first | (with_reducible first | exact HB.out | apply below_alloc | apply pw_below_drewN | apply below_drew1 | refine below_set ?_ GE897.out) | exact HB.out)))); have n2_ := Aside0.mk (blk_below (g := gb897) (o := .cells #[.int .i64 a0_0, .int .i64 a0_1, .bool a0_2] 23 (0, 0)) (by (with_reducible repeat (first | refine blk_drewN ?_ _ | refine blk_drew ?_ | refine blk_alloc ?_ _)); exact BK897.out) hb); have n3_ := Aside0.mk (below_step (by repeat (first | (with_reducible first | exact HB.out | apply below_alloc | apply pw_below_drewN | apply below_drew1 | refine below_set ?_ GE897.out) | exact HB.out)) hb); clear BK897; clear HB; have HO903 := n0_; have HO906 := n1_; have BK897 := n2_; have HB := n3_; clear n0_ n1_ n2_ n3_; (try clear hb); (try clear hb2); (try clear hk); (try clear hi); (try clear ho0); (try clear ho1)) | ((with_reducible refine gate_dst (N := 9) rfl ?_); (try (refine gate_guard (by rfl) ?_; dsimp only)); refine box_event ?hg (N := 9) ?hd (cs := #[.slice none 0 0, .slice none 0 0, .int .i64 0, .int .i64 0]) (t := 27) ?hr ?_; (case hd => rfl); (case hg => rfl); (case hr => first | (go_simp; done) | (go_simp; rfl)); intro gb910 hg w13 hbox hb; have n0_ := Aside0.mk (Kd.S_below (by (with_reducible repeat (first | apply Kd.S_alloc | apply Kd.S_drewN | apply Kd.S_drew)); exact HO903.out) hb); have n1_ := Aside0.mk (Kd.R_below (by (with_reducible repeat (first | apply Kd.R_alloc | apply Kd.R_drewN | apply Kd.R_drew)); exact HO906.out) hb); have n2_ := Aside0.mk (blk_below (g := gb897) (o := .cells #[.int .i64 a0_0, .int .i64 a0_1, .bool a0_2] 23 (0, 0)) (by (with_reducible repeat (first | refine blk_drewN ?_ _ | refine blk_drew ?_ | refine blk_alloc ?_ _)); exact BK897.out) hb); have n3_ := Aside0.mk (below_step (by repeat (first | (with_reducible first | exact HB.out | apply below_alloc | apply pw_below_drewN | apply below_drew1 | refine below_set ?_ GE897.out) | exact HB.out)) hb); have n4_ := Aside0.mk (hbox); have n5_ := Aside0.mk ((by rw [hg]; exact (below_size (by repeat (first | (with_reducible first | exact HB.out | apply below_alloc | apply pw_below_drewN | apply below_drew1 | refine below_set ?_ GE897.out) | exact HB.out))) : w.heap.size ≤ gb910)); have n6_ := Aside0.mk ((by rw [hg]; exact (below_size (by repeat (first | (with_reducible first | exact HB.out | apply below_alloc | apply pw_below_drewN | apply below_drew1 | refine below_set ?_ GE897.out) | exact HB.out))) : w.heap.size ≤ gb910)); have n7_ := Aside0.mk ((by rw [hg]; exact Nat.ne_of_lt (blk_lt (g := gb897) (o := .cells #[.int .i64 a0_0, .int .i64 a0_1, .bool a0_2] 23 (0, 0)) (by (with_reducible repeat (first | refine blk_drewN ?_ _ | refine blk_drew ?_ | refine blk_alloc ?_ _)); exact BK897.out)) : gb897 ≠ gb910)); have n8_ := Aside0.mk ((by rw [hg]; exact Nat.ne_of_gt (blk_lt (g := gb897) (o := .cells #[.int .i64 a0_0, .int .i64 a0_1, .bool a0_2] 23 (0, 0)) (by (with_reducible repeat (first | refine blk_drewN ?_ _ | refine blk_drew ?_ | refine blk_alloc ?_ _)); exact BK897.out)) : gb910 ≠ gb897)); clear HO903; clear HO906; clear BK897; clear HB; have HO903 := n0_; have HO906 := n1_; have BK897 := n2_; have HB := n3_; have BK910 := n4_; have GW910 := n5_; have GE910 := n6_; have NB897_910 := n7_; have NB910_897 := n8_; clear n0_ n1_ n2_ n3_ n4_ n5_ n6_ n7_ n8_; clear hb hbox hg; obtain ⟨Ao14, co14, eo14⟩ := Kd.S_slice HO903.out; subst eo14; have hnb15 := NB910_897.out; have hnc15 := NB897_910.out; have hcz16_0 : w13.cell? ⟨gb910, 0, none⟩ = some (.slice none 0 0) := (blk_cell BK910.out 0).trans rfl; have hcz16_1 : w13.cell? ⟨gb910, 1, none⟩ = some (.slice none 0 0) := (blk_cell BK910.out 1).trans rfl; have hcz16_2 : w13.cell? ⟨gb910, 2, none⟩ = some (.int .i64 0) := (blk_cell BK910.out 2).trans rfl; have hcz16_3 : w13.cell? ⟨gb910, 3, none⟩ = some (.int .i64 0) := (blk_cell BK910.out 3).trans rfl; have hfz16_0 := blk_frozen BK910.out 0; have hfz16_1 := blk_frozen BK910.out 1; have hfz16_2 := blk_frozen BK910.out 2; have hfz16_3 := blk_frozen BK910.out 3; obtain ⟨Ao17, co17, eo17⟩ := Kd.R_slice HO906.out; subst eo17))
      go_loopg [11] k (fun kq v11 w' => ∃ (x11_1 : Int) (x911000_1 : List (S99)) (x911001_1 : List (S74)) (x911002_1 : Int) (x911003_1 : Int) (u911000 : Value) (u911001 : Value), v11 = .int .i64 x11_1 ∧ Aside0 (counterfoillaw13_LagBounds.l0 kq l1 l2 l3 x11_1 a0_0 a0_1 a0_2 x911000_1 x911001_1 x911002_1 x911003_1 = some r) ∧ Aside0 (kq ≤ k) ∧ Aside0 (Kd.S k99 99 w' w.heap.size (fun k_ => some k_ ≠ (u911001 : Value).ownBlock) u911000 x911000_1) ∧ Aside0 (Kd.R k74 74 w' w.heap.size (fun _ => True) u911001 x911001_1) ∧ Aside0 (w'.heap[gb897]? = some (.cells #[.int .i64 a0_0, .int .i64 a0_1, .bool a0_2] 23 (0, 0))) ∧ Aside0 (w'.heap[gb910]? = some (.cells #[u911000, u911001, .int .i64 x911002_1, .int .i64 x911003_1] 27 (0, 0))) ∧ Aside0 (Below w.heap.size w w'))
      case atStart => exact ⟨(0), (t901), (t904), (t907), (t908), (.slice Ao14 t901.length co14), (.slice Ao17 t904.length co17), (by first | rfl | (simp; done) | (simp [*]; done)), H', ⟨Nat.le_refl _⟩, ⟨by (with_reducible repeat (first | apply Kd.S_alloc | apply Kd.S_drewN | apply Kd.S_drew)); exact Kd.S_mono (Kd.S_far (p := ⟨gb910, 3, none⟩) (Kd.S_far (p := ⟨gb910, 2, none⟩) (Kd.S_far (p := ⟨gb910, 1, none⟩) (Kd.S_far (p := ⟨gb910, 0, none⟩) (Kd.S_types HO903.out BK910.out (by decide)) (fun _ hk => hk.2) (.slice Ao14 t901.length co14)) (fun _ hk => hk.2) (.slice Ao17 t904.length co17)) (fun _ hk => hk.2) (.int .i64 t907)) (fun _ hk => hk.2) (.int .i64 t908)) (fun _ hk => hk.1)⟩, ⟨by (with_reducible repeat (first | apply Kd.R_alloc | apply Kd.R_drewN | apply Kd.R_drew)); exact Kd.R_mono (Kd.R_far (p := ⟨gb910, 3, none⟩) (Kd.R_far (p := ⟨gb910, 2, none⟩) (Kd.R_far (p := ⟨gb910, 1, none⟩) (Kd.R_far (p := ⟨gb910, 0, none⟩) (Kd.R_types HO906.out BK910.out (by decide)) (fun _ hk => hk.2) (.slice Ao14 t901.length co14)) (fun _ hk => hk.2) (.slice Ao17 t904.length co17)) (fun _ hk => hk.2) (.int .i64 t907)) (fun _ hk => hk.2) (.int .i64 t908)) (fun _ hk => trivial)⟩, ⟨by (with_reducible repeat (first | refine blk_drewN ?_ _ | refine blk_drew ?_ | refine blk_alloc ?_ _)); refine blk_far ?_ NB897_910.out _; (with_reducible repeat (first | refine blk_drewN ?_ _ | refine blk_drew ?_ | refine blk_alloc ?_ _)); refine blk_far ?_ NB897_910.out _; (with_reducible repeat (first | refine blk_drewN ?_ _ | refine blk_drew ?_ | refine blk_alloc ?_ _)); refine blk_far ?_ NB897_910.out _; (with_reducible repeat (first | refine blk_drewN ?_ _ | refine blk_drew ?_ | refine blk_alloc ?_ _)); refine blk_far ?_ NB897_910.out _; (with_reducible repeat (first | refine blk_drewN ?_ _ | refine blk_drew ?_ | refine blk_alloc ?_ _)); exact BK897.out⟩, ⟨by (with_reducible repeat (first | refine blk_drewN ?_ _ | refine blk_drew ?_ | refine blk_alloc ?_ _)); refine blk_put (cs := #[.slice Ao14 t901.length co14, .slice Ao17 t904.length co17, .int .i64 t907, .int .i64 0]) ?_ 3 _ rfl; (with_reducible repeat (first | refine blk_drewN ?_ _ | refine blk_drew ?_ | refine blk_alloc ?_ _)); refine blk_put (cs := #[.slice Ao14 t901.length co14, .slice Ao17 t904.length co17, .int .i64 0, .int .i64 0]) ?_ 2 _ rfl; (with_reducible repeat (first | refine blk_drewN ?_ _ | refine blk_drew ?_ | refine blk_alloc ?_ _)); refine blk_put (cs := #[.slice Ao14 t901.length co14, .slice none 0 0, .int .i64 0, .int .i64 0]) ?_ 1 _ rfl; (with_reducible repeat (first | refine blk_drewN ?_ _ | refine blk_drew ?_ | refine blk_alloc ?_ _)); refine blk_put (cs := #[.slice none 0 0, .slice none 0 0, .int .i64 0, .int .i64 0]) ?_ 0 _ rfl; (with_reducible repeat (first | refine blk_drewN ?_ _ | refine blk_drew ?_ | refine blk_alloc ?_ _)); exact BK910.out⟩, ⟨by repeat (first | (with_reducible first | exact HB.out | apply below_alloc | apply pw_below_drewN | apply below_drew1 | refine below_set ?_ GE897.out | refine below_set ?_ GE910.out) | exact HB.out)⟩⟩
      case round =>
        clear H'
        try clear c1
        try clear c2
        try clear p2
        try clear c3
        try clear c6
        try clear c7
        try clear c8
        try clear c8b0
        try clear c8b1
        try clear c15
        try clear hcz10_0
        try clear hcz10_1
        try clear hcz10_2
        try clear hcz16_0
        try clear hcz16_1
        try clear hcz16_2
        try clear hcz16_3
        try clear hfz10_0
        try clear hfz10_1
        try clear hfz10_2
        try clear hfz16_0
        try clear hfz16_1
        try clear hfz16_2
        try clear hfz16_3
        obtain ⟨x11_1, x911000_1, x911001_1, x911002_1, x911003_1, u911000, u911001, rfl, HA, HK1, HO_911000, HO_911001, BK897, BK910, HB⟩ := hrel
        cases gk with
        | zero => exact absurd HA.out (by simp [counterfoillaw13_LagBounds.l0])
        | succ k1 =>
          have H := HA.out
          clear HA
          simp only [counterfoillaw13_LagBounds.l0] at H
          have HC18 := Aside0.mk H
          clear H
          go_upto_region 7 with (fail)
          go_cut [37] (fun v37 wc => ∃ (kq : Nat) (x37_17 : Bool), v37 = .bool x37_17 ∧ Aside0 (counterfoillaw13_LagBounds.j1 kq l1 l2 l3 x11_1 x37_17 a0_0 a0_1 a0_2 x911000_1 x911001_1 x911002_1 x911003_1 = some r) ∧ Aside0 (kq ≤ k1) ∧ Aside0 (Kd.S k99 99 wc w.heap.size (fun k_ => some k_ ≠ (u911001 : Value).ownBlock) u911000 x911000_1) ∧ Aside0 (Kd.R k74 74 wc w.heap.size (fun _ => True) u911001 x911001_1) ∧ Aside0 (wc.heap[gb897]? = some (.cells #[.int .i64 a0_0, .int .i64 a0_1, .bool a0_2] 23 (0, 0))) ∧ Aside0 (wc.heap[gb910]? = some (.cells #[u911000, u911001, .int .i64 x911002_1, .int .i64 x911003_1] 27 (0, 0))) ∧ Aside0 (Below w.heap.size w wc))
          case first =>
            have H := HC18.out
            clear HC18
            by_cases c19 : x11_1 < (l1.length : Int)
            · rw [if_pos c19] at H
              have c19b0 : decide (x11_1 < (l1.length : Int)) = true := decide_eq_true c19
              clear c19
              (first | rw [c19b0] | (simp only [i64_w, i32_w]; rw [c19b0]) | skip)
              have H' := Aside0.mk H
              clear H
              go_wp2
              go_meet
              case rel => exact ⟨_, (decide (x11_1 < 40)), (by first | rfl | (simp; done) | (simp [*]; done)), H', ⟨by have := HK1.out; first | omega | exact Nat.le_refl _⟩, ⟨by (with_reducible repeat (first | apply Kd.S_alloc | apply Kd.S_drewN | apply Kd.S_drew)); exact HO_911000.out⟩, ⟨by (with_reducible repeat (first | apply Kd.R_alloc | apply Kd.R_drewN | apply Kd.R_drew)); exact HO_911001.out⟩, ⟨by (with_reducible repeat (first | refine blk_drewN ?_ _ | refine blk_drew ?_ | refine blk_alloc ?_ _)); exact BK897.out⟩, ⟨by (with_reducible repeat (first | refine blk_drewN ?_ _ | refine blk_drew ?_ | refine blk_alloc ?_ _)); exact BK910.out⟩, ⟨by repeat (first | (with_reducible first | exact HB.out | apply below_alloc | apply pw_below_drewN | apply below_drew1 | refine below_set ?_ GE897.out | refine below_set ?_ GE910.out) | exact HB.out)⟩⟩
            · rw [if_neg c19] at H
              have c19b0 : decide (x11_1 < (l1.length : Int)) = false := decide_eq_false c19
              clear c19
              (first | rw [c19b0] | (simp only [i64_w, i32_w]; rw [c19b0]) | skip)
              have H' := Aside0.mk H
              clear H
              go_wp2
              go_meet
              case rel => exact ⟨_, (false), (by first | rfl | (simp; done) | (simp [*]; done)), H', ⟨by have := HK1.out; first | omega | exact Nat.le_refl _⟩, ⟨by (with_reducible repeat (first | apply Kd.S_alloc | apply Kd.S_drewN | apply Kd.S_drew)); exact HO_911000.out⟩, ⟨by (with_reducible repeat (first | apply Kd.R_alloc | apply Kd.R_drewN | apply Kd.R_drew)); exact HO_911001.out⟩, ⟨by (with_reducible repeat (first | refine blk_drewN ?_ _ | refine blk_drew ?_ | refine blk_alloc ?_ _)); exact BK897.out⟩, ⟨by (with_reducible repeat (first | refine blk_drewN ?_ _ | refine blk_drew ?_ | refine blk_alloc ?_ _)); exact BK910.out⟩, ⟨by repeat (first | (with_reducible first | exact HB.out | apply below_alloc | apply pw_below_drewN | apply below_drew1 | refine below_set ?_ GE897.out | refine below_set ?_ GE910.out) | exact HB.out)⟩⟩
          case rest =>
            clear HC18
            try clear c1
            try clear c2
            try clear p2
            try clear c3
            try clear c6
            try clear c7
            try clear c8
            try clear c8b0
            try clear c8b1
            try clear c15
            try clear c19
            try clear c19b0
            try clear hcz10_0
            try clear hcz10_1
            try clear hcz10_2
            try clear hcz16_0
            try clear hcz16_1
            try clear hcz16_2
            try clear hcz16_3
            try clear hfz10_0
            try clear hfz10_1
            try clear hfz10_2
            try clear hfz16_0
            try clear hfz16_1
            try clear hfz16_2
            try clear hfz16_3
            try clear p2
            obtain ⟨kq, x37_17, rfl, HA, HJ17, HO_911000, HO_911001, BK897, BK910, HB⟩ := hcut
            cases kq with
            | zero => exact absurd HA.out (by simp [counterfoillaw13_LagBounds.j1])
            | succ kj17 =>
              have H := HA.out
              clear HA
              simp only [counterfoillaw13_LagBounds.j1] at H
              by_cases c20 : x37_17 = true
              · subst c20
                have H1 : (if 0 ≤ x11_1 then (if x11_1 < (l1.length : Int) then (if ((rd_L3 l1 x11_1).length : Int) > 10 then (counterfoillaw13_LagBounds.l0 kj17 l1 l2 l3 (wrap64 (x11_1 + 1)) a0_0 a0_1 a0_2 x911000_1 x911001_1 x911002_1 x911003_1) else ((lag_Judge.f kj17 a0_0 a0_1 a0_2 x911000_1 x911001_1 x911002_1 x911003_1 (rd_L3 l1 x11_1)).bind fun t914 => (if t914 = 1 then ((queue_Add.f kj17 x911000_1 x911001_1 x911002_1 x911003_1 (rd_L3 l1 x11_1)).bind fun bt916 => (if bt916.2.2.2.2 = 0 then (counterfoillaw13_LagBounds.j2 kj17 l1 l2 l3 x11_1 a0_0 a0_1 a0_2 bt916.1 bt916.2.1 bt916.2.2.1 bt916.2.2.2.1) else (some false))) else (if t914 = 2 then (if a0_2 = true then (counterfoillaw13_LagBounds.j2 kj17 l1 l2 l3 x11_1 a0_0 a0_1 a0_2 x911000_1 x911001_1 x911002_1 x911003_1) else (some false)) else (if t914 = 3 then (if a0_2 = true then (some false) else (counterfoillaw13_LagBounds.j2 kj17 l1 l2 l3 x11_1 a0_0 a0_1 a0_2 x911000_1 x911001_1 x911002_1 x911003_1)) else (some false)))))) else (none)) else (none)) = some r := by rw [if_pos rfl] at H; exact H
                clear H
                have H := H1
                clear H1
                by_cases c21 : 0 ≤ x11_1
                · rw [if_pos c21] at H
                  have c21b0 : decide (0 ≤ x11_1) = true := decide_eq_true c21
                  clear c21
                  by_cases c22 : x11_1 < (l1.length : Int)
                  · rw [if_pos c22] at H
                    have c22b0 : decide (x11_1 < (l1.length : Int)) = true := decide_eq_true c22
                    clear c22
                    by_cases c23 : ((rd_L3 l1 x11_1).length : Int) > 10
                    · rw [if_pos c23] at H
                      have c23b0 : decide (10 < ((rd_L3 l1 x11_1).length : Int)) = true := decide_eq_true c23
                      have c23b1 : decide (10 < (rd_L3 l1 x11_1).length) = true := decide_eq_true (by omega)
                      clear c23
                      have H' := Aside0.mk H
                      clear H
                      have p912 : 0 ≤ (x11_1 : Int) := of_decide_eq_true (by first | (with_reducible assumption) | assumption)
                      have q912 : x11_1 < (l1.length : Int) := of_decide_eq_true (by first | (with_reducible assumption) | assumption)
                      obtain ⟨ad912, A912_0, c912_0, e912, hx912_0, hl912_0, hi912_0⟩ := at_L3 HR1.out x11_1 p912 q912
                      cases e912
                      replace hx912_0 := (HB.out.cell (World.block_lt_of_cell? w _ hx912_0)).trans hx912_0
                      have HR912_0 := Aside0.mk hi912_0
                      have HC912_0 := Aside0.mk hl912_0
                      clear hi912_0 hl912_0
                      replace p912 := eq_true p912
                      replace q912 := eq_true q912
                      go_wp2
                      go_roundg kj17
                      case measure => have := HK1.out; have := HJ17.out; omega
                      case rel => exact ⟨(wrap64 (x11_1 + 1)), (x911000_1), (x911001_1), (x911002_1), (x911003_1), (u911000), (u911001), (by first | rfl | (simp; done) | (simp [*]; done)), H', ⟨by have := HK1.out; have := HJ17.out; omega⟩, ⟨by (with_reducible repeat (first | apply Kd.S_alloc | apply Kd.S_drewN | apply Kd.S_drew)); exact HO_911000.out⟩, ⟨by (with_reducible repeat (first | apply Kd.R_alloc | apply Kd.R_drewN | apply Kd.R_drew)); exact HO_911001.out⟩, ⟨by (with_reducible repeat (first | refine blk_drewN ?_ _ | refine blk_drew ?_ | refine blk_alloc ?_ _)); exact BK897.out⟩, ⟨by (with_reducible repeat (first | refine blk_drewN ?_ _ | refine blk_drew ?_ | refine blk_alloc ?_ _)); exact BK910.out⟩, ⟨by repeat (first | (with_reducible first | exact HB.out | apply below_alloc | apply pw_below_drewN | apply below_drew1 | refine below_set ?_ GE897.out | refine below_set ?_ GE910.out) | exact HB.out)⟩⟩
                    · rw [if_neg c23] at H
                      have c23b0 : decide (10 < ((rd_L3 l1 x11_1).length : Int)) = false := decide_eq_false c23
                      have c23b1 : decide (10 < (rd_L3 l1 x11_1).length) = false := decide_eq_false (by omega)
                      clear c23
                      replace H := Option.bind_eq_some_iff.mp H
                      obtain ⟨t914, A240, H⟩ := H
                      replace H : (if t914 = 1 then ((queue_Add.f kj17 x911000_1 x911001_1 x911002_1 x911003_1 (rd_L3 l1 x11_1)).bind fun bt916 => (if bt916.2.2.2.2 = 0 then (counterfoillaw13_LagBounds.j2 kj17 l1 l2 l3 x11_1 a0_0 a0_1 a0_2 bt916.1 bt916.2.1 bt916.2.2.1 bt916.2.2.2.1) else (some false))) else (if t914 = 2 then (if a0_2 = true then (counterfoillaw13_LagBounds.j2 kj17 l1 l2 l3 x11_1 a0_0 a0_1 a0_2 x911000_1 x911001_1 x911002_1 x911003_1) else (some false)) else (if t914 = 3 then (if a0_2 = true then (some false) else (counterfoillaw13_LagBounds.j2 kj17 l1 l2 l3 x11_1 a0_0 a0_1 a0_2 x911000_1 x911001_1 x911002_1 x911003_1)) else (some false)))) = some r := H
                      have A24 := Aside0.mk A240
                      clear A240
                      have HC25 := Aside0.mk H
                      clear H
                      have p912 : 0 ≤ (x11_1 : Int) := of_decide_eq_true (by first | (with_reducible assumption) | assumption)
                      have q912 : x11_1 < (l1.length : Int) := of_decide_eq_true (by first | (with_reducible assumption) | assumption)
                      obtain ⟨ad912, A912_0, c912_0, e912, hx912_0, hl912_0, hi912_0⟩ := at_L3 HR1.out x11_1 p912 q912
                      cases e912
                      replace hx912_0 := (HB.out.cell (World.block_lt_of_cell? w _ hx912_0)).trans hx912_0
                      have HR912_0 := Aside0.mk hi912_0
                      have HC912_0 := Aside0.mk hl912_0
                      clear hi912_0 hl912_0
                      replace p912 := eq_true p912
                      replace q912 := eq_true q912
                      try go_wp2
                      have n0_ := Aside0.mk (Kd.S_drew HO_911000.out)
                      have n1_ := Aside0.mk (Kd.R_drew HO_911001.out)
                      have n2_ := Aside0.mk (blk_drew BK897.out)
                      have n3_ := Aside0.mk (blk_drew BK910.out)
                      have n4_ := Aside0.mk (below_drew1 HB.out)
                      clear HO_911000
                      clear HO_911001
                      clear BK897
                      clear BK910
                      clear HB
                      have HO_911000 := n0_
                      have HO_911001 := n1_
                      have BK897 := n2_
                      have BK910 := n3_
                      have HB := n4_
                      clear n0_ n1_ n2_ n3_ n4_
                      have p913 : 0 ≤ (x11_1 : Int) := of_decide_eq_true (by first | (with_reducible assumption) | assumption)
                      have q913 : x11_1 < (l1.length : Int) := of_decide_eq_true (by first | (with_reducible assumption) | assumption)
                      obtain ⟨ad913, A913_0, c913_0, e913, hx913_0, hl913_0, hi913_0⟩ := at_L3 HR1.out x11_1 p913 q913
                      have hw913_0 := hx913_0
                      obtain rfl : ad912 = ad913 := (by injection e913)
                      replace hx913_0 := (HB.out.cell (World.block_lt_of_cell? w _ hx913_0)).trans hx913_0
                      have HR913_0 := Aside0.mk hi913_0
                      have HC913_0 := Aside0.mk hl913_0
                      clear hi913_0 hl913_0
                      replace p913 := eq_true p913
                      replace q913 := eq_true q913
                      obtain ⟨Ao27, co27, eo27⟩ := Kd.S_slice HO_911000.out
                      (first | subst eo27 | (injection eo27 with f1_ f2_ f3_; have f4_ := f1_.symm; have f5_ := f3_.symm; clear f1_ f2_ f3_; subst f4_; subst f5_))
                      obtain ⟨Ao28, co28, eo28⟩ := Kd.R_slice HO_911001.out
                      (first | subst eo28 | (injection eo28 with f1_ f2_ f3_; have f4_ := f1_.symm; have f5_ := f3_.symm; clear f1_ f2_ f3_; subst f4_; subst f5_))
                      refine start_ (n := 7) (S := fun w' => w'.cell? ⟨gb897, 0, none⟩ = some (.int .i64 a0_0) ∧ w'.cell? ⟨gb897, 1, none⟩ = some (.int .i64 a0_1) ∧ w'.cell? ⟨gb897, 2, none⟩ = some (.bool a0_2) ∧ w'.cell? ⟨gb910, 0, none⟩ = some (.slice Ao27 x911000_1.length co27) ∧ w'.cell? ⟨gb910, 1, none⟩ = some (.slice Ao28 x911001_1.length co28) ∧ w'.cell? ⟨gb910, 2, none⟩ = some (.int .i64 x911002_1) ∧ w'.cell? ⟨gb910, 3, none⟩ = some (.int .i64 x911003_1) ∧ w'.cell? (ad912.add (x11_1).toNat) = some (.slice A913_0 (rd_L3 l1 x11_1).length c913_0)) (ds := []) #[false, false, false, false, false, false, false] (by kernel_rfl) rfl rfl ⟨(blk_cell BK897.out 0).trans rfl, (blk_cell BK897.out 1).trans rfl, (blk_cell BK897.out 2).trans rfl, (blk_cell BK910.out 0).trans rfl, (blk_cell BK910.out 1).trans rfl, (blk_cell BK910.out 2).trans rfl, (blk_cell BK910.out 3).trans rfl, ((HB.out.cell (World.block_lt_of_cell? w _ hw913_0)).trans hw913_0)⟩ (fun hHeld => ?_)
                      generalize wc.drew = w26 at HO_911000 HO_911001 BK897 BK910 HB HR913_0 hx913_0 hHeld ⊢
                      refine pure_ (i := 2) (N := some 48) (v := ?_) (a' := ?_) #[false, false, true, false, false, false, false] rfl rfl (by kernel_rfl) (fun _ _ _ h => h) (Or.inl ⟨by rfl, ?_⟩) ?_ ?_
                      rotate_left
                      · intro w'
                        go_simp
                        with_reducible rfl
                      rotate_left
                      · simp only [Act.put, List.setIfInBounds_toArray, List.set_cons_zero, List.set_cons_succ, i64_w, i32_w]
                        rfl
                      refine pure_ (i := 3) (N := some 49) (v := ?_) (a' := ?_) #[false, false, true, true, false, false, false] rfl rfl (by kernel_rfl) (fun _ _ _ h => h) (Or.inl ⟨by rfl, ?_⟩) ?_ ?_
                      rotate_left
                      · intro w'
                        go_simp
                        with_reducible rfl
                      rotate_left
                      · simp only [Act.put, List.setIfInBounds_toArray, List.set_cons_zero, List.set_cons_succ, i64_w, i32_w]
                        rfl
                      refine pure_ (i := 4) (N := some 50) (v := ?_) (a' := ?_) #[false, false, true, true, true, false, false] rfl rfl (by kernel_rfl) (fun _ _ _ h => h) (Or.inl ⟨by rfl, ?_⟩) ?_ ?_
                      rotate_left
                      · intro w'
                        go_simp
                        with_reducible rfl
                      rotate_left
                      · simp only [Act.put, List.setIfInBounds_toArray, List.set_cons_zero, List.set_cons_succ, i64_w, i32_w]
                        rfl
                      refine take_ (i := 0) (N := some 46) (v := ?_) (a' := ?_) #[true, false, true, true, true, false, false] rfl rfl (by kernel_rfl) (fun _ _ _ h => h) (Or.inl ⟨by rfl, ?_⟩) hHeld ?_ ?_
                      rotate_left
                      · rintro w' ⟨s0, s1, s2, s3, s4, s5, s6, s7⟩
                        go_simp
                        with_reducible rfl
                      rotate_left
                      · simp only [Act.put, List.setIfInBounds_toArray, List.set_cons_zero, List.set_cons_succ, i64_w, i32_w]
                        rfl
                      refine take_ (i := 1) (N := some 47) (v := ?_) (a' := ?_) #[true, true, true, true, true, false, false] rfl rfl (by kernel_rfl) (fun _ _ _ h => h) (Or.inl ⟨by rfl, ?_⟩) hHeld ?_ ?_
                      rotate_left
                      · rintro w' ⟨s0, s1, s2, s3, s4, s5, s6, s7⟩
                        go_simp
                        with_reducible rfl
                      rotate_left
                      · simp only [Act.put, List.setIfInBounds_toArray, List.set_cons_zero, List.set_cons_succ, i64_w, i32_w]
                        rfl
                      refine take_ (i := 5) (N := some 51) (v := ?_) (a' := ?_) #[true, true, true, true, true, true, false] rfl rfl (by kernel_rfl) (fun _ _ _ h => h) (Or.inl ⟨by rfl, ?_⟩) hHeld ?_ ?_
                      rotate_left
                      · rintro w' ⟨s0, s1, s2, s3, s4, s5, s6, s7⟩
                        go_simp
                        with_reducible rfl
                      rotate_left
                      · simp only [Act.put, List.setIfInBounds_toArray, List.set_cons_zero, List.set_cons_succ, i64_w, i32_w]
                        rfl
                      refine one_ (i := 6) (N := some 52) #[true, true, true, true, true, true, true] rfl rfl (by kernel_rfl) (by decide) (fun K hK => ?_)
                      refine goes_ Try.func32 (by kernel_rfl) rfl #[.agg #[.int .i64 a0_0, .int .i64 a0_1, .bool a0_2], .agg #[.slice Ao27 x911000_1.length co27, .slice Ao28 x911001_1.length co28, .int .i64 x911002_1, .int .i64 x911003_1], .slice A913_0 (rd_L3 l1 x11_1).length c913_0] (by rfl) rfl rfl (by (try simp only [List.map_toArray, List.map_cons, List.map_nil]); first | done | rfl | (simp only [List.length_drop, List.length_take]; rfl)) ?_
                      with_reducible refine (lag_Judge.calls kj17 a0_0 a0_1 a0_2 _ _ x911000_1 _ _ x911001_1 x911002_1 x911003_1 _ _ (rd_L3 l1 x11_1) t914 _ ?side1 ?side2 ?side3 ?side4 ?side5 ?side6 A24.out).mono ?_
                      (case side1 => repeat (first | exact (Kd.S_reads' HO_911000.out).2.2 | (with_reducible refine Kd.C_alloc ?_ _) | (with_reducible refine Kd.C_drewN ?_ _) | (with_reducible refine Kd.C_drew ?_)))
                      (case side2 => exact (Kd.S_reads' HO_911000.out).2.1)
                      (case side3 => repeat (first | exact (Kd.R_reads' HO_911001.out).2.2 | (with_reducible refine Kd.C_alloc ?_ _) | (with_reducible refine Kd.C_drewN ?_ _) | (with_reducible refine Kd.C_drew ?_)))
                      (case side4 => exact (Kd.R_reads' HO_911001.out).2.1)
                      (case side5 => repeat (first | exact (Kd.C_below HR913_0.out HB.out) | (with_reducible refine Kd.C_alloc ?_ _) | (with_reducible refine Kd.C_drewN ?_ _) | (with_reducible refine Kd.C_drew ?_)))
                      (case side6 => exact HC913_0.out)
                      rintro e w29 ⟨rfl, hb⟩
                      refine ⟨_, rfl, ?_⟩
                      have n0_ := Aside0.mk (Kd.S_below (by (with_reducible repeat (first | apply Kd.S_alloc | apply Kd.S_drewN | apply Kd.S_drew)); exact HO_911000.out) hb)
                      have n1_ := Aside0.mk (Kd.R_below (by (with_reducible repeat (first | apply Kd.R_alloc | apply Kd.R_drewN | apply Kd.R_drew)); exact HO_911001.out) hb)
                      have n2_ := Aside0.mk (blk_below (g := gb897) (o := .cells #[.int .i64 a0_0, .int .i64 a0_1, .bool a0_2] 23 (0, 0)) (by (with_reducible repeat (first | refine blk_drewN ?_ _ | refine blk_drew ?_ | refine blk_alloc ?_ _)); exact BK897.out) hb)
                      have n3_ := Aside0.mk (blk_below (g := gb910) (o := .cells #[.slice Ao27 x911000_1.length co27, .slice Ao28 x911001_1.length co28, .int .i64 x911002_1, .int .i64 x911003_1] 27 (0, 0)) (by (with_reducible repeat (first | refine blk_drewN ?_ _ | refine blk_drew ?_ | refine blk_alloc ?_ _)); exact BK910.out) hb)
                      have n4_ := Aside0.mk (below_step (by repeat (first | (with_reducible first | exact HB.out | apply below_alloc | apply pw_below_drewN | apply below_drew1 | refine below_set ?_ GE897.out | refine below_set ?_ GE910.out) | exact HB.out)) hb)
                      clear HO_911000
                      clear HO_911001
                      clear BK897
                      clear BK910
                      clear HB
                      have HO_911000 := n0_
                      have HO_911001 := n1_
                      have BK897 := n2_
                      have BK910 := n3_
                      have HB := n4_
                      clear n0_ n1_ n2_ n3_ n4_
                      (try clear hb)
                      (try clear hb2)
                      (try clear hk)
                      (try clear hi)
                      refine hK.out _ _ ⟨(blk_cell BK897.out 0).trans rfl, (blk_cell BK897.out 1).trans rfl, (blk_cell BK897.out 2).trans rfl, (blk_cell BK910.out 0).trans rfl, (blk_cell BK910.out 1).trans rfl, (blk_cell BK910.out 2).trans rfl, (blk_cell BK910.out 3).trans rfl, ((HB.out.cell (World.block_lt_of_cell? w _ hw913_0)).trans hw913_0)⟩ (fun hHeld => ?_)
                      clear hK K
                      refine norm_ (a' := ?_) ?_ ?_
                      rotate_left
                      · show Act.put _ (some 52) _ = _
                        simp only [Act.put, List.setIfInBounds_toArray, List.set_cons_zero, List.set_cons_succ, i64_w, i32_w]
                        rfl
                      refine done_ (by kernel_rfl) ?_
                      go_upto_block 2 with (fail)
                      go_cut [] (fun wc => ∃ (kq : Nat) (x911000_24 : List (S99)) (x911001_24 : List (S74)) (x911002_24 : Int) (x911003_24 : Int) (u911000 : Value) (u911001 : Value), Aside0 (counterfoillaw13_LagBounds.j2 kq l1 l2 l3 x11_1 a0_0 a0_1 a0_2 x911000_24 x911001_24 x911002_24 x911003_24 = some r) ∧ Aside0 (kq ≤ kj17) ∧ Aside0 (Kd.S k99 99 wc w.heap.size (fun k_ => some k_ ≠ (u911001 : Value).ownBlock) u911000 x911000_24) ∧ Aside0 (Kd.R k74 74 wc w.heap.size (fun _ => True) u911001 x911001_24) ∧ Aside0 (wc.heap[gb897]? = some (.cells #[.int .i64 a0_0, .int .i64 a0_1, .bool a0_2] 23 (0, 0))) ∧ Aside0 (wc.heap[gb910]? = some (.cells #[u911000, u911001, .int .i64 x911002_24, .int .i64 x911003_24] 27 (0, 0))) ∧ Aside0 (Below w.heap.size w wc))
                      case first =>
                        have H := HC25.out
                        clear HC25
                        by_cases c30 : t914 = 1
                        · rw [if_pos c30] at H
                          have c30b0 : (t914 == 1) = true := beq_iff_eq.mpr c30
                          have c30b1 : (t914 != 1) = false := bne_eq_false_iff_eq.mpr c30
                          clear c30
                          (first | rw [c30b0] | (simp only [i64_w, i32_w]; rw [c30b0]) | skip)
                          replace H := Option.bind_eq_some_iff.mp H
                          obtain ⟨⟨t916, t919, t922, t923, t924⟩, A310, H⟩ := H
                          replace H : (if t924 = 0 then (counterfoillaw13_LagBounds.j2 kj17 l1 l2 l3 x11_1 a0_0 a0_1 a0_2 t916 t919 t922 t923) else (some false)) = some r := H
                          have A31 := Aside0.mk A310
                          clear A310
                          by_cases c32 : t924 = 0
                          · rw [if_pos c32] at H
                            have c32b0 : (t924 == 0) = true := beq_iff_eq.mpr c32
                            have c32b1 : (t924 != 0) = false := bne_eq_false_iff_eq.mpr c32
                            clear c32
                            have H' := Aside0.mk H
                            clear H
                            try go_wp2
                            have n0_ := Aside0.mk (Kd.S_drew HO_911000.out)
                            have n1_ := Aside0.mk (Kd.R_drew HO_911001.out)
                            have n2_ := Aside0.mk (blk_drew BK897.out)
                            have n3_ := Aside0.mk (blk_drew BK910.out)
                            have n4_ := Aside0.mk (below_drew1 HB.out)
                            clear HO_911000
                            clear HO_911001
                            clear BK897
                            clear BK910
                            clear HB
                            have HO_911000 := n0_
                            have HO_911001 := n1_
                            have BK897 := n2_
                            have BK910 := n3_
                            have HB := n4_
                            clear n0_ n1_ n2_ n3_ n4_
                            have p915 : 0 ≤ (x11_1 : Int) := of_decide_eq_true (by first | (with_reducible assumption) | assumption)
                            have q915 : x11_1 < (l1.length : Int) := of_decide_eq_true (by first | (with_reducible assumption) | assumption)
                            obtain ⟨ad915, A915_0, c915_0, e915, hx915_0, hl915_0, hi915_0⟩ := at_L3 HR1.out x11_1 p915 q915
                            have hw915_0 := hx915_0
                            obtain rfl : ad912 = ad915 := (by injection e915)
                            replace hx915_0 := (HB.out.cell (World.block_lt_of_cell? w _ hx915_0)).trans hx915_0
                            have HR915_0 := Aside0.mk hi915_0
                            have HC915_0 := Aside0.mk hl915_0
                            clear hi915_0 hl915_0
                            replace p915 := eq_true p915
                            replace q915 := eq_true q915
                            refine start_ (n := 11) (S := fun w' => w'.cell? ⟨gb910, 0, none⟩ = some (.slice Ao27 x911000_1.length co27) ∧ w'.cell? ⟨gb910, 1, none⟩ = some (.slice Ao28 x911001_1.length co28) ∧ w'.cell? ⟨gb910, 2, none⟩ = some (.int .i64 x911002_1) ∧ w'.cell? ⟨gb910, 3, none⟩ = some (.int .i64 x911003_1) ∧ w'.cell? (ad912.add (x11_1).toNat) = some (.slice A915_0 (rd_L3 l1 x11_1).length c915_0)) (ds := [9]) #[false, false, false, false, false, false, false, false, false, false, false] (by kernel_rfl) rfl rfl ⟨(blk_cell BK910.out 0).trans rfl, (blk_cell BK910.out 1).trans rfl, (blk_cell BK910.out 2).trans rfl, (blk_cell BK910.out 3).trans rfl, ((HB.out.cell (World.block_lt_of_cell? w _ hw915_0)).trans hw915_0)⟩ (fun hHeld => ?_); refine with_tabW counterfoillaw13_LagBounds.tab13 counterfoillaw13_LagBounds.bits13 (fun HT_ HW_ => ?_)
                            generalize w29.drew = w33 at HO_911000 HO_911001 BK897 BK910 HB HR915_0 hx915_0 hHeld ⊢
                            refine pure_ (i := 1) (N := some 57) (v := ?_) (a' := ?_) #[false, true, false, false, false, false, false, false, false, false, false] rfl rfl (any_of HT_.out (by kernel_rfl)) (fun _ _ _ h => h) (Or.inl ⟨by rfl, ?_⟩) ?_ ?_
                            rotate_left
                            · intro w'
                              go_simp
                              with_reducible rfl
                            rotate_left
                            · simp only [Act.put, List.setIfInBounds_toArray, List.set_cons_zero, List.set_cons_succ, i64_w, i32_w]
                              rfl
                            refine pure_ (i := 2) (N := some 58) (v := ?_) (a' := ?_) #[false, true, true, false, false, false, false, false, false, false, false] rfl rfl (any_of HT_.out (by kernel_rfl)) (fun _ _ _ h => h) (Or.inl ⟨by rfl, ?_⟩) ?_ ?_
                            rotate_left
                            · intro w'
                              go_simp
                              with_reducible rfl
                            rotate_left
                            · simp only [Act.put, List.setIfInBounds_toArray, List.set_cons_zero, List.set_cons_succ, i64_w, i32_w]
                              rfl
                            refine pure_ (i := 3) (N := some 59) (v := ?_) (a' := ?_) #[false, true, true, true, false, false, false, false, false, false, false] rfl rfl (any_of HT_.out (by kernel_rfl)) (fun _ _ _ h => h) (Or.inl ⟨by rfl, ?_⟩) ?_ ?_
                            rotate_left
                            · intro w'
                              go_simp
                              with_reducible rfl
                            rotate_left
                            · simp only [Act.put, List.setIfInBounds_toArray, List.set_cons_zero, List.set_cons_succ, i64_w, i32_w]
                              rfl
                            refine take_ (i := 0) (N := some 56) (v := ?_) (a' := ?_) #[true, true, true, true, false, false, false, false, false, false, false] rfl rfl (take_ofW HT_.out HW_.out (by kernel_rfl)) (fun _ _ _ h => h) (Or.inl ⟨by rfl, ?_⟩) hHeld ?_ ?_
                            rotate_left
                            · rintro w' ⟨s0, s1, s2, s3, s4⟩
                              go_simp
                              with_reducible rfl
                            rotate_left
                            · simp only [Act.put, List.setIfInBounds_toArray, List.set_cons_zero, List.set_cons_succ, i64_w, i32_w]
                              rfl
                            refine take_ (i := 4) (N := some 60) (v := ?_) (a' := ?_) #[true, true, true, true, true, false, false, false, false, false, false] rfl rfl (take_ofW HT_.out HW_.out (by kernel_rfl)) (fun _ _ _ h => h) (Or.inl ⟨by rfl, ?_⟩) hHeld ?_ ?_
                            rotate_left
                            · rintro w' ⟨s0, s1, s2, s3, s4⟩
                              go_simp
                              with_reducible rfl
                            rotate_left
                            · simp only [Act.put, List.setIfInBounds_toArray, List.set_cons_zero, List.set_cons_succ, i64_w, i32_w]
                              rfl
                            refine one_ (i := 5) (N := some 61) #[true, true, true, true, true, true, false, false, false, false, false] rfl rfl (one_of HT_.out (by kernel_rfl)) (by decide) (fun K hK => ?_)
                            refine goes_ Try.func78 (by kernel_rfl) rfl #[.agg #[.slice Ao27 x911000_1.length co27, .slice Ao28 x911001_1.length co28, .int .i64 x911002_1, .int .i64 x911003_1], .slice A915_0 (rd_L3 l1 x11_1).length c915_0] (by rfl) rfl rfl (by (try simp only [List.map_toArray, List.map_cons, List.map_nil]); first | done | rfl | (simp only [List.length_drop, List.length_take]; rfl)) ?_
                            with_reducible refine (queue_Add.calls kj17 _ _ x911000_1 _ _ x911001_1 x911002_1 x911003_1 _ _ (rd_L3 l1 x11_1) t916 t919 t922 t923 t924 _ ?side1 ?side2 ?side3 ?side4 ?side5 ?side6 A31.out).mono ?_
                            (case side1 => repeat (first | exact (Kd.S_reads' HO_911000.out).2.2 | (with_reducible refine Kd.C_alloc ?_ _) | (with_reducible refine Kd.C_drewN ?_ _) | (with_reducible refine Kd.C_drew ?_)))
                            (case side2 => exact (Kd.S_reads' HO_911000.out).2.1)
                            (case side3 => repeat (first | exact (Kd.R_reads' HO_911001.out).2.2 | (with_reducible refine Kd.C_alloc ?_ _) | (with_reducible refine Kd.C_drewN ?_ _) | (with_reducible refine Kd.C_drew ?_)))
                            (case side4 => exact (Kd.R_reads' HO_911001.out).2.1)
                            (case side5 => repeat (first | exact (Kd.C_below HR915_0.out HB.out) | (with_reducible refine Kd.C_alloc ?_ _) | (with_reducible refine Kd.C_drewN ?_ _) | (with_reducible refine Kd.C_drew ?_)))
                            (case side6 => exact HC915_0.out)
                            rintro e w34 ⟨v917, v920, rfl, ho0, ho1, hb⟩
                            refine ⟨_, rfl, ?_⟩
                            have n0_ := Aside0.mk (Kd.S_mono (Kd.S_told (Kd.S_told (Kd.S_old (by (with_reducible repeat (first | apply Kd.S_alloc | apply Kd.S_drewN | apply Kd.S_drew)); exact HO_911000.out) hb) (Kd.S_base ho0)) (Kd.R_base ho1)) (fun _ h_ => h_.1))
                            have n1_ := Aside0.mk (Kd.R_elder' (by (with_reducible repeat (first | apply Kd.R_alloc | apply Kd.R_drewN | apply Kd.R_drew)); exact HO_911001.out) (Kd.R_base ho1) hb)
                            have n2_ := Aside0.mk (Kd.S_lower (Kd.S_new' (Kd.S_new' ho0 (Kd.S_lt (by (with_reducible repeat (first | apply Kd.S_alloc | apply Kd.S_drewN | apply Kd.S_drew)); exact HO_911000.out))) (Kd.R_lt (by (with_reducible repeat (first | apply Kd.R_alloc | apply Kd.R_drewN | apply Kd.R_drew)); exact HO_911001.out))) (below_size (by repeat (first | (with_reducible first | exact HB.out | apply below_alloc | apply pw_below_drewN | apply below_drew1 | refine below_set ?_ GE897.out | refine below_set ?_ GE910.out) | exact HB.out))))
                            have n3_ := Aside0.mk (Kd.R_lower (Kd.R_new' ho1 (Kd.R_lt (by (with_reducible repeat (first | apply Kd.R_alloc | apply Kd.R_drewN | apply Kd.R_drew)); exact HO_911001.out))) (below_size (by repeat (first | (with_reducible first | exact HB.out | apply below_alloc | apply pw_below_drewN | apply below_drew1 | refine below_set ?_ GE897.out | refine below_set ?_ GE910.out) | exact HB.out))))
                            have n4_ := Aside0.mk (blk_below (g := gb897) (o := .cells #[.int .i64 a0_0, .int .i64 a0_1, .bool a0_2] 23 (0, 0)) (by (with_reducible repeat (first | refine blk_drewN ?_ _ | refine blk_drew ?_ | refine blk_alloc ?_ _)); exact BK897.out) hb)
                            have n5_ := Aside0.mk (blk_below (g := gb910) (o := .cells #[.slice Ao27 x911000_1.length co27, .slice Ao28 x911001_1.length co28, .int .i64 x911002_1, .int .i64 x911003_1] 27 (0, 0)) (by (with_reducible repeat (first | refine blk_drewN ?_ _ | refine blk_drew ?_ | refine blk_alloc ?_ _)); exact BK910.out) hb)
                            have n6_ := Aside0.mk (below_step (by repeat (first | (with_reducible first | exact HB.out | apply below_alloc | apply pw_below_drewN | apply below_drew1 | refine below_set ?_ GE897.out | refine below_set ?_ GE910.out) | exact HB.out)) hb)
                            clear HO_911000
                            clear HO_911001
                            clear BK897
                            clear BK910
                            clear HB
                            have HO_911000 := n0_
                            have HO_911001 := n1_
                            have HO918 := n2_
                            have HO921 := n3_
                            have BK897 := n4_
                            have BK910 := n5_
                            have HB := n6_
                            clear n0_ n1_ n2_ n3_ n4_ n5_ n6_
                            (try clear hb)
                            (try clear hb2)
                            (try clear hk)
                            (try clear hi)
                            (try clear ho0)
                            (try clear ho1)
                            obtain ⟨Ao35, co35, eo35⟩ := Kd.S_slice HO918.out
                            (first | subst eo35 | (injection eo35 with f1_ f2_ f3_; have f4_ := f1_.symm; have f5_ := f3_.symm; clear f1_ f2_ f3_; subst f4_; subst f5_))
                            obtain ⟨Ao37, co37, eo37⟩ := Kd.R_slice HO921.out
                            (first | subst eo37 | (injection eo37 with f1_ f2_ f3_; have f4_ := f1_.symm; have f5_ := f3_.symm; clear f1_ f2_ f3_; subst f4_; subst f5_))
                            refine hK.out _ _ ⟨(blk_cell BK910.out 0).trans rfl, (blk_cell BK910.out 1).trans rfl, (blk_cell BK910.out 2).trans rfl, (blk_cell BK910.out 3).trans rfl, ((HB.out.cell (World.block_lt_of_cell? w _ hw915_0)).trans hw915_0)⟩ (fun hHeld => ?_)
                            clear hK K
                            refine norm_ (a' := ?_) ?_ ?_
                            rotate_left
                            · show Act.put _ (some 61) _ = _
                              simp only [Act.put, List.setIfInBounds_toArray, List.set_cons_zero, List.set_cons_succ, i64_w, i32_w]
                              rfl
                            refine pure_ (i := 6) (N := some 55) (v := ?_) (a' := ?_) #[true, true, true, true, true, true, true, false, false, false, false] rfl rfl (any_of HT_.out (by kernel_rfl)) (fun _ _ _ h => h) (Or.inl ⟨by rfl, ?_⟩) ?_ ?_
                            rotate_left
                            · intro w'
                              go_simp
                              with_reducible rfl
                            rotate_left
                            · simp only [Act.put, List.setIfInBounds_toArray, List.set_cons_zero, List.set_cons_succ, i64_w, i32_w]
                              rfl
                            refine pure_ (i := 7) (N := some 62) (v := ?_) (a' := ?_) #[true, true, true, true, true, true, true, true, false, false, false] rfl rfl (any_of HT_.out (by kernel_rfl)) (fun _ _ _ h => h) (Or.inl ⟨by rfl, ?_⟩) ?_ ?_
                            rotate_left
                            · intro w'
                              go_simp
                              with_reducible rfl
                            rotate_left
                            · simp only [Act.put, List.setIfInBounds_toArray, List.set_cons_zero, List.set_cons_succ, i64_w, i32_w]
                              rfl
                            refine pure_ (i := 8) (N := some 63) (v := ?_) (a' := ?_) #[true, true, true, true, true, true, true, true, true, false, false] rfl rfl (any_of HT_.out (by kernel_rfl)) (fun _ _ _ h => h) (Or.inl ⟨by rfl, ?_⟩) ?_ ?_
                            rotate_left
                            · intro w'
                              go_simp
                              with_reducible rfl
                            rotate_left
                            · simp only [Act.put, List.setIfInBounds_toArray, List.set_cons_zero, List.set_cons_succ, i64_w, i32_w]
                              rfl
                            refine last_ (i := 9) (N := none) #[true, true, true, true, true, true, true, true, true, true, false] rfl rfl (one_of HT_.out (by kernel_rfl)) (by decide) (fun K hK => ?_)
                            have hs36 : w34.cell? ⟨gb910, 0, none⟩ = some (.slice Ao27 x911000_1.length co27) := (blk_cell BK910.out 0).trans rfl
                            have hfs36 := blk_frozen BK910.out 0
                            have hns36_0 := NB897_910.out
                            have hms36_0 := NB910_897.out
                            have hs38 : w34.cell? ⟨gb910, 1, none⟩ = some (.slice Ao28 x911001_1.length co28) := (blk_cell BK910.out 1).trans rfl
                            have hfs38 := blk_frozen BK910.out 1
                            have hns38_0 := NB897_910.out
                            have hms38_0 := NB910_897.out
                            have hs39 : w34.cell? ⟨gb910, 2, none⟩ = some (.int .i64 x911002_1) := (blk_cell BK910.out 2).trans rfl
                            have hfs39 := blk_frozen BK910.out 2
                            have hns39_0 := NB897_910.out
                            have hms39_0 := NB910_897.out
                            have hs40 : w34.cell? ⟨gb910, 3, none⟩ = some (.int .i64 x911003_1) := (blk_cell BK910.out 3).trans rfl
                            have hfs40 := blk_frozen BK910.out 3
                            have hns40_0 := NB897_910.out
                            have hms40_0 := NB910_897.out
                            refine skip_ (w1 := ?_) (by rfl) rfl ?_ ?_
                            rotate_left
                            · go_simp
                              rfl
                            refine hK.out _ _ ?_
                            clear hK K
                            refine pure_ (i := 10) (N := some 10) (v := ?_) (a' := ?_) #[true, true, true, true, true, true, true, true, true, true, true] rfl rfl (any_of HT_.out (by kernel_rfl)) (fun _ _ _ h => h) (Or.inl ⟨by rfl, ?_⟩) ?_ ?_
                            rotate_left
                            · intro w'
                              go_simp
                              with_reducible rfl
                            rotate_left
                            · simp only [Act.put, List.setIfInBounds_toArray, List.set_cons_zero, List.set_cons_succ, i64_w, i32_w]
                              rfl
                            refine done_ (done_of HT_.out (by kernel_rfl)) ?_
                            try go_wp2
                            go_meet
                            case rel => exact ⟨_, (t916), (t919), (t922), (t923), (.slice Ao35 t916.length co35), (.slice Ao37 t919.length co37), H', ⟨by have := HK1.out; have := HJ17.out; first | omega | exact Nat.le_refl _⟩, ⟨by (with_reducible repeat (first | apply Kd.S_alloc | apply Kd.S_drewN | apply Kd.S_drew)); exact Kd.S_mono (Kd.S_far (p := ⟨gb910, 3, none⟩) (Kd.S_far (p := ⟨gb910, 2, none⟩) (Kd.S_far (p := ⟨gb910, 1, none⟩) (Kd.S_far (p := ⟨gb910, 0, none⟩) (Kd.S_types HO918.out BK910.out (by decide)) (fun _ hk => hk.2) (.slice Ao35 t916.length co35)) (fun _ hk => hk.2) (.slice Ao37 t919.length co37)) (fun _ hk => hk.2) (.int .i64 t922)) (fun _ hk => hk.2) (.int .i64 t923)) (fun _ hk => hk.1.1.1)⟩, ⟨by (with_reducible repeat (first | apply Kd.R_alloc | apply Kd.R_drewN | apply Kd.R_drew)); exact Kd.R_mono (Kd.R_far (p := ⟨gb910, 3, none⟩) (Kd.R_far (p := ⟨gb910, 2, none⟩) (Kd.R_far (p := ⟨gb910, 1, none⟩) (Kd.R_far (p := ⟨gb910, 0, none⟩) (Kd.R_types HO921.out BK910.out (by decide)) (fun _ hk => hk.2) (.slice Ao35 t916.length co35)) (fun _ hk => hk.2) (.slice Ao37 t919.length co37)) (fun _ hk => hk.2) (.int .i64 t922)) (fun _ hk => hk.2) (.int .i64 t923)) (fun _ hk => trivial)⟩, ⟨by (with_reducible repeat (first | refine blk_drewN ?_ _ | refine blk_drew ?_ | refine blk_alloc ?_ _)); refine blk_far ?_ NB897_910.out _; (with_reducible repeat (first | refine blk_drewN ?_ _ | refine blk_drew ?_ | refine blk_alloc ?_ _)); refine blk_far ?_ NB897_910.out _; (with_reducible repeat (first | refine blk_drewN ?_ _ | refine blk_drew ?_ | refine blk_alloc ?_ _)); refine blk_far ?_ NB897_910.out _; (with_reducible repeat (first | refine blk_drewN ?_ _ | refine blk_drew ?_ | refine blk_alloc ?_ _)); refine blk_far ?_ NB897_910.out _; (with_reducible repeat (first | refine blk_drewN ?_ _ | refine blk_drew ?_ | refine blk_alloc ?_ _)); exact BK897.out⟩, ⟨by (with_reducible repeat (first | refine blk_drewN ?_ _ | refine blk_drew ?_ | refine blk_alloc ?_ _)); refine blk_put (cs := #[.slice Ao35 t916.length co35, .slice Ao37 t919.length co37, .int .i64 t922, .int .i64 x911003_1]) ?_ 3 _ rfl; (with_reducible repeat (first | refine blk_drewN ?_ _ | refine blk_drew ?_ | refine blk_alloc ?_ _)); refine blk_put (cs := #[.slice Ao35 t916.length co35, .slice Ao37 t919.length co37, .int .i64 x911002_1, .int .i64 x911003_1]) ?_ 2 _ rfl; (with_reducible repeat (first | refine blk_drewN ?_ _ | refine blk_drew ?_ | refine blk_alloc ?_ _)); refine blk_put (cs := #[.slice Ao35 t916.length co35, .slice Ao28 x911001_1.length co28, .int .i64 x911002_1, .int .i64 x911003_1]) ?_ 1 _ rfl; (with_reducible repeat (first | refine blk_drewN ?_ _ | refine blk_drew ?_ | refine blk_alloc ?_ _)); refine blk_put (cs := #[.slice Ao27 x911000_1.length co27, .slice Ao28 x911001_1.length co28, .int .i64 x911002_1, .int .i64 x911003_1]) ?_ 0 _ rfl; (with_reducible repeat (first | refine blk_drewN ?_ _ | refine blk_drew ?_ | refine blk_alloc ?_ _)); exact BK910.out⟩, ⟨by repeat (first | (with_reducible first | exact HB.out | apply below_alloc | apply pw_below_drewN | apply below_drew1 | refine below_set ?_ GE897.out | refine below_set ?_ GE910.out) | exact HB.out)⟩⟩
                          · rw [if_neg c32] at H
                            have c32b0 : (t924 == 0) = false := beq_eq_false_iff_ne.mpr c32
                            have c32b1 : (t924 != 0) = true := bne_iff_ne.mpr c32
                            obtain rfl := Option.some.inj H
                            try go_wp2
                            have n0_ := Aside0.mk (Kd.S_drew HO_911000.out)
                            have n1_ := Aside0.mk (Kd.R_drew HO_911001.out)
                            have n2_ := Aside0.mk (blk_drew BK897.out)
                            have n3_ := Aside0.mk (blk_drew BK910.out)
                            have n4_ := Aside0.mk (below_drew1 HB.out)
                            clear HO_911000
                            clear HO_911001
                            clear BK897
                            clear BK910
                            clear HB
                            have HO_911000 := n0_
                            have HO_911001 := n1_
                            have BK897 := n2_
                            have BK910 := n3_
                            have HB := n4_
                            clear n0_ n1_ n2_ n3_ n4_
                            have p915 : 0 ≤ (x11_1 : Int) := of_decide_eq_true (by first | (with_reducible assumption) | assumption)
                            have q915 : x11_1 < (l1.length : Int) := of_decide_eq_true (by first | (with_reducible assumption) | assumption)
                            obtain ⟨ad915, A915_0, c915_0, e915, hx915_0, hl915_0, hi915_0⟩ := at_L3 HR1.out x11_1 p915 q915
                            have hw915_0 := hx915_0
                            obtain rfl : ad912 = ad915 := (by injection e915)
                            replace hx915_0 := (HB.out.cell (World.block_lt_of_cell? w _ hx915_0)).trans hx915_0
                            have HR915_0 := Aside0.mk hi915_0
                            have HC915_0 := Aside0.mk hl915_0
                            clear hi915_0 hl915_0
                            replace p915 := eq_true p915
                            replace q915 := eq_true q915
                            refine start_ (n := 11) (S := fun w' => w'.cell? ⟨gb910, 0, none⟩ = some (.slice Ao27 x911000_1.length co27) ∧ w'.cell? ⟨gb910, 1, none⟩ = some (.slice Ao28 x911001_1.length co28) ∧ w'.cell? ⟨gb910, 2, none⟩ = some (.int .i64 x911002_1) ∧ w'.cell? ⟨gb910, 3, none⟩ = some (.int .i64 x911003_1) ∧ w'.cell? (ad912.add (x11_1).toNat) = some (.slice A915_0 (rd_L3 l1 x11_1).length c915_0)) (ds := [9]) #[false, false, false, false, false, false, false, false, false, false, false] (by kernel_rfl) rfl rfl ⟨(blk_cell BK910.out 0).trans rfl, (blk_cell BK910.out 1).trans rfl, (blk_cell BK910.out 2).trans rfl, (blk_cell BK910.out 3).trans rfl, ((HB.out.cell (World.block_lt_of_cell? w _ hw915_0)).trans hw915_0)⟩ (fun hHeld => ?_); refine with_tabW counterfoillaw13_LagBounds.tab13 counterfoillaw13_LagBounds.bits13 (fun HT_ HW_ => ?_)
                            generalize w29.drew = w41 at HO_911000 HO_911001 BK897 BK910 HB HR915_0 hx915_0 hHeld ⊢
                            refine pure_ (i := 1) (N := some 57) (v := ?_) (a' := ?_) #[false, true, false, false, false, false, false, false, false, false, false] rfl rfl (any_of HT_.out (by kernel_rfl)) (fun _ _ _ h => h) (Or.inl ⟨by rfl, ?_⟩) ?_ ?_
                            rotate_left
                            · intro w'
                              go_simp
                              with_reducible rfl
                            rotate_left
                            · simp only [Act.put, List.setIfInBounds_toArray, List.set_cons_zero, List.set_cons_succ, i64_w, i32_w]
                              rfl
                            refine pure_ (i := 2) (N := some 58) (v := ?_) (a' := ?_) #[false, true, true, false, false, false, false, false, false, false, false] rfl rfl (any_of HT_.out (by kernel_rfl)) (fun _ _ _ h => h) (Or.inl ⟨by rfl, ?_⟩) ?_ ?_
                            rotate_left
                            · intro w'
                              go_simp
                              with_reducible rfl
                            rotate_left
                            · simp only [Act.put, List.setIfInBounds_toArray, List.set_cons_zero, List.set_cons_succ, i64_w, i32_w]
                              rfl
                            refine pure_ (i := 3) (N := some 59) (v := ?_) (a' := ?_) #[false, true, true, true, false, false, false, false, false, false, false] rfl rfl (any_of HT_.out (by kernel_rfl)) (fun _ _ _ h => h) (Or.inl ⟨by rfl, ?_⟩) ?_ ?_
                            rotate_left
                            · intro w'
                              go_simp
                              with_reducible rfl
                            rotate_left
                            · simp only [Act.put, List.setIfInBounds_toArray, List.set_cons_zero, List.set_cons_succ, i64_w, i32_w]
                              rfl
                            refine take_ (i := 0) (N := some 56) (v := ?_) (a' := ?_) #[true, true, true, true, false, false, false, false, false, false, false] rfl rfl (take_ofW HT_.out HW_.out (by kernel_rfl)) (fun _ _ _ h => h) (Or.inl ⟨by rfl, ?_⟩) hHeld ?_ ?_
                            rotate_left
                            · rintro w' ⟨s0, s1, s2, s3, s4⟩
                              go_simp
                              with_reducible rfl
                            rotate_left
                            · simp only [Act.put, List.setIfInBounds_toArray, List.set_cons_zero, List.set_cons_succ, i64_w, i32_w]
                              rfl
                            refine take_ (i := 4) (N := some 60) (v := ?_) (a' := ?_) #[true, true, true, true, true, false, false, false, false, false, false] rfl rfl (take_ofW HT_.out HW_.out (by kernel_rfl)) (fun _ _ _ h => h) (Or.inl ⟨by rfl, ?_⟩) hHeld ?_ ?_
                            rotate_left
                            · rintro w' ⟨s0, s1, s2, s3, s4⟩
                              go_simp
                              with_reducible rfl
                            rotate_left
                            · simp only [Act.put, List.setIfInBounds_toArray, List.set_cons_zero, List.set_cons_succ, i64_w, i32_w]
                              rfl
                            refine one_ (i := 5) (N := some 61) #[true, true, true, true, true, true, false, false, false, false, false] rfl rfl (one_of HT_.out (by kernel_rfl)) (by decide) (fun K hK => ?_)
                            refine goes_ Try.func78 (by kernel_rfl) rfl #[.agg #[.slice Ao27 x911000_1.length co27, .slice Ao28 x911001_1.length co28, .int .i64 x911002_1, .int .i64 x911003_1], .slice A915_0 (rd_L3 l1 x11_1).length c915_0] (by rfl) rfl rfl (by (try simp only [List.map_toArray, List.map_cons, List.map_nil]); first | done | rfl | (simp only [List.length_drop, List.length_take]; rfl)) ?_
                            with_reducible refine (queue_Add.calls kj17 _ _ x911000_1 _ _ x911001_1 x911002_1 x911003_1 _ _ (rd_L3 l1 x11_1) t916 t919 t922 t923 t924 _ ?side1 ?side2 ?side3 ?side4 ?side5 ?side6 A31.out).mono ?_
                            (case side1 => repeat (first | exact (Kd.S_reads' HO_911000.out).2.2 | (with_reducible refine Kd.C_alloc ?_ _) | (with_reducible refine Kd.C_drewN ?_ _) | (with_reducible refine Kd.C_drew ?_)))
                            (case side2 => exact (Kd.S_reads' HO_911000.out).2.1)
                            (case side3 => repeat (first | exact (Kd.R_reads' HO_911001.out).2.2 | (with_reducible refine Kd.C_alloc ?_ _) | (with_reducible refine Kd.C_drewN ?_ _) | (with_reducible refine Kd.C_drew ?_)))
                            (case side4 => exact (Kd.R_reads' HO_911001.out).2.1)
                            (case side5 => repeat (first | exact (Kd.C_below HR915_0.out HB.out) | (with_reducible refine Kd.C_alloc ?_ _) | (with_reducible refine Kd.C_drewN ?_ _) | (with_reducible refine Kd.C_drew ?_)))
                            (case side6 => exact HC915_0.out)
                            rintro e w42 ⟨v917, v920, rfl, ho0, ho1, hb⟩
                            refine ⟨_, rfl, ?_⟩
                            have n0_ := Aside0.mk (Kd.S_mono (Kd.S_told (Kd.S_told (Kd.S_old (by (with_reducible repeat (first | apply Kd.S_alloc | apply Kd.S_drewN | apply Kd.S_drew)); exact HO_911000.out) hb) (Kd.S_base ho0)) (Kd.R_base ho1)) (fun _ h_ => h_.1))
                            have n1_ := Aside0.mk (Kd.R_elder' (by (with_reducible repeat (first | apply Kd.R_alloc | apply Kd.R_drewN | apply Kd.R_drew)); exact HO_911001.out) (Kd.R_base ho1) hb)
                            have n2_ := Aside0.mk (Kd.S_lower (Kd.S_new' (Kd.S_new' ho0 (Kd.S_lt (by (with_reducible repeat (first | apply Kd.S_alloc | apply Kd.S_drewN | apply Kd.S_drew)); exact HO_911000.out))) (Kd.R_lt (by (with_reducible repeat (first | apply Kd.R_alloc | apply Kd.R_drewN | apply Kd.R_drew)); exact HO_911001.out))) (below_size (by repeat (first | (with_reducible first | exact HB.out | apply below_alloc | apply pw_below_drewN | apply below_drew1 | refine below_set ?_ GE897.out | refine below_set ?_ GE910.out) | exact HB.out))))
                            have n3_ := Aside0.mk (Kd.R_lower (Kd.R_new' ho1 (Kd.R_lt (by (with_reducible repeat (first | apply Kd.R_alloc | apply Kd.R_drewN | apply Kd.R_drew)); exact HO_911001.out))) (below_size (by repeat (first | (with_reducible first | exact HB.out | apply below_alloc | apply pw_below_drewN | apply below_drew1 | refine below_set ?_ GE897.out | refine below_set ?_ GE910.out) | exact HB.out))))
                            have n4_ := Aside0.mk (blk_below (g := gb897) (o := .cells #[.int .i64 a0_0, .int .i64 a0_1, .bool a0_2] 23 (0, 0)) (by (with_reducible repeat (first | refine blk_drewN ?_ _ | refine blk_drew ?_ | refine blk_alloc ?_ _)); exact BK897.out) hb)
                            have n5_ := Aside0.mk (blk_below (g := gb910) (o := .cells #[.slice Ao27 x911000_1.length co27, .slice Ao28 x911001_1.length co28, .int .i64 x911002_1, .int .i64 x911003_1] 27 (0, 0)) (by (with_reducible repeat (first | refine blk_drewN ?_ _ | refine blk_drew ?_ | refine blk_alloc ?_ _)); exact BK910.out) hb)
                            have n6_ := Aside0.mk (below_step (by repeat (first | (with_reducible first | exact HB.out | apply below_alloc | apply pw_below_drewN | apply below_drew1 | refine below_set ?_ GE897.out | refine below_set ?_ GE910.out) | exact HB.out)) hb)
                            clear HO_911000
                            clear HO_911001
                            clear BK897
                            clear BK910
                            clear HB
                            have HO_911000 := n0_
                            have HO_911001 := n1_
                            have HO918 := n2_
                            have HO921 := n3_
                            have BK897 := n4_
                            have BK910 := n5_
                            have HB := n6_
                            clear n0_ n1_ n2_ n3_ n4_ n5_ n6_
                            (try clear hb)
                            (try clear hb2)
                            (try clear hk)
                            (try clear hi)
                            (try clear ho0)
                            (try clear ho1)
                            obtain ⟨Ao43, co43, eo43⟩ := Kd.S_slice HO918.out
                            (first | subst eo43 | (injection eo43 with f1_ f2_ f3_; have f4_ := f1_.symm; have f5_ := f3_.symm; clear f1_ f2_ f3_; subst f4_; subst f5_))
                            obtain ⟨Ao45, co45, eo45⟩ := Kd.R_slice HO921.out
                            (first | subst eo45 | (injection eo45 with f1_ f2_ f3_; have f4_ := f1_.symm; have f5_ := f3_.symm; clear f1_ f2_ f3_; subst f4_; subst f5_))
                            refine hK.out _ _ ⟨(blk_cell BK910.out 0).trans rfl, (blk_cell BK910.out 1).trans rfl, (blk_cell BK910.out 2).trans rfl, (blk_cell BK910.out 3).trans rfl, ((HB.out.cell (World.block_lt_of_cell? w _ hw915_0)).trans hw915_0)⟩ (fun hHeld => ?_)
                            clear hK K
                            refine norm_ (a' := ?_) ?_ ?_
                            rotate_left
                            · show Act.put _ (some 61) _ = _
                              simp only [Act.put, List.setIfInBounds_toArray, List.set_cons_zero, List.set_cons_succ, i64_w, i32_w]
                              rfl
                            refine pure_ (i := 6) (N := some 55) (v := ?_) (a' := ?_) #[true, true, true, true, true, true, true, false, false, false, false] rfl rfl (any_of HT_.out (by kernel_rfl)) (fun _ _ _ h => h) (Or.inl ⟨by rfl, ?_⟩) ?_ ?_
                            rotate_left
                            · intro w'
                              go_simp
                              with_reducible rfl
                            rotate_left
                            · simp only [Act.put, List.setIfInBounds_toArray, List.set_cons_zero, List.set_cons_succ, i64_w, i32_w]
                              rfl
                            refine pure_ (i := 7) (N := some 62) (v := ?_) (a' := ?_) #[true, true, true, true, true, true, true, true, false, false, false] rfl rfl (any_of HT_.out (by kernel_rfl)) (fun _ _ _ h => h) (Or.inl ⟨by rfl, ?_⟩) ?_ ?_
                            rotate_left
                            · intro w'
                              go_simp
                              with_reducible rfl
                            rotate_left
                            · simp only [Act.put, List.setIfInBounds_toArray, List.set_cons_zero, List.set_cons_succ, i64_w, i32_w]
                              rfl
                            refine pure_ (i := 8) (N := some 63) (v := ?_) (a' := ?_) #[true, true, true, true, true, true, true, true, true, false, false] rfl rfl (any_of HT_.out (by kernel_rfl)) (fun _ _ _ h => h) (Or.inl ⟨by rfl, ?_⟩) ?_ ?_
                            rotate_left
                            · intro w'
                              go_simp
                              with_reducible rfl
                            rotate_left
                            · simp only [Act.put, List.setIfInBounds_toArray, List.set_cons_zero, List.set_cons_succ, i64_w, i32_w]
                              rfl
                            refine last_ (i := 9) (N := none) #[true, true, true, true, true, true, true, true, true, true, false] rfl rfl (one_of HT_.out (by kernel_rfl)) (by decide) (fun K hK => ?_)
                            have hs44 : w42.cell? ⟨gb910, 0, none⟩ = some (.slice Ao27 x911000_1.length co27) := (blk_cell BK910.out 0).trans rfl
                            have hfs44 := blk_frozen BK910.out 0
                            have hns44_0 := NB897_910.out
                            have hms44_0 := NB910_897.out
                            have hs46 : w42.cell? ⟨gb910, 1, none⟩ = some (.slice Ao28 x911001_1.length co28) := (blk_cell BK910.out 1).trans rfl
                            have hfs46 := blk_frozen BK910.out 1
                            have hns46_0 := NB897_910.out
                            have hms46_0 := NB910_897.out
                            have hs47 : w42.cell? ⟨gb910, 2, none⟩ = some (.int .i64 x911002_1) := (blk_cell BK910.out 2).trans rfl
                            have hfs47 := blk_frozen BK910.out 2
                            have hns47_0 := NB897_910.out
                            have hms47_0 := NB910_897.out
                            have hs48 : w42.cell? ⟨gb910, 3, none⟩ = some (.int .i64 x911003_1) := (blk_cell BK910.out 3).trans rfl
                            have hfs48 := blk_frozen BK910.out 3
                            have hns48_0 := NB897_910.out
                            have hms48_0 := NB910_897.out
                            refine skip_ (w1 := ?_) (by rfl) rfl ?_ ?_
                            rotate_left
                            · go_simp
                              rfl
                            refine hK.out _ _ ?_
                            clear hK K
                            refine pure_ (i := 10) (N := some 10) (v := ?_) (a' := ?_) #[true, true, true, true, true, true, true, true, true, true, true] rfl rfl (any_of HT_.out (by kernel_rfl)) (fun _ _ _ h => h) (Or.inl ⟨by rfl, ?_⟩) ?_ ?_
                            rotate_left
                            · intro w'
                              go_simp
                              with_reducible rfl
                            rotate_left
                            · simp only [Act.put, List.setIfInBounds_toArray, List.set_cons_zero, List.set_cons_succ, i64_w, i32_w]
                              rfl
                            refine done_ (done_of HT_.out (by kernel_rfl)) ?_
                            try go_wp2
                            go_ret
                            exact ⟨by first | rfl | (simp [errW_none, errW_some] <;> rfl) | (simp [*, errW_none, errW_some] <;> rfl), by repeat (first | (with_reducible first | exact HB.out | apply below_alloc | apply pw_below_drewN | apply below_drew1 | refine below_set ?_ GE897.out | refine below_set ?_ GE910.out) | exact HB.out)⟩
                        · rw [if_neg c30] at H
                          have c30b0 : (t914 == 1) = false := beq_eq_false_iff_ne.mpr c30
                          have c30b1 : (t914 != 1) = true := bne_iff_ne.mpr c30
                          (first | rw [c30b0] | (simp only [i64_w, i32_w]; rw [c30b0]) | skip)
                          by_cases c49 : t914 = 2
                          · rw [if_pos c49] at H
                            have c49b0 : (t914 == 2) = true := beq_iff_eq.mpr c49
                            have c49b1 : (t914 != 2) = false := bne_eq_false_iff_eq.mpr c49
                            clear c49
                            by_cases c50 : a0_2 = true
                            · subst c50
                              have H1 : (counterfoillaw13_LagBounds.j2 kj17 l1 l2 l3 x11_1 a0_0 a0_1 true x911000_1 x911001_1 x911002_1 x911003_1) = some r := by rw [if_pos rfl] at H; exact H
                              clear H
                              have H := H1
                              clear H1
                              have H' := Aside0.mk H
                              clear H
                              have hnb51 := NB897_910.out
                              have hnc51 := NB910_897.out
                              have hcz52_0 : w29.cell? ⟨gb897, 0, none⟩ = some (.int .i64 a0_0) := (blk_cell BK897.out 0).trans rfl
                              have hcz52_1 : w29.cell? ⟨gb897, 1, none⟩ = some (.int .i64 a0_1) := (blk_cell BK897.out 1).trans rfl
                              have hcz52_2 : w29.cell? ⟨gb897, 2, none⟩ = some (.bool true) := (blk_cell BK897.out 2).trans rfl
                              have hfz52_0 := blk_frozen BK897.out 0
                              have hfz52_1 := blk_frozen BK897.out 1
                              have hfz52_2 := blk_frozen BK897.out 2
                              go_wp2
                              go_meet
                              case rel => exact ⟨_, (x911000_1), (x911001_1), (x911002_1), (x911003_1), (.slice Ao27 x911000_1.length co27), (.slice Ao28 x911001_1.length co28), H', ⟨by have := HK1.out; have := HJ17.out; first | omega | exact Nat.le_refl _⟩, ⟨by (with_reducible repeat (first | apply Kd.S_alloc | apply Kd.S_drewN | apply Kd.S_drew)); exact HO_911000.out⟩, ⟨by (with_reducible repeat (first | apply Kd.R_alloc | apply Kd.R_drewN | apply Kd.R_drew)); exact HO_911001.out⟩, ⟨by (with_reducible repeat (first | refine blk_drewN ?_ _ | refine blk_drew ?_ | refine blk_alloc ?_ _)); exact BK897.out⟩, ⟨by (with_reducible repeat (first | refine blk_drewN ?_ _ | refine blk_drew ?_ | refine blk_alloc ?_ _)); exact BK910.out⟩, ⟨by repeat (first | (with_reducible first | exact HB.out | apply below_alloc | apply pw_below_drewN | apply below_drew1 | refine below_set ?_ GE897.out | refine below_set ?_ GE910.out) | exact HB.out)⟩⟩
                            · replace c50 := Bool.eq_false_iff.mpr c50
                              subst c50
                              have H1 : (some false) = some r := by rw [if_neg (show ¬ (false = true) by decide)] at H; exact H
                              clear H
                              have H := H1
                              clear H1
                              obtain rfl := Option.some.inj H
                              have hnb53 := NB897_910.out
                              have hnc53 := NB910_897.out
                              have hcz54_0 : w29.cell? ⟨gb897, 0, none⟩ = some (.int .i64 a0_0) := (blk_cell BK897.out 0).trans rfl
                              have hcz54_1 : w29.cell? ⟨gb897, 1, none⟩ = some (.int .i64 a0_1) := (blk_cell BK897.out 1).trans rfl
                              have hcz54_2 : w29.cell? ⟨gb897, 2, none⟩ = some (.bool false) := (blk_cell BK897.out 2).trans rfl
                              have hfz54_0 := blk_frozen BK897.out 0
                              have hfz54_1 := blk_frozen BK897.out 1
                              have hfz54_2 := blk_frozen BK897.out 2
                              go_wp2
                              go_ret
                              exact ⟨by first | rfl | (simp [errW_none, errW_some] <;> rfl) | (simp [*, errW_none, errW_some] <;> rfl), by repeat (first | (with_reducible first | exact HB.out | apply below_alloc | apply pw_below_drewN | apply below_drew1 | refine below_set ?_ GE897.out | refine below_set ?_ GE910.out) | exact HB.out)⟩
                          · rw [if_neg c49] at H
                            have c49b0 : (t914 == 2) = false := beq_eq_false_iff_ne.mpr c49
                            have c49b1 : (t914 != 2) = true := bne_iff_ne.mpr c49
                            by_cases c55 : t914 = 3
                            · rw [if_pos c55] at H
                              have c55b0 : (t914 == 3) = true := beq_iff_eq.mpr c55
                              have c55b1 : (t914 != 3) = false := bne_eq_false_iff_eq.mpr c55
                              clear c55
                              by_cases c56 : a0_2 = true
                              · subst c56
                                have H1 : (some false) = some r := by rw [if_pos rfl] at H; exact H
                                clear H
                                have H := H1
                                clear H1
                                obtain rfl := Option.some.inj H
                                have hnb57 := NB897_910.out
                                have hnc57 := NB910_897.out
                                have hcz58_0 : w29.cell? ⟨gb897, 0, none⟩ = some (.int .i64 a0_0) := (blk_cell BK897.out 0).trans rfl
                                have hcz58_1 : w29.cell? ⟨gb897, 1, none⟩ = some (.int .i64 a0_1) := (blk_cell BK897.out 1).trans rfl
                                have hcz58_2 : w29.cell? ⟨gb897, 2, none⟩ = some (.bool true) := (blk_cell BK897.out 2).trans rfl
                                have hfz58_0 := blk_frozen BK897.out 0
                                have hfz58_1 := blk_frozen BK897.out 1
                                have hfz58_2 := blk_frozen BK897.out 2
                                go_wp2
                                go_ret
                                exact ⟨by first | rfl | (simp [errW_none, errW_some] <;> rfl) | (simp [*, errW_none, errW_some] <;> rfl), by repeat (first | (with_reducible first | exact HB.out | apply below_alloc | apply pw_below_drewN | apply below_drew1 | refine below_set ?_ GE897.out | refine below_set ?_ GE910.out) | exact HB.out)⟩
                              · replace c56 := Bool.eq_false_iff.mpr c56
                                subst c56
                                have H1 : (counterfoillaw13_LagBounds.j2 kj17 l1 l2 l3 x11_1 a0_0 a0_1 false x911000_1 x911001_1 x911002_1 x911003_1) = some r := by rw [if_neg (show ¬ (false = true) by decide)] at H; exact H
                                clear H
                                have H := H1
                                clear H1
                                have H' := Aside0.mk H
                                clear H
                                have hnb59 := NB897_910.out
                                have hnc59 := NB910_897.out
                                have hcz60_0 : w29.cell? ⟨gb897, 0, none⟩ = some (.int .i64 a0_0) := (blk_cell BK897.out 0).trans rfl
                                have hcz60_1 : w29.cell? ⟨gb897, 1, none⟩ = some (.int .i64 a0_1) := (blk_cell BK897.out 1).trans rfl
                                have hcz60_2 : w29.cell? ⟨gb897, 2, none⟩ = some (.bool false) := (blk_cell BK897.out 2).trans rfl
                                have hfz60_0 := blk_frozen BK897.out 0
                                have hfz60_1 := blk_frozen BK897.out 1
                                have hfz60_2 := blk_frozen BK897.out 2
                                go_wp2
                                go_meet
                                case rel => exact ⟨_, (x911000_1), (x911001_1), (x911002_1), (x911003_1), (.slice Ao27 x911000_1.length co27), (.slice Ao28 x911001_1.length co28), H', ⟨by have := HK1.out; have := HJ17.out; first | omega | exact Nat.le_refl _⟩, ⟨by (with_reducible repeat (first | apply Kd.S_alloc | apply Kd.S_drewN | apply Kd.S_drew)); exact HO_911000.out⟩, ⟨by (with_reducible repeat (first | apply Kd.R_alloc | apply Kd.R_drewN | apply Kd.R_drew)); exact HO_911001.out⟩, ⟨by (with_reducible repeat (first | refine blk_drewN ?_ _ | refine blk_drew ?_ | refine blk_alloc ?_ _)); exact BK897.out⟩, ⟨by (with_reducible repeat (first | refine blk_drewN ?_ _ | refine blk_drew ?_ | refine blk_alloc ?_ _)); exact BK910.out⟩, ⟨by repeat (first | (with_reducible first | exact HB.out | apply below_alloc | apply pw_below_drewN | apply below_drew1 | refine below_set ?_ GE897.out | refine below_set ?_ GE910.out) | exact HB.out)⟩⟩
                            · rw [if_neg c55] at H
                              have c55b0 : (t914 == 3) = false := beq_eq_false_iff_ne.mpr c55
                              have c55b1 : (t914 != 3) = true := bne_iff_ne.mpr c55
                              obtain rfl := Option.some.inj H
                              go_wp2
                              go_ret
                              exact ⟨by first | rfl | (simp [errW_none, errW_some] <;> rfl) | (simp [*, errW_none, errW_some] <;> rfl), by repeat (first | (with_reducible first | exact HB.out | apply below_alloc | apply pw_below_drewN | apply below_drew1 | refine below_set ?_ GE897.out | refine below_set ?_ GE910.out) | exact HB.out)⟩
                      case rest =>
                        clear HC25
                        try clear p2
                        try clear c3
                        try clear c4
                        try clear c5
                        try clear c7
                        try clear c9
                        try clear p9
                        try clear q9
                        try clear hx9
                        try clear c30
                        try clear c30b0
                        try clear c30b1
                        try clear c32
                        try clear c32b0
                        try clear c32b1
                        try clear c49
                        try clear c49b0
                        try clear c49b1
                        try clear c50
                        try clear c51
                        try clear c53
                        try clear c55
                        try clear c55b0
                        try clear c55b1
                        try clear c56
                        try clear c57
                        try clear c59
                        try clear hcz52_0
                        try clear hcz52_1
                        try clear hcz52_2
                        try clear hcz54_0
                        try clear hcz54_1
                        try clear hcz54_2
                        try clear hcz58_0
                        try clear hcz58_1
                        try clear hcz58_2
                        try clear hcz60_0
                        try clear hcz60_1
                        try clear hcz60_2
                        try clear hfz52_0
                        try clear hfz52_1
                        try clear hfz52_2
                        try clear hfz54_0
                        try clear hfz54_1
                        try clear hfz54_2
                        try clear hfz58_0
                        try clear hfz58_1
                        try clear hfz58_2
                        try clear hfz60_0
                        try clear hfz60_1
                        try clear hfz60_2
                        try clear hx913_0
                        try clear hx915_0
                        try clear p913
                        try clear p915
                        try clear q913
                        try clear q915
                        obtain ⟨kq, x911000_24, x911001_24, x911002_24, x911003_24, u911000, u911001, HA, HJ24, HO_911000, HO_911001, BK897, BK910, HB⟩ := hcut
                        cases kq with
                        | zero => exact absurd HA.out (by simp [counterfoillaw13_LagBounds.j2])
                        | succ kj24 =>
                          have H := HA.out
                          clear HA
                          simp only [counterfoillaw13_LagBounds.j2] at H
                          have HC61 := Aside0.mk H
                          clear H
                          go_upto_region 22 with (fail)
                          go_cut [91] (fun v91 wc => ∃ (kq : Nat) (x91_60 : Bool), v91 = .bool x91_60 ∧ Aside0 (counterfoillaw13_LagBounds.j3 kq l1 l2 l3 x11_1 x91_60 a0_0 a0_1 a0_2 x911000_24 x911001_24 x911002_24 x911003_24 = some r) ∧ Aside0 (kq ≤ kj24) ∧ Aside0 (Kd.S k99 99 wc w.heap.size (fun k_ => some k_ ≠ (u911001 : Value).ownBlock) u911000 x911000_24) ∧ Aside0 (Kd.R k74 74 wc w.heap.size (fun _ => True) u911001 x911001_24) ∧ Aside0 (wc.heap[gb897]? = some (.cells #[.int .i64 a0_0, .int .i64 a0_1, .bool a0_2] 23 (0, 0))) ∧ Aside0 (wc.heap[gb910]? = some (.cells #[u911000, u911001, .int .i64 x911002_24, .int .i64 x911003_24] 27 (0, 0))) ∧ Aside0 (Below w.heap.size w wc))
                          case first =>
                            have H := HC61.out
                            clear HC61
                            by_cases c62 : x11_1 < (l2.length : Int)
                            · rw [if_pos c62] at H
                              have c62b0 : decide (x11_1 < (l2.length : Int)) = true := decide_eq_true c62
                              clear c62
                              (first | rw [c62b0] | (simp only [i64_w, i32_w]; rw [c62b0]) | skip)
                              by_cases c63 : 0 ≤ x11_1
                              · rw [if_pos c63] at H
                                have c63b0 : decide (0 ≤ x11_1) = true := decide_eq_true c63
                                clear c63
                                obtain ⟨bq64, hbq64⟩ : ∃ b_ : Bool, b_ = (rdOf false l2 x11_1) := ⟨_, rfl⟩
                                replace H : (if bq64 = true then (counterfoillaw13_LagBounds.j3 kj24 l1 l2 l3 x11_1 (decide (x911003_24 > x911002_24)) a0_0 a0_1 a0_2 x911000_24 x911001_24 x911002_24 x911003_24) else (counterfoillaw13_LagBounds.j3 kj24 l1 l2 l3 x11_1 false a0_0 a0_1 a0_2 x911000_24 x911001_24 x911002_24 x911003_24)) = some r := by rw [← hbq64] at H; exact H
                                have Nbq64 := Aside0.mk hbq64
                                clear hbq64
                                by_cases c65 : bq64 = true
                                · subst c65
                                  have H1 : (counterfoillaw13_LagBounds.j3 kj24 l1 l2 l3 x11_1 (decide (x911003_24 > x911002_24)) a0_0 a0_1 a0_2 x911000_24 x911001_24 x911002_24 x911003_24) = some r := by rw [if_pos rfl] at H; exact H
                                  clear H
                                  have H := H1
                                  clear H1
                                  have H' := Aside0.mk H
                                  clear H
                                  have p925 : 0 ≤ (x11_1 : Int) := of_decide_eq_true (by first | (with_reducible assumption) | assumption)
                                  have q925 : x11_1 < (l2.length : Int) := of_decide_eq_true (by first | (with_reducible assumption) | assumption)
                                  obtain ⟨ad925, e925, hx925_0⟩ := Kd.at_bool HR2.out x11_1 p925 q925
                                  (try rw [← Nbq64.out] at hx925_0)
                                  cases e925
                                  replace hx925_0 := (HB.out.cell (World.block_lt_of_cell? w _ hx925_0)).trans hx925_0
                                  replace p925 := eq_true p925
                                  replace q925 := eq_true q925
                                  have hnb66 := NB910_897.out
                                  have hnc66 := NB897_910.out
                                  have hcz67_0 : wc.cell? ⟨gb910, 0, none⟩ = some (u911000) := (blk_cell BK910.out 0).trans rfl
                                  have hcz67_1 : wc.cell? ⟨gb910, 1, none⟩ = some (u911001) := (blk_cell BK910.out 1).trans rfl
                                  have hcz67_2 : wc.cell? ⟨gb910, 2, none⟩ = some (.int .i64 x911002_24) := (blk_cell BK910.out 2).trans rfl
                                  have hcz67_3 : wc.cell? ⟨gb910, 3, none⟩ = some (.int .i64 x911003_24) := (blk_cell BK910.out 3).trans rfl
                                  have hfz67_0 := blk_frozen BK910.out 0
                                  have hfz67_1 := blk_frozen BK910.out 1
                                  have hfz67_2 := blk_frozen BK910.out 2
                                  have hfz67_3 := blk_frozen BK910.out 3
                                  go_wp2
                                  go_meet
                                  case rel => exact ⟨_, (decide (x911003_24 > x911002_24)), (by first | rfl | (simp; done) | (simp [*]; done)), H', ⟨by have := HK1.out; have := HJ17.out; have := HJ24.out; first | omega | exact Nat.le_refl _⟩, ⟨by (with_reducible repeat (first | apply Kd.S_alloc | apply Kd.S_drewN | apply Kd.S_drew)); exact HO_911000.out⟩, ⟨by (with_reducible repeat (first | apply Kd.R_alloc | apply Kd.R_drewN | apply Kd.R_drew)); exact HO_911001.out⟩, ⟨by (with_reducible repeat (first | refine blk_drewN ?_ _ | refine blk_drew ?_ | refine blk_alloc ?_ _)); exact BK897.out⟩, ⟨by (with_reducible repeat (first | refine blk_drewN ?_ _ | refine blk_drew ?_ | refine blk_alloc ?_ _)); exact BK910.out⟩, ⟨by repeat (first | (with_reducible first | exact HB.out | apply below_alloc | apply pw_below_drewN | apply below_drew1 | refine below_set ?_ GE897.out | refine below_set ?_ GE910.out) | exact HB.out)⟩⟩
                                · replace c65 := Bool.eq_false_iff.mpr c65
                                  subst c65
                                  have H1 : (counterfoillaw13_LagBounds.j3 kj24 l1 l2 l3 x11_1 false a0_0 a0_1 a0_2 x911000_24 x911001_24 x911002_24 x911003_24) = some r := by rw [if_neg (show ¬ (false = true) by decide)] at H; exact H
                                  clear H
                                  have H := H1
                                  clear H1
                                  have H' := Aside0.mk H
                                  clear H
                                  have p925 : 0 ≤ (x11_1 : Int) := of_decide_eq_true (by first | (with_reducible assumption) | assumption)
                                  have q925 : x11_1 < (l2.length : Int) := of_decide_eq_true (by first | (with_reducible assumption) | assumption)
                                  obtain ⟨ad925, e925, hx925_0⟩ := Kd.at_bool HR2.out x11_1 p925 q925
                                  (try rw [← Nbq64.out] at hx925_0)
                                  cases e925
                                  replace hx925_0 := (HB.out.cell (World.block_lt_of_cell? w _ hx925_0)).trans hx925_0
                                  replace p925 := eq_true p925
                                  replace q925 := eq_true q925
                                  go_wp2
                                  go_meet
                                  case rel => exact ⟨_, (false), (by first | rfl | (simp; done) | (simp [*]; done)), H', ⟨by have := HK1.out; have := HJ17.out; have := HJ24.out; first | omega | exact Nat.le_refl _⟩, ⟨by (with_reducible repeat (first | apply Kd.S_alloc | apply Kd.S_drewN | apply Kd.S_drew)); exact HO_911000.out⟩, ⟨by (with_reducible repeat (first | apply Kd.R_alloc | apply Kd.R_drewN | apply Kd.R_drew)); exact HO_911001.out⟩, ⟨by (with_reducible repeat (first | refine blk_drewN ?_ _ | refine blk_drew ?_ | refine blk_alloc ?_ _)); exact BK897.out⟩, ⟨by (with_reducible repeat (first | refine blk_drewN ?_ _ | refine blk_drew ?_ | refine blk_alloc ?_ _)); exact BK910.out⟩, ⟨by repeat (first | (with_reducible first | exact HB.out | apply below_alloc | apply pw_below_drewN | apply below_drew1 | refine below_set ?_ GE897.out | refine below_set ?_ GE910.out) | exact HB.out)⟩⟩
                              · rw [if_neg c63] at H
                                exact absurd H (by simp)
                            · rw [if_neg c62] at H
                              have c62b0 : decide (x11_1 < (l2.length : Int)) = false := decide_eq_false c62
                              clear c62
                              (first | rw [c62b0] | (simp only [i64_w, i32_w]; rw [c62b0]) | skip)
                              have H' := Aside0.mk H
                              clear H
                              go_wp2
                              go_meet
                              case rel => exact ⟨_, (false), (by first | rfl | (simp; done) | (simp [*]; done)), H', ⟨by have := HK1.out; have := HJ17.out; have := HJ24.out; first | omega | exact Nat.le_refl _⟩, ⟨by (with_reducible repeat (first | apply Kd.S_alloc | apply Kd.S_drewN | apply Kd.S_drew)); exact HO_911000.out⟩, ⟨by (with_reducible repeat (first | apply Kd.R_alloc | apply Kd.R_drewN | apply Kd.R_drew)); exact HO_911001.out⟩, ⟨by (with_reducible repeat (first | refine blk_drewN ?_ _ | refine blk_drew ?_ | refine blk_alloc ?_ _)); exact BK897.out⟩, ⟨by (with_reducible repeat (first | refine blk_drewN ?_ _ | refine blk_drew ?_ | refine blk_alloc ?_ _)); exact BK910.out⟩, ⟨by repeat (first | (with_reducible first | exact HB.out | apply below_alloc | apply pw_below_drewN | apply below_drew1 | refine below_set ?_ GE897.out | refine below_set ?_ GE910.out) | exact HB.out)⟩⟩
                          case rest =>
                            clear HC61
                            try clear p2
                            try clear c3
                            try clear c4
                            try clear c5
                            try clear c6
                            try clear q6
                            try clear c7
                            try clear c9
                            try clear p9
                            try clear q9
                            try clear hx9
                            try clear c30
                            try clear c30b0
                            try clear c30b1
                            try clear c32
                            try clear c32b0
                            try clear c32b1
                            try clear c49
                            try clear c49b0
                            try clear c49b1
                            try clear c50
                            try clear c51
                            try clear c53
                            try clear c55
                            try clear c55b0
                            try clear c55b1
                            try clear c56
                            try clear c57
                            try clear c59
                            try clear c62
                            try clear c62b0
                            try clear c63
                            try clear c63b0
                            try clear q64
                            try clear c65
                            try clear c66
                            try clear hcz52_0
                            try clear hcz52_1
                            try clear hcz52_2
                            try clear hcz54_0
                            try clear hcz54_1
                            try clear hcz54_2
                            try clear hcz58_0
                            try clear hcz58_1
                            try clear hcz58_2
                            try clear hcz60_0
                            try clear hcz60_1
                            try clear hcz60_2
                            try clear hcz67_0
                            try clear hcz67_1
                            try clear hcz67_2
                            try clear hcz67_3
                            try clear hfz52_0
                            try clear hfz52_1
                            try clear hfz52_2
                            try clear hfz54_0
                            try clear hfz54_1
                            try clear hfz54_2
                            try clear hfz58_0
                            try clear hfz58_1
                            try clear hfz58_2
                            try clear hfz60_0
                            try clear hfz60_1
                            try clear hfz60_2
                            try clear hfz67_0
                            try clear hfz67_1
                            try clear hfz67_2
                            try clear hfz67_3
                            try clear hx913_0
                            try clear hx915_0
                            try clear hx925_0
                            try clear p2
                            try clear p9
                            try clear p913
                            try clear p915
                            try clear p925
                            try clear q9
                            try clear q913
                            try clear q915
                            try clear q925
                            obtain ⟨kq, x91_60, rfl, HA, HJ60, HO_911000, HO_911001, BK897, BK910, HB⟩ := hcut
                            cases kq with
                            | zero => exact absurd HA.out (by simp [counterfoillaw13_LagBounds.j3])
                            | succ kj60 =>
                              have H := HA.out
                              clear HA
                              simp only [counterfoillaw13_LagBounds.j3] at H
                              have HC68 := Aside0.mk H
                              clear H
                              go_upto_if 91 with (fail)
                              go_cut [] (fun wc => ∃ (kq : Nat) (x911000_67 : List (S99)) (x911001_67 : List (S74)) (x911002_67 : Int) (x911003_67 : Int) (u911000 : Value) (u911001 : Value), Aside0 (counterfoillaw13_LagBounds.j4 kq l1 l2 l3 x11_1 a0_0 a0_1 a0_2 x911000_67 x911001_67 x911002_67 x911003_67 = some r) ∧ Aside0 (kq ≤ kj60) ∧ Aside0 (Kd.S k99 99 wc w.heap.size (fun k_ => some k_ ≠ (u911001 : Value).ownBlock) u911000 x911000_67) ∧ Aside0 (Kd.R k74 74 wc w.heap.size (fun _ => True) u911001 x911001_67) ∧ Aside0 (wc.heap[gb897]? = some (.cells #[.int .i64 a0_0, .int .i64 a0_1, .bool a0_2] 23 (0, 0))) ∧ Aside0 (wc.heap[gb910]? = some (.cells #[u911000, u911001, .int .i64 x911002_67, .int .i64 x911003_67] 27 (0, 0))) ∧ Aside0 (Below w.heap.size w wc))
                              case first =>
                                have H := HC68.out
                                clear HC68
                                by_cases c69 : x91_60 = true
                                · subst c69
                                  have H1 : ((queue_Cut.f kj60 x911000_24 x911001_24 x911002_24 x911003_24).bind fun bt926 => (counterfoillaw13_LagBounds.j4 kj60 l1 l2 l3 x11_1 a0_0 a0_1 a0_2 bt926.1 bt926.2.1 bt926.2.2.1 bt926.2.2.2.1)) = some r := by rw [if_pos rfl] at H; exact H
                                  clear H
                                  have H := H1
                                  clear H1
                                  replace H := Option.bind_eq_some_iff.mp H
                                  obtain ⟨⟨t926, t929, t932, t933, t934⟩, A700, H⟩ := H
                                  replace H : (counterfoillaw13_LagBounds.j4 kj60 l1 l2 l3 x11_1 a0_0 a0_1 a0_2 t926 t929 t932 t933) = some r := H
                                  have A70 := Aside0.mk A700
                                  clear A700
                                  have H' := Aside0.mk H
                                  clear H
                                  have hnb71 := NB910_897.out
                                  have hnc71 := NB897_910.out
                                  have hcz72_0 : wc.cell? ⟨gb910, 0, none⟩ = some (u911000) := (blk_cell BK910.out 0).trans rfl
                                  have hcz72_1 : wc.cell? ⟨gb910, 1, none⟩ = some (u911001) := (blk_cell BK910.out 1).trans rfl
                                  have hcz72_2 : wc.cell? ⟨gb910, 2, none⟩ = some (.int .i64 x911002_24) := (blk_cell BK910.out 2).trans rfl
                                  have hcz72_3 : wc.cell? ⟨gb910, 3, none⟩ = some (.int .i64 x911003_24) := (blk_cell BK910.out 3).trans rfl
                                  have hfz72_0 := blk_frozen BK910.out 0
                                  have hfz72_1 := blk_frozen BK910.out 1
                                  have hfz72_2 := blk_frozen BK910.out 2
                                  have hfz72_3 := blk_frozen BK910.out 3
                                  obtain ⟨Ao73, co73, eo73⟩ := Kd.S_slice HO_911000.out
                                  subst eo73
                                  obtain ⟨Ao74, co74, eo74⟩ := Kd.R_slice HO_911001.out
                                  subst eo74
                                  go_wp2_with (first | ((with_reducible refine gate_callee (f := 79) rfl ?_); refine goesL_ (some 94) rfl rfl Try.func79 (by kernel_rfl) rfl #[.agg #[.slice Ao73 x911000_24.length co73, .slice Ao74 x911001_24.length co74, .int .i64 x911002_24, .int .i64 x911003_24]] rfl (by (try simp only [List.map_toArray, List.map_cons, List.map_nil]); first | done | rfl | (simp only [List.length_drop, List.length_take]; rfl)) ?_; (with_reducible refine (queue_Cut.calls kj60 _ _ x911000_24 _ _ x911001_24 x911002_24 x911003_24 t926 t929 t932 t933 t934 _ ?side1 ?side2 ?side3 ?side4 A70.out).mono ?_); (case side1 => repeat (first | exact (Kd.S_reads' HO_911000.out).2.2 | (with_reducible refine Kd.C_alloc ?_ _) | (with_reducible refine Kd.C_drewN ?_ _) | (with_reducible refine Kd.C_drew ?_))); (case side2 => exact (Kd.S_reads' HO_911000.out).2.1); (case side3 => repeat (first | exact (Kd.R_reads' HO_911001.out).2.2 | (with_reducible refine Kd.C_alloc ?_ _) | (with_reducible refine Kd.C_drewN ?_ _) | (with_reducible refine Kd.C_drew ?_))); (case side4 => exact (Kd.R_reads' HO_911001.out).2.1); rintro e w75 ⟨v927, v930, rfl, ho0, ho1, hb⟩; refine ⟨_, rfl, ?_⟩; have n0_ := Aside0.mk (Kd.S_mono (Kd.S_told (Kd.S_told (Kd.S_old (by (with_reducible repeat (first | apply Kd.S_alloc | apply Kd.S_drewN | apply Kd.S_drew)); exact HO_911000.out) hb) (Kd.S_base ho0)) (Kd.R_base ho1)) (fun _ h_ => h_.1)); have n1_ := Aside0.mk (Kd.R_elder' (by (with_reducible repeat (first | apply Kd.R_alloc | apply Kd.R_drewN | apply Kd.R_drew)); exact HO_911001.out) (Kd.R_base ho1) hb); have n2_ := Aside0.mk (Kd.S_lower (Kd.S_new' (Kd.S_new' ho0 (Kd.S_lt (by (with_reducible repeat (first | apply Kd.S_alloc | apply Kd.S_drewN | apply Kd.S_drew)); exact HO_911000.out))) (Kd.R_lt (by (with_reducible repeat (first | apply Kd.R_alloc | apply Kd.R_drewN | apply Kd.R_drew)); exact HO_911001.out))) (below_size (by repeat (first | (with_reducible first | exact HB.out | apply below_alloc | apply pw_below_drewN | apply below_drew1 | refine below_set ?_ GE897.out | refine below_set ?_ GE910.out) | exact HB.out)))); have n3_ := Aside0.mk (Kd.R_lower (Kd.R_new' ho1 (Kd.R_lt (by (with_reducible repeat (first | apply Kd.R_alloc | apply Kd.R_drewN | apply Kd.R_drew)); exact HO_911001.out))) (below_size (by repeat (first | (with_reducible first | exact HB.out | apply below_alloc | apply pw_below_drewN | apply below_drew1 | refine below_set ?_ GE897.out | refine below_set ?_ GE910.out) | exact HB.out)))); have n4_ := Aside0.mk (blk_below (g := gb897) (o := .cells #[.int .i64 a0_0, .int .i64 a0_1, .bool a0_2] 23 (0, 0)) (by (with_reducible repeat (first | refine blk_drewN ?_ _ | refine blk_drew ?_ | refine blk_alloc ?_ _)); exact BK897.out) hb); have n5_ := Aside0.mk (blk_below (g := gb910) (o := .cells #[.slice Ao73 x911000_24.length co73, .slice Ao74 x911001_24.length co74, .int .i64 x911002_24, .int .i64 x911003_24] 27 (0, 0)) (by (with_reducible repeat (first | refine blk_drewN ?_ _ | refine blk_drew ?_ | refine blk_alloc ?_ _)); exact BK910.out) hb); have n6_ := Aside0.mk (below_step (by repeat (first | (with_reducible first | exact HB.out | apply below_alloc | apply pw_below_drewN | apply below_drew1 | refine below_set ?_ GE897.out | refine below_set ?_ GE910.out) | exact HB.out)) hb); clear HO_911000; clear HO_911001; clear BK897; clear BK910; clear HB; have HO_911000 := n0_; have HO_911001 := n1_; have HO928 := n2_; have HO931 := n3_; have BK897 := n4_; have BK910 := n5_; have HB := n6_; clear n0_ n1_ n2_ n3_ n4_ n5_ n6_; (try clear hb); (try clear hb2); (try clear hk); (try clear hi); (try clear ho0); (try clear ho1); obtain ⟨Ao76, co76, eo76⟩ := Kd.S_slice HO928.out; subst eo76; have hcz77_0 : w75.cell? ⟨gb910, 0, none⟩ = some (.slice Ao73 x911000_24.length co73) := (blk_cell BK910.out 0).trans rfl; have hcz77_1 : w75.cell? ⟨gb910, 1, none⟩ = some (.slice Ao74 x911001_24.length co74) := (blk_cell BK910.out 1).trans rfl; have hcz77_2 : w75.cell? ⟨gb910, 2, none⟩ = some (.int .i64 x911002_24) := (blk_cell BK910.out 2).trans rfl; have hcz77_3 : w75.cell? ⟨gb910, 3, none⟩ = some (.int .i64 x911003_24) := (blk_cell BK910.out 3).trans rfl; have hfz77_0 := blk_frozen BK910.out 0; have hfz77_1 := blk_frozen BK910.out 1; have hfz77_2 := blk_frozen BK910.out 2; have hfz77_3 := blk_frozen BK910.out 3; obtain ⟨Ao78, co78, eo78⟩ := Kd.R_slice HO931.out; subst eo78))
                                  go_meet
                                  case rel => exact ⟨_, (t926), (t929), (t932), (t933), (.slice Ao76 t926.length co76), (.slice Ao78 t929.length co78), H', ⟨by have := HK1.out; have := HJ17.out; have := HJ24.out; have := HJ60.out; first | omega | exact Nat.le_refl _⟩, ⟨by (with_reducible repeat (first | apply Kd.S_alloc | apply Kd.S_drewN | apply Kd.S_drew)); exact Kd.S_mono (Kd.S_far (p := ⟨gb910, 3, none⟩) (Kd.S_far (p := ⟨gb910, 2, none⟩) (Kd.S_far (p := ⟨gb910, 1, none⟩) (Kd.S_far (p := ⟨gb910, 0, none⟩) (Kd.S_types HO928.out BK910.out (by decide)) (fun _ hk => hk.2) (.slice Ao76 t926.length co76)) (fun _ hk => hk.2) (.slice Ao78 t929.length co78)) (fun _ hk => hk.2) (.int .i64 t932)) (fun _ hk => hk.2) (.int .i64 t933)) (fun _ hk => hk.1.1.1)⟩, ⟨by (with_reducible repeat (first | apply Kd.R_alloc | apply Kd.R_drewN | apply Kd.R_drew)); exact Kd.R_mono (Kd.R_far (p := ⟨gb910, 3, none⟩) (Kd.R_far (p := ⟨gb910, 2, none⟩) (Kd.R_far (p := ⟨gb910, 1, none⟩) (Kd.R_far (p := ⟨gb910, 0, none⟩) (Kd.R_types HO931.out BK910.out (by decide)) (fun _ hk => hk.2) (.slice Ao76 t926.length co76)) (fun _ hk => hk.2) (.slice Ao78 t929.length co78)) (fun _ hk => hk.2) (.int .i64 t932)) (fun _ hk => hk.2) (.int .i64 t933)) (fun _ hk => trivial)⟩, ⟨by (with_reducible repeat (first | refine blk_drewN ?_ _ | refine blk_drew ?_ | refine blk_alloc ?_ _)); refine blk_far ?_ NB897_910.out _; (with_reducible repeat (first | refine blk_drewN ?_ _ | refine blk_drew ?_ | refine blk_alloc ?_ _)); refine blk_far ?_ NB897_910.out _; (with_reducible repeat (first | refine blk_drewN ?_ _ | refine blk_drew ?_ | refine blk_alloc ?_ _)); refine blk_far ?_ NB897_910.out _; (with_reducible repeat (first | refine blk_drewN ?_ _ | refine blk_drew ?_ | refine blk_alloc ?_ _)); refine blk_far ?_ NB897_910.out _; (with_reducible repeat (first | refine blk_drewN ?_ _ | refine blk_drew ?_ | refine blk_alloc ?_ _)); exact BK897.out⟩, ⟨by (with_reducible repeat (first | refine blk_drewN ?_ _ | refine blk_drew ?_ | refine blk_alloc ?_ _)); refine blk_put (cs := #[.slice Ao76 t926.length co76, .slice Ao78 t929.length co78, .int .i64 t932, .int .i64 x911003_24]) ?_ 3 _ rfl; (with_reducible repeat (first | refine blk_drewN ?_ _ | refine blk_drew ?_ | refine blk_alloc ?_ _)); refine blk_put (cs := #[.slice Ao76 t926.length co76, .slice Ao78 t929.length co78, .int .i64 x911002_24, .int .i64 x911003_24]) ?_ 2 _ rfl; (with_reducible repeat (first | refine blk_drewN ?_ _ | refine blk_drew ?_ | refine blk_alloc ?_ _)); refine blk_put (cs := #[.slice Ao76 t926.length co76, .slice Ao74 x911001_24.length co74, .int .i64 x911002_24, .int .i64 x911003_24]) ?_ 1 _ rfl; (with_reducible repeat (first | refine blk_drewN ?_ _ | refine blk_drew ?_ | refine blk_alloc ?_ _)); refine blk_put (cs := #[.slice Ao73 x911000_24.length co73, .slice Ao74 x911001_24.length co74, .int .i64 x911002_24, .int .i64 x911003_24]) ?_ 0 _ rfl; (with_reducible repeat (first | refine blk_drewN ?_ _ | refine blk_drew ?_ | refine blk_alloc ?_ _)); exact BK910.out⟩, ⟨by repeat (first | (with_reducible first | exact HB.out | apply below_alloc | apply pw_below_drewN | apply below_drew1 | refine below_set ?_ GE897.out | refine below_set ?_ GE910.out) | exact HB.out)⟩⟩
                                · replace c69 := Bool.eq_false_iff.mpr c69
                                  subst c69
                                  have H1 : (counterfoillaw13_LagBounds.j4 kj60 l1 l2 l3 x11_1 a0_0 a0_1 a0_2 x911000_24 x911001_24 x911002_24 x911003_24) = some r := by rw [if_neg (show ¬ (false = true) by decide)] at H; exact H
                                  clear H
                                  have H := H1
                                  clear H1
                                  have H' := Aside0.mk H
                                  clear H
                                  go_wp2
                                  go_meet
                                  case rel => exact ⟨_, (x911000_24), (x911001_24), (x911002_24), (x911003_24), (u911000), (u911001), H', ⟨by have := HK1.out; have := HJ17.out; have := HJ24.out; have := HJ60.out; first | omega | exact Nat.le_refl _⟩, ⟨by (with_reducible repeat (first | apply Kd.S_alloc | apply Kd.S_drewN | apply Kd.S_drew)); exact HO_911000.out⟩, ⟨by (with_reducible repeat (first | apply Kd.R_alloc | apply Kd.R_drewN | apply Kd.R_drew)); exact HO_911001.out⟩, ⟨by (with_reducible repeat (first | refine blk_drewN ?_ _ | refine blk_drew ?_ | refine blk_alloc ?_ _)); exact BK897.out⟩, ⟨by (with_reducible repeat (first | refine blk_drewN ?_ _ | refine blk_drew ?_ | refine blk_alloc ?_ _)); exact BK910.out⟩, ⟨by repeat (first | (with_reducible first | exact HB.out | apply below_alloc | apply pw_below_drewN | apply below_drew1 | refine below_set ?_ GE897.out | refine below_set ?_ GE910.out) | exact HB.out)⟩⟩
                              case rest =>
                                clear HC68
                                try clear p2
                                try clear c3
                                try clear c4
                                try clear c5
                                try clear c6
                                try clear q6
                                try clear c7
                                try clear c9
                                try clear p9
                                try clear q9
                                try clear hx9
                                try clear c30
                                try clear c30b0
                                try clear c30b1
                                try clear c32
                                try clear c32b0
                                try clear c32b1
                                try clear c49
                                try clear c49b0
                                try clear c49b1
                                try clear c50
                                try clear c51
                                try clear c53
                                try clear c55
                                try clear c55b0
                                try clear c55b1
                                try clear c56
                                try clear c57
                                try clear c59
                                try clear c62
                                try clear c62b0
                                try clear c63
                                try clear c63b0
                                try clear q64
                                try clear c65
                                try clear c66
                                try clear c69
                                try clear c71
                                try clear c78
                                try clear hcz52_0
                                try clear hcz52_1
                                try clear hcz52_2
                                try clear hcz54_0
                                try clear hcz54_1
                                try clear hcz54_2
                                try clear hcz58_0
                                try clear hcz58_1
                                try clear hcz58_2
                                try clear hcz60_0
                                try clear hcz60_1
                                try clear hcz60_2
                                try clear hcz67_0
                                try clear hcz67_1
                                try clear hcz67_2
                                try clear hcz67_3
                                try clear hcz72_0
                                try clear hcz72_1
                                try clear hcz72_2
                                try clear hcz72_3
                                try clear hcz77_0
                                try clear hcz77_1
                                try clear hcz77_2
                                try clear hcz77_3
                                try clear hfz52_0
                                try clear hfz52_1
                                try clear hfz52_2
                                try clear hfz54_0
                                try clear hfz54_1
                                try clear hfz54_2
                                try clear hfz58_0
                                try clear hfz58_1
                                try clear hfz58_2
                                try clear hfz60_0
                                try clear hfz60_1
                                try clear hfz60_2
                                try clear hfz67_0
                                try clear hfz67_1
                                try clear hfz67_2
                                try clear hfz67_3
                                try clear hfz72_0
                                try clear hfz72_1
                                try clear hfz72_2
                                try clear hfz72_3
                                try clear hfz77_0
                                try clear hfz77_1
                                try clear hfz77_2
                                try clear hfz77_3
                                try clear hx913_0
                                try clear hx915_0
                                try clear hx925_0
                                try clear p2
                                try clear p9
                                try clear p913
                                try clear p915
                                try clear p925
                                try clear q6
                                try clear q64
                                try clear q9
                                try clear q913
                                try clear q915
                                try clear q925
                                obtain ⟨kq, x911000_67, x911001_67, x911002_67, x911003_67, u911000, u911001, HA, HJ67, HO_911000, HO_911001, BK897, BK910, HB⟩ := hcut
                                cases kq with
                                | zero => exact absurd HA.out (by simp [counterfoillaw13_LagBounds.j4])
                                | succ kj67 =>
                                  have H := HA.out
                                  clear HA
                                  simp only [counterfoillaw13_LagBounds.j4] at H
                                  have HC79 := Aside0.mk H
                                  clear H
                                  go_upto_region 24 with (fail)
                                  go_cut [112] (fun v112 wc => ∃ (kq : Nat) (x112_78 : Bool), v112 = .bool x112_78 ∧ Aside0 (counterfoillaw13_LagBounds.j5 kq l1 l2 l3 x11_1 x112_78 a0_0 a0_1 a0_2 x911000_67 x911001_67 x911002_67 x911003_67 = some r) ∧ Aside0 (kq ≤ kj67) ∧ Aside0 (Kd.S k99 99 wc w.heap.size (fun k_ => some k_ ≠ (u911001 : Value).ownBlock) u911000 x911000_67) ∧ Aside0 (Kd.R k74 74 wc w.heap.size (fun _ => True) u911001 x911001_67) ∧ Aside0 (wc.heap[gb897]? = some (.cells #[.int .i64 a0_0, .int .i64 a0_1, .bool a0_2] 23 (0, 0))) ∧ Aside0 (wc.heap[gb910]? = some (.cells #[u911000, u911001, .int .i64 x911002_67, .int .i64 x911003_67] 27 (0, 0))) ∧ Aside0 (Below w.heap.size w wc))
                                  case first =>
                                    have H := HC79.out
                                    clear HC79
                                    by_cases c80 : x11_1 < (l3.length : Int)
                                    · rw [if_pos c80] at H
                                      have c80b0 : decide (x11_1 < (l3.length : Int)) = true := decide_eq_true c80
                                      clear c80
                                      (first | rw [c80b0] | (simp only [i64_w, i32_w]; rw [c80b0]) | skip)
                                      by_cases c81 : 0 ≤ x11_1
                                      · rw [if_pos c81] at H
                                        have c81b0 : decide (0 ≤ x11_1) = true := decide_eq_true c81
                                        clear c81
                                        obtain ⟨bq82, hbq82⟩ : ∃ b_ : Bool, b_ = (rdOf false l3 x11_1) := ⟨_, rfl⟩
                                        replace H : (if bq82 = true then (counterfoillaw13_LagBounds.j5 kj67 l1 l2 l3 x11_1 (decide ((x911000_67.length : Int) > 0)) a0_0 a0_1 a0_2 x911000_67 x911001_67 x911002_67 x911003_67) else (counterfoillaw13_LagBounds.j5 kj67 l1 l2 l3 x11_1 false a0_0 a0_1 a0_2 x911000_67 x911001_67 x911002_67 x911003_67)) = some r := by rw [← hbq82] at H; exact H
                                        have Nbq82 := Aside0.mk hbq82
                                        clear hbq82
                                        by_cases c83 : bq82 = true
                                        · subst c83
                                          have H1 : (counterfoillaw13_LagBounds.j5 kj67 l1 l2 l3 x11_1 (decide ((x911000_67.length : Int) > 0)) a0_0 a0_1 a0_2 x911000_67 x911001_67 x911002_67 x911003_67) = some r := by rw [if_pos rfl] at H; exact H
                                          clear H
                                          have H := H1
                                          clear H1
                                          have H' := Aside0.mk H
                                          clear H
                                          have p935 : 0 ≤ (x11_1 : Int) := of_decide_eq_true (by first | (with_reducible assumption) | assumption)
                                          have q935 : x11_1 < (l3.length : Int) := of_decide_eq_true (by first | (with_reducible assumption) | assumption)
                                          obtain ⟨ad935, e935, hx935_0⟩ := Kd.at_bool HR3.out x11_1 p935 q935
                                          (try rw [← Nbq82.out] at hx935_0)
                                          cases e935
                                          replace hx935_0 := (HB.out.cell (World.block_lt_of_cell? w _ hx935_0)).trans hx935_0
                                          replace p935 := eq_true p935
                                          replace q935 := eq_true q935
                                          have hnb84 := NB910_897.out
                                          have hnc84 := NB897_910.out
                                          have hcz85_0 : wc.cell? ⟨gb910, 0, none⟩ = some (u911000) := (blk_cell BK910.out 0).trans rfl
                                          have hcz85_1 : wc.cell? ⟨gb910, 1, none⟩ = some (u911001) := (blk_cell BK910.out 1).trans rfl
                                          have hcz85_2 : wc.cell? ⟨gb910, 2, none⟩ = some (.int .i64 x911002_67) := (blk_cell BK910.out 2).trans rfl
                                          have hcz85_3 : wc.cell? ⟨gb910, 3, none⟩ = some (.int .i64 x911003_67) := (blk_cell BK910.out 3).trans rfl
                                          have hfz85_0 := blk_frozen BK910.out 0
                                          have hfz85_1 := blk_frozen BK910.out 1
                                          have hfz85_2 := blk_frozen BK910.out 2
                                          have hfz85_3 := blk_frozen BK910.out 3
                                          obtain ⟨Ao86, co86, eo86⟩ := Kd.S_slice HO_911000.out
                                          subst eo86
                                          go_wp2
                                          go_meet
                                          case rel => exact ⟨_, (decide ((x911000_67.length : Int) > 0)), (by first | rfl | (simp; done) | (simp [*]; done)), H', ⟨by have := HK1.out; have := HJ17.out; have := HJ24.out; have := HJ60.out; have := HJ67.out; first | omega | exact Nat.le_refl _⟩, ⟨by (with_reducible repeat (first | apply Kd.S_alloc | apply Kd.S_drewN | apply Kd.S_drew)); exact HO_911000.out⟩, ⟨by (with_reducible repeat (first | apply Kd.R_alloc | apply Kd.R_drewN | apply Kd.R_drew)); exact HO_911001.out⟩, ⟨by (with_reducible repeat (first | refine blk_drewN ?_ _ | refine blk_drew ?_ | refine blk_alloc ?_ _)); exact BK897.out⟩, ⟨by (with_reducible repeat (first | refine blk_drewN ?_ _ | refine blk_drew ?_ | refine blk_alloc ?_ _)); exact BK910.out⟩, ⟨by repeat (first | (with_reducible first | exact HB.out | apply below_alloc | apply pw_below_drewN | apply below_drew1 | refine below_set ?_ GE897.out | refine below_set ?_ GE910.out) | exact HB.out)⟩⟩
                                        · replace c83 := Bool.eq_false_iff.mpr c83
                                          subst c83
                                          have H1 : (counterfoillaw13_LagBounds.j5 kj67 l1 l2 l3 x11_1 false a0_0 a0_1 a0_2 x911000_67 x911001_67 x911002_67 x911003_67) = some r := by rw [if_neg (show ¬ (false = true) by decide)] at H; exact H
                                          clear H
                                          have H := H1
                                          clear H1
                                          have H' := Aside0.mk H
                                          clear H
                                          have p935 : 0 ≤ (x11_1 : Int) := of_decide_eq_true (by first | (with_reducible assumption) | assumption)
                                          have q935 : x11_1 < (l3.length : Int) := of_decide_eq_true (by first | (with_reducible assumption) | assumption)
                                          obtain ⟨ad935, e935, hx935_0⟩ := Kd.at_bool HR3.out x11_1 p935 q935
                                          (try rw [← Nbq82.out] at hx935_0)
                                          cases e935
                                          replace hx935_0 := (HB.out.cell (World.block_lt_of_cell? w _ hx935_0)).trans hx935_0
                                          replace p935 := eq_true p935
                                          replace q935 := eq_true q935
                                          go_wp2
                                          go_meet
                                          case rel => exact ⟨_, (false), (by first | rfl | (simp; done) | (simp [*]; done)), H', ⟨by have := HK1.out; have := HJ17.out; have := HJ24.out; have := HJ60.out; have := HJ67.out; first | omega | exact Nat.le_refl _⟩, ⟨by (with_reducible repeat (first | apply Kd.S_alloc | apply Kd.S_drewN | apply Kd.S_drew)); exact HO_911000.out⟩, ⟨by (with_reducible repeat (first | apply Kd.R_alloc | apply Kd.R_drewN | apply Kd.R_drew)); exact HO_911001.out⟩, ⟨by (with_reducible repeat (first | refine blk_drewN ?_ _ | refine blk_drew ?_ | refine blk_alloc ?_ _)); exact BK897.out⟩, ⟨by (with_reducible repeat (first | refine blk_drewN ?_ _ | refine blk_drew ?_ | refine blk_alloc ?_ _)); exact BK910.out⟩, ⟨by repeat (first | (with_reducible first | exact HB.out | apply below_alloc | apply pw_below_drewN | apply below_drew1 | refine below_set ?_ GE897.out | refine below_set ?_ GE910.out) | exact HB.out)⟩⟩
                                      · rw [if_neg c81] at H
                                        exact absurd H (by simp)
                                    · rw [if_neg c80] at H
                                      have c80b0 : decide (x11_1 < (l3.length : Int)) = false := decide_eq_false c80
                                      clear c80
                                      (first | rw [c80b0] | (simp only [i64_w, i32_w]; rw [c80b0]) | skip)
                                      have H' := Aside0.mk H
                                      clear H
                                      go_wp2
                                      go_meet
                                      case rel => exact ⟨_, (false), (by first | rfl | (simp; done) | (simp [*]; done)), H', ⟨by have := HK1.out; have := HJ17.out; have := HJ24.out; have := HJ60.out; have := HJ67.out; first | omega | exact Nat.le_refl _⟩, ⟨by (with_reducible repeat (first | apply Kd.S_alloc | apply Kd.S_drewN | apply Kd.S_drew)); exact HO_911000.out⟩, ⟨by (with_reducible repeat (first | apply Kd.R_alloc | apply Kd.R_drewN | apply Kd.R_drew)); exact HO_911001.out⟩, ⟨by (with_reducible repeat (first | refine blk_drewN ?_ _ | refine blk_drew ?_ | refine blk_alloc ?_ _)); exact BK897.out⟩, ⟨by (with_reducible repeat (first | refine blk_drewN ?_ _ | refine blk_drew ?_ | refine blk_alloc ?_ _)); exact BK910.out⟩, ⟨by repeat (first | (with_reducible first | exact HB.out | apply below_alloc | apply pw_below_drewN | apply below_drew1 | refine below_set ?_ GE897.out | refine below_set ?_ GE910.out) | exact HB.out)⟩⟩
                                  case rest =>
                                    clear HC79
                                    try clear p2
                                    try clear c3
                                    try clear c4
                                    try clear c5
                                    try clear c6
                                    try clear q6
                                    try clear c7
                                    try clear c8
                                    try clear q8
                                    try clear c9
                                    try clear p9
                                    try clear q9
                                    try clear hx9
                                    try clear c30
                                    try clear c30b0
                                    try clear c30b1
                                    try clear c32
                                    try clear c32b0
                                    try clear c32b1
                                    try clear c49
                                    try clear c49b0
                                    try clear c49b1
                                    try clear c50
                                    try clear c51
                                    try clear c53
                                    try clear c55
                                    try clear c55b0
                                    try clear c55b1
                                    try clear c56
                                    try clear c57
                                    try clear c59
                                    try clear c62
                                    try clear c62b0
                                    try clear c63
                                    try clear c63b0
                                    try clear q64
                                    try clear c65
                                    try clear c66
                                    try clear c69
                                    try clear c71
                                    try clear c78
                                    try clear c79
                                    try clear c80
                                    try clear c80b0
                                    try clear c81
                                    try clear c81b0
                                    try clear q82
                                    try clear c83
                                    try clear c84
                                    try clear hcz52_0
                                    try clear hcz52_1
                                    try clear hcz52_2
                                    try clear hcz54_0
                                    try clear hcz54_1
                                    try clear hcz54_2
                                    try clear hcz58_0
                                    try clear hcz58_1
                                    try clear hcz58_2
                                    try clear hcz60_0
                                    try clear hcz60_1
                                    try clear hcz60_2
                                    try clear hcz67_0
                                    try clear hcz67_1
                                    try clear hcz67_2
                                    try clear hcz67_3
                                    try clear hcz72_0
                                    try clear hcz72_1
                                    try clear hcz72_2
                                    try clear hcz72_3
                                    try clear hcz77_0
                                    try clear hcz77_1
                                    try clear hcz77_2
                                    try clear hcz77_3
                                    try clear hcz85_0
                                    try clear hcz85_1
                                    try clear hcz85_2
                                    try clear hcz85_3
                                    try clear hfz52_0
                                    try clear hfz52_1
                                    try clear hfz52_2
                                    try clear hfz54_0
                                    try clear hfz54_1
                                    try clear hfz54_2
                                    try clear hfz58_0
                                    try clear hfz58_1
                                    try clear hfz58_2
                                    try clear hfz60_0
                                    try clear hfz60_1
                                    try clear hfz60_2
                                    try clear hfz67_0
                                    try clear hfz67_1
                                    try clear hfz67_2
                                    try clear hfz67_3
                                    try clear hfz72_0
                                    try clear hfz72_1
                                    try clear hfz72_2
                                    try clear hfz72_3
                                    try clear hfz77_0
                                    try clear hfz77_1
                                    try clear hfz77_2
                                    try clear hfz77_3
                                    try clear hfz85_0
                                    try clear hfz85_1
                                    try clear hfz85_2
                                    try clear hfz85_3
                                    try clear hx913_0
                                    try clear hx915_0
                                    try clear hx925_0
                                    try clear hx935_0
                                    try clear p2
                                    try clear p9
                                    try clear p913
                                    try clear p915
                                    try clear p925
                                    try clear p935
                                    try clear q6
                                    try clear q64
                                    try clear q9
                                    try clear q913
                                    try clear q915
                                    try clear q925
                                    try clear q935
                                    obtain ⟨kq, x112_78, rfl, HA, HJ78, HO_911000, HO_911001, BK897, BK910, HB⟩ := hcut
                                    cases kq with
                                    | zero => exact absurd HA.out (by simp [counterfoillaw13_LagBounds.j5])
                                    | succ kj78 =>
                                      have H := HA.out
                                      clear HA
                                      simp only [counterfoillaw13_LagBounds.j5] at H
                                      have HC87 := Aside0.mk H
                                      clear H
                                      go_upto_if 112 with (fail)
                                      go_cut [] (fun wc => ∃ (kq : Nat) (x911000_86 : List (S99)) (x911001_86 : List (S74)) (x911002_86 : Int) (x911003_86 : Int) (u911000 : Value) (u911001 : Value), Aside0 (counterfoillaw13_LagBounds.j6 kq l1 l2 l3 x11_1 a0_0 a0_1 a0_2 x911000_86 x911001_86 x911002_86 x911003_86 = some r) ∧ Aside0 (kq ≤ kj78) ∧ Aside0 (Kd.S k99 99 wc w.heap.size (fun k_ => some k_ ≠ (u911001 : Value).ownBlock) u911000 x911000_86) ∧ Aside0 (Kd.R k74 74 wc w.heap.size (fun _ => True) u911001 x911001_86) ∧ Aside0 (wc.heap[gb897]? = some (.cells #[.int .i64 a0_0, .int .i64 a0_1, .bool a0_2] 23 (0, 0))) ∧ Aside0 (wc.heap[gb910]? = some (.cells #[u911000, u911001, .int .i64 x911002_86, .int .i64 x911003_86] 27 (0, 0))) ∧ Aside0 (Below w.heap.size w wc))
                                      case first =>
                                        have H := HC87.out
                                        clear HC87
                                        by_cases c88 : x112_78 = true
                                        · subst c88
                                          have H1 : (if 0 < (x911000_67.length : Int) then ((queue_Done.f kj78 x911000_67 x911001_67 x911002_67 x911003_67 ((rd_T99 x911000_67 0).f1)).bind fun bt937 => (counterfoillaw13_LagBounds.j6 kj78 l1 l2 l3 x11_1 a0_0 a0_1 a0_2 bt937.1 bt937.2.1 bt937.2.2.1 bt937.2.2.2.1)) else (none)) = some r := by rw [if_pos rfl] at H; exact H
                                          clear H
                                          have H := H1
                                          clear H1
                                          by_cases c89 : 0 < (x911000_67.length : Int)
                                          · rw [if_pos c89] at H
                                            have c89b0 : decide (0 < (x911000_67.length : Int)) = true := decide_eq_true c89
                                            have c89b1 : decide (0 < x911000_67.length) = true := decide_eq_true (by omega)
                                            clear c89
                                            (first | rw [c89b0] | (simp only [i64_w, i32_w]; rw [c89b0]) | skip)
                                            replace H := Option.bind_eq_some_iff.mp H
                                            obtain ⟨⟨t937, t940, t943, t944, t945⟩, A900, H⟩ := H
                                            replace H : (counterfoillaw13_LagBounds.j6 kj78 l1 l2 l3 x11_1 a0_0 a0_1 a0_2 t937 t940 t943 t944) = some r := H
                                            have A90 := Aside0.mk A900
                                            clear A900
                                            have H' := Aside0.mk H
                                            clear H
                                            try go_wp2
                                            have n0_ := Aside0.mk (Kd.S_drew HO_911000.out)
                                            have n1_ := Aside0.mk (Kd.R_drew HO_911001.out)
                                            have n2_ := Aside0.mk (blk_drew BK897.out)
                                            have n3_ := Aside0.mk (blk_drew BK910.out)
                                            have n4_ := Aside0.mk (below_drew1 HB.out)
                                            clear HO_911000
                                            clear HO_911001
                                            clear BK897
                                            clear BK910
                                            clear HB
                                            have HO_911000 := n0_
                                            have HO_911001 := n1_
                                            have BK897 := n2_
                                            have BK910 := n3_
                                            have HB := n4_
                                            clear n0_ n1_ n2_ n3_ n4_
                                            obtain ⟨Ao92, co92, eo92⟩ := Kd.S_slice HO_911000.out
                                            (first | subst eo92 | (injection eo92 with f1_ f2_ f3_; have f4_ := f1_.symm; have f5_ := f3_.symm; clear f1_ f2_ f3_; subst f4_; subst f5_))
                                            have p936 : 0 ≤ (0 : Int) := (by omega)
                                            have q936 : 0 < (x911000_67.length : Int) := of_decide_eq_true (by first | (with_reducible assumption) | assumption)
                                            obtain ⟨ad936, A936_2, c936_2, e936, hx936_0, hx936_1, hx936_2, hl936_2, hi936_2⟩ := at_T99 (Kd.S_reads' HO_911000.out).2.2 0 p936 q936
                                            cases e936
                                            obtain ⟨ce936, hce936, hMe936, hcc936⟩ := Kd.S_get HO_911000.out z99 0 p936 (by first | exact q936 | exact of_decide_eq_true (by first | (with_reducible assumption) | assumption) | (have e_ := (Kd.S_reads' HO_911000.out).1; omega))
                                            obtain ⟨ve936_2, rfl, ge936_2⟩ := k99_openM hMe936
                                            have hv936_2 := hcc936 2 _ rfl
                                            rw [add_field _ _ 2 (by omega)] at hv936_2
                                            replace hv936_2 := Option.some.inj (hv936_2.symm.trans hx936_2)
                                            rw [hv936_2] at ge936_2
                                            have HL936_2 := Aside0.mk (show Kd.R k74 74 _ _ _ _ ((rd_T99 x911000_67 0).f2) from ge936_2)
                                            clear hv936_2 ge936_2
                                            clear hcc936 hce936
                                            have qi936 : (0 < x911000_67.length) = True := eq_true (by omega)
                                            (try rw [show ((0 : Int)).toNat = 0 from rfl] at hx936_0)
                                            (try rw [show 0 * 3 = 0 from rfl] at hx936_0)
                                            (try rw [Addr.add_zero'] at hx936_0)
                                            (try rw [show ((0 : Int)).toNat = 0 from rfl] at hx936_1)
                                            (try rw [show 0 * 3 = 0 from rfl] at hx936_1)
                                            (try rw [Addr.add_zero'] at hx936_1)
                                            (try rw [show ((0 : Int)).toNat = 0 from rfl] at hx936_2)
                                            (try rw [show 0 * 3 = 0 from rfl] at hx936_2)
                                            (try rw [Addr.add_zero'] at hx936_2)
                                            have HR936_2 := Aside0.mk hi936_2
                                            have HC936_2 := Aside0.mk hl936_2
                                            clear hi936_2 hl936_2
                                            replace p936 := eq_true p936
                                            replace q936 := eq_true q936
                                            obtain ⟨Ao93, co93, eo93⟩ := Kd.R_slice HO_911001.out
                                            (first | subst eo93 | (injection eo93 with f1_ f2_ f3_; have f4_ := f1_.symm; have f5_ := f3_.symm; clear f1_ f2_ f3_; subst f4_; subst f5_))
                                            refine start_ (n := 11) (S := fun w' => w'.cell? ⟨gb910, 0, none⟩ = some (.slice (some ad936) x911000_67.length co92) ∧ w'.cell? ⟨gb910, 1, none⟩ = some (.slice Ao93 x911001_67.length co93) ∧ w'.cell? ⟨gb910, 2, none⟩ = some (.int .i64 x911002_67) ∧ w'.cell? ⟨gb910, 3, none⟩ = some (.int .i64 x911003_67) ∧ w'.cell? ad936 = some (.int .i64 ((rd_T99 x911000_67 0).f0)) ∧ w'.cell? ⟨ad936.block, ad936.off + 1, none⟩ = some (.int .i64 ((rd_T99 x911000_67 0).f1)) ∧ w'.cell? ⟨ad936.block, ad936.off + 2, none⟩ = some (.slice A936_2 ((rd_T99 x911000_67 0).f2).length c936_2)) (ds := [10]) #[false, false, false, false, false, false, false, false, false, false, false] (by kernel_rfl) rfl rfl ⟨(blk_cell BK910.out 0).trans rfl, (blk_cell BK910.out 1).trans rfl, (blk_cell BK910.out 2).trans rfl, (blk_cell BK910.out 3).trans rfl, hx936_0, hx936_1, hx936_2⟩ (fun hHeld => ?_); refine with_tabW counterfoillaw13_LagBounds.tab25 counterfoillaw13_LagBounds.bits25 (fun HT_ HW_ => ?_)
                                            generalize wc.drew = w91 at HO_911000 HO_911001 BK897 BK910 HB HL936_2 HR936_2 hx936_0 hx936_1 hx936_2 hHeld ⊢
                                            refine pure_ (i := 1) (N := some 115) (v := ?_) (a' := ?_) #[false, true, false, false, false, false, false, false, false, false, false] rfl rfl (any_of HT_.out (by kernel_rfl)) (fun _ _ _ h => h) (Or.inl ⟨by rfl, ?_⟩) ?_ ?_
                                            rotate_left
                                            · intro w'
                                              go_simp
                                              with_reducible rfl
                                            rotate_left
                                            · simp only [Act.put, List.setIfInBounds_toArray, List.set_cons_zero, List.set_cons_succ, i64_w, i32_w]
                                              rfl
                                            refine take_ (i := 0) (N := some 114) (v := ?_) (a' := ?_) #[true, true, false, false, false, false, false, false, false, false, false] rfl rfl (take_ofW HT_.out HW_.out (by kernel_rfl)) (fun _ _ _ h => h) (Or.inl ⟨by rfl, ?_⟩) hHeld ?_ ?_
                                            rotate_left
                                            · rintro w' ⟨s0, s1, s2, s3, s4, s5, s6⟩
                                              go_simp
                                              with_reducible rfl
                                            rotate_left
                                            · simp only [Act.put, List.setIfInBounds_toArray, List.set_cons_zero, List.set_cons_succ, i64_w, i32_w]
                                              rfl
                                            refine take_ (i := 2) (N := some 116) (v := ?_) (a' := ?_) #[true, true, true, false, false, false, false, false, false, false, false] rfl rfl (take_ofW HT_.out HW_.out (by kernel_rfl)) (fun _ _ _ h => h) (Or.inl ⟨by rfl, ?_⟩) hHeld ?_ ?_
                                            rotate_left
                                            · rintro w' ⟨s0, s1, s2, s3, s4, s5, s6⟩
                                              go_simp
                                              with_reducible rfl
                                            rotate_left
                                            · simp only [Act.put, List.setIfInBounds_toArray, List.set_cons_zero, List.set_cons_succ, i64_w, i32_w]
                                              rfl
                                            refine pure_ (i := 3) (N := some 117) (v := ?_) (a' := ?_) #[true, true, true, true, false, false, false, false, false, false, false] rfl rfl (any_of HT_.out (by kernel_rfl)) (fun _ _ _ h => h) (Or.inl ⟨by rfl, ?_⟩) ?_ ?_
                                            rotate_left
                                            · intro w'
                                              go_simp
                                              with_reducible rfl
                                            rotate_left
                                            · simp only [Act.put, List.setIfInBounds_toArray, List.set_cons_zero, List.set_cons_succ, i64_w, i32_w]
                                              rfl
                                            refine pure_ (i := 4) (N := some 118) (v := ?_) (a' := ?_) #[true, true, true, true, true, false, false, false, false, false, false] rfl rfl (any_of HT_.out (by kernel_rfl)) (fun _ _ _ h => h) (Or.inl ⟨by rfl, ?_⟩) ?_ ?_
                                            rotate_left
                                            · intro w'
                                              go_simp
                                              with_reducible rfl
                                            rotate_left
                                            · simp only [Act.put, List.setIfInBounds_toArray, List.set_cons_zero, List.set_cons_succ, i64_w, i32_w]
                                              rfl
                                            refine take_ (i := 5) (N := some 119) (v := ?_) (a' := ?_) #[true, true, true, true, true, true, false, false, false, false, false] rfl rfl (take_ofW HT_.out HW_.out (by kernel_rfl)) (fun _ _ _ h => h) (Or.inl ⟨by rfl, ?_⟩) hHeld ?_ ?_
                                            rotate_left
                                            · rintro w' ⟨s0, s1, s2, s3, s4, s5, s6⟩
                                              go_simp
                                              with_reducible rfl
                                            rotate_left
                                            · simp only [Act.put, List.setIfInBounds_toArray, List.set_cons_zero, List.set_cons_succ, i64_w, i32_w]
                                              rfl
                                            refine one_ (i := 6) (N := some 120) #[true, true, true, true, true, true, true, false, false, false, false] rfl rfl (one_of HT_.out (by kernel_rfl)) (by decide) (fun K hK => ?_)
                                            refine goes_ Try.func36 (by kernel_rfl) rfl #[.agg #[.slice (some ad936) x911000_67.length co92, .slice Ao93 x911001_67.length co93, .int .i64 x911002_67, .int .i64 x911003_67], .int .i64 ((rd_T99 x911000_67 0).f1)] (by rfl) rfl rfl (by (try simp only [List.map_toArray, List.map_cons, List.map_nil]); first | done | rfl | (simp only [List.length_drop, List.length_take]; rfl)) ?_
                                            with_reducible refine (queue_Done.calls kj78 _ _ x911000_67 _ _ x911001_67 x911002_67 x911003_67 ((rd_T99 x911000_67 0).f1) t937 t940 t943 t944 t945 _ ?side1 ?side2 ?side3 ?side4 A90.out).mono ?_
                                            (case side1 => repeat (first | exact (Kd.S_reads' HO_911000.out).2.2 | (with_reducible refine Kd.C_alloc ?_ _) | (with_reducible refine Kd.C_drewN ?_ _) | (with_reducible refine Kd.C_drew ?_)))
                                            (case side2 => exact (Kd.S_reads' HO_911000.out).2.1)
                                            (case side3 => repeat (first | exact (Kd.R_reads' HO_911001.out).2.2 | (with_reducible refine Kd.C_alloc ?_ _) | (with_reducible refine Kd.C_drewN ?_ _) | (with_reducible refine Kd.C_drew ?_)))
                                            (case side4 => exact (Kd.R_reads' HO_911001.out).2.1)
                                            rintro e w94 ⟨v938, v941, rfl, ho0, ho1, hb⟩
                                            have HS4_ := (hb.cell (World.block_lt_of_cell? _ _ (hHeld.2.2.2.2.1))).trans (hHeld.2.2.2.2.1)
                                            have HS5_ := (hb.cell (World.block_lt_of_cell? _ _ (hHeld.2.2.2.2.2.1))).trans (hHeld.2.2.2.2.2.1)
                                            have HS6_ := (hb.cell (World.block_lt_of_cell? _ _ (hHeld.2.2.2.2.2.2))).trans (hHeld.2.2.2.2.2.2)
                                            refine ⟨_, rfl, ?_⟩
                                            have n0_ := Aside0.mk (Kd.S_mono (Kd.S_told (Kd.S_told (Kd.S_old (by (with_reducible repeat (first | apply Kd.S_alloc | apply Kd.S_drewN | apply Kd.S_drew)); exact HO_911000.out) hb) (Kd.S_base ho0)) (Kd.R_base ho1)) (fun _ h_ => h_.1))
                                            have n1_ := Aside0.mk (Kd.R_elder' (by (with_reducible repeat (first | apply Kd.R_alloc | apply Kd.R_drewN | apply Kd.R_drew)); exact HO_911001.out) (Kd.R_base ho1) hb)
                                            have n2_ := Aside0.mk (Kd.R_elder' (by (with_reducible repeat (first | apply Kd.R_alloc | apply Kd.R_drewN | apply Kd.R_drew)); exact HL936_2.out) (Kd.R_base ho1) hb)
                                            have n3_ := Aside0.mk (Kd.S_lower (Kd.S_new' (Kd.S_new' (Kd.S_new' ho0 (Kd.S_lt (by (with_reducible repeat (first | apply Kd.S_alloc | apply Kd.S_drewN | apply Kd.S_drew)); exact HO_911000.out))) (Kd.R_lt (by (with_reducible repeat (first | apply Kd.R_alloc | apply Kd.R_drewN | apply Kd.R_drew)); exact HO_911001.out))) (Kd.R_lt (by (with_reducible repeat (first | apply Kd.R_alloc | apply Kd.R_drewN | apply Kd.R_drew)); exact HL936_2.out))) (below_size (by repeat (first | (with_reducible first | exact HB.out | apply below_alloc | apply pw_below_drewN | apply below_drew1 | refine below_set ?_ GE897.out | refine below_set ?_ GE910.out) | exact HB.out))))
                                            have n4_ := Aside0.mk (Kd.R_lower (Kd.R_new' (Kd.R_new' ho1 (Kd.R_lt (by (with_reducible repeat (first | apply Kd.R_alloc | apply Kd.R_drewN | apply Kd.R_drew)); exact HO_911001.out))) (Kd.R_lt (by (with_reducible repeat (first | apply Kd.R_alloc | apply Kd.R_drewN | apply Kd.R_drew)); exact HL936_2.out))) (below_size (by repeat (first | (with_reducible first | exact HB.out | apply below_alloc | apply pw_below_drewN | apply below_drew1 | refine below_set ?_ GE897.out | refine below_set ?_ GE910.out) | exact HB.out))))
                                            have n5_ := Aside0.mk (blk_below (g := gb897) (o := .cells #[.int .i64 a0_0, .int .i64 a0_1, .bool a0_2] 23 (0, 0)) (by (with_reducible repeat (first | refine blk_drewN ?_ _ | refine blk_drew ?_ | refine blk_alloc ?_ _)); exact BK897.out) hb)
                                            have n6_ := Aside0.mk (blk_below (g := gb910) (o := .cells #[.slice (some ad936) x911000_67.length co92, .slice Ao93 x911001_67.length co93, .int .i64 x911002_67, .int .i64 x911003_67] 27 (0, 0)) (by (with_reducible repeat (first | refine blk_drewN ?_ _ | refine blk_drew ?_ | refine blk_alloc ?_ _)); exact BK910.out) hb)
                                            have n7_ := Aside0.mk (Kd.C_below (by repeat (first | (with_reducible exact HR936_2.out) | (with_reducible refine Kd.C_alloc ?_ _) | (with_reducible refine Kd.C_drewN ?_ _) | (with_reducible refine Kd.C_drew ?_) | exact HR936_2.out)) hb)
                                            have n8_ := Aside0.mk (below_step (by repeat (first | (with_reducible first | exact HB.out | apply below_alloc | apply pw_below_drewN | apply below_drew1 | refine below_set ?_ GE897.out | refine below_set ?_ GE910.out) | exact HB.out)) hb)
                                            clear HO_911000
                                            clear HO_911001
                                            clear HL936_2
                                            clear BK897
                                            clear BK910
                                            clear HR936_2
                                            clear HB
                                            have HO_911000 := n0_
                                            have HO_911001 := n1_
                                            have HL936_2 := n2_
                                            have HO939 := n3_
                                            have HO942 := n4_
                                            have BK897 := n5_
                                            have BK910 := n6_
                                            have HR936_2 := n7_
                                            have HB := n8_
                                            clear n0_ n1_ n2_ n3_ n4_ n5_ n6_ n7_ n8_
                                            (try clear hb)
                                            (try clear hb2)
                                            (try clear hk)
                                            (try clear hi)
                                            (try clear ho0)
                                            (try clear ho1)
                                            obtain ⟨Ao95, co95, eo95⟩ := Kd.S_slice HO939.out
                                            (first | subst eo95 | (injection eo95 with f1_ f2_ f3_; have f4_ := f1_.symm; have f5_ := f3_.symm; clear f1_ f2_ f3_; subst f4_; subst f5_))
                                            obtain ⟨Ao97, co97, eo97⟩ := Kd.R_slice HO942.out
                                            (first | subst eo97 | (injection eo97 with f1_ f2_ f3_; have f4_ := f1_.symm; have f5_ := f3_.symm; clear f1_ f2_ f3_; subst f4_; subst f5_))
                                            refine hK.out _ _ ⟨(blk_cell BK910.out 0).trans rfl, (blk_cell BK910.out 1).trans rfl, (blk_cell BK910.out 2).trans rfl, (blk_cell BK910.out 3).trans rfl, HS4_, HS5_, HS6_⟩ (fun hHeld => ?_)
                                            clear hK K
                                            refine norm_ (a' := ?_) ?_ ?_
                                            rotate_left
                                            · show Act.put _ (some 120) _ = _
                                              simp only [Act.put, List.setIfInBounds_toArray, List.set_cons_zero, List.set_cons_succ, i64_w, i32_w]
                                              rfl
                                            refine pure_ (i := 7) (N := some 113) (v := ?_) (a' := ?_) #[true, true, true, true, true, true, true, true, false, false, false] rfl rfl (any_of HT_.out (by kernel_rfl)) (fun _ _ _ h => h) (Or.inl ⟨by rfl, ?_⟩) ?_ ?_
                                            rotate_left
                                            · intro w'
                                              go_simp
                                              with_reducible rfl
                                            rotate_left
                                            · simp only [Act.put, List.setIfInBounds_toArray, List.set_cons_zero, List.set_cons_succ, i64_w, i32_w]
                                              rfl
                                            refine pure_ (i := 8) (N := some 121) (v := ?_) (a' := ?_) #[true, true, true, true, true, true, true, true, true, false, false] rfl rfl (any_of HT_.out (by kernel_rfl)) (fun _ _ _ h => h) (Or.inl ⟨by rfl, ?_⟩) ?_ ?_
                                            rotate_left
                                            · intro w'
                                              go_simp
                                              with_reducible rfl
                                            rotate_left
                                            · simp only [Act.put, List.setIfInBounds_toArray, List.set_cons_zero, List.set_cons_succ, i64_w, i32_w]
                                              rfl
                                            refine pure_ (i := 9) (N := some 122) (v := ?_) (a' := ?_) #[true, true, true, true, true, true, true, true, true, true, false] rfl rfl (any_of HT_.out (by kernel_rfl)) (fun _ _ _ h => h) (Or.inl ⟨by rfl, ?_⟩) ?_ ?_
                                            rotate_left
                                            · intro w'
                                              go_simp
                                              with_reducible rfl
                                            rotate_left
                                            · simp only [Act.put, List.setIfInBounds_toArray, List.set_cons_zero, List.set_cons_succ, i64_w, i32_w]
                                              rfl
                                            refine last_ (i := 10) (N := none) #[true, true, true, true, true, true, true, true, true, true, true] rfl rfl (one_of HT_.out (by kernel_rfl)) (by decide) (fun K hK => ?_)
                                            have hs96 : w94.cell? ⟨gb910, 0, none⟩ = some (.slice (some ad936) x911000_67.length co92) := (blk_cell BK910.out 0).trans rfl
                                            have hfs96 := blk_frozen BK910.out 0
                                            have hns96_0 := NB897_910.out
                                            have hms96_0 := NB910_897.out
                                            have hs98 : w94.cell? ⟨gb910, 1, none⟩ = some (.slice Ao93 x911001_67.length co93) := (blk_cell BK910.out 1).trans rfl
                                            have hfs98 := blk_frozen BK910.out 1
                                            have hns98_0 := NB897_910.out
                                            have hms98_0 := NB910_897.out
                                            have hs99 : w94.cell? ⟨gb910, 2, none⟩ = some (.int .i64 x911002_67) := (blk_cell BK910.out 2).trans rfl
                                            have hfs99 := blk_frozen BK910.out 2
                                            have hns99_0 := NB897_910.out
                                            have hms99_0 := NB910_897.out
                                            have hs100 : w94.cell? ⟨gb910, 3, none⟩ = some (.int .i64 x911003_67) := (blk_cell BK910.out 3).trans rfl
                                            have hfs100 := blk_frozen BK910.out 3
                                            have hns100_0 := NB897_910.out
                                            have hms100_0 := NB910_897.out
                                            refine skip_ (w1 := ?_) (by rfl) rfl ?_ ?_
                                            rotate_left
                                            · go_simp
                                              rfl
                                            refine hK.out _ _ ?_
                                            clear hK K
                                            refine done_ (done_of HT_.out (by kernel_rfl)) ?_
                                            try go_wp2
                                            go_meet
                                            case rel => exact ⟨_, (t937), (t940), (t943), (t944), (.slice Ao95 t937.length co95), (.slice Ao97 t940.length co97), H', ⟨by have := HK1.out; have := HJ17.out; have := HJ24.out; have := HJ60.out; have := HJ67.out; have := HJ78.out; first | omega | exact Nat.le_refl _⟩, ⟨by (with_reducible repeat (first | apply Kd.S_alloc | apply Kd.S_drewN | apply Kd.S_drew)); exact Kd.S_mono (Kd.S_far (p := ⟨gb910, 3, none⟩) (Kd.S_far (p := ⟨gb910, 2, none⟩) (Kd.S_far (p := ⟨gb910, 1, none⟩) (Kd.S_far (p := ⟨gb910, 0, none⟩) (Kd.S_types HO939.out BK910.out (by decide)) (fun _ hk => hk.2) (.slice Ao95 t937.length co95)) (fun _ hk => hk.2) (.slice Ao97 t940.length co97)) (fun _ hk => hk.2) (.int .i64 t943)) (fun _ hk => hk.2) (.int .i64 t944)) (fun _ hk => hk.1.1.1.1)⟩, ⟨by (with_reducible repeat (first | apply Kd.R_alloc | apply Kd.R_drewN | apply Kd.R_drew)); exact Kd.R_mono (Kd.R_far (p := ⟨gb910, 3, none⟩) (Kd.R_far (p := ⟨gb910, 2, none⟩) (Kd.R_far (p := ⟨gb910, 1, none⟩) (Kd.R_far (p := ⟨gb910, 0, none⟩) (Kd.R_types HO942.out BK910.out (by decide)) (fun _ hk => hk.2) (.slice Ao95 t937.length co95)) (fun _ hk => hk.2) (.slice Ao97 t940.length co97)) (fun _ hk => hk.2) (.int .i64 t943)) (fun _ hk => hk.2) (.int .i64 t944)) (fun _ hk => trivial)⟩, ⟨by (with_reducible repeat (first | refine blk_drewN ?_ _ | refine blk_drew ?_ | refine blk_alloc ?_ _)); refine blk_far ?_ NB897_910.out _; (with_reducible repeat (first | refine blk_drewN ?_ _ | refine blk_drew ?_ | refine blk_alloc ?_ _)); refine blk_far ?_ NB897_910.out _; (with_reducible repeat (first | refine blk_drewN ?_ _ | refine blk_drew ?_ | refine blk_alloc ?_ _)); refine blk_far ?_ NB897_910.out _; (with_reducible repeat (first | refine blk_drewN ?_ _ | refine blk_drew ?_ | refine blk_alloc ?_ _)); refine blk_far ?_ NB897_910.out _; (with_reducible repeat (first | refine blk_drewN ?_ _ | refine blk_drew ?_ | refine blk_alloc ?_ _)); exact BK897.out⟩, ⟨by (with_reducible repeat (first | refine blk_drewN ?_ _ | refine blk_drew ?_ | refine blk_alloc ?_ _)); refine blk_put (cs := #[.slice Ao95 t937.length co95, .slice Ao97 t940.length co97, .int .i64 t943, .int .i64 x911003_67]) ?_ 3 _ rfl; (with_reducible repeat (first | refine blk_drewN ?_ _ | refine blk_drew ?_ | refine blk_alloc ?_ _)); refine blk_put (cs := #[.slice Ao95 t937.length co95, .slice Ao97 t940.length co97, .int .i64 x911002_67, .int .i64 x911003_67]) ?_ 2 _ rfl; (with_reducible repeat (first | refine blk_drewN ?_ _ | refine blk_drew ?_ | refine blk_alloc ?_ _)); refine blk_put (cs := #[.slice Ao95 t937.length co95, .slice Ao93 x911001_67.length co93, .int .i64 x911002_67, .int .i64 x911003_67]) ?_ 1 _ rfl; (with_reducible repeat (first | refine blk_drewN ?_ _ | refine blk_drew ?_ | refine blk_alloc ?_ _)); refine blk_put (cs := #[.slice (some ad936) x911000_67.length co92, .slice Ao93 x911001_67.length co93, .int .i64 x911002_67, .int .i64 x911003_67]) ?_ 0 _ rfl; (with_reducible repeat (first | refine blk_drewN ?_ _ | refine blk_drew ?_ | refine blk_alloc ?_ _)); exact BK910.out⟩, ⟨by repeat (first | (with_reducible first | exact HB.out | apply below_alloc | apply pw_below_drewN | apply below_drew1 | refine below_set ?_ GE897.out | refine below_set ?_ GE910.out) | exact HB.out)⟩⟩
                                          · rw [if_neg c89] at H
                                            exact absurd H (by simp)
                                        · replace c88 := Bool.eq_false_iff.mpr c88
                                          subst c88
                                          have H1 : (counterfoillaw13_LagBounds.j6 kj78 l1 l2 l3 x11_1 a0_0 a0_1 a0_2 x911000_67 x911001_67 x911002_67 x911003_67) = some r := by rw [if_neg (show ¬ (false = true) by decide)] at H; exact H
                                          clear H
                                          have H := H1
                                          clear H1
                                          have H' := Aside0.mk H
                                          clear H
                                          go_wp2
                                          go_meet
                                          case rel => exact ⟨_, (x911000_67), (x911001_67), (x911002_67), (x911003_67), (u911000), (u911001), H', ⟨by have := HK1.out; have := HJ17.out; have := HJ24.out; have := HJ60.out; have := HJ67.out; have := HJ78.out; first | omega | exact Nat.le_refl _⟩, ⟨by (with_reducible repeat (first | apply Kd.S_alloc | apply Kd.S_drewN | apply Kd.S_drew)); exact HO_911000.out⟩, ⟨by (with_reducible repeat (first | apply Kd.R_alloc | apply Kd.R_drewN | apply Kd.R_drew)); exact HO_911001.out⟩, ⟨by (with_reducible repeat (first | refine blk_drewN ?_ _ | refine blk_drew ?_ | refine blk_alloc ?_ _)); exact BK897.out⟩, ⟨by (with_reducible repeat (first | refine blk_drewN ?_ _ | refine blk_drew ?_ | refine blk_alloc ?_ _)); exact BK910.out⟩, ⟨by repeat (first | (with_reducible first | exact HB.out | apply below_alloc | apply pw_below_drewN | apply below_drew1 | refine below_set ?_ GE897.out | refine below_set ?_ GE910.out) | exact HB.out)⟩⟩
                                      case rest =>
                                        clear HC87
                                        try clear p2
                                        try clear c3
                                        try clear c4
                                        try clear c5
                                        try clear c6
                                        try clear q6
                                        try clear c7
                                        try clear c8
                                        try clear q8
                                        try clear c9
                                        try clear p9
                                        try clear q9
                                        try clear hx9
                                        try clear qi9
                                        try clear c30
                                        try clear c30b0
                                        try clear c30b1
                                        try clear c32
                                        try clear c32b0
                                        try clear c32b1
                                        try clear c36
                                        try clear c49
                                        try clear c49b0
                                        try clear c49b1
                                        try clear c50
                                        try clear c51
                                        try clear c53
                                        try clear c55
                                        try clear c55b0
                                        try clear c55b1
                                        try clear c56
                                        try clear c57
                                        try clear c59
                                        try clear c62
                                        try clear c62b0
                                        try clear c63
                                        try clear c63b0
                                        try clear q64
                                        try clear c65
                                        try clear c66
                                        try clear c69
                                        try clear c71
                                        try clear c78
                                        try clear c79
                                        try clear c80
                                        try clear c80b0
                                        try clear c81
                                        try clear c81b0
                                        try clear q82
                                        try clear c83
                                        try clear c84
                                        try clear c88
                                        try clear c89
                                        try clear c89b0
                                        try clear c89b1
                                        try clear p91
                                        try clear q91
                                        try clear hx91
                                        try clear p92
                                        try clear q92
                                        try clear hx92
                                        try clear c93
                                        try clear p93
                                        try clear q93
                                        try clear hx93
                                        try clear qi93
                                        try clear hcz52_0
                                        try clear hcz52_1
                                        try clear hcz52_2
                                        try clear hcz54_0
                                        try clear hcz54_1
                                        try clear hcz54_2
                                        try clear hcz58_0
                                        try clear hcz58_1
                                        try clear hcz58_2
                                        try clear hcz60_0
                                        try clear hcz60_1
                                        try clear hcz60_2
                                        try clear hcz67_0
                                        try clear hcz67_1
                                        try clear hcz67_2
                                        try clear hcz67_3
                                        try clear hcz72_0
                                        try clear hcz72_1
                                        try clear hcz72_2
                                        try clear hcz72_3
                                        try clear hcz77_0
                                        try clear hcz77_1
                                        try clear hcz77_2
                                        try clear hcz77_3
                                        try clear hcz85_0
                                        try clear hcz85_1
                                        try clear hcz85_2
                                        try clear hcz85_3
                                        try clear hfz52_0
                                        try clear hfz52_1
                                        try clear hfz52_2
                                        try clear hfz54_0
                                        try clear hfz54_1
                                        try clear hfz54_2
                                        try clear hfz58_0
                                        try clear hfz58_1
                                        try clear hfz58_2
                                        try clear hfz60_0
                                        try clear hfz60_1
                                        try clear hfz60_2
                                        try clear hfz67_0
                                        try clear hfz67_1
                                        try clear hfz67_2
                                        try clear hfz67_3
                                        try clear hfz72_0
                                        try clear hfz72_1
                                        try clear hfz72_2
                                        try clear hfz72_3
                                        try clear hfz77_0
                                        try clear hfz77_1
                                        try clear hfz77_2
                                        try clear hfz77_3
                                        try clear hfz85_0
                                        try clear hfz85_1
                                        try clear hfz85_2
                                        try clear hfz85_3
                                        try clear hx913_0
                                        try clear hx915_0
                                        try clear hx925_0
                                        try clear hx935_0
                                        try clear hx936_0
                                        try clear hx936_1
                                        try clear hx936_2
                                        try clear p2
                                        try clear p9
                                        try clear p913
                                        try clear p915
                                        try clear p925
                                        try clear p935
                                        try clear p936
                                        try clear q6
                                        try clear q64
                                        try clear q8
                                        try clear q82
                                        try clear q9
                                        try clear q913
                                        try clear q915
                                        try clear q925
                                        try clear q935
                                        try clear q936
                                        obtain ⟨kq, x911000_86, x911001_86, x911002_86, x911003_86, u911000, u911001, HA, HJ86, HO_911000, HO_911001, BK897, BK910, HB⟩ := hcut
                                        cases kq with
                                        | zero => exact absurd HA.out (by simp [counterfoillaw13_LagBounds.j6])
                                        | succ kj86 =>
                                          have H := HA.out
                                          clear HA
                                          simp only [counterfoillaw13_LagBounds.j6] at H
                                          replace H := Option.bind_eq_some_iff.mp H
                                          obtain ⟨⟨t946, t947⟩, A1010, H⟩ := H
                                          replace H : (if t946 > a0_0 then (some false) else (if t947 > a0_1 then (some false) else ((queue_Right.f kj86 x911000_86 x911001_86 x911002_86 x911003_86).bind fun t948 => (if t948 = true then (counterfoillaw13_LagBounds.l0 kj86 l1 l2 l3 (wrap64 (x11_1 + 1)) a0_0 a0_1 a0_2 x911000_86 x911001_86 x911002_86 x911003_86) else (some false))))) = some r := H
                                          have A101 := Aside0.mk A1010
                                          clear A1010
                                          by_cases c102 : t946 > a0_0
                                          · rw [if_pos c102] at H
                                            have c102b0 : decide (a0_0 < t946) = true := decide_eq_true c102
                                            clear c102
                                            obtain rfl := Option.some.inj H
                                            have hnb103 := NB910_897.out
                                            have hnc103 := NB897_910.out
                                            have hcz104_0 : wc.cell? ⟨gb910, 0, none⟩ = some (u911000) := (blk_cell BK910.out 0).trans rfl
                                            have hcz104_1 : wc.cell? ⟨gb910, 1, none⟩ = some (u911001) := (blk_cell BK910.out 1).trans rfl
                                            have hcz104_2 : wc.cell? ⟨gb910, 2, none⟩ = some (.int .i64 x911002_86) := (blk_cell BK910.out 2).trans rfl
                                            have hcz104_3 : wc.cell? ⟨gb910, 3, none⟩ = some (.int .i64 x911003_86) := (blk_cell BK910.out 3).trans rfl
                                            have hfz104_0 := blk_frozen BK910.out 0
                                            have hfz104_1 := blk_frozen BK910.out 1
                                            have hfz104_2 := blk_frozen BK910.out 2
                                            have hfz104_3 := blk_frozen BK910.out 3
                                            obtain ⟨Ao105, co105, eo105⟩ := Kd.S_slice HO_911000.out
                                            subst eo105
                                            obtain ⟨Ao106, co106, eo106⟩ := Kd.R_slice HO_911001.out
                                            subst eo106
                                            go_wp2_with (first | ((with_reducible refine gate_callee (f := 74) rfl ?_); refine goesL_ (some 125) rfl rfl Try.func74 (by kernel_rfl) rfl #[.agg #[.slice Ao105 x911000_86.length co105, .slice Ao106 x911001_86.length co106, .int .i64 x911002_86, .int .i64 x911003_86]] rfl (by (try simp only [List.map_toArray, List.map_cons, List.map_nil]); first | done | rfl | (simp only [List.length_drop, List.length_take]; rfl)) ?_; (with_reducible refine (queue_Load.calls kj86 _ _ x911000_86 _ _ x911001_86 x911002_86 x911003_86 t946 t947 _ ?side1 ?side2 ?side3 ?side4 A101.out).mono ?_); (case side1 => repeat (first | exact (Kd.S_reads' HO_911000.out).2.2 | (with_reducible refine Kd.C_alloc ?_ _) | (with_reducible refine Kd.C_drewN ?_ _) | (with_reducible refine Kd.C_drew ?_))); (case side2 => exact (Kd.S_reads' HO_911000.out).2.1); (case side3 => repeat (first | exact (Kd.R_reads' HO_911001.out).2.2 | (with_reducible refine Kd.C_alloc ?_ _) | (with_reducible refine Kd.C_drewN ?_ _) | (with_reducible refine Kd.C_drew ?_))); (case side4 => exact (Kd.R_reads' HO_911001.out).2.1); rintro e w107 ⟨rfl, hb⟩; refine ⟨_, rfl, ?_⟩; have n0_ := Aside0.mk (Kd.S_below (by (with_reducible repeat (first | apply Kd.S_alloc | apply Kd.S_drewN | apply Kd.S_drew)); exact HO_911000.out) hb); have n1_ := Aside0.mk (Kd.R_below (by (with_reducible repeat (first | apply Kd.R_alloc | apply Kd.R_drewN | apply Kd.R_drew)); exact HO_911001.out) hb); have n2_ := Aside0.mk (blk_below (g := gb897) (o := .cells #[.int .i64 a0_0, .int .i64 a0_1, .bool a0_2] 23 (0, 0)) (by (with_reducible repeat (first | refine blk_drewN ?_ _ | refine blk_drew ?_ | refine blk_alloc ?_ _)); exact BK897.out) hb); have n3_ := Aside0.mk (blk_below (g := gb910) (o := .cells #[.slice Ao105 x911000_86.length co105, .slice Ao106 x911001_86.length co106, .int .i64 x911002_86, .int .i64 x911003_86] 27 (0, 0)) (by (with_reducible repeat (first | refine blk_drewN ?_ _ | refine blk_drew ?_ | refine blk_alloc ?_ _)); exact BK910.out) hb); have n4_ := Aside0.mk (below_step (by repeat (first | (with_reducible first | exact HB.out | apply below_alloc | apply pw_below_drewN | apply below_drew1 | refine below_set ?_ GE897.out | refine below_set ?_ GE910.out) | exact HB.out)) hb); clear HO_911000; clear HO_911001; clear BK897; clear BK910; clear HB; have HO_911000 := n0_; have HO_911001 := n1_; have BK897 := n2_; have BK910 := n3_; have HB := n4_; clear n0_ n1_ n2_ n3_ n4_; (try clear hb); (try clear hb2); (try clear hk); (try clear hi); have hcz108_0 : w107.cell? ⟨gb897, 0, none⟩ = some (.int .i64 a0_0) := (blk_cell BK897.out 0).trans rfl; have hcz108_1 : w107.cell? ⟨gb897, 1, none⟩ = some (.int .i64 a0_1) := (blk_cell BK897.out 1).trans rfl; have hcz108_2 : w107.cell? ⟨gb897, 2, none⟩ = some (.bool a0_2) := (blk_cell BK897.out 2).trans rfl; have hfz108_0 := blk_frozen BK897.out 0; have hfz108_1 := blk_frozen BK897.out 1; have hfz108_2 := blk_frozen BK897.out 2))
                                            go_ret
                                            exact ⟨by first | rfl | (simp [errW_none, errW_some] <;> rfl) | (simp [*, errW_none, errW_some] <;> rfl), by repeat (first | (with_reducible first | exact HB.out | apply below_alloc | apply pw_below_drewN | apply below_drew1 | refine below_set ?_ GE897.out | refine below_set ?_ GE910.out) | exact HB.out)⟩
                                          · rw [if_neg c102] at H
                                            have c102b0 : decide (a0_0 < t946) = false := decide_eq_false c102
                                            clear c102
                                            by_cases c109 : t947 > a0_1
                                            · rw [if_pos c109] at H
                                              have c109b0 : decide (a0_1 < t947) = true := decide_eq_true c109
                                              clear c109
                                              obtain rfl := Option.some.inj H
                                              have hnb110 := NB910_897.out
                                              have hnc110 := NB897_910.out
                                              have hcz111_0 : wc.cell? ⟨gb910, 0, none⟩ = some (u911000) := (blk_cell BK910.out 0).trans rfl
                                              have hcz111_1 : wc.cell? ⟨gb910, 1, none⟩ = some (u911001) := (blk_cell BK910.out 1).trans rfl
                                              have hcz111_2 : wc.cell? ⟨gb910, 2, none⟩ = some (.int .i64 x911002_86) := (blk_cell BK910.out 2).trans rfl
                                              have hcz111_3 : wc.cell? ⟨gb910, 3, none⟩ = some (.int .i64 x911003_86) := (blk_cell BK910.out 3).trans rfl
                                              have hfz111_0 := blk_frozen BK910.out 0
                                              have hfz111_1 := blk_frozen BK910.out 1
                                              have hfz111_2 := blk_frozen BK910.out 2
                                              have hfz111_3 := blk_frozen BK910.out 3
                                              obtain ⟨Ao112, co112, eo112⟩ := Kd.S_slice HO_911000.out
                                              subst eo112
                                              obtain ⟨Ao113, co113, eo113⟩ := Kd.R_slice HO_911001.out
                                              subst eo113
                                              go_wp2_with (first | ((with_reducible refine gate_callee (f := 74) rfl ?_); refine goesL_ (some 125) rfl rfl Try.func74 (by kernel_rfl) rfl #[.agg #[.slice Ao112 x911000_86.length co112, .slice Ao113 x911001_86.length co113, .int .i64 x911002_86, .int .i64 x911003_86]] rfl (by (try simp only [List.map_toArray, List.map_cons, List.map_nil]); first | done | rfl | (simp only [List.length_drop, List.length_take]; rfl)) ?_; (with_reducible refine (queue_Load.calls kj86 _ _ x911000_86 _ _ x911001_86 x911002_86 x911003_86 t946 t947 _ ?side1 ?side2 ?side3 ?side4 A101.out).mono ?_); (case side1 => repeat (first | exact (Kd.S_reads' HO_911000.out).2.2 | (with_reducible refine Kd.C_alloc ?_ _) | (with_reducible refine Kd.C_drewN ?_ _) | (with_reducible refine Kd.C_drew ?_))); (case side2 => exact (Kd.S_reads' HO_911000.out).2.1); (case side3 => repeat (first | exact (Kd.R_reads' HO_911001.out).2.2 | (with_reducible refine Kd.C_alloc ?_ _) | (with_reducible refine Kd.C_drewN ?_ _) | (with_reducible refine Kd.C_drew ?_))); (case side4 => exact (Kd.R_reads' HO_911001.out).2.1); rintro e w114 ⟨rfl, hb⟩; refine ⟨_, rfl, ?_⟩; have n0_ := Aside0.mk (Kd.S_below (by (with_reducible repeat (first | apply Kd.S_alloc | apply Kd.S_drewN | apply Kd.S_drew)); exact HO_911000.out) hb); have n1_ := Aside0.mk (Kd.R_below (by (with_reducible repeat (first | apply Kd.R_alloc | apply Kd.R_drewN | apply Kd.R_drew)); exact HO_911001.out) hb); have n2_ := Aside0.mk (blk_below (g := gb897) (o := .cells #[.int .i64 a0_0, .int .i64 a0_1, .bool a0_2] 23 (0, 0)) (by (with_reducible repeat (first | refine blk_drewN ?_ _ | refine blk_drew ?_ | refine blk_alloc ?_ _)); exact BK897.out) hb); have n3_ := Aside0.mk (blk_below (g := gb910) (o := .cells #[.slice Ao112 x911000_86.length co112, .slice Ao113 x911001_86.length co113, .int .i64 x911002_86, .int .i64 x911003_86] 27 (0, 0)) (by (with_reducible repeat (first | refine blk_drewN ?_ _ | refine blk_drew ?_ | refine blk_alloc ?_ _)); exact BK910.out) hb); have n4_ := Aside0.mk (below_step (by repeat (first | (with_reducible first | exact HB.out | apply below_alloc | apply pw_below_drewN | apply below_drew1 | refine below_set ?_ GE897.out | refine below_set ?_ GE910.out) | exact HB.out)) hb); clear HO_911000; clear HO_911001; clear BK897; clear BK910; clear HB; have HO_911000 := n0_; have HO_911001 := n1_; have BK897 := n2_; have BK910 := n3_; have HB := n4_; clear n0_ n1_ n2_ n3_ n4_; (try clear hb); (try clear hb2); (try clear hk); (try clear hi); have hcz115_0 : w114.cell? ⟨gb897, 0, none⟩ = some (.int .i64 a0_0) := (blk_cell BK897.out 0).trans rfl; have hcz115_1 : w114.cell? ⟨gb897, 1, none⟩ = some (.int .i64 a0_1) := (blk_cell BK897.out 1).trans rfl; have hcz115_2 : w114.cell? ⟨gb897, 2, none⟩ = some (.bool a0_2) := (blk_cell BK897.out 2).trans rfl; have hfz115_0 := blk_frozen BK897.out 0; have hfz115_1 := blk_frozen BK897.out 1; have hfz115_2 := blk_frozen BK897.out 2))
                                              go_ret
                                              exact ⟨by first | rfl | (simp [errW_none, errW_some] <;> rfl) | (simp [*, errW_none, errW_some] <;> rfl), by repeat (first | (with_reducible first | exact HB.out | apply below_alloc | apply pw_below_drewN | apply below_drew1 | refine below_set ?_ GE897.out | refine below_set ?_ GE910.out) | exact HB.out)⟩
                                            · rw [if_neg c109] at H
                                              have c109b0 : decide (a0_1 < t947) = false := decide_eq_false c109
                                              clear c109
                                              replace H := Option.bind_eq_some_iff.mp H
                                              obtain ⟨t948, A1160, H⟩ := H
                                              replace H : (if t948 = true then (counterfoillaw13_LagBounds.l0 kj86 l1 l2 l3 (wrap64 (x11_1 + 1)) a0_0 a0_1 a0_2 x911000_86 x911001_86 x911002_86 x911003_86) else (some false)) = some r := H
                                              have A116 := Aside0.mk A1160
                                              clear A1160
                                              by_cases c117 : t948 = true
                                              · subst c117
                                                have H1 : (counterfoillaw13_LagBounds.l0 kj86 l1 l2 l3 (wrap64 (x11_1 + 1)) a0_0 a0_1 a0_2 x911000_86 x911001_86 x911002_86 x911003_86) = some r := by rw [if_pos rfl] at H; exact H
                                                clear H
                                                have H := H1
                                                clear H1
                                                have H' := Aside0.mk H
                                                clear H
                                                have hnb118 := NB910_897.out
                                                have hnc118 := NB897_910.out
                                                have hcz119_0 : wc.cell? ⟨gb910, 0, none⟩ = some (u911000) := (blk_cell BK910.out 0).trans rfl
                                                have hcz119_1 : wc.cell? ⟨gb910, 1, none⟩ = some (u911001) := (blk_cell BK910.out 1).trans rfl
                                                have hcz119_2 : wc.cell? ⟨gb910, 2, none⟩ = some (.int .i64 x911002_86) := (blk_cell BK910.out 2).trans rfl
                                                have hcz119_3 : wc.cell? ⟨gb910, 3, none⟩ = some (.int .i64 x911003_86) := (blk_cell BK910.out 3).trans rfl
                                                have hfz119_0 := blk_frozen BK910.out 0
                                                have hfz119_1 := blk_frozen BK910.out 1
                                                have hfz119_2 := blk_frozen BK910.out 2
                                                have hfz119_3 := blk_frozen BK910.out 3
                                                obtain ⟨Ao120, co120, eo120⟩ := Kd.S_slice HO_911000.out
                                                subst eo120
                                                obtain ⟨Ao121, co121, eo121⟩ := Kd.R_slice HO_911001.out
                                                subst eo121
                                                go_wp2_with (first | ((with_reducible refine gate_callee (f := 74) rfl ?_); refine goesL_ (some 125) rfl rfl Try.func74 (by kernel_rfl) rfl #[.agg #[.slice Ao120 x911000_86.length co120, .slice Ao121 x911001_86.length co121, .int .i64 x911002_86, .int .i64 x911003_86]] rfl (by (try simp only [List.map_toArray, List.map_cons, List.map_nil]); first | done | rfl | (simp only [List.length_drop, List.length_take]; rfl)) ?_; (with_reducible refine (queue_Load.calls kj86 _ _ x911000_86 _ _ x911001_86 x911002_86 x911003_86 t946 t947 _ ?side1 ?side2 ?side3 ?side4 A101.out).mono ?_); (case side1 => repeat (first | exact (Kd.S_reads' HO_911000.out).2.2 | (with_reducible refine Kd.C_alloc ?_ _) | (with_reducible refine Kd.C_drewN ?_ _) | (with_reducible refine Kd.C_drew ?_))); (case side2 => exact (Kd.S_reads' HO_911000.out).2.1); (case side3 => repeat (first | exact (Kd.R_reads' HO_911001.out).2.2 | (with_reducible refine Kd.C_alloc ?_ _) | (with_reducible refine Kd.C_drewN ?_ _) | (with_reducible refine Kd.C_drew ?_))); (case side4 => exact (Kd.R_reads' HO_911001.out).2.1); rintro e w122 ⟨rfl, hb⟩; refine ⟨_, rfl, ?_⟩; have n0_ := Aside0.mk (Kd.S_below (by (with_reducible repeat (first | apply Kd.S_alloc | apply Kd.S_drewN | apply Kd.S_drew)); exact HO_911000.out) hb); have n1_ := Aside0.mk (Kd.R_below (by (with_reducible repeat (first | apply Kd.R_alloc | apply Kd.R_drewN | apply Kd.R_drew)); exact HO_911001.out) hb); have n2_ := Aside0.mk (blk_below (g := gb897) (o := .cells #[.int .i64 a0_0, .int .i64 a0_1, .bool a0_2] 23 (0, 0)) (by (with_reducible repeat (first | refine blk_drewN ?_ _ | refine blk_drew ?_ | refine blk_alloc ?_ _)); exact BK897.out) hb); have n3_ := Aside0.mk (blk_below (g := gb910) (o := .cells #[.slice Ao120 x911000_86.length co120, .slice Ao121 x911001_86.length co121, .int .i64 x911002_86, .int .i64 x911003_86] 27 (0, 0)) (by (with_reducible repeat (first | refine blk_drewN ?_ _ | refine blk_drew ?_ | refine blk_alloc ?_ _)); exact BK910.out) hb); have n4_ := Aside0.mk (below_step (by repeat (first | (with_reducible first | exact HB.out | apply below_alloc | apply pw_below_drewN | apply below_drew1 | refine below_set ?_ GE897.out | refine below_set ?_ GE910.out) | exact HB.out)) hb); clear HO_911000; clear HO_911001; clear BK897; clear BK910; clear HB; have HO_911000 := n0_; have HO_911001 := n1_; have BK897 := n2_; have BK910 := n3_; have HB := n4_; clear n0_ n1_ n2_ n3_ n4_; (try clear hb); (try clear hb2); (try clear hk); (try clear hi); have hcz123_0 : w122.cell? ⟨gb897, 0, none⟩ = some (.int .i64 a0_0) := (blk_cell BK897.out 0).trans rfl; have hcz123_1 : w122.cell? ⟨gb897, 1, none⟩ = some (.int .i64 a0_1) := (blk_cell BK897.out 1).trans rfl; have hcz123_2 : w122.cell? ⟨gb897, 2, none⟩ = some (.bool a0_2) := (blk_cell BK897.out 2).trans rfl; have hfz123_0 := blk_frozen BK897.out 0; have hfz123_1 := blk_frozen BK897.out 1; have hfz123_2 := blk_frozen BK897.out 2; have hcz124_0 : w122.cell? ⟨gb910, 0, none⟩ = some (.slice Ao120 x911000_86.length co120) := (blk_cell BK910.out 0).trans rfl; have hcz124_1 : w122.cell? ⟨gb910, 1, none⟩ = some (.slice Ao121 x911001_86.length co121) := (blk_cell BK910.out 1).trans rfl; have hcz124_2 : w122.cell? ⟨gb910, 2, none⟩ = some (.int .i64 x911002_86) := (blk_cell BK910.out 2).trans rfl; have hcz124_3 : w122.cell? ⟨gb910, 3, none⟩ = some (.int .i64 x911003_86) := (blk_cell BK910.out 3).trans rfl; have hfz124_0 := blk_frozen BK910.out 0; have hfz124_1 := blk_frozen BK910.out 1; have hfz124_2 := blk_frozen BK910.out 2; have hfz124_3 := blk_frozen BK910.out 3) | (go_at_call 75; (with_reducible refine (queue_Right.calls kj86 _ _ x911000_86 _ _ x911001_86 x911002_86 x911003_86 true _ ?side1 ?side2 ?side3 ?side4 A116.out).mono ?_); (case side1 => repeat (first | exact (Kd.S_reads' HO_911000.out).2.2 | (with_reducible refine Kd.C_alloc ?_ _) | (with_reducible refine Kd.C_drewN ?_ _) | (with_reducible refine Kd.C_drew ?_))); (case side2 => exact (Kd.S_reads' HO_911000.out).2.1); (case side3 => repeat (first | exact (Kd.R_reads' HO_911001.out).2.2 | (with_reducible refine Kd.C_alloc ?_ _) | (with_reducible refine Kd.C_drewN ?_ _) | (with_reducible refine Kd.C_drew ?_))); (case side4 => exact (Kd.R_reads' HO_911001.out).2.1); rintro e w125 ⟨rfl, hb⟩; have n0_ := Aside0.mk (Kd.S_below (by (with_reducible repeat (first | apply Kd.S_alloc | apply Kd.S_drewN | apply Kd.S_drew)); exact HO_911000.out) hb); have n1_ := Aside0.mk (Kd.R_below (by (with_reducible repeat (first | apply Kd.R_alloc | apply Kd.R_drewN | apply Kd.R_drew)); exact HO_911001.out) hb); have n2_ := Aside0.mk (blk_below (g := gb897) (o := .cells #[.int .i64 a0_0, .int .i64 a0_1, .bool a0_2] 23 (0, 0)) (by (with_reducible repeat (first | refine blk_drewN ?_ _ | refine blk_drew ?_ | refine blk_alloc ?_ _)); exact BK897.out) hb); have n3_ := Aside0.mk (blk_below (g := gb910) (o := .cells #[.slice Ao120 x911000_86.length co120, .slice Ao121 x911001_86.length co121, .int .i64 x911002_86, .int .i64 x911003_86] 27 (0, 0)) (by (with_reducible repeat (first | refine blk_drewN ?_ _ | refine blk_drew ?_ | refine blk_alloc ?_ _)); exact BK910.out) hb); have n4_ := Aside0.mk (below_step (by repeat (first | (with_reducible first | exact HB.out | apply below_alloc | apply pw_below_drewN | apply below_drew1 | refine below_set ?_ GE897.out | refine below_set ?_ GE910.out) | exact HB.out)) hb); clear HO_911000; clear HO_911001; clear BK897; clear BK910; clear HB; have HO_911000 := n0_; have HO_911001 := n1_; have BK897 := n2_; have BK910 := n3_; have HB := n4_; clear n0_ n1_ n2_ n3_ n4_; (try clear hb); (try clear hb2); (try clear hk); (try clear hi)))
                                                go_roundg kj86
                                                case measure => have := HK1.out; have := HJ17.out; have := HJ24.out; have := HJ60.out; have := HJ67.out; have := HJ78.out; have := HJ86.out; omega
                                                case rel => exact ⟨(wrap64 (x11_1 + 1)), (x911000_86), (x911001_86), (x911002_86), (x911003_86), (.slice Ao120 x911000_86.length co120), (.slice Ao121 x911001_86.length co121), (by first | rfl | (simp; done) | (simp [*]; done)), H', ⟨by have := HK1.out; have := HJ17.out; have := HJ24.out; have := HJ60.out; have := HJ67.out; have := HJ78.out; have := HJ86.out; omega⟩, ⟨by (with_reducible repeat (first | apply Kd.S_alloc | apply Kd.S_drewN | apply Kd.S_drew)); exact HO_911000.out⟩, ⟨by (with_reducible repeat (first | apply Kd.R_alloc | apply Kd.R_drewN | apply Kd.R_drew)); exact HO_911001.out⟩, ⟨by (with_reducible repeat (first | refine blk_drewN ?_ _ | refine blk_drew ?_ | refine blk_alloc ?_ _)); exact BK897.out⟩, ⟨by (with_reducible repeat (first | refine blk_drewN ?_ _ | refine blk_drew ?_ | refine blk_alloc ?_ _)); exact BK910.out⟩, ⟨by repeat (first | (with_reducible first | exact HB.out | apply below_alloc | apply pw_below_drewN | apply below_drew1 | refine below_set ?_ GE897.out | refine below_set ?_ GE910.out) | exact HB.out)⟩⟩
                                              · replace c117 := Bool.eq_false_iff.mpr c117
                                                subst c117
                                                have H1 : (some false) = some r := by rw [if_neg (show ¬ (false = true) by decide)] at H; exact H
                                                clear H
                                                have H := H1
                                                clear H1
                                                obtain rfl := Option.some.inj H
                                                have hnb126 := NB910_897.out
                                                have hnc126 := NB897_910.out
                                                have hcz127_0 : wc.cell? ⟨gb910, 0, none⟩ = some (u911000) := (blk_cell BK910.out 0).trans rfl
                                                have hcz127_1 : wc.cell? ⟨gb910, 1, none⟩ = some (u911001) := (blk_cell BK910.out 1).trans rfl
                                                have hcz127_2 : wc.cell? ⟨gb910, 2, none⟩ = some (.int .i64 x911002_86) := (blk_cell BK910.out 2).trans rfl
                                                have hcz127_3 : wc.cell? ⟨gb910, 3, none⟩ = some (.int .i64 x911003_86) := (blk_cell BK910.out 3).trans rfl
                                                have hfz127_0 := blk_frozen BK910.out 0
                                                have hfz127_1 := blk_frozen BK910.out 1
                                                have hfz127_2 := blk_frozen BK910.out 2
                                                have hfz127_3 := blk_frozen BK910.out 3
                                                obtain ⟨Ao128, co128, eo128⟩ := Kd.S_slice HO_911000.out
                                                subst eo128
                                                obtain ⟨Ao129, co129, eo129⟩ := Kd.R_slice HO_911001.out
                                                subst eo129
                                                go_wp2_with (first | ((with_reducible refine gate_callee (f := 74) rfl ?_); refine goesL_ (some 125) rfl rfl Try.func74 (by kernel_rfl) rfl #[.agg #[.slice Ao128 x911000_86.length co128, .slice Ao129 x911001_86.length co129, .int .i64 x911002_86, .int .i64 x911003_86]] rfl (by (try simp only [List.map_toArray, List.map_cons, List.map_nil]); first | done | rfl | (simp only [List.length_drop, List.length_take]; rfl)) ?_; (with_reducible refine (queue_Load.calls kj86 _ _ x911000_86 _ _ x911001_86 x911002_86 x911003_86 t946 t947 _ ?side1 ?side2 ?side3 ?side4 A101.out).mono ?_); (case side1 => repeat (first | exact (Kd.S_reads' HO_911000.out).2.2 | (with_reducible refine Kd.C_alloc ?_ _) | (with_reducible refine Kd.C_drewN ?_ _) | (with_reducible refine Kd.C_drew ?_))); (case side2 => exact (Kd.S_reads' HO_911000.out).2.1); (case side3 => repeat (first | exact (Kd.R_reads' HO_911001.out).2.2 | (with_reducible refine Kd.C_alloc ?_ _) | (with_reducible refine Kd.C_drewN ?_ _) | (with_reducible refine Kd.C_drew ?_))); (case side4 => exact (Kd.R_reads' HO_911001.out).2.1); rintro e w130 ⟨rfl, hb⟩; refine ⟨_, rfl, ?_⟩; have n0_ := Aside0.mk (Kd.S_below (by (with_reducible repeat (first | apply Kd.S_alloc | apply Kd.S_drewN | apply Kd.S_drew)); exact HO_911000.out) hb); have n1_ := Aside0.mk (Kd.R_below (by (with_reducible repeat (first | apply Kd.R_alloc | apply Kd.R_drewN | apply Kd.R_drew)); exact HO_911001.out) hb); have n2_ := Aside0.mk (blk_below (g := gb897) (o := .cells #[.int .i64 a0_0, .int .i64 a0_1, .bool a0_2] 23 (0, 0)) (by (with_reducible repeat (first | refine blk_drewN ?_ _ | refine blk_drew ?_ | refine blk_alloc ?_ _)); exact BK897.out) hb); have n3_ := Aside0.mk (blk_below (g := gb910) (o := .cells #[.slice Ao128 x911000_86.length co128, .slice Ao129 x911001_86.length co129, .int .i64 x911002_86, .int .i64 x911003_86] 27 (0, 0)) (by (with_reducible repeat (first | refine blk_drewN ?_ _ | refine blk_drew ?_ | refine blk_alloc ?_ _)); exact BK910.out) hb); have n4_ := Aside0.mk (below_step (by repeat (first | (with_reducible first | exact HB.out | apply below_alloc | apply pw_below_drewN | apply below_drew1 | refine below_set ?_ GE897.out | refine below_set ?_ GE910.out) | exact HB.out)) hb); clear HO_911000; clear HO_911001; clear BK897; clear BK910; clear HB; have HO_911000 := n0_; have HO_911001 := n1_; have BK897 := n2_; have BK910 := n3_; have HB := n4_; clear n0_ n1_ n2_ n3_ n4_; (try clear hb); (try clear hb2); (try clear hk); (try clear hi); have hcz131_0 : w130.cell? ⟨gb897, 0, none⟩ = some (.int .i64 a0_0) := (blk_cell BK897.out 0).trans rfl; have hcz131_1 : w130.cell? ⟨gb897, 1, none⟩ = some (.int .i64 a0_1) := (blk_cell BK897.out 1).trans rfl; have hcz131_2 : w130.cell? ⟨gb897, 2, none⟩ = some (.bool a0_2) := (blk_cell BK897.out 2).trans rfl; have hfz131_0 := blk_frozen BK897.out 0; have hfz131_1 := blk_frozen BK897.out 1; have hfz131_2 := blk_frozen BK897.out 2; have hcz132_0 : w130.cell? ⟨gb910, 0, none⟩ = some (.slice Ao128 x911000_86.length co128) := (blk_cell BK910.out 0).trans rfl; have hcz132_1 : w130.cell? ⟨gb910, 1, none⟩ = some (.slice Ao129 x911001_86.length co129) := (blk_cell BK910.out 1).trans rfl; have hcz132_2 : w130.cell? ⟨gb910, 2, none⟩ = some (.int .i64 x911002_86) := (blk_cell BK910.out 2).trans rfl; have hcz132_3 : w130.cell? ⟨gb910, 3, none⟩ = some (.int .i64 x911003_86) := (blk_cell BK910.out 3).trans rfl; have hfz132_0 := blk_frozen BK910.out 0; have hfz132_1 := blk_frozen BK910.out 1; have hfz132_2 := blk_frozen BK910.out 2; have hfz132_3 := blk_frozen BK910.out 3) | (go_at_call 75; (with_reducible refine (queue_Right.calls kj86 _ _ x911000_86 _ _ x911001_86 x911002_86 x911003_86 false _ ?side1 ?side2 ?side3 ?side4 A116.out).mono ?_); (case side1 => repeat (first | exact (Kd.S_reads' HO_911000.out).2.2 | (with_reducible refine Kd.C_alloc ?_ _) | (with_reducible refine Kd.C_drewN ?_ _) | (with_reducible refine Kd.C_drew ?_))); (case side2 => exact (Kd.S_reads' HO_911000.out).2.1); (case side3 => repeat (first | exact (Kd.R_reads' HO_911001.out).2.2 | (with_reducible refine Kd.C_alloc ?_ _) | (with_reducible refine Kd.C_drewN ?_ _) | (with_reducible refine Kd.C_drew ?_))); (case side4 => exact (Kd.R_reads' HO_911001.out).2.1); rintro e w133 ⟨rfl, hb⟩; have n0_ := Aside0.mk (Kd.S_below (by (with_reducible repeat (first | apply Kd.S_alloc | apply Kd.S_drewN | apply Kd.S_drew)); exact HO_911000.out) hb); have n1_ := Aside0.mk (Kd.R_below (by (with_reducible repeat (first | apply Kd.R_alloc | apply Kd.R_drewN | apply Kd.R_drew)); exact HO_911001.out) hb); have n2_ := Aside0.mk (blk_below (g := gb897) (o := .cells #[.int .i64 a0_0, .int .i64 a0_1, .bool a0_2] 23 (0, 0)) (by (with_reducible repeat (first | refine blk_drewN ?_ _ | refine blk_drew ?_ | refine blk_alloc ?_ _)); exact BK897.out) hb); have n3_ := Aside0.mk (blk_below (g := gb910) (o := .cells #[.slice Ao128 x911000_86.length co128, .slice Ao129 x911001_86.length co129, .int .i64 x911002_86, .int .i64 x911003_86] 27 (0, 0)) (by (with_reducible repeat (first | refine blk_drewN ?_ _ | refine blk_drew ?_ | refine blk_alloc ?_ _)); exact BK910.out) hb); have n4_ := Aside0.mk (below_step (by repeat (first | (with_reducible first | exact HB.out | apply below_alloc | apply pw_below_drewN | apply below_drew1 | refine below_set ?_ GE897.out | refine below_set ?_ GE910.out) | exact HB.out)) hb); clear HO_911000; clear HO_911001; clear BK897; clear BK910; clear HB; have HO_911000 := n0_; have HO_911001 := n1_; have BK897 := n2_; have BK910 := n3_; have HB := n4_; clear n0_ n1_ n2_ n3_ n4_; (try clear hb); (try clear hb2); (try clear hk); (try clear hi)))
                                                go_ret
                                                exact ⟨by first | rfl | (simp [errW_none, errW_some] <;> rfl) | (simp [*, errW_none, errW_some] <;> rfl), by repeat (first | (with_reducible first | exact HB.out | apply below_alloc | apply pw_below_drewN | apply below_drew1 | refine below_set ?_ GE897.out | refine below_set ?_ GE910.out) | exact HB.out)⟩
                  · rw [if_neg c22] at H
                    exact absurd H (by simp)
                · rw [if_neg c21] at H
                  exact absurd H (by simp)
              · replace c20 := Bool.eq_false_iff.mpr c20
                subst c20
                have H1 : ((counterfoillaw13_awake.f kj17).bind fun t911 => (some t911)) = some r := by rw [if_neg (show ¬ (false = true) by decide)] at H; exact H
                clear H
                have H := H1
                clear H1
                replace H := Option.bind_eq_some_iff.mp H
                obtain ⟨t911, A1340, H⟩ := H
                replace H : (some t911) = some r := H
                have A134 := Aside0.mk A1340
                clear A1340
                obtain rfl := Option.some.inj H
                go_wp2_with (first | ((with_reducible refine gate_callee (f := 31) rfl ?_); refine goesL_ (some 143) rfl rfl Try.func31 (by kernel_rfl) rfl #[] rfl (by (try simp only [List.map_toArray, List.map_cons, List.map_nil]); first | done | rfl | (simp only [List.length_drop, List.length_take]; rfl)) ?_; (with_reducible refine (counterfoillaw13_awake.calls kj17  t911 _ A134.out).mono ?_); rintro e w135 ⟨rfl, hb⟩; refine ⟨_, rfl, ?_⟩; have n0_ := Aside0.mk (Kd.S_below (by (with_reducible repeat (first | apply Kd.S_alloc | apply Kd.S_drewN | apply Kd.S_drew)); exact HO_911000.out) hb); have n1_ := Aside0.mk (Kd.R_below (by (with_reducible repeat (first | apply Kd.R_alloc | apply Kd.R_drewN | apply Kd.R_drew)); exact HO_911001.out) hb); have n2_ := Aside0.mk (blk_below (g := gb897) (o := .cells #[.int .i64 a0_0, .int .i64 a0_1, .bool a0_2] 23 (0, 0)) (by (with_reducible repeat (first | refine blk_drewN ?_ _ | refine blk_drew ?_ | refine blk_alloc ?_ _)); exact BK897.out) hb); have n3_ := Aside0.mk (blk_below (g := gb910) (o := .cells #[u911000, u911001, .int .i64 x911002_1, .int .i64 x911003_1] 27 (0, 0)) (by (with_reducible repeat (first | refine blk_drewN ?_ _ | refine blk_drew ?_ | refine blk_alloc ?_ _)); exact BK910.out) hb); have n4_ := Aside0.mk (below_step (by repeat (first | (with_reducible first | exact HB.out | apply below_alloc | apply pw_below_drewN | apply below_drew1 | refine below_set ?_ GE897.out | refine below_set ?_ GE910.out) | exact HB.out)) hb); clear HO_911000; clear HO_911001; clear BK897; clear BK910; clear HB; have HO_911000 := n0_; have HO_911001 := n1_; have BK897 := n2_; have BK910 := n3_; have HB := n4_; clear n0_ n1_ n2_ n3_ n4_; (try clear hb); (try clear hb2); (try clear hk); (try clear hi)))
                go_ret
                exact ⟨by first | rfl | (simp [errW_none, errW_some] <;> rfl) | (simp [*, errW_none, errW_some] <;> rfl), by repeat (first | (with_reducible first | exact HB.out | apply below_alloc | apply pw_below_drewN | apply below_drew1 | refine below_set ?_ GE897.out | refine below_set ?_ GE910.out) | exact HB.out)⟩
    · rw [if_neg c8] at H
      have c8b0 : (t909 == 0) = false := beq_eq_false_iff_ne.mpr c8
      have c8b1 : (t909 != 0) = true := bne_iff_ne.mpr c8
      obtain rfl := Option.some.inj H
      go_enter Try.func23, Try.ntmps23
      go_wp2_with (first | ((with_reducible refine gate_dst (N := 4) rfl ?_); (try (refine gate_guard (by rfl) ?_; dsimp only)); refine box_event ?hg (N := 4) ?hd (cs := #[.int .i64 a0_0, .int .i64 a0_1, .bool a0_2]) (t := 23) ?hr ?_; (case hd => rfl); (case hg => rfl); (case hr => first | (go_simp; done) | (go_simp; rfl)); intro gb897 hg w136 hbox hb; have n0_ := Aside0.mk (below_step (by repeat (first | (with_reducible first | exact HB.out | apply below_alloc | apply pw_below_drewN | apply below_drew1) | exact HB.out)) hb); have n1_ := Aside0.mk (hbox); have n2_ := Aside0.mk ((by rw [hg]; exact (below_size (by repeat (first | (with_reducible first | exact HB.out | apply below_alloc | apply pw_below_drewN | apply below_drew1) | exact HB.out))) : w.heap.size ≤ gb897)); have n3_ := Aside0.mk ((by rw [hg]; exact (below_size (by repeat (first | (with_reducible first | exact HB.out | apply below_alloc | apply pw_below_drewN | apply below_drew1) | exact HB.out))) : w.heap.size ≤ gb897)); clear HB; have HB := n0_; have BK897 := n1_; have GW897 := n2_; have GE897 := n3_; clear n0_ n1_ n2_ n3_; clear hb hbox hg; have hcz137_0 : w136.cell? ⟨gb897, 0, none⟩ = some (.int .i64 a0_0) := (blk_cell BK897.out 0).trans rfl; have hcz137_1 : w136.cell? ⟨gb897, 1, none⟩ = some (.int .i64 a0_1) := (blk_cell BK897.out 1).trans rfl; have hcz137_2 : w136.cell? ⟨gb897, 2, none⟩ = some (.bool a0_2) := (blk_cell BK897.out 2).trans rfl; have hfz137_0 := blk_frozen BK897.out 0; have hfz137_1 := blk_frozen BK897.out 1; have hfz137_2 := blk_frozen BK897.out 2) | ((with_reducible refine gate_callee (f := 34) rfl ?_); refine goesL_ (some 15) rfl rfl Try.func34 (by kernel_rfl) rfl #[.agg #[.int .i64 a0_0, .int .i64 a0_1, .bool a0_2]] rfl (by (try simp only [List.map_toArray, List.map_cons, List.map_nil]); first | done | rfl | (simp only [List.length_drop, List.length_take]; rfl)) ?_; (with_reducible refine (lag_Right.calls a0_0 a0_1 a0_2 true _ A5.out).mono ?_); rintro e w138 ⟨rfl, hb⟩; refine ⟨_, rfl, ?_⟩; have n0_ := Aside0.mk (blk_below (g := gb897) (o := .cells #[.int .i64 a0_0, .int .i64 a0_1, .bool a0_2] 23 (0, 0)) (by (with_reducible repeat (first | refine blk_drewN ?_ _ | refine blk_drew ?_ | refine blk_alloc ?_ _)); exact BK897.out) hb); have n1_ := Aside0.mk (below_step (by repeat (first | (with_reducible first | exact HB.out | apply below_alloc | apply pw_below_drewN | apply below_drew1 | refine below_set ?_ GE897.out) | exact HB.out)) hb); clear BK897; clear HB; have BK897 := n0_; have HB := n1_; clear n0_ n1_; (try clear hb); (try clear hb2); (try clear hk); (try clear hi)) | ((with_reducible refine gate_callee (f := 71) rfl ?_); refine goesL_ (some 25) rfl rfl Try.func71 (by kernel_rfl) rfl #[.int .i64 0] rfl (by (try simp only [List.map_toArray, List.map_cons, List.map_nil]); first | done | rfl | (simp only [List.length_drop, List.length_take]; rfl)) ?_; (with_reducible refine (queue_New.calls 0 t901 t904 t907 t908 t909 _ A7.out).mono ?_); rintro e w139 ⟨v902, v905, rfl, ho0, ho1, hb⟩; refine ⟨_, rfl, ?_⟩; have n0_ := Aside0.mk (Kd.S_lower ho0 (below_size (by repeat (first | (with_reducible first | exact HB.out | apply below_alloc | apply pw_below_drewN | apply below_drew1 | refine below_set ?_ GE897.out) | exact HB.out)))); have n1_ := Aside0.mk (Kd.R_lower ho1 (below_size (by repeat (first | (with_reducible first | exact HB.out | apply below_alloc | apply pw_below_drewN | apply below_drew1 | refine below_set ?_ GE897.out) | exact HB.out)))); have n2_ := Aside0.mk (blk_below (g := gb897) (o := .cells #[.int .i64 a0_0, .int .i64 a0_1, .bool a0_2] 23 (0, 0)) (by (with_reducible repeat (first | refine blk_drewN ?_ _ | refine blk_drew ?_ | refine blk_alloc ?_ _)); exact BK897.out) hb); have n3_ := Aside0.mk (below_step (by repeat (first | (with_reducible first | exact HB.out | apply below_alloc | apply pw_below_drewN | apply below_drew1 | refine below_set ?_ GE897.out) | exact HB.out)) hb); clear BK897; clear HB; have HO903 := n0_; have HO906 := n1_; have BK897 := n2_; have HB := n3_; clear n0_ n1_ n2_ n3_; (try clear hb); (try clear hb2); (try clear hk); (try clear hi); (try clear ho0); (try clear ho1)) | ((with_reducible refine gate_dst (N := 9) rfl ?_); (try (refine gate_guard (by rfl) ?_; dsimp only)); refine box_event ?hg (N := 9) ?hd (cs := #[.slice none 0 0, .slice none 0 0, .int .i64 0, .int .i64 0]) (t := 27) ?hr ?_; (case hd => rfl); (case hg => rfl); (case hr => first | (go_simp; done) | (go_simp; rfl)); intro gb910 hg w140 hbox hb; have n0_ := Aside0.mk (Kd.S_below (by (with_reducible repeat (first | apply Kd.S_alloc | apply Kd.S_drewN | apply Kd.S_drew)); exact HO903.out) hb); have n1_ := Aside0.mk (Kd.R_below (by (with_reducible repeat (first | apply Kd.R_alloc | apply Kd.R_drewN | apply Kd.R_drew)); exact HO906.out) hb); have n2_ := Aside0.mk (blk_below (g := gb897) (o := .cells #[.int .i64 a0_0, .int .i64 a0_1, .bool a0_2] 23 (0, 0)) (by (with_reducible repeat (first | refine blk_drewN ?_ _ | refine blk_drew ?_ | refine blk_alloc ?_ _)); exact BK897.out) hb); have n3_ := Aside0.mk (below_step (by repeat (first | (with_reducible first | exact HB.out | apply below_alloc | apply pw_below_drewN | apply below_drew1 | refine below_set ?_ GE897.out) | exact HB.out)) hb); have n4_ := Aside0.mk (hbox); have n5_ := Aside0.mk ((by rw [hg]; exact (below_size (by repeat (first | (with_reducible first | exact HB.out | apply below_alloc | apply pw_below_drewN | apply below_drew1 | refine below_set ?_ GE897.out) | exact HB.out))) : w.heap.size ≤ gb910)); have n6_ := Aside0.mk ((by rw [hg]; exact (below_size (by repeat (first | (with_reducible first | exact HB.out | apply below_alloc | apply pw_below_drewN | apply below_drew1 | refine below_set ?_ GE897.out) | exact HB.out))) : w.heap.size ≤ gb910)); have n7_ := Aside0.mk ((by rw [hg]; exact Nat.ne_of_lt (blk_lt (g := gb897) (o := .cells #[.int .i64 a0_0, .int .i64 a0_1, .bool a0_2] 23 (0, 0)) (by (with_reducible repeat (first | refine blk_drewN ?_ _ | refine blk_drew ?_ | refine blk_alloc ?_ _)); exact BK897.out)) : gb897 ≠ gb910)); have n8_ := Aside0.mk ((by rw [hg]; exact Nat.ne_of_gt (blk_lt (g := gb897) (o := .cells #[.int .i64 a0_0, .int .i64 a0_1, .bool a0_2] 23 (0, 0)) (by (with_reducible repeat (first | refine blk_drewN ?_ _ | refine blk_drew ?_ | refine blk_alloc ?_ _)); exact BK897.out)) : gb910 ≠ gb897)); clear HO903; clear HO906; clear BK897; clear HB; have HO903 := n0_; have HO906 := n1_; have BK897 := n2_; have HB := n3_; have BK910 := n4_; have GW910 := n5_; have GE910 := n6_; have NB897_910 := n7_; have NB910_897 := n8_; clear n0_ n1_ n2_ n3_ n4_ n5_ n6_ n7_ n8_; clear hb hbox hg; obtain ⟨Ao141, co141, eo141⟩ := Kd.S_slice HO903.out; subst eo141; have hnb142 := NB910_897.out; have hnc142 := NB897_910.out; have hcz143_0 : w140.cell? ⟨gb910, 0, none⟩ = some (.slice none 0 0) := (blk_cell BK910.out 0).trans rfl; have hcz143_1 : w140.cell? ⟨gb910, 1, none⟩ = some (.slice none 0 0) := (blk_cell BK910.out 1).trans rfl; have hcz143_2 : w140.cell? ⟨gb910, 2, none⟩ = some (.int .i64 0) := (blk_cell BK910.out 2).trans rfl; have hcz143_3 : w140.cell? ⟨gb910, 3, none⟩ = some (.int .i64 0) := (blk_cell BK910.out 3).trans rfl; have hfz143_0 := blk_frozen BK910.out 0; have hfz143_1 := blk_frozen BK910.out 1; have hfz143_2 := blk_frozen BK910.out 2; have hfz143_3 := blk_frozen BK910.out 3; obtain ⟨Ao144, co144, eo144⟩ := Kd.R_slice HO906.out; subst eo144))
      go_ret
      exact ⟨by first | rfl | (simp [errW_none, errW_some] <;> rfl) | (simp [*, errW_none, errW_some] <;> rfl), by repeat (first | (with_reducible first | exact HB.out | apply below_alloc | apply pw_below_drewN | apply below_drew1 | refine below_set ?_ GE897.out | refine below_set ?_ GE910.out) | exact HB.out)⟩
  · replace c6 := Bool.eq_false_iff.mpr c6
    subst c6
    have H1 : ((lag_Judge.f k a0_0 a0_1 a0_2 ([] : List (S99)) ([] : List (S74)) 0 0 ([] : List (S74))).bind fun t899 => (if t899 = 0 then ((counterfoillaw13_awake.f k).bind fun t900 => (some t900)) else (some false))) = some r := by rw [if_neg (show ¬ (false = true) by decide)] at H; exact H
    clear H
    have H := H1
    clear H1
    replace H := Option.bind_eq_some_iff.mp H
    obtain ⟨t899, A1450, H⟩ := H
    replace H : (if t899 = 0 then ((counterfoillaw13_awake.f k).bind fun t900 => (some t900)) else (some false)) = some r := H
    have A145 := Aside0.mk A1450
    clear A1450
    by_cases c146 : t899 = 0
    · rw [if_pos c146] at H
      have c146b0 : (t899 == 0) = true := beq_iff_eq.mpr c146
      have c146b1 : (t899 != 0) = false := bne_eq_false_iff_eq.mpr c146
      clear c146
      replace H := Option.bind_eq_some_iff.mp H
      obtain ⟨t900, A1470, H⟩ := H
      replace H : (some t900) = some r := H
      have A147 := Aside0.mk A1470
      clear A1470
      obtain rfl := Option.some.inj H
      go_enter Try.func23, Try.ntmps23
      go_wp2_with (first | ((with_reducible refine gate_dst (N := 4) rfl ?_); (try (refine gate_guard (by rfl) ?_; dsimp only)); refine box_event ?hg (N := 4) ?hd (cs := #[.int .i64 a0_0, .int .i64 a0_1, .bool a0_2]) (t := 23) ?hr ?_; (case hd => rfl); (case hg => rfl); (case hr => first | (go_simp; done) | (go_simp; rfl)); intro gb897 hg w148 hbox hb; have n0_ := Aside0.mk (below_step (by repeat (first | (with_reducible first | exact HB.out | apply below_alloc | apply pw_below_drewN | apply below_drew1) | exact HB.out)) hb); have n1_ := Aside0.mk (hbox); have n2_ := Aside0.mk ((by rw [hg]; exact (below_size (by repeat (first | (with_reducible first | exact HB.out | apply below_alloc | apply pw_below_drewN | apply below_drew1) | exact HB.out))) : w.heap.size ≤ gb897)); have n3_ := Aside0.mk ((by rw [hg]; exact (below_size (by repeat (first | (with_reducible first | exact HB.out | apply below_alloc | apply pw_below_drewN | apply below_drew1) | exact HB.out))) : w.heap.size ≤ gb897)); clear HB; have HB := n0_; have BK897 := n1_; have GW897 := n2_; have GE897 := n3_; clear n0_ n1_ n2_ n3_; clear hb hbox hg; have hcz149_0 : w148.cell? ⟨gb897, 0, none⟩ = some (.int .i64 a0_0) := (blk_cell BK897.out 0).trans rfl; have hcz149_1 : w148.cell? ⟨gb897, 1, none⟩ = some (.int .i64 a0_1) := (blk_cell BK897.out 1).trans rfl; have hcz149_2 : w148.cell? ⟨gb897, 2, none⟩ = some (.bool a0_2) := (blk_cell BK897.out 2).trans rfl; have hfz149_0 := blk_frozen BK897.out 0; have hfz149_1 := blk_frozen BK897.out 1; have hfz149_2 := blk_frozen BK897.out 2) | ((with_reducible refine gate_callee (f := 34) rfl ?_); refine goesL_ (some 15) rfl rfl Try.func34 (by kernel_rfl) rfl #[.agg #[.int .i64 a0_0, .int .i64 a0_1, .bool a0_2]] rfl (by (try simp only [List.map_toArray, List.map_cons, List.map_nil]); first | done | rfl | (simp only [List.length_drop, List.length_take]; rfl)) ?_; (with_reducible refine (lag_Right.calls a0_0 a0_1 a0_2 false _ A5.out).mono ?_); rintro e w150 ⟨rfl, hb⟩; refine ⟨_, rfl, ?_⟩; have n0_ := Aside0.mk (blk_below (g := gb897) (o := .cells #[.int .i64 a0_0, .int .i64 a0_1, .bool a0_2] 23 (0, 0)) (by (with_reducible repeat (first | refine blk_drewN ?_ _ | refine blk_drew ?_ | refine blk_alloc ?_ _)); exact BK897.out) hb); have n1_ := Aside0.mk (below_step (by repeat (first | (with_reducible first | exact HB.out | apply below_alloc | apply pw_below_drewN | apply below_drew1 | refine below_set ?_ GE897.out) | exact HB.out)) hb); clear BK897; clear HB; have BK897 := n0_; have HB := n1_; clear n0_ n1_; (try clear hb); (try clear hb2); (try clear hk); (try clear hi); have hcz151_0 : w150.cell? ⟨gb897, 0, none⟩ = some (.int .i64 a0_0) := (blk_cell BK897.out 0).trans rfl; have hcz151_1 : w150.cell? ⟨gb897, 1, none⟩ = some (.int .i64 a0_1) := (blk_cell BK897.out 1).trans rfl; have hcz151_2 : w150.cell? ⟨gb897, 2, none⟩ = some (.bool a0_2) := (blk_cell BK897.out 2).trans rfl; have hfz151_0 := blk_frozen BK897.out 0; have hfz151_1 := blk_frozen BK897.out 1; have hfz151_2 := blk_frozen BK897.out 2) | ((with_reducible refine gate_callee (f := 32) rfl ?_); refine goesL_ (some 19) rfl rfl Try.func32 (by kernel_rfl) rfl #[.agg #[.int .i64 a0_0, .int .i64 a0_1, .bool a0_2], .agg #[.slice none 0 0, .slice none 0 0, .int .i64 0, .int .i64 0], .slice none 0 0] rfl (by (try simp only [List.map_toArray, List.map_cons, List.map_nil]); first | done | rfl | (simp only [List.length_drop, List.length_take]; rfl)) ?_; (refine (lag_Judge.calls k a0_0 a0_1 a0_2 _ _ ([] : List (S99)) _ _ ([] : List (S74)) 0 0 _ _ ([] : List (S74)) t899 _ ?side1 ?side2 ?side3 ?side4 ?side5 ?side6 A145.out).mono ?_); (case side1 => exact Kd.C_nil _ _); (case side2 => exact Nat.le_refl _); (case side3 => exact Kd.C_nil _ _); (case side4 => exact Nat.le_refl _); (case side5 => exact Kd.C_nil _ _); (case side6 => exact Nat.le_refl _); rintro e w152 ⟨rfl, hb⟩; refine ⟨_, rfl, ?_⟩; have n0_ := Aside0.mk (blk_below (g := gb897) (o := .cells #[.int .i64 a0_0, .int .i64 a0_1, .bool a0_2] 23 (0, 0)) (by (with_reducible repeat (first | refine blk_drewN ?_ _ | refine blk_drew ?_ | refine blk_alloc ?_ _)); exact BK897.out) hb); have n1_ := Aside0.mk (below_step (by repeat (first | (with_reducible first | exact HB.out | apply below_alloc | apply pw_below_drewN | apply below_drew1 | refine below_set ?_ GE897.out) | exact HB.out)) hb); clear BK897; clear HB; have BK897 := n0_; have HB := n1_; clear n0_ n1_; (try clear hb); (try clear hb2); (try clear hk); (try clear hi)) | (go_at_call 31; (with_reducible refine (counterfoillaw13_awake.calls k  t900 _ A147.out).mono ?_); rintro e w153 ⟨rfl, hb⟩; have n0_ := Aside0.mk (blk_below (g := gb897) (o := .cells #[.int .i64 a0_0, .int .i64 a0_1, .bool a0_2] 23 (0, 0)) (by (with_reducible repeat (first | refine blk_drewN ?_ _ | refine blk_drew ?_ | refine blk_alloc ?_ _)); exact BK897.out) hb); have n1_ := Aside0.mk (below_step (by repeat (first | (with_reducible first | exact HB.out | apply below_alloc | apply pw_below_drewN | apply below_drew1 | refine below_set ?_ GE897.out) | exact HB.out)) hb); clear BK897; clear HB; have BK897 := n0_; have HB := n1_; clear n0_ n1_; (try clear hb); (try clear hb2); (try clear hk); (try clear hi)))
      go_ret
      exact ⟨by first | rfl | (simp [errW_none, errW_some] <;> rfl) | (simp [*, errW_none, errW_some] <;> rfl), by repeat (first | (with_reducible first | exact HB.out | apply below_alloc | apply pw_below_drewN | apply below_drew1 | refine below_set ?_ GE897.out) | exact HB.out)⟩
    · rw [if_neg c146] at H
      have c146b0 : (t899 == 0) = false := beq_eq_false_iff_ne.mpr c146
      have c146b1 : (t899 != 0) = true := bne_iff_ne.mpr c146
      obtain rfl := Option.some.inj H
      go_enter Try.func23, Try.ntmps23
      go_wp2_with (first | ((with_reducible refine gate_dst (N := 4) rfl ?_); (try (refine gate_guard (by rfl) ?_; dsimp only)); refine box_event ?hg (N := 4) ?hd (cs := #[.int .i64 a0_0, .int .i64 a0_1, .bool a0_2]) (t := 23) ?hr ?_; (case hd => rfl); (case hg => rfl); (case hr => first | (go_simp; done) | (go_simp; rfl)); intro gb897 hg w154 hbox hb; have n0_ := Aside0.mk (below_step (by repeat (first | (with_reducible first | exact HB.out | apply below_alloc | apply pw_below_drewN | apply below_drew1) | exact HB.out)) hb); have n1_ := Aside0.mk (hbox); have n2_ := Aside0.mk ((by rw [hg]; exact (below_size (by repeat (first | (with_reducible first | exact HB.out | apply below_alloc | apply pw_below_drewN | apply below_drew1) | exact HB.out))) : w.heap.size ≤ gb897)); have n3_ := Aside0.mk ((by rw [hg]; exact (below_size (by repeat (first | (with_reducible first | exact HB.out | apply below_alloc | apply pw_below_drewN | apply below_drew1) | exact HB.out))) : w.heap.size ≤ gb897)); clear HB; have HB := n0_; have BK897 := n1_; have GW897 := n2_; have GE897 := n3_; clear n0_ n1_ n2_ n3_; clear hb hbox hg; have hcz155_0 : w154.cell? ⟨gb897, 0, none⟩ = some (.int .i64 a0_0) := (blk_cell BK897.out 0).trans rfl; have hcz155_1 : w154.cell? ⟨gb897, 1, none⟩ = some (.int .i64 a0_1) := (blk_cell BK897.out 1).trans rfl; have hcz155_2 : w154.cell? ⟨gb897, 2, none⟩ = some (.bool a0_2) := (blk_cell BK897.out 2).trans rfl; have hfz155_0 := blk_frozen BK897.out 0; have hfz155_1 := blk_frozen BK897.out 1; have hfz155_2 := blk_frozen BK897.out 2) | ((with_reducible refine gate_callee (f := 34) rfl ?_); refine goesL_ (some 15) rfl rfl Try.func34 (by kernel_rfl) rfl #[.agg #[.int .i64 a0_0, .int .i64 a0_1, .bool a0_2]] rfl (by (try simp only [List.map_toArray, List.map_cons, List.map_nil]); first | done | rfl | (simp only [List.length_drop, List.length_take]; rfl)) ?_; (with_reducible refine (lag_Right.calls a0_0 a0_1 a0_2 false _ A5.out).mono ?_); rintro e w156 ⟨rfl, hb⟩; refine ⟨_, rfl, ?_⟩; have n0_ := Aside0.mk (blk_below (g := gb897) (o := .cells #[.int .i64 a0_0, .int .i64 a0_1, .bool a0_2] 23 (0, 0)) (by (with_reducible repeat (first | refine blk_drewN ?_ _ | refine blk_drew ?_ | refine blk_alloc ?_ _)); exact BK897.out) hb); have n1_ := Aside0.mk (below_step (by repeat (first | (with_reducible first | exact HB.out | apply below_alloc | apply pw_below_drewN | apply below_drew1 | refine below_set ?_ GE897.out) | exact HB.out)) hb); clear BK897; clear HB; have BK897 := n0_; have HB := n1_; clear n0_ n1_; (try clear hb); (try clear hb2); (try clear hk); (try clear hi); have hcz157_0 : w156.cell? ⟨gb897, 0, none⟩ = some (.int .i64 a0_0) := (blk_cell BK897.out 0).trans rfl; have hcz157_1 : w156.cell? ⟨gb897, 1, none⟩ = some (.int .i64 a0_1) := (blk_cell BK897.out 1).trans rfl; have hcz157_2 : w156.cell? ⟨gb897, 2, none⟩ = some (.bool a0_2) := (blk_cell BK897.out 2).trans rfl; have hfz157_0 := blk_frozen BK897.out 0; have hfz157_1 := blk_frozen BK897.out 1; have hfz157_2 := blk_frozen BK897.out 2) | ((with_reducible refine gate_callee (f := 32) rfl ?_); refine goesL_ (some 19) rfl rfl Try.func32 (by kernel_rfl) rfl #[.agg #[.int .i64 a0_0, .int .i64 a0_1, .bool a0_2], .agg #[.slice none 0 0, .slice none 0 0, .int .i64 0, .int .i64 0], .slice none 0 0] rfl (by (try simp only [List.map_toArray, List.map_cons, List.map_nil]); first | done | rfl | (simp only [List.length_drop, List.length_take]; rfl)) ?_; (refine (lag_Judge.calls k a0_0 a0_1 a0_2 _ _ ([] : List (S99)) _ _ ([] : List (S74)) 0 0 _ _ ([] : List (S74)) t899 _ ?side1 ?side2 ?side3 ?side4 ?side5 ?side6 A145.out).mono ?_); (case side1 => exact Kd.C_nil _ _); (case side2 => exact Nat.le_refl _); (case side3 => exact Kd.C_nil _ _); (case side4 => exact Nat.le_refl _); (case side5 => exact Kd.C_nil _ _); (case side6 => exact Nat.le_refl _); rintro e w158 ⟨rfl, hb⟩; refine ⟨_, rfl, ?_⟩; have n0_ := Aside0.mk (blk_below (g := gb897) (o := .cells #[.int .i64 a0_0, .int .i64 a0_1, .bool a0_2] 23 (0, 0)) (by (with_reducible repeat (first | refine blk_drewN ?_ _ | refine blk_drew ?_ | refine blk_alloc ?_ _)); exact BK897.out) hb); have n1_ := Aside0.mk (below_step (by repeat (first | (with_reducible first | exact HB.out | apply below_alloc | apply pw_below_drewN | apply below_drew1 | refine below_set ?_ GE897.out) | exact HB.out)) hb); clear BK897; clear HB; have BK897 := n0_; have HB := n1_; clear n0_ n1_; (try clear hb); (try clear hb2); (try clear hk); (try clear hi)))
      go_ret
      exact ⟨by first | rfl | (simp [errW_none, errW_some] <;> rfl) | (simp [*, errW_none, errW_some] <;> rfl), by repeat (first | (with_reducible first | exact HB.out | apply below_alloc | apply pw_below_drewN | apply below_drew1 | refine below_set ?_ GE897.out) | exact HB.out)⟩
def counterfoillaw13_LagBounds.Pure : Prop := ∀ (a0_0 : Int) (a0_1 : Int) (a0_2 : Bool) (l1 : List (List (S74))) (l2 : List Bool) (l3 : List Bool), (Lit.int .i64 a0_0).wf = true → (Lit.int .i64 a0_1).wf = true → (l1.length * 24 ≤ 140737488351232 ∧ l1.length ≤ maxLen ∧ ∀ x ∈ l1, (fun xs : List (S74) => xs.length * 32 ≤ 140737488351232 ∧ xs.length ≤ maxLen ∧ ∀ x ∈ xs, good74 x) x) → (l2.length * 1 ≤ 140737488351232 ∧ l2.length ≤ maxLen ∧ ∀ x ∈ l2, (fun _ : Bool => True) x) → (l3.length * 1 ≤ 140737488351232 ∧ l3.length ≤ maxLen ∧ ∀ x ∈ l3, (fun _ : Bool => True) x) → ∃ k, counterfoillaw13_LagBounds.f k a0_0 a0_1 a0_2 l1 l2 l3 = some true
end Go.Proofs.Ythdhkoeaadahaaa.P
