-- MADE BY wip/kit/myprint.py for this seat
import Derived.Test.YtlkfmmjoiadoiaaPx0
import Derived.Test.YtlkfmmjoiadoiaaPx10
import Derived.Test.YtlkfmmjoiadoiaaPx15
import Derived.Test.YtlkfmmjoiadoiaaPx18
import Derived.Test.YtlkfmmjoiadoiaaPx19
import Derived.Test.YtlkfmmjoiadoiaaPx21
import Derived.Test.YtlkfmmjoiadoiaaPx6
import Derived.Test.YtlkfmmjoiadoiaaPx8
import Derived.Test.YtlkfmmjoiadoiaaEWrap
import Derived.Test.YtlkfmmjoiadoiaaGood
namespace Go.Proofs.Ytlkfmmjoiadoiaa.P
open Go.RowKit Go.Proofs.YtlkfmmjoiadoiaaW.PrintWords Go.Proofs.YtlkfmmjoiadoiaaW.PrintLast Go.Proofs.YtlkfmmjoiadoiaaW.PrintMore
attribute [local go_sem] max2_int min2_int max_two min_two max_three min_three max_four min_four   -- for this text's walks alone
set_option linter.unusedVariables false
set_option linter.unusedSimpArgs false

/-! ### counterfoillaw11_LineCommon: function 8 -/
mutual
def counterfoillaw11_LineCommon.j0 : Nat → Bool → List (S61) → Int → List (S61) → Int → Option (Bool)
  | 0, _, _, _, _, _ => none
  | k + 1, x17, x206000, x206001, x207000, x207001 => if x17 = true then ((counterfoillaw11_awake.f k).bind fun t207 => (some t207)) else ((counterfoilref11_Common.f k x206000 x206001 x207000 x207001).bind fun t208 => ((counterfoilref11_Placed.f k x206000 x206001).bind fun t209 => (if t209 = true then ((counterfoilref11_Placed.f k x207000 x207001).bind fun t210 => (if t210 = true then (counterfoillaw11_LineCommon.j1 k t208 (t208 == x206001) x206000 x206001 x207000 x207001) else (counterfoillaw11_LineCommon.j1 k t208 false x206000 x206001 x207000 x207001))) else (counterfoillaw11_LineCommon.j1 k t208 false x206000 x206001 x207000 x207001))))
def counterfoillaw11_LineCommon.j1 : Nat → Int → Bool → List (S61) → Int → List (S61) → Int → Option (Bool)
  | 0, _, _, _, _, _, _ => none
  | k + 1, x5, x6, x206000, x206001, x207000, x207001 => (counterfoilref11_Placed.f k x206000 x206001).bind fun t211 => (if t211 = true then (if x206001 = x207001 then ((counterfoilref11_Equal.f k x206000 x207000).bind fun t212 => (counterfoillaw11_LineCommon.j2 k x5 x6 t212 x206000 x206001 x207000 x207001)) else (counterfoillaw11_LineCommon.j2 k x5 x6 false x206000 x206001 x207000 x207001)) else (counterfoillaw11_LineCommon.j2 k x5 x6 false x206000 x206001 x207000 x207001))
def counterfoillaw11_LineCommon.j2 : Nat → Int → Bool → Bool → List (S61) → Int → List (S61) → Int → Option (Bool)
  | 0, _, _, _, _, _, _, _ => none
  | k + 1, x5, x6, x7, x206000, x206001, x207000, x207001 => (line_Common.f k x206000 x206001 x207000 x207001).bind fun t213 => (if t213 = x5 then ((line_Common.f k x207000 x207001 x206000 x206001).bind fun t214 => (if t214 = x5 then ((line_Ahead.f k x206000 x206001 x207000 x207001).bind fun t215 => (if (t215 == x6) = true then ((line_Same.f k x206000 x206001 x207000 x207001).bind fun t216 => (if (t216 == x7) = true then ((counterfoillaw11_awake.f k).bind fun t217 => (some t217)) else (some false))) else (some false))) else (some false))) else (some false))
end
def counterfoillaw11_LineCommon.f (k : Nat) (l0_0 : List (S61)) (a0_1 : Int) (l1_0 : List (S61)) (a1_1 : Int) : Option (Bool) := if (l0_0.length : Int) > 100 then (counterfoillaw11_LineCommon.j0 k true l0_0 a0_1 l1_0 a1_1) else (counterfoillaw11_LineCommon.j0 k (decide ((l1_0.length : Int) > 100)) l0_0 a0_1 l1_0 a1_1)
theorem counterfoillaw11_LineCommon.mono_l : ∀ k, (∀ y0 y1 y2 y3 y4, LeO (counterfoillaw11_LineCommon.j0 k y0 y1 y2 y3 y4) (counterfoillaw11_LineCommon.j0 (k + 1) y0 y1 y2 y3 y4)) ∧ (∀ y0 y1 y2 y3 y4 y5, LeO (counterfoillaw11_LineCommon.j1 k y0 y1 y2 y3 y4 y5) (counterfoillaw11_LineCommon.j1 (k + 1) y0 y1 y2 y3 y4 y5)) ∧ (∀ y0 y1 y2 y3 y4 y5 y6, LeO (counterfoillaw11_LineCommon.j2 k y0 y1 y2 y3 y4 y5 y6) (counterfoillaw11_LineCommon.j2 (k + 1) y0 y1 y2 y3 y4 y5 y6))
  | 0 => ⟨fun _ _ _ _ _ r h => by simp [counterfoillaw11_LineCommon.j0] at h, fun _ _ _ _ _ _ r h => by simp [counterfoillaw11_LineCommon.j1] at h, fun _ _ _ _ _ _ _ r h => by simp [counterfoillaw11_LineCommon.j2] at h⟩
  | k + 1 => by
    obtain ⟨ih0, ih1, ih2⟩ := counterfoillaw11_LineCommon.mono_l k
    refine ⟨?_, ?_, ?_⟩
    · intro y0 y1 y2 y3 y4
      unfold counterfoillaw11_LineCommon.j0
      repeat' first
      | (with_reducible exact ih0 _ _ _ _ _)
      | (with_reducible exact ih1 _ _ _ _ _ _)
      | (with_reducible exact ih2 _ _ _ _ _ _ _)
      | (with_reducible exact counterfoillaw11_awake.mono _)
      | (with_reducible exact counterfoilref11_Common.mono _ _ _ _ _)
      | (with_reducible exact counterfoilref11_Equal.mono _ _ _)
      | (with_reducible exact counterfoilref11_Placed.mono _ _ _)
      | (with_reducible exact line_Ahead.mono _ _ _ _ _)
      | (with_reducible exact line_Common.mono _ _ _ _ _)
      | (with_reducible exact line_Same.mono _ _ _ _ _)
      | (with_reducible exact LeO.refl _)
      | (with_reducible exact LeO.none _)
      | (with_reducible refine LeO.ite ?_ ?_)
      | (with_reducible refine LeO.bind ?_ (fun _ => ?_))
      | exact ih0 _ _ _ _ _
      | exact ih1 _ _ _ _ _ _
      | exact ih2 _ _ _ _ _ _ _
      | exact counterfoillaw11_awake.mono _
      | exact counterfoilref11_Common.mono _ _ _ _ _
      | exact counterfoilref11_Equal.mono _ _ _
      | exact counterfoilref11_Placed.mono _ _ _
      | exact line_Ahead.mono _ _ _ _ _
      | exact line_Common.mono _ _ _ _ _
      | exact line_Same.mono _ _ _ _ _
      | exact LeO.none _
      | refine LeO.ite ?_ ?_
      | refine LeO.bind ?_ (fun _ => ?_)
    · intro y0 y1 y2 y3 y4 y5
      unfold counterfoillaw11_LineCommon.j1
      repeat' first
      | (with_reducible exact ih0 _ _ _ _ _)
      | (with_reducible exact ih1 _ _ _ _ _ _)
      | (with_reducible exact ih2 _ _ _ _ _ _ _)
      | (with_reducible exact counterfoillaw11_awake.mono _)
      | (with_reducible exact counterfoilref11_Common.mono _ _ _ _ _)
      | (with_reducible exact counterfoilref11_Equal.mono _ _ _)
      | (with_reducible exact counterfoilref11_Placed.mono _ _ _)
      | (with_reducible exact line_Ahead.mono _ _ _ _ _)
      | (with_reducible exact line_Common.mono _ _ _ _ _)
      | (with_reducible exact line_Same.mono _ _ _ _ _)
      | (with_reducible exact LeO.refl _)
      | (with_reducible exact LeO.none _)
      | (with_reducible refine LeO.ite ?_ ?_)
      | (with_reducible refine LeO.bind ?_ (fun _ => ?_))
      | exact ih0 _ _ _ _ _
      | exact ih1 _ _ _ _ _ _
      | exact ih2 _ _ _ _ _ _ _
      | exact counterfoillaw11_awake.mono _
      | exact counterfoilref11_Common.mono _ _ _ _ _
      | exact counterfoilref11_Equal.mono _ _ _
      | exact counterfoilref11_Placed.mono _ _ _
      | exact line_Ahead.mono _ _ _ _ _
      | exact line_Common.mono _ _ _ _ _
      | exact line_Same.mono _ _ _ _ _
      | exact LeO.none _
      | refine LeO.ite ?_ ?_
      | refine LeO.bind ?_ (fun _ => ?_)
    · intro y0 y1 y2 y3 y4 y5 y6
      unfold counterfoillaw11_LineCommon.j2
      repeat' first
      | (with_reducible exact ih0 _ _ _ _ _)
      | (with_reducible exact ih1 _ _ _ _ _ _)
      | (with_reducible exact ih2 _ _ _ _ _ _ _)
      | (with_reducible exact counterfoillaw11_awake.mono _)
      | (with_reducible exact counterfoilref11_Common.mono _ _ _ _ _)
      | (with_reducible exact counterfoilref11_Equal.mono _ _ _)
      | (with_reducible exact counterfoilref11_Placed.mono _ _ _)
      | (with_reducible exact line_Ahead.mono _ _ _ _ _)
      | (with_reducible exact line_Common.mono _ _ _ _ _)
      | (with_reducible exact line_Same.mono _ _ _ _ _)
      | (with_reducible exact LeO.refl _)
      | (with_reducible exact LeO.none _)
      | (with_reducible refine LeO.ite ?_ ?_)
      | (with_reducible refine LeO.bind ?_ (fun _ => ?_))
      | exact ih0 _ _ _ _ _
      | exact ih1 _ _ _ _ _ _
      | exact ih2 _ _ _ _ _ _ _
      | exact counterfoillaw11_awake.mono _
      | exact counterfoilref11_Common.mono _ _ _ _ _
      | exact counterfoilref11_Equal.mono _ _ _
      | exact counterfoilref11_Placed.mono _ _ _
      | exact line_Ahead.mono _ _ _ _ _
      | exact line_Common.mono _ _ _ _ _
      | exact line_Same.mono _ _ _ _ _
      | exact LeO.none _
      | refine LeO.ite ?_ ?_
      | refine LeO.bind ?_ (fun _ => ?_)
theorem counterfoillaw11_LineCommon.mono : ∀ a0 a1 a2 a3 k, LeO (counterfoillaw11_LineCommon.f k a0 a1 a2 a3) (counterfoillaw11_LineCommon.f (k + 1) a0 a1 a2 a3) := by
  intro a0 a1 a2 a3 k
  obtain ⟨ih0, ih1, ih2⟩ := counterfoillaw11_LineCommon.mono_l k
  unfold counterfoillaw11_LineCommon.f
  repeat' first
      | (with_reducible exact ih0 _ _ _ _ _)
      | (with_reducible exact ih1 _ _ _ _ _ _)
      | (with_reducible exact ih2 _ _ _ _ _ _ _)
      | (with_reducible exact counterfoillaw11_awake.mono _)
      | (with_reducible exact counterfoilref11_Common.mono _ _ _ _ _)
      | (with_reducible exact counterfoilref11_Equal.mono _ _ _)
      | (with_reducible exact counterfoilref11_Placed.mono _ _ _)
      | (with_reducible exact line_Ahead.mono _ _ _ _ _)
      | (with_reducible exact line_Common.mono _ _ _ _ _)
      | (with_reducible exact line_Same.mono _ _ _ _ _)
      | (with_reducible exact LeO.refl _)
      | (with_reducible exact LeO.none _)
      | (with_reducible refine LeO.ite ?_ ?_)
      | (with_reducible refine LeO.bind ?_ (fun _ => ?_))
      | exact ih0 _ _ _ _ _
      | exact ih1 _ _ _ _ _ _
      | exact ih2 _ _ _ _ _ _ _
      | exact counterfoillaw11_awake.mono _
      | exact counterfoilref11_Common.mono _ _ _ _ _
      | exact counterfoilref11_Equal.mono _ _ _
      | exact counterfoilref11_Placed.mono _ _ _
      | exact line_Ahead.mono _ _ _ _ _
      | exact line_Common.mono _ _ _ _ _
      | exact line_Same.mono _ _ _ _ _
      | exact LeO.none _
      | refine LeO.ite ?_ ?_
      | refine LeO.bind ?_ (fun _ => ?_)
set_option maxHeartbeats 8000000 in
set_option maxRecDepth 100000 in
theorem counterfoillaw11_LineCommon.calls (k : Nat) (A0_0 : Option Addr) (c0_0 : Nat) (l0_0 : List (S61)) (a0_1 : Int) (A1_0 : Option Addr) (c1_0 : Nat) (l1_0 : List (S61)) (a1_1 : Int) (r : Bool) (w : World) (hr0_0 : Kd.C k61 w A0_0 l0_0.length l0_0) (hc0_0 : l0_0.length ≤ c0_0) (hr1_0 : Kd.C k61 w A1_0 l1_0.length l1_0) (hc1_0 : l1_0.length ≤ c1_0) (h : counterfoillaw11_LineCommon.f k l0_0 a0_1 l1_0 a1_1 = some r) :
    Calls Try.prog 8 #[.agg #[.slice A0_0 l0_0.length c0_0, .int .i64 a0_1], .agg #[.slice A1_0 l1_0.length c1_0, .int .i64 a1_1]] w fun e w' => e = .returned (.bool r) ∧ Below w.heap.size w w' := by
  have hu39 := Try.underlying39
  have HR0_0 := Aside0.mk hr0_0
  have HC0_0 := Aside0.mk hc0_0
  clear hr0_0 hc0_0
  have HR1_0 := Aside0.mk hr1_0
  have HC1_0 := Aside0.mk hc1_0
  clear hr1_0 hc1_0
  have HB := Aside0.mk (Below.refl w.heap.size w)
  have H : (if (l0_0.length : Int) > 100 then (counterfoillaw11_LineCommon.j0 k true l0_0 a0_1 l1_0 a1_1) else (counterfoillaw11_LineCommon.j0 k (decide ((l1_0.length : Int) > 100)) l0_0 a0_1 l1_0 a1_1)) = some r := h
  clear h
  have HC3 := Aside0.mk H
  clear H
  go_enter Try.func8, Try.ntmps8
  go_upto_region 1 with (first | ((with_reducible refine gate_dst (N := 2) rfl ?_); (try (refine gate_guard (by rfl) ?_; dsimp only)); refine box_event ?hg (N := 2) ?hd (cs := #[.slice A0_0 l0_0.length c0_0, .int .i64 a0_1]) (t := 39) ?hr ?_; (case hd => rfl); (case hg => rfl); (case hr => first | (go_simp; done) | (go_simp; rfl)); intro gb205 hg w4 hbox hb; have n0_ := Aside0.mk (below_step (by repeat (first | (with_reducible first | exact HB.out | apply below_alloc | apply pw_below_drewN | apply below_drew1) | exact HB.out)) hb); have n1_ := Aside0.mk (hbox); have n2_ := Aside0.mk ((by rw [hg]; exact (below_size (by repeat (first | (with_reducible first | exact HB.out | apply below_alloc | apply pw_below_drewN | apply below_drew1) | exact HB.out))) : w.heap.size ≤ gb205)); have n3_ := Aside0.mk ((by rw [hg]; exact (below_size (by repeat (first | (with_reducible first | exact HB.out | apply below_alloc | apply pw_below_drewN | apply below_drew1) | exact HB.out))) : w.heap.size ≤ gb205)); clear HB; have HB := n0_; have BK205 := n1_; have GW205 := n2_; have GE205 := n3_; clear n0_ n1_ n2_ n3_; clear hb hbox hg) | ((with_reducible refine gate_dst (N := 3) rfl ?_); (try (refine gate_guard (by rfl) ?_; dsimp only)); refine box_event ?hg (N := 3) ?hd (cs := #[.slice A1_0 l1_0.length c1_0, .int .i64 a1_1]) (t := 39) ?hr ?_; (case hd => rfl); (case hg => rfl); (case hr => first | (go_simp; done) | (go_simp; rfl)); intro gb206 hg w5 hbox hb; have n0_ := Aside0.mk (blk_below (g := gb205) (o := .cells #[.slice A0_0 l0_0.length c0_0, .int .i64 a0_1] 39 (0, 0)) (by (with_reducible repeat (first | refine blk_drewN ?_ _ | refine blk_drew ?_ | refine blk_alloc ?_ _)); exact BK205.out) hb); have n1_ := Aside0.mk (below_step (by repeat (first | (with_reducible first | exact HB.out | apply below_alloc | apply pw_below_drewN | apply below_drew1 | refine below_set ?_ GE205.out) | exact HB.out)) hb); have n2_ := Aside0.mk (hbox); have n3_ := Aside0.mk ((by rw [hg]; exact (below_size (by repeat (first | (with_reducible first | exact HB.out | apply below_alloc | apply pw_below_drewN | apply below_drew1 | refine below_set ?_ GE205.out) | exact HB.out))) : w.heap.size ≤ gb206)); have n4_ := Aside0.mk ((by rw [hg]; exact (below_size (by repeat (first | (with_reducible first | exact HB.out | apply below_alloc | apply pw_below_drewN | apply below_drew1 | refine below_set ?_ GE205.out) | exact HB.out))) : w.heap.size ≤ gb206)); have n5_ := Aside0.mk ((by rw [hg]; exact Nat.ne_of_lt (blk_lt (g := gb205) (o := .cells #[.slice A0_0 l0_0.length c0_0, .int .i64 a0_1] 39 (0, 0)) (by (with_reducible repeat (first | refine blk_drewN ?_ _ | refine blk_drew ?_ | refine blk_alloc ?_ _)); exact BK205.out)) : gb205 ≠ gb206)); have n6_ := Aside0.mk ((by rw [hg]; exact Nat.ne_of_gt (blk_lt (g := gb205) (o := .cells #[.slice A0_0 l0_0.length c0_0, .int .i64 a0_1] 39 (0, 0)) (by (with_reducible repeat (first | refine blk_drewN ?_ _ | refine blk_drew ?_ | refine blk_alloc ?_ _)); exact BK205.out)) : gb206 ≠ gb205)); clear BK205; clear HB; have BK205 := n0_; have HB := n1_; have BK206 := n2_; have GW206 := n3_; have GE206 := n4_; have NB205_206 := n5_; have NB206_205 := n6_; clear n0_ n1_ n2_ n3_ n4_ n5_ n6_; clear hb hbox hg))
  (try simp only [Act.put, List.setIfInBounds_toArray, List.set_cons_zero, List.set_cons_succ])
  go_cut [17] (fun v17 wc => ∃ (kq : Nat) (x17_2 : Bool), v17 = .bool x17_2 ∧ Aside0 (counterfoillaw11_LineCommon.j0 kq x17_2 l0_0 a0_1 l1_0 a1_1 = some r) ∧ Aside0 (kq ≤ k) ∧ Aside0 (wc.heap[gb205]? = some (.cells #[(.slice A0_0 l0_0.length c0_0), .int .i64 a0_1] 39 (0, 0))) ∧ Aside0 (wc.heap[gb206]? = some (.cells #[(.slice A1_0 l1_0.length c1_0), .int .i64 a1_1] 39 (0, 0))) ∧ Aside0 (Below w.heap.size w wc))
  case first =>
    have H := HC3.out
    clear HC3
    by_cases c6 : (l0_0.length : Int) > 100
    · rw [if_pos c6] at H
      have c6b0 : decide (100 < (l0_0.length : Int)) = true := decide_eq_true c6
      have c6b1 : decide (100 < l0_0.length) = true := decide_eq_true (by omega)
      clear c6
      (first | rw [c6b0] | (simp only [i64_w, i32_w]; rw [c6b0]) | skip)
      have H' := Aside0.mk H
      clear H
      have hnb7 := NB205_206.out
      have hnc7 := NB206_205.out
      have hcz8_0 : w5.cell? ⟨gb205, 0, none⟩ = some (.slice A0_0 l0_0.length c0_0) := (blk_cell BK205.out 0).trans rfl
      have hcz8_1 : w5.cell? ⟨gb205, 1, none⟩ = some (.int .i64 a0_1) := (blk_cell BK205.out 1).trans rfl
      have hfz8_0 := blk_frozen BK205.out 0
      have hfz8_1 := blk_frozen BK205.out 1
      go_wp2
      go_meet
      case rel => exact ⟨_, (true), (by first | rfl | (simp; done) | (simp [*]; done)), H', ⟨by first | omega | exact Nat.le_refl _⟩, ⟨by (with_reducible repeat (first | refine blk_drewN ?_ _ | refine blk_drew ?_ | refine blk_alloc ?_ _)); exact BK205.out⟩, ⟨by (with_reducible repeat (first | refine blk_drewN ?_ _ | refine blk_drew ?_ | refine blk_alloc ?_ _)); exact BK206.out⟩, ⟨by repeat (first | (with_reducible first | exact HB.out | apply below_alloc | apply pw_below_drewN | apply below_drew1 | refine below_set ?_ GE205.out | refine below_set ?_ GE206.out) | exact HB.out)⟩⟩
    · rw [if_neg c6] at H
      have c6b0 : decide (100 < (l0_0.length : Int)) = false := decide_eq_false c6
      have c6b1 : decide (100 < l0_0.length) = false := decide_eq_false (by omega)
      clear c6
      (first | rw [c6b0] | (simp only [i64_w, i32_w]; rw [c6b0]) | skip)
      have H' := Aside0.mk H
      clear H
      have hnb9 := NB205_206.out
      have hnc9 := NB206_205.out
      have hcz10_0 : w5.cell? ⟨gb205, 0, none⟩ = some (.slice A0_0 l0_0.length c0_0) := (blk_cell BK205.out 0).trans rfl
      have hcz10_1 : w5.cell? ⟨gb205, 1, none⟩ = some (.int .i64 a0_1) := (blk_cell BK205.out 1).trans rfl
      have hfz10_0 := blk_frozen BK205.out 0
      have hfz10_1 := blk_frozen BK205.out 1
      have hcz11_0 : w5.cell? ⟨gb206, 0, none⟩ = some (.slice A1_0 l1_0.length c1_0) := (blk_cell BK206.out 0).trans rfl
      have hcz11_1 : w5.cell? ⟨gb206, 1, none⟩ = some (.int .i64 a1_1) := (blk_cell BK206.out 1).trans rfl
      have hfz11_0 := blk_frozen BK206.out 0
      have hfz11_1 := blk_frozen BK206.out 1
      go_wp2
      go_meet
      case rel => exact ⟨_, (decide ((l1_0.length : Int) > 100)), (by first | rfl | (simp; done) | (simp [*]; done)), H', ⟨by first | omega | exact Nat.le_refl _⟩, ⟨by (with_reducible repeat (first | refine blk_drewN ?_ _ | refine blk_drew ?_ | refine blk_alloc ?_ _)); exact BK205.out⟩, ⟨by (with_reducible repeat (first | refine blk_drewN ?_ _ | refine blk_drew ?_ | refine blk_alloc ?_ _)); exact BK206.out⟩, ⟨by repeat (first | (with_reducible first | exact HB.out | apply below_alloc | apply pw_below_drewN | apply below_drew1 | refine below_set ?_ GE205.out | refine below_set ?_ GE206.out) | exact HB.out)⟩⟩
  case rest =>
    clear HC3
    try clear c1
    try clear p2
    try clear c6
    try clear c6b0
    try clear c6b1
    try clear c7
    try clear c8
    try clear c9
    try clear hcz10_0
    try clear hcz10_1
    try clear hcz11_0
    try clear hcz11_1
    try clear hcz8_0
    try clear hcz8_1
    try clear hfz10_0
    try clear hfz10_1
    try clear hfz11_0
    try clear hfz11_1
    try clear hfz8_0
    try clear hfz8_1
    obtain ⟨kq, x17_2, rfl, HA, HJ2, BK205, BK206, HB⟩ := hcut
    cases kq with
    | zero => exact absurd HA.out (by simp [counterfoillaw11_LineCommon.j0])
    | succ kj2 =>
      have H := HA.out
      clear HA
      simp only [counterfoillaw11_LineCommon.j0] at H
      by_cases c12 : x17_2 = true
      · subst c12
        have H1 : ((counterfoillaw11_awake.f kj2).bind fun t207 => (some t207)) = some r := by rw [if_pos rfl] at H; exact H
        clear H
        have H := H1
        clear H1
        replace H := Option.bind_eq_some_iff.mp H
        obtain ⟨t207, A130, H⟩ := H
        replace H : (some t207) = some r := H
        have A13 := Aside0.mk A130
        clear A130
        obtain rfl := Option.some.inj H
        go_wp2_with (first | ((with_reducible refine gate_callee (f := 22) rfl ?_); refine goesL_ (some 18) rfl rfl Try.func22 (by kernel_rfl) rfl #[] rfl (by (try simp only [List.map_toArray, List.map_cons, List.map_nil]); first | done | rfl | (simp only [List.length_drop, List.length_take]; rfl)) ?_; (with_reducible refine (counterfoillaw11_awake.calls kj2  t207 _ A13.out).mono ?_); rintro e w14 ⟨rfl, hb⟩; refine ⟨_, rfl, ?_⟩; have n0_ := Aside0.mk (blk_below (g := gb205) (o := .cells #[.slice A0_0 l0_0.length c0_0, .int .i64 a0_1] 39 (0, 0)) (by (with_reducible repeat (first | refine blk_drewN ?_ _ | refine blk_drew ?_ | refine blk_alloc ?_ _)); exact BK205.out) hb); have n1_ := Aside0.mk (blk_below (g := gb206) (o := .cells #[.slice A1_0 l1_0.length c1_0, .int .i64 a1_1] 39 (0, 0)) (by (with_reducible repeat (first | refine blk_drewN ?_ _ | refine blk_drew ?_ | refine blk_alloc ?_ _)); exact BK206.out) hb); have n2_ := Aside0.mk (below_step (by repeat (first | (with_reducible first | exact HB.out | apply below_alloc | apply pw_below_drewN | apply below_drew1 | refine below_set ?_ GE205.out | refine below_set ?_ GE206.out) | exact HB.out)) hb); clear BK205; clear BK206; clear HB; have BK205 := n0_; have BK206 := n1_; have HB := n2_; clear n0_ n1_ n2_; (try clear hb); (try clear hb2); (try clear hk); (try clear hi)))
        go_ret
        exact ⟨by first | rfl | (simp [errW_none, errW_some] <;> rfl) | (simp [*, errW_none, errW_some] <;> rfl), by repeat (first | (with_reducible first | exact HB.out | apply below_alloc | apply pw_below_drewN | apply below_drew1 | refine below_set ?_ GE205.out | refine below_set ?_ GE206.out) | exact HB.out)⟩
      · replace c12 := Bool.eq_false_iff.mpr c12
        subst c12
        have H1 : ((counterfoilref11_Common.f kj2 l0_0 a0_1 l1_0 a1_1).bind fun t208 => ((counterfoilref11_Placed.f kj2 l0_0 a0_1).bind fun t209 => (if t209 = true then ((counterfoilref11_Placed.f kj2 l1_0 a1_1).bind fun t210 => (if t210 = true then (counterfoillaw11_LineCommon.j1 kj2 t208 (t208 == a0_1) l0_0 a0_1 l1_0 a1_1) else (counterfoillaw11_LineCommon.j1 kj2 t208 false l0_0 a0_1 l1_0 a1_1))) else (counterfoillaw11_LineCommon.j1 kj2 t208 false l0_0 a0_1 l1_0 a1_1)))) = some r := by rw [if_neg (show ¬ (false = true) by decide)] at H; exact H
        clear H
        have H := H1
        clear H1
        replace H := Option.bind_eq_some_iff.mp H
        obtain ⟨t208, A150, H⟩ := H
        replace H : ((counterfoilref11_Placed.f kj2 l0_0 a0_1).bind fun t209 => (if t209 = true then ((counterfoilref11_Placed.f kj2 l1_0 a1_1).bind fun t210 => (if t210 = true then (counterfoillaw11_LineCommon.j1 kj2 t208 (t208 == a0_1) l0_0 a0_1 l1_0 a1_1) else (counterfoillaw11_LineCommon.j1 kj2 t208 false l0_0 a0_1 l1_0 a1_1))) else (counterfoillaw11_LineCommon.j1 kj2 t208 false l0_0 a0_1 l1_0 a1_1))) = some r := H
        have A15 := Aside0.mk A150
        clear A150
        have HC16 := Aside0.mk H
        clear H
        have hnb17 := NB205_206.out
        have hnc17 := NB206_205.out
        have hcz18_0 : wc.cell? ⟨gb205, 0, none⟩ = some (.slice A0_0 l0_0.length c0_0) := (blk_cell BK205.out 0).trans rfl
        have hcz18_1 : wc.cell? ⟨gb205, 1, none⟩ = some (.int .i64 a0_1) := (blk_cell BK205.out 1).trans rfl
        have hfz18_0 := blk_frozen BK205.out 0
        have hfz18_1 := blk_frozen BK205.out 1
        have hcz19_0 : wc.cell? ⟨gb206, 0, none⟩ = some (.slice A1_0 l1_0.length c1_0) := (blk_cell BK206.out 0).trans rfl
        have hcz19_1 : wc.cell? ⟨gb206, 1, none⟩ = some (.int .i64 a1_1) := (blk_cell BK206.out 1).trans rfl
        have hfz19_0 := blk_frozen BK206.out 0
        have hfz19_1 := blk_frozen BK206.out 1
        go_upto_region 4 with (first | ((with_reducible refine gate_callee (f := 30) rfl ?_); refine goesL_ (some 21) rfl rfl Try.func30 (by kernel_rfl) rfl #[.agg #[.slice A0_0 l0_0.length c0_0, .int .i64 a0_1], .agg #[.slice A1_0 l1_0.length c1_0, .int .i64 a1_1]] rfl (by (try simp only [List.map_toArray, List.map_cons, List.map_nil]); first | done | rfl | (simp only [List.length_drop, List.length_take]; rfl)) ?_; (with_reducible refine (counterfoilref11_Common.calls kj2 _ _ l0_0 a0_1 _ _ l1_0 a1_1 t208 _ ?side1 ?side2 ?side3 ?side4 A15.out).mono ?_); (case side1 => repeat (first | exact (Kd.C_below HR0_0.out HB.out) | (with_reducible refine Kd.C_alloc ?_ _) | (with_reducible refine Kd.C_drewN ?_ _) | (with_reducible refine Kd.C_drew ?_))); (case side2 => exact HC0_0.out); (case side3 => repeat (first | exact (Kd.C_below HR1_0.out HB.out) | (with_reducible refine Kd.C_alloc ?_ _) | (with_reducible refine Kd.C_drewN ?_ _) | (with_reducible refine Kd.C_drew ?_))); (case side4 => exact HC1_0.out); rintro e w20 ⟨rfl, hb⟩; refine ⟨_, rfl, ?_⟩; have n0_ := Aside0.mk (blk_below (g := gb205) (o := .cells #[.slice A0_0 l0_0.length c0_0, .int .i64 a0_1] 39 (0, 0)) (by (with_reducible repeat (first | refine blk_drewN ?_ _ | refine blk_drew ?_ | refine blk_alloc ?_ _)); exact BK205.out) hb); have n1_ := Aside0.mk (blk_below (g := gb206) (o := .cells #[.slice A1_0 l1_0.length c1_0, .int .i64 a1_1] 39 (0, 0)) (by (with_reducible repeat (first | refine blk_drewN ?_ _ | refine blk_drew ?_ | refine blk_alloc ?_ _)); exact BK206.out) hb); have n2_ := Aside0.mk (below_step (by repeat (first | (with_reducible first | exact HB.out | apply below_alloc | apply pw_below_drewN | apply below_drew1 | refine below_set ?_ GE205.out | refine below_set ?_ GE206.out) | exact HB.out)) hb); clear BK205; clear BK206; clear HB; have BK205 := n0_; have BK206 := n1_; have HB := n2_; clear n0_ n1_ n2_; (try clear hb); (try clear hb2); (try clear hk); (try clear hi)))
        (try simp only [Act.put, List.setIfInBounds_toArray, List.set_cons_zero, List.set_cons_succ])
        go_cut [6] (fun v6 wc => ∃ (kq : Nat) (x6_15 : Bool), v6 = .bool x6_15 ∧ Aside0 (counterfoillaw11_LineCommon.j1 kq t208 x6_15 l0_0 a0_1 l1_0 a1_1 = some r) ∧ Aside0 (kq ≤ kj2) ∧ Aside0 (wc.heap[gb205]? = some (.cells #[(.slice A0_0 l0_0.length c0_0), .int .i64 a0_1] 39 (0, 0))) ∧ Aside0 (wc.heap[gb206]? = some (.cells #[(.slice A1_0 l1_0.length c1_0), .int .i64 a1_1] 39 (0, 0))) ∧ Aside0 (Below w.heap.size w wc))
        case first =>
          have H := HC16.out
          clear HC16
          replace H := Option.bind_eq_some_iff.mp H
          obtain ⟨t209, A210, H⟩ := H
          replace H : (if t209 = true then ((counterfoilref11_Placed.f kj2 l1_0 a1_1).bind fun t210 => (if t210 = true then (counterfoillaw11_LineCommon.j1 kj2 t208 (t208 == a0_1) l0_0 a0_1 l1_0 a1_1) else (counterfoillaw11_LineCommon.j1 kj2 t208 false l0_0 a0_1 l1_0 a1_1))) else (counterfoillaw11_LineCommon.j1 kj2 t208 false l0_0 a0_1 l1_0 a1_1)) = some r := H
          have A21 := Aside0.mk A210
          clear A210
          by_cases c22 : t209 = true
          · subst c22
            have H1 : ((counterfoilref11_Placed.f kj2 l1_0 a1_1).bind fun t210 => (if t210 = true then (counterfoillaw11_LineCommon.j1 kj2 t208 (t208 == a0_1) l0_0 a0_1 l1_0 a1_1) else (counterfoillaw11_LineCommon.j1 kj2 t208 false l0_0 a0_1 l1_0 a1_1))) = some r := by rw [if_pos rfl] at H; exact H
            clear H
            have H := H1
            clear H1
            replace H := Option.bind_eq_some_iff.mp H
            obtain ⟨t210, A230, H⟩ := H
            replace H : (if t210 = true then (counterfoillaw11_LineCommon.j1 kj2 t208 (t208 == a0_1) l0_0 a0_1 l1_0 a1_1) else (counterfoillaw11_LineCommon.j1 kj2 t208 false l0_0 a0_1 l1_0 a1_1)) = some r := H
            have A23 := Aside0.mk A230
            clear A230
            by_cases c24 : t210 = true
            · subst c24
              have H1 : (counterfoillaw11_LineCommon.j1 kj2 t208 (t208 == a0_1) l0_0 a0_1 l1_0 a1_1) = some r := by rw [if_pos rfl] at H; exact H
              clear H
              have H := H1
              clear H1
              have H' := Aside0.mk H
              clear H
              have hnb25 := NB205_206.out
              have hnc25 := NB206_205.out
              have hcz26_0 : w20.cell? ⟨gb205, 0, none⟩ = some (.slice A0_0 l0_0.length c0_0) := (blk_cell BK205.out 0).trans rfl
              have hcz26_1 : w20.cell? ⟨gb205, 1, none⟩ = some (.int .i64 a0_1) := (blk_cell BK205.out 1).trans rfl
              have hfz26_0 := blk_frozen BK205.out 0
              have hfz26_1 := blk_frozen BK205.out 1
              go_wp2_with (first | ((with_reducible refine gate_callee (f := 24) rfl ?_); refine goesL_ (some 23) rfl rfl Try.func24 (by kernel_rfl) rfl #[.agg #[.slice A0_0 l0_0.length c0_0, .int .i64 a0_1]] rfl (by (try simp only [List.map_toArray, List.map_cons, List.map_nil]); first | done | rfl | (simp only [List.length_drop, List.length_take]; rfl)) ?_; (with_reducible refine (counterfoilref11_Placed.calls kj2 _ _ l0_0 a0_1 true _ ?side1 ?side2 A21.out).mono ?_); (case side1 => repeat (first | exact (Kd.C_below HR0_0.out HB.out) | (with_reducible refine Kd.C_alloc ?_ _) | (with_reducible refine Kd.C_drewN ?_ _) | (with_reducible refine Kd.C_drew ?_))); (case side2 => exact HC0_0.out); rintro e w27 ⟨rfl, hb⟩; refine ⟨_, rfl, ?_⟩; have n0_ := Aside0.mk (blk_below (g := gb205) (o := .cells #[.slice A0_0 l0_0.length c0_0, .int .i64 a0_1] 39 (0, 0)) (by (with_reducible repeat (first | refine blk_drewN ?_ _ | refine blk_drew ?_ | refine blk_alloc ?_ _)); exact BK205.out) hb); have n1_ := Aside0.mk (blk_below (g := gb206) (o := .cells #[.slice A1_0 l1_0.length c1_0, .int .i64 a1_1] 39 (0, 0)) (by (with_reducible repeat (first | refine blk_drewN ?_ _ | refine blk_drew ?_ | refine blk_alloc ?_ _)); exact BK206.out) hb); have n2_ := Aside0.mk (below_step (by repeat (first | (with_reducible first | exact HB.out | apply below_alloc | apply pw_below_drewN | apply below_drew1 | refine below_set ?_ GE205.out | refine below_set ?_ GE206.out) | exact HB.out)) hb); clear BK205; clear BK206; clear HB; have BK205 := n0_; have BK206 := n1_; have HB := n2_; clear n0_ n1_ n2_; (try clear hb); (try clear hb2); (try clear hk); (try clear hi); have hcz28_0 : w27.cell? ⟨gb206, 0, none⟩ = some (.slice A1_0 l1_0.length c1_0) := (blk_cell BK206.out 0).trans rfl; have hcz28_1 : w27.cell? ⟨gb206, 1, none⟩ = some (.int .i64 a1_1) := (blk_cell BK206.out 1).trans rfl; have hfz28_0 := blk_frozen BK206.out 0; have hfz28_1 := blk_frozen BK206.out 1) | (go_at_call 24; (with_reducible refine (counterfoilref11_Placed.calls kj2 _ _ l1_0 a1_1 true _ ?side1 ?side2 A23.out).mono ?_); (case side1 => repeat (first | exact (Kd.C_below HR1_0.out HB.out) | (with_reducible refine Kd.C_alloc ?_ _) | (with_reducible refine Kd.C_drewN ?_ _) | (with_reducible refine Kd.C_drew ?_))); (case side2 => exact HC1_0.out); rintro e w29 ⟨rfl, hb⟩; have n0_ := Aside0.mk (blk_below (g := gb205) (o := .cells #[.slice A0_0 l0_0.length c0_0, .int .i64 a0_1] 39 (0, 0)) (by (with_reducible repeat (first | refine blk_drewN ?_ _ | refine blk_drew ?_ | refine blk_alloc ?_ _)); exact BK205.out) hb); have n1_ := Aside0.mk (blk_below (g := gb206) (o := .cells #[.slice A1_0 l1_0.length c1_0, .int .i64 a1_1] 39 (0, 0)) (by (with_reducible repeat (first | refine blk_drewN ?_ _ | refine blk_drew ?_ | refine blk_alloc ?_ _)); exact BK206.out) hb); have n2_ := Aside0.mk (below_step (by repeat (first | (with_reducible first | exact HB.out | apply below_alloc | apply pw_below_drewN | apply below_drew1 | refine below_set ?_ GE205.out | refine below_set ?_ GE206.out) | exact HB.out)) hb); clear BK205; clear BK206; clear HB; have BK205 := n0_; have BK206 := n1_; have HB := n2_; clear n0_ n1_ n2_; (try clear hb); (try clear hb2); (try clear hk); (try clear hi); have hcz30_0 : w29.cell? ⟨gb205, 0, none⟩ = some (.slice A0_0 l0_0.length c0_0) := (blk_cell BK205.out 0).trans rfl; have hcz30_1 : w29.cell? ⟨gb205, 1, none⟩ = some (.int .i64 a0_1) := (blk_cell BK205.out 1).trans rfl; have hfz30_0 := blk_frozen BK205.out 0; have hfz30_1 := blk_frozen BK205.out 1))
              go_meet
              case rel => exact ⟨_, ((t208 == a0_1)), (by first | rfl | (simp; done) | (simp [*]; done)), H', ⟨by have := HJ2.out; first | omega | exact Nat.le_refl _⟩, ⟨by (with_reducible repeat (first | refine blk_drewN ?_ _ | refine blk_drew ?_ | refine blk_alloc ?_ _)); exact BK205.out⟩, ⟨by (with_reducible repeat (first | refine blk_drewN ?_ _ | refine blk_drew ?_ | refine blk_alloc ?_ _)); exact BK206.out⟩, ⟨by repeat (first | (with_reducible first | exact HB.out | apply below_alloc | apply pw_below_drewN | apply below_drew1 | refine below_set ?_ GE205.out | refine below_set ?_ GE206.out) | exact HB.out)⟩⟩
            · replace c24 := Bool.eq_false_iff.mpr c24
              subst c24
              have H1 : (counterfoillaw11_LineCommon.j1 kj2 t208 false l0_0 a0_1 l1_0 a1_1) = some r := by rw [if_neg (show ¬ (false = true) by decide)] at H; exact H
              clear H
              have H := H1
              clear H1
              have H' := Aside0.mk H
              clear H
              have hnb31 := NB205_206.out
              have hnc31 := NB206_205.out
              have hcz32_0 : w20.cell? ⟨gb205, 0, none⟩ = some (.slice A0_0 l0_0.length c0_0) := (blk_cell BK205.out 0).trans rfl
              have hcz32_1 : w20.cell? ⟨gb205, 1, none⟩ = some (.int .i64 a0_1) := (blk_cell BK205.out 1).trans rfl
              have hfz32_0 := blk_frozen BK205.out 0
              have hfz32_1 := blk_frozen BK205.out 1
              go_wp2_with (first | ((with_reducible refine gate_callee (f := 24) rfl ?_); refine goesL_ (some 23) rfl rfl Try.func24 (by kernel_rfl) rfl #[.agg #[.slice A0_0 l0_0.length c0_0, .int .i64 a0_1]] rfl (by (try simp only [List.map_toArray, List.map_cons, List.map_nil]); first | done | rfl | (simp only [List.length_drop, List.length_take]; rfl)) ?_; (with_reducible refine (counterfoilref11_Placed.calls kj2 _ _ l0_0 a0_1 true _ ?side1 ?side2 A21.out).mono ?_); (case side1 => repeat (first | exact (Kd.C_below HR0_0.out HB.out) | (with_reducible refine Kd.C_alloc ?_ _) | (with_reducible refine Kd.C_drewN ?_ _) | (with_reducible refine Kd.C_drew ?_))); (case side2 => exact HC0_0.out); rintro e w33 ⟨rfl, hb⟩; refine ⟨_, rfl, ?_⟩; have n0_ := Aside0.mk (blk_below (g := gb205) (o := .cells #[.slice A0_0 l0_0.length c0_0, .int .i64 a0_1] 39 (0, 0)) (by (with_reducible repeat (first | refine blk_drewN ?_ _ | refine blk_drew ?_ | refine blk_alloc ?_ _)); exact BK205.out) hb); have n1_ := Aside0.mk (blk_below (g := gb206) (o := .cells #[.slice A1_0 l1_0.length c1_0, .int .i64 a1_1] 39 (0, 0)) (by (with_reducible repeat (first | refine blk_drewN ?_ _ | refine blk_drew ?_ | refine blk_alloc ?_ _)); exact BK206.out) hb); have n2_ := Aside0.mk (below_step (by repeat (first | (with_reducible first | exact HB.out | apply below_alloc | apply pw_below_drewN | apply below_drew1 | refine below_set ?_ GE205.out | refine below_set ?_ GE206.out) | exact HB.out)) hb); clear BK205; clear BK206; clear HB; have BK205 := n0_; have BK206 := n1_; have HB := n2_; clear n0_ n1_ n2_; (try clear hb); (try clear hb2); (try clear hk); (try clear hi); have hcz34_0 : w33.cell? ⟨gb206, 0, none⟩ = some (.slice A1_0 l1_0.length c1_0) := (blk_cell BK206.out 0).trans rfl; have hcz34_1 : w33.cell? ⟨gb206, 1, none⟩ = some (.int .i64 a1_1) := (blk_cell BK206.out 1).trans rfl; have hfz34_0 := blk_frozen BK206.out 0; have hfz34_1 := blk_frozen BK206.out 1) | (go_at_call 24; (with_reducible refine (counterfoilref11_Placed.calls kj2 _ _ l1_0 a1_1 false _ ?side1 ?side2 A23.out).mono ?_); (case side1 => repeat (first | exact (Kd.C_below HR1_0.out HB.out) | (with_reducible refine Kd.C_alloc ?_ _) | (with_reducible refine Kd.C_drewN ?_ _) | (with_reducible refine Kd.C_drew ?_))); (case side2 => exact HC1_0.out); rintro e w35 ⟨rfl, hb⟩; have n0_ := Aside0.mk (blk_below (g := gb205) (o := .cells #[.slice A0_0 l0_0.length c0_0, .int .i64 a0_1] 39 (0, 0)) (by (with_reducible repeat (first | refine blk_drewN ?_ _ | refine blk_drew ?_ | refine blk_alloc ?_ _)); exact BK205.out) hb); have n1_ := Aside0.mk (blk_below (g := gb206) (o := .cells #[.slice A1_0 l1_0.length c1_0, .int .i64 a1_1] 39 (0, 0)) (by (with_reducible repeat (first | refine blk_drewN ?_ _ | refine blk_drew ?_ | refine blk_alloc ?_ _)); exact BK206.out) hb); have n2_ := Aside0.mk (below_step (by repeat (first | (with_reducible first | exact HB.out | apply below_alloc | apply pw_below_drewN | apply below_drew1 | refine below_set ?_ GE205.out | refine below_set ?_ GE206.out) | exact HB.out)) hb); clear BK205; clear BK206; clear HB; have BK205 := n0_; have BK206 := n1_; have HB := n2_; clear n0_ n1_ n2_; (try clear hb); (try clear hb2); (try clear hk); (try clear hi)))
              go_meet
              case rel => exact ⟨_, (false), (by first | rfl | (simp; done) | (simp [*]; done)), H', ⟨by have := HJ2.out; first | omega | exact Nat.le_refl _⟩, ⟨by (with_reducible repeat (first | refine blk_drewN ?_ _ | refine blk_drew ?_ | refine blk_alloc ?_ _)); exact BK205.out⟩, ⟨by (with_reducible repeat (first | refine blk_drewN ?_ _ | refine blk_drew ?_ | refine blk_alloc ?_ _)); exact BK206.out⟩, ⟨by repeat (first | (with_reducible first | exact HB.out | apply below_alloc | apply pw_below_drewN | apply below_drew1 | refine below_set ?_ GE205.out | refine below_set ?_ GE206.out) | exact HB.out)⟩⟩
          · replace c22 := Bool.eq_false_iff.mpr c22
            subst c22
            have H1 : (counterfoillaw11_LineCommon.j1 kj2 t208 false l0_0 a0_1 l1_0 a1_1) = some r := by rw [if_neg (show ¬ (false = true) by decide)] at H; exact H
            clear H
            have H := H1
            clear H1
            have H' := Aside0.mk H
            clear H
            have hnb36 := NB205_206.out
            have hnc36 := NB206_205.out
            have hcz37_0 : w20.cell? ⟨gb205, 0, none⟩ = some (.slice A0_0 l0_0.length c0_0) := (blk_cell BK205.out 0).trans rfl
            have hcz37_1 : w20.cell? ⟨gb205, 1, none⟩ = some (.int .i64 a0_1) := (blk_cell BK205.out 1).trans rfl
            have hfz37_0 := blk_frozen BK205.out 0
            have hfz37_1 := blk_frozen BK205.out 1
            go_wp2_with (first | ((with_reducible refine gate_callee (f := 24) rfl ?_); refine goesL_ (some 23) rfl rfl Try.func24 (by kernel_rfl) rfl #[.agg #[.slice A0_0 l0_0.length c0_0, .int .i64 a0_1]] rfl (by (try simp only [List.map_toArray, List.map_cons, List.map_nil]); first | done | rfl | (simp only [List.length_drop, List.length_take]; rfl)) ?_; (with_reducible refine (counterfoilref11_Placed.calls kj2 _ _ l0_0 a0_1 false _ ?side1 ?side2 A21.out).mono ?_); (case side1 => repeat (first | exact (Kd.C_below HR0_0.out HB.out) | (with_reducible refine Kd.C_alloc ?_ _) | (with_reducible refine Kd.C_drewN ?_ _) | (with_reducible refine Kd.C_drew ?_))); (case side2 => exact HC0_0.out); rintro e w38 ⟨rfl, hb⟩; refine ⟨_, rfl, ?_⟩; have n0_ := Aside0.mk (blk_below (g := gb205) (o := .cells #[.slice A0_0 l0_0.length c0_0, .int .i64 a0_1] 39 (0, 0)) (by (with_reducible repeat (first | refine blk_drewN ?_ _ | refine blk_drew ?_ | refine blk_alloc ?_ _)); exact BK205.out) hb); have n1_ := Aside0.mk (blk_below (g := gb206) (o := .cells #[.slice A1_0 l1_0.length c1_0, .int .i64 a1_1] 39 (0, 0)) (by (with_reducible repeat (first | refine blk_drewN ?_ _ | refine blk_drew ?_ | refine blk_alloc ?_ _)); exact BK206.out) hb); have n2_ := Aside0.mk (below_step (by repeat (first | (with_reducible first | exact HB.out | apply below_alloc | apply pw_below_drewN | apply below_drew1 | refine below_set ?_ GE205.out | refine below_set ?_ GE206.out) | exact HB.out)) hb); clear BK205; clear BK206; clear HB; have BK205 := n0_; have BK206 := n1_; have HB := n2_; clear n0_ n1_ n2_; (try clear hb); (try clear hb2); (try clear hk); (try clear hi)))
            go_meet
            case rel => exact ⟨_, (false), (by first | rfl | (simp; done) | (simp [*]; done)), H', ⟨by have := HJ2.out; first | omega | exact Nat.le_refl _⟩, ⟨by (with_reducible repeat (first | refine blk_drewN ?_ _ | refine blk_drew ?_ | refine blk_alloc ?_ _)); exact BK205.out⟩, ⟨by (with_reducible repeat (first | refine blk_drewN ?_ _ | refine blk_drew ?_ | refine blk_alloc ?_ _)); exact BK206.out⟩, ⟨by repeat (first | (with_reducible first | exact HB.out | apply below_alloc | apply pw_below_drewN | apply below_drew1 | refine below_set ?_ GE205.out | refine below_set ?_ GE206.out) | exact HB.out)⟩⟩
        case rest =>
          clear HC16
          try clear c1
          try clear c2
          try clear p2
          try clear c3
          try clear c6
          try clear c6b0
          try clear c6b1
          try clear c7
          try clear c8
          try clear c9
          try clear c12
          try clear c17
          try clear c22
          try clear c24
          try clear c25
          try clear c30
          try clear c31
          try clear c36
          try clear hcz10_0
          try clear hcz10_1
          try clear hcz11_0
          try clear hcz11_1
          try clear hcz18_0
          try clear hcz18_1
          try clear hcz19_0
          try clear hcz19_1
          try clear hcz26_0
          try clear hcz26_1
          try clear hcz28_0
          try clear hcz28_1
          try clear hcz30_0
          try clear hcz30_1
          try clear hcz32_0
          try clear hcz32_1
          try clear hcz34_0
          try clear hcz34_1
          try clear hcz37_0
          try clear hcz37_1
          try clear hcz8_0
          try clear hcz8_1
          try clear hfz10_0
          try clear hfz10_1
          try clear hfz11_0
          try clear hfz11_1
          try clear hfz18_0
          try clear hfz18_1
          try clear hfz19_0
          try clear hfz19_1
          try clear hfz26_0
          try clear hfz26_1
          try clear hfz28_0
          try clear hfz28_1
          try clear hfz30_0
          try clear hfz30_1
          try clear hfz32_0
          try clear hfz32_1
          try clear hfz34_0
          try clear hfz34_1
          try clear hfz37_0
          try clear hfz37_1
          try clear hfz8_0
          try clear hfz8_1
          try clear p2
          obtain ⟨kq, x6_15, rfl, HA, HJ15, BK205, BK206, HB⟩ := hcut
          cases kq with
          | zero => exact absurd HA.out (by simp [counterfoillaw11_LineCommon.j1])
          | succ kj15 =>
            have H := HA.out
            clear HA
            simp only [counterfoillaw11_LineCommon.j1] at H
            have HC39 := Aside0.mk H
            clear H
            go_upto_region 5 with (fail)
            go_cut [7] (fun v7 wc => ∃ (kq : Nat) (x7_38 : Bool), v7 = .bool x7_38 ∧ Aside0 (counterfoillaw11_LineCommon.j2 kq t208 x6_15 x7_38 l0_0 a0_1 l1_0 a1_1 = some r) ∧ Aside0 (kq ≤ kj15) ∧ Aside0 (wc.heap[gb205]? = some (.cells #[(.slice A0_0 l0_0.length c0_0), .int .i64 a0_1] 39 (0, 0))) ∧ Aside0 (wc.heap[gb206]? = some (.cells #[(.slice A1_0 l1_0.length c1_0), .int .i64 a1_1] 39 (0, 0))) ∧ Aside0 (Below w.heap.size w wc))
            case first =>
              have H := HC39.out
              clear HC39
              replace H := Option.bind_eq_some_iff.mp H
              obtain ⟨t211, A400, H⟩ := H
              replace H : (if t211 = true then (if a0_1 = a1_1 then ((counterfoilref11_Equal.f kj15 l0_0 l1_0).bind fun t212 => (counterfoillaw11_LineCommon.j2 kj15 t208 x6_15 t212 l0_0 a0_1 l1_0 a1_1)) else (counterfoillaw11_LineCommon.j2 kj15 t208 x6_15 false l0_0 a0_1 l1_0 a1_1)) else (counterfoillaw11_LineCommon.j2 kj15 t208 x6_15 false l0_0 a0_1 l1_0 a1_1)) = some r := H
              have A40 := Aside0.mk A400
              clear A400
              by_cases c41 : t211 = true
              · subst c41
                have H1 : (if a0_1 = a1_1 then ((counterfoilref11_Equal.f kj15 l0_0 l1_0).bind fun t212 => (counterfoillaw11_LineCommon.j2 kj15 t208 x6_15 t212 l0_0 a0_1 l1_0 a1_1)) else (counterfoillaw11_LineCommon.j2 kj15 t208 x6_15 false l0_0 a0_1 l1_0 a1_1)) = some r := by rw [if_pos rfl] at H; exact H
                clear H
                have H := H1
                clear H1
                by_cases c42 : a0_1 = a1_1
                · rw [if_pos c42] at H
                  have c42b0 : (a0_1 == a1_1) = true := beq_iff_eq.mpr c42
                  have c42b1 : (a0_1 != a1_1) = false := bne_eq_false_iff_eq.mpr c42
                  clear c42
                  (first | rw [c42b0] | (simp only [i64_w, i32_w]; rw [c42b0]) | skip)
                  replace H := Option.bind_eq_some_iff.mp H
                  obtain ⟨t212, A430, H⟩ := H
                  replace H : (counterfoillaw11_LineCommon.j2 kj15 t208 x6_15 t212 l0_0 a0_1 l1_0 a1_1) = some r := H
                  have A43 := Aside0.mk A430
                  clear A430
                  have H' := Aside0.mk H
                  clear H
                  have hnb44 := NB205_206.out
                  have hnc44 := NB206_205.out
                  have hcz45_0 : wc.cell? ⟨gb205, 0, none⟩ = some (.slice A0_0 l0_0.length c0_0) := (blk_cell BK205.out 0).trans rfl
                  have hcz45_1 : wc.cell? ⟨gb205, 1, none⟩ = some (.int .i64 a0_1) := (blk_cell BK205.out 1).trans rfl
                  have hfz45_0 := blk_frozen BK205.out 0
                  have hfz45_1 := blk_frozen BK205.out 1
                  go_wp2_with (first | ((with_reducible refine gate_callee (f := 24) rfl ?_); refine goesL_ (some 35) rfl rfl Try.func24 (by kernel_rfl) rfl #[.agg #[.slice A0_0 l0_0.length c0_0, .int .i64 a0_1]] rfl (by (try simp only [List.map_toArray, List.map_cons, List.map_nil]); first | done | rfl | (simp only [List.length_drop, List.length_take]; rfl)) ?_; (with_reducible refine (counterfoilref11_Placed.calls kj15 _ _ l0_0 a0_1 true _ ?side1 ?side2 A40.out).mono ?_); (case side1 => repeat (first | exact (Kd.C_below HR0_0.out HB.out) | (with_reducible refine Kd.C_alloc ?_ _) | (with_reducible refine Kd.C_drewN ?_ _) | (with_reducible refine Kd.C_drew ?_))); (case side2 => exact HC0_0.out); rintro e w46 ⟨rfl, hb⟩; refine ⟨_, rfl, ?_⟩; have n0_ := Aside0.mk (blk_below (g := gb205) (o := .cells #[.slice A0_0 l0_0.length c0_0, .int .i64 a0_1] 39 (0, 0)) (by (with_reducible repeat (first | refine blk_drewN ?_ _ | refine blk_drew ?_ | refine blk_alloc ?_ _)); exact BK205.out) hb); have n1_ := Aside0.mk (blk_below (g := gb206) (o := .cells #[.slice A1_0 l1_0.length c1_0, .int .i64 a1_1] 39 (0, 0)) (by (with_reducible repeat (first | refine blk_drewN ?_ _ | refine blk_drew ?_ | refine blk_alloc ?_ _)); exact BK206.out) hb); have n2_ := Aside0.mk (below_step (by repeat (first | (with_reducible first | exact HB.out | apply below_alloc | apply pw_below_drewN | apply below_drew1 | refine below_set ?_ GE205.out | refine below_set ?_ GE206.out) | exact HB.out)) hb); clear BK205; clear BK206; clear HB; have BK205 := n0_; have BK206 := n1_; have HB := n2_; clear n0_ n1_ n2_; (try clear hb); (try clear hb2); (try clear hk); (try clear hi); have hcz47_0 : w46.cell? ⟨gb205, 0, none⟩ = some (.slice A0_0 l0_0.length c0_0) := (blk_cell BK205.out 0).trans rfl; have hcz47_1 : w46.cell? ⟨gb205, 1, none⟩ = some (.int .i64 a0_1) := (blk_cell BK205.out 1).trans rfl; have hfz47_0 := blk_frozen BK205.out 0; have hfz47_1 := blk_frozen BK205.out 1; have hcz48_0 : w46.cell? ⟨gb206, 0, none⟩ = some (.slice A1_0 l1_0.length c1_0) := (blk_cell BK206.out 0).trans rfl; have hcz48_1 : w46.cell? ⟨gb206, 1, none⟩ = some (.int .i64 a1_1) := (blk_cell BK206.out 1).trans rfl; have hfz48_0 := blk_frozen BK206.out 0; have hfz48_1 := blk_frozen BK206.out 1) | (go_at_call 31; (with_reducible refine (counterfoilref11_Equal.calls kj15 _ _ l0_0 _ _ l1_0 t212 _ ?side1 ?side2 ?side3 ?side4 A43.out).mono ?_); (case side1 => repeat (first | exact (Kd.C_below HR0_0.out HB.out) | (with_reducible refine Kd.C_alloc ?_ _) | (with_reducible refine Kd.C_drewN ?_ _) | (with_reducible refine Kd.C_drew ?_))); (case side2 => exact HC0_0.out); (case side3 => repeat (first | exact (Kd.C_below HR1_0.out HB.out) | (with_reducible refine Kd.C_alloc ?_ _) | (with_reducible refine Kd.C_drewN ?_ _) | (with_reducible refine Kd.C_drew ?_))); (case side4 => exact HC1_0.out); rintro e w' ⟨rfl, ⟨nd, rfl⟩⟩))
                  go_meet
                  case rel => exact ⟨_, (t212), (by first | rfl | (simp; done) | (simp [*]; done)), H', ⟨by have := HJ2.out; have := HJ15.out; first | omega | exact Nat.le_refl _⟩, ⟨by (with_reducible repeat (first | refine blk_drewN ?_ _ | refine blk_drew ?_ | refine blk_alloc ?_ _)); exact BK205.out⟩, ⟨by (with_reducible repeat (first | refine blk_drewN ?_ _ | refine blk_drew ?_ | refine blk_alloc ?_ _)); exact BK206.out⟩, ⟨by repeat (first | (with_reducible first | exact HB.out | apply below_alloc | apply pw_below_drewN | apply below_drew1 | refine below_set ?_ GE205.out | refine below_set ?_ GE206.out) | exact HB.out)⟩⟩
                · rw [if_neg c42] at H
                  have c42b0 : (a0_1 == a1_1) = false := beq_eq_false_iff_ne.mpr c42
                  have c42b1 : (a0_1 != a1_1) = true := bne_iff_ne.mpr c42
                  (first | rw [c42b0] | (simp only [i64_w, i32_w]; rw [c42b0]) | skip)
                  have H' := Aside0.mk H
                  clear H
                  have hnb49 := NB205_206.out
                  have hnc49 := NB206_205.out
                  have hcz50_0 : wc.cell? ⟨gb205, 0, none⟩ = some (.slice A0_0 l0_0.length c0_0) := (blk_cell BK205.out 0).trans rfl
                  have hcz50_1 : wc.cell? ⟨gb205, 1, none⟩ = some (.int .i64 a0_1) := (blk_cell BK205.out 1).trans rfl
                  have hfz50_0 := blk_frozen BK205.out 0
                  have hfz50_1 := blk_frozen BK205.out 1
                  go_wp2_with (first | ((with_reducible refine gate_callee (f := 24) rfl ?_); refine goesL_ (some 35) rfl rfl Try.func24 (by kernel_rfl) rfl #[.agg #[.slice A0_0 l0_0.length c0_0, .int .i64 a0_1]] rfl (by (try simp only [List.map_toArray, List.map_cons, List.map_nil]); first | done | rfl | (simp only [List.length_drop, List.length_take]; rfl)) ?_; (with_reducible refine (counterfoilref11_Placed.calls kj15 _ _ l0_0 a0_1 true _ ?side1 ?side2 A40.out).mono ?_); (case side1 => repeat (first | exact (Kd.C_below HR0_0.out HB.out) | (with_reducible refine Kd.C_alloc ?_ _) | (with_reducible refine Kd.C_drewN ?_ _) | (with_reducible refine Kd.C_drew ?_))); (case side2 => exact HC0_0.out); rintro e w51 ⟨rfl, hb⟩; refine ⟨_, rfl, ?_⟩; have n0_ := Aside0.mk (blk_below (g := gb205) (o := .cells #[.slice A0_0 l0_0.length c0_0, .int .i64 a0_1] 39 (0, 0)) (by (with_reducible repeat (first | refine blk_drewN ?_ _ | refine blk_drew ?_ | refine blk_alloc ?_ _)); exact BK205.out) hb); have n1_ := Aside0.mk (blk_below (g := gb206) (o := .cells #[.slice A1_0 l1_0.length c1_0, .int .i64 a1_1] 39 (0, 0)) (by (with_reducible repeat (first | refine blk_drewN ?_ _ | refine blk_drew ?_ | refine blk_alloc ?_ _)); exact BK206.out) hb); have n2_ := Aside0.mk (below_step (by repeat (first | (with_reducible first | exact HB.out | apply below_alloc | apply pw_below_drewN | apply below_drew1 | refine below_set ?_ GE205.out | refine below_set ?_ GE206.out) | exact HB.out)) hb); clear BK205; clear BK206; clear HB; have BK205 := n0_; have BK206 := n1_; have HB := n2_; clear n0_ n1_ n2_; (try clear hb); (try clear hb2); (try clear hk); (try clear hi); have hcz52_0 : w51.cell? ⟨gb205, 0, none⟩ = some (.slice A0_0 l0_0.length c0_0) := (blk_cell BK205.out 0).trans rfl; have hcz52_1 : w51.cell? ⟨gb205, 1, none⟩ = some (.int .i64 a0_1) := (blk_cell BK205.out 1).trans rfl; have hfz52_0 := blk_frozen BK205.out 0; have hfz52_1 := blk_frozen BK205.out 1; have hcz53_0 : w51.cell? ⟨gb206, 0, none⟩ = some (.slice A1_0 l1_0.length c1_0) := (blk_cell BK206.out 0).trans rfl; have hcz53_1 : w51.cell? ⟨gb206, 1, none⟩ = some (.int .i64 a1_1) := (blk_cell BK206.out 1).trans rfl; have hfz53_0 := blk_frozen BK206.out 0; have hfz53_1 := blk_frozen BK206.out 1))
                  go_meet
                  case rel => exact ⟨_, (false), (by first | rfl | (simp; done) | (simp [*]; done)), H', ⟨by have := HJ2.out; have := HJ15.out; first | omega | exact Nat.le_refl _⟩, ⟨by (with_reducible repeat (first | refine blk_drewN ?_ _ | refine blk_drew ?_ | refine blk_alloc ?_ _)); exact BK205.out⟩, ⟨by (with_reducible repeat (first | refine blk_drewN ?_ _ | refine blk_drew ?_ | refine blk_alloc ?_ _)); exact BK206.out⟩, ⟨by repeat (first | (with_reducible first | exact HB.out | apply below_alloc | apply pw_below_drewN | apply below_drew1 | refine below_set ?_ GE205.out | refine below_set ?_ GE206.out) | exact HB.out)⟩⟩
              · replace c41 := Bool.eq_false_iff.mpr c41
                subst c41
                have H1 : (counterfoillaw11_LineCommon.j2 kj15 t208 x6_15 false l0_0 a0_1 l1_0 a1_1) = some r := by rw [if_neg (show ¬ (false = true) by decide)] at H; exact H
                clear H
                have H := H1
                clear H1
                have H' := Aside0.mk H
                clear H
                have hnb54 := NB205_206.out
                have hnc54 := NB206_205.out
                have hcz55_0 : wc.cell? ⟨gb205, 0, none⟩ = some (.slice A0_0 l0_0.length c0_0) := (blk_cell BK205.out 0).trans rfl
                have hcz55_1 : wc.cell? ⟨gb205, 1, none⟩ = some (.int .i64 a0_1) := (blk_cell BK205.out 1).trans rfl
                have hfz55_0 := blk_frozen BK205.out 0
                have hfz55_1 := blk_frozen BK205.out 1
                go_wp2_with (first | ((with_reducible refine gate_callee (f := 24) rfl ?_); refine goesL_ (some 35) rfl rfl Try.func24 (by kernel_rfl) rfl #[.agg #[.slice A0_0 l0_0.length c0_0, .int .i64 a0_1]] rfl (by (try simp only [List.map_toArray, List.map_cons, List.map_nil]); first | done | rfl | (simp only [List.length_drop, List.length_take]; rfl)) ?_; (with_reducible refine (counterfoilref11_Placed.calls kj15 _ _ l0_0 a0_1 false _ ?side1 ?side2 A40.out).mono ?_); (case side1 => repeat (first | exact (Kd.C_below HR0_0.out HB.out) | (with_reducible refine Kd.C_alloc ?_ _) | (with_reducible refine Kd.C_drewN ?_ _) | (with_reducible refine Kd.C_drew ?_))); (case side2 => exact HC0_0.out); rintro e w56 ⟨rfl, hb⟩; refine ⟨_, rfl, ?_⟩; have n0_ := Aside0.mk (blk_below (g := gb205) (o := .cells #[.slice A0_0 l0_0.length c0_0, .int .i64 a0_1] 39 (0, 0)) (by (with_reducible repeat (first | refine blk_drewN ?_ _ | refine blk_drew ?_ | refine blk_alloc ?_ _)); exact BK205.out) hb); have n1_ := Aside0.mk (blk_below (g := gb206) (o := .cells #[.slice A1_0 l1_0.length c1_0, .int .i64 a1_1] 39 (0, 0)) (by (with_reducible repeat (first | refine blk_drewN ?_ _ | refine blk_drew ?_ | refine blk_alloc ?_ _)); exact BK206.out) hb); have n2_ := Aside0.mk (below_step (by repeat (first | (with_reducible first | exact HB.out | apply below_alloc | apply pw_below_drewN | apply below_drew1 | refine below_set ?_ GE205.out | refine below_set ?_ GE206.out) | exact HB.out)) hb); clear BK205; clear BK206; clear HB; have BK205 := n0_; have BK206 := n1_; have HB := n2_; clear n0_ n1_ n2_; (try clear hb); (try clear hb2); (try clear hk); (try clear hi)))
                go_meet
                case rel => exact ⟨_, (false), (by first | rfl | (simp; done) | (simp [*]; done)), H', ⟨by have := HJ2.out; have := HJ15.out; first | omega | exact Nat.le_refl _⟩, ⟨by (with_reducible repeat (first | refine blk_drewN ?_ _ | refine blk_drew ?_ | refine blk_alloc ?_ _)); exact BK205.out⟩, ⟨by (with_reducible repeat (first | refine blk_drewN ?_ _ | refine blk_drew ?_ | refine blk_alloc ?_ _)); exact BK206.out⟩, ⟨by repeat (first | (with_reducible first | exact HB.out | apply below_alloc | apply pw_below_drewN | apply below_drew1 | refine below_set ?_ GE205.out | refine below_set ?_ GE206.out) | exact HB.out)⟩⟩
            case rest =>
              clear HC39
              try clear c1
              try clear c2
              try clear p2
              try clear c3
              try clear c4
              try clear c5
              try clear c6
              try clear c6b0
              try clear c6b1
              try clear c7
              try clear c8
              try clear c9
              try clear c12
              try clear c17
              try clear c22
              try clear c24
              try clear c25
              try clear c30
              try clear c31
              try clear c36
              try clear c41
              try clear c42
              try clear c42b0
              try clear c42b1
              try clear c44
              try clear c49
              try clear c54
              try clear hcz10_0
              try clear hcz10_1
              try clear hcz11_0
              try clear hcz11_1
              try clear hcz18_0
              try clear hcz18_1
              try clear hcz19_0
              try clear hcz19_1
              try clear hcz26_0
              try clear hcz26_1
              try clear hcz28_0
              try clear hcz28_1
              try clear hcz30_0
              try clear hcz30_1
              try clear hcz32_0
              try clear hcz32_1
              try clear hcz34_0
              try clear hcz34_1
              try clear hcz37_0
              try clear hcz37_1
              try clear hcz45_0
              try clear hcz45_1
              try clear hcz47_0
              try clear hcz47_1
              try clear hcz48_0
              try clear hcz48_1
              try clear hcz50_0
              try clear hcz50_1
              try clear hcz52_0
              try clear hcz52_1
              try clear hcz53_0
              try clear hcz53_1
              try clear hcz55_0
              try clear hcz55_1
              try clear hcz8_0
              try clear hcz8_1
              try clear hfz10_0
              try clear hfz10_1
              try clear hfz11_0
              try clear hfz11_1
              try clear hfz18_0
              try clear hfz18_1
              try clear hfz19_0
              try clear hfz19_1
              try clear hfz26_0
              try clear hfz26_1
              try clear hfz28_0
              try clear hfz28_1
              try clear hfz30_0
              try clear hfz30_1
              try clear hfz32_0
              try clear hfz32_1
              try clear hfz34_0
              try clear hfz34_1
              try clear hfz37_0
              try clear hfz37_1
              try clear hfz45_0
              try clear hfz45_1
              try clear hfz47_0
              try clear hfz47_1
              try clear hfz48_0
              try clear hfz48_1
              try clear hfz50_0
              try clear hfz50_1
              try clear hfz52_0
              try clear hfz52_1
              try clear hfz53_0
              try clear hfz53_1
              try clear hfz55_0
              try clear hfz55_1
              try clear hfz8_0
              try clear hfz8_1
              try clear p2
              obtain ⟨kq, x7_38, rfl, HA, HJ38, BK205, BK206, HB⟩ := hcut
              cases kq with
              | zero => exact absurd HA.out (by simp [counterfoillaw11_LineCommon.j2])
              | succ kj38 =>
                have H := HA.out
                clear HA
                simp only [counterfoillaw11_LineCommon.j2] at H
                replace H := Option.bind_eq_some_iff.mp H
                obtain ⟨t213, A570, H⟩ := H
                replace H : (if t213 = t208 then ((line_Common.f kj38 l1_0 a1_1 l0_0 a0_1).bind fun t214 => (if t214 = t208 then ((line_Ahead.f kj38 l0_0 a0_1 l1_0 a1_1).bind fun t215 => (if (t215 == x6_15) = true then ((line_Same.f kj38 l0_0 a0_1 l1_0 a1_1).bind fun t216 => (if (t216 == x7_38) = true then ((counterfoillaw11_awake.f kj38).bind fun t217 => (some t217)) else (some false))) else (some false))) else (some false))) else (some false)) = some r := H
                have A57 := Aside0.mk A570
                clear A570
                by_cases c58 : t213 = t208
                · rw [if_pos c58] at H
                  have c58b0 : (t213 == t208) = true := beq_iff_eq.mpr c58
                  have c58b1 : (t213 != t208) = false := bne_eq_false_iff_eq.mpr c58
                  clear c58
                  replace H := Option.bind_eq_some_iff.mp H
                  obtain ⟨t214, A590, H⟩ := H
                  replace H : (if t214 = t208 then ((line_Ahead.f kj38 l0_0 a0_1 l1_0 a1_1).bind fun t215 => (if (t215 == x6_15) = true then ((line_Same.f kj38 l0_0 a0_1 l1_0 a1_1).bind fun t216 => (if (t216 == x7_38) = true then ((counterfoillaw11_awake.f kj38).bind fun t217 => (some t217)) else (some false))) else (some false))) else (some false)) = some r := H
                  have A59 := Aside0.mk A590
                  clear A590
                  by_cases c60 : t214 = t208
                  · rw [if_pos c60] at H
                    have c60b0 : (t214 == t208) = true := beq_iff_eq.mpr c60
                    have c60b1 : (t214 != t208) = false := bne_eq_false_iff_eq.mpr c60
                    clear c60
                    replace H := Option.bind_eq_some_iff.mp H
                    obtain ⟨t215, A610, H⟩ := H
                    replace H : (if (t215 == x6_15) = true then ((line_Same.f kj38 l0_0 a0_1 l1_0 a1_1).bind fun t216 => (if (t216 == x7_38) = true then ((counterfoillaw11_awake.f kj38).bind fun t217 => (some t217)) else (some false))) else (some false)) = some r := H
                    have A61 := Aside0.mk A610
                    clear A610
                    by_cases c62 : (t215 == x6_15) = true
                    · rw [if_pos c62] at H
                      have c62b0 : (t215 == x6_15) = true := c62
                      (try (have c62b1 : decide (t215 = x6_15) = true := by simpa using c62))
                      (try (have c62b2 : (t215 == x6_15) = true := by simpa using c62))
                      clear c62
                      replace H := Option.bind_eq_some_iff.mp H
                      obtain ⟨t216, A630, H⟩ := H
                      replace H : (if (t216 == x7_38) = true then ((counterfoillaw11_awake.f kj38).bind fun t217 => (some t217)) else (some false)) = some r := H
                      have A63 := Aside0.mk A630
                      clear A630
                      by_cases c64 : (t216 == x7_38) = true
                      · rw [if_pos c64] at H
                        have c64b0 : (t216 == x7_38) = true := c64
                        (try (have c64b1 : decide (t216 = x7_38) = true := by simpa using c64))
                        (try (have c64b2 : (t216 == x7_38) = true := by simpa using c64))
                        clear c64
                        replace H := Option.bind_eq_some_iff.mp H
                        obtain ⟨t217, A650, H⟩ := H
                        replace H : (some t217) = some r := H
                        have A65 := Aside0.mk A650
                        clear A650
                        obtain rfl := Option.some.inj H
                        have hnb66 := NB205_206.out
                        have hnc66 := NB206_205.out
                        have hcz67_0 : wc.cell? ⟨gb205, 0, none⟩ = some (.slice A0_0 l0_0.length c0_0) := (blk_cell BK205.out 0).trans rfl
                        have hcz67_1 : wc.cell? ⟨gb205, 1, none⟩ = some (.int .i64 a0_1) := (blk_cell BK205.out 1).trans rfl
                        have hfz67_0 := blk_frozen BK205.out 0
                        have hfz67_1 := blk_frozen BK205.out 1
                        have hcz68_0 : wc.cell? ⟨gb206, 0, none⟩ = some (.slice A1_0 l1_0.length c1_0) := (blk_cell BK206.out 0).trans rfl
                        have hcz68_1 : wc.cell? ⟨gb206, 1, none⟩ = some (.int .i64 a1_1) := (blk_cell BK206.out 1).trans rfl
                        have hfz68_0 := blk_frozen BK206.out 0
                        have hfz68_1 := blk_frozen BK206.out 1
                        go_wp2_with (first | ((with_reducible refine gate_callee (f := 27) rfl ?_); refine goesL_ (some 52) rfl rfl Try.func27 (by kernel_rfl) rfl #[.agg #[.slice A0_0 l0_0.length c0_0, .int .i64 a0_1], .agg #[.slice A1_0 l1_0.length c1_0, .int .i64 a1_1]] rfl (by (try simp only [List.map_toArray, List.map_cons, List.map_nil]); first | done | rfl | (simp only [List.length_drop, List.length_take]; rfl)) ?_; (with_reducible refine (line_Common.calls kj38 _ _ l0_0 a0_1 _ _ l1_0 a1_1 t213 _ ?side1 ?side2 ?side3 ?side4 A57.out).mono ?_); (case side1 => repeat (first | exact (Kd.C_below HR0_0.out HB.out) | (with_reducible refine Kd.C_alloc ?_ _) | (with_reducible refine Kd.C_drewN ?_ _) | (with_reducible refine Kd.C_drew ?_))); (case side2 => exact HC0_0.out); (case side3 => repeat (first | exact (Kd.C_below HR1_0.out HB.out) | (with_reducible refine Kd.C_alloc ?_ _) | (with_reducible refine Kd.C_drewN ?_ _) | (with_reducible refine Kd.C_drew ?_))); (case side4 => exact HC1_0.out); rintro e w69 ⟨rfl, hb⟩; refine ⟨_, rfl, ?_⟩; have n0_ := Aside0.mk (blk_below (g := gb205) (o := .cells #[.slice A0_0 l0_0.length c0_0, .int .i64 a0_1] 39 (0, 0)) (by (with_reducible repeat (first | refine blk_drewN ?_ _ | refine blk_drew ?_ | refine blk_alloc ?_ _)); exact BK205.out) hb); have n1_ := Aside0.mk (blk_below (g := gb206) (o := .cells #[.slice A1_0 l1_0.length c1_0, .int .i64 a1_1] 39 (0, 0)) (by (with_reducible repeat (first | refine blk_drewN ?_ _ | refine blk_drew ?_ | refine blk_alloc ?_ _)); exact BK206.out) hb); have n2_ := Aside0.mk (below_step (by repeat (first | (with_reducible first | exact HB.out | apply below_alloc | apply pw_below_drewN | apply below_drew1 | refine below_set ?_ GE205.out | refine below_set ?_ GE206.out) | exact HB.out)) hb); clear BK205; clear BK206; clear HB; have BK205 := n0_; have BK206 := n1_; have HB := n2_; clear n0_ n1_ n2_; (try clear hb); (try clear hb2); (try clear hk); (try clear hi); have hcz70_0 : w69.cell? ⟨gb206, 0, none⟩ = some (.slice A1_0 l1_0.length c1_0) := (blk_cell BK206.out 0).trans rfl; have hcz70_1 : w69.cell? ⟨gb206, 1, none⟩ = some (.int .i64 a1_1) := (blk_cell BK206.out 1).trans rfl; have hfz70_0 := blk_frozen BK206.out 0; have hfz70_1 := blk_frozen BK206.out 1; have hcz71_0 : w69.cell? ⟨gb205, 0, none⟩ = some (.slice A0_0 l0_0.length c0_0) := (blk_cell BK205.out 0).trans rfl; have hcz71_1 : w69.cell? ⟨gb205, 1, none⟩ = some (.int .i64 a0_1) := (blk_cell BK205.out 1).trans rfl; have hfz71_0 := blk_frozen BK205.out 0; have hfz71_1 := blk_frozen BK205.out 1) | (go_at_call 27; (with_reducible refine (line_Common.calls kj38 _ _ l1_0 a1_1 _ _ l0_0 a0_1 t214 _ ?side1 ?side2 ?side3 ?side4 A59.out).mono ?_); (case side1 => repeat (first | exact (Kd.C_below HR1_0.out HB.out) | (with_reducible refine Kd.C_alloc ?_ _) | (with_reducible refine Kd.C_drewN ?_ _) | (with_reducible refine Kd.C_drew ?_))); (case side2 => exact HC1_0.out); (case side3 => repeat (first | exact (Kd.C_below HR0_0.out HB.out) | (with_reducible refine Kd.C_alloc ?_ _) | (with_reducible refine Kd.C_drewN ?_ _) | (with_reducible refine Kd.C_drew ?_))); (case side4 => exact HC0_0.out); rintro e w72 ⟨rfl, hb⟩; have n0_ := Aside0.mk (blk_below (g := gb205) (o := .cells #[.slice A0_0 l0_0.length c0_0, .int .i64 a0_1] 39 (0, 0)) (by (with_reducible repeat (first | refine blk_drewN ?_ _ | refine blk_drew ?_ | refine blk_alloc ?_ _)); exact BK205.out) hb); have n1_ := Aside0.mk (blk_below (g := gb206) (o := .cells #[.slice A1_0 l1_0.length c1_0, .int .i64 a1_1] 39 (0, 0)) (by (with_reducible repeat (first | refine blk_drewN ?_ _ | refine blk_drew ?_ | refine blk_alloc ?_ _)); exact BK206.out) hb); have n2_ := Aside0.mk (below_step (by repeat (first | (with_reducible first | exact HB.out | apply below_alloc | apply pw_below_drewN | apply below_drew1 | refine below_set ?_ GE205.out | refine below_set ?_ GE206.out) | exact HB.out)) hb); clear BK205; clear BK206; clear HB; have BK205 := n0_; have BK206 := n1_; have HB := n2_; clear n0_ n1_ n2_; (try clear hb); (try clear hb2); (try clear hk); (try clear hi); have hcz73_0 : w72.cell? ⟨gb205, 0, none⟩ = some (.slice A0_0 l0_0.length c0_0) := (blk_cell BK205.out 0).trans rfl; have hcz73_1 : w72.cell? ⟨gb205, 1, none⟩ = some (.int .i64 a0_1) := (blk_cell BK205.out 1).trans rfl; have hfz73_0 := blk_frozen BK205.out 0; have hfz73_1 := blk_frozen BK205.out 1; have hcz74_0 : w72.cell? ⟨gb206, 0, none⟩ = some (.slice A1_0 l1_0.length c1_0) := (blk_cell BK206.out 0).trans rfl; have hcz74_1 : w72.cell? ⟨gb206, 1, none⟩ = some (.int .i64 a1_1) := (blk_cell BK206.out 1).trans rfl; have hfz74_0 := blk_frozen BK206.out 0; have hfz74_1 := blk_frozen BK206.out 1) | (go_at_call 29; (with_reducible refine (line_Ahead.calls kj38 _ _ l0_0 a0_1 _ _ l1_0 a1_1 t215 _ ?side1 ?side2 ?side3 ?side4 A61.out).mono ?_); (case side1 => repeat (first | exact (Kd.C_below HR0_0.out HB.out) | (with_reducible refine Kd.C_alloc ?_ _) | (with_reducible refine Kd.C_drewN ?_ _) | (with_reducible refine Kd.C_drew ?_))); (case side2 => exact HC0_0.out); (case side3 => repeat (first | exact (Kd.C_below HR1_0.out HB.out) | (with_reducible refine Kd.C_alloc ?_ _) | (with_reducible refine Kd.C_drewN ?_ _) | (with_reducible refine Kd.C_drew ?_))); (case side4 => exact HC1_0.out); rintro e w75 ⟨rfl, hb⟩; have n0_ := Aside0.mk (blk_below (g := gb205) (o := .cells #[.slice A0_0 l0_0.length c0_0, .int .i64 a0_1] 39 (0, 0)) (by (with_reducible repeat (first | refine blk_drewN ?_ _ | refine blk_drew ?_ | refine blk_alloc ?_ _)); exact BK205.out) hb); have n1_ := Aside0.mk (blk_below (g := gb206) (o := .cells #[.slice A1_0 l1_0.length c1_0, .int .i64 a1_1] 39 (0, 0)) (by (with_reducible repeat (first | refine blk_drewN ?_ _ | refine blk_drew ?_ | refine blk_alloc ?_ _)); exact BK206.out) hb); have n2_ := Aside0.mk (below_step (by repeat (first | (with_reducible first | exact HB.out | apply below_alloc | apply pw_below_drewN | apply below_drew1 | refine below_set ?_ GE205.out | refine below_set ?_ GE206.out) | exact HB.out)) hb); clear BK205; clear BK206; clear HB; have BK205 := n0_; have BK206 := n1_; have HB := n2_; clear n0_ n1_ n2_; (try clear hb); (try clear hb2); (try clear hk); (try clear hi); have hcz76_0 : w75.cell? ⟨gb205, 0, none⟩ = some (.slice A0_0 l0_0.length c0_0) := (blk_cell BK205.out 0).trans rfl; have hcz76_1 : w75.cell? ⟨gb205, 1, none⟩ = some (.int .i64 a0_1) := (blk_cell BK205.out 1).trans rfl; have hfz76_0 := blk_frozen BK205.out 0; have hfz76_1 := blk_frozen BK205.out 1; have hcz77_0 : w75.cell? ⟨gb206, 0, none⟩ = some (.slice A1_0 l1_0.length c1_0) := (blk_cell BK206.out 0).trans rfl; have hcz77_1 : w75.cell? ⟨gb206, 1, none⟩ = some (.int .i64 a1_1) := (blk_cell BK206.out 1).trans rfl; have hfz77_0 := blk_frozen BK206.out 0; have hfz77_1 := blk_frozen BK206.out 1) | (go_at_call 32; (with_reducible refine (line_Same.calls kj38 _ _ l0_0 a0_1 _ _ l1_0 a1_1 t216 _ ?side1 ?side2 ?side3 ?side4 A63.out).mono ?_); (case side1 => repeat (first | exact (Kd.C_below HR0_0.out HB.out) | (with_reducible refine Kd.C_alloc ?_ _) | (with_reducible refine Kd.C_drewN ?_ _) | (with_reducible refine Kd.C_drew ?_))); (case side2 => exact HC0_0.out); (case side3 => repeat (first | exact (Kd.C_below HR1_0.out HB.out) | (with_reducible refine Kd.C_alloc ?_ _) | (with_reducible refine Kd.C_drewN ?_ _) | (with_reducible refine Kd.C_drew ?_))); (case side4 => exact HC1_0.out); rintro e w78 ⟨rfl, hb⟩; have n0_ := Aside0.mk (blk_below (g := gb205) (o := .cells #[.slice A0_0 l0_0.length c0_0, .int .i64 a0_1] 39 (0, 0)) (by (with_reducible repeat (first | refine blk_drewN ?_ _ | refine blk_drew ?_ | refine blk_alloc ?_ _)); exact BK205.out) hb); have n1_ := Aside0.mk (blk_below (g := gb206) (o := .cells #[.slice A1_0 l1_0.length c1_0, .int .i64 a1_1] 39 (0, 0)) (by (with_reducible repeat (first | refine blk_drewN ?_ _ | refine blk_drew ?_ | refine blk_alloc ?_ _)); exact BK206.out) hb); have n2_ := Aside0.mk (below_step (by repeat (first | (with_reducible first | exact HB.out | apply below_alloc | apply pw_below_drewN | apply below_drew1 | refine below_set ?_ GE205.out | refine below_set ?_ GE206.out) | exact HB.out)) hb); clear BK205; clear BK206; clear HB; have BK205 := n0_; have BK206 := n1_; have HB := n2_; clear n0_ n1_ n2_; (try clear hb); (try clear hb2); (try clear hk); (try clear hi)) | (go_at_call 22; (with_reducible refine (counterfoillaw11_awake.calls kj38  t217 _ A65.out).mono ?_); rintro e w79 ⟨rfl, hb⟩; have n0_ := Aside0.mk (blk_below (g := gb205) (o := .cells #[.slice A0_0 l0_0.length c0_0, .int .i64 a0_1] 39 (0, 0)) (by (with_reducible repeat (first | refine blk_drewN ?_ _ | refine blk_drew ?_ | refine blk_alloc ?_ _)); exact BK205.out) hb); have n1_ := Aside0.mk (blk_below (g := gb206) (o := .cells #[.slice A1_0 l1_0.length c1_0, .int .i64 a1_1] 39 (0, 0)) (by (with_reducible repeat (first | refine blk_drewN ?_ _ | refine blk_drew ?_ | refine blk_alloc ?_ _)); exact BK206.out) hb); have n2_ := Aside0.mk (below_step (by repeat (first | (with_reducible first | exact HB.out | apply below_alloc | apply pw_below_drewN | apply below_drew1 | refine below_set ?_ GE205.out | refine below_set ?_ GE206.out) | exact HB.out)) hb); clear BK205; clear BK206; clear HB; have BK205 := n0_; have BK206 := n1_; have HB := n2_; clear n0_ n1_ n2_; (try clear hb); (try clear hb2); (try clear hk); (try clear hi)))
                        go_ret
                        exact ⟨by first | rfl | (simp [errW_none, errW_some] <;> rfl) | (simp [*, errW_none, errW_some] <;> rfl), by repeat (first | (with_reducible first | exact HB.out | apply below_alloc | apply pw_below_drewN | apply below_drew1 | refine below_set ?_ GE205.out | refine below_set ?_ GE206.out) | exact HB.out)⟩
                      · rw [if_neg c64] at H
                        have c64b0 : (t216 == x7_38) = false := by simpa using c64
                        (try (have c64b1 : decide (t216 = x7_38) = false := by simpa using c64))
                        (try (have c64b2 : (t216 == x7_38) = false := by simpa using c64))
                        (try (have c64b3 : ¬ (t216 = x7_38) := by simpa using c64))
                        clear c64
                        obtain rfl := Option.some.inj H
                        have hnb80 := NB205_206.out
                        have hnc80 := NB206_205.out
                        have hcz81_0 : wc.cell? ⟨gb205, 0, none⟩ = some (.slice A0_0 l0_0.length c0_0) := (blk_cell BK205.out 0).trans rfl
                        have hcz81_1 : wc.cell? ⟨gb205, 1, none⟩ = some (.int .i64 a0_1) := (blk_cell BK205.out 1).trans rfl
                        have hfz81_0 := blk_frozen BK205.out 0
                        have hfz81_1 := blk_frozen BK205.out 1
                        have hcz82_0 : wc.cell? ⟨gb206, 0, none⟩ = some (.slice A1_0 l1_0.length c1_0) := (blk_cell BK206.out 0).trans rfl
                        have hcz82_1 : wc.cell? ⟨gb206, 1, none⟩ = some (.int .i64 a1_1) := (blk_cell BK206.out 1).trans rfl
                        have hfz82_0 := blk_frozen BK206.out 0
                        have hfz82_1 := blk_frozen BK206.out 1
                        go_wp2_with (first | ((with_reducible refine gate_callee (f := 27) rfl ?_); refine goesL_ (some 52) rfl rfl Try.func27 (by kernel_rfl) rfl #[.agg #[.slice A0_0 l0_0.length c0_0, .int .i64 a0_1], .agg #[.slice A1_0 l1_0.length c1_0, .int .i64 a1_1]] rfl (by (try simp only [List.map_toArray, List.map_cons, List.map_nil]); first | done | rfl | (simp only [List.length_drop, List.length_take]; rfl)) ?_; (with_reducible refine (line_Common.calls kj38 _ _ l0_0 a0_1 _ _ l1_0 a1_1 t213 _ ?side1 ?side2 ?side3 ?side4 A57.out).mono ?_); (case side1 => repeat (first | exact (Kd.C_below HR0_0.out HB.out) | (with_reducible refine Kd.C_alloc ?_ _) | (with_reducible refine Kd.C_drewN ?_ _) | (with_reducible refine Kd.C_drew ?_))); (case side2 => exact HC0_0.out); (case side3 => repeat (first | exact (Kd.C_below HR1_0.out HB.out) | (with_reducible refine Kd.C_alloc ?_ _) | (with_reducible refine Kd.C_drewN ?_ _) | (with_reducible refine Kd.C_drew ?_))); (case side4 => exact HC1_0.out); rintro e w83 ⟨rfl, hb⟩; refine ⟨_, rfl, ?_⟩; have n0_ := Aside0.mk (blk_below (g := gb205) (o := .cells #[.slice A0_0 l0_0.length c0_0, .int .i64 a0_1] 39 (0, 0)) (by (with_reducible repeat (first | refine blk_drewN ?_ _ | refine blk_drew ?_ | refine blk_alloc ?_ _)); exact BK205.out) hb); have n1_ := Aside0.mk (blk_below (g := gb206) (o := .cells #[.slice A1_0 l1_0.length c1_0, .int .i64 a1_1] 39 (0, 0)) (by (with_reducible repeat (first | refine blk_drewN ?_ _ | refine blk_drew ?_ | refine blk_alloc ?_ _)); exact BK206.out) hb); have n2_ := Aside0.mk (below_step (by repeat (first | (with_reducible first | exact HB.out | apply below_alloc | apply pw_below_drewN | apply below_drew1 | refine below_set ?_ GE205.out | refine below_set ?_ GE206.out) | exact HB.out)) hb); clear BK205; clear BK206; clear HB; have BK205 := n0_; have BK206 := n1_; have HB := n2_; clear n0_ n1_ n2_; (try clear hb); (try clear hb2); (try clear hk); (try clear hi); have hcz84_0 : w83.cell? ⟨gb206, 0, none⟩ = some (.slice A1_0 l1_0.length c1_0) := (blk_cell BK206.out 0).trans rfl; have hcz84_1 : w83.cell? ⟨gb206, 1, none⟩ = some (.int .i64 a1_1) := (blk_cell BK206.out 1).trans rfl; have hfz84_0 := blk_frozen BK206.out 0; have hfz84_1 := blk_frozen BK206.out 1; have hcz85_0 : w83.cell? ⟨gb205, 0, none⟩ = some (.slice A0_0 l0_0.length c0_0) := (blk_cell BK205.out 0).trans rfl; have hcz85_1 : w83.cell? ⟨gb205, 1, none⟩ = some (.int .i64 a0_1) := (blk_cell BK205.out 1).trans rfl; have hfz85_0 := blk_frozen BK205.out 0; have hfz85_1 := blk_frozen BK205.out 1) | (go_at_call 27; (with_reducible refine (line_Common.calls kj38 _ _ l1_0 a1_1 _ _ l0_0 a0_1 t214 _ ?side1 ?side2 ?side3 ?side4 A59.out).mono ?_); (case side1 => repeat (first | exact (Kd.C_below HR1_0.out HB.out) | (with_reducible refine Kd.C_alloc ?_ _) | (with_reducible refine Kd.C_drewN ?_ _) | (with_reducible refine Kd.C_drew ?_))); (case side2 => exact HC1_0.out); (case side3 => repeat (first | exact (Kd.C_below HR0_0.out HB.out) | (with_reducible refine Kd.C_alloc ?_ _) | (with_reducible refine Kd.C_drewN ?_ _) | (with_reducible refine Kd.C_drew ?_))); (case side4 => exact HC0_0.out); rintro e w86 ⟨rfl, hb⟩; have n0_ := Aside0.mk (blk_below (g := gb205) (o := .cells #[.slice A0_0 l0_0.length c0_0, .int .i64 a0_1] 39 (0, 0)) (by (with_reducible repeat (first | refine blk_drewN ?_ _ | refine blk_drew ?_ | refine blk_alloc ?_ _)); exact BK205.out) hb); have n1_ := Aside0.mk (blk_below (g := gb206) (o := .cells #[.slice A1_0 l1_0.length c1_0, .int .i64 a1_1] 39 (0, 0)) (by (with_reducible repeat (first | refine blk_drewN ?_ _ | refine blk_drew ?_ | refine blk_alloc ?_ _)); exact BK206.out) hb); have n2_ := Aside0.mk (below_step (by repeat (first | (with_reducible first | exact HB.out | apply below_alloc | apply pw_below_drewN | apply below_drew1 | refine below_set ?_ GE205.out | refine below_set ?_ GE206.out) | exact HB.out)) hb); clear BK205; clear BK206; clear HB; have BK205 := n0_; have BK206 := n1_; have HB := n2_; clear n0_ n1_ n2_; (try clear hb); (try clear hb2); (try clear hk); (try clear hi); have hcz87_0 : w86.cell? ⟨gb205, 0, none⟩ = some (.slice A0_0 l0_0.length c0_0) := (blk_cell BK205.out 0).trans rfl; have hcz87_1 : w86.cell? ⟨gb205, 1, none⟩ = some (.int .i64 a0_1) := (blk_cell BK205.out 1).trans rfl; have hfz87_0 := blk_frozen BK205.out 0; have hfz87_1 := blk_frozen BK205.out 1; have hcz88_0 : w86.cell? ⟨gb206, 0, none⟩ = some (.slice A1_0 l1_0.length c1_0) := (blk_cell BK206.out 0).trans rfl; have hcz88_1 : w86.cell? ⟨gb206, 1, none⟩ = some (.int .i64 a1_1) := (blk_cell BK206.out 1).trans rfl; have hfz88_0 := blk_frozen BK206.out 0; have hfz88_1 := blk_frozen BK206.out 1) | (go_at_call 29; (with_reducible refine (line_Ahead.calls kj38 _ _ l0_0 a0_1 _ _ l1_0 a1_1 t215 _ ?side1 ?side2 ?side3 ?side4 A61.out).mono ?_); (case side1 => repeat (first | exact (Kd.C_below HR0_0.out HB.out) | (with_reducible refine Kd.C_alloc ?_ _) | (with_reducible refine Kd.C_drewN ?_ _) | (with_reducible refine Kd.C_drew ?_))); (case side2 => exact HC0_0.out); (case side3 => repeat (first | exact (Kd.C_below HR1_0.out HB.out) | (with_reducible refine Kd.C_alloc ?_ _) | (with_reducible refine Kd.C_drewN ?_ _) | (with_reducible refine Kd.C_drew ?_))); (case side4 => exact HC1_0.out); rintro e w89 ⟨rfl, hb⟩; have n0_ := Aside0.mk (blk_below (g := gb205) (o := .cells #[.slice A0_0 l0_0.length c0_0, .int .i64 a0_1] 39 (0, 0)) (by (with_reducible repeat (first | refine blk_drewN ?_ _ | refine blk_drew ?_ | refine blk_alloc ?_ _)); exact BK205.out) hb); have n1_ := Aside0.mk (blk_below (g := gb206) (o := .cells #[.slice A1_0 l1_0.length c1_0, .int .i64 a1_1] 39 (0, 0)) (by (with_reducible repeat (first | refine blk_drewN ?_ _ | refine blk_drew ?_ | refine blk_alloc ?_ _)); exact BK206.out) hb); have n2_ := Aside0.mk (below_step (by repeat (first | (with_reducible first | exact HB.out | apply below_alloc | apply pw_below_drewN | apply below_drew1 | refine below_set ?_ GE205.out | refine below_set ?_ GE206.out) | exact HB.out)) hb); clear BK205; clear BK206; clear HB; have BK205 := n0_; have BK206 := n1_; have HB := n2_; clear n0_ n1_ n2_; (try clear hb); (try clear hb2); (try clear hk); (try clear hi); have hcz90_0 : w89.cell? ⟨gb205, 0, none⟩ = some (.slice A0_0 l0_0.length c0_0) := (blk_cell BK205.out 0).trans rfl; have hcz90_1 : w89.cell? ⟨gb205, 1, none⟩ = some (.int .i64 a0_1) := (blk_cell BK205.out 1).trans rfl; have hfz90_0 := blk_frozen BK205.out 0; have hfz90_1 := blk_frozen BK205.out 1; have hcz91_0 : w89.cell? ⟨gb206, 0, none⟩ = some (.slice A1_0 l1_0.length c1_0) := (blk_cell BK206.out 0).trans rfl; have hcz91_1 : w89.cell? ⟨gb206, 1, none⟩ = some (.int .i64 a1_1) := (blk_cell BK206.out 1).trans rfl; have hfz91_0 := blk_frozen BK206.out 0; have hfz91_1 := blk_frozen BK206.out 1) | (go_at_call 32; (with_reducible refine (line_Same.calls kj38 _ _ l0_0 a0_1 _ _ l1_0 a1_1 t216 _ ?side1 ?side2 ?side3 ?side4 A63.out).mono ?_); (case side1 => repeat (first | exact (Kd.C_below HR0_0.out HB.out) | (with_reducible refine Kd.C_alloc ?_ _) | (with_reducible refine Kd.C_drewN ?_ _) | (with_reducible refine Kd.C_drew ?_))); (case side2 => exact HC0_0.out); (case side3 => repeat (first | exact (Kd.C_below HR1_0.out HB.out) | (with_reducible refine Kd.C_alloc ?_ _) | (with_reducible refine Kd.C_drewN ?_ _) | (with_reducible refine Kd.C_drew ?_))); (case side4 => exact HC1_0.out); rintro e w92 ⟨rfl, hb⟩; have n0_ := Aside0.mk (blk_below (g := gb205) (o := .cells #[.slice A0_0 l0_0.length c0_0, .int .i64 a0_1] 39 (0, 0)) (by (with_reducible repeat (first | refine blk_drewN ?_ _ | refine blk_drew ?_ | refine blk_alloc ?_ _)); exact BK205.out) hb); have n1_ := Aside0.mk (blk_below (g := gb206) (o := .cells #[.slice A1_0 l1_0.length c1_0, .int .i64 a1_1] 39 (0, 0)) (by (with_reducible repeat (first | refine blk_drewN ?_ _ | refine blk_drew ?_ | refine blk_alloc ?_ _)); exact BK206.out) hb); have n2_ := Aside0.mk (below_step (by repeat (first | (with_reducible first | exact HB.out | apply below_alloc | apply pw_below_drewN | apply below_drew1 | refine below_set ?_ GE205.out | refine below_set ?_ GE206.out) | exact HB.out)) hb); clear BK205; clear BK206; clear HB; have BK205 := n0_; have BK206 := n1_; have HB := n2_; clear n0_ n1_ n2_; (try clear hb); (try clear hb2); (try clear hk); (try clear hi)))
                        go_ret
                        exact ⟨by first | rfl | (simp [errW_none, errW_some] <;> rfl) | (simp [*, errW_none, errW_some] <;> rfl), by repeat (first | (with_reducible first | exact HB.out | apply below_alloc | apply pw_below_drewN | apply below_drew1 | refine below_set ?_ GE205.out | refine below_set ?_ GE206.out) | exact HB.out)⟩
                    · rw [if_neg c62] at H
                      have c62b0 : (t215 == x6_15) = false := by simpa using c62
                      (try (have c62b1 : decide (t215 = x6_15) = false := by simpa using c62))
                      (try (have c62b2 : (t215 == x6_15) = false := by simpa using c62))
                      (try (have c62b3 : ¬ (t215 = x6_15) := by simpa using c62))
                      clear c62
                      obtain rfl := Option.some.inj H
                      have hnb93 := NB205_206.out
                      have hnc93 := NB206_205.out
                      have hcz94_0 : wc.cell? ⟨gb205, 0, none⟩ = some (.slice A0_0 l0_0.length c0_0) := (blk_cell BK205.out 0).trans rfl
                      have hcz94_1 : wc.cell? ⟨gb205, 1, none⟩ = some (.int .i64 a0_1) := (blk_cell BK205.out 1).trans rfl
                      have hfz94_0 := blk_frozen BK205.out 0
                      have hfz94_1 := blk_frozen BK205.out 1
                      have hcz95_0 : wc.cell? ⟨gb206, 0, none⟩ = some (.slice A1_0 l1_0.length c1_0) := (blk_cell BK206.out 0).trans rfl
                      have hcz95_1 : wc.cell? ⟨gb206, 1, none⟩ = some (.int .i64 a1_1) := (blk_cell BK206.out 1).trans rfl
                      have hfz95_0 := blk_frozen BK206.out 0
                      have hfz95_1 := blk_frozen BK206.out 1
                      go_wp2_with (first | ((with_reducible refine gate_callee (f := 27) rfl ?_); refine goesL_ (some 52) rfl rfl Try.func27 (by kernel_rfl) rfl #[.agg #[.slice A0_0 l0_0.length c0_0, .int .i64 a0_1], .agg #[.slice A1_0 l1_0.length c1_0, .int .i64 a1_1]] rfl (by (try simp only [List.map_toArray, List.map_cons, List.map_nil]); first | done | rfl | (simp only [List.length_drop, List.length_take]; rfl)) ?_; (with_reducible refine (line_Common.calls kj38 _ _ l0_0 a0_1 _ _ l1_0 a1_1 t213 _ ?side1 ?side2 ?side3 ?side4 A57.out).mono ?_); (case side1 => repeat (first | exact (Kd.C_below HR0_0.out HB.out) | (with_reducible refine Kd.C_alloc ?_ _) | (with_reducible refine Kd.C_drewN ?_ _) | (with_reducible refine Kd.C_drew ?_))); (case side2 => exact HC0_0.out); (case side3 => repeat (first | exact (Kd.C_below HR1_0.out HB.out) | (with_reducible refine Kd.C_alloc ?_ _) | (with_reducible refine Kd.C_drewN ?_ _) | (with_reducible refine Kd.C_drew ?_))); (case side4 => exact HC1_0.out); rintro e w96 ⟨rfl, hb⟩; refine ⟨_, rfl, ?_⟩; have n0_ := Aside0.mk (blk_below (g := gb205) (o := .cells #[.slice A0_0 l0_0.length c0_0, .int .i64 a0_1] 39 (0, 0)) (by (with_reducible repeat (first | refine blk_drewN ?_ _ | refine blk_drew ?_ | refine blk_alloc ?_ _)); exact BK205.out) hb); have n1_ := Aside0.mk (blk_below (g := gb206) (o := .cells #[.slice A1_0 l1_0.length c1_0, .int .i64 a1_1] 39 (0, 0)) (by (with_reducible repeat (first | refine blk_drewN ?_ _ | refine blk_drew ?_ | refine blk_alloc ?_ _)); exact BK206.out) hb); have n2_ := Aside0.mk (below_step (by repeat (first | (with_reducible first | exact HB.out | apply below_alloc | apply pw_below_drewN | apply below_drew1 | refine below_set ?_ GE205.out | refine below_set ?_ GE206.out) | exact HB.out)) hb); clear BK205; clear BK206; clear HB; have BK205 := n0_; have BK206 := n1_; have HB := n2_; clear n0_ n1_ n2_; (try clear hb); (try clear hb2); (try clear hk); (try clear hi); have hcz97_0 : w96.cell? ⟨gb206, 0, none⟩ = some (.slice A1_0 l1_0.length c1_0) := (blk_cell BK206.out 0).trans rfl; have hcz97_1 : w96.cell? ⟨gb206, 1, none⟩ = some (.int .i64 a1_1) := (blk_cell BK206.out 1).trans rfl; have hfz97_0 := blk_frozen BK206.out 0; have hfz97_1 := blk_frozen BK206.out 1; have hcz98_0 : w96.cell? ⟨gb205, 0, none⟩ = some (.slice A0_0 l0_0.length c0_0) := (blk_cell BK205.out 0).trans rfl; have hcz98_1 : w96.cell? ⟨gb205, 1, none⟩ = some (.int .i64 a0_1) := (blk_cell BK205.out 1).trans rfl; have hfz98_0 := blk_frozen BK205.out 0; have hfz98_1 := blk_frozen BK205.out 1) | (go_at_call 27; (with_reducible refine (line_Common.calls kj38 _ _ l1_0 a1_1 _ _ l0_0 a0_1 t214 _ ?side1 ?side2 ?side3 ?side4 A59.out).mono ?_); (case side1 => repeat (first | exact (Kd.C_below HR1_0.out HB.out) | (with_reducible refine Kd.C_alloc ?_ _) | (with_reducible refine Kd.C_drewN ?_ _) | (with_reducible refine Kd.C_drew ?_))); (case side2 => exact HC1_0.out); (case side3 => repeat (first | exact (Kd.C_below HR0_0.out HB.out) | (with_reducible refine Kd.C_alloc ?_ _) | (with_reducible refine Kd.C_drewN ?_ _) | (with_reducible refine Kd.C_drew ?_))); (case side4 => exact HC0_0.out); rintro e w99 ⟨rfl, hb⟩; have n0_ := Aside0.mk (blk_below (g := gb205) (o := .cells #[.slice A0_0 l0_0.length c0_0, .int .i64 a0_1] 39 (0, 0)) (by (with_reducible repeat (first | refine blk_drewN ?_ _ | refine blk_drew ?_ | refine blk_alloc ?_ _)); exact BK205.out) hb); have n1_ := Aside0.mk (blk_below (g := gb206) (o := .cells #[.slice A1_0 l1_0.length c1_0, .int .i64 a1_1] 39 (0, 0)) (by (with_reducible repeat (first | refine blk_drewN ?_ _ | refine blk_drew ?_ | refine blk_alloc ?_ _)); exact BK206.out) hb); have n2_ := Aside0.mk (below_step (by repeat (first | (with_reducible first | exact HB.out | apply below_alloc | apply pw_below_drewN | apply below_drew1 | refine below_set ?_ GE205.out | refine below_set ?_ GE206.out) | exact HB.out)) hb); clear BK205; clear BK206; clear HB; have BK205 := n0_; have BK206 := n1_; have HB := n2_; clear n0_ n1_ n2_; (try clear hb); (try clear hb2); (try clear hk); (try clear hi); have hcz100_0 : w99.cell? ⟨gb205, 0, none⟩ = some (.slice A0_0 l0_0.length c0_0) := (blk_cell BK205.out 0).trans rfl; have hcz100_1 : w99.cell? ⟨gb205, 1, none⟩ = some (.int .i64 a0_1) := (blk_cell BK205.out 1).trans rfl; have hfz100_0 := blk_frozen BK205.out 0; have hfz100_1 := blk_frozen BK205.out 1; have hcz101_0 : w99.cell? ⟨gb206, 0, none⟩ = some (.slice A1_0 l1_0.length c1_0) := (blk_cell BK206.out 0).trans rfl; have hcz101_1 : w99.cell? ⟨gb206, 1, none⟩ = some (.int .i64 a1_1) := (blk_cell BK206.out 1).trans rfl; have hfz101_0 := blk_frozen BK206.out 0; have hfz101_1 := blk_frozen BK206.out 1) | (go_at_call 29; (with_reducible refine (line_Ahead.calls kj38 _ _ l0_0 a0_1 _ _ l1_0 a1_1 t215 _ ?side1 ?side2 ?side3 ?side4 A61.out).mono ?_); (case side1 => repeat (first | exact (Kd.C_below HR0_0.out HB.out) | (with_reducible refine Kd.C_alloc ?_ _) | (with_reducible refine Kd.C_drewN ?_ _) | (with_reducible refine Kd.C_drew ?_))); (case side2 => exact HC0_0.out); (case side3 => repeat (first | exact (Kd.C_below HR1_0.out HB.out) | (with_reducible refine Kd.C_alloc ?_ _) | (with_reducible refine Kd.C_drewN ?_ _) | (with_reducible refine Kd.C_drew ?_))); (case side4 => exact HC1_0.out); rintro e w102 ⟨rfl, hb⟩; have n0_ := Aside0.mk (blk_below (g := gb205) (o := .cells #[.slice A0_0 l0_0.length c0_0, .int .i64 a0_1] 39 (0, 0)) (by (with_reducible repeat (first | refine blk_drewN ?_ _ | refine blk_drew ?_ | refine blk_alloc ?_ _)); exact BK205.out) hb); have n1_ := Aside0.mk (blk_below (g := gb206) (o := .cells #[.slice A1_0 l1_0.length c1_0, .int .i64 a1_1] 39 (0, 0)) (by (with_reducible repeat (first | refine blk_drewN ?_ _ | refine blk_drew ?_ | refine blk_alloc ?_ _)); exact BK206.out) hb); have n2_ := Aside0.mk (below_step (by repeat (first | (with_reducible first | exact HB.out | apply below_alloc | apply pw_below_drewN | apply below_drew1 | refine below_set ?_ GE205.out | refine below_set ?_ GE206.out) | exact HB.out)) hb); clear BK205; clear BK206; clear HB; have BK205 := n0_; have BK206 := n1_; have HB := n2_; clear n0_ n1_ n2_; (try clear hb); (try clear hb2); (try clear hk); (try clear hi)))
                      go_ret
                      exact ⟨by first | rfl | (simp [errW_none, errW_some] <;> rfl) | (simp [*, errW_none, errW_some] <;> rfl), by repeat (first | (with_reducible first | exact HB.out | apply below_alloc | apply pw_below_drewN | apply below_drew1 | refine below_set ?_ GE205.out | refine below_set ?_ GE206.out) | exact HB.out)⟩
                  · rw [if_neg c60] at H
                    have c60b0 : (t214 == t208) = false := beq_eq_false_iff_ne.mpr c60
                    have c60b1 : (t214 != t208) = true := bne_iff_ne.mpr c60
                    obtain rfl := Option.some.inj H
                    have hnb103 := NB205_206.out
                    have hnc103 := NB206_205.out
                    have hcz104_0 : wc.cell? ⟨gb205, 0, none⟩ = some (.slice A0_0 l0_0.length c0_0) := (blk_cell BK205.out 0).trans rfl
                    have hcz104_1 : wc.cell? ⟨gb205, 1, none⟩ = some (.int .i64 a0_1) := (blk_cell BK205.out 1).trans rfl
                    have hfz104_0 := blk_frozen BK205.out 0
                    have hfz104_1 := blk_frozen BK205.out 1
                    have hcz105_0 : wc.cell? ⟨gb206, 0, none⟩ = some (.slice A1_0 l1_0.length c1_0) := (blk_cell BK206.out 0).trans rfl
                    have hcz105_1 : wc.cell? ⟨gb206, 1, none⟩ = some (.int .i64 a1_1) := (blk_cell BK206.out 1).trans rfl
                    have hfz105_0 := blk_frozen BK206.out 0
                    have hfz105_1 := blk_frozen BK206.out 1
                    go_wp2_with (first | ((with_reducible refine gate_callee (f := 27) rfl ?_); refine goesL_ (some 52) rfl rfl Try.func27 (by kernel_rfl) rfl #[.agg #[.slice A0_0 l0_0.length c0_0, .int .i64 a0_1], .agg #[.slice A1_0 l1_0.length c1_0, .int .i64 a1_1]] rfl (by (try simp only [List.map_toArray, List.map_cons, List.map_nil]); first | done | rfl | (simp only [List.length_drop, List.length_take]; rfl)) ?_; (with_reducible refine (line_Common.calls kj38 _ _ l0_0 a0_1 _ _ l1_0 a1_1 t213 _ ?side1 ?side2 ?side3 ?side4 A57.out).mono ?_); (case side1 => repeat (first | exact (Kd.C_below HR0_0.out HB.out) | (with_reducible refine Kd.C_alloc ?_ _) | (with_reducible refine Kd.C_drewN ?_ _) | (with_reducible refine Kd.C_drew ?_))); (case side2 => exact HC0_0.out); (case side3 => repeat (first | exact (Kd.C_below HR1_0.out HB.out) | (with_reducible refine Kd.C_alloc ?_ _) | (with_reducible refine Kd.C_drewN ?_ _) | (with_reducible refine Kd.C_drew ?_))); (case side4 => exact HC1_0.out); rintro e w106 ⟨rfl, hb⟩; refine ⟨_, rfl, ?_⟩; have n0_ := Aside0.mk (blk_below (g := gb205) (o := .cells #[.slice A0_0 l0_0.length c0_0, .int .i64 a0_1] 39 (0, 0)) (by (with_reducible repeat (first | refine blk_drewN ?_ _ | refine blk_drew ?_ | refine blk_alloc ?_ _)); exact BK205.out) hb); have n1_ := Aside0.mk (blk_below (g := gb206) (o := .cells #[.slice A1_0 l1_0.length c1_0, .int .i64 a1_1] 39 (0, 0)) (by (with_reducible repeat (first | refine blk_drewN ?_ _ | refine blk_drew ?_ | refine blk_alloc ?_ _)); exact BK206.out) hb); have n2_ := Aside0.mk (below_step (by repeat (first | (with_reducible first | exact HB.out | apply below_alloc | apply pw_below_drewN | apply below_drew1 | refine below_set ?_ GE205.out | refine below_set ?_ GE206.out) | exact HB.out)) hb); clear BK205; clear BK206; clear HB; have BK205 := n0_; have BK206 := n1_; have HB := n2_; clear n0_ n1_ n2_; (try clear hb); (try clear hb2); (try clear hk); (try clear hi); have hcz107_0 : w106.cell? ⟨gb206, 0, none⟩ = some (.slice A1_0 l1_0.length c1_0) := (blk_cell BK206.out 0).trans rfl; have hcz107_1 : w106.cell? ⟨gb206, 1, none⟩ = some (.int .i64 a1_1) := (blk_cell BK206.out 1).trans rfl; have hfz107_0 := blk_frozen BK206.out 0; have hfz107_1 := blk_frozen BK206.out 1; have hcz108_0 : w106.cell? ⟨gb205, 0, none⟩ = some (.slice A0_0 l0_0.length c0_0) := (blk_cell BK205.out 0).trans rfl; have hcz108_1 : w106.cell? ⟨gb205, 1, none⟩ = some (.int .i64 a0_1) := (blk_cell BK205.out 1).trans rfl; have hfz108_0 := blk_frozen BK205.out 0; have hfz108_1 := blk_frozen BK205.out 1) | (go_at_call 27; (with_reducible refine (line_Common.calls kj38 _ _ l1_0 a1_1 _ _ l0_0 a0_1 t214 _ ?side1 ?side2 ?side3 ?side4 A59.out).mono ?_); (case side1 => repeat (first | exact (Kd.C_below HR1_0.out HB.out) | (with_reducible refine Kd.C_alloc ?_ _) | (with_reducible refine Kd.C_drewN ?_ _) | (with_reducible refine Kd.C_drew ?_))); (case side2 => exact HC1_0.out); (case side3 => repeat (first | exact (Kd.C_below HR0_0.out HB.out) | (with_reducible refine Kd.C_alloc ?_ _) | (with_reducible refine Kd.C_drewN ?_ _) | (with_reducible refine Kd.C_drew ?_))); (case side4 => exact HC0_0.out); rintro e w109 ⟨rfl, hb⟩; have n0_ := Aside0.mk (blk_below (g := gb205) (o := .cells #[.slice A0_0 l0_0.length c0_0, .int .i64 a0_1] 39 (0, 0)) (by (with_reducible repeat (first | refine blk_drewN ?_ _ | refine blk_drew ?_ | refine blk_alloc ?_ _)); exact BK205.out) hb); have n1_ := Aside0.mk (blk_below (g := gb206) (o := .cells #[.slice A1_0 l1_0.length c1_0, .int .i64 a1_1] 39 (0, 0)) (by (with_reducible repeat (first | refine blk_drewN ?_ _ | refine blk_drew ?_ | refine blk_alloc ?_ _)); exact BK206.out) hb); have n2_ := Aside0.mk (below_step (by repeat (first | (with_reducible first | exact HB.out | apply below_alloc | apply pw_below_drewN | apply below_drew1 | refine below_set ?_ GE205.out | refine below_set ?_ GE206.out) | exact HB.out)) hb); clear BK205; clear BK206; clear HB; have BK205 := n0_; have BK206 := n1_; have HB := n2_; clear n0_ n1_ n2_; (try clear hb); (try clear hb2); (try clear hk); (try clear hi)))
                    go_ret
                    exact ⟨by first | rfl | (simp [errW_none, errW_some] <;> rfl) | (simp [*, errW_none, errW_some] <;> rfl), by repeat (first | (with_reducible first | exact HB.out | apply below_alloc | apply pw_below_drewN | apply below_drew1 | refine below_set ?_ GE205.out | refine below_set ?_ GE206.out) | exact HB.out)⟩
                · rw [if_neg c58] at H
                  have c58b0 : (t213 == t208) = false := beq_eq_false_iff_ne.mpr c58
                  have c58b1 : (t213 != t208) = true := bne_iff_ne.mpr c58
                  obtain rfl := Option.some.inj H
                  have hnb110 := NB205_206.out
                  have hnc110 := NB206_205.out
                  have hcz111_0 : wc.cell? ⟨gb205, 0, none⟩ = some (.slice A0_0 l0_0.length c0_0) := (blk_cell BK205.out 0).trans rfl
                  have hcz111_1 : wc.cell? ⟨gb205, 1, none⟩ = some (.int .i64 a0_1) := (blk_cell BK205.out 1).trans rfl
                  have hfz111_0 := blk_frozen BK205.out 0
                  have hfz111_1 := blk_frozen BK205.out 1
                  have hcz112_0 : wc.cell? ⟨gb206, 0, none⟩ = some (.slice A1_0 l1_0.length c1_0) := (blk_cell BK206.out 0).trans rfl
                  have hcz112_1 : wc.cell? ⟨gb206, 1, none⟩ = some (.int .i64 a1_1) := (blk_cell BK206.out 1).trans rfl
                  have hfz112_0 := blk_frozen BK206.out 0
                  have hfz112_1 := blk_frozen BK206.out 1
                  go_wp2_with (first | ((with_reducible refine gate_callee (f := 27) rfl ?_); refine goesL_ (some 52) rfl rfl Try.func27 (by kernel_rfl) rfl #[.agg #[.slice A0_0 l0_0.length c0_0, .int .i64 a0_1], .agg #[.slice A1_0 l1_0.length c1_0, .int .i64 a1_1]] rfl (by (try simp only [List.map_toArray, List.map_cons, List.map_nil]); first | done | rfl | (simp only [List.length_drop, List.length_take]; rfl)) ?_; (with_reducible refine (line_Common.calls kj38 _ _ l0_0 a0_1 _ _ l1_0 a1_1 t213 _ ?side1 ?side2 ?side3 ?side4 A57.out).mono ?_); (case side1 => repeat (first | exact (Kd.C_below HR0_0.out HB.out) | (with_reducible refine Kd.C_alloc ?_ _) | (with_reducible refine Kd.C_drewN ?_ _) | (with_reducible refine Kd.C_drew ?_))); (case side2 => exact HC0_0.out); (case side3 => repeat (first | exact (Kd.C_below HR1_0.out HB.out) | (with_reducible refine Kd.C_alloc ?_ _) | (with_reducible refine Kd.C_drewN ?_ _) | (with_reducible refine Kd.C_drew ?_))); (case side4 => exact HC1_0.out); rintro e w113 ⟨rfl, hb⟩; refine ⟨_, rfl, ?_⟩; have n0_ := Aside0.mk (blk_below (g := gb205) (o := .cells #[.slice A0_0 l0_0.length c0_0, .int .i64 a0_1] 39 (0, 0)) (by (with_reducible repeat (first | refine blk_drewN ?_ _ | refine blk_drew ?_ | refine blk_alloc ?_ _)); exact BK205.out) hb); have n1_ := Aside0.mk (blk_below (g := gb206) (o := .cells #[.slice A1_0 l1_0.length c1_0, .int .i64 a1_1] 39 (0, 0)) (by (with_reducible repeat (first | refine blk_drewN ?_ _ | refine blk_drew ?_ | refine blk_alloc ?_ _)); exact BK206.out) hb); have n2_ := Aside0.mk (below_step (by repeat (first | (with_reducible first | exact HB.out | apply below_alloc | apply pw_below_drewN | apply below_drew1 | refine below_set ?_ GE205.out | refine below_set ?_ GE206.out) | exact HB.out)) hb); clear BK205; clear BK206; clear HB; have BK205 := n0_; have BK206 := n1_; have HB := n2_; clear n0_ n1_ n2_; (try clear hb); (try clear hb2); (try clear hk); (try clear hi)))
                  go_ret
                  exact ⟨by first | rfl | (simp [errW_none, errW_some] <;> rfl) | (simp [*, errW_none, errW_some] <;> rfl), by repeat (first | (with_reducible first | exact HB.out | apply below_alloc | apply pw_below_drewN | apply below_drew1 | refine below_set ?_ GE205.out | refine below_set ?_ GE206.out) | exact HB.out)⟩

/-- THE ONE PURE STATEMENT of counterfoillaw11_LineCommon. -/
def counterfoillaw11_LineCommon.Pure : Prop := ∀ (l0_0 : List (S61)) (a0_1 : Int) (l1_0 : List (S61)) (a1_1 : Int), (l0_0.length * 16 ≤ 140737488351232 ∧ l0_0.length ≤ maxLen ∧ ∀ x ∈ l0_0, good61 x) → (Lit.int .i64 a0_1).wf = true → (l1_0.length * 16 ≤ 140737488351232 ∧ l1_0.length ≤ maxLen ∧ ∀ x ∈ l1_0, good61 x) → (Lit.int .i64 a1_1).wf = true → ∃ k, counterfoillaw11_LineCommon.f k l0_0 a0_1 l1_0 a1_1 = some true

end Go.Proofs.Ytlkfmmjoiadoiaa.P
