-- MADE BY wip/kit/myprint.py for this seat
import Derived.Test.YtlkfmmjoiadoiaaPx0
import Derived.Test.YtlkfmmjoiadoiaaPx15
import Derived.Test.YtlkfmmjoiadoiaaPx8
import Derived.Test.YtlkfmmjoiadoiaaGood
namespace Go.Proofs.Ytlkfmmjoiadoiaa.P
open Go.RowKit Go.Proofs.YtlkfmmjoiadoiaaW.PrintWords Go.Proofs.YtlkfmmjoiadoiaaW.PrintLast Go.Proofs.YtlkfmmjoiadoiaaW.PrintMore
attribute [local go_sem] max2_int min2_int max_two min_two max_three min_three max_four min_four   -- for this text's walks alone
set_option linter.unusedVariables false
set_option linter.unusedSimpArgs false

/-! ### counterfoillaw11_LineChain: function 7 -/
mutual
def counterfoillaw11_LineChain.j0 : Nat → Bool → List (S61) → Int → List (S61) → Int → List (S61) → Int → Option (Bool)
  | 0, _, _, _, _, _, _, _ => none
  | k + 1, x22, x176000, x176001, x177000, x177001, x178000, x178001 => if x22 = true then ((counterfoillaw11_awake.f k).bind fun t178 => (some t178)) else ((line_Ahead.f k x176000 x176001 x177000 x177001).bind fun t179 => (if t179 = true then ((line_Ahead.f k x177000 x177001 x178000 x178001).bind fun t180 => (counterfoillaw11_LineChain.j1 k (!t180) x176000 x176001 x178000 x178001)) else (counterfoillaw11_LineChain.j1 k true x176000 x176001 x178000 x178001)))
def counterfoillaw11_LineChain.j1 : Nat → Bool → List (S61) → Int → List (S61) → Int → Option (Bool)
  | 0, _, _, _, _, _ => none
  | k + 1, x33, x176000, x176001, x178000, x178001 => if x33 = true then ((counterfoillaw11_awake.f k).bind fun t181 => (some t181)) else ((line_Ahead.f k x176000 x176001 x178000 x178001).bind fun t182 => (if t182 = true then (if x176001 ≤ x178001 then ((counterfoillaw11_awake.f k).bind fun t183 => (some t183)) else (some false)) else (some false)))
end
def counterfoillaw11_LineChain.f (k : Nat) (l0_0 : List (S61)) (a0_1 : Int) (l1_0 : List (S61)) (a1_1 : Int) (l2_0 : List (S61)) (a2_1 : Int) : Option (Bool) := if (l0_0.length : Int) > 100 then (counterfoillaw11_LineChain.j0 k true l0_0 a0_1 l1_0 a1_1 l2_0 a2_1) else (if (l1_0.length : Int) > 100 then (counterfoillaw11_LineChain.j0 k true l0_0 a0_1 l1_0 a1_1 l2_0 a2_1) else (counterfoillaw11_LineChain.j0 k (decide ((l2_0.length : Int) > 100)) l0_0 a0_1 l1_0 a1_1 l2_0 a2_1))
theorem counterfoillaw11_LineChain.mono_l : ∀ k, (∀ y0 y1 y2 y3 y4 y5 y6, LeO (counterfoillaw11_LineChain.j0 k y0 y1 y2 y3 y4 y5 y6) (counterfoillaw11_LineChain.j0 (k + 1) y0 y1 y2 y3 y4 y5 y6)) ∧ (∀ y0 y1 y2 y3 y4, LeO (counterfoillaw11_LineChain.j1 k y0 y1 y2 y3 y4) (counterfoillaw11_LineChain.j1 (k + 1) y0 y1 y2 y3 y4))
  | 0 => ⟨fun _ _ _ _ _ _ _ r h => by simp [counterfoillaw11_LineChain.j0] at h, fun _ _ _ _ _ r h => by simp [counterfoillaw11_LineChain.j1] at h⟩
  | k + 1 => by
    obtain ⟨ih0, ih1⟩ := counterfoillaw11_LineChain.mono_l k
    refine ⟨?_, ?_⟩
    · intro y0 y1 y2 y3 y4 y5 y6
      unfold counterfoillaw11_LineChain.j0
      repeat' first
      | (with_reducible exact ih0 _ _ _ _ _ _ _)
      | (with_reducible exact ih1 _ _ _ _ _)
      | (with_reducible exact counterfoillaw11_awake.mono _)
      | (with_reducible exact line_Ahead.mono _ _ _ _ _)
      | (with_reducible exact LeO.refl _)
      | (with_reducible exact LeO.none _)
      | (with_reducible refine LeO.ite ?_ ?_)
      | (with_reducible refine LeO.bind ?_ (fun _ => ?_))
      | exact ih0 _ _ _ _ _ _ _
      | exact ih1 _ _ _ _ _
      | exact counterfoillaw11_awake.mono _
      | exact line_Ahead.mono _ _ _ _ _
      | exact LeO.none _
      | refine LeO.ite ?_ ?_
      | refine LeO.bind ?_ (fun _ => ?_)
    · intro y0 y1 y2 y3 y4
      unfold counterfoillaw11_LineChain.j1
      repeat' first
      | (with_reducible exact ih0 _ _ _ _ _ _ _)
      | (with_reducible exact ih1 _ _ _ _ _)
      | (with_reducible exact counterfoillaw11_awake.mono _)
      | (with_reducible exact line_Ahead.mono _ _ _ _ _)
      | (with_reducible exact LeO.refl _)
      | (with_reducible exact LeO.none _)
      | (with_reducible refine LeO.ite ?_ ?_)
      | (with_reducible refine LeO.bind ?_ (fun _ => ?_))
      | exact ih0 _ _ _ _ _ _ _
      | exact ih1 _ _ _ _ _
      | exact counterfoillaw11_awake.mono _
      | exact line_Ahead.mono _ _ _ _ _
      | exact LeO.none _
      | refine LeO.ite ?_ ?_
      | refine LeO.bind ?_ (fun _ => ?_)
theorem counterfoillaw11_LineChain.mono : ∀ a0 a1 a2 a3 a4 a5 k, LeO (counterfoillaw11_LineChain.f k a0 a1 a2 a3 a4 a5) (counterfoillaw11_LineChain.f (k + 1) a0 a1 a2 a3 a4 a5) := by
  intro a0 a1 a2 a3 a4 a5 k
  obtain ⟨ih0, ih1⟩ := counterfoillaw11_LineChain.mono_l k
  unfold counterfoillaw11_LineChain.f
  repeat' first
      | (with_reducible exact ih0 _ _ _ _ _ _ _)
      | (with_reducible exact ih1 _ _ _ _ _)
      | (with_reducible exact counterfoillaw11_awake.mono _)
      | (with_reducible exact line_Ahead.mono _ _ _ _ _)
      | (with_reducible exact LeO.refl _)
      | (with_reducible exact LeO.none _)
      | (with_reducible refine LeO.ite ?_ ?_)
      | (with_reducible refine LeO.bind ?_ (fun _ => ?_))
      | exact ih0 _ _ _ _ _ _ _
      | exact ih1 _ _ _ _ _
      | exact counterfoillaw11_awake.mono _
      | exact line_Ahead.mono _ _ _ _ _
      | exact LeO.none _
      | refine LeO.ite ?_ ?_
      | refine LeO.bind ?_ (fun _ => ?_)
set_option maxHeartbeats 8000000 in
set_option maxRecDepth 100000 in
theorem counterfoillaw11_LineChain.calls (k : Nat) (A0_0 : Option Addr) (c0_0 : Nat) (l0_0 : List (S61)) (a0_1 : Int) (A1_0 : Option Addr) (c1_0 : Nat) (l1_0 : List (S61)) (a1_1 : Int) (A2_0 : Option Addr) (c2_0 : Nat) (l2_0 : List (S61)) (a2_1 : Int) (r : Bool) (w : World) (hr0_0 : Kd.C k61 w A0_0 l0_0.length l0_0) (hc0_0 : l0_0.length ≤ c0_0) (hr1_0 : Kd.C k61 w A1_0 l1_0.length l1_0) (hc1_0 : l1_0.length ≤ c1_0) (hr2_0 : Kd.C k61 w A2_0 l2_0.length l2_0) (hc2_0 : l2_0.length ≤ c2_0) (h : counterfoillaw11_LineChain.f k l0_0 a0_1 l1_0 a1_1 l2_0 a2_1 = some r) :
    Calls Try.prog 7 #[.agg #[.slice A0_0 l0_0.length c0_0, .int .i64 a0_1], .agg #[.slice A1_0 l1_0.length c1_0, .int .i64 a1_1], .agg #[.slice A2_0 l2_0.length c2_0, .int .i64 a2_1]] w fun e w' => e = .returned (.bool r) ∧ Below w.heap.size w w' := by
  have hu39 := Try.underlying39
  have HR0_0 := Aside0.mk hr0_0
  have HC0_0 := Aside0.mk hc0_0
  clear hr0_0 hc0_0
  have HR1_0 := Aside0.mk hr1_0
  have HC1_0 := Aside0.mk hc1_0
  clear hr1_0 hc1_0
  have HR2_0 := Aside0.mk hr2_0
  have HC2_0 := Aside0.mk hc2_0
  clear hr2_0 hc2_0
  have HB := Aside0.mk (Below.refl w.heap.size w)
  have H : (if (l0_0.length : Int) > 100 then (counterfoillaw11_LineChain.j0 k true l0_0 a0_1 l1_0 a1_1 l2_0 a2_1) else (if (l1_0.length : Int) > 100 then (counterfoillaw11_LineChain.j0 k true l0_0 a0_1 l1_0 a1_1 l2_0 a2_1) else (counterfoillaw11_LineChain.j0 k (decide ((l2_0.length : Int) > 100)) l0_0 a0_1 l1_0 a1_1 l2_0 a2_1))) = some r := h
  clear h
  have HC4 := Aside0.mk H
  clear H
  go_enter Try.func7, Try.ntmps7
  go_upto_region 1 with (first | ((with_reducible refine gate_dst (N := 3) rfl ?_); (try (refine gate_guard (by rfl) ?_; dsimp only)); refine box_event ?hg (N := 3) ?hd (cs := #[.slice A0_0 l0_0.length c0_0, .int .i64 a0_1]) (t := 39) ?hr ?_; (case hd => rfl); (case hg => rfl); (case hr => first | (go_simp; done) | (go_simp; rfl)); intro gb175 hg w5 hbox hb; have n0_ := Aside0.mk (below_step (by repeat (first | (with_reducible first | exact HB.out | apply below_alloc | apply pw_below_drewN | apply below_drew1) | exact HB.out)) hb); have n1_ := Aside0.mk (hbox); have n2_ := Aside0.mk ((by rw [hg]; exact (below_size (by repeat (first | (with_reducible first | exact HB.out | apply below_alloc | apply pw_below_drewN | apply below_drew1) | exact HB.out))) : w.heap.size ≤ gb175)); have n3_ := Aside0.mk ((by rw [hg]; exact (below_size (by repeat (first | (with_reducible first | exact HB.out | apply below_alloc | apply pw_below_drewN | apply below_drew1) | exact HB.out))) : w.heap.size ≤ gb175)); clear HB; have HB := n0_; have BK175 := n1_; have GW175 := n2_; have GE175 := n3_; clear n0_ n1_ n2_ n3_; clear hb hbox hg) | ((with_reducible refine gate_dst (N := 4) rfl ?_); (try (refine gate_guard (by rfl) ?_; dsimp only)); refine box_event ?hg (N := 4) ?hd (cs := #[.slice A1_0 l1_0.length c1_0, .int .i64 a1_1]) (t := 39) ?hr ?_; (case hd => rfl); (case hg => rfl); (case hr => first | (go_simp; done) | (go_simp; rfl)); intro gb176 hg w6 hbox hb; have n0_ := Aside0.mk (blk_below (g := gb175) (o := .cells #[.slice A0_0 l0_0.length c0_0, .int .i64 a0_1] 39 (0, 0)) (by (with_reducible repeat (first | refine blk_drewN ?_ _ | refine blk_drew ?_ | refine blk_alloc ?_ _)); exact BK175.out) hb); have n1_ := Aside0.mk (below_step (by repeat (first | (with_reducible first | exact HB.out | apply below_alloc | apply pw_below_drewN | apply below_drew1 | refine below_set ?_ GE175.out) | exact HB.out)) hb); have n2_ := Aside0.mk (hbox); have n3_ := Aside0.mk ((by rw [hg]; exact (below_size (by repeat (first | (with_reducible first | exact HB.out | apply below_alloc | apply pw_below_drewN | apply below_drew1 | refine below_set ?_ GE175.out) | exact HB.out))) : w.heap.size ≤ gb176)); have n4_ := Aside0.mk ((by rw [hg]; exact (below_size (by repeat (first | (with_reducible first | exact HB.out | apply below_alloc | apply pw_below_drewN | apply below_drew1 | refine below_set ?_ GE175.out) | exact HB.out))) : w.heap.size ≤ gb176)); have n5_ := Aside0.mk ((by rw [hg]; exact Nat.ne_of_lt (blk_lt (g := gb175) (o := .cells #[.slice A0_0 l0_0.length c0_0, .int .i64 a0_1] 39 (0, 0)) (by (with_reducible repeat (first | refine blk_drewN ?_ _ | refine blk_drew ?_ | refine blk_alloc ?_ _)); exact BK175.out)) : gb175 ≠ gb176)); have n6_ := Aside0.mk ((by rw [hg]; exact Nat.ne_of_gt (blk_lt (g := gb175) (o := .cells #[.slice A0_0 l0_0.length c0_0, .int .i64 a0_1] 39 (0, 0)) (by (with_reducible repeat (first | refine blk_drewN ?_ _ | refine blk_drew ?_ | refine blk_alloc ?_ _)); exact BK175.out)) : gb176 ≠ gb175)); clear BK175; clear HB; have BK175 := n0_; have HB := n1_; have BK176 := n2_; have GW176 := n3_; have GE176 := n4_; have NB175_176 := n5_; have NB176_175 := n6_; clear n0_ n1_ n2_ n3_ n4_ n5_ n6_; clear hb hbox hg) | ((with_reducible refine gate_dst (N := 5) rfl ?_); (try (refine gate_guard (by rfl) ?_; dsimp only)); refine box_event ?hg (N := 5) ?hd (cs := #[.slice A2_0 l2_0.length c2_0, .int .i64 a2_1]) (t := 39) ?hr ?_; (case hd => rfl); (case hg => rfl); (case hr => first | (go_simp; done) | (go_simp; rfl)); intro gb177 hg w7 hbox hb; have n0_ := Aside0.mk (blk_below (g := gb175) (o := .cells #[.slice A0_0 l0_0.length c0_0, .int .i64 a0_1] 39 (0, 0)) (by (with_reducible repeat (first | refine blk_drewN ?_ _ | refine blk_drew ?_ | refine blk_alloc ?_ _)); exact BK175.out) hb); have n1_ := Aside0.mk (blk_below (g := gb176) (o := .cells #[.slice A1_0 l1_0.length c1_0, .int .i64 a1_1] 39 (0, 0)) (by (with_reducible repeat (first | refine blk_drewN ?_ _ | refine blk_drew ?_ | refine blk_alloc ?_ _)); exact BK176.out) hb); have n2_ := Aside0.mk (below_step (by repeat (first | (with_reducible first | exact HB.out | apply below_alloc | apply pw_below_drewN | apply below_drew1 | refine below_set ?_ GE175.out | refine below_set ?_ GE176.out) | exact HB.out)) hb); have n3_ := Aside0.mk (hbox); have n4_ := Aside0.mk ((by rw [hg]; exact (below_size (by repeat (first | (with_reducible first | exact HB.out | apply below_alloc | apply pw_below_drewN | apply below_drew1 | refine below_set ?_ GE175.out | refine below_set ?_ GE176.out) | exact HB.out))) : w.heap.size ≤ gb177)); have n5_ := Aside0.mk ((by rw [hg]; exact (below_size (by repeat (first | (with_reducible first | exact HB.out | apply below_alloc | apply pw_below_drewN | apply below_drew1 | refine below_set ?_ GE175.out | refine below_set ?_ GE176.out) | exact HB.out))) : w.heap.size ≤ gb177)); have n6_ := Aside0.mk ((by rw [hg]; exact Nat.ne_of_lt (blk_lt (g := gb175) (o := .cells #[.slice A0_0 l0_0.length c0_0, .int .i64 a0_1] 39 (0, 0)) (by (with_reducible repeat (first | refine blk_drewN ?_ _ | refine blk_drew ?_ | refine blk_alloc ?_ _)); exact BK175.out)) : gb175 ≠ gb177)); have n7_ := Aside0.mk ((by rw [hg]; exact Nat.ne_of_gt (blk_lt (g := gb175) (o := .cells #[.slice A0_0 l0_0.length c0_0, .int .i64 a0_1] 39 (0, 0)) (by (with_reducible repeat (first | refine blk_drewN ?_ _ | refine blk_drew ?_ | refine blk_alloc ?_ _)); exact BK175.out)) : gb177 ≠ gb175)); have n8_ := Aside0.mk ((by rw [hg]; exact Nat.ne_of_lt (blk_lt (g := gb176) (o := .cells #[.slice A1_0 l1_0.length c1_0, .int .i64 a1_1] 39 (0, 0)) (by (with_reducible repeat (first | refine blk_drewN ?_ _ | refine blk_drew ?_ | refine blk_alloc ?_ _)); exact BK176.out)) : gb176 ≠ gb177)); have n9_ := Aside0.mk ((by rw [hg]; exact Nat.ne_of_gt (blk_lt (g := gb176) (o := .cells #[.slice A1_0 l1_0.length c1_0, .int .i64 a1_1] 39 (0, 0)) (by (with_reducible repeat (first | refine blk_drewN ?_ _ | refine blk_drew ?_ | refine blk_alloc ?_ _)); exact BK176.out)) : gb177 ≠ gb176)); clear BK175; clear BK176; clear HB; have BK175 := n0_; have BK176 := n1_; have HB := n2_; have BK177 := n3_; have GW177 := n4_; have GE177 := n5_; have NB175_177 := n6_; have NB177_175 := n7_; have NB176_177 := n8_; have NB177_176 := n9_; clear n0_ n1_ n2_ n3_ n4_ n5_ n6_ n7_ n8_ n9_; clear hb hbox hg))
  (try simp only [Act.put, List.setIfInBounds_toArray, List.set_cons_zero, List.set_cons_succ])
  go_cut [22] (fun v22 wc => ∃ (kq : Nat) (x22_3 : Bool), v22 = .bool x22_3 ∧ Aside0 (counterfoillaw11_LineChain.j0 kq x22_3 l0_0 a0_1 l1_0 a1_1 l2_0 a2_1 = some r) ∧ Aside0 (kq ≤ k) ∧ Aside0 (wc.heap[gb175]? = some (.cells #[(.slice A0_0 l0_0.length c0_0), .int .i64 a0_1] 39 (0, 0))) ∧ Aside0 (wc.heap[gb176]? = some (.cells #[(.slice A1_0 l1_0.length c1_0), .int .i64 a1_1] 39 (0, 0))) ∧ Aside0 (wc.heap[gb177]? = some (.cells #[(.slice A2_0 l2_0.length c2_0), .int .i64 a2_1] 39 (0, 0))) ∧ Aside0 (Below w.heap.size w wc))
  case first =>
    have H := HC4.out
    clear HC4
    by_cases c8 : (l0_0.length : Int) > 100
    · rw [if_pos c8] at H
      have c8b0 : decide (100 < (l0_0.length : Int)) = true := decide_eq_true c8
      have c8b1 : decide (100 < l0_0.length) = true := decide_eq_true (by omega)
      clear c8
      (first | rw [c8b0] | (simp only [i64_w, i32_w]; rw [c8b0]) | skip)
      have H' := Aside0.mk H
      clear H
      have hnb9 := NB175_176.out
      have hnc9 := NB176_175.out
      have hnb10 := NB175_177.out
      have hnc10 := NB177_175.out
      have hcz11_0 : w7.cell? ⟨gb175, 0, none⟩ = some (.slice A0_0 l0_0.length c0_0) := (blk_cell BK175.out 0).trans rfl
      have hcz11_1 : w7.cell? ⟨gb175, 1, none⟩ = some (.int .i64 a0_1) := (blk_cell BK175.out 1).trans rfl
      have hfz11_0 := blk_frozen BK175.out 0
      have hfz11_1 := blk_frozen BK175.out 1
      go_wp2
      go_meet
      case rel => exact ⟨_, (true), (by first | rfl | (simp; done) | (simp [*]; done)), H', ⟨by first | omega | exact Nat.le_refl _⟩, ⟨by (with_reducible repeat (first | refine blk_drewN ?_ _ | refine blk_drew ?_ | refine blk_alloc ?_ _)); exact BK175.out⟩, ⟨by (with_reducible repeat (first | refine blk_drewN ?_ _ | refine blk_drew ?_ | refine blk_alloc ?_ _)); exact BK176.out⟩, ⟨by (with_reducible repeat (first | refine blk_drewN ?_ _ | refine blk_drew ?_ | refine blk_alloc ?_ _)); exact BK177.out⟩, ⟨by repeat (first | (with_reducible first | exact HB.out | apply below_alloc | apply pw_below_drewN | apply below_drew1 | refine below_set ?_ GE175.out | refine below_set ?_ GE176.out | refine below_set ?_ GE177.out) | exact HB.out)⟩⟩
    · rw [if_neg c8] at H
      have c8b0 : decide (100 < (l0_0.length : Int)) = false := decide_eq_false c8
      have c8b1 : decide (100 < l0_0.length) = false := decide_eq_false (by omega)
      clear c8
      (first | rw [c8b0] | (simp only [i64_w, i32_w]; rw [c8b0]) | skip)
      by_cases c12 : (l1_0.length : Int) > 100
      · rw [if_pos c12] at H
        have c12b0 : decide (100 < (l1_0.length : Int)) = true := decide_eq_true c12
        have c12b1 : decide (100 < l1_0.length) = true := decide_eq_true (by omega)
        clear c12
        have H' := Aside0.mk H
        clear H
        have hnb13 := NB175_176.out
        have hnc13 := NB176_175.out
        have hnb14 := NB175_177.out
        have hnc14 := NB177_175.out
        have hcz15_0 : w7.cell? ⟨gb175, 0, none⟩ = some (.slice A0_0 l0_0.length c0_0) := (blk_cell BK175.out 0).trans rfl
        have hcz15_1 : w7.cell? ⟨gb175, 1, none⟩ = some (.int .i64 a0_1) := (blk_cell BK175.out 1).trans rfl
        have hfz15_0 := blk_frozen BK175.out 0
        have hfz15_1 := blk_frozen BK175.out 1
        have hnb16 := NB176_177.out
        have hnc16 := NB177_176.out
        have hcz17_0 : w7.cell? ⟨gb176, 0, none⟩ = some (.slice A1_0 l1_0.length c1_0) := (blk_cell BK176.out 0).trans rfl
        have hcz17_1 : w7.cell? ⟨gb176, 1, none⟩ = some (.int .i64 a1_1) := (blk_cell BK176.out 1).trans rfl
        have hfz17_0 := blk_frozen BK176.out 0
        have hfz17_1 := blk_frozen BK176.out 1
        go_wp2
        go_meet
        case rel => exact ⟨_, (true), (by first | rfl | (simp; done) | (simp [*]; done)), H', ⟨by first | omega | exact Nat.le_refl _⟩, ⟨by (with_reducible repeat (first | refine blk_drewN ?_ _ | refine blk_drew ?_ | refine blk_alloc ?_ _)); exact BK175.out⟩, ⟨by (with_reducible repeat (first | refine blk_drewN ?_ _ | refine blk_drew ?_ | refine blk_alloc ?_ _)); exact BK176.out⟩, ⟨by (with_reducible repeat (first | refine blk_drewN ?_ _ | refine blk_drew ?_ | refine blk_alloc ?_ _)); exact BK177.out⟩, ⟨by repeat (first | (with_reducible first | exact HB.out | apply below_alloc | apply pw_below_drewN | apply below_drew1 | refine below_set ?_ GE175.out | refine below_set ?_ GE176.out | refine below_set ?_ GE177.out) | exact HB.out)⟩⟩
      · rw [if_neg c12] at H
        have c12b0 : decide (100 < (l1_0.length : Int)) = false := decide_eq_false c12
        have c12b1 : decide (100 < l1_0.length) = false := decide_eq_false (by omega)
        clear c12
        have H' := Aside0.mk H
        clear H
        have hnb18 := NB175_176.out
        have hnc18 := NB176_175.out
        have hnb19 := NB175_177.out
        have hnc19 := NB177_175.out
        have hcz20_0 : w7.cell? ⟨gb175, 0, none⟩ = some (.slice A0_0 l0_0.length c0_0) := (blk_cell BK175.out 0).trans rfl
        have hcz20_1 : w7.cell? ⟨gb175, 1, none⟩ = some (.int .i64 a0_1) := (blk_cell BK175.out 1).trans rfl
        have hfz20_0 := blk_frozen BK175.out 0
        have hfz20_1 := blk_frozen BK175.out 1
        have hnb21 := NB176_177.out
        have hnc21 := NB177_176.out
        have hcz22_0 : w7.cell? ⟨gb176, 0, none⟩ = some (.slice A1_0 l1_0.length c1_0) := (blk_cell BK176.out 0).trans rfl
        have hcz22_1 : w7.cell? ⟨gb176, 1, none⟩ = some (.int .i64 a1_1) := (blk_cell BK176.out 1).trans rfl
        have hfz22_0 := blk_frozen BK176.out 0
        have hfz22_1 := blk_frozen BK176.out 1
        have hcz23_0 : w7.cell? ⟨gb177, 0, none⟩ = some (.slice A2_0 l2_0.length c2_0) := (blk_cell BK177.out 0).trans rfl
        have hcz23_1 : w7.cell? ⟨gb177, 1, none⟩ = some (.int .i64 a2_1) := (blk_cell BK177.out 1).trans rfl
        have hfz23_0 := blk_frozen BK177.out 0
        have hfz23_1 := blk_frozen BK177.out 1
        go_wp2
        go_meet
        case rel => exact ⟨_, (decide ((l2_0.length : Int) > 100)), (by first | rfl | (simp; done) | (simp [*]; done)), H', ⟨by first | omega | exact Nat.le_refl _⟩, ⟨by (with_reducible repeat (first | refine blk_drewN ?_ _ | refine blk_drew ?_ | refine blk_alloc ?_ _)); exact BK175.out⟩, ⟨by (with_reducible repeat (first | refine blk_drewN ?_ _ | refine blk_drew ?_ | refine blk_alloc ?_ _)); exact BK176.out⟩, ⟨by (with_reducible repeat (first | refine blk_drewN ?_ _ | refine blk_drew ?_ | refine blk_alloc ?_ _)); exact BK177.out⟩, ⟨by repeat (first | (with_reducible first | exact HB.out | apply below_alloc | apply pw_below_drewN | apply below_drew1 | refine below_set ?_ GE175.out | refine below_set ?_ GE176.out | refine below_set ?_ GE177.out) | exact HB.out)⟩⟩
  case rest =>
    clear HC4
    try clear c1
    try clear c2
    try clear p2
    try clear c7
    try clear c8
    try clear c8b0
    try clear c8b1
    try clear c9
    try clear c10
    try clear c12
    try clear c12b0
    try clear c12b1
    try clear c13
    try clear c14
    try clear c16
    try clear c18
    try clear c19
    try clear c21
    try clear hcz11_0
    try clear hcz11_1
    try clear hcz15_0
    try clear hcz15_1
    try clear hcz17_0
    try clear hcz17_1
    try clear hcz20_0
    try clear hcz20_1
    try clear hcz22_0
    try clear hcz22_1
    try clear hcz23_0
    try clear hcz23_1
    try clear hfz11_0
    try clear hfz11_1
    try clear hfz15_0
    try clear hfz15_1
    try clear hfz17_0
    try clear hfz17_1
    try clear hfz20_0
    try clear hfz20_1
    try clear hfz22_0
    try clear hfz22_1
    try clear hfz23_0
    try clear hfz23_1
    obtain ⟨kq, x22_3, rfl, HA, HJ3, BK175, BK176, BK177, HB⟩ := hcut
    cases kq with
    | zero => exact absurd HA.out (by simp [counterfoillaw11_LineChain.j0])
    | succ kj3 =>
      have H := HA.out
      clear HA
      simp only [counterfoillaw11_LineChain.j0] at H
      by_cases c24 : x22_3 = true
      · subst c24
        have H1 : ((counterfoillaw11_awake.f kj3).bind fun t178 => (some t178)) = some r := by rw [if_pos rfl] at H; exact H
        clear H
        have H := H1
        clear H1
        replace H := Option.bind_eq_some_iff.mp H
        obtain ⟨t178, A250, H⟩ := H
        replace H : (some t178) = some r := H
        have A25 := Aside0.mk A250
        clear A250
        obtain rfl := Option.some.inj H
        go_wp2_with (first | ((with_reducible refine gate_callee (f := 22) rfl ?_); refine goesL_ (some 23) rfl rfl Try.func22 (by kernel_rfl) rfl #[] rfl (by (try simp only [List.map_toArray, List.map_cons, List.map_nil]); first | done | rfl | (simp only [List.length_drop, List.length_take]; rfl)) ?_; (with_reducible refine (counterfoillaw11_awake.calls kj3  t178 _ A25.out).mono ?_); rintro e w26 ⟨rfl, hb⟩; refine ⟨_, rfl, ?_⟩; have n0_ := Aside0.mk (blk_below (g := gb175) (o := .cells #[.slice A0_0 l0_0.length c0_0, .int .i64 a0_1] 39 (0, 0)) (by (with_reducible repeat (first | refine blk_drewN ?_ _ | refine blk_drew ?_ | refine blk_alloc ?_ _)); exact BK175.out) hb); have n1_ := Aside0.mk (blk_below (g := gb176) (o := .cells #[.slice A1_0 l1_0.length c1_0, .int .i64 a1_1] 39 (0, 0)) (by (with_reducible repeat (first | refine blk_drewN ?_ _ | refine blk_drew ?_ | refine blk_alloc ?_ _)); exact BK176.out) hb); have n2_ := Aside0.mk (blk_below (g := gb177) (o := .cells #[.slice A2_0 l2_0.length c2_0, .int .i64 a2_1] 39 (0, 0)) (by (with_reducible repeat (first | refine blk_drewN ?_ _ | refine blk_drew ?_ | refine blk_alloc ?_ _)); exact BK177.out) hb); have n3_ := Aside0.mk (below_step (by repeat (first | (with_reducible first | exact HB.out | apply below_alloc | apply pw_below_drewN | apply below_drew1 | refine below_set ?_ GE175.out | refine below_set ?_ GE176.out | refine below_set ?_ GE177.out) | exact HB.out)) hb); clear BK175; clear BK176; clear BK177; clear HB; have BK175 := n0_; have BK176 := n1_; have BK177 := n2_; have HB := n3_; clear n0_ n1_ n2_ n3_; (try clear hb); (try clear hb2); (try clear hk); (try clear hi)))
        go_ret
        exact ⟨by first | rfl | (simp [errW_none, errW_some] <;> rfl) | (simp [*, errW_none, errW_some] <;> rfl), by repeat (first | (with_reducible first | exact HB.out | apply below_alloc | apply pw_below_drewN | apply below_drew1 | refine below_set ?_ GE175.out | refine below_set ?_ GE176.out | refine below_set ?_ GE177.out) | exact HB.out)⟩
      · replace c24 := Bool.eq_false_iff.mpr c24
        subst c24
        have H1 : ((line_Ahead.f kj3 l0_0 a0_1 l1_0 a1_1).bind fun t179 => (if t179 = true then ((line_Ahead.f kj3 l1_0 a1_1 l2_0 a2_1).bind fun t180 => (counterfoillaw11_LineChain.j1 kj3 (!t180) l0_0 a0_1 l2_0 a2_1)) else (counterfoillaw11_LineChain.j1 kj3 true l0_0 a0_1 l2_0 a2_1))) = some r := by rw [if_neg (show ¬ (false = true) by decide)] at H; exact H
        clear H
        have H := H1
        clear H1
        have HC27 := Aside0.mk H
        clear H
        go_upto_region 3 with (fail)
        go_cut [33] (fun v33 wc => ∃ (kq : Nat) (x33_26 : Bool), v33 = .bool x33_26 ∧ Aside0 (counterfoillaw11_LineChain.j1 kq x33_26 l0_0 a0_1 l2_0 a2_1 = some r) ∧ Aside0 (kq ≤ kj3) ∧ Aside0 (wc.heap[gb175]? = some (.cells #[(.slice A0_0 l0_0.length c0_0), .int .i64 a0_1] 39 (0, 0))) ∧ Aside0 (wc.heap[gb176]? = some (.cells #[(.slice A1_0 l1_0.length c1_0), .int .i64 a1_1] 39 (0, 0))) ∧ Aside0 (wc.heap[gb177]? = some (.cells #[(.slice A2_0 l2_0.length c2_0), .int .i64 a2_1] 39 (0, 0))) ∧ Aside0 (Below w.heap.size w wc))
        case first =>
          have H := HC27.out
          clear HC27
          replace H := Option.bind_eq_some_iff.mp H
          obtain ⟨t179, A280, H⟩ := H
          replace H : (if t179 = true then ((line_Ahead.f kj3 l1_0 a1_1 l2_0 a2_1).bind fun t180 => (counterfoillaw11_LineChain.j1 kj3 (!t180) l0_0 a0_1 l2_0 a2_1)) else (counterfoillaw11_LineChain.j1 kj3 true l0_0 a0_1 l2_0 a2_1)) = some r := H
          have A28 := Aside0.mk A280
          clear A280
          by_cases c29 : t179 = true
          · subst c29
            have H1 : ((line_Ahead.f kj3 l1_0 a1_1 l2_0 a2_1).bind fun t180 => (counterfoillaw11_LineChain.j1 kj3 (!t180) l0_0 a0_1 l2_0 a2_1)) = some r := by rw [if_pos rfl] at H; exact H
            clear H
            have H := H1
            clear H1
            replace H := Option.bind_eq_some_iff.mp H
            obtain ⟨t180, A300, H⟩ := H
            replace H : (counterfoillaw11_LineChain.j1 kj3 (!t180) l0_0 a0_1 l2_0 a2_1) = some r := H
            have A30 := Aside0.mk A300
            clear A300
            have H' := Aside0.mk H
            clear H
            have hnb31 := NB175_176.out
            have hnc31 := NB176_175.out
            have hnb32 := NB175_177.out
            have hnc32 := NB177_175.out
            have hcz33_0 : wc.cell? ⟨gb175, 0, none⟩ = some (.slice A0_0 l0_0.length c0_0) := (blk_cell BK175.out 0).trans rfl
            have hcz33_1 : wc.cell? ⟨gb175, 1, none⟩ = some (.int .i64 a0_1) := (blk_cell BK175.out 1).trans rfl
            have hfz33_0 := blk_frozen BK175.out 0
            have hfz33_1 := blk_frozen BK175.out 1
            have hnb34 := NB176_177.out
            have hnc34 := NB177_176.out
            have hcz35_0 : wc.cell? ⟨gb176, 0, none⟩ = some (.slice A1_0 l1_0.length c1_0) := (blk_cell BK176.out 0).trans rfl
            have hcz35_1 : wc.cell? ⟨gb176, 1, none⟩ = some (.int .i64 a1_1) := (blk_cell BK176.out 1).trans rfl
            have hfz35_0 := blk_frozen BK176.out 0
            have hfz35_1 := blk_frozen BK176.out 1
            go_wp2_with (first | ((with_reducible refine gate_callee (f := 29) rfl ?_); refine goesL_ (some 26) rfl rfl Try.func29 (by kernel_rfl) rfl #[.agg #[.slice A0_0 l0_0.length c0_0, .int .i64 a0_1], .agg #[.slice A1_0 l1_0.length c1_0, .int .i64 a1_1]] rfl (by (try simp only [List.map_toArray, List.map_cons, List.map_nil]); first | done | rfl | (simp only [List.length_drop, List.length_take]; rfl)) ?_; (with_reducible refine (line_Ahead.calls kj3 _ _ l0_0 a0_1 _ _ l1_0 a1_1 true _ ?side1 ?side2 ?side3 ?side4 A28.out).mono ?_); (case side1 => repeat (first | exact (Kd.C_below HR0_0.out HB.out) | (with_reducible refine Kd.C_alloc ?_ _) | (with_reducible refine Kd.C_drewN ?_ _) | (with_reducible refine Kd.C_drew ?_))); (case side2 => exact HC0_0.out); (case side3 => repeat (first | exact (Kd.C_below HR1_0.out HB.out) | (with_reducible refine Kd.C_alloc ?_ _) | (with_reducible refine Kd.C_drewN ?_ _) | (with_reducible refine Kd.C_drew ?_))); (case side4 => exact HC1_0.out); rintro e w36 ⟨rfl, hb⟩; refine ⟨_, rfl, ?_⟩; have n0_ := Aside0.mk (blk_below (g := gb175) (o := .cells #[.slice A0_0 l0_0.length c0_0, .int .i64 a0_1] 39 (0, 0)) (by (with_reducible repeat (first | refine blk_drewN ?_ _ | refine blk_drew ?_ | refine blk_alloc ?_ _)); exact BK175.out) hb); have n1_ := Aside0.mk (blk_below (g := gb176) (o := .cells #[.slice A1_0 l1_0.length c1_0, .int .i64 a1_1] 39 (0, 0)) (by (with_reducible repeat (first | refine blk_drewN ?_ _ | refine blk_drew ?_ | refine blk_alloc ?_ _)); exact BK176.out) hb); have n2_ := Aside0.mk (blk_below (g := gb177) (o := .cells #[.slice A2_0 l2_0.length c2_0, .int .i64 a2_1] 39 (0, 0)) (by (with_reducible repeat (first | refine blk_drewN ?_ _ | refine blk_drew ?_ | refine blk_alloc ?_ _)); exact BK177.out) hb); have n3_ := Aside0.mk (below_step (by repeat (first | (with_reducible first | exact HB.out | apply below_alloc | apply pw_below_drewN | apply below_drew1 | refine below_set ?_ GE175.out | refine below_set ?_ GE176.out | refine below_set ?_ GE177.out) | exact HB.out)) hb); clear BK175; clear BK176; clear BK177; clear HB; have BK175 := n0_; have BK176 := n1_; have BK177 := n2_; have HB := n3_; clear n0_ n1_ n2_ n3_; (try clear hb); (try clear hb2); (try clear hk); (try clear hi); have hcz37_0 : w36.cell? ⟨gb176, 0, none⟩ = some (.slice A1_0 l1_0.length c1_0) := (blk_cell BK176.out 0).trans rfl; have hcz37_1 : w36.cell? ⟨gb176, 1, none⟩ = some (.int .i64 a1_1) := (blk_cell BK176.out 1).trans rfl; have hfz37_0 := blk_frozen BK176.out 0; have hfz37_1 := blk_frozen BK176.out 1; have hcz38_0 : w36.cell? ⟨gb177, 0, none⟩ = some (.slice A2_0 l2_0.length c2_0) := (blk_cell BK177.out 0).trans rfl; have hcz38_1 : w36.cell? ⟨gb177, 1, none⟩ = some (.int .i64 a2_1) := (blk_cell BK177.out 1).trans rfl; have hfz38_0 := blk_frozen BK177.out 0; have hfz38_1 := blk_frozen BK177.out 1) | (go_at_call 29; (with_reducible refine (line_Ahead.calls kj3 _ _ l1_0 a1_1 _ _ l2_0 a2_1 t180 _ ?side1 ?side2 ?side3 ?side4 A30.out).mono ?_); (case side1 => repeat (first | exact (Kd.C_below HR1_0.out HB.out) | (with_reducible refine Kd.C_alloc ?_ _) | (with_reducible refine Kd.C_drewN ?_ _) | (with_reducible refine Kd.C_drew ?_))); (case side2 => exact HC1_0.out); (case side3 => repeat (first | exact (Kd.C_below HR2_0.out HB.out) | (with_reducible refine Kd.C_alloc ?_ _) | (with_reducible refine Kd.C_drewN ?_ _) | (with_reducible refine Kd.C_drew ?_))); (case side4 => exact HC2_0.out); rintro e w39 ⟨rfl, hb⟩; have n0_ := Aside0.mk (blk_below (g := gb175) (o := .cells #[.slice A0_0 l0_0.length c0_0, .int .i64 a0_1] 39 (0, 0)) (by (with_reducible repeat (first | refine blk_drewN ?_ _ | refine blk_drew ?_ | refine blk_alloc ?_ _)); exact BK175.out) hb); have n1_ := Aside0.mk (blk_below (g := gb176) (o := .cells #[.slice A1_0 l1_0.length c1_0, .int .i64 a1_1] 39 (0, 0)) (by (with_reducible repeat (first | refine blk_drewN ?_ _ | refine blk_drew ?_ | refine blk_alloc ?_ _)); exact BK176.out) hb); have n2_ := Aside0.mk (blk_below (g := gb177) (o := .cells #[.slice A2_0 l2_0.length c2_0, .int .i64 a2_1] 39 (0, 0)) (by (with_reducible repeat (first | refine blk_drewN ?_ _ | refine blk_drew ?_ | refine blk_alloc ?_ _)); exact BK177.out) hb); have n3_ := Aside0.mk (below_step (by repeat (first | (with_reducible first | exact HB.out | apply below_alloc | apply pw_below_drewN | apply below_drew1 | refine below_set ?_ GE175.out | refine below_set ?_ GE176.out | refine below_set ?_ GE177.out) | exact HB.out)) hb); clear BK175; clear BK176; clear BK177; clear HB; have BK175 := n0_; have BK176 := n1_; have BK177 := n2_; have HB := n3_; clear n0_ n1_ n2_ n3_; (try clear hb); (try clear hb2); (try clear hk); (try clear hi)))
            go_meet
            case rel => exact ⟨_, (!t180), (by first | rfl | (simp; done) | (simp [*]; done)), H', ⟨by have := HJ3.out; first | omega | exact Nat.le_refl _⟩, ⟨by (with_reducible repeat (first | refine blk_drewN ?_ _ | refine blk_drew ?_ | refine blk_alloc ?_ _)); exact BK175.out⟩, ⟨by (with_reducible repeat (first | refine blk_drewN ?_ _ | refine blk_drew ?_ | refine blk_alloc ?_ _)); exact BK176.out⟩, ⟨by (with_reducible repeat (first | refine blk_drewN ?_ _ | refine blk_drew ?_ | refine blk_alloc ?_ _)); exact BK177.out⟩, ⟨by repeat (first | (with_reducible first | exact HB.out | apply below_alloc | apply pw_below_drewN | apply below_drew1 | refine below_set ?_ GE175.out | refine below_set ?_ GE176.out | refine below_set ?_ GE177.out) | exact HB.out)⟩⟩
          · replace c29 := Bool.eq_false_iff.mpr c29
            subst c29
            have H1 : (counterfoillaw11_LineChain.j1 kj3 true l0_0 a0_1 l2_0 a2_1) = some r := by rw [if_neg (show ¬ (false = true) by decide)] at H; exact H
            clear H
            have H := H1
            clear H1
            have H' := Aside0.mk H
            clear H
            have hnb40 := NB175_176.out
            have hnc40 := NB176_175.out
            have hnb41 := NB175_177.out
            have hnc41 := NB177_175.out
            have hcz42_0 : wc.cell? ⟨gb175, 0, none⟩ = some (.slice A0_0 l0_0.length c0_0) := (blk_cell BK175.out 0).trans rfl
            have hcz42_1 : wc.cell? ⟨gb175, 1, none⟩ = some (.int .i64 a0_1) := (blk_cell BK175.out 1).trans rfl
            have hfz42_0 := blk_frozen BK175.out 0
            have hfz42_1 := blk_frozen BK175.out 1
            have hnb43 := NB176_177.out
            have hnc43 := NB177_176.out
            have hcz44_0 : wc.cell? ⟨gb176, 0, none⟩ = some (.slice A1_0 l1_0.length c1_0) := (blk_cell BK176.out 0).trans rfl
            have hcz44_1 : wc.cell? ⟨gb176, 1, none⟩ = some (.int .i64 a1_1) := (blk_cell BK176.out 1).trans rfl
            have hfz44_0 := blk_frozen BK176.out 0
            have hfz44_1 := blk_frozen BK176.out 1
            go_wp2_with (first | ((with_reducible refine gate_callee (f := 29) rfl ?_); refine goesL_ (some 26) rfl rfl Try.func29 (by kernel_rfl) rfl #[.agg #[.slice A0_0 l0_0.length c0_0, .int .i64 a0_1], .agg #[.slice A1_0 l1_0.length c1_0, .int .i64 a1_1]] rfl (by (try simp only [List.map_toArray, List.map_cons, List.map_nil]); first | done | rfl | (simp only [List.length_drop, List.length_take]; rfl)) ?_; (with_reducible refine (line_Ahead.calls kj3 _ _ l0_0 a0_1 _ _ l1_0 a1_1 false _ ?side1 ?side2 ?side3 ?side4 A28.out).mono ?_); (case side1 => repeat (first | exact (Kd.C_below HR0_0.out HB.out) | (with_reducible refine Kd.C_alloc ?_ _) | (with_reducible refine Kd.C_drewN ?_ _) | (with_reducible refine Kd.C_drew ?_))); (case side2 => exact HC0_0.out); (case side3 => repeat (first | exact (Kd.C_below HR1_0.out HB.out) | (with_reducible refine Kd.C_alloc ?_ _) | (with_reducible refine Kd.C_drewN ?_ _) | (with_reducible refine Kd.C_drew ?_))); (case side4 => exact HC1_0.out); rintro e w45 ⟨rfl, hb⟩; refine ⟨_, rfl, ?_⟩; have n0_ := Aside0.mk (blk_below (g := gb175) (o := .cells #[.slice A0_0 l0_0.length c0_0, .int .i64 a0_1] 39 (0, 0)) (by (with_reducible repeat (first | refine blk_drewN ?_ _ | refine blk_drew ?_ | refine blk_alloc ?_ _)); exact BK175.out) hb); have n1_ := Aside0.mk (blk_below (g := gb176) (o := .cells #[.slice A1_0 l1_0.length c1_0, .int .i64 a1_1] 39 (0, 0)) (by (with_reducible repeat (first | refine blk_drewN ?_ _ | refine blk_drew ?_ | refine blk_alloc ?_ _)); exact BK176.out) hb); have n2_ := Aside0.mk (blk_below (g := gb177) (o := .cells #[.slice A2_0 l2_0.length c2_0, .int .i64 a2_1] 39 (0, 0)) (by (with_reducible repeat (first | refine blk_drewN ?_ _ | refine blk_drew ?_ | refine blk_alloc ?_ _)); exact BK177.out) hb); have n3_ := Aside0.mk (below_step (by repeat (first | (with_reducible first | exact HB.out | apply below_alloc | apply pw_below_drewN | apply below_drew1 | refine below_set ?_ GE175.out | refine below_set ?_ GE176.out | refine below_set ?_ GE177.out) | exact HB.out)) hb); clear BK175; clear BK176; clear BK177; clear HB; have BK175 := n0_; have BK176 := n1_; have BK177 := n2_; have HB := n3_; clear n0_ n1_ n2_ n3_; (try clear hb); (try clear hb2); (try clear hk); (try clear hi)))
            go_meet
            case rel => exact ⟨_, (true), (by first | rfl | (simp; done) | (simp [*]; done)), H', ⟨by have := HJ3.out; first | omega | exact Nat.le_refl _⟩, ⟨by (with_reducible repeat (first | refine blk_drewN ?_ _ | refine blk_drew ?_ | refine blk_alloc ?_ _)); exact BK175.out⟩, ⟨by (with_reducible repeat (first | refine blk_drewN ?_ _ | refine blk_drew ?_ | refine blk_alloc ?_ _)); exact BK176.out⟩, ⟨by (with_reducible repeat (first | refine blk_drewN ?_ _ | refine blk_drew ?_ | refine blk_alloc ?_ _)); exact BK177.out⟩, ⟨by repeat (first | (with_reducible first | exact HB.out | apply below_alloc | apply pw_below_drewN | apply below_drew1 | refine below_set ?_ GE175.out | refine below_set ?_ GE176.out | refine below_set ?_ GE177.out) | exact HB.out)⟩⟩
        case rest =>
          clear HC27
          try clear c1
          try clear c2
          try clear p2
          try clear c3
          try clear c4
          try clear c7
          try clear c8
          try clear c8b0
          try clear c8b1
          try clear c9
          try clear c10
          try clear c12
          try clear c12b0
          try clear c12b1
          try clear c13
          try clear c14
          try clear c16
          try clear c18
          try clear c19
          try clear c21
          try clear c22
          try clear c24
          try clear c29
          try clear c31
          try clear c32
          try clear c34
          try clear c40
          try clear c41
          try clear c43
          try clear hcz11_0
          try clear hcz11_1
          try clear hcz15_0
          try clear hcz15_1
          try clear hcz17_0
          try clear hcz17_1
          try clear hcz20_0
          try clear hcz20_1
          try clear hcz22_0
          try clear hcz22_1
          try clear hcz23_0
          try clear hcz23_1
          try clear hcz33_0
          try clear hcz33_1
          try clear hcz35_0
          try clear hcz35_1
          try clear hcz37_0
          try clear hcz37_1
          try clear hcz38_0
          try clear hcz38_1
          try clear hcz42_0
          try clear hcz42_1
          try clear hcz44_0
          try clear hcz44_1
          try clear hfz11_0
          try clear hfz11_1
          try clear hfz15_0
          try clear hfz15_1
          try clear hfz17_0
          try clear hfz17_1
          try clear hfz20_0
          try clear hfz20_1
          try clear hfz22_0
          try clear hfz22_1
          try clear hfz23_0
          try clear hfz23_1
          try clear hfz33_0
          try clear hfz33_1
          try clear hfz35_0
          try clear hfz35_1
          try clear hfz37_0
          try clear hfz37_1
          try clear hfz38_0
          try clear hfz38_1
          try clear hfz42_0
          try clear hfz42_1
          try clear hfz44_0
          try clear hfz44_1
          try clear p2
          obtain ⟨kq, x33_26, rfl, HA, HJ26, BK175, BK176, BK177, HB⟩ := hcut
          cases kq with
          | zero => exact absurd HA.out (by simp [counterfoillaw11_LineChain.j1])
          | succ kj26 =>
            have H := HA.out
            clear HA
            simp only [counterfoillaw11_LineChain.j1] at H
            by_cases c46 : x33_26 = true
            · subst c46
              have H1 : ((counterfoillaw11_awake.f kj26).bind fun t181 => (some t181)) = some r := by rw [if_pos rfl] at H; exact H
              clear H
              have H := H1
              clear H1
              replace H := Option.bind_eq_some_iff.mp H
              obtain ⟨t181, A470, H⟩ := H
              replace H : (some t181) = some r := H
              have A47 := Aside0.mk A470
              clear A470
              obtain rfl := Option.some.inj H
              go_wp2_with (first | ((with_reducible refine gate_callee (f := 22) rfl ?_); refine goesL_ (some 34) rfl rfl Try.func22 (by kernel_rfl) rfl #[] rfl (by (try simp only [List.map_toArray, List.map_cons, List.map_nil]); first | done | rfl | (simp only [List.length_drop, List.length_take]; rfl)) ?_; (with_reducible refine (counterfoillaw11_awake.calls kj26  t181 _ A47.out).mono ?_); rintro e w48 ⟨rfl, hb⟩; refine ⟨_, rfl, ?_⟩; have n0_ := Aside0.mk (blk_below (g := gb175) (o := .cells #[.slice A0_0 l0_0.length c0_0, .int .i64 a0_1] 39 (0, 0)) (by (with_reducible repeat (first | refine blk_drewN ?_ _ | refine blk_drew ?_ | refine blk_alloc ?_ _)); exact BK175.out) hb); have n1_ := Aside0.mk (blk_below (g := gb176) (o := .cells #[.slice A1_0 l1_0.length c1_0, .int .i64 a1_1] 39 (0, 0)) (by (with_reducible repeat (first | refine blk_drewN ?_ _ | refine blk_drew ?_ | refine blk_alloc ?_ _)); exact BK176.out) hb); have n2_ := Aside0.mk (blk_below (g := gb177) (o := .cells #[.slice A2_0 l2_0.length c2_0, .int .i64 a2_1] 39 (0, 0)) (by (with_reducible repeat (first | refine blk_drewN ?_ _ | refine blk_drew ?_ | refine blk_alloc ?_ _)); exact BK177.out) hb); have n3_ := Aside0.mk (below_step (by repeat (first | (with_reducible first | exact HB.out | apply below_alloc | apply pw_below_drewN | apply below_drew1 | refine below_set ?_ GE175.out | refine below_set ?_ GE176.out | refine below_set ?_ GE177.out) | exact HB.out)) hb); clear BK175; clear BK176; clear BK177; clear HB; have BK175 := n0_; have BK176 := n1_; have BK177 := n2_; have HB := n3_; clear n0_ n1_ n2_ n3_; (try clear hb); (try clear hb2); (try clear hk); (try clear hi)))
              go_ret
              exact ⟨by first | rfl | (simp [errW_none, errW_some] <;> rfl) | (simp [*, errW_none, errW_some] <;> rfl), by repeat (first | (with_reducible first | exact HB.out | apply below_alloc | apply pw_below_drewN | apply below_drew1 | refine below_set ?_ GE175.out | refine below_set ?_ GE176.out | refine below_set ?_ GE177.out) | exact HB.out)⟩
            · replace c46 := Bool.eq_false_iff.mpr c46
              subst c46
              have H1 : ((line_Ahead.f kj26 l0_0 a0_1 l2_0 a2_1).bind fun t182 => (if t182 = true then (if a0_1 ≤ a2_1 then ((counterfoillaw11_awake.f kj26).bind fun t183 => (some t183)) else (some false)) else (some false))) = some r := by rw [if_neg (show ¬ (false = true) by decide)] at H; exact H
              clear H
              have H := H1
              clear H1
              replace H := Option.bind_eq_some_iff.mp H
              obtain ⟨t182, A490, H⟩ := H
              replace H : (if t182 = true then (if a0_1 ≤ a2_1 then ((counterfoillaw11_awake.f kj26).bind fun t183 => (some t183)) else (some false)) else (some false)) = some r := H
              have A49 := Aside0.mk A490
              clear A490
              by_cases c50 : t182 = true
              · subst c50
                have H1 : (if a0_1 ≤ a2_1 then ((counterfoillaw11_awake.f kj26).bind fun t183 => (some t183)) else (some false)) = some r := by rw [if_pos rfl] at H; exact H
                clear H
                have H := H1
                clear H1
                by_cases c51 : a0_1 ≤ a2_1
                · rw [if_pos c51] at H
                  have c51b0 : decide (a0_1 ≤ a2_1) = true := decide_eq_true c51
                  clear c51
                  replace H := Option.bind_eq_some_iff.mp H
                  obtain ⟨t183, A520, H⟩ := H
                  replace H : (some t183) = some r := H
                  have A52 := Aside0.mk A520
                  clear A520
                  obtain rfl := Option.some.inj H
                  have hnb53 := NB175_176.out
                  have hnc53 := NB176_175.out
                  have hnb54 := NB175_177.out
                  have hnc54 := NB177_175.out
                  have hcz55_0 : wc.cell? ⟨gb175, 0, none⟩ = some (.slice A0_0 l0_0.length c0_0) := (blk_cell BK175.out 0).trans rfl
                  have hcz55_1 : wc.cell? ⟨gb175, 1, none⟩ = some (.int .i64 a0_1) := (blk_cell BK175.out 1).trans rfl
                  have hfz55_0 := blk_frozen BK175.out 0
                  have hfz55_1 := blk_frozen BK175.out 1
                  have hnb56 := NB177_176.out
                  have hnc56 := NB176_177.out
                  have hcz57_0 : wc.cell? ⟨gb177, 0, none⟩ = some (.slice A2_0 l2_0.length c2_0) := (blk_cell BK177.out 0).trans rfl
                  have hcz57_1 : wc.cell? ⟨gb177, 1, none⟩ = some (.int .i64 a2_1) := (blk_cell BK177.out 1).trans rfl
                  have hfz57_0 := blk_frozen BK177.out 0
                  have hfz57_1 := blk_frozen BK177.out 1
                  go_wp2_with (first | ((with_reducible refine gate_callee (f := 29) rfl ?_); refine goesL_ (some 37) rfl rfl Try.func29 (by kernel_rfl) rfl #[.agg #[.slice A0_0 l0_0.length c0_0, .int .i64 a0_1], .agg #[.slice A2_0 l2_0.length c2_0, .int .i64 a2_1]] rfl (by (try simp only [List.map_toArray, List.map_cons, List.map_nil]); first | done | rfl | (simp only [List.length_drop, List.length_take]; rfl)) ?_; (with_reducible refine (line_Ahead.calls kj26 _ _ l0_0 a0_1 _ _ l2_0 a2_1 true _ ?side1 ?side2 ?side3 ?side4 A49.out).mono ?_); (case side1 => repeat (first | exact (Kd.C_below HR0_0.out HB.out) | (with_reducible refine Kd.C_alloc ?_ _) | (with_reducible refine Kd.C_drewN ?_ _) | (with_reducible refine Kd.C_drew ?_))); (case side2 => exact HC0_0.out); (case side3 => repeat (first | exact (Kd.C_below HR2_0.out HB.out) | (with_reducible refine Kd.C_alloc ?_ _) | (with_reducible refine Kd.C_drewN ?_ _) | (with_reducible refine Kd.C_drew ?_))); (case side4 => exact HC2_0.out); rintro e w58 ⟨rfl, hb⟩; refine ⟨_, rfl, ?_⟩; have n0_ := Aside0.mk (blk_below (g := gb175) (o := .cells #[.slice A0_0 l0_0.length c0_0, .int .i64 a0_1] 39 (0, 0)) (by (with_reducible repeat (first | refine blk_drewN ?_ _ | refine blk_drew ?_ | refine blk_alloc ?_ _)); exact BK175.out) hb); have n1_ := Aside0.mk (blk_below (g := gb176) (o := .cells #[.slice A1_0 l1_0.length c1_0, .int .i64 a1_1] 39 (0, 0)) (by (with_reducible repeat (first | refine blk_drewN ?_ _ | refine blk_drew ?_ | refine blk_alloc ?_ _)); exact BK176.out) hb); have n2_ := Aside0.mk (blk_below (g := gb177) (o := .cells #[.slice A2_0 l2_0.length c2_0, .int .i64 a2_1] 39 (0, 0)) (by (with_reducible repeat (first | refine blk_drewN ?_ _ | refine blk_drew ?_ | refine blk_alloc ?_ _)); exact BK177.out) hb); have n3_ := Aside0.mk (below_step (by repeat (first | (with_reducible first | exact HB.out | apply below_alloc | apply pw_below_drewN | apply below_drew1 | refine below_set ?_ GE175.out | refine below_set ?_ GE176.out | refine below_set ?_ GE177.out) | exact HB.out)) hb); clear BK175; clear BK176; clear BK177; clear HB; have BK175 := n0_; have BK176 := n1_; have BK177 := n2_; have HB := n3_; clear n0_ n1_ n2_ n3_; (try clear hb); (try clear hb2); (try clear hk); (try clear hi); have hcz59_0 : w58.cell? ⟨gb175, 0, none⟩ = some (.slice A0_0 l0_0.length c0_0) := (blk_cell BK175.out 0).trans rfl; have hcz59_1 : w58.cell? ⟨gb175, 1, none⟩ = some (.int .i64 a0_1) := (blk_cell BK175.out 1).trans rfl; have hfz59_0 := blk_frozen BK175.out 0; have hfz59_1 := blk_frozen BK175.out 1; have hcz60_0 : w58.cell? ⟨gb177, 0, none⟩ = some (.slice A2_0 l2_0.length c2_0) := (blk_cell BK177.out 0).trans rfl; have hcz60_1 : w58.cell? ⟨gb177, 1, none⟩ = some (.int .i64 a2_1) := (blk_cell BK177.out 1).trans rfl; have hfz60_0 := blk_frozen BK177.out 0; have hfz60_1 := blk_frozen BK177.out 1) | (go_at_call 22; (with_reducible refine (counterfoillaw11_awake.calls kj26  t183 _ A52.out).mono ?_); rintro e w61 ⟨rfl, hb⟩; have n0_ := Aside0.mk (blk_below (g := gb175) (o := .cells #[.slice A0_0 l0_0.length c0_0, .int .i64 a0_1] 39 (0, 0)) (by (with_reducible repeat (first | refine blk_drewN ?_ _ | refine blk_drew ?_ | refine blk_alloc ?_ _)); exact BK175.out) hb); have n1_ := Aside0.mk (blk_below (g := gb176) (o := .cells #[.slice A1_0 l1_0.length c1_0, .int .i64 a1_1] 39 (0, 0)) (by (with_reducible repeat (first | refine blk_drewN ?_ _ | refine blk_drew ?_ | refine blk_alloc ?_ _)); exact BK176.out) hb); have n2_ := Aside0.mk (blk_below (g := gb177) (o := .cells #[.slice A2_0 l2_0.length c2_0, .int .i64 a2_1] 39 (0, 0)) (by (with_reducible repeat (first | refine blk_drewN ?_ _ | refine blk_drew ?_ | refine blk_alloc ?_ _)); exact BK177.out) hb); have n3_ := Aside0.mk (below_step (by repeat (first | (with_reducible first | exact HB.out | apply below_alloc | apply pw_below_drewN | apply below_drew1 | refine below_set ?_ GE175.out | refine below_set ?_ GE176.out | refine below_set ?_ GE177.out) | exact HB.out)) hb); clear BK175; clear BK176; clear BK177; clear HB; have BK175 := n0_; have BK176 := n1_; have BK177 := n2_; have HB := n3_; clear n0_ n1_ n2_ n3_; (try clear hb); (try clear hb2); (try clear hk); (try clear hi)))
                  go_ret
                  exact ⟨by first | rfl | (simp [errW_none, errW_some] <;> rfl) | (simp [*, errW_none, errW_some] <;> rfl), by repeat (first | (with_reducible first | exact HB.out | apply below_alloc | apply pw_below_drewN | apply below_drew1 | refine below_set ?_ GE175.out | refine below_set ?_ GE176.out | refine below_set ?_ GE177.out) | exact HB.out)⟩
                · rw [if_neg c51] at H
                  have c51b0 : decide (a0_1 ≤ a2_1) = false := decide_eq_false c51
                  clear c51
                  obtain rfl := Option.some.inj H
                  have hnb62 := NB175_176.out
                  have hnc62 := NB176_175.out
                  have hnb63 := NB175_177.out
                  have hnc63 := NB177_175.out
                  have hcz64_0 : wc.cell? ⟨gb175, 0, none⟩ = some (.slice A0_0 l0_0.length c0_0) := (blk_cell BK175.out 0).trans rfl
                  have hcz64_1 : wc.cell? ⟨gb175, 1, none⟩ = some (.int .i64 a0_1) := (blk_cell BK175.out 1).trans rfl
                  have hfz64_0 := blk_frozen BK175.out 0
                  have hfz64_1 := blk_frozen BK175.out 1
                  have hnb65 := NB177_176.out
                  have hnc65 := NB176_177.out
                  have hcz66_0 : wc.cell? ⟨gb177, 0, none⟩ = some (.slice A2_0 l2_0.length c2_0) := (blk_cell BK177.out 0).trans rfl
                  have hcz66_1 : wc.cell? ⟨gb177, 1, none⟩ = some (.int .i64 a2_1) := (blk_cell BK177.out 1).trans rfl
                  have hfz66_0 := blk_frozen BK177.out 0
                  have hfz66_1 := blk_frozen BK177.out 1
                  go_wp2_with (first | ((with_reducible refine gate_callee (f := 29) rfl ?_); refine goesL_ (some 37) rfl rfl Try.func29 (by kernel_rfl) rfl #[.agg #[.slice A0_0 l0_0.length c0_0, .int .i64 a0_1], .agg #[.slice A2_0 l2_0.length c2_0, .int .i64 a2_1]] rfl (by (try simp only [List.map_toArray, List.map_cons, List.map_nil]); first | done | rfl | (simp only [List.length_drop, List.length_take]; rfl)) ?_; (with_reducible refine (line_Ahead.calls kj26 _ _ l0_0 a0_1 _ _ l2_0 a2_1 true _ ?side1 ?side2 ?side3 ?side4 A49.out).mono ?_); (case side1 => repeat (first | exact (Kd.C_below HR0_0.out HB.out) | (with_reducible refine Kd.C_alloc ?_ _) | (with_reducible refine Kd.C_drewN ?_ _) | (with_reducible refine Kd.C_drew ?_))); (case side2 => exact HC0_0.out); (case side3 => repeat (first | exact (Kd.C_below HR2_0.out HB.out) | (with_reducible refine Kd.C_alloc ?_ _) | (with_reducible refine Kd.C_drewN ?_ _) | (with_reducible refine Kd.C_drew ?_))); (case side4 => exact HC2_0.out); rintro e w67 ⟨rfl, hb⟩; refine ⟨_, rfl, ?_⟩; have n0_ := Aside0.mk (blk_below (g := gb175) (o := .cells #[.slice A0_0 l0_0.length c0_0, .int .i64 a0_1] 39 (0, 0)) (by (with_reducible repeat (first | refine blk_drewN ?_ _ | refine blk_drew ?_ | refine blk_alloc ?_ _)); exact BK175.out) hb); have n1_ := Aside0.mk (blk_below (g := gb176) (o := .cells #[.slice A1_0 l1_0.length c1_0, .int .i64 a1_1] 39 (0, 0)) (by (with_reducible repeat (first | refine blk_drewN ?_ _ | refine blk_drew ?_ | refine blk_alloc ?_ _)); exact BK176.out) hb); have n2_ := Aside0.mk (blk_below (g := gb177) (o := .cells #[.slice A2_0 l2_0.length c2_0, .int .i64 a2_1] 39 (0, 0)) (by (with_reducible repeat (first | refine blk_drewN ?_ _ | refine blk_drew ?_ | refine blk_alloc ?_ _)); exact BK177.out) hb); have n3_ := Aside0.mk (below_step (by repeat (first | (with_reducible first | exact HB.out | apply below_alloc | apply pw_below_drewN | apply below_drew1 | refine below_set ?_ GE175.out | refine below_set ?_ GE176.out | refine below_set ?_ GE177.out) | exact HB.out)) hb); clear BK175; clear BK176; clear BK177; clear HB; have BK175 := n0_; have BK176 := n1_; have BK177 := n2_; have HB := n3_; clear n0_ n1_ n2_ n3_; (try clear hb); (try clear hb2); (try clear hk); (try clear hi); have hcz68_0 : w67.cell? ⟨gb175, 0, none⟩ = some (.slice A0_0 l0_0.length c0_0) := (blk_cell BK175.out 0).trans rfl; have hcz68_1 : w67.cell? ⟨gb175, 1, none⟩ = some (.int .i64 a0_1) := (blk_cell BK175.out 1).trans rfl; have hfz68_0 := blk_frozen BK175.out 0; have hfz68_1 := blk_frozen BK175.out 1; have hcz69_0 : w67.cell? ⟨gb177, 0, none⟩ = some (.slice A2_0 l2_0.length c2_0) := (blk_cell BK177.out 0).trans rfl; have hcz69_1 : w67.cell? ⟨gb177, 1, none⟩ = some (.int .i64 a2_1) := (blk_cell BK177.out 1).trans rfl; have hfz69_0 := blk_frozen BK177.out 0; have hfz69_1 := blk_frozen BK177.out 1))
                  go_ret
                  exact ⟨by first | rfl | (simp [errW_none, errW_some] <;> rfl) | (simp [*, errW_none, errW_some] <;> rfl), by repeat (first | (with_reducible first | exact HB.out | apply below_alloc | apply pw_below_drewN | apply below_drew1 | refine below_set ?_ GE175.out | refine below_set ?_ GE176.out | refine below_set ?_ GE177.out) | exact HB.out)⟩
              · replace c50 := Bool.eq_false_iff.mpr c50
                subst c50
                have H1 : (some false) = some r := by rw [if_neg (show ¬ (false = true) by decide)] at H; exact H
                clear H
                have H := H1
                clear H1
                obtain rfl := Option.some.inj H
                have hnb70 := NB175_176.out
                have hnc70 := NB176_175.out
                have hnb71 := NB175_177.out
                have hnc71 := NB177_175.out
                have hcz72_0 : wc.cell? ⟨gb175, 0, none⟩ = some (.slice A0_0 l0_0.length c0_0) := (blk_cell BK175.out 0).trans rfl
                have hcz72_1 : wc.cell? ⟨gb175, 1, none⟩ = some (.int .i64 a0_1) := (blk_cell BK175.out 1).trans rfl
                have hfz72_0 := blk_frozen BK175.out 0
                have hfz72_1 := blk_frozen BK175.out 1
                have hnb73 := NB177_176.out
                have hnc73 := NB176_177.out
                have hcz74_0 : wc.cell? ⟨gb177, 0, none⟩ = some (.slice A2_0 l2_0.length c2_0) := (blk_cell BK177.out 0).trans rfl
                have hcz74_1 : wc.cell? ⟨gb177, 1, none⟩ = some (.int .i64 a2_1) := (blk_cell BK177.out 1).trans rfl
                have hfz74_0 := blk_frozen BK177.out 0
                have hfz74_1 := blk_frozen BK177.out 1
                go_wp2_with (first | ((with_reducible refine gate_callee (f := 29) rfl ?_); refine goesL_ (some 37) rfl rfl Try.func29 (by kernel_rfl) rfl #[.agg #[.slice A0_0 l0_0.length c0_0, .int .i64 a0_1], .agg #[.slice A2_0 l2_0.length c2_0, .int .i64 a2_1]] rfl (by (try simp only [List.map_toArray, List.map_cons, List.map_nil]); first | done | rfl | (simp only [List.length_drop, List.length_take]; rfl)) ?_; (with_reducible refine (line_Ahead.calls kj26 _ _ l0_0 a0_1 _ _ l2_0 a2_1 false _ ?side1 ?side2 ?side3 ?side4 A49.out).mono ?_); (case side1 => repeat (first | exact (Kd.C_below HR0_0.out HB.out) | (with_reducible refine Kd.C_alloc ?_ _) | (with_reducible refine Kd.C_drewN ?_ _) | (with_reducible refine Kd.C_drew ?_))); (case side2 => exact HC0_0.out); (case side3 => repeat (first | exact (Kd.C_below HR2_0.out HB.out) | (with_reducible refine Kd.C_alloc ?_ _) | (with_reducible refine Kd.C_drewN ?_ _) | (with_reducible refine Kd.C_drew ?_))); (case side4 => exact HC2_0.out); rintro e w75 ⟨rfl, hb⟩; refine ⟨_, rfl, ?_⟩; have n0_ := Aside0.mk (blk_below (g := gb175) (o := .cells #[.slice A0_0 l0_0.length c0_0, .int .i64 a0_1] 39 (0, 0)) (by (with_reducible repeat (first | refine blk_drewN ?_ _ | refine blk_drew ?_ | refine blk_alloc ?_ _)); exact BK175.out) hb); have n1_ := Aside0.mk (blk_below (g := gb176) (o := .cells #[.slice A1_0 l1_0.length c1_0, .int .i64 a1_1] 39 (0, 0)) (by (with_reducible repeat (first | refine blk_drewN ?_ _ | refine blk_drew ?_ | refine blk_alloc ?_ _)); exact BK176.out) hb); have n2_ := Aside0.mk (blk_below (g := gb177) (o := .cells #[.slice A2_0 l2_0.length c2_0, .int .i64 a2_1] 39 (0, 0)) (by (with_reducible repeat (first | refine blk_drewN ?_ _ | refine blk_drew ?_ | refine blk_alloc ?_ _)); exact BK177.out) hb); have n3_ := Aside0.mk (below_step (by repeat (first | (with_reducible first | exact HB.out | apply below_alloc | apply pw_below_drewN | apply below_drew1 | refine below_set ?_ GE175.out | refine below_set ?_ GE176.out | refine below_set ?_ GE177.out) | exact HB.out)) hb); clear BK175; clear BK176; clear BK177; clear HB; have BK175 := n0_; have BK176 := n1_; have BK177 := n2_; have HB := n3_; clear n0_ n1_ n2_ n3_; (try clear hb); (try clear hb2); (try clear hk); (try clear hi)))
                go_ret
                exact ⟨by first | rfl | (simp [errW_none, errW_some] <;> rfl) | (simp [*, errW_none, errW_some] <;> rfl), by repeat (first | (with_reducible first | exact HB.out | apply below_alloc | apply pw_below_drewN | apply below_drew1 | refine below_set ?_ GE175.out | refine below_set ?_ GE176.out | refine below_set ?_ GE177.out) | exact HB.out)⟩

/-- THE ONE PURE STATEMENT of counterfoillaw11_LineChain. -/
def counterfoillaw11_LineChain.Pure : Prop := ∀ (l0_0 : List (S61)) (a0_1 : Int) (l1_0 : List (S61)) (a1_1 : Int) (l2_0 : List (S61)) (a2_1 : Int), (l0_0.length * 16 ≤ 140737488351232 ∧ l0_0.length ≤ maxLen ∧ ∀ x ∈ l0_0, good61 x) → (Lit.int .i64 a0_1).wf = true → (l1_0.length * 16 ≤ 140737488351232 ∧ l1_0.length ≤ maxLen ∧ ∀ x ∈ l1_0, good61 x) → (Lit.int .i64 a1_1).wf = true → (l2_0.length * 16 ≤ 140737488351232 ∧ l2_0.length ≤ maxLen ∧ ∀ x ∈ l2_0, good61 x) → (Lit.int .i64 a2_1).wf = true → ∃ k, counterfoillaw11_LineChain.f k l0_0 a0_1 l1_0 a1_1 l2_0 a2_1 = some true

end Go.Proofs.Ytlkfmmjoiadoiaa.P
