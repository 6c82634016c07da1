-- MADE BY wip/kit/myprint.py for this seat
import Derived.Test.YthdhkoeaadahaaaPx0
import Derived.Test.YthdhkoeaadahaaaPx13
import Derived.Test.YthdhkoeaadahaaaPx96
import Derived.Test.YthdhkoeaadahaaaEQClone
namespace Go.Proofs.Ythdhkoeaadahaaa.P
open Go.RowKit Go.Proofs.YthdhkoeaadahaaaW.PrintWords Go.Proofs.YthdhkoeaadahaaaW.PrintLast Go.Proofs.YthdhkoeaadahaaaW.PrintMore
attribute [local go_sem] max2_int min2_int max_two min_two max_three min_three max_four min_four   -- for this text's walks alone
set_option linter.unusedVariables false
set_option linter.unusedSimpArgs false

/-! ### queue_Add: function 78 -/
def queue_Add.j0 : Nat → List (S74) → Bool → List (S99) → List (S74) → Int → Int → Option ((List (S99)) × (List (S74)) × Int × Int × Int)
  | 0, _, _, _, _, _, _ => none
  | k + 1, x1, x13, x649000, x649001, x649002, x649003 => if x13 = true then (some (([] : List (S99)), ([] : List (S74)), 0, 0, 1)) else ((queue_clone.f x649000 x649001 x649002 x649003).bind fun bt651 => ((fold_Merge.f bt651.2.1 x1).bind fun t659 => (some (bt651.1, t659, bt651.2.2.1, wrap64 (bt651.2.2.2 + 1), 0))))
def queue_Add.f (k : Nat) (l0_0 : List (S99)) (l0_1 : List (S74)) (a0_2 : Int) (a0_3 : Int) (l1 : List (S74)) : Option ((List (S99)) × (List (S74)) × Int × Int × Int) := (queue_Right.f k l0_0 l0_1 a0_2 a0_3).bind fun t650 => (if t650 = true then (queue_Add.j0 k l1 (a0_3 == 1099511627776) l0_0 l0_1 a0_2 a0_3) else (queue_Add.j0 k l1 true l0_0 l0_1 a0_2 a0_3))
theorem queue_Add.mono_l : ∀ k, (∀ y0 y1 y2 y3 y4 y5, LeO (queue_Add.j0 k y0 y1 y2 y3 y4 y5) (queue_Add.j0 (k + 1) y0 y1 y2 y3 y4 y5))
  | 0 => fun _ _ _ _ _ _ r h => by simp [queue_Add.j0] at h
  | k + 1 => by
    have ih0 := queue_Add.mono_l k
    · intro y0 y1 y2 y3 y4 y5
      unfold queue_Add.j0
      repeat' first
      | (with_reducible exact ih0 _ _ _ _ _ _)
      | (with_reducible exact queue_Right.mono _ _ _ _ _)
      | (with_reducible exact LeO.refl _)
      | (with_reducible exact LeO.none _)
      | (with_reducible refine LeO.ite ?_ ?_)
      | (with_reducible refine LeO.bind ?_ (fun _ => ?_))
      | exact ih0 _ _ _ _ _ _
      | exact queue_Right.mono _ _ _ _ _
      | exact LeO.none _
      | refine LeO.ite ?_ ?_
      | refine LeO.bind ?_ (fun _ => ?_)
theorem queue_Add.mono : ∀ a0 a1 a2 a3 a4 k, LeO (queue_Add.f k a0 a1 a2 a3 a4) (queue_Add.f (k + 1) a0 a1 a2 a3 a4) := by
  intro a0 a1 a2 a3 a4 k
  have ih0 := queue_Add.mono_l k
  unfold queue_Add.f
  repeat' first
      | (with_reducible exact ih0 _ _ _ _ _ _)
      | (with_reducible exact queue_Right.mono _ _ _ _ _)
      | (with_reducible exact LeO.refl _)
      | (with_reducible exact LeO.none _)
      | (with_reducible refine LeO.ite ?_ ?_)
      | (with_reducible refine LeO.bind ?_ (fun _ => ?_))
      | exact ih0 _ _ _ _ _ _
      | exact queue_Right.mono _ _ _ _ _
      | exact LeO.none _
      | refine LeO.ite ?_ ?_
      | refine LeO.bind ?_ (fun _ => ?_)
set_option maxHeartbeats 8000000 in
set_option maxRecDepth 100000 in
theorem queue_Add.calls (k : Nat) (A0_0 : Option Addr) (c0_0 : Nat) (l0_0 : List (S99)) (A0_1 : Option Addr) (c0_1 : Nat) (l0_1 : List (S74)) (a0_2 : Int) (a0_3 : Int) (A1 : Option Addr) (c1 : Nat) (l1 : List (S74)) (r1 : List (S99)) (r2 : List (S74)) (r3 : Int) (r4 : Int) (r5 : Int) (w : World) (hr0_0 : Kd.C k99 w A0_0 l0_0.length l0_0) (hc0_0 : l0_0.length ≤ c0_0) (hr0_1 : Kd.C k74 w A0_1 l0_1.length l0_1) (hc0_1 : l0_1.length ≤ c0_1) (hr1 : Kd.C k74 w A1 l1.length l1) (hc1 : l1.length ≤ c1) (h : queue_Add.f k l0_0 l0_1 a0_2 a0_3 l1 = some (r1, r2, r3, r4, r5)) :
    Calls Try.prog 78 #[.agg #[.slice A0_0 l0_0.length c0_0, .slice A0_1 l0_1.length c0_1, .int .i64 a0_2, .int .i64 a0_3], .slice A1 l1.length c1] w fun e w' => ∃ v0_ v1_ : Value, e = .returned (.tuple #[.agg #[v0_, v1_, .int .i64 r3, .int .i64 r4], .int .i64 r5]) ∧ Kd.S k99 99 w' w.heap.size (fun k_ => some k_ ≠ (v1_ : Value).ownBlock) v0_ r1 ∧ Kd.R k74 74 w' w.heap.size (fun _ => True) v1_ r2 ∧ Below w.heap.size w w' := by
  have hu27 := Try.underlying27
  have HR0_0 := Aside0.mk hr0_0
  have HC0_0 := Aside0.mk hc0_0
  clear hr0_0 hc0_0
  have HR0_1 := Aside0.mk hr0_1
  have HC0_1 := Aside0.mk hc0_1
  clear hr0_1 hc0_1
  have HR1 := Aside0.mk hr1
  have HC1 := Aside0.mk hc1
  clear hr1 hc1
  have HB := Aside0.mk (Below.refl w.heap.size w)
  have H : ((queue_Right.f k l0_0 l0_1 a0_2 a0_3).bind fun t650 => (if t650 = true then (queue_Add.j0 k l1 (a0_3 == 1099511627776) l0_0 l0_1 a0_2 a0_3) else (queue_Add.j0 k l1 true l0_0 l0_1 a0_2 a0_3))) = some (r1, r2, r3, r4, r5) := h
  clear h
  have HC3 := Aside0.mk H
  clear H
  go_enter Try.func78, Try.ntmps78
  go_upto_region 1 with (first | ((with_reducible refine gate_dst (N := 2) rfl ?_); refine box_event ?hg (N := 2) ?hd (cs := #[.slice A0_0 l0_0.length c0_0, .slice A0_1 l0_1.length c0_1, .int .i64 a0_2, .int .i64 a0_3]) (t := 27) ?hr ?_; (case hd => rfl); (case hg => rfl); (case hr => first | (go_simp; done) | (go_simp; rfl)); intro gb648 hg w4 hbox hb; have n0_ := Aside0.mk (below_step (by repeat (first | (with_reducible first | exact HB.out | apply below_alloc | apply pw_below_drewN | apply below_drew1) | exact HB.out)) hb); have n1_ := Aside0.mk (hbox); have n2_ := Aside0.mk ((by rw [hg]; exact (below_size (by repeat (first | (with_reducible first | exact HB.out | apply below_alloc | apply pw_below_drewN | apply below_drew1) | exact HB.out))) : w.heap.size ≤ gb648)); have n3_ := Aside0.mk ((by rw [hg]; exact (below_size (by repeat (first | (with_reducible first | exact HB.out | apply below_alloc | apply pw_below_drewN | apply below_drew1) | exact HB.out))) : w.heap.size ≤ gb648)); clear HB; have HB := n0_; have BK648 := n1_; have GW648 := n2_; have GE648 := n3_; clear n0_ n1_ n2_ n3_; clear hb hbox hg) | ((with_reducible refine gate_dst (N := 4) rfl ?_); refine box_event ?hg (N := 4) ?hd (cs := #[.slice none 0 0, .slice none 0 0, .int .i64 0, .int .i64 0]) (t := 27) ?hr ?_; (case hd => rfl); (case hg => rfl); (case hr => first | (go_simp; done) | (go_simp; rfl)); intro gb649 hg w5 hbox hb; have n0_ := Aside0.mk (blk_below (g := gb648) (o := .cells #[.slice A0_0 l0_0.length c0_0, .slice A0_1 l0_1.length c0_1, .int .i64 a0_2, .int .i64 a0_3] 27 (0, 0)) (by (with_reducible repeat (first | refine blk_drewN ?_ _ | refine blk_drew ?_ | refine blk_alloc ?_ _)); exact BK648.out) hb); have n1_ := Aside0.mk (below_step (by repeat (first | (with_reducible first | exact HB.out | apply below_alloc | apply pw_below_drewN | apply below_drew1 | refine below_set ?_ GE648.out) | exact HB.out)) hb); have n2_ := Aside0.mk (hbox); have n3_ := Aside0.mk ((by rw [hg]; exact (below_size (by repeat (first | (with_reducible first | exact HB.out | apply below_alloc | apply pw_below_drewN | apply below_drew1 | refine below_set ?_ GE648.out) | exact HB.out))) : w.heap.size ≤ gb649)); have n4_ := Aside0.mk ((by rw [hg]; exact (below_size (by repeat (first | (with_reducible first | exact HB.out | apply below_alloc | apply pw_below_drewN | apply below_drew1 | refine below_set ?_ GE648.out) | exact HB.out))) : w.heap.size ≤ gb649)); have n5_ := Aside0.mk ((by rw [hg]; exact Nat.ne_of_lt (blk_lt (g := gb648) (o := .cells #[.slice A0_0 l0_0.length c0_0, .slice A0_1 l0_1.length c0_1, .int .i64 a0_2, .int .i64 a0_3] 27 (0, 0)) (by (with_reducible repeat (first | refine blk_drewN ?_ _ | refine blk_drew ?_ | refine blk_alloc ?_ _)); exact BK648.out)) : gb648 ≠ gb649)); have n6_ := Aside0.mk ((by rw [hg]; exact Nat.ne_of_gt (blk_lt (g := gb648) (o := .cells #[.slice A0_0 l0_0.length c0_0, .slice A0_1 l0_1.length c0_1, .int .i64 a0_2, .int .i64 a0_3] 27 (0, 0)) (by (with_reducible repeat (first | refine blk_drewN ?_ _ | refine blk_drew ?_ | refine blk_alloc ?_ _)); exact BK648.out)) : gb649 ≠ gb648)); clear BK648; clear HB; have BK648 := n0_; have HB := n1_; have BK649 := n2_; have GW649 := n3_; have GE649 := n4_; have NB648_649 := n5_; have NB649_648 := n6_; clear n0_ n1_ n2_ n3_ n4_ n5_ n6_; clear hb hbox hg))
  (try simp only [Act.put, List.setIfInBounds_toArray, List.set_cons_zero, List.set_cons_succ])
  go_cut [13] (fun v13 wc => ∃ (kq : Nat) (x13_2 : Bool), v13 = .bool x13_2 ∧ Aside0 (queue_Add.j0 kq l1 x13_2 l0_0 l0_1 a0_2 a0_3 = some (r1, r2, r3, r4, r5)) ∧ Aside0 (kq ≤ k) ∧ Aside0 (wc.heap[gb648]? = some (.cells #[(.slice A0_0 l0_0.length c0_0), (.slice A0_1 l0_1.length c0_1), .int .i64 a0_2, .int .i64 a0_3] 27 (0, 0))) ∧ Aside0 (wc.heap[gb649]? = some (.cells #[(.slice none 0 0), (.slice none 0 0), .int .i64 0, .int .i64 0] 27 (0, 0))) ∧ Aside0 (Below w.heap.size w wc))
  case first =>
    have H := HC3.out
    clear HC3
    replace H := Option.bind_eq_some_iff.mp H
    obtain ⟨t650, A60, H⟩ := H
    replace H : (if t650 = true then (queue_Add.j0 k l1 (a0_3 == 1099511627776) l0_0 l0_1 a0_2 a0_3) else (queue_Add.j0 k l1 true l0_0 l0_1 a0_2 a0_3)) = some (r1, r2, r3, r4, r5) := H
    have A6 := Aside0.mk A60
    clear A60
    by_cases c7 : t650 = true
    · subst c7
      have H1 : (queue_Add.j0 k l1 (a0_3 == 1099511627776) l0_0 l0_1 a0_2 a0_3) = some (r1, r2, r3, r4, r5) := by rw [if_pos rfl] at H; exact H
      clear H
      have H := H1
      clear H1
      have H' := Aside0.mk H
      clear H
      have hnb8 := NB648_649.out
      have hnc8 := NB649_648.out
      have hcz9_0 : w5.cell? ⟨gb648, 0, none⟩ = some (.slice A0_0 l0_0.length c0_0) := (blk_cell BK648.out 0).trans rfl
      have hcz9_1 : w5.cell? ⟨gb648, 1, none⟩ = some (.slice A0_1 l0_1.length c0_1) := (blk_cell BK648.out 1).trans rfl
      have hcz9_2 : w5.cell? ⟨gb648, 2, none⟩ = some (.int .i64 a0_2) := (blk_cell BK648.out 2).trans rfl
      have hcz9_3 : w5.cell? ⟨gb648, 3, none⟩ = some (.int .i64 a0_3) := (blk_cell BK648.out 3).trans rfl
      have hfz9_0 := blk_frozen BK648.out 0
      have hfz9_1 := blk_frozen BK648.out 1
      have hfz9_2 := blk_frozen BK648.out 2
      have hfz9_3 := blk_frozen BK648.out 3
      go_wp2_with (first | ((with_reducible refine gate_callee (f := 75) rfl ?_); refine goesL_ (some 7) rfl rfl Try.func75 (by kernel_rfl) rfl #[.agg #[.slice A0_0 l0_0.length c0_0, .slice A0_1 l0_1.length c0_1, .int .i64 a0_2, .int .i64 a0_3]] rfl (by (try simp only [List.map_toArray, List.map_cons, List.map_nil]); first | done | rfl | (simp only [List.length_drop, List.length_take]; rfl)) ?_; (with_reducible refine (queue_Right.calls k _ _ l0_0 _ _ l0_1 a0_2 a0_3 true _ ?side1 ?side2 ?side3 ?side4 A6.out).mono ?_); (case side1 => repeat (first | exact (Kd.C_below HR0_0.out HB.out) | (with_reducible refine Kd.C_alloc ?_ _) | (with_reducible refine Kd.C_drewN ?_ _) | (with_reducible refine Kd.C_drew ?_))); (case side2 => exact HC0_0.out); (case side3 => repeat (first | exact (Kd.C_below HR0_1.out HB.out) | (with_reducible refine Kd.C_alloc ?_ _) | (with_reducible refine Kd.C_drewN ?_ _) | (with_reducible refine Kd.C_drew ?_))); (case side4 => exact HC0_1.out); rintro e w10 ⟨rfl, hb⟩; refine ⟨_, rfl, ?_⟩; have n0_ := Aside0.mk (blk_below (g := gb648) (o := .cells #[.slice A0_0 l0_0.length c0_0, .slice A0_1 l0_1.length c0_1, .int .i64 a0_2, .int .i64 a0_3] 27 (0, 0)) (by (with_reducible repeat (first | refine blk_drewN ?_ _ | refine blk_drew ?_ | refine blk_alloc ?_ _)); exact BK648.out) hb); have n1_ := Aside0.mk (blk_below (g := gb649) (o := .cells #[.slice none 0 0, .slice none 0 0, .int .i64 0, .int .i64 0] 27 (0, 0)) (by (with_reducible repeat (first | refine blk_drewN ?_ _ | refine blk_drew ?_ | refine blk_alloc ?_ _)); exact BK649.out) hb); have n2_ := Aside0.mk (below_step (by repeat (first | (with_reducible first | exact HB.out | apply below_alloc | apply pw_below_drewN | apply below_drew1 | refine below_set ?_ GE648.out | refine below_set ?_ GE649.out) | exact HB.out)) hb); clear BK648; clear BK649; clear HB; have BK648 := n0_; have BK649 := n1_; have HB := n2_; clear n0_ n1_ n2_; (try clear hb); (try clear hb2); (try clear hk); (try clear hi); have hcz11_0 : w10.cell? ⟨gb648, 0, none⟩ = some (.slice A0_0 l0_0.length c0_0) := (blk_cell BK648.out 0).trans rfl; have hcz11_1 : w10.cell? ⟨gb648, 1, none⟩ = some (.slice A0_1 l0_1.length c0_1) := (blk_cell BK648.out 1).trans rfl; have hcz11_2 : w10.cell? ⟨gb648, 2, none⟩ = some (.int .i64 a0_2) := (blk_cell BK648.out 2).trans rfl; have hcz11_3 : w10.cell? ⟨gb648, 3, none⟩ = some (.int .i64 a0_3) := (blk_cell BK648.out 3).trans rfl; have hfz11_0 := blk_frozen BK648.out 0; have hfz11_1 := blk_frozen BK648.out 1; have hfz11_2 := blk_frozen BK648.out 2; have hfz11_3 := blk_frozen BK648.out 3))
      go_meet
      case rel => exact ⟨_, ((a0_3 == 1099511627776)), (by first | rfl | (simp; done) | (simp [*]; done)), H', ⟨by first | omega | exact Nat.le_refl _⟩, ⟨by (with_reducible repeat (first | refine blk_drewN ?_ _ | refine blk_drew ?_ | refine blk_alloc ?_ _)); exact BK648.out⟩, ⟨by (with_reducible repeat (first | refine blk_drewN ?_ _ | refine blk_drew ?_ | refine blk_alloc ?_ _)); exact BK649.out⟩, ⟨by repeat (first | (with_reducible first | exact HB.out | apply below_alloc | apply pw_below_drewN | apply below_drew1 | refine below_set ?_ GE648.out | refine below_set ?_ GE649.out) | exact HB.out)⟩⟩
    · replace c7 := Bool.eq_false_iff.mpr c7
      subst c7
      have H1 : (queue_Add.j0 k l1 true l0_0 l0_1 a0_2 a0_3) = some (r1, r2, r3, r4, r5) := by rw [if_neg (show ¬ (false = true) by decide)] at H; exact H
      clear H
      have H := H1
      clear H1
      have H' := Aside0.mk H
      clear H
      have hnb12 := NB648_649.out
      have hnc12 := NB649_648.out
      have hcz13_0 : w5.cell? ⟨gb648, 0, none⟩ = some (.slice A0_0 l0_0.length c0_0) := (blk_cell BK648.out 0).trans rfl
      have hcz13_1 : w5.cell? ⟨gb648, 1, none⟩ = some (.slice A0_1 l0_1.length c0_1) := (blk_cell BK648.out 1).trans rfl
      have hcz13_2 : w5.cell? ⟨gb648, 2, none⟩ = some (.int .i64 a0_2) := (blk_cell BK648.out 2).trans rfl
      have hcz13_3 : w5.cell? ⟨gb648, 3, none⟩ = some (.int .i64 a0_3) := (blk_cell BK648.out 3).trans rfl
      have hfz13_0 := blk_frozen BK648.out 0
      have hfz13_1 := blk_frozen BK648.out 1
      have hfz13_2 := blk_frozen BK648.out 2
      have hfz13_3 := blk_frozen BK648.out 3
      go_wp2_with (first | ((with_reducible refine gate_callee (f := 75) rfl ?_); refine goesL_ (some 7) rfl rfl Try.func75 (by kernel_rfl) rfl #[.agg #[.slice A0_0 l0_0.length c0_0, .slice A0_1 l0_1.length c0_1, .int .i64 a0_2, .int .i64 a0_3]] rfl (by (try simp only [List.map_toArray, List.map_cons, List.map_nil]); first | done | rfl | (simp only [List.length_drop, List.length_take]; rfl)) ?_; (with_reducible refine (queue_Right.calls k _ _ l0_0 _ _ l0_1 a0_2 a0_3 false _ ?side1 ?side2 ?side3 ?side4 A6.out).mono ?_); (case side1 => repeat (first | exact (Kd.C_below HR0_0.out HB.out) | (with_reducible refine Kd.C_alloc ?_ _) | (with_reducible refine Kd.C_drewN ?_ _) | (with_reducible refine Kd.C_drew ?_))); (case side2 => exact HC0_0.out); (case side3 => repeat (first | exact (Kd.C_below HR0_1.out HB.out) | (with_reducible refine Kd.C_alloc ?_ _) | (with_reducible refine Kd.C_drewN ?_ _) | (with_reducible refine Kd.C_drew ?_))); (case side4 => exact HC0_1.out); rintro e w14 ⟨rfl, hb⟩; refine ⟨_, rfl, ?_⟩; have n0_ := Aside0.mk (blk_below (g := gb648) (o := .cells #[.slice A0_0 l0_0.length c0_0, .slice A0_1 l0_1.length c0_1, .int .i64 a0_2, .int .i64 a0_3] 27 (0, 0)) (by (with_reducible repeat (first | refine blk_drewN ?_ _ | refine blk_drew ?_ | refine blk_alloc ?_ _)); exact BK648.out) hb); have n1_ := Aside0.mk (blk_below (g := gb649) (o := .cells #[.slice none 0 0, .slice none 0 0, .int .i64 0, .int .i64 0] 27 (0, 0)) (by (with_reducible repeat (first | refine blk_drewN ?_ _ | refine blk_drew ?_ | refine blk_alloc ?_ _)); exact BK649.out) hb); have n2_ := Aside0.mk (below_step (by repeat (first | (with_reducible first | exact HB.out | apply below_alloc | apply pw_below_drewN | apply below_drew1 | refine below_set ?_ GE648.out | refine below_set ?_ GE649.out) | exact HB.out)) hb); clear BK648; clear BK649; clear HB; have BK648 := n0_; have BK649 := n1_; have HB := n2_; clear n0_ n1_ n2_; (try clear hb); (try clear hb2); (try clear hk); (try clear hi)))
      go_meet
      case rel => exact ⟨_, (true), (by first | rfl | (simp; done) | (simp [*]; done)), H', ⟨by first | omega | exact Nat.le_refl _⟩, ⟨by (with_reducible repeat (first | refine blk_drewN ?_ _ | refine blk_drew ?_ | refine blk_alloc ?_ _)); exact BK648.out⟩, ⟨by (with_reducible repeat (first | refine blk_drewN ?_ _ | refine blk_drew ?_ | refine blk_alloc ?_ _)); exact BK649.out⟩, ⟨by repeat (first | (with_reducible first | exact HB.out | apply below_alloc | apply pw_below_drewN | apply below_drew1 | refine below_set ?_ GE648.out | refine below_set ?_ GE649.out) | exact HB.out)⟩⟩
  case rest =>
    clear HC3
    try clear c1
    try clear p2
    try clear c7
    try clear c8
    try clear c12
    try clear hcz11_0
    try clear hcz11_1
    try clear hcz11_2
    try clear hcz11_3
    try clear hcz13_0
    try clear hcz13_1
    try clear hcz13_2
    try clear hcz13_3
    try clear hcz9_0
    try clear hcz9_1
    try clear hcz9_2
    try clear hcz9_3
    try clear hfz11_0
    try clear hfz11_1
    try clear hfz11_2
    try clear hfz11_3
    try clear hfz13_0
    try clear hfz13_1
    try clear hfz13_2
    try clear hfz13_3
    try clear hfz9_0
    try clear hfz9_1
    try clear hfz9_2
    try clear hfz9_3
    obtain ⟨kq, x13_2, rfl, HA, HJ2, BK648, BK649, HB⟩ := hcut
    cases kq with
    | zero => exact absurd HA.out (by simp [queue_Add.j0])
    | succ kj2 =>
      have H := HA.out
      clear HA
      simp only [queue_Add.j0] at H
      by_cases c15 : x13_2 = true
      · subst c15
        have H1 : (some (([] : List (S99)), ([] : List (S74)), 0, 0, 1)) = some (r1, r2, r3, r4, r5) := by rw [if_pos rfl] at H; exact H
        clear H
        have H := H1
        clear H1
        simp only [Option.some.injEq, Prod.mk.injEq] at H
        obtain ⟨rfl, rfl, rfl, rfl, rfl⟩ := H
        have hnb16 := NB649_648.out
        have hnc16 := NB648_649.out
        have hcz17_0 : wc.cell? ⟨gb649, 0, none⟩ = some (.slice none 0 0) := (blk_cell BK649.out 0).trans rfl
        have hcz17_1 : wc.cell? ⟨gb649, 1, none⟩ = some (.slice none 0 0) := (blk_cell BK649.out 1).trans rfl
        have hcz17_2 : wc.cell? ⟨gb649, 2, none⟩ = some (.int .i64 0) := (blk_cell BK649.out 2).trans rfl
        have hcz17_3 : wc.cell? ⟨gb649, 3, none⟩ = some (.int .i64 0) := (blk_cell BK649.out 3).trans rfl
        have hfz17_0 := blk_frozen BK649.out 0
        have hfz17_1 := blk_frozen BK649.out 1
        have hfz17_2 := blk_frozen BK649.out 2
        have hfz17_3 := blk_frozen BK649.out 3
        go_wp2
        refine bodyPost_ret (results_ct rfl _ _ gb649 27 #[.slice none 0 0, .slice none 0 0, .int .i64 0, .int .i64 0] (0, 0) _ rfl (by (with_reducible repeat (first | refine blk_drewN ?_ _ | refine blk_drew ?_ | refine blk_alloc ?_ _)); refine blk_put (cs := #[.slice none 0 0, .slice none 0 0, .int .i64 0, .int .i64 0]) ?_ 3 _ rfl; (with_reducible repeat (first | refine blk_drewN ?_ _ | refine blk_drew ?_ | refine blk_alloc ?_ _)); refine blk_put (cs := #[.slice none 0 0, .slice none 0 0, .int .i64 0, .int .i64 0]) ?_ 2 _ rfl; (with_reducible repeat (first | refine blk_drewN ?_ _ | refine blk_drew ?_ | refine blk_alloc ?_ _)); refine blk_put (cs := #[.slice none 0 0, .slice none 0 0, .int .i64 0, .int .i64 0]) ?_ 1 _ rfl; (with_reducible repeat (first | refine blk_drewN ?_ _ | refine blk_drew ?_ | refine blk_alloc ?_ _)); refine blk_put (cs := #[.slice none 0 0, .slice none 0 0, .int .i64 0, .int .i64 0]) ?_ 0 _ rfl; (with_reducible repeat (first | refine blk_drewN ?_ _ | refine blk_drew ?_ | refine blk_alloc ?_ _)); exact BK649.out) Try.underlying27 rfl (by kernel_rfl)) rfl ?_
        exact ⟨_, _, by first | rfl | (simp [errW_none, errW_some] <;> rfl) | (simp [*, errW_none, errW_some] <;> rfl), by first | exact Kd.S_nil _ _ _ _ _ | exact Kd.N_nil _ _ _ _ _ | exact Kd.V_nil _ _ _ _ _ | exact Kd.Q_nil _ _ _ _ _ | exact Kd.R_nil _ _ _ _ _, by first | exact Kd.R_nil _ _ _ _ _ | exact Kd.N_nil _ _ _ _ _ | exact Kd.V_nil _ _ _ _ _ | exact Kd.Q_nil _ _ _ _ _ | exact Kd.S_nil _ _ _ _ _, by repeat (first | (with_reducible first | exact HB.out | apply below_alloc | apply pw_below_drewN | apply below_drew1 | refine below_set ?_ GE648.out | refine below_set ?_ GE649.out) | exact HB.out)⟩
      · replace c15 := Bool.eq_false_iff.mpr c15
        subst c15
        have H1 : ((queue_clone.f l0_0 l0_1 a0_2 a0_3).bind fun bt651 => ((fold_Merge.f bt651.2.1 l1).bind fun t659 => (some (bt651.1, t659, bt651.2.2.1, wrap64 (bt651.2.2.2 + 1), 0)))) = some (r1, r2, r3, r4, r5) := by rw [if_neg (show ¬ (false = true) by decide)] at H; exact H
        clear H
        have H := H1
        clear H1
        replace H := Option.bind_eq_some_iff.mp H
        obtain ⟨⟨t651, t654, t657, t658⟩, A180, H⟩ := H
        replace H : ((fold_Merge.f t654 l1).bind fun t659 => (some (t651, t659, t657, wrap64 (t658 + 1), 0))) = some (r1, r2, r3, r4, r5) := H
        have A18 := Aside0.mk A180
        clear A180
        replace H := Option.bind_eq_some_iff.mp H
        obtain ⟨t659, A190, H⟩ := H
        replace H : (some (t651, t659, t657, wrap64 (t658 + 1), 0)) = some (r1, r2, r3, r4, r5) := H
        have A19 := Aside0.mk A190
        clear A190
        simp only [Option.some.injEq, Prod.mk.injEq] at H
        obtain ⟨rfl, rfl, rfl, rfl, rfl⟩ := H
        have hnb20 := NB648_649.out
        have hnc20 := NB649_648.out
        have hcz21_0 : wc.cell? ⟨gb648, 0, none⟩ = some (.slice A0_0 l0_0.length c0_0) := (blk_cell BK648.out 0).trans rfl
        have hcz21_1 : wc.cell? ⟨gb648, 1, none⟩ = some (.slice A0_1 l0_1.length c0_1) := (blk_cell BK648.out 1).trans rfl
        have hcz21_2 : wc.cell? ⟨gb648, 2, none⟩ = some (.int .i64 a0_2) := (blk_cell BK648.out 2).trans rfl
        have hcz21_3 : wc.cell? ⟨gb648, 3, none⟩ = some (.int .i64 a0_3) := (blk_cell BK648.out 3).trans rfl
        have hfz21_0 := blk_frozen BK648.out 0
        have hfz21_1 := blk_frozen BK648.out 1
        have hfz21_2 := blk_frozen BK648.out 2
        have hfz21_3 := blk_frozen BK648.out 3
        go_wp2_with (first | ((with_reducible refine gate_callee (f := 94) rfl ?_); refine goesL_ (some 16) rfl rfl Try.func94 (by kernel_rfl) rfl #[.agg #[.slice A0_0 l0_0.length c0_0, .slice A0_1 l0_1.length c0_1, .int .i64 a0_2, .int .i64 a0_3]] rfl (by (try simp only [List.map_toArray, List.map_cons, List.map_nil]); first | done | rfl | (simp only [List.length_drop, List.length_take]; rfl)) ?_; (with_reducible refine (queue_clone.calls _ _ l0_0 _ _ l0_1 a0_2 a0_3 t651 t654 t657 t658 _ ?side1 ?side2 ?side3 ?side4 A18.out).mono ?_); (case side1 => repeat (first | exact (Kd.C_below HR0_0.out HB.out) | (with_reducible refine Kd.C_alloc ?_ _) | (with_reducible refine Kd.C_drewN ?_ _) | (with_reducible refine Kd.C_drew ?_))); (case side2 => exact HC0_0.out); (case side3 => repeat (first | exact (Kd.C_below HR0_1.out HB.out) | (with_reducible refine Kd.C_alloc ?_ _) | (with_reducible refine Kd.C_drewN ?_ _) | (with_reducible refine Kd.C_drew ?_))); (case side4 => exact HC0_1.out); rintro e w22 ⟨v652, v655, rfl, ho0, ho1, hb⟩; refine ⟨_, rfl, ?_⟩; have n0_ := Aside0.mk (Kd.S_lower ho0 (below_size (by repeat (first | (with_reducible first | exact HB.out | apply below_alloc | apply pw_below_drewN | apply below_drew1 | refine below_set ?_ GE648.out | refine below_set ?_ GE649.out) | exact HB.out)))); have n1_ := Aside0.mk (Kd.R_lower ho1 (below_size (by repeat (first | (with_reducible first | exact HB.out | apply below_alloc | apply pw_below_drewN | apply below_drew1 | refine below_set ?_ GE648.out | refine below_set ?_ GE649.out) | exact HB.out)))); have n2_ := Aside0.mk (blk_below (g := gb648) (o := .cells #[.slice A0_0 l0_0.length c0_0, .slice A0_1 l0_1.length c0_1, .int .i64 a0_2, .int .i64 a0_3] 27 (0, 0)) (by (with_reducible repeat (first | refine blk_drewN ?_ _ | refine blk_drew ?_ | refine blk_alloc ?_ _)); exact BK648.out) hb); have n3_ := Aside0.mk (blk_below (g := gb649) (o := .cells #[.slice none 0 0, .slice none 0 0, .int .i64 0, .int .i64 0] 27 (0, 0)) (by (with_reducible repeat (first | refine blk_drewN ?_ _ | refine blk_drew ?_ | refine blk_alloc ?_ _)); exact BK649.out) hb); have n4_ := Aside0.mk (below_step (by repeat (first | (with_reducible first | exact HB.out | apply below_alloc | apply pw_below_drewN | apply below_drew1 | refine below_set ?_ GE648.out | refine below_set ?_ GE649.out) | exact HB.out)) hb); clear BK648; clear BK649; clear HB; have HO653 := n0_; have HO656 := n1_; have BK648 := n2_; have BK649 := n3_; have HB := n4_; clear n0_ n1_ n2_ n3_ n4_; (try clear hb); (try clear hb2); (try clear hk); (try clear hi); (try clear ho0); (try clear ho1); obtain ⟨Ao23, co23, eo23⟩ := Kd.S_slice HO653.out; subst eo23; have hcz24_0 : w22.cell? ⟨gb648, 0, none⟩ = some (.slice A0_0 l0_0.length c0_0) := (blk_cell BK648.out 0).trans rfl; have hcz24_1 : w22.cell? ⟨gb648, 1, none⟩ = some (.slice A0_1 l0_1.length c0_1) := (blk_cell BK648.out 1).trans rfl; have hcz24_2 : w22.cell? ⟨gb648, 2, none⟩ = some (.int .i64 a0_2) := (blk_cell BK648.out 2).trans rfl; have hcz24_3 : w22.cell? ⟨gb648, 3, none⟩ = some (.int .i64 a0_3) := (blk_cell BK648.out 3).trans rfl; have hfz24_0 := blk_frozen BK648.out 0; have hfz24_1 := blk_frozen BK648.out 1; have hfz24_2 := blk_frozen BK648.out 2; have hfz24_3 := blk_frozen BK648.out 3; obtain ⟨Ao25, co25, eo25⟩ := Kd.R_slice HO656.out; subst eo25) | ((with_reducible refine gate_store (t := 27) (p := 2) rfl ?_); refine store_event (t := 27) (p := 2) (v := ?vo_w26) (w1 := ((((w22.setCell ⟨gb648, 0, none⟩ (.slice Ao23 t651.length co23)).setCell ⟨gb648, 1, none⟩ (.slice Ao25 t654.length co25)).setCell ⟨gb648, 2, none⟩ (.int .i64 t657)).setCell ⟨gb648, 3, none⟩ (.int .i64 t658))) ?hg ?ho ?hn ?hr ?_; (case ho => rfl); (case hg => rfl); (case hn => rfl); (case hr => first | (go_simp; done) | (go_simp; rfl)); intro w26 hw; have n0_ : Aside0 (Kd.S k99 99 w26 w.heap.size (fun k_ => some k_ ≠ (.slice Ao25 t654.length co25 : Value).ownBlock) (.slice Ao23 t651.length co23) t651) := ⟨(by rw [hw]; exact (by (with_reducible repeat (first | apply Kd.S_alloc | apply Kd.S_drewN | apply Kd.S_drew)); exact Kd.S_mono (Kd.S_far (p := ⟨gb648, 3, none⟩) (Kd.S_far (p := ⟨gb648, 2, none⟩) (Kd.S_far (p := ⟨gb648, 1, none⟩) (Kd.S_far (p := ⟨gb648, 0, none⟩) (Kd.S_types HO653.out BK648.out (by decide)) (fun _ hk => hk.2) (.slice Ao23 t651.length co23)) (fun _ hk => hk.2) (.slice Ao25 t654.length co25)) (fun _ hk => hk.2) (.int .i64 t657)) (fun _ hk => hk.2) (.int .i64 t658)) (fun _ hk => hk.1)))⟩; have n1_ : Aside0 (Kd.R k74 74 w26 w.heap.size (fun _ => True) (.slice Ao25 t654.length co25) t654) := ⟨(by rw [hw]; exact (by (with_reducible repeat (first | apply Kd.R_alloc | apply Kd.R_drewN | apply Kd.R_drew)); exact Kd.R_mono (Kd.R_far (p := ⟨gb648, 3, none⟩) (Kd.R_far (p := ⟨gb648, 2, none⟩) (Kd.R_far (p := ⟨gb648, 1, none⟩) (Kd.R_far (p := ⟨gb648, 0, none⟩) (Kd.R_types HO656.out BK648.out (by decide)) (fun _ hk => hk.2) (.slice Ao23 t651.length co23)) (fun _ hk => hk.2) (.slice Ao25 t654.length co25)) (fun _ hk => hk.2) (.int .i64 t657)) (fun _ hk => hk.2) (.int .i64 t658)) (fun _ hk => trivial)))⟩; have n2_ : Aside0 (w26.heap[gb648]? = some (.cells #[.slice Ao23 t651.length co23, .slice Ao25 t654.length co25, .int .i64 t657, .int .i64 t658] 27 (0, 0))) := ⟨(by rw [hw]; exact (by (with_reducible repeat (first | refine blk_drewN ?_ _ | refine blk_drew ?_ | refine blk_alloc ?_ _)); refine blk_put (cs := #[.slice Ao23 t651.length co23, .slice Ao25 t654.length co25, .int .i64 t657, .int .i64 a0_3]) ?_ 3 _ rfl; (with_reducible repeat (first | refine blk_drewN ?_ _ | refine blk_drew ?_ | refine blk_alloc ?_ _)); refine blk_put (cs := #[.slice Ao23 t651.length co23, .slice Ao25 t654.length co25, .int .i64 a0_2, .int .i64 a0_3]) ?_ 2 _ rfl; (with_reducible repeat (first | refine blk_drewN ?_ _ | refine blk_drew ?_ | refine blk_alloc ?_ _)); refine blk_put (cs := #[.slice Ao23 t651.length co23, .slice A0_1 l0_1.length c0_1, .int .i64 a0_2, .int .i64 a0_3]) ?_ 1 _ rfl; (with_reducible repeat (first | refine blk_drewN ?_ _ | refine blk_drew ?_ | refine blk_alloc ?_ _)); refine blk_put (cs := #[.slice A0_0 l0_0.length c0_0, .slice A0_1 l0_1.length c0_1, .int .i64 a0_2, .int .i64 a0_3]) ?_ 0 _ rfl; (with_reducible repeat (first | refine blk_drewN ?_ _ | refine blk_drew ?_ | refine blk_alloc ?_ _)); exact BK648.out))⟩; have n3_ : Aside0 (w26.heap[gb649]? = some (.cells #[.slice none 0 0, .slice none 0 0, .int .i64 0, .int .i64 0] 27 (0, 0))) := ⟨(by rw [hw]; exact (by (with_reducible repeat (first | refine blk_drewN ?_ _ | refine blk_drew ?_ | refine blk_alloc ?_ _)); refine blk_far ?_ NB649_648.out _; (with_reducible repeat (first | refine blk_drewN ?_ _ | refine blk_drew ?_ | refine blk_alloc ?_ _)); refine blk_far ?_ NB649_648.out _; (with_reducible repeat (first | refine blk_drewN ?_ _ | refine blk_drew ?_ | refine blk_alloc ?_ _)); refine blk_far ?_ NB649_648.out _; (with_reducible repeat (first | refine blk_drewN ?_ _ | refine blk_drew ?_ | refine blk_alloc ?_ _)); refine blk_far ?_ NB649_648.out _; (with_reducible repeat (first | refine blk_drewN ?_ _ | refine blk_drew ?_ | refine blk_alloc ?_ _)); exact BK649.out))⟩; have n4_ : Aside0 (Below w.heap.size w w26) := ⟨(by rw [hw]; exact (by repeat (first | (with_reducible first | exact HB.out | apply below_alloc | apply pw_below_drewN | apply below_drew1 | refine below_set ?_ GE648.out | refine below_set ?_ GE649.out) | exact HB.out)))⟩; clear hw; clear HO653; clear HO656; clear BK648; clear BK649; clear HB; have HO653 := n0_; have HO656 := n1_; have BK648 := n2_; have BK649 := n3_; have HB := n4_; clear n0_ n1_ n2_ n3_ n4_; have hcz27_0 : w26.cell? ⟨gb648, 0, none⟩ = some (.slice Ao23 t651.length co23) := (blk_cell BK648.out 0).trans rfl; have hcz27_1 : w26.cell? ⟨gb648, 1, none⟩ = some (.slice Ao25 t654.length co25) := (blk_cell BK648.out 1).trans rfl; have hcz27_2 : w26.cell? ⟨gb648, 2, none⟩ = some (.int .i64 t657) := (blk_cell BK648.out 2).trans rfl; have hcz27_3 : w26.cell? ⟨gb648, 3, none⟩ = some (.int .i64 t658) := (blk_cell BK648.out 3).trans rfl; have hfz27_0 := blk_frozen BK648.out 0; have hfz27_1 := blk_frozen BK648.out 1; have hfz27_2 := blk_frozen BK648.out 2; have hfz27_3 := blk_frozen BK648.out 3) | ((with_reducible refine gate_store (t := 3) (p := 20) rfl ?_); refine store_event (t := 3) (p := 20) (v := ?vo_w28) (w1 := (w26.setCell ⟨gb648, 3, none⟩ (.int .i64 (wrap64 (t658 + 1))))) ?hg ?ho ?hn ?hr ?_; (case ho => rfl); (case hg => rfl); (case hn => rfl); (case hr => first | (go_simp; done) | (go_simp; rfl)); intro w28 hw; have n0_ : Aside0 (Kd.S k99 99 w28 w.heap.size (fun k_ => some k_ ≠ (.slice Ao25 t654.length co25 : Value).ownBlock) (.slice Ao23 t651.length co23) t651) := ⟨(by rw [hw]; exact (by (with_reducible repeat (first | apply Kd.S_alloc | apply Kd.S_drewN | apply Kd.S_drew)); exact Kd.S_mono (Kd.S_far (p := ⟨gb648, 3, none⟩) (Kd.S_types HO653.out BK648.out (by decide)) (fun _ hk => hk.2) (.int .i64 (wrap64 (t658 + 1)))) (fun _ hk => hk.1)))⟩; have n1_ : Aside0 (Kd.R k74 74 w28 w.heap.size (fun _ => True) (.slice Ao25 t654.length co25) t654) := ⟨(by rw [hw]; exact (by (with_reducible repeat (first | apply Kd.R_alloc | apply Kd.R_drewN | apply Kd.R_drew)); exact Kd.R_mono (Kd.R_far (p := ⟨gb648, 3, none⟩) (Kd.R_types HO656.out BK648.out (by decide)) (fun _ hk => hk.2) (.int .i64 (wrap64 (t658 + 1)))) (fun _ hk => trivial)))⟩; have n2_ : Aside0 (w28.heap[gb648]? = some (.cells #[.slice Ao23 t651.length co23, .slice Ao25 t654.length co25, .int .i64 t657, .int .i64 (wrap64 (t658 + 1))] 27 (0, 0))) := ⟨(by rw [hw]; exact (by (with_reducible repeat (first | refine blk_drewN ?_ _ | refine blk_drew ?_ | refine blk_alloc ?_ _)); refine blk_put (cs := #[.slice Ao23 t651.length co23, .slice Ao25 t654.length co25, .int .i64 t657, .int .i64 t658]) ?_ 3 _ rfl; (with_reducible repeat (first | refine blk_drewN ?_ _ | refine blk_drew ?_ | refine blk_alloc ?_ _)); exact BK648.out))⟩; have n3_ : Aside0 (w28.heap[gb649]? = some (.cells #[.slice none 0 0, .slice none 0 0, .int .i64 0, .int .i64 0] 27 (0, 0))) := ⟨(by rw [hw]; exact (by (with_reducible repeat (first | refine blk_drewN ?_ _ | refine blk_drew ?_ | refine blk_alloc ?_ _)); refine blk_far ?_ NB649_648.out _; (with_reducible repeat (first | refine blk_drewN ?_ _ | refine blk_drew ?_ | refine blk_alloc ?_ _)); exact BK649.out))⟩; have n4_ : Aside0 (Below w.heap.size w w28) := ⟨(by rw [hw]; exact (by repeat (first | (with_reducible first | exact HB.out | apply below_alloc | apply pw_below_drewN | apply below_drew1 | refine below_set ?_ GE648.out | refine below_set ?_ GE649.out) | exact HB.out)))⟩; clear hw; clear HO653; clear HO656; clear BK648; clear BK649; clear HB; have HO653 := n0_; have HO656 := n1_; have BK648 := n2_; have BK649 := n3_; have HB := n4_; clear n0_ n1_ n2_ n3_ n4_; have hcz29_0 : w28.cell? ⟨gb648, 0, none⟩ = some (.slice Ao23 t651.length co23) := (blk_cell BK648.out 0).trans rfl; have hcz29_1 : w28.cell? ⟨gb648, 1, none⟩ = some (.slice Ao25 t654.length co25) := (blk_cell BK648.out 1).trans rfl; have hcz29_2 : w28.cell? ⟨gb648, 2, none⟩ = some (.int .i64 t657) := (blk_cell BK648.out 2).trans rfl; have hcz29_3 : w28.cell? ⟨gb648, 3, none⟩ = some (.int .i64 (wrap64 (t658 + 1))) := (blk_cell BK648.out 3).trans rfl; have hfz29_0 := blk_frozen BK648.out 0; have hfz29_1 := blk_frozen BK648.out 1; have hfz29_2 := blk_frozen BK648.out 2; have hfz29_3 := blk_frozen BK648.out 3) | ((with_reducible refine gate_callee (f := 67) rfl ?_); refine goesL_ (some 24) rfl rfl Try.func67 (by kernel_rfl) rfl #[.slice Ao25 t654.length co25, .slice A1 l1.length c1] rfl (by (try simp only [List.map_toArray, List.map_cons, List.map_nil]); first | done | rfl | (simp only [List.length_drop, List.length_take]; rfl)) ?_; (with_reducible refine (fold_Merge.calls (fun k_ => some k_ = (.slice Ao25 t654.length co25 : Value).ownBlock) _ _ t654 (fun k_ => k_ < w.heap.size) _ _ l1 t659 _ ?side1 ?side2 A19.out).mono ?_); (case side1 => exact Kd.R_V (Kd.R_tight rfl (Kd.R_types (Kd.R_types (Kd.R_apart' (HO656.out) (Kd.S_typed HO653.out) (by decide)) BK648.out (by decide)) BK649.out (by decide)))); (case side2 => exact Kd.V_mk HC1.out (Kd.F_below (Kd.C_F k74_heap HR1.out) (by repeat (first | (with_reducible first | exact HB.out | apply below_alloc | apply pw_below_drewN | apply below_drew1 | refine below_set ?_ GE648.out | refine below_set ?_ GE649.out) | exact HB.out)))); rintro e w30 ⟨v660, rfl, ho0, hb⟩; refine ⟨_, rfl, ?_⟩; have n0_ := Aside0.mk (Kd.S_elder' (by (with_reducible repeat (first | apply Kd.S_alloc | apply Kd.S_drewN | apply Kd.S_drew)); exact HO653.out) (Kd.R_base ho0) hb); have n1_ := Aside0.mk (Kd.R_elder' (by (with_reducible repeat (first | apply Kd.R_alloc | apply Kd.R_drewN | apply Kd.R_drew)); exact HO656.out) (Kd.R_base ho0) hb); have n2_ := Aside0.mk (Kd.R_lower (Kd.R_new' (Kd.R_mono (ok' := fun k_ => True) ho0 (fun _ hk_ => trivial)) (Kd.R_lt (by (with_reducible repeat (first | apply Kd.R_alloc | apply Kd.R_drewN | apply Kd.R_drew)); exact HO656.out))) (below_size (by repeat (first | (with_reducible first | exact HB.out | apply below_alloc | apply pw_below_drewN | apply below_drew1 | refine below_set ?_ GE648.out | refine below_set ?_ GE649.out) | exact HB.out)))); have n3_ := Aside0.mk (blk_below (g := gb648) (o := .cells #[.slice Ao23 t651.length co23, .slice Ao25 t654.length co25, .int .i64 t657, .int .i64 (wrap64 (t658 + 1))] 27 (0, 0)) (by (with_reducible repeat (first | refine blk_drewN ?_ _ | refine blk_drew ?_ | refine blk_alloc ?_ _)); exact BK648.out) hb); have n4_ := Aside0.mk (blk_below (g := gb649) (o := .cells #[.slice none 0 0, .slice none 0 0, .int .i64 0, .int .i64 0] 27 (0, 0)) (by (with_reducible repeat (first | refine blk_drewN ?_ _ | refine blk_drew ?_ | refine blk_alloc ?_ _)); exact BK649.out) hb); have n5_ := Aside0.mk (below_step (by repeat (first | (with_reducible first | exact HB.out | apply below_alloc | apply pw_below_drewN | apply below_drew1 | refine below_set ?_ GE648.out | refine below_set ?_ GE649.out) | exact HB.out)) hb); clear HO653; clear HO656; clear BK648; clear BK649; clear HB; have HO653 := n0_; have HO656 := n1_; have HO661 := n2_; have BK648 := n3_; have BK649 := n4_; have HB := n5_; clear n0_ n1_ n2_ n3_ n4_ n5_; (try clear hb); (try clear hb2); (try clear hk); (try clear hi); (try clear ho0); obtain ⟨Ao31, co31, eo31⟩ := Kd.R_slice HO661.out; subst eo31; have hcz32_0 : w30.cell? ⟨gb648, 0, none⟩ = some (.slice Ao23 t651.length co23) := (blk_cell BK648.out 0).trans rfl; have hcz32_1 : w30.cell? ⟨gb648, 1, none⟩ = some (.slice Ao25 t654.length co25) := (blk_cell BK648.out 1).trans rfl; have hcz32_2 : w30.cell? ⟨gb648, 2, none⟩ = some (.int .i64 t657) := (blk_cell BK648.out 2).trans rfl; have hcz32_3 : w30.cell? ⟨gb648, 3, none⟩ = some (.int .i64 (wrap64 (t658 + 1))) := (blk_cell BK648.out 3).trans rfl; have hfz32_0 := blk_frozen BK648.out 0; have hfz32_1 := blk_frozen BK648.out 1; have hfz32_2 := blk_frozen BK648.out 2; have hfz32_3 := blk_frozen BK648.out 3; have hcz33_0 : w30.cell? ⟨gb649, 0, none⟩ = some (.slice none 0 0) := (blk_cell BK649.out 0).trans rfl; have hcz33_1 : w30.cell? ⟨gb649, 1, none⟩ = some (.slice none 0 0) := (blk_cell BK649.out 1).trans rfl; have hcz33_2 : w30.cell? ⟨gb649, 2, none⟩ = some (.int .i64 0) := (blk_cell BK649.out 2).trans rfl; have hcz33_3 : w30.cell? ⟨gb649, 3, none⟩ = some (.int .i64 0) := (blk_cell BK649.out 3).trans rfl; have hfz33_0 := blk_frozen BK649.out 0; have hfz33_1 := blk_frozen BK649.out 1; have hfz33_2 := blk_frozen BK649.out 2; have hfz33_3 := blk_frozen BK649.out 3))
        refine bodyPost_ret (results_ct rfl _ _ gb649 27 #[.slice Ao23 t651.length co23, .slice Ao31 t659.length co31, .int .i64 t657, .int .i64 (wrap64 (t658 + 1))] (0, 0) _ rfl (by (with_reducible repeat (first | refine blk_drewN ?_ _ | refine blk_drew ?_ | refine blk_alloc ?_ _)); refine blk_put (cs := #[.slice Ao23 t651.length co23, .slice Ao31 t659.length co31, .int .i64 t657, .int .i64 0]) ?_ 3 _ rfl; (with_reducible repeat (first | refine blk_drewN ?_ _ | refine blk_drew ?_ | refine blk_alloc ?_ _)); refine blk_put (cs := #[.slice Ao23 t651.length co23, .slice Ao31 t659.length co31, .int .i64 0, .int .i64 0]) ?_ 2 _ rfl; (with_reducible repeat (first | refine blk_drewN ?_ _ | refine blk_drew ?_ | refine blk_alloc ?_ _)); refine blk_put (cs := #[.slice Ao23 t651.length co23, .slice none 0 0, .int .i64 0, .int .i64 0]) ?_ 1 _ rfl; (with_reducible repeat (first | refine blk_drewN ?_ _ | refine blk_drew ?_ | refine blk_alloc ?_ _)); refine blk_put (cs := #[.slice none 0 0, .slice none 0 0, .int .i64 0, .int .i64 0]) ?_ 0 _ rfl; (with_reducible repeat (first | refine blk_drewN ?_ _ | refine blk_drew ?_ | refine blk_alloc ?_ _)); refine blk_far ?_ NB649_648.out _; (with_reducible repeat (first | refine blk_drewN ?_ _ | refine blk_drew ?_ | refine blk_alloc ?_ _)); exact BK649.out) Try.underlying27 rfl (by kernel_rfl)) rfl ?_
        exact ⟨_, _, by first | rfl | (simp [errW_none, errW_some] <;> rfl) | (simp [*, errW_none, errW_some] <;> rfl), by (with_reducible repeat (first | apply Kd.S_alloc | apply Kd.S_drewN | apply Kd.S_drew)); exact Kd.S_mono (Kd.S_far (p := ⟨gb649, 3, none⟩) (Kd.S_far (p := ⟨gb649, 2, none⟩) (Kd.S_far (p := ⟨gb649, 1, none⟩) (Kd.S_far (p := ⟨gb649, 0, none⟩) (Kd.S_far (p := ⟨gb648, 1, none⟩) (Kd.S_types (Kd.S_types HO653.out BK648.out (by decide)) BK649.out (by decide)) (fun _ hk => hk.1.2) (.slice Ao31 t659.length co31)) (fun _ hk => hk.2) (.slice Ao23 t651.length co23)) (fun _ hk => hk.2) (.slice Ao31 t659.length co31)) (fun _ hk => hk.2) (.int .i64 t657)) (fun _ hk => hk.2) (.int .i64 (wrap64 (t658 + 1)))) (fun _ hk => hk.1.1.2), by (with_reducible repeat (first | apply Kd.R_alloc | apply Kd.R_drewN | apply Kd.R_drew)); exact Kd.R_mono (Kd.R_far (p := ⟨gb649, 3, none⟩) (Kd.R_far (p := ⟨gb649, 2, none⟩) (Kd.R_far (p := ⟨gb649, 1, none⟩) (Kd.R_far (p := ⟨gb649, 0, none⟩) (Kd.R_far (p := ⟨gb648, 1, none⟩) (Kd.R_types (Kd.R_types HO661.out BK648.out (by decide)) BK649.out (by decide)) (fun _ hk => hk.1.2) (.slice Ao31 t659.length co31)) (fun _ hk => hk.2) (.slice Ao23 t651.length co23)) (fun _ hk => hk.2) (.slice Ao31 t659.length co31)) (fun _ hk => hk.2) (.int .i64 t657)) (fun _ hk => hk.2) (.int .i64 (wrap64 (t658 + 1)))) (fun _ hk => trivial), by repeat (first | (with_reducible first | exact HB.out | apply below_alloc | apply pw_below_drewN | apply below_drew1 | refine below_set ?_ GE648.out | refine below_set ?_ GE649.out) | exact HB.out)⟩

end Go.Proofs.Ythdhkoeaadahaaa.P
