-- PACKED by wip/kit/pack.py: what the law's proof uses of Px9 (printed words and texts of this seat)
import Derived.Test.YthdhkoeaadahaaaSPx0
import Derived.Test.YthdhkoeaadahaaaSPx5
import Derived.Test.YthdhkoeaadahaaaSPx8
namespace Go.Proofs.Ythdhkoeaadahaaa.P
open Go.RowKit Go.Proofs.YthdhkoeaadahaaaW.PrintWords Go.Proofs.YthdhkoeaadahaaaW.PrintLast Go.Proofs.YthdhkoeaadahaaaW.PrintMore
attribute [local go_sem] max2_int min2_int max_two min_two max_three min_three max_four min_four
set_option linter.unusedVariables false
set_option linter.unusedSimpArgs false
def queue_Load.l0 : Nat → Int → List (S99) → Int → Int → List (S99) → List (S74) → Int → Int → Option (Int × Int)
 | 0, _, _, _, _, _, _, _, _ => none
 | k + 1, x4, x14, x15, x16, x133000, x133001, x133002, x133003 => if x16 < x15 then (if 0 ≤ x16 then (if x16 < (x14.length : Int) then ((fold_Bytes.f k ((rd_T99 x14 x16).f2)).bind fun t137 => (queue_Load.l0 k (wrap64 (x4 + t137)) x14 x15 (wrap64 (x16 + 1)) x133000 x133001 x133002 x133003)) else (none)) else (none)) else ((queue_tail.f x133000 x133001 x133002 x133003).bind fun t138 => (some (wrap64 (x133003 - t138), x4)))
def queue_Load.f (k : Nat) (l0_0 : List (S99)) (l0_1 : List (S74)) (a0_2 : Int) (a0_3 : Int) : Option (Int × Int) := (queue_Right.f k l0_0 l0_1 a0_2 a0_3).bind fun t133 => (if t133 = true then ((fold_Bytes.f k l0_1).bind fun t134 => (queue_Load.l0 k t134 l0_0 (l0_0.length : Int) 0 l0_0 l0_1 a0_2 a0_3)) else (some (0, 0)))
theorem queue_Load.mono_l : ∀ k, (∀ y0 y1 y2 y3 y4 y5 y6 y7, LeO (queue_Load.l0 k y0 y1 y2 y3 y4 y5 y6 y7) (queue_Load.l0 (k + 1) y0 y1 y2 y3 y4 y5 y6 y7))
 | 0 => fun _ _ _ _ _ _ _ _ r h => by simp [queue_Load.l0] at h
 | k + 1 => by
  have ih0 := queue_Load.mono_l k
  ·intro y0 y1 y2 y3 y4 y5 y6 y7
   unfold queue_Load.l0
   repeat' first
   | (with_reducible exact ih0 _ _ _ _ _ _ _ _)
   | (with_reducible exact fold_Bytes.mono _ _)
   | (with_reducible exact queue_Right.mono _ _ _ _ _)
   | (with_reducible exact LeO.refl _)
   | (with_reducible exact LeO.none _)
   | (with_reducible refine LeO.ite ?_ ?_)
   | (with_reducible refine LeO.bind ?_ (fun _ => ?_))
   | exact ih0 _ _ _ _ _ _ _ _
   | exact fold_Bytes.mono _ _
   | exact queue_Right.mono _ _ _ _ _
   | exact LeO.none _
   | refine LeO.ite ?_ ?_
   | refine LeO.bind ?_ (fun _ => ?_)
theorem queue_Load.mono : ∀ a0 a1 a2 a3 k, LeO (queue_Load.f k a0 a1 a2 a3) (queue_Load.f (k + 1) a0 a1 a2 a3) := by
 intro a0 a1 a2 a3 k
 have ih0 := queue_Load.mono_l k
 unfold queue_Load.f
 repeat' first
   | (with_reducible exact ih0 _ _ _ _ _ _ _ _)
   | (with_reducible exact fold_Bytes.mono _ _)
   | (with_reducible exact queue_Right.mono _ _ _ _ _)
   | (with_reducible exact LeO.refl _)
   | (with_reducible exact LeO.none _)
   | (with_reducible refine LeO.ite ?_ ?_)
   | (with_reducible refine LeO.bind ?_ (fun _ => ?_))
   | exact ih0 _ _ _ _ _ _ _ _
   | exact fold_Bytes.mono _ _
   | exact queue_Right.mono _ _ _ _ _
   | exact LeO.none _
   | refine LeO.ite ?_ ?_
   | refine LeO.bind ?_ (fun _ => ?_)
def queue_Load.T9 : Bool × List (List Nat × List Nat) := (true, [([], []), ([0], [0]), ([], []), ([2], [2]), ([1, 3], [1, 3]), ([], []), ([4, 3, 0, 1, 2, 3, 4], [4]), ([5, 6, 0, 1, 2, 3, 4, 5, 6], [5])])
def queue_Load.B9 : List Nat := [0, 1, 0, 4, 15, 0, 31, 127]
theorem queue_Load.tab9 : rtab .any (opsOf Try.f74 9) = queue_Load.T9 := by kernel_rfl
theorem queue_Load.bits9 : waitsOk queue_Load.T9.2 queue_Load.B9 = true := by kernel_rfl
theorem A0q9_ {p : Prop} (h : p) : Aside0 p := ⟨h⟩
theorem z1q9_ {α : Type} (l : List α) (i : Nat) (a : α) : l.toArray.setIfInBounds i a = (l.set i a).toArray := List.setIfInBounds_toArray l i a
theorem z2q9_ {α : Type} {x : α} {xs : List α} {a : α} : (x :: xs).set 0 a = a :: xs := List.set_cons_zero
theorem z3q9_ {α : Type} {x : α} {xs : List α} {n : Nat} {a : α} : (x :: xs).set (n + 1) a = x :: xs.set n a := List.set_cons_succ
set_option maxHeartbeats 8000000 in
set_option maxRecDepth 100000 in
theorem queue_Load.calls (k : Nat) (A0_0 : Option Addr) (c0_0 : Nat) (l0_0 : List (S99)) (A0_1 : Option Addr) (c0_1 : Nat) (l0_1 : List (S74)) (a0_2 : Int) (a0_3 : Int) (r1 : Int) (r2 : Int) (w : World) (hr0_0 : Kd.C k99 w A0_0 l0_0.length l0_0) (hc0_0 : l0_0.length ≤ c0_0) (hr0_1 : Kd.C k74 w A0_1 l0_1.length l0_1) (hc0_1 : l0_1.length ≤ c0_1) (h : queue_Load.f k l0_0 l0_1 a0_2 a0_3 = some (r1, r2)) :
  Calls Try.prog 74 #[.agg #[.slice A0_0 l0_0.length c0_0, .slice A0_1 l0_1.length c0_1, .int .i64 a0_2, .int .i64 a0_3]] w fun e w' => e = .returned (.tuple #[.int .i64 r1, .int .i64 r2]) ∧ Below w.heap.size w w' := by
 have hu27 := Try.underlying27
 have hu99 := Try.underlying99
 have HR0_0 := A0q9_ hr0_0
 have HC0_0 := A0q9_ hc0_0
 clear hr0_0 hc0_0
 have HR0_1 := A0q9_ hr0_1
 have HC0_1 := A0q9_ hc0_1
 clear hr0_1 hc0_1
 have HB := A0q9_ (Below.refl w.heap.size w)
 have H : ((queue_Right.f k l0_0 l0_1 a0_2 a0_3).bind fun t133 => (if t133 = true then ((fold_Bytes.f k l0_1).bind fun t134 => (queue_Load.l0 k t134 l0_0 (l0_0.length : Int) 0 l0_0 l0_1 a0_2 a0_3)) else (some (0, 0)))) = some (r1, r2) := h
 clear h
 replace H := Option.bind_eq_some_iff.mp H
 obtain ⟨t133, A20, H⟩ := H
 replace H : (if t133 = true then ((fold_Bytes.f k l0_1).bind fun t134 => (queue_Load.l0 k t134 l0_0 (l0_0.length : Int) 0 l0_0 l0_1 a0_2 a0_3)) else (some (0, 0))) = some (r1, r2) := H
 have A2 := A0q9_ A20
 clear A20
 by_cases c3 : t133 = true
 ·subst c3
  have H1 : ((fold_Bytes.f k l0_1).bind fun t134 => (queue_Load.l0 k t134 l0_0 (l0_0.length : Int) 0 l0_0 l0_1 a0_2 a0_3)) = some (r1, r2) := by rw [if_pos rfl] at H; exact H
  clear H
  have H := H1
  clear H1
  replace H := Option.bind_eq_some_iff.mp H
  obtain ⟨t134, A40, H⟩ := H
  replace H : (queue_Load.l0 k t134 l0_0 (l0_0.length : Int) 0 l0_0 l0_1 a0_2 a0_3) = some (r1, r2) := H
  have A4 := A0q9_ A40
  clear A40
  have H' := A0q9_ H
  clear H
  go_enter Try.func74, Try.ntmps74
  go_wp2_with (first | ((with_reducible refine gate_dst (N:=1) rfl ?_); refine box_event ?hg (N:=1) ?hd (cs := #[.slice A0_0 l0_0.length c0_0, .slice A0_1 l0_1.length c0_1, .int .i64 a0_2, .int .i64 a0_3]) (t := 27) ?hr ?_; (case hd => rfl); (case hg => rfl); (case hr => first | (go_simp; done) | (go_simp; rfl)); intro gb132 hg w5 hbox hb; have n0_ := A0q9_ (below_step (by repeat (first | (with_reducible first | exact HB.out | apply below_alloc | apply pw_below_drewN | apply below_drew1) | exact HB.out)) hb); have n1_ := A0q9_ (hbox); have n2_ := A0q9_ ((by rw [hg]; exact (below_size (by repeat (first | (with_reducible first | exact HB.out | apply below_alloc | apply pw_below_drewN | apply below_drew1) | exact HB.out))) : w.heap.size ≤ gb132)); have n3_ := A0q9_ ((by rw [hg]; exact (below_size (by repeat (first | (with_reducible first | exact HB.out | apply below_alloc | apply pw_below_drewN | apply below_drew1) | exact HB.out))) : w.heap.size ≤ gb132)); clear HB; have HB := n0_; have BK132 := n1_; have GW132 := n2_; have GE132 := n3_; clear n0_ n1_ n2_ n3_; clear hb hbox hg; have hcz6_0 : w5.cell? ⟨gb132, 0, none⟩ = some (.slice A0_0 l0_0.length c0_0) := (blk_cell BK132.out 0).trans rfl; have hcz6_1 : w5.cell? ⟨gb132, 1, none⟩ = some (.slice A0_1 l0_1.length c0_1) := (blk_cell BK132.out 1).trans rfl; have hcz6_2 : w5.cell? ⟨gb132, 2, none⟩ = some (.int .i64 a0_2) := (blk_cell BK132.out 2).trans rfl; have hcz6_3 : w5.cell? ⟨gb132, 3, none⟩ = some (.int .i64 a0_3) := (blk_cell BK132.out 3).trans rfl; have hfz6_0 := blk_frozen BK132.out 0; have hfz6_1 := blk_frozen BK132.out 1; have hfz6_2 := blk_frozen BK132.out 2; have hfz6_3 := blk_frozen BK132.out 3) | ((with_reducible refine gate_callee (f := 75) rfl ?_); refine goesL_ (some 8) rfl rfl Try.func75 (by kernel_rfl) rfl #[.agg #[.slice A0_0 l0_0.length c0_0, .slice A0_1 l0_1.length c0_1, .int .i64 a0_2, .int .i64 a0_3]] rfl (by (try simp only [List.map_toArray, List.map_cons, List.map_nil]); first | done | rfl | (simp only [List.length_drop, List.length_take]; rfl)) ?_; (with_reducible refine (queue_Right.calls k _ _ l0_0 _ _ l0_1 a0_2 a0_3 true _ ?side1 ?side2 ?side3 ?side4 A2.out).mono ?_); (case side1 => repeat (first | exact (Kd.C_below HR0_0.out HB.out) | (with_reducible refine Kd.C_alloc ?_ _) | (with_reducible refine Kd.C_drewN ?_ _) | (with_reducible refine Kd.C_drew ?_))); (case side2 => exact HC0_0.out); (case side3 => repeat (first | exact (Kd.C_below HR0_1.out HB.out) | (with_reducible refine Kd.C_alloc ?_ _) | (with_reducible refine Kd.C_drewN ?_ _) | (with_reducible refine Kd.C_drew ?_))); (case side4 => exact HC0_1.out); rintro e w7 ⟨rfl, hb⟩; refine ⟨_, rfl, ?_⟩; have n0_ := A0q9_ (blk_below (g:=gb132) (o:=.cells #[.slice A0_0 l0_0.length c0_0, .slice A0_1 l0_1.length c0_1, .int .i64 a0_2, .int .i64 a0_3] 27 (0, 0)) (by (with_reducible repeat (first | refine blk_drewN ?_ _ | refine blk_drew ?_ | refine blk_alloc ?_ _)); exact BK132.out) hb); have n1_ := A0q9_ (below_step (by repeat (first | (with_reducible first | exact HB.out | apply below_alloc | apply pw_below_drewN | apply below_drew1 | refine below_set ?_ GE132.out) | exact HB.out)) hb); clear BK132; clear HB; have BK132 := n0_; have HB := n1_; clear n0_ n1_; (try clear hb); (try clear hb2); (try clear hk); (try clear hi); have hcz8_0 : w7.cell? ⟨gb132, 0, none⟩ = some (.slice A0_0 l0_0.length c0_0) := (blk_cell BK132.out 0).trans rfl; have hcz8_1 : w7.cell? ⟨gb132, 1, none⟩ = some (.slice A0_1 l0_1.length c0_1) := (blk_cell BK132.out 1).trans rfl; have hcz8_2 : w7.cell? ⟨gb132, 2, none⟩ = some (.int .i64 a0_2) := (blk_cell BK132.out 2).trans rfl; have hcz8_3 : w7.cell? ⟨gb132, 3, none⟩ = some (.int .i64 a0_3) := (blk_cell BK132.out 3).trans rfl; have hfz8_0 := blk_frozen BK132.out 0; have hfz8_1 := blk_frozen BK132.out 1; have hfz8_2 := blk_frozen BK132.out 2; have hfz8_3 := blk_frozen BK132.out 3) | ((with_reducible refine gate_callee (f := 50) rfl ?_); refine goesL_ (some 12) rfl rfl Try.func50 (by kernel_rfl) rfl #[.slice A0_1 l0_1.length c0_1] rfl (by (try simp only [List.map_toArray, List.map_cons, List.map_nil]); first | done | rfl | (simp only [List.length_drop, List.length_take]; rfl)) ?_; (with_reducible refine (fold_Bytes.calls k _ _ l0_1 t134 _ ?side1 ?side2 A4.out).mono ?_); (case side1 => repeat (first | exact (Kd.C_below HR0_1.out HB.out) | (with_reducible refine Kd.C_alloc ?_ _) | (with_reducible refine Kd.C_drewN ?_ _) | (with_reducible refine Kd.C_drew ?_))); (case side2 => exact HC0_1.out); rintro e w9 ⟨rfl, hb⟩; refine ⟨_, rfl, ?_⟩; have n0_ := A0q9_ (blk_below (g:=gb132) (o:=.cells #[.slice A0_0 l0_0.length c0_0, .slice A0_1 l0_1.length c0_1, .int .i64 a0_2, .int .i64 a0_3] 27 (0, 0)) (by (with_reducible repeat (first | refine blk_drewN ?_ _ | refine blk_drew ?_ | refine blk_alloc ?_ _)); exact BK132.out) hb); have n1_ := A0q9_ (below_step (by repeat (first | (with_reducible first | exact HB.out | apply below_alloc | apply pw_below_drewN | apply below_drew1 | refine below_set ?_ GE132.out) | exact HB.out)) hb); clear BK132; clear HB; have BK132 := n0_; have HB := n1_; clear n0_ n1_; (try clear hb); (try clear hb2); (try clear hk); (try clear hi); have hcz10_0 : w9.cell? ⟨gb132, 0, none⟩ = some (.slice A0_0 l0_0.length c0_0) := (blk_cell BK132.out 0).trans rfl; have hcz10_1 : w9.cell? ⟨gb132, 1, none⟩ = some (.slice A0_1 l0_1.length c0_1) := (blk_cell BK132.out 1).trans rfl; have hcz10_2 : w9.cell? ⟨gb132, 2, none⟩ = some (.int .i64 a0_2) := (blk_cell BK132.out 2).trans rfl; have hcz10_3 : w9.cell? ⟨gb132, 3, none⟩ = some (.int .i64 a0_3) := (blk_cell BK132.out 3).trans rfl; have hfz10_0 := blk_frozen BK132.out 0; have hfz10_1 := blk_frozen BK132.out 1; have hfz10_2 := blk_frozen BK132.out 2; have hfz10_3 := blk_frozen BK132.out 3))
  go_loopg [4, 16] k (fun kq v4 v16 w' => ∃ (x4_1 : Int) (x16_1 : Int), v4 = .int .i64 x4_1 ∧ v16 = .int .i64 x16_1 ∧ Aside0 (queue_Load.l0 kq x4_1 l0_0 (l0_0.length : Int) x16_1 l0_0 l0_1 a0_2 a0_3 = some (r1, r2)) ∧ Aside0 (kq ≤ k) ∧ Aside0 (w'.heap[gb132]? = some (.cells #[(.slice A0_0 l0_0.length c0_0), (.slice A0_1 l0_1.length c0_1), .int .i64 a0_2, .int .i64 a0_3] 27 (0, 0))) ∧ Aside0 (Below w.heap.size w w'))
  case atStart => exact ⟨(t134), (0), (by first | rfl | (simp; done) | (simp [*]; done)), (by first | rfl | (simp; done) | (simp [*]; done)), H', ⟨Nat.le_refl _⟩, ⟨by (with_reducible repeat (first | refine blk_drewN ?_ _ | refine blk_drew ?_ | refine blk_alloc ?_ _)); exact BK132.out⟩, ⟨by repeat (first | (with_reducible first | exact HB.out | apply below_alloc | apply pw_below_drewN | apply below_drew1 | refine below_set ?_ GE132.out) | exact HB.out)⟩⟩
  case round =>
   clear H'
   try clear p2
   try clear c3
   try clear c5
   try clear c7
   try clear hcz10_0
   try clear hcz10_1
   try clear hcz10_2
   try clear hcz10_3
   try clear hcz6_0
   try clear hcz6_1
   try clear hcz6_2
   try clear hcz6_3
   try clear hcz8_0
   try clear hcz8_1
   try clear hcz8_2
   try clear hcz8_3
   try clear hfz10_0
   try clear hfz10_1
   try clear hfz10_2
   try clear hfz10_3
   try clear hfz6_0
   try clear hfz6_1
   try clear hfz6_2
   try clear hfz6_3
   try clear hfz8_0
   try clear hfz8_1
   try clear hfz8_2
   try clear hfz8_3
   obtain ⟨x4_1, x16_1, rfl, rfl, HA, HK1, BK132, HB⟩ := hrel
   cases gk with
   | zero => exact absurd HA.out (by simp [queue_Load.l0])
   | succ k1 =>
    have H := HA.out
    clear HA
    simp only [queue_Load.l0] at H
    by_cases c11 : x16_1 < (l0_0.length : Int)
    ·rw [if_pos c11] at H
     have c11b0 : decide (x16_1 < (l0_0.length : Int)) = true := decide_eq_true c11
     clear c11
     by_cases c12 : 0 ≤ x16_1
     ·rw [if_pos c12] at H
      have c12b0 : decide (0 ≤ x16_1) = true := decide_eq_true c12
      clear c12
      by_cases c13 : x16_1 < (l0_0.length : Int)
      ·rw [if_pos c13] at H
       have c13b0 : decide (x16_1 < (l0_0.length : Int)) = true := decide_eq_true c13
       clear c13
       replace H := Option.bind_eq_some_iff.mp H
       obtain ⟨t137, A140, H⟩ := H
       replace H : (queue_Load.l0 k1 (wrap64 (x4_1 + t137)) l0_0 (l0_0.length : Int) (wrap64 (x16_1 + 1)) l0_0 l0_1 a0_2 a0_3) = some (r1, r2) := H
       have A14 := A0q9_ A140
       clear A140
       have H' := A0q9_ H
       clear H
       have p135 : 0 ≤ (x16_1 : Int) := of_decide_eq_true (by first | (with_reducible assumption) | assumption)
       have q135 : x16_1 < (l0_0.length : Int) := of_decide_eq_true (by first | (with_reducible assumption) | assumption)
       obtain ⟨ad135, A135_2, c135_2, e135, hx135_0, hx135_1, hx135_2, hl135_2, hi135_2⟩ := at_T99 HR0_0.out x16_1 p135 q135
       cases e135
       replace hx135_0 := (HB.out.cell (World.block_lt_of_cell? w _ hx135_0)).trans hx135_0
       replace hx135_1 := (HB.out.cell (World.block_lt_of_cell? w _ hx135_1)).trans hx135_1
       replace hx135_2 := (HB.out.cell (World.block_lt_of_cell? w _ hx135_2)).trans hx135_2
       have HR135_2 := A0q9_ hi135_2
       have HC135_2 := A0q9_ hl135_2
       clear hi135_2 hl135_2
       replace p135 := eq_true p135
       replace q135 := eq_true q135
       go_wp2_with (first | ((with_reducible refine gate_dst (N:=6) rfl ?_); refine box_event ?hg (N:=6) ?hd (cs := #[.int .i64 0, .int .i64 0, .slice none 0 0]) (t := 99) ?hr ?_; (case hd => rfl); (case hg => rfl); (case hr => first | (go_simp; done) | (go_simp; rfl)); intro gb136 hg w15 hbox hb; have n0_ := A0q9_ (blk_below (g:=gb132) (o:=.cells #[.slice (some ad135) l0_0.length c0_0, .slice A0_1 l0_1.length c0_1, .int .i64 a0_2, .int .i64 a0_3] 27 (0, 0)) (by (with_reducible repeat (first | refine blk_drewN ?_ _ | refine blk_drew ?_ | refine blk_alloc ?_ _)); exact BK132.out) hb); have n1_ := A0q9_ (below_step (by repeat (first | (with_reducible first | exact HB.out | apply below_alloc | apply pw_below_drewN | apply below_drew1 | refine below_set ?_ GE132.out) | exact HB.out)) hb); have n2_ := A0q9_ (hbox); have n3_ := A0q9_ ((by rw [hg]; exact (below_size (by repeat (first | (with_reducible first | exact HB.out | apply below_alloc | apply pw_below_drewN | apply below_drew1 | refine below_set ?_ GE132.out) | exact HB.out))) : w.heap.size ≤ gb136)); have n4_ := A0q9_ ((by rw [hg]; exact (below_size (by repeat (first | (with_reducible first | exact HB.out | apply below_alloc | apply pw_below_drewN | apply below_drew1 | refine below_set ?_ GE132.out) | exact HB.out))) : w.heap.size ≤ gb136)); have n5_ := A0q9_ ((by rw [hg]; exact Nat.ne_of_lt (blk_lt (g:=gb132) (o:=.cells #[.slice (some ad135) l0_0.length c0_0, .slice A0_1 l0_1.length c0_1, .int .i64 a0_2, .int .i64 a0_3] 27 (0, 0)) (by (with_reducible repeat (first | refine blk_drewN ?_ _ | refine blk_drew ?_ | refine blk_alloc ?_ _)); exact BK132.out)) : gb132 ≠ gb136)); have n6_ := A0q9_ ((by rw [hg]; exact Nat.ne_of_gt (blk_lt (g:=gb132) (o:=.cells #[.slice (some ad135) l0_0.length c0_0, .slice A0_1 l0_1.length c0_1, .int .i64 a0_2, .int .i64 a0_3] 27 (0, 0)) (by (with_reducible repeat (first | refine blk_drewN ?_ _ | refine blk_drew ?_ | refine blk_alloc ?_ _)); exact BK132.out)) : gb136 ≠ gb132)); clear BK132; clear HB; have BK132 := n0_; have HB := n1_; have BK136 := n2_; have GW136 := n3_; have GE136 := n4_; have NB132_136 := n5_; have NB136_132 := n6_; clear n0_ n1_ n2_ n3_ n4_ n5_ n6_; clear hb hbox hg; have hnb16 := NB136_132.out; have hnc16 := NB132_136.out; have hcz17_0 : w15.cell? ⟨gb136, 0, none⟩ = some (.int .i64 0) := (blk_cell BK136.out 0).trans rfl; have hcz17_1 : w15.cell? ⟨gb136, 1, none⟩ = some (.int .i64 0) := (blk_cell BK136.out 1).trans rfl; have hcz17_2 : w15.cell? ⟨gb136, 2, none⟩ = some (.slice none 0 0) := (blk_cell BK136.out 2).trans rfl; have hfz17_0 := blk_frozen BK136.out 0; have hfz17_1 := blk_frozen BK136.out 1; have hfz17_2 := blk_frozen BK136.out 2) | ((with_reducible refine gate_callee (f := 50) rfl ?_); refine goesL_ (some 23) rfl rfl Try.func50 (by kernel_rfl) rfl #[.slice A135_2 ((rd_T99 l0_0 x16_1).f2).length c135_2] rfl (by (try simp only [List.map_toArray, List.map_cons, List.map_nil]); first | done | rfl | (simp only [List.length_drop, List.length_take]; rfl)) ?_; (with_reducible refine (fold_Bytes.calls k1 _ _ ((rd_T99 l0_0 x16_1).f2) t137 _ ?side1 ?side2 A14.out).mono ?_); (case side1 => exact Kd.C_below HR135_2.out (by repeat (first | (with_reducible first | exact HB.out | apply below_alloc | apply pw_below_drewN | apply below_drew1 | refine below_set ?_ GE132.out | refine below_set ?_ GE136.out) | exact HB.out))); (case side2 => exact HC135_2.out); rintro e w18 ⟨rfl, hb⟩; refine ⟨_, rfl, ?_⟩; have n0_ := A0q9_ (blk_below (g:=gb132) (o:=.cells #[.slice (some ad135) l0_0.length c0_0, .slice A0_1 l0_1.length c0_1, .int .i64 a0_2, .int .i64 a0_3] 27 (0, 0)) (by (with_reducible repeat (first | refine blk_drewN ?_ _ | refine blk_drew ?_ | refine blk_alloc ?_ _)); refine blk_far ?_ NB132_136.out _; (with_reducible repeat (first | refine blk_drewN ?_ _ | refine blk_drew ?_ | refine blk_alloc ?_ _)); refine blk_far ?_ NB132_136.out _; (with_reducible repeat (first | refine blk_drewN ?_ _ | refine blk_drew ?_ | refine blk_alloc ?_ _)); refine blk_far ?_ NB132_136.out _; (with_reducible repeat (first | refine blk_drewN ?_ _ | refine blk_drew ?_ | refine blk_alloc ?_ _)); exact BK132.out) hb); have n1_ := A0q9_ (blk_below (g:=gb136) (o:=.cells #[.int .i64 ((rd_T99 l0_0 x16_1).f0), .int .i64 ((rd_T99 l0_0 x16_1).f1), .slice A135_2 ((rd_T99 l0_0 x16_1).f2).length c135_2] 99 (0, 0)) (by (with_reducible repeat (first | refine blk_drewN ?_ _ | refine blk_drew ?_ | refine blk_alloc ?_ _)); refine blk_put (cs := #[.int .i64 ((rd_T99 l0_0 x16_1).f0), .int .i64 ((rd_T99 l0_0 x16_1).f1), .slice none 0 0]) ?_ 2 _ rfl; (with_reducible repeat (first | refine blk_drewN ?_ _ | refine blk_drew ?_ | refine blk_alloc ?_ _)); refine blk_put (cs := #[.int .i64 ((rd_T99 l0_0 x16_1).f0), .int .i64 0, .slice none 0 0]) ?_ 1 _ rfl; (with_reducible repeat (first | refine blk_drewN ?_ _ | refine blk_drew ?_ | refine blk_alloc ?_ _)); refine blk_put (cs := #[.int .i64 0, .int .i64 0, .slice none 0 0]) ?_ 0 _ rfl; (with_reducible repeat (first | refine blk_drewN ?_ _ | refine blk_drew ?_ | refine blk_alloc ?_ _)); exact BK136.out) hb); have n2_ := A0q9_ (below_step (by repeat (first | (with_reducible first | exact HB.out | apply below_alloc | apply pw_below_drewN | apply below_drew1 | refine below_set ?_ GE132.out | refine below_set ?_ GE136.out) | exact HB.out)) hb); clear BK132; clear BK136; clear HB; have BK132 := n0_; have BK136 := n1_; have HB := n2_; clear n0_ n1_ n2_; (try clear hb); (try clear hb2); (try clear hk); (try clear hi)))
       go_roundg k1
       case measure => have := HK1.out; omega
       case rel => exact ⟨(wrap64 (x4_1 + t137)), (wrap64 (x16_1 + 1)), (by first | rfl | (simp; done) | (simp [*]; done)), (by first | rfl | (simp; done) | (simp [*]; done)), H', ⟨by have := HK1.out; omega⟩, ⟨by (with_reducible repeat (first | refine blk_drewN ?_ _ | refine blk_drew ?_ | refine blk_alloc ?_ _)); exact BK132.out⟩, ⟨by repeat (first | (with_reducible first | exact HB.out | apply below_alloc | apply pw_below_drewN | apply below_drew1 | refine below_set ?_ GE132.out | refine below_set ?_ GE136.out) | exact HB.out)⟩⟩
      ·rw [if_neg c13] at H
       exact absurd H (by simp)
     ·rw [if_neg c12] at H
      exact absurd H (by simp)
    ·rw [if_neg c11] at H
     have c11b0 : decide (x16_1 < (l0_0.length : Int)) = false := decide_eq_false c11
     clear c11
     replace H := Option.bind_eq_some_iff.mp H
     obtain ⟨t138, A190, H⟩ := H
     replace H : (some (wrap64 (a0_3 - t138), x4_1)) = some (r1, r2) := H
     have A19 := A0q9_ A190
     clear A190
     simp only [Option.some.injEq, Prod.mk.injEq] at H
     obtain ⟨rfl, rfl⟩ := H
     try go_wp2
     have n0_ := A0q9_ (blk_drew BK132.out)
     have n1_ := A0q9_ (below_drew1 HB.out)
     clear BK132
     clear HB
     have BK132 := n0_
     have HB := n1_
     clear n0_ n1_
     refine start_ (n := 8) (S := fun w' => w'.cell? ⟨gb132, 0, none⟩ = some (.slice A0_0 l0_0.length c0_0) ∧ w'.cell? ⟨gb132, 1, none⟩ = some (.slice A0_1 l0_1.length c0_1) ∧ w'.cell? ⟨gb132, 2, none⟩ = some (.int .i64 a0_2) ∧ w'.cell? ⟨gb132, 3, none⟩ = some (.int .i64 a0_3)) (ds := []) #[false, false, false, false, false, false, false, false] (by kernel_rfl) rfl rfl ⟨(blk_cell BK132.out 0).trans rfl, (blk_cell BK132.out 1).trans rfl, (blk_cell BK132.out 2).trans rfl, (blk_cell BK132.out 3).trans rfl⟩ (fun hHeld => ?_); refine with_tabW queue_Load.tab9 queue_Load.bits9 (fun HT_ HW_ => ?_)
     generalize wr.drew = w20 at BK132 HB hHeld ⊢
     refine pure_ (i:=0) (N:=some 26) (v:=?_) (a':=?_) #[true, false, false, false, false, false, false, false] rfl rfl (any_of HT_.out (by kernel_rfl)) (fun _ _ _ h => h) (Or.inl ⟨by rfl, ?_⟩) ?_ ?_
     rotate_left
     ·intro w'
      go_simp
      with_reducible rfl
     rotate_left
     ·simp only [Act.put, z1q9_, z2q9_, z3q9_, i64_w, i32_w]
      rfl
     refine pure_ (i:=5) (N:=some 31) (v:=?_) (a':=?_) #[true, false, false, false, false, true, false, false] rfl rfl (any_of HT_.out (by kernel_rfl)) (fun _ _ _ h => h) (Or.inl ⟨by rfl, ?_⟩) ?_ ?_
     rotate_left
     ·intro w'
      go_simp
      with_reducible rfl
     rotate_left
     ·simp only [Act.put, z1q9_, z2q9_, z3q9_, i64_w, i32_w]
      rfl
     refine take_ (i:=1) (N:=some 27) (v:=?_) (a':=?_) #[true, true, false, false, false, true, false, false] rfl rfl (take_ofW HT_.out HW_.out (by kernel_rfl)) (fun _ _ _ h => h) (Or.inl ⟨by rfl, ?_⟩) hHeld ?_ ?_
     rotate_left
     ·rintro w' ⟨s0, s1, s2, s3⟩
      go_simp
      with_reducible rfl
     rotate_left
     ·simp only [Act.put, z1q9_, z2q9_, z3q9_, i64_w, i32_w]
      rfl
     refine take_ (i:=2) (N:=some 28) (v:=?_) (a':=?_) #[true, true, true, false, false, true, false, false] rfl rfl (take_ofW HT_.out HW_.out (by kernel_rfl)) (fun _ _ _ h => h) (Or.inl ⟨by rfl, ?_⟩) hHeld ?_ ?_
     rotate_left
     ·rintro w' ⟨s0, s1, s2, s3⟩
      go_simp
      with_reducible rfl
     rotate_left
     ·simp only [Act.put, z1q9_, z2q9_, z3q9_, i64_w, i32_w]
      rfl
     refine one_ (i:=3) (N:=some 29) #[true, true, true, true, false, true, false, false] rfl rfl (one_of HT_.out (by kernel_rfl)) (by decide) (fun K hK => ?_)
     refine goes_ Try.func117 (by kernel_rfl) rfl #[.agg #[.slice A0_0 l0_0.length c0_0, .slice A0_1 l0_1.length c0_1, .int .i64 a0_2, .int .i64 a0_3]] (by rfl) rfl rfl (by (try simp only [List.map_toArray, List.map_cons, List.map_nil]); first | done | rfl | (simp only [List.length_drop, List.length_take]; rfl)) ?_
     with_reducible refine (queue_tail.calls _ _ l0_0 _ _ l0_1 a0_2 a0_3 t138 _ ?side1 ?side2 ?side3 ?side4 A19.out).mono ?_
     (case side1 => repeat (first | exact (Kd.C_below HR0_0.out HB.out) | (with_reducible refine Kd.C_alloc ?_ _) | (with_reducible refine Kd.C_drewN ?_ _) | (with_reducible refine Kd.C_drew ?_)))
     (case side2 => exact HC0_0.out)
     (case side3 => repeat (first | exact (Kd.C_below HR0_1.out HB.out) | (with_reducible refine Kd.C_alloc ?_ _) | (with_reducible refine Kd.C_drewN ?_ _) | (with_reducible refine Kd.C_drew ?_)))
     (case side4 => exact HC0_1.out)
     rintro e w21 ⟨rfl, hb⟩
     refine ⟨_, rfl, ?_⟩
     have n0_ := A0q9_ (blk_below (g:=gb132) (o:=.cells #[.slice A0_0 l0_0.length c0_0, .slice A0_1 l0_1.length c0_1, .int .i64 a0_2, .int .i64 a0_3] 27 (0, 0)) (by (with_reducible repeat (first | refine blk_drewN ?_ _ | refine blk_drew ?_ | refine blk_alloc ?_ _)); exact BK132.out) hb)
     have n1_ := A0q9_ (below_step (by repeat (first | (with_reducible first | exact HB.out | apply below_alloc | apply pw_below_drewN | apply below_drew1 | refine below_set ?_ GE132.out) | exact HB.out)) hb)
     clear BK132
     clear HB
     have BK132 := n0_
     have HB := n1_
     clear n0_ n1_
     (try clear hb)
     (try clear hb2)
     (try clear hk)
     (try clear hi)
     refine hK.out _ _ ⟨(blk_cell BK132.out 0).trans rfl, (blk_cell BK132.out 1).trans rfl, (blk_cell BK132.out 2).trans rfl, (blk_cell BK132.out 3).trans rfl⟩ (fun hHeld => ?_)
     clear hK K
     refine norm_ (a' := ?_) ?_ ?_
     rotate_left
     ·show Act.put _ (some 29) _ = _
      simp only [Act.put, z1q9_, z2q9_, z3q9_, i64_w, i32_w]
      rfl
     refine pure_ (i:=4) (N:=some 30) (v:=?_) (a':=?_) #[true, true, true, true, true, true, false, false] rfl rfl (any_of HT_.out (by kernel_rfl)) (fun _ _ _ h => h) (Or.inl ⟨by rfl, ?_⟩) ?_ ?_
     rotate_left
     ·intro w'
      go_simp
      with_reducible rfl
     rotate_left
     ·simp only [Act.put, z1q9_, z2q9_, z3q9_, i64_w, i32_w]
      rfl
     refine pure_ (i:=6) (N:=some 2) (v:=?_) (a':=?_) #[true, true, true, true, true, true, true, false] rfl rfl (any_of HT_.out (by kernel_rfl)) (fun _ _ _ h => h) (Or.inl ⟨by rfl, ?_⟩) ?_ ?_
     rotate_left
     ·intro w'
      go_simp
      with_reducible rfl
     rotate_left
     ·simp only [Act.put, z1q9_, z2q9_, z3q9_, i64_w, i32_w]
      rfl
     refine pure_ (i:=7) (N:=some 3) (v:=?_) (a':=?_) #[true, true, true, true, true, true, true, true] rfl rfl (any_of HT_.out (by kernel_rfl)) (fun _ _ _ h => h) (Or.inl ⟨by rfl, ?_⟩) ?_ ?_
     rotate_left
     ·intro w'
      go_simp
      with_reducible rfl
     rotate_left
     ·simp only [Act.put, z1q9_, z2q9_, z3q9_, i64_w, i32_w]
      rfl
     refine done_ (done_of HT_.out (by kernel_rfl)) ?_
     try go_wp2
     go_ret2
     exact ⟨by first | rfl | (simp [errW_none, errW_some] <;> rfl) | (simp [*, errW_none, errW_some] <;> rfl), by repeat (first | (with_reducible first | exact HB.out | apply below_alloc | apply pw_below_drewN | apply below_drew1 | refine below_set ?_ GE132.out) | exact HB.out)⟩
 ·replace c3 := Bool.eq_false_iff.mpr c3
  subst c3
  have H1 : (some (0, 0)) = some (r1, r2) := by rw [if_neg (show ¬ (false = true) by decide)] at H; exact H
  clear H
  have H := H1
  clear H1
  simp only [Option.some.injEq, Prod.mk.injEq] at H
  obtain ⟨rfl, rfl⟩ := H
  go_enter Try.func74, Try.ntmps74
  go_wp2_with (first | ((with_reducible refine gate_dst (N:=1) rfl ?_); refine box_event ?hg (N:=1) ?hd (cs := #[.slice A0_0 l0_0.length c0_0, .slice A0_1 l0_1.length c0_1, .int .i64 a0_2, .int .i64 a0_3]) (t := 27) ?hr ?_; (case hd => rfl); (case hg => rfl); (case hr => first | (go_simp; done) | (go_simp; rfl)); intro gb132 hg w22 hbox hb; have n0_ := A0q9_ (below_step (by repeat (first | (with_reducible first | exact HB.out | apply below_alloc | apply pw_below_drewN | apply below_drew1) | exact HB.out)) hb); have n1_ := A0q9_ (hbox); have n2_ := A0q9_ ((by rw [hg]; exact (below_size (by repeat (first | (with_reducible first | exact HB.out | apply below_alloc | apply pw_below_drewN | apply below_drew1) | exact HB.out))) : w.heap.size ≤ gb132)); have n3_ := A0q9_ ((by rw [hg]; exact (below_size (by repeat (first | (with_reducible first | exact HB.out | apply below_alloc | apply pw_below_drewN | apply below_drew1) | exact HB.out))) : w.heap.size ≤ gb132)); clear HB; have HB := n0_; have BK132 := n1_; have GW132 := n2_; have GE132 := n3_; clear n0_ n1_ n2_ n3_; clear hb hbox hg; have hcz23_0 : w22.cell? ⟨gb132, 0, none⟩ = some (.slice A0_0 l0_0.length c0_0) := (blk_cell BK132.out 0).trans rfl; have hcz23_1 : w22.cell? ⟨gb132, 1, none⟩ = some (.slice A0_1 l0_1.length c0_1) := (blk_cell BK132.out 1).trans rfl; have hcz23_2 : w22.cell? ⟨gb132, 2, none⟩ = some (.int .i64 a0_2) := (blk_cell BK132.out 2).trans rfl; have hcz23_3 : w22.cell? ⟨gb132, 3, none⟩ = some (.int .i64 a0_3) := (blk_cell BK132.out 3).trans rfl; have hfz23_0 := blk_frozen BK132.out 0; have hfz23_1 := blk_frozen BK132.out 1; have hfz23_2 := blk_frozen BK132.out 2; have hfz23_3 := blk_frozen BK132.out 3) | ((with_reducible refine gate_callee (f := 75) rfl ?_); refine goesL_ (some 8) rfl rfl Try.func75 (by kernel_rfl) rfl #[.agg #[.slice A0_0 l0_0.length c0_0, .slice A0_1 l0_1.length c0_1, .int .i64 a0_2, .int .i64 a0_3]] rfl (by (try simp only [List.map_toArray, List.map_cons, List.map_nil]); first | done | rfl | (simp only [List.length_drop, List.length_take]; rfl)) ?_; (with_reducible refine (queue_Right.calls k _ _ l0_0 _ _ l0_1 a0_2 a0_3 false _ ?side1 ?side2 ?side3 ?side4 A2.out).mono ?_); (case side1 => repeat (first | exact (Kd.C_below HR0_0.out HB.out) | (with_reducible refine Kd.C_alloc ?_ _) | (with_reducible refine Kd.C_drewN ?_ _) | (with_reducible refine Kd.C_drew ?_))); (case side2 => exact HC0_0.out); (case side3 => repeat (first | exact (Kd.C_below HR0_1.out HB.out) | (with_reducible refine Kd.C_alloc ?_ _) | (with_reducible refine Kd.C_drewN ?_ _) | (with_reducible refine Kd.C_drew ?_))); (case side4 => exact HC0_1.out); rintro e w24 ⟨rfl, hb⟩; refine ⟨_, rfl, ?_⟩; have n0_ := A0q9_ (blk_below (g:=gb132) (o:=.cells #[.slice A0_0 l0_0.length c0_0, .slice A0_1 l0_1.length c0_1, .int .i64 a0_2, .int .i64 a0_3] 27 (0, 0)) (by (with_reducible repeat (first | refine blk_drewN ?_ _ | refine blk_drew ?_ | refine blk_alloc ?_ _)); exact BK132.out) hb); have n1_ := A0q9_ (below_step (by repeat (first | (with_reducible first | exact HB.out | apply below_alloc | apply pw_below_drewN | apply below_drew1 | refine below_set ?_ GE132.out) | exact HB.out)) hb); clear BK132; clear HB; have BK132 := n0_; have HB := n1_; clear n0_ n1_; (try clear hb); (try clear hb2); (try clear hk); (try clear hi)))
  go_ret2
  exact ⟨by first | rfl | (simp [errW_none, errW_some] <;> rfl) | (simp [*, errW_none, errW_some] <;> rfl), by repeat (first | (with_reducible first | exact HB.out | apply below_alloc | apply pw_below_drewN | apply below_drew1 | refine below_set ?_ GE132.out) | exact HB.out)⟩
def queue_Tail.f (k : Nat) (l0_0 : List (S99)) (l0_1 : List (S74)) (a0_2 : Int) (a0_3 : Int) : Option (Int) := (queue_Right.f k l0_0 l0_1 a0_2 a0_3).bind fun t715 => (if t715 = true then ((queue_tail.f l0_0 l0_1 a0_2 a0_3).bind fun t716 => (some t716)) else (some 0))
set_option maxHeartbeats 8000000 in
set_option maxRecDepth 100000 in
theorem queue_Tail.calls (k : Nat) (A0_0 : Option Addr) (c0_0 : Nat) (l0_0 : List (S99)) (A0_1 : Option Addr) (c0_1 : Nat) (l0_1 : List (S74)) (a0_2 : Int) (a0_3 : Int) (r : Int) (w : World) (hr0_0 : Kd.C k99 w A0_0 l0_0.length l0_0) (hc0_0 : l0_0.length ≤ c0_0) (hr0_1 : Kd.C k74 w A0_1 l0_1.length l0_1) (hc0_1 : l0_1.length ≤ c0_1) (h : queue_Tail.f k l0_0 l0_1 a0_2 a0_3 = some r) :
  Calls Try.prog 76 #[.agg #[.slice A0_0 l0_0.length c0_0, .slice A0_1 l0_1.length c0_1, .int .i64 a0_2, .int .i64 a0_3]] w fun e w' => e = .returned (.int .i64 r) ∧ Below w.heap.size w w' := by
 have hu27 := Try.underlying27
 have HR0_0 := A0q9_ hr0_0
 have HC0_0 := A0q9_ hc0_0
 clear hr0_0 hc0_0
 have HR0_1 := A0q9_ hr0_1
 have HC0_1 := A0q9_ hc0_1
 clear hr0_1 hc0_1
 have HB := A0q9_ (Below.refl w.heap.size w)
 have H : ((queue_Right.f k l0_0 l0_1 a0_2 a0_3).bind fun t715 => (if t715 = true then ((queue_tail.f l0_0 l0_1 a0_2 a0_3).bind fun t716 => (some t716)) else (some 0))) = some r := h
 clear h
 replace H := Option.bind_eq_some_iff.mp H
 obtain ⟨t715, A20, H⟩ := H
 replace H : (if t715 = true then ((queue_tail.f l0_0 l0_1 a0_2 a0_3).bind fun t716 => (some t716)) else (some 0)) = some r := H
 have A2 := A0q9_ A20
 clear A20
 by_cases c3 : t715 = true
 ·subst c3
  have H1 : ((queue_tail.f l0_0 l0_1 a0_2 a0_3).bind fun t716 => (some t716)) = some r := by rw [if_pos rfl] at H; exact H
  clear H
  have H := H1
  clear H1
  replace H := Option.bind_eq_some_iff.mp H
  obtain ⟨t716, A40, H⟩ := H
  replace H : (some t716) = some r := H
  have A4 := A0q9_ A40
  clear A40
  obtain rfl := Option.some.inj H
  go_enter Try.func76, Try.ntmps76
  go_wp2_with (first | ((with_reducible refine gate_dst (N:=1) rfl ?_); refine box_event ?hg (N:=1) ?hd (cs := #[.slice A0_0 l0_0.length c0_0, .slice A0_1 l0_1.length c0_1, .int .i64 a0_2, .int .i64 a0_3]) (t := 27) ?hr ?_; (case hd => rfl); (case hg => rfl); (case hr => first | (go_simp; done) | (go_simp; rfl)); intro gb714 hg w5 hbox hb; have n0_ := A0q9_ (below_step (by repeat (first | (with_reducible first | exact HB.out | apply below_alloc | apply pw_below_drewN | apply below_drew1) | exact HB.out)) hb); have n1_ := A0q9_ (hbox); have n2_ := A0q9_ ((by rw [hg]; exact (below_size (by repeat (first | (with_reducible first | exact HB.out | apply below_alloc | apply pw_below_drewN | apply below_drew1) | exact HB.out))) : w.heap.size ≤ gb714)); have n3_ := A0q9_ ((by rw [hg]; exact (below_size (by repeat (first | (with_reducible first | exact HB.out | apply below_alloc | apply pw_below_drewN | apply below_drew1) | exact HB.out))) : w.heap.size ≤ gb714)); clear HB; have HB := n0_; have BK714 := n1_; have GW714 := n2_; have GE714 := n3_; clear n0_ n1_ n2_ n3_; clear hb hbox hg; have hcz6_0 : w5.cell? ⟨gb714, 0, none⟩ = some (.slice A0_0 l0_0.length c0_0) := (blk_cell BK714.out 0).trans rfl; have hcz6_1 : w5.cell? ⟨gb714, 1, none⟩ = some (.slice A0_1 l0_1.length c0_1) := (blk_cell BK714.out 1).trans rfl; have hcz6_2 : w5.cell? ⟨gb714, 2, none⟩ = some (.int .i64 a0_2) := (blk_cell BK714.out 2).trans rfl; have hcz6_3 : w5.cell? ⟨gb714, 3, none⟩ = some (.int .i64 a0_3) := (blk_cell BK714.out 3).trans rfl; have hfz6_0 := blk_frozen BK714.out 0; have hfz6_1 := blk_frozen BK714.out 1; have hfz6_2 := blk_frozen BK714.out 2; have hfz6_3 := blk_frozen BK714.out 3) | ((with_reducible refine gate_callee (f := 75) rfl ?_); refine goesL_ (some 4) rfl rfl Try.func75 (by kernel_rfl) rfl #[.agg #[.slice A0_0 l0_0.length c0_0, .slice A0_1 l0_1.length c0_1, .int .i64 a0_2, .int .i64 a0_3]] rfl (by (try simp only [List.map_toArray, List.map_cons, List.map_nil]); first | done | rfl | (simp only [List.length_drop, List.length_take]; rfl)) ?_; (with_reducible refine (queue_Right.calls k _ _ l0_0 _ _ l0_1 a0_2 a0_3 true _ ?side1 ?side2 ?side3 ?side4 A2.out).mono ?_); (case side1 => repeat (first | exact (Kd.C_below HR0_0.out HB.out) | (with_reducible refine Kd.C_alloc ?_ _) | (with_reducible refine Kd.C_drewN ?_ _) | (with_reducible refine Kd.C_drew ?_))); (case side2 => exact HC0_0.out); (case side3 => repeat (first | exact (Kd.C_below HR0_1.out HB.out) | (with_reducible refine Kd.C_alloc ?_ _) | (with_reducible refine Kd.C_drewN ?_ _) | (with_reducible refine Kd.C_drew ?_))); (case side4 => exact HC0_1.out); rintro e w7 ⟨rfl, hb⟩; refine ⟨_, rfl, ?_⟩; have n0_ := A0q9_ (blk_below (g:=gb714) (o:=.cells #[.slice A0_0 l0_0.length c0_0, .slice A0_1 l0_1.length c0_1, .int .i64 a0_2, .int .i64 a0_3] 27 (0, 0)) (by (with_reducible repeat (first | refine blk_drewN ?_ _ | refine blk_drew ?_ | refine blk_alloc ?_ _)); exact BK714.out) hb); have n1_ := A0q9_ (below_step (by repeat (first | (with_reducible first | exact HB.out | apply below_alloc | apply pw_below_drewN | apply below_drew1 | refine below_set ?_ GE714.out) | exact HB.out)) hb); clear BK714; clear HB; have BK714 := n0_; have HB := n1_; clear n0_ n1_; (try clear hb); (try clear hb2); (try clear hk); (try clear hi); have hcz8_0 : w7.cell? ⟨gb714, 0, none⟩ = some (.slice A0_0 l0_0.length c0_0) := (blk_cell BK714.out 0).trans rfl; have hcz8_1 : w7.cell? ⟨gb714, 1, none⟩ = some (.slice A0_1 l0_1.length c0_1) := (blk_cell BK714.out 1).trans rfl; have hcz8_2 : w7.cell? ⟨gb714, 2, none⟩ = some (.int .i64 a0_2) := (blk_cell BK714.out 2).trans rfl; have hcz8_3 : w7.cell? ⟨gb714, 3, none⟩ = some (.int .i64 a0_3) := (blk_cell BK714.out 3).trans rfl; have hfz8_0 := blk_frozen BK714.out 0; have hfz8_1 := blk_frozen BK714.out 1; have hfz8_2 := blk_frozen BK714.out 2; have hfz8_3 := blk_frozen BK714.out 3) | ((with_reducible refine gate_callee (f := 117) rfl ?_); refine goesL_ (some 7) rfl rfl Try.func117 (by kernel_rfl) rfl #[.agg #[.slice A0_0 l0_0.length c0_0, .slice A0_1 l0_1.length c0_1, .int .i64 a0_2, .int .i64 a0_3]] rfl (by (try simp only [List.map_toArray, List.map_cons, List.map_nil]); first | done | rfl | (simp only [List.length_drop, List.length_take]; rfl)) ?_; (with_reducible refine (queue_tail.calls _ _ l0_0 _ _ l0_1 a0_2 a0_3 t716 _ ?side1 ?side2 ?side3 ?side4 A4.out).mono ?_); (case side1 => repeat (first | exact (Kd.C_below HR0_0.out HB.out) | (with_reducible refine Kd.C_alloc ?_ _) | (with_reducible refine Kd.C_drewN ?_ _) | (with_reducible refine Kd.C_drew ?_))); (case side2 => exact HC0_0.out); (case side3 => repeat (first | exact (Kd.C_below HR0_1.out HB.out) | (with_reducible refine Kd.C_alloc ?_ _) | (with_reducible refine Kd.C_drewN ?_ _) | (with_reducible refine Kd.C_drew ?_))); (case side4 => exact HC0_1.out); rintro e w9 ⟨rfl, hb⟩; refine ⟨_, rfl, ?_⟩; have n0_ := A0q9_ (blk_below (g:=gb714) (o:=.cells #[.slice A0_0 l0_0.length c0_0, .slice A0_1 l0_1.length c0_1, .int .i64 a0_2, .int .i64 a0_3] 27 (0, 0)) (by (with_reducible repeat (first | refine blk_drewN ?_ _ | refine blk_drew ?_ | refine blk_alloc ?_ _)); exact BK714.out) hb); have n1_ := A0q9_ (below_step (by repeat (first | (with_reducible first | exact HB.out | apply below_alloc | apply pw_below_drewN | apply below_drew1 | refine below_set ?_ GE714.out) | exact HB.out)) hb); clear BK714; clear HB; have BK714 := n0_; have HB := n1_; clear n0_ n1_; (try clear hb); (try clear hb2); (try clear hk); (try clear hi)))
  go_ret
  exact ⟨by first | rfl | (simp [errW_none, errW_some] <;> rfl) | (simp [*, errW_none, errW_some] <;> rfl), by repeat (first | (with_reducible first | exact HB.out | apply below_alloc | apply pw_below_drewN | apply below_drew1 | refine below_set ?_ GE714.out) | exact HB.out)⟩
 ·replace c3 := Bool.eq_false_iff.mpr c3
  subst c3
  have H1 : (some 0) = some r := by rw [if_neg (show ¬ (false = true) by decide)] at H; exact H
  clear H
  have H := H1
  clear H1
  obtain rfl := Option.some.inj H
  go_enter Try.func76, Try.ntmps76
  go_wp2_with (first | ((with_reducible refine gate_dst (N:=1) rfl ?_); refine box_event ?hg (N:=1) ?hd (cs := #[.slice A0_0 l0_0.length c0_0, .slice A0_1 l0_1.length c0_1, .int .i64 a0_2, .int .i64 a0_3]) (t := 27) ?hr ?_; (case hd => rfl); (case hg => rfl); (case hr => first | (go_simp; done) | (go_simp; rfl)); intro gb714 hg w10 hbox hb; have n0_ := A0q9_ (below_step (by repeat (first | (with_reducible first | exact HB.out | apply below_alloc | apply pw_below_drewN | apply below_drew1) | exact HB.out)) hb); have n1_ := A0q9_ (hbox); have n2_ := A0q9_ ((by rw [hg]; exact (below_size (by repeat (first | (with_reducible first | exact HB.out | apply below_alloc | apply pw_below_drewN | apply below_drew1) | exact HB.out))) : w.heap.size ≤ gb714)); have n3_ := A0q9_ ((by rw [hg]; exact (below_size (by repeat (first | (with_reducible first | exact HB.out | apply below_alloc | apply pw_below_drewN | apply below_drew1) | exact HB.out))) : w.heap.size ≤ gb714)); clear HB; have HB := n0_; have BK714 := n1_; have GW714 := n2_; have GE714 := n3_; clear n0_ n1_ n2_ n3_; clear hb hbox hg; have hcz11_0 : w10.cell? ⟨gb714, 0, none⟩ = some (.slice A0_0 l0_0.length c0_0) := (blk_cell BK714.out 0).trans rfl; have hcz11_1 : w10.cell? ⟨gb714, 1, none⟩ = some (.slice A0_1 l0_1.length c0_1) := (blk_cell BK714.out 1).trans rfl; have hcz11_2 : w10.cell? ⟨gb714, 2, none⟩ = some (.int .i64 a0_2) := (blk_cell BK714.out 2).trans rfl; have hcz11_3 : w10.cell? ⟨gb714, 3, none⟩ = some (.int .i64 a0_3) := (blk_cell BK714.out 3).trans rfl; have hfz11_0 := blk_frozen BK714.out 0; have hfz11_1 := blk_frozen BK714.out 1; have hfz11_2 := blk_frozen BK714.out 2; have hfz11_3 := blk_frozen BK714.out 3) | ((with_reducible refine gate_callee (f := 75) rfl ?_); refine goesL_ (some 4) rfl rfl Try.func75 (by kernel_rfl) rfl #[.agg #[.slice A0_0 l0_0.length c0_0, .slice A0_1 l0_1.length c0_1, .int .i64 a0_2, .int .i64 a0_3]] rfl (by (try simp only [List.map_toArray, List.map_cons, List.map_nil]); first | done | rfl | (simp only [List.length_drop, List.length_take]; rfl)) ?_; (with_reducible refine (queue_Right.calls k _ _ l0_0 _ _ l0_1 a0_2 a0_3 false _ ?side1 ?side2 ?side3 ?side4 A2.out).mono ?_); (case side1 => repeat (first | exact (Kd.C_below HR0_0.out HB.out) | (with_reducible refine Kd.C_alloc ?_ _) | (with_reducible refine Kd.C_drewN ?_ _) | (with_reducible refine Kd.C_drew ?_))); (case side2 => exact HC0_0.out); (case side3 => repeat (first | exact (Kd.C_below HR0_1.out HB.out) | (with_reducible refine Kd.C_alloc ?_ _) | (with_reducible refine Kd.C_drewN ?_ _) | (with_reducible refine Kd.C_drew ?_))); (case side4 => exact HC0_1.out); rintro e w12 ⟨rfl, hb⟩; refine ⟨_, rfl, ?_⟩; have n0_ := A0q9_ (blk_below (g:=gb714) (o:=.cells #[.slice A0_0 l0_0.length c0_0, .slice A0_1 l0_1.length c0_1, .int .i64 a0_2, .int .i64 a0_3] 27 (0, 0)) (by (with_reducible repeat (first | refine blk_drewN ?_ _ | refine blk_drew ?_ | refine blk_alloc ?_ _)); exact BK714.out) hb); have n1_ := A0q9_ (below_step (by repeat (first | (with_reducible first | exact HB.out | apply below_alloc | apply pw_below_drewN | apply below_drew1 | refine below_set ?_ GE714.out) | exact HB.out)) hb); clear BK714; clear HB; have BK714 := n0_; have HB := n1_; clear n0_ n1_; (try clear hb); (try clear hb2); (try clear hk); (try clear hi)))
  go_ret
  exact ⟨by first | rfl | (simp [errW_none, errW_some] <;> rfl) | (simp [*, errW_none, errW_some] <;> rfl), by repeat (first | (with_reducible first | exact HB.out | apply below_alloc | apply pw_below_drewN | apply below_drew1 | refine below_set ?_ GE714.out) | exact HB.out)⟩
end Go.Proofs.Ythdhkoeaadahaaa.P
