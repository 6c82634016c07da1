-- PACKED by wip/kit/pack.py: what the law's proof uses of Px90 (printed words and texts of this seat)
import Derived.Test.YthdhkoeaadahaaaSPx0
import Derived.Test.YthdhkoeaadahaaaSPx11
import Derived.Test.YthdhkoeaadahaaaSPx8
namespace Go.Proofs.Ythdhkoeaadahaaa.P
open Go.RowKit Go.Proofs.YthdhkoeaadahaaaW.PrintWords Go.Proofs.YthdhkoeaadahaaaW.PrintLast Go.Proofs.YthdhkoeaadahaaaW.PrintMore
attribute [local go_sem] max2_int min2_int max_two min_two max_three min_three max_four min_four
set_option linter.unusedVariables false
set_option linter.unusedSimpArgs false
def queue_All.l0 : Nat → List (S74) → List (S99) → Int → Int → List (S99) → List (S74) → Int → Int → Option ((List (S74)))
 | 0, _, _, _, _, _, _, _, _ => none
 | k + 1, x3, x10, x11, x12, x882000, x882001, x882002, x882003 => if x12 < x11 then (if 0 ≤ x12 then (if x12 < (x10.length : Int) then ((fold_Merge.f x3 ((rd_T99 x10 x12).f2)).bind fun t885 => (queue_All.l0 k t885 x10 x11 (wrap64 (x12 + 1)) x882000 x882001 x882002 x882003)) else (none)) else (none)) else ((fold_Merge.f x3 x882001).bind fun t888 => (some t888))
def queue_All.f (k : Nat) (l0_0 : List (S99)) (l0_1 : List (S74)) (a0_2 : Int) (a0_3 : Int) : Option ((List (S74))) := (queue_Right.f k l0_0 l0_1 a0_2 a0_3).bind fun t882 => (if t882 = true then (queue_All.l0 k ([] : List (S74)) l0_0 (l0_0.length : Int) 0 l0_0 l0_1 a0_2 a0_3) else (some ([] : List (S74))))
theorem A0q90_ {p : Prop} (h : p) : Aside0 p := ⟨h⟩
theorem z1q90_ {α : Type} (l : List α) (i : Nat) (a : α) : l.toArray.setIfInBounds i a = (l.set i a).toArray := List.setIfInBounds_toArray l i a
theorem z2q90_ {α : Type} {x : α} {xs : List α} {a : α} : (x :: xs).set 0 a = a :: xs := List.set_cons_zero
theorem z3q90_ {α : Type} {x : α} {xs : List α} {n : Nat} {a : α} : (x :: xs).set (n + 1) a = x :: xs.set n a := List.set_cons_succ
set_option maxHeartbeats 8000000 in
set_option maxRecDepth 100000 in
theorem queue_All.calls (k : Nat) (A0_0 : Option Addr) (c0_0 : Nat) (l0_0 : List (S99)) (A0_1 : Option Addr) (c0_1 : Nat) (l0_1 : List (S74)) (a0_2 : Int) (a0_3 : Int) (r : List (S74)) (w : World) (hr0_0 : Kd.C k99 w A0_0 l0_0.length l0_0) (hc0_0 : l0_0.length ≤ c0_0) (hr0_1 : Kd.C k74 w A0_1 l0_1.length l0_1) (hc0_1 : l0_1.length ≤ c0_1) (h : queue_All.f k l0_0 l0_1 a0_2 a0_3 = some r) :
  Calls Try.prog 82 #[.agg #[.slice A0_0 l0_0.length c0_0, .slice A0_1 l0_1.length c0_1, .int .i64 a0_2, .int .i64 a0_3]] w fun e w' => ∃ v0_ : Value, e = .returned (v0_) ∧ Kd.R k74 74 w' w.heap.size (fun _ => True) v0_ r ∧ Below w.heap.size w w' := by
 have hu27 := Try.underlying27
 have hu99 := Try.underlying99
 have HR0_0 := A0q90_ hr0_0
 have HC0_0 := A0q90_ hc0_0
 clear hr0_0 hc0_0
 have HR0_1 := A0q90_ hr0_1
 have HC0_1 := A0q90_ hc0_1
 clear hr0_1 hc0_1
 have HB := A0q90_ (Below.refl w.heap.size w)
 have H : ((queue_Right.f k l0_0 l0_1 a0_2 a0_3).bind fun t882 => (if t882 = true then (queue_All.l0 k ([] : List (S74)) l0_0 (l0_0.length : Int) 0 l0_0 l0_1 a0_2 a0_3) else (some ([] : List (S74))))) = some r := h
 clear h
 replace H := Option.bind_eq_some_iff.mp H
 obtain ⟨t882, A20, H⟩ := H
 replace H : (if t882 = true then (queue_All.l0 k ([] : List (S74)) l0_0 (l0_0.length : Int) 0 l0_0 l0_1 a0_2 a0_3) else (some ([] : List (S74)))) = some r := H
 have A2 := A0q90_ A20
 clear A20
 by_cases c3 : t882 = true
 ·subst c3
  have H1 : (queue_All.l0 k ([] : List (S74)) l0_0 (l0_0.length : Int) 0 l0_0 l0_1 a0_2 a0_3) = some r := by rw [if_pos rfl] at H; exact H
  clear H
  have H := H1
  clear H1
  have H' := A0q90_ H
  clear H
  go_enter Try.func82, Try.ntmps82
  go_wp2_with (first | ((with_reducible refine gate_dst (N:=1) rfl ?_); refine box_event ?hg (N:=1) ?hd (cs := #[.slice A0_0 l0_0.length c0_0, .slice A0_1 l0_1.length c0_1, .int .i64 a0_2, .int .i64 a0_3]) (t := 27) ?hr ?_; (case hd => rfl); (case hg => rfl); (case hr => first | (go_simp; done) | (go_simp; rfl)); intro gb881 hg w4 hbox hb; have n0_ := A0q90_ (below_step (by repeat (first | (with_reducible first | exact HB.out | apply below_alloc | apply pw_below_drewN | apply below_drew1) | exact HB.out)) hb); have n1_ := A0q90_ (hbox); have n2_ := A0q90_ ((by rw [hg]; exact (below_size (by repeat (first | (with_reducible first | exact HB.out | apply below_alloc | apply pw_below_drewN | apply below_drew1) | exact HB.out))) : w.heap.size ≤ gb881)); have n3_ := A0q90_ ((by rw [hg]; exact (below_size (by repeat (first | (with_reducible first | exact HB.out | apply below_alloc | apply pw_below_drewN | apply below_drew1) | exact HB.out))) : w.heap.size ≤ gb881)); clear HB; have HB := n0_; have BK881 := n1_; have GW881 := n2_; have GE881 := n3_; clear n0_ n1_ n2_ n3_; clear hb hbox hg; have hcz5_0 : w4.cell? ⟨gb881, 0, none⟩ = some (.slice A0_0 l0_0.length c0_0) := (blk_cell BK881.out 0).trans rfl; have hcz5_1 : w4.cell? ⟨gb881, 1, none⟩ = some (.slice A0_1 l0_1.length c0_1) := (blk_cell BK881.out 1).trans rfl; have hcz5_2 : w4.cell? ⟨gb881, 2, none⟩ = some (.int .i64 a0_2) := (blk_cell BK881.out 2).trans rfl; have hcz5_3 : w4.cell? ⟨gb881, 3, none⟩ = some (.int .i64 a0_3) := (blk_cell BK881.out 3).trans rfl; have hfz5_0 := blk_frozen BK881.out 0; have hfz5_1 := blk_frozen BK881.out 1; have hfz5_2 := blk_frozen BK881.out 2; have hfz5_3 := blk_frozen BK881.out 3) | ((with_reducible refine gate_callee (f := 75) rfl ?_); refine goesL_ (some 7) rfl rfl Try.func75 (by kernel_rfl) rfl #[.agg #[.slice A0_0 l0_0.length c0_0, .slice A0_1 l0_1.length c0_1, .int .i64 a0_2, .int .i64 a0_3]] rfl (by (try simp only [List.map_toArray, List.map_cons, List.map_nil]); first | done | rfl | (simp only [List.length_drop, List.length_take]; rfl)) ?_; (with_reducible refine (queue_Right.calls k _ _ l0_0 _ _ l0_1 a0_2 a0_3 true _ ?side1 ?side2 ?side3 ?side4 A2.out).mono ?_); (case side1 => repeat (first | exact (Kd.C_below HR0_0.out HB.out) | (with_reducible refine Kd.C_alloc ?_ _) | (with_reducible refine Kd.C_drewN ?_ _) | (with_reducible refine Kd.C_drew ?_))); (case side2 => exact HC0_0.out); (case side3 => repeat (first | exact (Kd.C_below HR0_1.out HB.out) | (with_reducible refine Kd.C_alloc ?_ _) | (with_reducible refine Kd.C_drewN ?_ _) | (with_reducible refine Kd.C_drew ?_))); (case side4 => exact HC0_1.out); rintro e w6 ⟨rfl, hb⟩; refine ⟨_, rfl, ?_⟩; have n0_ := A0q90_ (blk_below (g:=gb881) (o:=.cells #[.slice A0_0 l0_0.length c0_0, .slice A0_1 l0_1.length c0_1, .int .i64 a0_2, .int .i64 a0_3] 27 (0, 0)) (by (with_reducible repeat (first | refine blk_drewN ?_ _ | refine blk_drew ?_ | refine blk_alloc ?_ _)); exact BK881.out) hb); have n1_ := A0q90_ (below_step (by repeat (first | (with_reducible first | exact HB.out | apply below_alloc | apply pw_below_drewN | apply below_drew1 | refine below_set ?_ GE881.out) | exact HB.out)) hb); clear BK881; clear HB; have BK881 := n0_; have HB := n1_; clear n0_ n1_; (try clear hb); (try clear hb2); (try clear hk); (try clear hi); have hcz7_0 : w6.cell? ⟨gb881, 0, none⟩ = some (.slice A0_0 l0_0.length c0_0) := (blk_cell BK881.out 0).trans rfl; have hcz7_1 : w6.cell? ⟨gb881, 1, none⟩ = some (.slice A0_1 l0_1.length c0_1) := (blk_cell BK881.out 1).trans rfl; have hcz7_2 : w6.cell? ⟨gb881, 2, none⟩ = some (.int .i64 a0_2) := (blk_cell BK881.out 2).trans rfl; have hcz7_3 : w6.cell? ⟨gb881, 3, none⟩ = some (.int .i64 a0_3) := (blk_cell BK881.out 3).trans rfl; have hfz7_0 := blk_frozen BK881.out 0; have hfz7_1 := blk_frozen BK881.out 1; have hfz7_2 := blk_frozen BK881.out 2; have hfz7_3 := blk_frozen BK881.out 3))
  go_loopg [3, 12] k (fun kq v3 v12 w' => ∃ (x3_1 : List (S74)) (x12_1 : Int), v12 = .int .i64 x12_1 ∧ Aside0 (queue_All.l0 kq x3_1 l0_0 (l0_0.length : Int) x12_1 l0_0 l0_1 a0_2 a0_3 = some r) ∧ Aside0 (kq ≤ k) ∧ Aside0 (Kd.R k74 74 w' w.heap.size (fun _ => True) v3 x3_1) ∧ Aside0 (w'.heap[gb881]? = some (.cells #[(.slice A0_0 l0_0.length c0_0), (.slice A0_1 l0_1.length c0_1), .int .i64 a0_2, .int .i64 a0_3] 27 (0, 0))) ∧ Aside0 (Below w.heap.size w w'))
  case atStart => exact ⟨(([] : List (S74))), (0), (by first | rfl | (simp; done) | (simp [*]; done)), H', ⟨Nat.le_refl _⟩, ⟨by first | exact Kd.R_nil _ _ _ _ _ | exact Kd.N_nil _ _ _ _ _ | exact Kd.V_nil _ _ _ _ _ | exact Kd.Q_nil _ _ _ _ _ | exact Kd.S_nil _ _ _ _ _⟩, ⟨by (with_reducible repeat (first | refine blk_drewN ?_ _ | refine blk_drew ?_ | refine blk_alloc ?_ _)); exact BK881.out⟩, ⟨by repeat (first | (with_reducible first | exact HB.out | apply below_alloc | apply pw_below_drewN | apply below_drew1 | refine below_set ?_ GE881.out) | exact HB.out)⟩⟩
  case round =>
   clear H'
   try clear p2
   try clear c3
   try clear c7
   try clear hcz5_0
   try clear hcz5_1
   try clear hcz5_2
   try clear hcz5_3
   try clear hcz7_0
   try clear hcz7_1
   try clear hcz7_2
   try clear hcz7_3
   try clear hfz5_0
   try clear hfz5_1
   try clear hfz5_2
   try clear hfz5_3
   try clear hfz7_0
   try clear hfz7_1
   try clear hfz7_2
   try clear hfz7_3
   obtain ⟨x3_1, x12_1, rfl, HA, HK1, HO_3, BK881, HB⟩ := hrel
   cases gk with
   | zero => exact absurd HA.out (by simp [queue_All.l0])
   | succ k1 =>
    have H := HA.out
    clear HA
    simp only [queue_All.l0] at H
    by_cases c8 : x12_1 < (l0_0.length : Int)
    ·rw [if_pos c8] at H
     have c8b0 : decide (x12_1 < (l0_0.length : Int)) = true := decide_eq_true c8
     clear c8
     by_cases c9 : 0 ≤ x12_1
     ·rw [if_pos c9] at H
      have c9b0 : decide (0 ≤ x12_1) = true := decide_eq_true c9
      clear c9
      by_cases c10 : x12_1 < (l0_0.length : Int)
      ·rw [if_pos c10] at H
       have c10b0 : decide (x12_1 < (l0_0.length : Int)) = true := decide_eq_true c10
       clear c10
       replace H := Option.bind_eq_some_iff.mp H
       obtain ⟨t885, A110, H⟩ := H
       replace H : (queue_All.l0 k1 t885 l0_0 (l0_0.length : Int) (wrap64 (x12_1 + 1)) l0_0 l0_1 a0_2 a0_3) = some r := H
       have A11 := A0q90_ A110
       clear A110
       have H' := A0q90_ H
       clear H
       have p883 : 0 ≤ (x12_1 : Int) := of_decide_eq_true (by first | (with_reducible assumption) | assumption)
       have q883 : x12_1 < (l0_0.length : Int) := of_decide_eq_true (by first | (with_reducible assumption) | assumption)
       obtain ⟨ad883, A883_2, c883_2, e883, hx883_0, hx883_1, hx883_2, hl883_2, hi883_2⟩ := at_T99 HR0_0.out x12_1 p883 q883
       cases e883
       replace hx883_0 := (HB.out.cell (World.block_lt_of_cell? w _ hx883_0)).trans hx883_0
       replace hx883_1 := (HB.out.cell (World.block_lt_of_cell? w _ hx883_1)).trans hx883_1
       replace hx883_2 := (HB.out.cell (World.block_lt_of_cell? w _ hx883_2)).trans hx883_2
       have HR883_2 := A0q90_ hi883_2
       have HC883_2 := A0q90_ hl883_2
       clear hi883_2 hl883_2
       replace p883 := eq_true p883
       replace q883 := eq_true q883
       go_wp2_with (first | ((with_reducible refine gate_dst (N:=5) rfl ?_); refine box_event ?hg (N:=5) ?hd (cs := #[.int .i64 0, .int .i64 0, .slice none 0 0]) (t := 99) ?hr ?_; (case hd => rfl); (case hg => rfl); (case hr => first | (go_simp; done) | (go_simp; rfl)); intro gb884 hg w12 hbox hb; have n0_ := A0q90_ (Kd.R_below (by (with_reducible repeat (first | apply Kd.R_alloc | apply Kd.R_drewN | apply Kd.R_drew)); exact HO_3.out) hb); have n1_ := A0q90_ (blk_below (g:=gb881) (o:=.cells #[.slice (some ad883) l0_0.length c0_0, .slice A0_1 l0_1.length c0_1, .int .i64 a0_2, .int .i64 a0_3] 27 (0, 0)) (by (with_reducible repeat (first | refine blk_drewN ?_ _ | refine blk_drew ?_ | refine blk_alloc ?_ _)); exact BK881.out) hb); have n2_ := A0q90_ (below_step (by repeat (first | (with_reducible first | exact HB.out | apply below_alloc | apply pw_below_drewN | apply below_drew1 | refine below_set ?_ GE881.out) | exact HB.out)) hb); have n3_ := A0q90_ (hbox); have n4_ := A0q90_ ((by rw [hg]; exact (below_size (by repeat (first | (with_reducible first | exact HB.out | apply below_alloc | apply pw_below_drewN | apply below_drew1 | refine below_set ?_ GE881.out) | exact HB.out))) : w.heap.size ≤ gb884)); have n5_ := A0q90_ ((by rw [hg]; exact (below_size (by repeat (first | (with_reducible first | exact HB.out | apply below_alloc | apply pw_below_drewN | apply below_drew1 | refine below_set ?_ GE881.out) | exact HB.out))) : w.heap.size ≤ gb884)); have n6_ := A0q90_ ((by rw [hg]; exact Nat.ne_of_lt (blk_lt (g:=gb881) (o:=.cells #[.slice (some ad883) l0_0.length c0_0, .slice A0_1 l0_1.length c0_1, .int .i64 a0_2, .int .i64 a0_3] 27 (0, 0)) (by (with_reducible repeat (first | refine blk_drewN ?_ _ | refine blk_drew ?_ | refine blk_alloc ?_ _)); exact BK881.out)) : gb881 ≠ gb884)); have n7_ := A0q90_ ((by rw [hg]; exact Nat.ne_of_gt (blk_lt (g:=gb881) (o:=.cells #[.slice (some ad883) l0_0.length c0_0, .slice A0_1 l0_1.length c0_1, .int .i64 a0_2, .int .i64 a0_3] 27 (0, 0)) (by (with_reducible repeat (first | refine blk_drewN ?_ _ | refine blk_drew ?_ | refine blk_alloc ?_ _)); exact BK881.out)) : gb884 ≠ gb881)); clear HO_3; clear BK881; clear HB; have HO_3 := n0_; have BK881 := n1_; have HB := n2_; have BK884 := n3_; have GW884 := n4_; have GE884 := n5_; have NB881_884 := n6_; have NB884_881 := n7_; clear n0_ n1_ n2_ n3_ n4_ n5_ n6_ n7_; clear hb hbox hg; have hnb13 := NB884_881.out; have hnc13 := NB881_884.out; have hcz14_0 : w12.cell? ⟨gb884, 0, none⟩ = some (.int .i64 0) := (blk_cell BK884.out 0).trans rfl; have hcz14_1 : w12.cell? ⟨gb884, 1, none⟩ = some (.int .i64 0) := (blk_cell BK884.out 1).trans rfl; have hcz14_2 : w12.cell? ⟨gb884, 2, none⟩ = some (.slice none 0 0) := (blk_cell BK884.out 2).trans rfl; have hfz14_0 := blk_frozen BK884.out 0; have hfz14_1 := blk_frozen BK884.out 1; have hfz14_2 := blk_frozen BK884.out 2) | ((with_reducible refine gate_store (t := 99) (p := 5) rfl ?_); refine store_event (t := 99) (p := 5) (v := ?vo_w15) (w1 := (((w12.setCell ⟨gb884, 0, none⟩ (.int .i64 ((rd_T99 l0_0 x12_1).f0))).setCell ⟨gb884, 1, none⟩ (.int .i64 ((rd_T99 l0_0 x12_1).f1))).setCell ⟨gb884, 2, none⟩ (.slice A883_2 ((rd_T99 l0_0 x12_1).f2).length c883_2))) ?hg ?ho ?hn ?hr ?_; (case ho => rfl); (case hg => rfl); (case hn => rfl); (case hr => first | (go_simp; done) | (go_simp; rfl)); intro w15 hw; have n0_ : Aside0 (Kd.R k74 74 w15 w.heap.size (fun _ => True) u3 x3_1) := ⟨(by rw [hw]; exact (by (with_reducible repeat (first | apply Kd.R_alloc | apply Kd.R_drewN | apply Kd.R_drew)); exact Kd.R_mono (Kd.R_far (p := ⟨gb884, 2, none⟩) (Kd.R_far (p := ⟨gb884, 1, none⟩) (Kd.R_far (p := ⟨gb884, 0, none⟩) (Kd.R_types HO_3.out BK884.out (by decide)) (fun _ hk => hk.2) (.int .i64 ((rd_T99 l0_0 x12_1).f0))) (fun _ hk => hk.2) (.int .i64 ((rd_T99 l0_0 x12_1).f1))) (fun _ hk => hk.2) (.slice A883_2 ((rd_T99 l0_0 x12_1).f2).length c883_2)) (fun _ hk => trivial)))⟩; have n1_ : Aside0 (w15.heap[gb881]? = some (.cells #[.slice (some ad883) l0_0.length c0_0, .slice A0_1 l0_1.length c0_1, .int .i64 a0_2, .int .i64 a0_3] 27 (0, 0))) := ⟨(by rw [hw]; exact (by (with_reducible repeat (first | refine blk_drewN ?_ _ | refine blk_drew ?_ | refine blk_alloc ?_ _)); refine blk_far ?_ NB881_884.out _; (with_reducible repeat (first | refine blk_drewN ?_ _ | refine blk_drew ?_ | refine blk_alloc ?_ _)); refine blk_far ?_ NB881_884.out _; (with_reducible repeat (first | refine blk_drewN ?_ _ | refine blk_drew ?_ | refine blk_alloc ?_ _)); refine blk_far ?_ NB881_884.out _; (with_reducible repeat (first | refine blk_drewN ?_ _ | refine blk_drew ?_ | refine blk_alloc ?_ _)); exact BK881.out))⟩; have n2_ : Aside0 (w15.heap[gb884]? = some (.cells #[.int .i64 ((rd_T99 l0_0 x12_1).f0), .int .i64 ((rd_T99 l0_0 x12_1).f1), .slice A883_2 ((rd_T99 l0_0 x12_1).f2).length c883_2] 99 (0, 0))) := ⟨(by rw [hw]; exact (by (with_reducible repeat (first | refine blk_drewN ?_ _ | refine blk_drew ?_ | refine blk_alloc ?_ _)); refine blk_put (cs := #[.int .i64 ((rd_T99 l0_0 x12_1).f0), .int .i64 ((rd_T99 l0_0 x12_1).f1), .slice none 0 0]) ?_ 2 _ rfl; (with_reducible repeat (first | refine blk_drewN ?_ _ | refine blk_drew ?_ | refine blk_alloc ?_ _)); refine blk_put (cs := #[.int .i64 ((rd_T99 l0_0 x12_1).f0), .int .i64 0, .slice none 0 0]) ?_ 1 _ rfl; (with_reducible repeat (first | refine blk_drewN ?_ _ | refine blk_drew ?_ | refine blk_alloc ?_ _)); refine blk_put (cs := #[.int .i64 0, .int .i64 0, .slice none 0 0]) ?_ 0 _ rfl; (with_reducible repeat (first | refine blk_drewN ?_ _ | refine blk_drew ?_ | refine blk_alloc ?_ _)); exact BK884.out))⟩; have n3_ : Aside0 (Below w.heap.size w w15) := ⟨(by rw [hw]; exact (by repeat (first | (with_reducible first | exact HB.out | apply below_alloc | apply pw_below_drewN | apply below_drew1 | refine below_set ?_ GE881.out | refine below_set ?_ GE884.out) | exact HB.out)))⟩; clear hw; clear HO_3; clear BK881; clear BK884; clear HB; have HO_3 := n0_; have BK881 := n1_; have BK884 := n2_; have HB := n3_; clear n0_ n1_ n2_ n3_; have hcz16_0 : w15.cell? ⟨gb884, 0, none⟩ = some (.int .i64 ((rd_T99 l0_0 x12_1).f0)) := (blk_cell BK884.out 0).trans rfl; have hcz16_1 : w15.cell? ⟨gb884, 1, none⟩ = some (.int .i64 ((rd_T99 l0_0 x12_1).f1)) := (blk_cell BK884.out 1).trans rfl; have hcz16_2 : w15.cell? ⟨gb884, 2, none⟩ = some (.slice A883_2 ((rd_T99 l0_0 x12_1).f2).length c883_2) := (blk_cell BK884.out 2).trans rfl; have hfz16_0 := blk_frozen BK884.out 0; have hfz16_1 := blk_frozen BK884.out 1; have hfz16_2 := blk_frozen BK884.out 2; obtain ⟨Ao17, co17, eo17⟩ := Kd.R_slice HO_3.out; subst eo17) | ((with_reducible refine gate_callee (f := 67) rfl ?_); refine goesL_ (some 19) rfl rfl Try.func67 (by kernel_rfl) rfl #[.slice Ao17 x3_1.length co17, .slice A883_2 ((rd_T99 l0_0 x12_1).f2).length c883_2] rfl (by (try simp only [List.map_toArray, List.map_cons, List.map_nil]); first | done | rfl | (simp only [List.length_drop, List.length_take]; rfl)) ?_; (with_reducible refine (fold_Merge.calls (fun k_ => some k_ = (.slice Ao17 x3_1.length co17 : Value).ownBlock) _ _ x3_1 (fun k_ => k_ < w.heap.size) _ _ ((rd_T99 l0_0 x12_1).f2) t885 _ ?side1 ?side2 A11.out).mono ?_); (case side1 => exact Kd.R_V (Kd.R_tight rfl (Kd.R_types (Kd.R_types (HO_3.out) BK881.out (by decide)) BK884.out (by decide)))); (case side2 => exact Kd.V_mk HC883_2.out (Kd.F_below (Kd.C_F k74_heap HR883_2.out) (by repeat (first | (with_reducible first | exact HB.out | apply below_alloc | apply pw_below_drewN | apply below_drew1 | refine below_set ?_ GE881.out | refine below_set ?_ GE884.out) | exact HB.out)))); rintro e w18 ⟨v886, rfl, ho0, hb⟩; refine ⟨_, rfl, ?_⟩; have n0_ := A0q90_ (Kd.R_elder' (by (with_reducible repeat (first | apply Kd.R_alloc | apply Kd.R_drewN | apply Kd.R_drew)); exact HO_3.out) (Kd.R_base ho0) hb); have n1_ := A0q90_ (Kd.R_lower (Kd.R_new' (Kd.R_mono (ok' := fun k_ => True) ho0 (fun _ hk_ => trivial)) (Kd.R_lt (by (with_reducible repeat (first | apply Kd.R_alloc | apply Kd.R_drewN | apply Kd.R_drew)); exact HO_3.out))) (below_size (by repeat (first | (with_reducible first | exact HB.out | apply below_alloc | apply pw_below_drewN | apply below_drew1 | refine below_set ?_ GE881.out | refine below_set ?_ GE884.out) | exact HB.out)))); have n2_ := A0q90_ (blk_below (g:=gb881) (o:=.cells #[.slice (some ad883) l0_0.length c0_0, .slice A0_1 l0_1.length c0_1, .int .i64 a0_2, .int .i64 a0_3] 27 (0, 0)) (by (with_reducible repeat (first | refine blk_drewN ?_ _ | refine blk_drew ?_ | refine blk_alloc ?_ _)); exact BK881.out) hb); have n3_ := A0q90_ (blk_below (g:=gb884) (o:=.cells #[.int .i64 ((rd_T99 l0_0 x12_1).f0), .int .i64 ((rd_T99 l0_0 x12_1).f1), .slice A883_2 ((rd_T99 l0_0 x12_1).f2).length c883_2] 99 (0, 0)) (by (with_reducible repeat (first | refine blk_drewN ?_ _ | refine blk_drew ?_ | refine blk_alloc ?_ _)); exact BK884.out) hb); have n4_ := A0q90_ (below_step (by repeat (first | (with_reducible first | exact HB.out | apply below_alloc | apply pw_below_drewN | apply below_drew1 | refine below_set ?_ GE881.out | refine below_set ?_ GE884.out) | exact HB.out)) hb); clear HO_3; clear BK881; clear BK884; clear HB; have HO_3 := n0_; have HO887 := n1_; have BK881 := n2_; have BK884 := n3_; have HB := n4_; clear n0_ n1_ n2_ n3_ n4_; (try clear hb); (try clear hb2); (try clear hk); (try clear hi); (try clear ho0)))
       go_roundg k1
       case measure => have := HK1.out; omega
       case rel => exact ⟨(t885), (wrap64 (x12_1 + 1)), (by first | rfl | (simp; done) | (simp [*]; done)), H', ⟨by have := HK1.out; omega⟩, ⟨by (with_reducible repeat (first | apply Kd.R_alloc | apply Kd.R_drewN | apply Kd.R_drew)); exact Kd.R_mono HO887.out (fun _ hk => trivial)⟩, ⟨by (with_reducible repeat (first | refine blk_drewN ?_ _ | refine blk_drew ?_ | refine blk_alloc ?_ _)); exact BK881.out⟩, ⟨by repeat (first | (with_reducible first | exact HB.out | apply below_alloc | apply pw_below_drewN | apply below_drew1 | refine below_set ?_ GE881.out | refine below_set ?_ GE884.out) | exact HB.out)⟩⟩
      ·rw [if_neg c10] at H
       exact absurd H (by simp)
     ·rw [if_neg c9] at H
      exact absurd H (by simp)
    ·rw [if_neg c8] at H
     have c8b0 : decide (x12_1 < (l0_0.length : Int)) = false := decide_eq_false c8
     clear c8
     replace H := Option.bind_eq_some_iff.mp H
     obtain ⟨t888, A190, H⟩ := H
     replace H : (some t888) = some r := H
     have A19 := A0q90_ A190
     clear A190
     obtain rfl := Option.some.inj H
     have hcz20_0 : wr.cell? ⟨gb881, 0, none⟩ = some (.slice A0_0 l0_0.length c0_0) := (blk_cell BK881.out 0).trans rfl
     have hcz20_1 : wr.cell? ⟨gb881, 1, none⟩ = some (.slice A0_1 l0_1.length c0_1) := (blk_cell BK881.out 1).trans rfl
     have hcz20_2 : wr.cell? ⟨gb881, 2, none⟩ = some (.int .i64 a0_2) := (blk_cell BK881.out 2).trans rfl
     have hcz20_3 : wr.cell? ⟨gb881, 3, none⟩ = some (.int .i64 a0_3) := (blk_cell BK881.out 3).trans rfl
     have hfz20_0 := blk_frozen BK881.out 0
     have hfz20_1 := blk_frozen BK881.out 1
     have hfz20_2 := blk_frozen BK881.out 2
     have hfz20_3 := blk_frozen BK881.out 3
     obtain ⟨Ao21, co21, eo21⟩ := Kd.R_slice HO_3.out
     subst eo21
     go_wp2_with (first | ((with_reducible refine gate_callee (f := 67) rfl ?_); refine goesL_ (some 24) rfl rfl Try.func67 (by kernel_rfl) rfl #[.slice Ao21 x3_1.length co21, .slice A0_1 l0_1.length c0_1] rfl (by (try simp only [List.map_toArray, List.map_cons, List.map_nil]); first | done | rfl | (simp only [List.length_drop, List.length_take]; rfl)) ?_; (with_reducible refine (fold_Merge.calls (fun k_ => some k_ = (.slice Ao21 x3_1.length co21 : Value).ownBlock) _ _ x3_1 (fun k_ => k_ < w.heap.size) _ _ l0_1 t888 _ ?side1 ?side2 A19.out).mono ?_); (case side1 => exact Kd.R_V (Kd.R_tight rfl (Kd.R_types (HO_3.out) BK881.out (by decide)))); (case side2 => exact Kd.V_mk HC0_1.out (Kd.F_below (Kd.C_F k74_heap HR0_1.out) (by repeat (first | (with_reducible first | exact HB.out | apply below_alloc | apply pw_below_drewN | apply below_drew1 | refine below_set ?_ GE881.out) | exact HB.out)))); rintro e w22 ⟨v889, rfl, ho0, hb⟩; refine ⟨_, rfl, ?_⟩; have n0_ := A0q90_ (Kd.R_elder' (by (with_reducible repeat (first | apply Kd.R_alloc | apply Kd.R_drewN | apply Kd.R_drew)); exact HO_3.out) (Kd.R_base ho0) hb); have n1_ := A0q90_ (Kd.R_lower (Kd.R_new' (Kd.R_mono (ok' := fun k_ => True) ho0 (fun _ hk_ => trivial)) (Kd.R_lt (by (with_reducible repeat (first | apply Kd.R_alloc | apply Kd.R_drewN | apply Kd.R_drew)); exact HO_3.out))) (below_size (by repeat (first | (with_reducible first | exact HB.out | apply below_alloc | apply pw_below_drewN | apply below_drew1 | refine below_set ?_ GE881.out) | exact HB.out)))); have n2_ := A0q90_ (blk_below (g:=gb881) (o:=.cells #[.slice A0_0 l0_0.length c0_0, .slice A0_1 l0_1.length c0_1, .int .i64 a0_2, .int .i64 a0_3] 27 (0, 0)) (by (with_reducible repeat (first | refine blk_drewN ?_ _ | refine blk_drew ?_ | refine blk_alloc ?_ _)); exact BK881.out) hb); have n3_ := A0q90_ (below_step (by repeat (first | (with_reducible first | exact HB.out | apply below_alloc | apply pw_below_drewN | apply below_drew1 | refine below_set ?_ GE881.out) | exact HB.out)) hb); clear HO_3; clear BK881; clear HB; have HO_3 := n0_; have HO890 := n1_; have BK881 := n2_; have HB := n3_; clear n0_ n1_ n2_ n3_; (try clear hb); (try clear hb2); (try clear hk); (try clear hi); (try clear ho0)))
     go_ret
     exact ⟨_, by first | rfl | (simp [errW_none, errW_some] <;> rfl) | (simp [*, errW_none, errW_some] <;> rfl), by (with_reducible repeat (first | apply Kd.R_alloc | apply Kd.R_drewN | apply Kd.R_drew)); exact Kd.R_mono HO890.out (fun _ hk => trivial), by repeat (first | (with_reducible first | exact HB.out | apply below_alloc | apply pw_below_drewN | apply below_drew1 | refine below_set ?_ GE881.out) | exact HB.out)⟩
 ·replace c3 := Bool.eq_false_iff.mpr c3
  subst c3
  have H1 : (some ([] : List (S74))) = some r := by rw [if_neg (show ¬ (false = true) by decide)] at H; exact H
  clear H
  have H := H1
  clear H1
  obtain rfl := Option.some.inj H
  go_enter Try.func82, Try.ntmps82
  go_wp2_with (first | ((with_reducible refine gate_dst (N:=1) rfl ?_); refine box_event ?hg (N:=1) ?hd (cs := #[.slice A0_0 l0_0.length c0_0, .slice A0_1 l0_1.length c0_1, .int .i64 a0_2, .int .i64 a0_3]) (t := 27) ?hr ?_; (case hd => rfl); (case hg => rfl); (case hr => first | (go_simp; done) | (go_simp; rfl)); intro gb881 hg w23 hbox hb; have n0_ := A0q90_ (below_step (by repeat (first | (with_reducible first | exact HB.out | apply below_alloc | apply pw_below_drewN | apply below_drew1) | exact HB.out)) hb); have n1_ := A0q90_ (hbox); have n2_ := A0q90_ ((by rw [hg]; exact (below_size (by repeat (first | (with_reducible first | exact HB.out | apply below_alloc | apply pw_below_drewN | apply below_drew1) | exact HB.out))) : w.heap.size ≤ gb881)); have n3_ := A0q90_ ((by rw [hg]; exact (below_size (by repeat (first | (with_reducible first | exact HB.out | apply below_alloc | apply pw_below_drewN | apply below_drew1) | exact HB.out))) : w.heap.size ≤ gb881)); clear HB; have HB := n0_; have BK881 := n1_; have GW881 := n2_; have GE881 := n3_; clear n0_ n1_ n2_ n3_; clear hb hbox hg; have hcz24_0 : w23.cell? ⟨gb881, 0, none⟩ = some (.slice A0_0 l0_0.length c0_0) := (blk_cell BK881.out 0).trans rfl; have hcz24_1 : w23.cell? ⟨gb881, 1, none⟩ = some (.slice A0_1 l0_1.length c0_1) := (blk_cell BK881.out 1).trans rfl; have hcz24_2 : w23.cell? ⟨gb881, 2, none⟩ = some (.int .i64 a0_2) := (blk_cell BK881.out 2).trans rfl; have hcz24_3 : w23.cell? ⟨gb881, 3, none⟩ = some (.int .i64 a0_3) := (blk_cell BK881.out 3).trans rfl; have hfz24_0 := blk_frozen BK881.out 0; have hfz24_1 := blk_frozen BK881.out 1; have hfz24_2 := blk_frozen BK881.out 2; have hfz24_3 := blk_frozen BK881.out 3) | ((with_reducible refine gate_callee (f := 75) rfl ?_); refine goesL_ (some 7) rfl rfl Try.func75 (by kernel_rfl) rfl #[.agg #[.slice A0_0 l0_0.length c0_0, .slice A0_1 l0_1.length c0_1, .int .i64 a0_2, .int .i64 a0_3]] rfl (by (try simp only [List.map_toArray, List.map_cons, List.map_nil]); first | done | rfl | (simp only [List.length_drop, List.length_take]; rfl)) ?_; (with_reducible refine (queue_Right.calls k _ _ l0_0 _ _ l0_1 a0_2 a0_3 false _ ?side1 ?side2 ?side3 ?side4 A2.out).mono ?_); (case side1 => repeat (first | exact (Kd.C_below HR0_0.out HB.out) | (with_reducible refine Kd.C_alloc ?_ _) | (with_reducible refine Kd.C_drewN ?_ _) | (with_reducible refine Kd.C_drew ?_))); (case side2 => exact HC0_0.out); (case side3 => repeat (first | exact (Kd.C_below HR0_1.out HB.out) | (with_reducible refine Kd.C_alloc ?_ _) | (with_reducible refine Kd.C_drewN ?_ _) | (with_reducible refine Kd.C_drew ?_))); (case side4 => exact HC0_1.out); rintro e w25 ⟨rfl, hb⟩; refine ⟨_, rfl, ?_⟩; have n0_ := A0q90_ (blk_below (g:=gb881) (o:=.cells #[.slice A0_0 l0_0.length c0_0, .slice A0_1 l0_1.length c0_1, .int .i64 a0_2, .int .i64 a0_3] 27 (0, 0)) (by (with_reducible repeat (first | refine blk_drewN ?_ _ | refine blk_drew ?_ | refine blk_alloc ?_ _)); exact BK881.out) hb); have n1_ := A0q90_ (below_step (by repeat (first | (with_reducible first | exact HB.out | apply below_alloc | apply pw_below_drewN | apply below_drew1 | refine below_set ?_ GE881.out) | exact HB.out)) hb); clear BK881; clear HB; have BK881 := n0_; have HB := n1_; clear n0_ n1_; (try clear hb); (try clear hb2); (try clear hk); (try clear hi)))
  go_ret
  exact ⟨_, by first | rfl | (simp [errW_none, errW_some] <;> rfl) | (simp [*, errW_none, errW_some] <;> rfl), by first | exact Kd.R_nil _ _ _ _ _ | exact Kd.N_nil _ _ _ _ _ | exact Kd.V_nil _ _ _ _ _ | exact Kd.Q_nil _ _ _ _ _ | exact Kd.S_nil _ _ _ _ _, by repeat (first | (with_reducible first | exact HB.out | apply below_alloc | apply pw_below_drewN | apply below_drew1 | refine below_set ?_ GE881.out) | exact HB.out)⟩
end Go.Proofs.Ythdhkoeaadahaaa.P
