-- PACKED by wip/kit/pack.py: what the law's proof uses of Px12 (printed words and texts of this seat)
import Derived.Test.YthdhkoeaadahaaaTPx0
import Derived.Test.YthdhkoeaadahaaaTPx13
namespace Go.Proofs.Ythdhkoeaadahaaa.P
open Go.RowKit Go.Proofs.YthdhkoeaadahaaaW.PrintWords Go.Proofs.YthdhkoeaadahaaaW.PrintLast Go.Proofs.YthdhkoeaadahaaaW.PrintMore
attribute [local go_sem] max2_int min2_int max_two min_two max_three min_three max_four min_four
set_option linter.unusedVariables false
set_option linter.unusedSimpArgs false
def counterfoilref12_fits.f (a0 : Int) : Option (Bool) := if a0 ≥ 0 then (some (decide (a0 ≤ 1099511627776))) else (some false)
theorem A0q12_ {p : Prop} (h : p) : Aside0 p := ⟨h⟩
theorem z1q12_ {α : Type} (l : List α) (i : Nat) (a : α) : l.toArray.setIfInBounds i a = (l.set i a).toArray := List.setIfInBounds_toArray l i a
theorem z2q12_ {α : Type} {x : α} {xs : List α} {a : α} : (x :: xs).set 0 a = a :: xs := List.set_cons_zero
theorem z3q12_ {α : Type} {x : α} {xs : List α} {n : Nat} {a : α} : (x :: xs).set (n + 1) a = x :: xs.set n a := List.set_cons_succ
set_option maxHeartbeats 8000000 in
set_option maxRecDepth 100000 in
theorem counterfoilref12_fits.calls (a0 : Int) (r : Bool) (w : World) (h : counterfoilref12_fits.f a0 = some r) :
  Calls Try.prog 118 #[.int .i64 a0] w fun e w' => e = .returned (.bool r) ∧ Drawn0 w w' := by
 have H : (if a0 ≥ 0 then (some (decide (a0 ≤ 1099511627776))) else (some false)) = some r := h
 clear h
 by_cases c2 : a0 ≥ 0
 ·rw [if_pos c2] at H
  have c2b0 : decide (0 ≤ a0) = true := decide_eq_true c2
  clear c2
  obtain rfl := Option.some.inj H
  go_enter Try.func118, Try.ntmps118
  go_wp2
  go_ret
  exact ⟨by first | rfl | (simp; done) | (simp [*]; done), by repeat (first | exact Drawn0.refl _ | apply Drawn0.step)⟩
 ·rw [if_neg c2] at H
  have c2b0 : decide (0 ≤ a0) = false := decide_eq_false c2
  clear c2
  obtain rfl := Option.some.inj H
  go_enter Try.func118, Try.ntmps118
  go_wp2
  go_ret
  exact ⟨by first | rfl | (simp; done) | (simp [*]; done), by repeat (first | exact Drawn0.refl _ | apply Drawn0.step)⟩
mutual
def counterfoilref12_Right.l0 : Nat → Int → Int → List (S99) → List (S74) → Int → Int → Option (Bool)
 | 0, _, _, _, _, _, _ => none
 | k + 1, x3, x4, x176000, x176001, x176002, x176003 => if x4 < x3 then (if 0 ≤ x4 then (if x4 < (x176000.length : Int) then ((counterfoilref12_fits.f ((rd_T99 x176000 x4).f0)).bind fun t178 => (if t178 = true then ((counterfoilref12_fits.f ((rd_T99 x176000 x4).f1)).bind fun t179 => (if t179 = true then (if ((rd_T99 x176000 x4).f0) ≥ ((rd_T99 x176000 x4).f1) then (counterfoilref12_Right.j1 k x3 x4 true x176000 x176001 x176002 x176003 ((rd_T99 x176000 x4).f0) ((rd_T99 x176000 x4).f1) ((rd_T99 x176000 x4).f2)) else ((counterfoilref12_folded.f k ((rd_T99 x176000 x4).f2)).bind fun t180 => (counterfoilref12_Right.j1 k x3 x4 (!t180) x176000 x176001 x176002 x176003 ((rd_T99 x176000 x4).f0) ((rd_T99 x176000 x4).f1) ((rd_T99 x176000 x4).f2)))) else (counterfoilref12_Right.j1 k x3 x4 true x176000 x176001 x176002 x176003 ((rd_T99 x176000 x4).f0) ((rd_T99 x176000 x4).f1) ((rd_T99 x176000 x4).f2)))) else (counterfoilref12_Right.j1 k x3 x4 true x176000 x176001 x176002 x176003 ((rd_T99 x176000 x4).f0) ((rd_T99 x176000 x4).f1) ((rd_T99 x176000 x4).f2)))) else (none)) else (none)) else (if x3 > 0 then (if 0 ≤ (wrap64 (x3 - 1)) then (if (wrap64 (x3 - 1)) < (x176000.length : Int) then (counterfoilref12_Right.j2 k (((rd_T99 x176000 (wrap64 (x3 - 1))).f1) != x176002) x176000 x176001 x176002 x176003) else (none)) else (none)) else (counterfoilref12_Right.j2 k false x176000 x176001 x176002 x176003))
def counterfoilref12_Right.j1 : Nat → Int → Int → Bool → List (S99) → List (S74) → Int → Int → Int → Int → List (S74) → Option (Bool)
 | 0, _, _, _, _, _, _, _, _, _, _ => none
 | k + 1, x3, x4, x41, x176000, x176001, x176002, x176003, x178000, x178001, x178002 => if x41 = true then (some false) else (if x4 > 0 then (if 0 ≤ (wrap64 (x4 - 1)) then (if (wrap64 (x4 - 1)) < (x176000.length : Int) then (if ((rd_T99 x176000 (wrap64 (x4 - 1))).f1) = x178000 then (counterfoilref12_Right.l0 k x3 (wrap64 (x4 + 1)) x176000 x176001 x176002 x176003) else (some false)) else (none)) else (none)) else (counterfoilref12_Right.l0 k x3 (wrap64 (x4 + 1)) x176000 x176001 x176002 x176003))
def counterfoilref12_Right.j2 : Nat → Bool → List (S99) → List (S74) → Int → Int → Option (Bool)
 | 0, _, _, _, _, _ => none
 | k + 1, x69, x176000, x176001, x176002, x176003 => if x69 = true then (some false) else ((counterfoilref12_fits.f x176002).bind fun t183 => (if t183 = true then ((counterfoilref12_fits.f x176003).bind fun t184 => (if t184 = true then (if x176002 > x176003 then (some false) else ((counterfoilref12_folded.f k x176001).bind fun t185 => (if t185 = true then (if x176002 < x176003 then (some true) else (some ((x176001.length : Int) == 0))) else (some false)))) else (some false))) else (some false)))
end
def counterfoilref12_Right.f (k : Nat) (l0_0 : List (S99)) (l0_1 : List (S74)) (a0_2 : Int) (a0_3 : Int) : Option (Bool) := counterfoilref12_Right.l0 k (l0_0.length : Int) 0 l0_0 l0_1 a0_2 a0_3
set_option maxHeartbeats 8000000 in
set_option maxRecDepth 100000 in
theorem counterfoilref12_Right.calls (k : Nat) (A0_0 : Option Addr) (c0_0 : Nat) (l0_0 : List (S99)) (A0_1 : Option Addr) (c0_1 : Nat) (l0_1 : List (S74)) (a0_2 : Int) (a0_3 : Int) (r : Bool) (w : World) (hr0_0 : Kd.C k99 w A0_0 l0_0.length l0_0) (hc0_0 : l0_0.length ≤ c0_0) (hr0_1 : Kd.C k74 w A0_1 l0_1.length l0_1) (hc0_1 : l0_1.length ≤ c0_1) (h : counterfoilref12_Right.f k l0_0 l0_1 a0_2 a0_3 = some r) :
  Calls Try.prog 77 #[.agg #[.slice A0_0 l0_0.length c0_0, .slice A0_1 l0_1.length c0_1, .int .i64 a0_2, .int .i64 a0_3]] w fun e w' => e = .returned (.bool r) ∧ Below w.heap.size w w' := by
 have hu27 := Try.underlying27
 have hu99 := Try.underlying99
 have HR0_0 := A0q12_ hr0_0
 have HC0_0 := A0q12_ hc0_0
 clear hr0_0 hc0_0
 have HR0_1 := A0q12_ hr0_1
 have HC0_1 := A0q12_ hc0_1
 clear hr0_1 hc0_1
 have HB := A0q12_ (Below.refl w.heap.size w)
 have H : (counterfoilref12_Right.l0 k (l0_0.length : Int) 0 l0_0 l0_1 a0_2 a0_3) = some r := h
 clear h
 have H' := A0q12_ H
 clear H
 go_enter Try.func77, Try.ntmps77
 go_wp2_with (first | ((with_reducible refine gate_dst (N:=1) rfl ?_); (try (refine gate_guard (by rfl) ?_; dsimp only)); refine box_event ?hg (N:=1) ?hd (cs := #[.slice A0_0 l0_0.length c0_0, .slice A0_1 l0_1.length c0_1, .int .i64 a0_2, .int .i64 a0_3]) (t := 27) ?hr ?_; (case hd => rfl); (case hg => rfl); (case hr => first | (go_simp; done) | (go_simp; rfl)); intro gb175 hg w2 hbox hb; have n0_ := A0q12_ (below_step (by repeat (first | (with_reducible first | exact HB.out | apply below_alloc | apply pw_below_drewN | apply below_drew1) | exact HB.out)) hb); have n1_ := A0q12_ (hbox); have n2_ := A0q12_ ((by rw [hg]; exact (below_size (by repeat (first | (with_reducible first | exact HB.out | apply below_alloc | apply pw_below_drewN | apply below_drew1) | exact HB.out))) : w.heap.size ≤ gb175)); have n3_ := A0q12_ ((by rw [hg]; exact (below_size (by repeat (first | (with_reducible first | exact HB.out | apply below_alloc | apply pw_below_drewN | apply below_drew1) | exact HB.out))) : w.heap.size ≤ gb175)); clear HB; have HB := n0_; have BK175 := n1_; have GW175 := n2_; have GE175 := n3_; clear n0_ n1_ n2_ n3_; clear hb hbox hg; have hcz3_0 : w2.cell? ⟨gb175, 0, none⟩ = some (.slice A0_0 l0_0.length c0_0) := (blk_cell BK175.out 0).trans rfl; have hcz3_1 : w2.cell? ⟨gb175, 1, none⟩ = some (.slice A0_1 l0_1.length c0_1) := (blk_cell BK175.out 1).trans rfl; have hcz3_2 : w2.cell? ⟨gb175, 2, none⟩ = some (.int .i64 a0_2) := (blk_cell BK175.out 2).trans rfl; have hcz3_3 : w2.cell? ⟨gb175, 3, none⟩ = some (.int .i64 a0_3) := (blk_cell BK175.out 3).trans rfl; have hfz3_0 := blk_frozen BK175.out 0; have hfz3_1 := blk_frozen BK175.out 1; have hfz3_2 := blk_frozen BK175.out 2; have hfz3_3 := blk_frozen BK175.out 3))
 repeat (go_quiet (first | ((with_reducible refine gate_dst (N:=1) rfl ?_); (try (refine gate_guard (by rfl) ?_; dsimp only)); refine box_event ?hg (N:=1) ?hd (cs := #[.slice A0_0 l0_0.length c0_0, .slice A0_1 l0_1.length c0_1, .int .i64 a0_2, .int .i64 a0_3]) (t := 27) ?hr ?_; (case hd => rfl); (case hg => rfl); (case hr => first | (go_simp; done) | (go_simp; rfl)); intro gb175 hg w2 hbox hb; have n0_ := A0q12_ (below_step (by repeat (first | (with_reducible first | exact HB.out | apply below_alloc | apply pw_below_drewN | apply below_drew1) | exact HB.out)) hb); have n1_ := A0q12_ (hbox); have n2_ := A0q12_ ((by rw [hg]; exact (below_size (by repeat (first | (with_reducible first | exact HB.out | apply below_alloc | apply pw_below_drewN | apply below_drew1) | exact HB.out))) : w.heap.size ≤ gb175)); have n3_ := A0q12_ ((by rw [hg]; exact (below_size (by repeat (first | (with_reducible first | exact HB.out | apply below_alloc | apply pw_below_drewN | apply below_drew1) | exact HB.out))) : w.heap.size ≤ gb175)); clear HB; have HB := n0_; have BK175 := n1_; have GW175 := n2_; have GE175 := n3_; clear n0_ n1_ n2_ n3_; clear hb hbox hg; have hcz3_0 : w2.cell? ⟨gb175, 0, none⟩ = some (.slice A0_0 l0_0.length c0_0) := (blk_cell BK175.out 0).trans rfl; have hcz3_1 : w2.cell? ⟨gb175, 1, none⟩ = some (.slice A0_1 l0_1.length c0_1) := (blk_cell BK175.out 1).trans rfl; have hcz3_2 : w2.cell? ⟨gb175, 2, none⟩ = some (.int .i64 a0_2) := (blk_cell BK175.out 2).trans rfl; have hcz3_3 : w2.cell? ⟨gb175, 3, none⟩ = some (.int .i64 a0_3) := (blk_cell BK175.out 3).trans rfl; have hfz3_0 := blk_frozen BK175.out 0; have hfz3_1 := blk_frozen BK175.out 1; have hfz3_2 := blk_frozen BK175.out 2; have hfz3_3 := blk_frozen BK175.out 3)); try go_wp2_with (first | ((with_reducible refine gate_dst (N:=1) rfl ?_); (try (refine gate_guard (by rfl) ?_; dsimp only)); refine box_event ?hg (N:=1) ?hd (cs := #[.slice A0_0 l0_0.length c0_0, .slice A0_1 l0_1.length c0_1, .int .i64 a0_2, .int .i64 a0_3]) (t := 27) ?hr ?_; (case hd => rfl); (case hg => rfl); (case hr => first | (go_simp; done) | (go_simp; rfl)); intro gb175 hg w2 hbox hb; have n0_ := A0q12_ (below_step (by repeat (first | (with_reducible first | exact HB.out | apply below_alloc | apply pw_below_drewN | apply below_drew1) | exact HB.out)) hb); have n1_ := A0q12_ (hbox); have n2_ := A0q12_ ((by rw [hg]; exact (below_size (by repeat (first | (with_reducible first | exact HB.out | apply below_alloc | apply pw_below_drewN | apply below_drew1) | exact HB.out))) : w.heap.size ≤ gb175)); have n3_ := A0q12_ ((by rw [hg]; exact (below_size (by repeat (first | (with_reducible first | exact HB.out | apply below_alloc | apply pw_below_drewN | apply below_drew1) | exact HB.out))) : w.heap.size ≤ gb175)); clear HB; have HB := n0_; have BK175 := n1_; have GW175 := n2_; have GE175 := n3_; clear n0_ n1_ n2_ n3_; clear hb hbox hg; have hcz3_0 : w2.cell? ⟨gb175, 0, none⟩ = some (.slice A0_0 l0_0.length c0_0) := (blk_cell BK175.out 0).trans rfl; have hcz3_1 : w2.cell? ⟨gb175, 1, none⟩ = some (.slice A0_1 l0_1.length c0_1) := (blk_cell BK175.out 1).trans rfl; have hcz3_2 : w2.cell? ⟨gb175, 2, none⟩ = some (.int .i64 a0_2) := (blk_cell BK175.out 2).trans rfl; have hcz3_3 : w2.cell? ⟨gb175, 3, none⟩ = some (.int .i64 a0_3) := (blk_cell BK175.out 3).trans rfl; have hfz3_0 := blk_frozen BK175.out 0; have hfz3_1 := blk_frozen BK175.out 1; have hfz3_2 := blk_frozen BK175.out 2; have hfz3_3 := blk_frozen BK175.out 3)))
 go_loopg [4] k (fun kq v4 w' => ∃ (x4_1 : Int), v4 = .int .i64 x4_1 ∧ Aside0 (counterfoilref12_Right.l0 kq (l0_0.length : Int) x4_1 l0_0 l0_1 a0_2 a0_3 = some r) ∧ Aside0 (kq ≤ k) ∧ Aside0 (w'.heap[gb175]? = some (.cells #[(.slice A0_0 l0_0.length c0_0), (.slice A0_1 l0_1.length c0_1), .int .i64 a0_2, .int .i64 a0_3] 27 (0, 0))) ∧ Aside0 (Below w.heap.size w w'))
 case atStart => exact ⟨(0), (by first | rfl | (simp; done) | (simp [*]; done)), H', ⟨Nat.le_refl _⟩, ⟨by (with_reducible repeat (first | refine blk_drewN ?_ _ | refine blk_drew ?_ | refine blk_alloc ?_ _)); exact BK175.out⟩, ⟨by repeat (first | (with_reducible first | exact HB.out | apply below_alloc | apply pw_below_drewN | apply below_drew1 | refine below_set ?_ GE175.out) | exact HB.out)⟩⟩
 case round =>
  clear H'
  try clear p2
  try clear hcz3_0
  try clear hcz3_1
  try clear hcz3_2
  try clear hcz3_3
  try clear hfz3_0
  try clear hfz3_1
  try clear hfz3_2
  try clear hfz3_3
  obtain ⟨x4_1, rfl, HA, HK1, BK175, HB⟩ := hrel
  cases gk with
  | zero => exact absurd HA.out (by simp [counterfoilref12_Right.l0])
  | succ k1 =>
   have H := HA.out
   clear HA
   simp only [counterfoilref12_Right.l0] at H
   by_cases c4 : x4_1 < (l0_0.length : Int)
   ·rw [if_pos c4] at H
    have c4b0 : decide (x4_1 < (l0_0.length : Int)) = true := decide_eq_true c4
    clear c4
    by_cases c5 : 0 ≤ x4_1
    ·rw [if_pos c5] at H
     have c5b0 : decide (0 ≤ x4_1) = true := decide_eq_true c5
     clear c5
     by_cases c6 : x4_1 < (l0_0.length : Int)
     ·rw [if_pos c6] at H
      have c6b0 : decide (x4_1 < (l0_0.length : Int)) = true := decide_eq_true c6
      clear c6
      have HC7 := A0q12_ H
      clear H
      have hcz8_0 : wr.cell? ⟨gb175, 0, none⟩ = some (.slice A0_0 l0_0.length c0_0) := (blk_cell BK175.out 0).trans rfl
      have hcz8_1 : wr.cell? ⟨gb175, 1, none⟩ = some (.slice A0_1 l0_1.length c0_1) := (blk_cell BK175.out 1).trans rfl
      have hcz8_2 : wr.cell? ⟨gb175, 2, none⟩ = some (.int .i64 a0_2) := (blk_cell BK175.out 2).trans rfl
      have hcz8_3 : wr.cell? ⟨gb175, 3, none⟩ = some (.int .i64 a0_3) := (blk_cell BK175.out 3).trans rfl
      have hfz8_0 := blk_frozen BK175.out 0
      have hfz8_1 := blk_frozen BK175.out 1
      have hfz8_2 := blk_frozen BK175.out 2
      have hfz8_3 := blk_frozen BK175.out 3
      have p176 : 0 ≤ (x4_1 : Int) := of_decide_eq_true (by first | (with_reducible assumption) | assumption)
      have q176 : x4_1 < (l0_0.length : Int) := of_decide_eq_true (by first | (with_reducible assumption) | assumption)
      obtain ⟨ad176, A176_2, c176_2, e176, hx176_0, hx176_1, hx176_2, hl176_2, hi176_2⟩ := at_T99 HR0_0.out x4_1 p176 q176
      cases e176
      replace hx176_0 := (HB.out.cell (World.block_lt_of_cell? w _ hx176_0)).trans hx176_0
      replace hx176_1 := (HB.out.cell (World.block_lt_of_cell? w _ hx176_1)).trans hx176_1
      replace hx176_2 := (HB.out.cell (World.block_lt_of_cell? w _ hx176_2)).trans hx176_2
      have HR176_2 := A0q12_ hi176_2
      have HC176_2 := A0q12_ hl176_2
      clear hi176_2 hl176_2
      replace p176 := eq_true p176
      replace q176 := eq_true q176
      go_upto_region 6 with (first | ((with_reducible refine gate_dst (N:=5) rfl ?_); (try (refine gate_guard (by rfl) ?_; dsimp only)); refine box_event ?hg (N:=5) ?hd (cs := #[.int .i64 0, .int .i64 0, .slice none 0 0]) (t := 99) ?hr ?_; (case hd => rfl); (case hg => rfl); (case hr => first | (go_simp; done) | (go_simp; rfl)); intro gb177 hg w9 hbox hb; have n0_ := A0q12_ (blk_below (g:=gb175) (o:=.cells #[.slice (some ad176) l0_0.length c0_0, .slice A0_1 l0_1.length c0_1, .int .i64 a0_2, .int .i64 a0_3] 27 (0, 0)) (by (with_reducible repeat (first | refine blk_drewN ?_ _ | refine blk_drew ?_ | refine blk_alloc ?_ _)); exact BK175.out) hb); have n1_ := A0q12_ (below_step (by repeat (first | (with_reducible first | exact HB.out | apply below_alloc | apply pw_below_drewN | apply below_drew1 | refine below_set ?_ GE175.out) | exact HB.out)) hb); have n2_ := A0q12_ (hbox); have n3_ := A0q12_ ((by rw [hg]; exact (below_size (by repeat (first | (with_reducible first | exact HB.out | apply below_alloc | apply pw_below_drewN | apply below_drew1 | refine below_set ?_ GE175.out) | exact HB.out))) : w.heap.size ≤ gb177)); have n4_ := A0q12_ ((by rw [hg]; exact (below_size (by repeat (first | (with_reducible first | exact HB.out | apply below_alloc | apply pw_below_drewN | apply below_drew1 | refine below_set ?_ GE175.out) | exact HB.out))) : w.heap.size ≤ gb177)); have n5_ := A0q12_ ((by rw [hg]; exact Nat.ne_of_lt (blk_lt (g:=gb175) (o:=.cells #[.slice (some ad176) l0_0.length c0_0, .slice A0_1 l0_1.length c0_1, .int .i64 a0_2, .int .i64 a0_3] 27 (0, 0)) (by (with_reducible repeat (first | refine blk_drewN ?_ _ | refine blk_drew ?_ | refine blk_alloc ?_ _)); exact BK175.out)) : gb175 ≠ gb177)); have n6_ := A0q12_ ((by rw [hg]; exact Nat.ne_of_gt (blk_lt (g:=gb175) (o:=.cells #[.slice (some ad176) l0_0.length c0_0, .slice A0_1 l0_1.length c0_1, .int .i64 a0_2, .int .i64 a0_3] 27 (0, 0)) (by (with_reducible repeat (first | refine blk_drewN ?_ _ | refine blk_drew ?_ | refine blk_alloc ?_ _)); exact BK175.out)) : gb177 ≠ gb175)); clear BK175; clear HB; have BK175 := n0_; have HB := n1_; have BK177 := n2_; have GW177 := n3_; have GE177 := n4_; have NB175_177 := n5_; have NB177_175 := n6_; clear n0_ n1_ n2_ n3_ n4_ n5_ n6_; clear hb hbox hg; have hnb10 := NB177_175.out; have hnc10 := NB175_177.out; have hcz11_0 : w9.cell? ⟨gb177, 0, none⟩ = some (.int .i64 0) := (blk_cell BK177.out 0).trans rfl; have hcz11_1 : w9.cell? ⟨gb177, 1, none⟩ = some (.int .i64 0) := (blk_cell BK177.out 1).trans rfl; have hcz11_2 : w9.cell? ⟨gb177, 2, none⟩ = some (.slice none 0 0) := (blk_cell BK177.out 2).trans rfl; have hfz11_0 := blk_frozen BK177.out 0; have hfz11_1 := blk_frozen BK177.out 1; have hfz11_2 := blk_frozen BK177.out 2))
      repeat (go_quiet (first | ((with_reducible refine gate_dst (N:=5) rfl ?_); (try (refine gate_guard (by rfl) ?_; dsimp only)); refine box_event ?hg (N:=5) ?hd (cs := #[.int .i64 0, .int .i64 0, .slice none 0 0]) (t := 99) ?hr ?_; (case hd => rfl); (case hg => rfl); (case hr => first | (go_simp; done) | (go_simp; rfl)); intro gb177 hg w9 hbox hb; have n0_ := A0q12_ (blk_below (g:=gb175) (o:=.cells #[.slice (some ad176) l0_0.length c0_0, .slice A0_1 l0_1.length c0_1, .int .i64 a0_2, .int .i64 a0_3] 27 (0, 0)) (by (with_reducible repeat (first | refine blk_drewN ?_ _ | refine blk_drew ?_ | refine blk_alloc ?_ _)); exact BK175.out) hb); have n1_ := A0q12_ (below_step (by repeat (first | (with_reducible first | exact HB.out | apply below_alloc | apply pw_below_drewN | apply below_drew1 | refine below_set ?_ GE175.out) | exact HB.out)) hb); have n2_ := A0q12_ (hbox); have n3_ := A0q12_ ((by rw [hg]; exact (below_size (by repeat (first | (with_reducible first | exact HB.out | apply below_alloc | apply pw_below_drewN | apply below_drew1 | refine below_set ?_ GE175.out) | exact HB.out))) : w.heap.size ≤ gb177)); have n4_ := A0q12_ ((by rw [hg]; exact (below_size (by repeat (first | (with_reducible first | exact HB.out | apply below_alloc | apply pw_below_drewN | apply below_drew1 | refine below_set ?_ GE175.out) | exact HB.out))) : w.heap.size ≤ gb177)); have n5_ := A0q12_ ((by rw [hg]; exact Nat.ne_of_lt (blk_lt (g:=gb175) (o:=.cells #[.slice (some ad176) l0_0.length c0_0, .slice A0_1 l0_1.length c0_1, .int .i64 a0_2, .int .i64 a0_3] 27 (0, 0)) (by (with_reducible repeat (first | refine blk_drewN ?_ _ | refine blk_drew ?_ | refine blk_alloc ?_ _)); exact BK175.out)) : gb175 ≠ gb177)); have n6_ := A0q12_ ((by rw [hg]; exact Nat.ne_of_gt (blk_lt (g:=gb175) (o:=.cells #[.slice (some ad176) l0_0.length c0_0, .slice A0_1 l0_1.length c0_1, .int .i64 a0_2, .int .i64 a0_3] 27 (0, 0)) (by (with_reducible repeat (first | refine blk_drewN ?_ _ | refine blk_drew ?_ | refine blk_alloc ?_ _)); exact BK175.out)) : gb177 ≠ gb175)); clear BK175; clear HB; have BK175 := n0_; have HB := n1_; have BK177 := n2_; have GW177 := n3_; have GE177 := n4_; have NB175_177 := n5_; have NB177_175 := n6_; clear n0_ n1_ n2_ n3_ n4_ n5_ n6_; clear hb hbox hg; have hnb10 := NB177_175.out; have hnc10 := NB175_177.out; have hcz11_0 : w9.cell? ⟨gb177, 0, none⟩ = some (.int .i64 0) := (blk_cell BK177.out 0).trans rfl; have hcz11_1 : w9.cell? ⟨gb177, 1, none⟩ = some (.int .i64 0) := (blk_cell BK177.out 1).trans rfl; have hcz11_2 : w9.cell? ⟨gb177, 2, none⟩ = some (.slice none 0 0) := (blk_cell BK177.out 2).trans rfl; have hfz11_0 := blk_frozen BK177.out 0; have hfz11_1 := blk_frozen BK177.out 1; have hfz11_2 := blk_frozen BK177.out 2)); go_upto_region 6 with (first | ((with_reducible refine gate_dst (N:=5) rfl ?_); (try (refine gate_guard (by rfl) ?_; dsimp only)); refine box_event ?hg (N:=5) ?hd (cs := #[.int .i64 0, .int .i64 0, .slice none 0 0]) (t := 99) ?hr ?_; (case hd => rfl); (case hg => rfl); (case hr => first | (go_simp; done) | (go_simp; rfl)); intro gb177 hg w9 hbox hb; have n0_ := A0q12_ (blk_below (g:=gb175) (o:=.cells #[.slice (some ad176) l0_0.length c0_0, .slice A0_1 l0_1.length c0_1, .int .i64 a0_2, .int .i64 a0_3] 27 (0, 0)) (by (with_reducible repeat (first | refine blk_drewN ?_ _ | refine blk_drew ?_ | refine blk_alloc ?_ _)); exact BK175.out) hb); have n1_ := A0q12_ (below_step (by repeat (first | (with_reducible first | exact HB.out | apply below_alloc | apply pw_below_drewN | apply below_drew1 | refine below_set ?_ GE175.out) | exact HB.out)) hb); have n2_ := A0q12_ (hbox); have n3_ := A0q12_ ((by rw [hg]; exact (below_size (by repeat (first | (with_reducible first | exact HB.out | apply below_alloc | apply pw_below_drewN | apply below_drew1 | refine below_set ?_ GE175.out) | exact HB.out))) : w.heap.size ≤ gb177)); have n4_ := A0q12_ ((by rw [hg]; exact (below_size (by repeat (first | (with_reducible first | exact HB.out | apply below_alloc | apply pw_below_drewN | apply below_drew1 | refine below_set ?_ GE175.out) | exact HB.out))) : w.heap.size ≤ gb177)); have n5_ := A0q12_ ((by rw [hg]; exact Nat.ne_of_lt (blk_lt (g:=gb175) (o:=.cells #[.slice (some ad176) l0_0.length c0_0, .slice A0_1 l0_1.length c0_1, .int .i64 a0_2, .int .i64 a0_3] 27 (0, 0)) (by (with_reducible repeat (first | refine blk_drewN ?_ _ | refine blk_drew ?_ | refine blk_alloc ?_ _)); exact BK175.out)) : gb175 ≠ gb177)); have n6_ := A0q12_ ((by rw [hg]; exact Nat.ne_of_gt (blk_lt (g:=gb175) (o:=.cells #[.slice (some ad176) l0_0.length c0_0, .slice A0_1 l0_1.length c0_1, .int .i64 a0_2, .int .i64 a0_3] 27 (0, 0)) (by (with_reducible repeat (first | refine blk_drewN ?_ _ | refine blk_drew ?_ | refine blk_alloc ?_ _)); exact BK175.out)) : gb177 ≠ gb175)); clear BK175; clear HB; have BK175 := n0_; have HB := n1_; have BK177 := n2_; have GW177 := n3_; have GE177 := n4_; have NB175_177 := n5_; have NB177_175 := n6_; clear n0_ n1_ n2_ n3_ n4_ n5_ n6_; clear hb hbox hg; have hnb10 := NB177_175.out; have hnc10 := NB175_177.out; have hcz11_0 : w9.cell? ⟨gb177, 0, none⟩ = some (.int .i64 0) := (blk_cell BK177.out 0).trans rfl; have hcz11_1 : w9.cell? ⟨gb177, 1, none⟩ = some (.int .i64 0) := (blk_cell BK177.out 1).trans rfl; have hcz11_2 : w9.cell? ⟨gb177, 2, none⟩ = some (.slice none 0 0) := (blk_cell BK177.out 2).trans rfl; have hfz11_0 := blk_frozen BK177.out 0; have hfz11_1 := blk_frozen BK177.out 1; have hfz11_2 := blk_frozen BK177.out 2)))
      (try simp only [Act.put, z1q12_, z2q12_, z3q12_])
      go_cut [41] (fun v41 wc => ∃ (kq : Nat) (x41_6 : Bool), v41 = .bool x41_6 ∧ Aside0 (counterfoilref12_Right.j1 kq (l0_0.length : Int) x4_1 x41_6 l0_0 l0_1 a0_2 a0_3 ((rd_T99 l0_0 x4_1).f0) ((rd_T99 l0_0 x4_1).f1) ((rd_T99 l0_0 x4_1).f2) = some r) ∧ Aside0 (kq ≤ k1) ∧ Aside0 (wc.heap[gb175]? = some (.cells #[(.slice (some ad176) l0_0.length c0_0), (.slice A0_1 l0_1.length c0_1), .int .i64 a0_2, .int .i64 a0_3] 27 (0, 0))) ∧ Aside0 (wc.heap[gb177]? = some (.cells #[.int .i64 ((rd_T99 l0_0 x4_1).f0), .int .i64 ((rd_T99 l0_0 x4_1).f1), (.slice A176_2 ((rd_T99 l0_0 x4_1).f2).length c176_2)] 99 (0, 0))) ∧ Aside0 (Below w.heap.size w wc))
      case first =>
       have H := HC7.out
       clear HC7
       replace H := Option.bind_eq_some_iff.mp H
       obtain ⟨t178, A120, H⟩ := H
       replace H : (if t178 = true then ((counterfoilref12_fits.f ((rd_T99 l0_0 x4_1).f1)).bind fun t179 => (if t179 = true then (if ((rd_T99 l0_0 x4_1).f0) ≥ ((rd_T99 l0_0 x4_1).f1) then (counterfoilref12_Right.j1 k1 (l0_0.length : Int) x4_1 true l0_0 l0_1 a0_2 a0_3 ((rd_T99 l0_0 x4_1).f0) ((rd_T99 l0_0 x4_1).f1) ((rd_T99 l0_0 x4_1).f2)) else ((counterfoilref12_folded.f k1 ((rd_T99 l0_0 x4_1).f2)).bind fun t180 => (counterfoilref12_Right.j1 k1 (l0_0.length : Int) x4_1 (!t180) l0_0 l0_1 a0_2 a0_3 ((rd_T99 l0_0 x4_1).f0) ((rd_T99 l0_0 x4_1).f1) ((rd_T99 l0_0 x4_1).f2)))) else (counterfoilref12_Right.j1 k1 (l0_0.length : Int) x4_1 true l0_0 l0_1 a0_2 a0_3 ((rd_T99 l0_0 x4_1).f0) ((rd_T99 l0_0 x4_1).f1) ((rd_T99 l0_0 x4_1).f2)))) else (counterfoilref12_Right.j1 k1 (l0_0.length : Int) x4_1 true l0_0 l0_1 a0_2 a0_3 ((rd_T99 l0_0 x4_1).f0) ((rd_T99 l0_0 x4_1).f1) ((rd_T99 l0_0 x4_1).f2))) = some r := H
       have A12 := A0q12_ A120
       clear A120
       by_cases c13 : t178 = true
       ·subst c13
        have H1 : ((counterfoilref12_fits.f ((rd_T99 l0_0 x4_1).f1)).bind fun t179 => (if t179 = true then (if ((rd_T99 l0_0 x4_1).f0) ≥ ((rd_T99 l0_0 x4_1).f1) then (counterfoilref12_Right.j1 k1 (l0_0.length : Int) x4_1 true l0_0 l0_1 a0_2 a0_3 ((rd_T99 l0_0 x4_1).f0) ((rd_T99 l0_0 x4_1).f1) ((rd_T99 l0_0 x4_1).f2)) else ((counterfoilref12_folded.f k1 ((rd_T99 l0_0 x4_1).f2)).bind fun t180 => (counterfoilref12_Right.j1 k1 (l0_0.length : Int) x4_1 (!t180) l0_0 l0_1 a0_2 a0_3 ((rd_T99 l0_0 x4_1).f0) ((rd_T99 l0_0 x4_1).f1) ((rd_T99 l0_0 x4_1).f2)))) else (counterfoilref12_Right.j1 k1 (l0_0.length : Int) x4_1 true l0_0 l0_1 a0_2 a0_3 ((rd_T99 l0_0 x4_1).f0) ((rd_T99 l0_0 x4_1).f1) ((rd_T99 l0_0 x4_1).f2)))) = some r := by rw [if_pos rfl] at H; exact H
        clear H
        have H := H1
        clear H1
        replace H := Option.bind_eq_some_iff.mp H
        obtain ⟨t179, A140, H⟩ := H
        replace H : (if t179 = true then (if ((rd_T99 l0_0 x4_1).f0) ≥ ((rd_T99 l0_0 x4_1).f1) then (counterfoilref12_Right.j1 k1 (l0_0.length : Int) x4_1 true l0_0 l0_1 a0_2 a0_3 ((rd_T99 l0_0 x4_1).f0) ((rd_T99 l0_0 x4_1).f1) ((rd_T99 l0_0 x4_1).f2)) else ((counterfoilref12_folded.f k1 ((rd_T99 l0_0 x4_1).f2)).bind fun t180 => (counterfoilref12_Right.j1 k1 (l0_0.length : Int) x4_1 (!t180) l0_0 l0_1 a0_2 a0_3 ((rd_T99 l0_0 x4_1).f0) ((rd_T99 l0_0 x4_1).f1) ((rd_T99 l0_0 x4_1).f2)))) else (counterfoilref12_Right.j1 k1 (l0_0.length : Int) x4_1 true l0_0 l0_1 a0_2 a0_3 ((rd_T99 l0_0 x4_1).f0) ((rd_T99 l0_0 x4_1).f1) ((rd_T99 l0_0 x4_1).f2))) = some r := H
        have A14 := A0q12_ A140
        clear A140
        by_cases c15 : t179 = true
        ·subst c15
         have H1 : (if ((rd_T99 l0_0 x4_1).f0) ≥ ((rd_T99 l0_0 x4_1).f1) then (counterfoilref12_Right.j1 k1 (l0_0.length : Int) x4_1 true l0_0 l0_1 a0_2 a0_3 ((rd_T99 l0_0 x4_1).f0) ((rd_T99 l0_0 x4_1).f1) ((rd_T99 l0_0 x4_1).f2)) else ((counterfoilref12_folded.f k1 ((rd_T99 l0_0 x4_1).f2)).bind fun t180 => (counterfoilref12_Right.j1 k1 (l0_0.length : Int) x4_1 (!t180) l0_0 l0_1 a0_2 a0_3 ((rd_T99 l0_0 x4_1).f0) ((rd_T99 l0_0 x4_1).f1) ((rd_T99 l0_0 x4_1).f2)))) = some r := by rw [if_pos rfl] at H; exact H
         clear H
         have H := H1
         clear H1
         by_cases c16 : ((rd_T99 l0_0 x4_1).f0) ≥ ((rd_T99 l0_0 x4_1).f1)
         ·rw [if_pos c16] at H
          have c16b0 : decide (((rd_T99 l0_0 x4_1).f1) ≤ ((rd_T99 l0_0 x4_1).f0)) = true := decide_eq_true c16
          clear c16
          (first | rw [c16b0] | (simp only [i64_w, i32_w]; rw [c16b0]) | skip)
          have H' := A0q12_ H
          clear H
          have hnb17 := NB177_175.out
          have hnc17 := NB175_177.out
          have hcz18_0 : w9.cell? ⟨gb177, 0, none⟩ = some (.int .i64 0) := (blk_cell BK177.out 0).trans rfl
          have hcz18_1 : w9.cell? ⟨gb177, 1, none⟩ = some (.int .i64 0) := (blk_cell BK177.out 1).trans rfl
          have hcz18_2 : w9.cell? ⟨gb177, 2, none⟩ = some (.slice none 0 0) := (blk_cell BK177.out 2).trans rfl
          have hfz18_0 := blk_frozen BK177.out 0
          have hfz18_1 := blk_frozen BK177.out 1
          have hfz18_2 := blk_frozen BK177.out 2
          go_wp2_with (first | (go_at_call 118; (with_reducible refine (counterfoilref12_fits.calls ((rd_T99 l0_0 x4_1).f0) true _ A12.out).mono ?_); rintro e w' ⟨rfl, ⟨nd, rfl⟩⟩; (try first | exact ⟨rfl, _, World.drewN_drewN _ _ _⟩ | exact ⟨rfl, _, Eq.trans (World.drewN_drewN _ _ _) (congrArg (World.drewN _) (Nat.add_assoc _ _ _))⟩)) | (go_at_call 118; (with_reducible refine (counterfoilref12_fits.calls ((rd_T99 l0_0 x4_1).f1) true _ A14.out).mono ?_); rintro e w' ⟨rfl, ⟨nd, rfl⟩⟩; (try first | exact ⟨rfl, _, World.drewN_drewN _ _ _⟩ | exact ⟨rfl, _, Eq.trans (World.drewN_drewN _ _ _) (congrArg (World.drewN _) (Nat.add_assoc _ _ _))⟩)))
          repeat (go_quiet (first | (go_at_call 118; (with_reducible refine (counterfoilref12_fits.calls ((rd_T99 l0_0 x4_1).f0) true _ A12.out).mono ?_); rintro e w' ⟨rfl, ⟨nd, rfl⟩⟩; (try first | exact ⟨rfl, _, World.drewN_drewN _ _ _⟩ | exact ⟨rfl, _, Eq.trans (World.drewN_drewN _ _ _) (congrArg (World.drewN _) (Nat.add_assoc _ _ _))⟩)) | (go_at_call 118; (with_reducible refine (counterfoilref12_fits.calls ((rd_T99 l0_0 x4_1).f1) true _ A14.out).mono ?_); rintro e w' ⟨rfl, ⟨nd, rfl⟩⟩; (try first | exact ⟨rfl, _, World.drewN_drewN _ _ _⟩ | exact ⟨rfl, _, Eq.trans (World.drewN_drewN _ _ _) (congrArg (World.drewN _) (Nat.add_assoc _ _ _))⟩))); try go_wp2_with (first | (go_at_call 118; (with_reducible refine (counterfoilref12_fits.calls ((rd_T99 l0_0 x4_1).f0) true _ A12.out).mono ?_); rintro e w' ⟨rfl, ⟨nd, rfl⟩⟩; (try first | exact ⟨rfl, _, World.drewN_drewN _ _ _⟩ | exact ⟨rfl, _, Eq.trans (World.drewN_drewN _ _ _) (congrArg (World.drewN _) (Nat.add_assoc _ _ _))⟩)) | (go_at_call 118; (with_reducible refine (counterfoilref12_fits.calls ((rd_T99 l0_0 x4_1).f1) true _ A14.out).mono ?_); rintro e w' ⟨rfl, ⟨nd, rfl⟩⟩; (try first | exact ⟨rfl, _, World.drewN_drewN _ _ _⟩ | exact ⟨rfl, _, Eq.trans (World.drewN_drewN _ _ _) (congrArg (World.drewN _) (Nat.add_assoc _ _ _))⟩))))
          go_meet
          case rel => exact ⟨_, (true), (by first | rfl | (simp; done) | (simp [*]; done)), H', ⟨by have := HK1.out; first | omega | exact Nat.le_refl _⟩, ⟨by (with_reducible repeat (first | refine blk_drewN ?_ _ | refine blk_drew ?_ | refine blk_alloc ?_ _)); refine blk_far ?_ NB175_177.out _; (with_reducible repeat (first | refine blk_drewN ?_ _ | refine blk_drew ?_ | refine blk_alloc ?_ _)); refine blk_far ?_ NB175_177.out _; (with_reducible repeat (first | refine blk_drewN ?_ _ | refine blk_drew ?_ | refine blk_alloc ?_ _)); refine blk_far ?_ NB175_177.out _; (with_reducible repeat (first | refine blk_drewN ?_ _ | refine blk_drew ?_ | refine blk_alloc ?_ _)); exact BK175.out⟩, ⟨by (with_reducible repeat (first | refine blk_drewN ?_ _ | refine blk_drew ?_ | refine blk_alloc ?_ _)); refine blk_put (cs := #[.int .i64 ((rd_T99 l0_0 x4_1).f0), .int .i64 ((rd_T99 l0_0 x4_1).f1), .slice none 0 0]) ?_ 2 _ rfl; (with_reducible repeat (first | refine blk_drewN ?_ _ | refine blk_drew ?_ | refine blk_alloc ?_ _)); refine blk_put (cs := #[.int .i64 ((rd_T99 l0_0 x4_1).f0), .int .i64 0, .slice none 0 0]) ?_ 1 _ rfl; (with_reducible repeat (first | refine blk_drewN ?_ _ | refine blk_drew ?_ | refine blk_alloc ?_ _)); refine blk_put (cs := #[.int .i64 0, .int .i64 0, .slice none 0 0]) ?_ 0 _ rfl; (with_reducible repeat (first | refine blk_drewN ?_ _ | refine blk_drew ?_ | refine blk_alloc ?_ _)); exact BK177.out⟩, ⟨by repeat (first | (with_reducible first | exact HB.out | apply below_alloc | apply pw_below_drewN | apply below_drew1 | refine below_set ?_ GE175.out | refine below_set ?_ GE177.out) | exact HB.out)⟩⟩
         ·rw [if_neg c16] at H
          have c16b0 : decide (((rd_T99 l0_0 x4_1).f1) ≤ ((rd_T99 l0_0 x4_1).f0)) = false := decide_eq_false c16
          clear c16
          (first | rw [c16b0] | (simp only [i64_w, i32_w]; rw [c16b0]) | skip)
          replace H := Option.bind_eq_some_iff.mp H
          obtain ⟨t180, A190, H⟩ := H
          replace H : (counterfoilref12_Right.j1 k1 (l0_0.length : Int) x4_1 (!t180) l0_0 l0_1 a0_2 a0_3 ((rd_T99 l0_0 x4_1).f0) ((rd_T99 l0_0 x4_1).f1) ((rd_T99 l0_0 x4_1).f2)) = some r := H
          have A19 := A0q12_ A190
          clear A190
          have H' := A0q12_ H
          clear H
          have hnb20 := NB177_175.out
          have hnc20 := NB175_177.out
          have hcz21_0 : w9.cell? ⟨gb177, 0, none⟩ = some (.int .i64 0) := (blk_cell BK177.out 0).trans rfl
          have hcz21_1 : w9.cell? ⟨gb177, 1, none⟩ = some (.int .i64 0) := (blk_cell BK177.out 1).trans rfl
          have hcz21_2 : w9.cell? ⟨gb177, 2, none⟩ = some (.slice none 0 0) := (blk_cell BK177.out 2).trans rfl
          have hfz21_0 := blk_frozen BK177.out 0
          have hfz21_1 := blk_frozen BK177.out 1
          have hfz21_2 := blk_frozen BK177.out 2
          go_wp2_with (first | (go_at_call 118; (with_reducible refine (counterfoilref12_fits.calls ((rd_T99 l0_0 x4_1).f0) true _ A12.out).mono ?_); rintro e w' ⟨rfl, ⟨nd, rfl⟩⟩; (try first | exact ⟨rfl, _, World.drewN_drewN _ _ _⟩ | exact ⟨rfl, _, Eq.trans (World.drewN_drewN _ _ _) (congrArg (World.drewN _) (Nat.add_assoc _ _ _))⟩)) | (go_at_call 118; (with_reducible refine (counterfoilref12_fits.calls ((rd_T99 l0_0 x4_1).f1) true _ A14.out).mono ?_); rintro e w' ⟨rfl, ⟨nd, rfl⟩⟩; (try first | exact ⟨rfl, _, World.drewN_drewN _ _ _⟩ | exact ⟨rfl, _, Eq.trans (World.drewN_drewN _ _ _) (congrArg (World.drewN _) (Nat.add_assoc _ _ _))⟩)) | (go_at_call 119; (with_reducible refine (counterfoilref12_folded.calls k1 _ _ ((rd_T99 l0_0 x4_1).f2) t180 _ ?side1 ?side2 A19.out).mono ?_); (case side1 => exact Kd.C_below HR176_2.out (by repeat (first | (with_reducible first | exact HB.out | apply below_alloc | apply pw_below_drewN | apply below_drew1 | refine below_set ?_ GE175.out | refine below_set ?_ GE177.out) | exact HB.out))); (case side2 => exact HC176_2.out); rintro e w22 ⟨rfl, hb⟩; have n0_ := A0q12_ (blk_below (g:=gb175) (o:=.cells #[.slice (some ad176) l0_0.length c0_0, .slice A0_1 l0_1.length c0_1, .int .i64 a0_2, .int .i64 a0_3] 27 (0, 0)) (by (with_reducible repeat (first | refine blk_drewN ?_ _ | refine blk_drew ?_ | refine blk_alloc ?_ _)); refine blk_far ?_ NB175_177.out _; (with_reducible repeat (first | refine blk_drewN ?_ _ | refine blk_drew ?_ | refine blk_alloc ?_ _)); refine blk_far ?_ NB175_177.out _; (with_reducible repeat (first | refine blk_drewN ?_ _ | refine blk_drew ?_ | refine blk_alloc ?_ _)); refine blk_far ?_ NB175_177.out _; (with_reducible repeat (first | refine blk_drewN ?_ _ | refine blk_drew ?_ | refine blk_alloc ?_ _)); exact BK175.out) hb); have n1_ := A0q12_ (blk_below (g:=gb177) (o:=.cells #[.int .i64 ((rd_T99 l0_0 x4_1).f0), .int .i64 ((rd_T99 l0_0 x4_1).f1), .slice A176_2 ((rd_T99 l0_0 x4_1).f2).length c176_2] 99 (0, 0)) (by (with_reducible repeat (first | refine blk_drewN ?_ _ | refine blk_drew ?_ | refine blk_alloc ?_ _)); refine blk_put (cs := #[.int .i64 ((rd_T99 l0_0 x4_1).f0), .int .i64 ((rd_T99 l0_0 x4_1).f1), .slice none 0 0]) ?_ 2 _ rfl; (with_reducible repeat (first | refine blk_drewN ?_ _ | refine blk_drew ?_ | refine blk_alloc ?_ _)); refine blk_put (cs := #[.int .i64 ((rd_T99 l0_0 x4_1).f0), .int .i64 0, .slice none 0 0]) ?_ 1 _ rfl; (with_reducible repeat (first | refine blk_drewN ?_ _ | refine blk_drew ?_ | refine blk_alloc ?_ _)); refine blk_put (cs := #[.int .i64 0, .int .i64 0, .slice none 0 0]) ?_ 0 _ rfl; (with_reducible repeat (first | refine blk_drewN ?_ _ | refine blk_drew ?_ | refine blk_alloc ?_ _)); exact BK177.out) hb); have n2_ := A0q12_ (below_step (by repeat (first | (with_reducible first | exact HB.out | apply below_alloc | apply pw_below_drewN | apply below_drew1 | refine below_set ?_ GE175.out | refine below_set ?_ GE177.out) | exact HB.out)) hb); clear BK175; clear BK177; clear HB; have BK175 := n0_; have BK177 := n1_; have HB := n2_; clear n0_ n1_ n2_; (try clear hb); (try clear hb2); (try clear hk); (try clear hi)))
          repeat (go_quiet (first | (go_at_call 118; (with_reducible refine (counterfoilref12_fits.calls ((rd_T99 l0_0 x4_1).f0) true _ A12.out).mono ?_); rintro e w' ⟨rfl, ⟨nd, rfl⟩⟩; (try first | exact ⟨rfl, _, World.drewN_drewN _ _ _⟩ | exact ⟨rfl, _, Eq.trans (World.drewN_drewN _ _ _) (congrArg (World.drewN _) (Nat.add_assoc _ _ _))⟩)) | (go_at_call 118; (with_reducible refine (counterfoilref12_fits.calls ((rd_T99 l0_0 x4_1).f1) true _ A14.out).mono ?_); rintro e w' ⟨rfl, ⟨nd, rfl⟩⟩; (try first | exact ⟨rfl, _, World.drewN_drewN _ _ _⟩ | exact ⟨rfl, _, Eq.trans (World.drewN_drewN _ _ _) (congrArg (World.drewN _) (Nat.add_assoc _ _ _))⟩)) | (go_at_call 119; (with_reducible refine (counterfoilref12_folded.calls k1 _ _ ((rd_T99 l0_0 x4_1).f2) t180 _ ?side1 ?side2 A19.out).mono ?_); (case side1 => exact Kd.C_below HR176_2.out (by repeat (first | (with_reducible first | exact HB.out | apply below_alloc | apply pw_below_drewN | apply below_drew1 | refine below_set ?_ GE175.out | refine below_set ?_ GE177.out) | exact HB.out))); (case side2 => exact HC176_2.out); rintro e w22 ⟨rfl, hb⟩; have n0_ := A0q12_ (blk_below (g:=gb175) (o:=.cells #[.slice (some ad176) l0_0.length c0_0, .slice A0_1 l0_1.length c0_1, .int .i64 a0_2, .int .i64 a0_3] 27 (0, 0)) (by (with_reducible repeat (first | refine blk_drewN ?_ _ | refine blk_drew ?_ | refine blk_alloc ?_ _)); refine blk_far ?_ NB175_177.out _; (with_reducible repeat (first | refine blk_drewN ?_ _ | refine blk_drew ?_ | refine blk_alloc ?_ _)); refine blk_far ?_ NB175_177.out _; (with_reducible repeat (first | refine blk_drewN ?_ _ | refine blk_drew ?_ | refine blk_alloc ?_ _)); refine blk_far ?_ NB175_177.out _; (with_reducible repeat (first | refine blk_drewN ?_ _ | refine blk_drew ?_ | refine blk_alloc ?_ _)); exact BK175.out) hb); have n1_ := A0q12_ (blk_below (g:=gb177) (o:=.cells #[.int .i64 ((rd_T99 l0_0 x4_1).f0), .int .i64 ((rd_T99 l0_0 x4_1).f1), .slice A176_2 ((rd_T99 l0_0 x4_1).f2).length c176_2] 99 (0, 0)) (by (with_reducible repeat (first | refine blk_drewN ?_ _ | refine blk_drew ?_ | refine blk_alloc ?_ _)); refine blk_put (cs := #[.int .i64 ((rd_T99 l0_0 x4_1).f0), .int .i64 ((rd_T99 l0_0 x4_1).f1), .slice none 0 0]) ?_ 2 _ rfl; (with_reducible repeat (first | refine blk_drewN ?_ _ | refine blk_drew ?_ | refine blk_alloc ?_ _)); refine blk_put (cs := #[.int .i64 ((rd_T99 l0_0 x4_1).f0), .int .i64 0, .slice none 0 0]) ?_ 1 _ rfl; (with_reducible repeat (first | refine blk_drewN ?_ _ | refine blk_drew ?_ | refine blk_alloc ?_ _)); refine blk_put (cs := #[.int .i64 0, .int .i64 0, .slice none 0 0]) ?_ 0 _ rfl; (with_reducible repeat (first | refine blk_drewN ?_ _ | refine blk_drew ?_ | refine blk_alloc ?_ _)); exact BK177.out) hb); have n2_ := A0q12_ (below_step (by repeat (first | (with_reducible first | exact HB.out | apply below_alloc | apply pw_below_drewN | apply below_drew1 | refine below_set ?_ GE175.out | refine below_set ?_ GE177.out) | exact HB.out)) hb); clear BK175; clear BK177; clear HB; have BK175 := n0_; have BK177 := n1_; have HB := n2_; clear n0_ n1_ n2_; (try clear hb); (try clear hb2); (try clear hk); (try clear hi))); try go_wp2_with (first | (go_at_call 118; (with_reducible refine (counterfoilref12_fits.calls ((rd_T99 l0_0 x4_1).f0) true _ A12.out).mono ?_); rintro e w' ⟨rfl, ⟨nd, rfl⟩⟩; (try first | exact ⟨rfl, _, World.drewN_drewN _ _ _⟩ | exact ⟨rfl, _, Eq.trans (World.drewN_drewN _ _ _) (congrArg (World.drewN _) (Nat.add_assoc _ _ _))⟩)) | (go_at_call 118; (with_reducible refine (counterfoilref12_fits.calls ((rd_T99 l0_0 x4_1).f1) true _ A14.out).mono ?_); rintro e w' ⟨rfl, ⟨nd, rfl⟩⟩; (try first | exact ⟨rfl, _, World.drewN_drewN _ _ _⟩ | exact ⟨rfl, _, Eq.trans (World.drewN_drewN _ _ _) (congrArg (World.drewN _) (Nat.add_assoc _ _ _))⟩)) | (go_at_call 119; (with_reducible refine (counterfoilref12_folded.calls k1 _ _ ((rd_T99 l0_0 x4_1).f2) t180 _ ?side1 ?side2 A19.out).mono ?_); (case side1 => exact Kd.C_below HR176_2.out (by repeat (first | (with_reducible first | exact HB.out | apply below_alloc | apply pw_below_drewN | apply below_drew1 | refine below_set ?_ GE175.out | refine below_set ?_ GE177.out) | exact HB.out))); (case side2 => exact HC176_2.out); rintro e w22 ⟨rfl, hb⟩; have n0_ := A0q12_ (blk_below (g:=gb175) (o:=.cells #[.slice (some ad176) l0_0.length c0_0, .slice A0_1 l0_1.length c0_1, .int .i64 a0_2, .int .i64 a0_3] 27 (0, 0)) (by (with_reducible repeat (first | refine blk_drewN ?_ _ | refine blk_drew ?_ | refine blk_alloc ?_ _)); refine blk_far ?_ NB175_177.out _; (with_reducible repeat (first | refine blk_drewN ?_ _ | refine blk_drew ?_ | refine blk_alloc ?_ _)); refine blk_far ?_ NB175_177.out _; (with_reducible repeat (first | refine blk_drewN ?_ _ | refine blk_drew ?_ | refine blk_alloc ?_ _)); refine blk_far ?_ NB175_177.out _; (with_reducible repeat (first | refine blk_drewN ?_ _ | refine blk_drew ?_ | refine blk_alloc ?_ _)); exact BK175.out) hb); have n1_ := A0q12_ (blk_below (g:=gb177) (o:=.cells #[.int .i64 ((rd_T99 l0_0 x4_1).f0), .int .i64 ((rd_T99 l0_0 x4_1).f1), .slice A176_2 ((rd_T99 l0_0 x4_1).f2).length c176_2] 99 (0, 0)) (by (with_reducible repeat (first | refine blk_drewN ?_ _ | refine blk_drew ?_ | refine blk_alloc ?_ _)); refine blk_put (cs := #[.int .i64 ((rd_T99 l0_0 x4_1).f0), .int .i64 ((rd_T99 l0_0 x4_1).f1), .slice none 0 0]) ?_ 2 _ rfl; (with_reducible repeat (first | refine blk_drewN ?_ _ | refine blk_drew ?_ | refine blk_alloc ?_ _)); refine blk_put (cs := #[.int .i64 ((rd_T99 l0_0 x4_1).f0), .int .i64 0, .slice none 0 0]) ?_ 1 _ rfl; (with_reducible repeat (first | refine blk_drewN ?_ _ | refine blk_drew ?_ | refine blk_alloc ?_ _)); refine blk_put (cs := #[.int .i64 0, .int .i64 0, .slice none 0 0]) ?_ 0 _ rfl; (with_reducible repeat (first | refine blk_drewN ?_ _ | refine blk_drew ?_ | refine blk_alloc ?_ _)); exact BK177.out) hb); have n2_ := A0q12_ (below_step (by repeat (first | (with_reducible first | exact HB.out | apply below_alloc | apply pw_below_drewN | apply below_drew1 | refine below_set ?_ GE175.out | refine below_set ?_ GE177.out) | exact HB.out)) hb); clear BK175; clear BK177; clear HB; have BK175 := n0_; have BK177 := n1_; have HB := n2_; clear n0_ n1_ n2_; (try clear hb); (try clear hb2); (try clear hk); (try clear hi))))
          go_meet
          case rel => exact ⟨_, (!t180), (by first | rfl | (simp; done) | (simp [*]; done)), H', ⟨by have := HK1.out; first | omega | exact Nat.le_refl _⟩, ⟨by (with_reducible repeat (first | refine blk_drewN ?_ _ | refine blk_drew ?_ | refine blk_alloc ?_ _)); exact BK175.out⟩, ⟨by (with_reducible repeat (first | refine blk_drewN ?_ _ | refine blk_drew ?_ | refine blk_alloc ?_ _)); exact BK177.out⟩, ⟨by repeat (first | (with_reducible first | exact HB.out | apply below_alloc | apply pw_below_drewN | apply below_drew1 | refine below_set ?_ GE175.out | refine below_set ?_ GE177.out) | exact HB.out)⟩⟩
        ·replace c15 := Bool.eq_false_iff.mpr c15
         subst c15
         have H1 : (counterfoilref12_Right.j1 k1 (l0_0.length : Int) x4_1 true l0_0 l0_1 a0_2 a0_3 ((rd_T99 l0_0 x4_1).f0) ((rd_T99 l0_0 x4_1).f1) ((rd_T99 l0_0 x4_1).f2)) = some r := by rw [if_neg (show ¬ (false = true) by decide)] at H; exact H
         clear H
         have H := H1
         clear H1
         have H' := A0q12_ H
         clear H
         have hnb23 := NB177_175.out
         have hnc23 := NB175_177.out
         have hcz24_0 : w9.cell? ⟨gb177, 0, none⟩ = some (.int .i64 0) := (blk_cell BK177.out 0).trans rfl
         have hcz24_1 : w9.cell? ⟨gb177, 1, none⟩ = some (.int .i64 0) := (blk_cell BK177.out 1).trans rfl
         have hcz24_2 : w9.cell? ⟨gb177, 2, none⟩ = some (.slice none 0 0) := (blk_cell BK177.out 2).trans rfl
         have hfz24_0 := blk_frozen BK177.out 0
         have hfz24_1 := blk_frozen BK177.out 1
         have hfz24_2 := blk_frozen BK177.out 2
         go_wp2_with (first | (go_at_call 118; (with_reducible refine (counterfoilref12_fits.calls ((rd_T99 l0_0 x4_1).f0) true _ A12.out).mono ?_); rintro e w' ⟨rfl, ⟨nd, rfl⟩⟩; (try first | exact ⟨rfl, _, World.drewN_drewN _ _ _⟩ | exact ⟨rfl, _, Eq.trans (World.drewN_drewN _ _ _) (congrArg (World.drewN _) (Nat.add_assoc _ _ _))⟩)) | (go_at_call 118; (with_reducible refine (counterfoilref12_fits.calls ((rd_T99 l0_0 x4_1).f1) false _ A14.out).mono ?_); rintro e w' ⟨rfl, ⟨nd, rfl⟩⟩; (try first | exact ⟨rfl, _, World.drewN_drewN _ _ _⟩ | exact ⟨rfl, _, Eq.trans (World.drewN_drewN _ _ _) (congrArg (World.drewN _) (Nat.add_assoc _ _ _))⟩)))
         repeat (go_quiet (first | (go_at_call 118; (with_reducible refine (counterfoilref12_fits.calls ((rd_T99 l0_0 x4_1).f0) true _ A12.out).mono ?_); rintro e w' ⟨rfl, ⟨nd, rfl⟩⟩; (try first | exact ⟨rfl, _, World.drewN_drewN _ _ _⟩ | exact ⟨rfl, _, Eq.trans (World.drewN_drewN _ _ _) (congrArg (World.drewN _) (Nat.add_assoc _ _ _))⟩)) | (go_at_call 118; (with_reducible refine (counterfoilref12_fits.calls ((rd_T99 l0_0 x4_1).f1) false _ A14.out).mono ?_); rintro e w' ⟨rfl, ⟨nd, rfl⟩⟩; (try first | exact ⟨rfl, _, World.drewN_drewN _ _ _⟩ | exact ⟨rfl, _, Eq.trans (World.drewN_drewN _ _ _) (congrArg (World.drewN _) (Nat.add_assoc _ _ _))⟩))); try go_wp2_with (first | (go_at_call 118; (with_reducible refine (counterfoilref12_fits.calls ((rd_T99 l0_0 x4_1).f0) true _ A12.out).mono ?_); rintro e w' ⟨rfl, ⟨nd, rfl⟩⟩; (try first | exact ⟨rfl, _, World.drewN_drewN _ _ _⟩ | exact ⟨rfl, _, Eq.trans (World.drewN_drewN _ _ _) (congrArg (World.drewN _) (Nat.add_assoc _ _ _))⟩)) | (go_at_call 118; (with_reducible refine (counterfoilref12_fits.calls ((rd_T99 l0_0 x4_1).f1) false _ A14.out).mono ?_); rintro e w' ⟨rfl, ⟨nd, rfl⟩⟩; (try first | exact ⟨rfl, _, World.drewN_drewN _ _ _⟩ | exact ⟨rfl, _, Eq.trans (World.drewN_drewN _ _ _) (congrArg (World.drewN _) (Nat.add_assoc _ _ _))⟩))))
         go_meet
         case rel => exact ⟨_, (true), (by first | rfl | (simp; done) | (simp [*]; done)), H', ⟨by have := HK1.out; first | omega | exact Nat.le_refl _⟩, ⟨by (with_reducible repeat (first | refine blk_drewN ?_ _ | refine blk_drew ?_ | refine blk_alloc ?_ _)); refine blk_far ?_ NB175_177.out _; (with_reducible repeat (first | refine blk_drewN ?_ _ | refine blk_drew ?_ | refine blk_alloc ?_ _)); refine blk_far ?_ NB175_177.out _; (with_reducible repeat (first | refine blk_drewN ?_ _ | refine blk_drew ?_ | refine blk_alloc ?_ _)); refine blk_far ?_ NB175_177.out _; (with_reducible repeat (first | refine blk_drewN ?_ _ | refine blk_drew ?_ | refine blk_alloc ?_ _)); exact BK175.out⟩, ⟨by (with_reducible repeat (first | refine blk_drewN ?_ _ | refine blk_drew ?_ | refine blk_alloc ?_ _)); refine blk_put (cs := #[.int .i64 ((rd_T99 l0_0 x4_1).f0), .int .i64 ((rd_T99 l0_0 x4_1).f1), .slice none 0 0]) ?_ 2 _ rfl; (with_reducible repeat (first | refine blk_drewN ?_ _ | refine blk_drew ?_ | refine blk_alloc ?_ _)); refine blk_put (cs := #[.int .i64 ((rd_T99 l0_0 x4_1).f0), .int .i64 0, .slice none 0 0]) ?_ 1 _ rfl; (with_reducible repeat (first | refine blk_drewN ?_ _ | refine blk_drew ?_ | refine blk_alloc ?_ _)); refine blk_put (cs := #[.int .i64 0, .int .i64 0, .slice none 0 0]) ?_ 0 _ rfl; (with_reducible repeat (first | refine blk_drewN ?_ _ | refine blk_drew ?_ | refine blk_alloc ?_ _)); exact BK177.out⟩, ⟨by repeat (first | (with_reducible first | exact HB.out | apply below_alloc | apply pw_below_drewN | apply below_drew1 | refine below_set ?_ GE175.out | refine below_set ?_ GE177.out) | exact HB.out)⟩⟩
       ·replace c13 := Bool.eq_false_iff.mpr c13
        subst c13
        have H1 : (counterfoilref12_Right.j1 k1 (l0_0.length : Int) x4_1 true l0_0 l0_1 a0_2 a0_3 ((rd_T99 l0_0 x4_1).f0) ((rd_T99 l0_0 x4_1).f1) ((rd_T99 l0_0 x4_1).f2)) = some r := by rw [if_neg (show ¬ (false = true) by decide)] at H; exact H
        clear H
        have H := H1
        clear H1
        have H' := A0q12_ H
        clear H
        have hnb25 := NB177_175.out
        have hnc25 := NB175_177.out
        have hcz26_0 : w9.cell? ⟨gb177, 0, none⟩ = some (.int .i64 0) := (blk_cell BK177.out 0).trans rfl
        have hcz26_1 : w9.cell? ⟨gb177, 1, none⟩ = some (.int .i64 0) := (blk_cell BK177.out 1).trans rfl
        have hcz26_2 : w9.cell? ⟨gb177, 2, none⟩ = some (.slice none 0 0) := (blk_cell BK177.out 2).trans rfl
        have hfz26_0 := blk_frozen BK177.out 0
        have hfz26_1 := blk_frozen BK177.out 1
        have hfz26_2 := blk_frozen BK177.out 2
        go_wp2_with (first | (go_at_call 118; (with_reducible refine (counterfoilref12_fits.calls ((rd_T99 l0_0 x4_1).f0) false _ A12.out).mono ?_); rintro e w' ⟨rfl, ⟨nd, rfl⟩⟩; (try first | exact ⟨rfl, _, World.drewN_drewN _ _ _⟩ | exact ⟨rfl, _, Eq.trans (World.drewN_drewN _ _ _) (congrArg (World.drewN _) (Nat.add_assoc _ _ _))⟩)))
        repeat (go_quiet (first | (go_at_call 118; (with_reducible refine (counterfoilref12_fits.calls ((rd_T99 l0_0 x4_1).f0) false _ A12.out).mono ?_); rintro e w' ⟨rfl, ⟨nd, rfl⟩⟩; (try first | exact ⟨rfl, _, World.drewN_drewN _ _ _⟩ | exact ⟨rfl, _, Eq.trans (World.drewN_drewN _ _ _) (congrArg (World.drewN _) (Nat.add_assoc _ _ _))⟩))); try go_wp2_with (first | (go_at_call 118; (with_reducible refine (counterfoilref12_fits.calls ((rd_T99 l0_0 x4_1).f0) false _ A12.out).mono ?_); rintro e w' ⟨rfl, ⟨nd, rfl⟩⟩; (try first | exact ⟨rfl, _, World.drewN_drewN _ _ _⟩ | exact ⟨rfl, _, Eq.trans (World.drewN_drewN _ _ _) (congrArg (World.drewN _) (Nat.add_assoc _ _ _))⟩))))
        go_meet
        case rel => exact ⟨_, (true), (by first | rfl | (simp; done) | (simp [*]; done)), H', ⟨by have := HK1.out; first | omega | exact Nat.le_refl _⟩, ⟨by (with_reducible repeat (first | refine blk_drewN ?_ _ | refine blk_drew ?_ | refine blk_alloc ?_ _)); refine blk_far ?_ NB175_177.out _; (with_reducible repeat (first | refine blk_drewN ?_ _ | refine blk_drew ?_ | refine blk_alloc ?_ _)); refine blk_far ?_ NB175_177.out _; (with_reducible repeat (first | refine blk_drewN ?_ _ | refine blk_drew ?_ | refine blk_alloc ?_ _)); refine blk_far ?_ NB175_177.out _; (with_reducible repeat (first | refine blk_drewN ?_ _ | refine blk_drew ?_ | refine blk_alloc ?_ _)); exact BK175.out⟩, ⟨by (with_reducible repeat (first | refine blk_drewN ?_ _ | refine blk_drew ?_ | refine blk_alloc ?_ _)); refine blk_put (cs := #[.int .i64 ((rd_T99 l0_0 x4_1).f0), .int .i64 ((rd_T99 l0_0 x4_1).f1), .slice none 0 0]) ?_ 2 _ rfl; (with_reducible repeat (first | refine blk_drewN ?_ _ | refine blk_drew ?_ | refine blk_alloc ?_ _)); refine blk_put (cs := #[.int .i64 ((rd_T99 l0_0 x4_1).f0), .int .i64 0, .slice none 0 0]) ?_ 1 _ rfl; (with_reducible repeat (first | refine blk_drewN ?_ _ | refine blk_drew ?_ | refine blk_alloc ?_ _)); refine blk_put (cs := #[.int .i64 0, .int .i64 0, .slice none 0 0]) ?_ 0 _ rfl; (with_reducible repeat (first | refine blk_drewN ?_ _ | refine blk_drew ?_ | refine blk_alloc ?_ _)); exact BK177.out⟩, ⟨by repeat (first | (with_reducible first | exact HB.out | apply below_alloc | apply pw_below_drewN | apply below_drew1 | refine below_set ?_ GE175.out | refine below_set ?_ GE177.out) | exact HB.out)⟩⟩
      case rest =>
       clear HC7
       try clear c1
       try clear p1
       try clear q1
       try clear hx1
       try clear c2
       try clear p2
       try clear c4
       try clear c4b0
       try clear c5
       try clear c5b0
       try clear c6
       try clear c6b0
       try clear c7
       try clear c10
       try clear c13
       try clear c15
       try clear c16
       try clear c16b0
       try clear c17
       try clear p17
       try clear q17
       try clear hx17
       try clear c20
       try clear c23
       try clear c25
       try clear hcz11_0
       try clear hcz11_1
       try clear hcz11_2
       try clear hcz18_0
       try clear hcz18_1
       try clear hcz18_2
       try clear hcz21_0
       try clear hcz21_1
       try clear hcz21_2
       try clear hcz24_0
       try clear hcz24_1
       try clear hcz24_2
       try clear hcz26_0
       try clear hcz26_1
       try clear hcz26_2
       try clear hcz3_0
       try clear hcz3_1
       try clear hcz3_2
       try clear hcz3_3
       try clear hcz8_0
       try clear hcz8_1
       try clear hcz8_2
       try clear hcz8_3
       try clear hfz11_0
       try clear hfz11_1
       try clear hfz11_2
       try clear hfz18_0
       try clear hfz18_1
       try clear hfz18_2
       try clear hfz21_0
       try clear hfz21_1
       try clear hfz21_2
       try clear hfz24_0
       try clear hfz24_1
       try clear hfz24_2
       try clear hfz26_0
       try clear hfz26_1
       try clear hfz26_2
       try clear hfz3_0
       try clear hfz3_1
       try clear hfz3_2
       try clear hfz3_3
       try clear hfz8_0
       try clear hfz8_1
       try clear hfz8_2
       try clear hfz8_3
       try clear hx176_0
       try clear hx176_1
       try clear hx176_2
       try clear p176
       try clear p2
       try clear q176
       obtain ⟨kq, x41_6, rfl, HA, HJ6, BK175, BK177, HB⟩ := hcut
       cases kq with
       | zero => exact absurd HA.out (by simp [counterfoilref12_Right.j1])
       | succ kj6 =>
        have H := HA.out
        clear HA
        simp only [counterfoilref12_Right.j1] at H
        by_cases c27 : x41_6 = true
        ·subst c27
         have H1 : (some false) = some r := by rw [if_pos rfl] at H; exact H
         clear H
         have H := H1
         clear H1
         obtain rfl := Option.some.inj H
         go_wp2
         repeat (go_quiet (fail); try go_wp2)
         go_ret
         exact ⟨by first | rfl | (simp [errW_none, errW_some] <;> rfl) | (simp [*, errW_none, errW_some] <;> rfl), by repeat (first | (with_reducible first | exact HB.out | apply below_alloc | apply pw_below_drewN | apply below_drew1 | refine below_set ?_ GE175.out | refine below_set ?_ GE177.out) | exact HB.out)⟩
        ·replace c27 := Bool.eq_false_iff.mpr c27
         subst c27
         have H1 : (if x4_1 > 0 then (if 0 ≤ (wrap64 (x4_1 - 1)) then (if (wrap64 (x4_1 - 1)) < (l0_0.length : Int) then (if ((rd_T99 l0_0 (wrap64 (x4_1 - 1))).f1) = ((rd_T99 l0_0 x4_1).f0) then (counterfoilref12_Right.l0 kj6 (l0_0.length : Int) (wrap64 (x4_1 + 1)) l0_0 l0_1 a0_2 a0_3) else (some false)) else (none)) else (none)) else (counterfoilref12_Right.l0 kj6 (l0_0.length : Int) (wrap64 (x4_1 + 1)) l0_0 l0_1 a0_2 a0_3)) = some r := by rw [if_neg (show ¬ (false = true) by decide)] at H; exact H
         clear H
         have H := H1
         clear H1
         by_cases c28 : x4_1 > 0
         ·rw [if_pos c28] at H
          have c28b0 : decide (0 < x4_1) = true := decide_eq_true c28
          clear c28
          obtain ⟨ji29, hji29⟩ : ∃ j_ : Int, (wrap64 (x4_1 - 1)) = j_ := ⟨_, rfl⟩
          replace H : (if 0 ≤ (ji29) then (if (ji29) < (l0_0.length : Int) then (if ((rd_T99 l0_0 (ji29)).f1) = ((rd_T99 l0_0 x4_1).f0) then (counterfoilref12_Right.l0 kj6 (l0_0.length : Int) (wrap64 (x4_1 + 1)) l0_0 l0_1 a0_2 a0_3) else (some false)) else (none)) else (none)) = some r := by first | (rw [hji29] at H; exact H) | (simp only [hji29] at H ⊢; exact H)
          have hji29w : (IntKind.i64.wrap (x4_1 - 1)) = ji29 := (i64_w _).trans hji29
          by_cases c30 : 0 ≤ (ji29)
          ·rw [if_pos c30] at H
           have c30b0 : decide (0 ≤ (ji29)) = true := decide_eq_true c30
           clear c30
           by_cases c31 : (ji29) < (l0_0.length : Int)
           ·rw [if_pos c31] at H
            have c31b0 : decide ((ji29) < (l0_0.length : Int)) = true := decide_eq_true c31
            clear c31
            by_cases c32 : ((rd_T99 l0_0 (ji29)).f1) = ((rd_T99 l0_0 x4_1).f0)
            ·rw [if_pos c32] at H
             have c32b0 : (((rd_T99 l0_0 (ji29)).f1) == ((rd_T99 l0_0 x4_1).f0)) = true := beq_iff_eq.mpr c32
             have c32b1 : (((rd_T99 l0_0 (ji29)).f1) != ((rd_T99 l0_0 x4_1).f0)) = false := bne_eq_false_iff_eq.mpr c32
             clear c32
             have H' := A0q12_ H
             clear H
             have hnb33 := NB175_177.out
             have hnc33 := NB177_175.out
             have hcz34_0 : wc.cell? ⟨gb175, 0, none⟩ = some (.slice (some ad176) l0_0.length c0_0) := (blk_cell BK175.out 0).trans rfl
             have hcz34_1 : wc.cell? ⟨gb175, 1, none⟩ = some (.slice A0_1 l0_1.length c0_1) := (blk_cell BK175.out 1).trans rfl
             have hcz34_2 : wc.cell? ⟨gb175, 2, none⟩ = some (.int .i64 a0_2) := (blk_cell BK175.out 2).trans rfl
             have hcz34_3 : wc.cell? ⟨gb175, 3, none⟩ = some (.int .i64 a0_3) := (blk_cell BK175.out 3).trans rfl
             have hfz34_0 := blk_frozen BK175.out 0
             have hfz34_1 := blk_frozen BK175.out 1
             have hfz34_2 := blk_frozen BK175.out 2
             have hfz34_3 := blk_frozen BK175.out 3
             have p181 : 0 ≤ ((ji29) : Int) := of_decide_eq_true (by first | (with_reducible assumption) | assumption)
             have q181 : (ji29) < (l0_0.length : Int) := of_decide_eq_true (by first | (with_reducible assumption) | assumption)
             obtain ⟨ad181, A181_2, c181_2, e181, hx181_0, hx181_1, hx181_2, hl181_2, hi181_2⟩ := at_T99 HR0_0.out (ji29) p181 q181
             obtain rfl : ad176 = ad181 := (by injection e181)
             replace hx181_0 := (HB.out.cell (World.block_lt_of_cell? w _ hx181_0)).trans hx181_0
             replace hx181_1 := (HB.out.cell (World.block_lt_of_cell? w _ hx181_1)).trans hx181_1
             replace hx181_2 := (HB.out.cell (World.block_lt_of_cell? w _ hx181_2)).trans hx181_2
             have HR181_2 := A0q12_ hi181_2
             have HC181_2 := A0q12_ hl181_2
             clear hi181_2 hl181_2
             replace p181 := eq_true p181
             replace q181 := eq_true q181
             have hcz35_0 : wc.cell? ⟨gb177, 0, none⟩ = some (.int .i64 ((rd_T99 l0_0 x4_1).f0)) := (blk_cell BK177.out 0).trans rfl
             have hcz35_1 : wc.cell? ⟨gb177, 1, none⟩ = some (.int .i64 ((rd_T99 l0_0 x4_1).f1)) := (blk_cell BK177.out 1).trans rfl
             have hcz35_2 : wc.cell? ⟨gb177, 2, none⟩ = some (.slice A176_2 ((rd_T99 l0_0 x4_1).f2).length c176_2) := (blk_cell BK177.out 2).trans rfl
             have hfz35_0 := blk_frozen BK177.out 0
             have hfz35_1 := blk_frozen BK177.out 1
             have hfz35_2 := blk_frozen BK177.out 2
             go_wp2
             repeat (go_quiet (fail); try go_wp2)
             go_roundg kj6
             case measure => have := HK1.out; have := HJ6.out; omega
             case rel => exact ⟨(wrap64 (x4_1 + 1)), (by first | rfl | (simp; done) | (simp [*]; done)), H', ⟨by have := HK1.out; have := HJ6.out; omega⟩, ⟨by (with_reducible repeat (first | refine blk_drewN ?_ _ | refine blk_drew ?_ | refine blk_alloc ?_ _)); exact BK175.out⟩, ⟨by repeat (first | (with_reducible first | exact HB.out | apply below_alloc | apply pw_below_drewN | apply below_drew1 | refine below_set ?_ GE175.out | refine below_set ?_ GE177.out) | exact HB.out)⟩⟩
            ·rw [if_neg c32] at H
             have c32b0 : (((rd_T99 l0_0 (ji29)).f1) == ((rd_T99 l0_0 x4_1).f0)) = false := beq_eq_false_iff_ne.mpr c32
             have c32b1 : (((rd_T99 l0_0 (ji29)).f1) != ((rd_T99 l0_0 x4_1).f0)) = true := bne_iff_ne.mpr c32
             obtain rfl := Option.some.inj H
             have hnb36 := NB175_177.out
             have hnc36 := NB177_175.out
             have hcz37_0 : wc.cell? ⟨gb175, 0, none⟩ = some (.slice (some ad176) l0_0.length c0_0) := (blk_cell BK175.out 0).trans rfl
             have hcz37_1 : wc.cell? ⟨gb175, 1, none⟩ = some (.slice A0_1 l0_1.length c0_1) := (blk_cell BK175.out 1).trans rfl
             have hcz37_2 : wc.cell? ⟨gb175, 2, none⟩ = some (.int .i64 a0_2) := (blk_cell BK175.out 2).trans rfl
             have hcz37_3 : wc.cell? ⟨gb175, 3, none⟩ = some (.int .i64 a0_3) := (blk_cell BK175.out 3).trans rfl
             have hfz37_0 := blk_frozen BK175.out 0
             have hfz37_1 := blk_frozen BK175.out 1
             have hfz37_2 := blk_frozen BK175.out 2
             have hfz37_3 := blk_frozen BK175.out 3
             have p181 : 0 ≤ ((ji29) : Int) := of_decide_eq_true (by first | (with_reducible assumption) | assumption)
             have q181 : (ji29) < (l0_0.length : Int) := of_decide_eq_true (by first | (with_reducible assumption) | assumption)
             obtain ⟨ad181, A181_2, c181_2, e181, hx181_0, hx181_1, hx181_2, hl181_2, hi181_2⟩ := at_T99 HR0_0.out (ji29) p181 q181
             obtain rfl : ad176 = ad181 := (by injection e181)
             replace hx181_0 := (HB.out.cell (World.block_lt_of_cell? w _ hx181_0)).trans hx181_0
             replace hx181_1 := (HB.out.cell (World.block_lt_of_cell? w _ hx181_1)).trans hx181_1
             replace hx181_2 := (HB.out.cell (World.block_lt_of_cell? w _ hx181_2)).trans hx181_2
             have HR181_2 := A0q12_ hi181_2
             have HC181_2 := A0q12_ hl181_2
             clear hi181_2 hl181_2
             replace p181 := eq_true p181
             replace q181 := eq_true q181
             have hcz38_0 : wc.cell? ⟨gb177, 0, none⟩ = some (.int .i64 ((rd_T99 l0_0 x4_1).f0)) := (blk_cell BK177.out 0).trans rfl
             have hcz38_1 : wc.cell? ⟨gb177, 1, none⟩ = some (.int .i64 ((rd_T99 l0_0 x4_1).f1)) := (blk_cell BK177.out 1).trans rfl
             have hcz38_2 : wc.cell? ⟨gb177, 2, none⟩ = some (.slice A176_2 ((rd_T99 l0_0 x4_1).f2).length c176_2) := (blk_cell BK177.out 2).trans rfl
             have hfz38_0 := blk_frozen BK177.out 0
             have hfz38_1 := blk_frozen BK177.out 1
             have hfz38_2 := blk_frozen BK177.out 2
             go_wp2
             repeat (go_quiet (fail); try go_wp2)
             go_ret
             exact ⟨by first | rfl | (simp [errW_none, errW_some] <;> rfl) | (simp only [← hji29]; first | rfl | (simp [errW_none, errW_some] <;> rfl)) | (simp [*, errW_none, errW_some] <;> rfl), by repeat (first | (with_reducible first | exact HB.out | apply below_alloc | apply pw_below_drewN | apply below_drew1 | refine below_set ?_ GE175.out | refine below_set ?_ GE177.out) | exact HB.out)⟩
           ·rw [if_neg c31] at H
            exact absurd H (by simp)
          ·rw [if_neg c30] at H
           exact absurd H (by simp)
         ·rw [if_neg c28] at H
          have c28b0 : decide (0 < x4_1) = false := decide_eq_false c28
          clear c28
          have H' := A0q12_ H
          clear H
          go_wp2
          repeat (go_quiet (fail); try go_wp2)
          go_roundg kj6
          case measure => have := HK1.out; have := HJ6.out; omega
          case rel => exact ⟨(wrap64 (x4_1 + 1)), (by first | rfl | (simp; done) | (simp [*]; done)), H', ⟨by have := HK1.out; have := HJ6.out; omega⟩, ⟨by (with_reducible repeat (first | refine blk_drewN ?_ _ | refine blk_drew ?_ | refine blk_alloc ?_ _)); exact BK175.out⟩, ⟨by repeat (first | (with_reducible first | exact HB.out | apply below_alloc | apply pw_below_drewN | apply below_drew1 | refine below_set ?_ GE175.out | refine below_set ?_ GE177.out) | exact HB.out)⟩⟩
     ·rw [if_neg c6] at H
      exact absurd H (by simp)
    ·rw [if_neg c5] at H
     exact absurd H (by simp)
   ·rw [if_neg c4] at H
    have c4b0 : decide (x4_1 < (l0_0.length : Int)) = false := decide_eq_false c4
    clear c4
    have HC39 := A0q12_ H
    clear H
    go_upto_region 10 with (fail)
    repeat (go_quiet (fail); go_upto_region 10 with (fail))
    go_cut [69] (fun v69 wc => ∃ (kq : Nat) (x69_38 : Bool), v69 = .bool x69_38 ∧ Aside0 (counterfoilref12_Right.j2 kq x69_38 l0_0 l0_1 a0_2 a0_3 = some r) ∧ Aside0 (kq ≤ k1) ∧ Aside0 (wc.heap[gb175]? = some (.cells #[(.slice A0_0 l0_0.length c0_0), (.slice A0_1 l0_1.length c0_1), .int .i64 a0_2, .int .i64 a0_3] 27 (0, 0))) ∧ Aside0 (Below w.heap.size w wc))
    case first =>
     have H := HC39.out
     clear HC39
     by_cases c40 : (l0_0.length : Int) > 0
     ·rw [if_pos c40] at H
      have c40b0 : decide (0 < (l0_0.length : Int)) = true := decide_eq_true c40
      have c40b1 : decide (0 < l0_0.length) = true := decide_eq_true (by omega)
      clear c40
      (first | rw [c40b0] | (simp only [i64_w, i32_w]; rw [c40b0]) | skip)
      obtain ⟨ji41, hji41⟩ : ∃ j_ : Int, (wrap64 ((l0_0.length : Int) - 1)) = j_ := ⟨_, rfl⟩
      replace H : (if 0 ≤ (ji41) then (if (ji41) < (l0_0.length : Int) then (counterfoilref12_Right.j2 k1 (((rd_T99 l0_0 (ji41)).f1) != a0_2) l0_0 l0_1 a0_2 a0_3) else (none)) else (none)) = some r := by first | (rw [hji41] at H; exact H) | (simp only [hji41] at H ⊢; exact H)
      have hji41w : (IntKind.i64.wrap ((l0_0.length : Int) - 1)) = ji41 := (i64_w _).trans hji41
      by_cases c42 : 0 ≤ (ji41)
      ·rw [if_pos c42] at H
       have c42b0 : decide (0 ≤ (ji41)) = true := decide_eq_true c42
       clear c42
       by_cases c43 : (ji41) < (l0_0.length : Int)
       ·rw [if_pos c43] at H
        have c43b0 : decide ((ji41) < (l0_0.length : Int)) = true := decide_eq_true c43
        clear c43
        have H' := A0q12_ H
        clear H
        have hcz44_0 : wr.cell? ⟨gb175, 0, none⟩ = some (.slice A0_0 l0_0.length c0_0) := (blk_cell BK175.out 0).trans rfl
        have hcz44_1 : wr.cell? ⟨gb175, 1, none⟩ = some (.slice A0_1 l0_1.length c0_1) := (blk_cell BK175.out 1).trans rfl
        have hcz44_2 : wr.cell? ⟨gb175, 2, none⟩ = some (.int .i64 a0_2) := (blk_cell BK175.out 2).trans rfl
        have hcz44_3 : wr.cell? ⟨gb175, 3, none⟩ = some (.int .i64 a0_3) := (blk_cell BK175.out 3).trans rfl
        have hfz44_0 := blk_frozen BK175.out 0
        have hfz44_1 := blk_frozen BK175.out 1
        have hfz44_2 := blk_frozen BK175.out 2
        have hfz44_3 := blk_frozen BK175.out 3
        have p182 : 0 ≤ ((ji41) : Int) := of_decide_eq_true (by first | (with_reducible assumption) | assumption)
        have q182 : (ji41) < (l0_0.length : Int) := of_decide_eq_true (by first | (with_reducible assumption) | assumption)
        obtain ⟨ad182, A182_2, c182_2, e182, hx182_0, hx182_1, hx182_2, hl182_2, hi182_2⟩ := at_T99 HR0_0.out (ji41) p182 q182
        cases e182
        replace hx182_0 := (HB.out.cell (World.block_lt_of_cell? w _ hx182_0)).trans hx182_0
        replace hx182_1 := (HB.out.cell (World.block_lt_of_cell? w _ hx182_1)).trans hx182_1
        replace hx182_2 := (HB.out.cell (World.block_lt_of_cell? w _ hx182_2)).trans hx182_2
        have HR182_2 := A0q12_ hi182_2
        have HC182_2 := A0q12_ hl182_2
        clear hi182_2 hl182_2
        replace p182 := eq_true p182
        replace q182 := eq_true q182
        go_wp2
        repeat (go_quiet (fail); try go_wp2)
        go_meet
        case rel => exact ⟨_, ((((rd_T99 l0_0 (ji41)).f1) != a0_2)), (by first | rfl | (simp; done) | (simp only [← hji41] <;> (first | rfl | simp)) | (simp [*]; done)), H', ⟨by have := HK1.out; first | omega | exact Nat.le_refl _⟩, ⟨by (with_reducible repeat (first | refine blk_drewN ?_ _ | refine blk_drew ?_ | refine blk_alloc ?_ _)); exact BK175.out⟩, ⟨by repeat (first | (with_reducible first | exact HB.out | apply below_alloc | apply pw_below_drewN | apply below_drew1 | refine below_set ?_ GE175.out) | exact HB.out)⟩⟩
       ·rw [if_neg c43] at H
        exact absurd H (by simp)
      ·rw [if_neg c42] at H
       exact absurd H (by simp)
     ·rw [if_neg c40] at H
      have c40b0 : decide (0 < (l0_0.length : Int)) = false := decide_eq_false c40
      have c40b1 : decide (0 < l0_0.length) = false := decide_eq_false (by omega)
      clear c40
      (first | rw [c40b0] | (simp only [i64_w, i32_w]; rw [c40b0]) | skip)
      have H' := A0q12_ H
      clear H
      go_wp2
      repeat (go_quiet (fail); try go_wp2)
      go_meet
      case rel => exact ⟨_, (false), (by first | rfl | (simp; done) | (simp [*]; done)), H', ⟨by have := HK1.out; first | omega | exact Nat.le_refl _⟩, ⟨by (with_reducible repeat (first | refine blk_drewN ?_ _ | refine blk_drew ?_ | refine blk_alloc ?_ _)); exact BK175.out⟩, ⟨by repeat (first | (with_reducible first | exact HB.out | apply below_alloc | apply pw_below_drewN | apply below_drew1 | refine below_set ?_ GE175.out) | exact HB.out)⟩⟩
    case rest =>
     clear HC39
     try clear c1
     try clear p1
     try clear q1
     try clear hx1
     try clear c2
     try clear p2
     try clear c3
     try clear c4
     try clear c4b0
     try clear c5
     try clear c5b0
     try clear c6
     try clear c6b0
     try clear p6
     try clear c7
     try clear c10
     try clear c13
     try clear c15
     try clear c16
     try clear c16b0
     try clear c17
     try clear p17
     try clear q17
     try clear hx17
     try clear c18
     try clear p18
     try clear q18
     try clear hx18
     try clear c20
     try clear c23
     try clear c25
     try clear c27
     try clear c28
     try clear c28b0
     try clear c30
     try clear c30b0
     try clear c31
     try clear c31b0
     try clear c32
     try clear c32b0
     try clear c32b1
     try clear c33
     try clear c36
     try clear c40
     try clear c40b0
     try clear c40b1
     try clear c42
     try clear c42b0
     try clear c43
     try clear c43b0
     try clear hcz11_0
     try clear hcz11_1
     try clear hcz11_2
     try clear hcz18_0
     try clear hcz18_1
     try clear hcz18_2
     try clear hcz21_0
     try clear hcz21_1
     try clear hcz21_2
     try clear hcz24_0
     try clear hcz24_1
     try clear hcz24_2
     try clear hcz26_0
     try clear hcz26_1
     try clear hcz26_2
     try clear hcz34_0
     try clear hcz34_1
     try clear hcz34_2
     try clear hcz34_3
     try clear hcz35_0
     try clear hcz35_1
     try clear hcz35_2
     try clear hcz37_0
     try clear hcz37_1
     try clear hcz37_2
     try clear hcz37_3
     try clear hcz38_0
     try clear hcz38_1
     try clear hcz38_2
     try clear hcz3_0
     try clear hcz3_1
     try clear hcz3_2
     try clear hcz3_3
     try clear hcz44_0
     try clear hcz44_1
     try clear hcz44_2
     try clear hcz44_3
     try clear hcz8_0
     try clear hcz8_1
     try clear hcz8_2
     try clear hcz8_3
     try clear hfz11_0
     try clear hfz11_1
     try clear hfz11_2
     try clear hfz18_0
     try clear hfz18_1
     try clear hfz18_2
     try clear hfz21_0
     try clear hfz21_1
     try clear hfz21_2
     try clear hfz24_0
     try clear hfz24_1
     try clear hfz24_2
     try clear hfz26_0
     try clear hfz26_1
     try clear hfz26_2
     try clear hfz34_0
     try clear hfz34_1
     try clear hfz34_2
     try clear hfz34_3
     try clear hfz35_0
     try clear hfz35_1
     try clear hfz35_2
     try clear hfz37_0
     try clear hfz37_1
     try clear hfz37_2
     try clear hfz37_3
     try clear hfz38_0
     try clear hfz38_1
     try clear hfz38_2
     try clear hfz3_0
     try clear hfz3_1
     try clear hfz3_2
     try clear hfz3_3
     try clear hfz44_0
     try clear hfz44_1
     try clear hfz44_2
     try clear hfz44_3
     try clear hfz8_0
     try clear hfz8_1
     try clear hfz8_2
     try clear hfz8_3
     try clear hx176_0
     try clear hx176_1
     try clear hx176_2
     try clear hx181_0
     try clear hx181_1
     try clear hx181_2
     try clear hx182_0
     try clear hx182_1
     try clear hx182_2
     try clear p1
     try clear p17
     try clear p176
     try clear p181
     try clear p182
     try clear p2
     try clear q1
     try clear q17
     try clear q176
     try clear q181
     try clear q182
     obtain ⟨kq, x69_38, rfl, HA, HJ38, BK175, HB⟩ := hcut
     cases kq with
     | zero => exact absurd HA.out (by simp [counterfoilref12_Right.j2])
     | succ kj38 =>
      have H := HA.out
      clear HA
      simp only [counterfoilref12_Right.j2] at H
      by_cases c45 : x69_38 = true
      ·subst c45
       have H1 : (some false) = some r := by rw [if_pos rfl] at H; exact H
       clear H
       have H := H1
       clear H1
       obtain rfl := Option.some.inj H
       go_wp2
       repeat (go_quiet (fail); try go_wp2)
       go_ret
       exact ⟨by first | rfl | (simp [errW_none, errW_some] <;> rfl) | (simp [*, errW_none, errW_some] <;> rfl), by repeat (first | (with_reducible first | exact HB.out | apply below_alloc | apply pw_below_drewN | apply below_drew1 | refine below_set ?_ GE175.out) | exact HB.out)⟩
      ·replace c45 := Bool.eq_false_iff.mpr c45
       subst c45
       have H1 : ((counterfoilref12_fits.f a0_2).bind fun t183 => (if t183 = true then ((counterfoilref12_fits.f a0_3).bind fun t184 => (if t184 = true then (if a0_2 > a0_3 then (some false) else ((counterfoilref12_folded.f kj38 l0_1).bind fun t185 => (if t185 = true then (if a0_2 < a0_3 then (some true) else (some ((l0_1.length : Int) == 0))) else (some false)))) else (some false))) else (some false))) = some r := by rw [if_neg (show ¬ (false = true) by decide)] at H; exact H
       clear H
       have H := H1
       clear H1
       replace H := Option.bind_eq_some_iff.mp H
       obtain ⟨t183, A460, H⟩ := H
       replace H : (if t183 = true then ((counterfoilref12_fits.f a0_3).bind fun t184 => (if t184 = true then (if a0_2 > a0_3 then (some false) else ((counterfoilref12_folded.f kj38 l0_1).bind fun t185 => (if t185 = true then (if a0_2 < a0_3 then (some true) else (some ((l0_1.length : Int) == 0))) else (some false)))) else (some false))) else (some false)) = some r := H
       have A46 := A0q12_ A460
       clear A460
       by_cases c47 : t183 = true
       ·subst c47
        have H1 : ((counterfoilref12_fits.f a0_3).bind fun t184 => (if t184 = true then (if a0_2 > a0_3 then (some false) else ((counterfoilref12_folded.f kj38 l0_1).bind fun t185 => (if t185 = true then (if a0_2 < a0_3 then (some true) else (some ((l0_1.length : Int) == 0))) else (some false)))) else (some false))) = some r := by rw [if_pos rfl] at H; exact H
        clear H
        have H := H1
        clear H1
        replace H := Option.bind_eq_some_iff.mp H
        obtain ⟨t184, A480, H⟩ := H
        replace H : (if t184 = true then (if a0_2 > a0_3 then (some false) else ((counterfoilref12_folded.f kj38 l0_1).bind fun t185 => (if t185 = true then (if a0_2 < a0_3 then (some true) else (some ((l0_1.length : Int) == 0))) else (some false)))) else (some false)) = some r := H
        have A48 := A0q12_ A480
        clear A480
        by_cases c49 : t184 = true
        ·subst c49
         have H1 : (if a0_2 > a0_3 then (some false) else ((counterfoilref12_folded.f kj38 l0_1).bind fun t185 => (if t185 = true then (if a0_2 < a0_3 then (some true) else (some ((l0_1.length : Int) == 0))) else (some false)))) = some r := by rw [if_pos rfl] at H; exact H
         clear H
         have H := H1
         clear H1
         by_cases c50 : a0_2 > a0_3
         ·rw [if_pos c50] at H
          have c50b0 : decide (a0_3 < a0_2) = true := decide_eq_true c50
          clear c50
          obtain rfl := Option.some.inj H
          have hcz51_0 : wc.cell? ⟨gb175, 0, none⟩ = some (.slice A0_0 l0_0.length c0_0) := (blk_cell BK175.out 0).trans rfl
          have hcz51_1 : wc.cell? ⟨gb175, 1, none⟩ = some (.slice A0_1 l0_1.length c0_1) := (blk_cell BK175.out 1).trans rfl
          have hcz51_2 : wc.cell? ⟨gb175, 2, none⟩ = some (.int .i64 a0_2) := (blk_cell BK175.out 2).trans rfl
          have hcz51_3 : wc.cell? ⟨gb175, 3, none⟩ = some (.int .i64 a0_3) := (blk_cell BK175.out 3).trans rfl
          have hfz51_0 := blk_frozen BK175.out 0
          have hfz51_1 := blk_frozen BK175.out 1
          have hfz51_2 := blk_frozen BK175.out 2
          have hfz51_3 := blk_frozen BK175.out 3
          go_wp2_with (first | (go_at_call 118; (with_reducible refine (counterfoilref12_fits.calls a0_2 true _ A46.out).mono ?_); rintro e w' ⟨rfl, ⟨nd, rfl⟩⟩; (try first | exact ⟨rfl, _, World.drewN_drewN _ _ _⟩ | exact ⟨rfl, _, Eq.trans (World.drewN_drewN _ _ _) (congrArg (World.drewN _) (Nat.add_assoc _ _ _))⟩)) | (go_at_call 118; (with_reducible refine (counterfoilref12_fits.calls a0_3 true _ A48.out).mono ?_); rintro e w' ⟨rfl, ⟨nd, rfl⟩⟩; (try first | exact ⟨rfl, _, World.drewN_drewN _ _ _⟩ | exact ⟨rfl, _, Eq.trans (World.drewN_drewN _ _ _) (congrArg (World.drewN _) (Nat.add_assoc _ _ _))⟩)))
          repeat (go_quiet (first | (go_at_call 118; (with_reducible refine (counterfoilref12_fits.calls a0_2 true _ A46.out).mono ?_); rintro e w' ⟨rfl, ⟨nd, rfl⟩⟩; (try first | exact ⟨rfl, _, World.drewN_drewN _ _ _⟩ | exact ⟨rfl, _, Eq.trans (World.drewN_drewN _ _ _) (congrArg (World.drewN _) (Nat.add_assoc _ _ _))⟩)) | (go_at_call 118; (with_reducible refine (counterfoilref12_fits.calls a0_3 true _ A48.out).mono ?_); rintro e w' ⟨rfl, ⟨nd, rfl⟩⟩; (try first | exact ⟨rfl, _, World.drewN_drewN _ _ _⟩ | exact ⟨rfl, _, Eq.trans (World.drewN_drewN _ _ _) (congrArg (World.drewN _) (Nat.add_assoc _ _ _))⟩))); try go_wp2_with (first | (go_at_call 118; (with_reducible refine (counterfoilref12_fits.calls a0_2 true _ A46.out).mono ?_); rintro e w' ⟨rfl, ⟨nd, rfl⟩⟩; (try first | exact ⟨rfl, _, World.drewN_drewN _ _ _⟩ | exact ⟨rfl, _, Eq.trans (World.drewN_drewN _ _ _) (congrArg (World.drewN _) (Nat.add_assoc _ _ _))⟩)) | (go_at_call 118; (with_reducible refine (counterfoilref12_fits.calls a0_3 true _ A48.out).mono ?_); rintro e w' ⟨rfl, ⟨nd, rfl⟩⟩; (try first | exact ⟨rfl, _, World.drewN_drewN _ _ _⟩ | exact ⟨rfl, _, Eq.trans (World.drewN_drewN _ _ _) (congrArg (World.drewN _) (Nat.add_assoc _ _ _))⟩))))
          go_ret
          exact ⟨by first | rfl | (simp [errW_none, errW_some] <;> rfl) | (simp [*, errW_none, errW_some] <;> rfl), by repeat (first | (with_reducible first | exact HB.out | apply below_alloc | apply pw_below_drewN | apply below_drew1 | refine below_set ?_ GE175.out) | exact HB.out)⟩
         ·rw [if_neg c50] at H
          have c50b0 : decide (a0_3 < a0_2) = false := decide_eq_false c50
          clear c50
          replace H := Option.bind_eq_some_iff.mp H
          obtain ⟨t185, A520, H⟩ := H
          replace H : (if t185 = true then (if a0_2 < a0_3 then (some true) else (some ((l0_1.length : Int) == 0))) else (some false)) = some r := H
          have A52 := A0q12_ A520
          clear A520
          by_cases c53 : t185 = true
          ·subst c53
           have H1 : (if a0_2 < a0_3 then (some true) else (some ((l0_1.length : Int) == 0))) = some r := by rw [if_pos rfl] at H; exact H
           clear H
           have H := H1
           clear H1
           by_cases c54 : a0_2 < a0_3
           ·rw [if_pos c54] at H
            have c54b0 : decide (a0_2 < a0_3) = true := decide_eq_true c54
            clear c54
            obtain rfl := Option.some.inj H
            have hcz55_0 : wc.cell? ⟨gb175, 0, none⟩ = some (.slice A0_0 l0_0.length c0_0) := (blk_cell BK175.out 0).trans rfl
            have hcz55_1 : wc.cell? ⟨gb175, 1, none⟩ = some (.slice A0_1 l0_1.length c0_1) := (blk_cell BK175.out 1).trans rfl
            have hcz55_2 : wc.cell? ⟨gb175, 2, none⟩ = some (.int .i64 a0_2) := (blk_cell BK175.out 2).trans rfl
            have hcz55_3 : wc.cell? ⟨gb175, 3, none⟩ = some (.int .i64 a0_3) := (blk_cell BK175.out 3).trans rfl
            have hfz55_0 := blk_frozen BK175.out 0
            have hfz55_1 := blk_frozen BK175.out 1
            have hfz55_2 := blk_frozen BK175.out 2
            have hfz55_3 := blk_frozen BK175.out 3
            go_wp2_with (first | (go_at_call 118; (with_reducible refine (counterfoilref12_fits.calls a0_2 true _ A46.out).mono ?_); rintro e w' ⟨rfl, ⟨nd, rfl⟩⟩; (try first | exact ⟨rfl, _, World.drewN_drewN _ _ _⟩ | exact ⟨rfl, _, Eq.trans (World.drewN_drewN _ _ _) (congrArg (World.drewN _) (Nat.add_assoc _ _ _))⟩)) | (go_at_call 118; (with_reducible refine (counterfoilref12_fits.calls a0_3 true _ A48.out).mono ?_); rintro e w' ⟨rfl, ⟨nd, rfl⟩⟩; (try first | exact ⟨rfl, _, World.drewN_drewN _ _ _⟩ | exact ⟨rfl, _, Eq.trans (World.drewN_drewN _ _ _) (congrArg (World.drewN _) (Nat.add_assoc _ _ _))⟩)) | (go_at_call 119; (with_reducible refine (counterfoilref12_folded.calls kj38 _ _ l0_1 true _ ?side1 ?side2 A52.out).mono ?_); (case side1 => repeat (first | exact (Kd.C_below HR0_1.out (by repeat (first | (with_reducible first | exact HB.out | apply below_alloc | apply pw_below_drewN | apply below_drew1 | refine below_set ?_ GE175.out) | exact HB.out))) | (with_reducible refine Kd.C_alloc ?_ _) | (with_reducible refine Kd.C_drewN ?_ _) | (with_reducible refine Kd.C_drew ?_))); (case side2 => exact HC0_1.out); rintro e w56 ⟨rfl, hb⟩; have n0_ := A0q12_ (blk_below (g:=gb175) (o:=.cells #[.slice A0_0 l0_0.length c0_0, .slice A0_1 l0_1.length c0_1, .int .i64 a0_2, .int .i64 a0_3] 27 (0, 0)) (by (with_reducible repeat (first | refine blk_drewN ?_ _ | refine blk_drew ?_ | refine blk_alloc ?_ _)); exact BK175.out) hb); have n1_ := A0q12_ (below_step (by repeat (first | (with_reducible first | exact HB.out | apply below_alloc | apply pw_below_drewN | apply below_drew1 | refine below_set ?_ GE175.out) | exact HB.out)) hb); clear BK175; clear HB; have BK175 := n0_; have HB := n1_; clear n0_ n1_; (try clear hb); (try clear hb2); (try clear hk); (try clear hi); have hcz57_0 : w56.cell? ⟨gb175, 0, none⟩ = some (.slice A0_0 l0_0.length c0_0) := (blk_cell BK175.out 0).trans rfl; have hcz57_1 : w56.cell? ⟨gb175, 1, none⟩ = some (.slice A0_1 l0_1.length c0_1) := (blk_cell BK175.out 1).trans rfl; have hcz57_2 : w56.cell? ⟨gb175, 2, none⟩ = some (.int .i64 a0_2) := (blk_cell BK175.out 2).trans rfl; have hcz57_3 : w56.cell? ⟨gb175, 3, none⟩ = some (.int .i64 a0_3) := (blk_cell BK175.out 3).trans rfl; have hfz57_0 := blk_frozen BK175.out 0; have hfz57_1 := blk_frozen BK175.out 1; have hfz57_2 := blk_frozen BK175.out 2; have hfz57_3 := blk_frozen BK175.out 3))
            repeat (go_quiet (first | (go_at_call 118; (with_reducible refine (counterfoilref12_fits.calls a0_2 true _ A46.out).mono ?_); rintro e w' ⟨rfl, ⟨nd, rfl⟩⟩; (try first | exact ⟨rfl, _, World.drewN_drewN _ _ _⟩ | exact ⟨rfl, _, Eq.trans (World.drewN_drewN _ _ _) (congrArg (World.drewN _) (Nat.add_assoc _ _ _))⟩)) | (go_at_call 118; (with_reducible refine (counterfoilref12_fits.calls a0_3 true _ A48.out).mono ?_); rintro e w' ⟨rfl, ⟨nd, rfl⟩⟩; (try first | exact ⟨rfl, _, World.drewN_drewN _ _ _⟩ | exact ⟨rfl, _, Eq.trans (World.drewN_drewN _ _ _) (congrArg (World.drewN _) (Nat.add_assoc _ _ _))⟩)) | (go_at_call 119; (with_reducible refine (counterfoilref12_folded.calls kj38 _ _ l0_1 true _ ?side1 ?side2 A52.out).mono ?_); (case side1 => repeat (first | exact (Kd.C_below HR0_1.out (by repeat (first | (with_reducible first | exact HB.out | apply below_alloc | apply pw_below_drewN | apply below_drew1 | refine below_set ?_ GE175.out) | exact HB.out))) | (with_reducible refine Kd.C_alloc ?_ _) | (with_reducible refine Kd.C_drewN ?_ _) | (with_reducible refine Kd.C_drew ?_))); (case side2 => exact HC0_1.out); rintro e w56 ⟨rfl, hb⟩; have n0_ := A0q12_ (blk_below (g:=gb175) (o:=.cells #[.slice A0_0 l0_0.length c0_0, .slice A0_1 l0_1.length c0_1, .int .i64 a0_2, .int .i64 a0_3] 27 (0, 0)) (by (with_reducible repeat (first | refine blk_drewN ?_ _ | refine blk_drew ?_ | refine blk_alloc ?_ _)); exact BK175.out) hb); have n1_ := A0q12_ (below_step (by repeat (first | (with_reducible first | exact HB.out | apply below_alloc | apply pw_below_drewN | apply below_drew1 | refine below_set ?_ GE175.out) | exact HB.out)) hb); clear BK175; clear HB; have BK175 := n0_; have HB := n1_; clear n0_ n1_; (try clear hb); (try clear hb2); (try clear hk); (try clear hi); have hcz57_0 : w56.cell? ⟨gb175, 0, none⟩ = some (.slice A0_0 l0_0.length c0_0) := (blk_cell BK175.out 0).trans rfl; have hcz57_1 : w56.cell? ⟨gb175, 1, none⟩ = some (.slice A0_1 l0_1.length c0_1) := (blk_cell BK175.out 1).trans rfl; have hcz57_2 : w56.cell? ⟨gb175, 2, none⟩ = some (.int .i64 a0_2) := (blk_cell BK175.out 2).trans rfl; have hcz57_3 : w56.cell? ⟨gb175, 3, none⟩ = some (.int .i64 a0_3) := (blk_cell BK175.out 3).trans rfl; have hfz57_0 := blk_frozen BK175.out 0; have hfz57_1 := blk_frozen BK175.out 1; have hfz57_2 := blk_frozen BK175.out 2; have hfz57_3 := blk_frozen BK175.out 3)); try go_wp2_with (first | (go_at_call 118; (with_reducible refine (counterfoilref12_fits.calls a0_2 true _ A46.out).mono ?_); rintro e w' ⟨rfl, ⟨nd, rfl⟩⟩; (try first | exact ⟨rfl, _, World.drewN_drewN _ _ _⟩ | exact ⟨rfl, _, Eq.trans (World.drewN_drewN _ _ _) (congrArg (World.drewN _) (Nat.add_assoc _ _ _))⟩)) | (go_at_call 118; (with_reducible refine (counterfoilref12_fits.calls a0_3 true _ A48.out).mono ?_); rintro e w' ⟨rfl, ⟨nd, rfl⟩⟩; (try first | exact ⟨rfl, _, World.drewN_drewN _ _ _⟩ | exact ⟨rfl, _, Eq.trans (World.drewN_drewN _ _ _) (congrArg (World.drewN _) (Nat.add_assoc _ _ _))⟩)) | (go_at_call 119; (with_reducible refine (counterfoilref12_folded.calls kj38 _ _ l0_1 true _ ?side1 ?side2 A52.out).mono ?_); (case side1 => repeat (first | exact (Kd.C_below HR0_1.out (by repeat (first | (with_reducible first | exact HB.out | apply below_alloc | apply pw_below_drewN | apply below_drew1 | refine below_set ?_ GE175.out) | exact HB.out))) | (with_reducible refine Kd.C_alloc ?_ _) | (with_reducible refine Kd.C_drewN ?_ _) | (with_reducible refine Kd.C_drew ?_))); (case side2 => exact HC0_1.out); rintro e w56 ⟨rfl, hb⟩; have n0_ := A0q12_ (blk_below (g:=gb175) (o:=.cells #[.slice A0_0 l0_0.length c0_0, .slice A0_1 l0_1.length c0_1, .int .i64 a0_2, .int .i64 a0_3] 27 (0, 0)) (by (with_reducible repeat (first | refine blk_drewN ?_ _ | refine blk_drew ?_ | refine blk_alloc ?_ _)); exact BK175.out) hb); have n1_ := A0q12_ (below_step (by repeat (first | (with_reducible first | exact HB.out | apply below_alloc | apply pw_below_drewN | apply below_drew1 | refine below_set ?_ GE175.out) | exact HB.out)) hb); clear BK175; clear HB; have BK175 := n0_; have HB := n1_; clear n0_ n1_; (try clear hb); (try clear hb2); (try clear hk); (try clear hi); have hcz57_0 : w56.cell? ⟨gb175, 0, none⟩ = some (.slice A0_0 l0_0.length c0_0) := (blk_cell BK175.out 0).trans rfl; have hcz57_1 : w56.cell? ⟨gb175, 1, none⟩ = some (.slice A0_1 l0_1.length c0_1) := (blk_cell BK175.out 1).trans rfl; have hcz57_2 : w56.cell? ⟨gb175, 2, none⟩ = some (.int .i64 a0_2) := (blk_cell BK175.out 2).trans rfl; have hcz57_3 : w56.cell? ⟨gb175, 3, none⟩ = some (.int .i64 a0_3) := (blk_cell BK175.out 3).trans rfl; have hfz57_0 := blk_frozen BK175.out 0; have hfz57_1 := blk_frozen BK175.out 1; have hfz57_2 := blk_frozen BK175.out 2; have hfz57_3 := blk_frozen BK175.out 3)))
            go_ret
            exact ⟨by first | rfl | (simp [errW_none, errW_some] <;> rfl) | (simp [*, errW_none, errW_some] <;> rfl), by repeat (first | (with_reducible first | exact HB.out | apply below_alloc | apply pw_below_drewN | apply below_drew1 | refine below_set ?_ GE175.out) | exact HB.out)⟩
           ·rw [if_neg c54] at H
            have c54b0 : decide (a0_2 < a0_3) = false := decide_eq_false c54
            clear c54
            obtain rfl := Option.some.inj H
            have hcz58_0 : wc.cell? ⟨gb175, 0, none⟩ = some (.slice A0_0 l0_0.length c0_0) := (blk_cell BK175.out 0).trans rfl
            have hcz58_1 : wc.cell? ⟨gb175, 1, none⟩ = some (.slice A0_1 l0_1.length c0_1) := (blk_cell BK175.out 1).trans rfl
            have hcz58_2 : wc.cell? ⟨gb175, 2, none⟩ = some (.int .i64 a0_2) := (blk_cell BK175.out 2).trans rfl
            have hcz58_3 : wc.cell? ⟨gb175, 3, none⟩ = some (.int .i64 a0_3) := (blk_cell BK175.out 3).trans rfl
            have hfz58_0 := blk_frozen BK175.out 0
            have hfz58_1 := blk_frozen BK175.out 1
            have hfz58_2 := blk_frozen BK175.out 2
            have hfz58_3 := blk_frozen BK175.out 3
            go_wp2_with (first | (go_at_call 118; (with_reducible refine (counterfoilref12_fits.calls a0_2 true _ A46.out).mono ?_); rintro e w' ⟨rfl, ⟨nd, rfl⟩⟩; (try first | exact ⟨rfl, _, World.drewN_drewN _ _ _⟩ | exact ⟨rfl, _, Eq.trans (World.drewN_drewN _ _ _) (congrArg (World.drewN _) (Nat.add_assoc _ _ _))⟩)) | (go_at_call 118; (with_reducible refine (counterfoilref12_fits.calls a0_3 true _ A48.out).mono ?_); rintro e w' ⟨rfl, ⟨nd, rfl⟩⟩; (try first | exact ⟨rfl, _, World.drewN_drewN _ _ _⟩ | exact ⟨rfl, _, Eq.trans (World.drewN_drewN _ _ _) (congrArg (World.drewN _) (Nat.add_assoc _ _ _))⟩)) | (go_at_call 119; (with_reducible refine (counterfoilref12_folded.calls kj38 _ _ l0_1 true _ ?side1 ?side2 A52.out).mono ?_); (case side1 => repeat (first | exact (Kd.C_below HR0_1.out (by repeat (first | (with_reducible first | exact HB.out | apply below_alloc | apply pw_below_drewN | apply below_drew1 | refine below_set ?_ GE175.out) | exact HB.out))) | (with_reducible refine Kd.C_alloc ?_ _) | (with_reducible refine Kd.C_drewN ?_ _) | (with_reducible refine Kd.C_drew ?_))); (case side2 => exact HC0_1.out); rintro e w59 ⟨rfl, hb⟩; have n0_ := A0q12_ (blk_below (g:=gb175) (o:=.cells #[.slice A0_0 l0_0.length c0_0, .slice A0_1 l0_1.length c0_1, .int .i64 a0_2, .int .i64 a0_3] 27 (0, 0)) (by (with_reducible repeat (first | refine blk_drewN ?_ _ | refine blk_drew ?_ | refine blk_alloc ?_ _)); exact BK175.out) hb); have n1_ := A0q12_ (below_step (by repeat (first | (with_reducible first | exact HB.out | apply below_alloc | apply pw_below_drewN | apply below_drew1 | refine below_set ?_ GE175.out) | exact HB.out)) hb); clear BK175; clear HB; have BK175 := n0_; have HB := n1_; clear n0_ n1_; (try clear hb); (try clear hb2); (try clear hk); (try clear hi); have hcz60_0 : w59.cell? ⟨gb175, 0, none⟩ = some (.slice A0_0 l0_0.length c0_0) := (blk_cell BK175.out 0).trans rfl; have hcz60_1 : w59.cell? ⟨gb175, 1, none⟩ = some (.slice A0_1 l0_1.length c0_1) := (blk_cell BK175.out 1).trans rfl; have hcz60_2 : w59.cell? ⟨gb175, 2, none⟩ = some (.int .i64 a0_2) := (blk_cell BK175.out 2).trans rfl; have hcz60_3 : w59.cell? ⟨gb175, 3, none⟩ = some (.int .i64 a0_3) := (blk_cell BK175.out 3).trans rfl; have hfz60_0 := blk_frozen BK175.out 0; have hfz60_1 := blk_frozen BK175.out 1; have hfz60_2 := blk_frozen BK175.out 2; have hfz60_3 := blk_frozen BK175.out 3))
            repeat (go_quiet (first | (go_at_call 118; (with_reducible refine (counterfoilref12_fits.calls a0_2 true _ A46.out).mono ?_); rintro e w' ⟨rfl, ⟨nd, rfl⟩⟩; (try first | exact ⟨rfl, _, World.drewN_drewN _ _ _⟩ | exact ⟨rfl, _, Eq.trans (World.drewN_drewN _ _ _) (congrArg (World.drewN _) (Nat.add_assoc _ _ _))⟩)) | (go_at_call 118; (with_reducible refine (counterfoilref12_fits.calls a0_3 true _ A48.out).mono ?_); rintro e w' ⟨rfl, ⟨nd, rfl⟩⟩; (try first | exact ⟨rfl, _, World.drewN_drewN _ _ _⟩ | exact ⟨rfl, _, Eq.trans (World.drewN_drewN _ _ _) (congrArg (World.drewN _) (Nat.add_assoc _ _ _))⟩)) | (go_at_call 119; (with_reducible refine (counterfoilref12_folded.calls kj38 _ _ l0_1 true _ ?side1 ?side2 A52.out).mono ?_); (case side1 => repeat (first | exact (Kd.C_below HR0_1.out (by repeat (first | (with_reducible first | exact HB.out | apply below_alloc | apply pw_below_drewN | apply below_drew1 | refine below_set ?_ GE175.out) | exact HB.out))) | (with_reducible refine Kd.C_alloc ?_ _) | (with_reducible refine Kd.C_drewN ?_ _) | (with_reducible refine Kd.C_drew ?_))); (case side2 => exact HC0_1.out); rintro e w59 ⟨rfl, hb⟩; have n0_ := A0q12_ (blk_below (g:=gb175) (o:=.cells #[.slice A0_0 l0_0.length c0_0, .slice A0_1 l0_1.length c0_1, .int .i64 a0_2, .int .i64 a0_3] 27 (0, 0)) (by (with_reducible repeat (first | refine blk_drewN ?_ _ | refine blk_drew ?_ | refine blk_alloc ?_ _)); exact BK175.out) hb); have n1_ := A0q12_ (below_step (by repeat (first | (with_reducible first | exact HB.out | apply below_alloc | apply pw_below_drewN | apply below_drew1 | refine below_set ?_ GE175.out) | exact HB.out)) hb); clear BK175; clear HB; have BK175 := n0_; have HB := n1_; clear n0_ n1_; (try clear hb); (try clear hb2); (try clear hk); (try clear hi); have hcz60_0 : w59.cell? ⟨gb175, 0, none⟩ = some (.slice A0_0 l0_0.length c0_0) := (blk_cell BK175.out 0).trans rfl; have hcz60_1 : w59.cell? ⟨gb175, 1, none⟩ = some (.slice A0_1 l0_1.length c0_1) := (blk_cell BK175.out 1).trans rfl; have hcz60_2 : w59.cell? ⟨gb175, 2, none⟩ = some (.int .i64 a0_2) := (blk_cell BK175.out 2).trans rfl; have hcz60_3 : w59.cell? ⟨gb175, 3, none⟩ = some (.int .i64 a0_3) := (blk_cell BK175.out 3).trans rfl; have hfz60_0 := blk_frozen BK175.out 0; have hfz60_1 := blk_frozen BK175.out 1; have hfz60_2 := blk_frozen BK175.out 2; have hfz60_3 := blk_frozen BK175.out 3)); try go_wp2_with (first | (go_at_call 118; (with_reducible refine (counterfoilref12_fits.calls a0_2 true _ A46.out).mono ?_); rintro e w' ⟨rfl, ⟨nd, rfl⟩⟩; (try first | exact ⟨rfl, _, World.drewN_drewN _ _ _⟩ | exact ⟨rfl, _, Eq.trans (World.drewN_drewN _ _ _) (congrArg (World.drewN _) (Nat.add_assoc _ _ _))⟩)) | (go_at_call 118; (with_reducible refine (counterfoilref12_fits.calls a0_3 true _ A48.out).mono ?_); rintro e w' ⟨rfl, ⟨nd, rfl⟩⟩; (try first | exact ⟨rfl, _, World.drewN_drewN _ _ _⟩ | exact ⟨rfl, _, Eq.trans (World.drewN_drewN _ _ _) (congrArg (World.drewN _) (Nat.add_assoc _ _ _))⟩)) | (go_at_call 119; (with_reducible refine (counterfoilref12_folded.calls kj38 _ _ l0_1 true _ ?side1 ?side2 A52.out).mono ?_); (case side1 => repeat (first | exact (Kd.C_below HR0_1.out (by repeat (first | (with_reducible first | exact HB.out | apply below_alloc | apply pw_below_drewN | apply below_drew1 | refine below_set ?_ GE175.out) | exact HB.out))) | (with_reducible refine Kd.C_alloc ?_ _) | (with_reducible refine Kd.C_drewN ?_ _) | (with_reducible refine Kd.C_drew ?_))); (case side2 => exact HC0_1.out); rintro e w59 ⟨rfl, hb⟩; have n0_ := A0q12_ (blk_below (g:=gb175) (o:=.cells #[.slice A0_0 l0_0.length c0_0, .slice A0_1 l0_1.length c0_1, .int .i64 a0_2, .int .i64 a0_3] 27 (0, 0)) (by (with_reducible repeat (first | refine blk_drewN ?_ _ | refine blk_drew ?_ | refine blk_alloc ?_ _)); exact BK175.out) hb); have n1_ := A0q12_ (below_step (by repeat (first | (with_reducible first | exact HB.out | apply below_alloc | apply pw_below_drewN | apply below_drew1 | refine below_set ?_ GE175.out) | exact HB.out)) hb); clear BK175; clear HB; have BK175 := n0_; have HB := n1_; clear n0_ n1_; (try clear hb); (try clear hb2); (try clear hk); (try clear hi); have hcz60_0 : w59.cell? ⟨gb175, 0, none⟩ = some (.slice A0_0 l0_0.length c0_0) := (blk_cell BK175.out 0).trans rfl; have hcz60_1 : w59.cell? ⟨gb175, 1, none⟩ = some (.slice A0_1 l0_1.length c0_1) := (blk_cell BK175.out 1).trans rfl; have hcz60_2 : w59.cell? ⟨gb175, 2, none⟩ = some (.int .i64 a0_2) := (blk_cell BK175.out 2).trans rfl; have hcz60_3 : w59.cell? ⟨gb175, 3, none⟩ = some (.int .i64 a0_3) := (blk_cell BK175.out 3).trans rfl; have hfz60_0 := blk_frozen BK175.out 0; have hfz60_1 := blk_frozen BK175.out 1; have hfz60_2 := blk_frozen BK175.out 2; have hfz60_3 := blk_frozen BK175.out 3)))
            go_ret
            exact ⟨by first | rfl | (simp [errW_none, errW_some] <;> rfl) | (simp [*, errW_none, errW_some] <;> rfl), by repeat (first | (with_reducible first | exact HB.out | apply below_alloc | apply pw_below_drewN | apply below_drew1 | refine below_set ?_ GE175.out) | exact HB.out)⟩
          ·replace c53 := Bool.eq_false_iff.mpr c53
           subst c53
           have H1 : (some false) = some r := by rw [if_neg (show ¬ (false = true) by decide)] at H; exact H
           clear H
           have H := H1
           clear H1
           obtain rfl := Option.some.inj H
           have hcz61_0 : wc.cell? ⟨gb175, 0, none⟩ = some (.slice A0_0 l0_0.length c0_0) := (blk_cell BK175.out 0).trans rfl
           have hcz61_1 : wc.cell? ⟨gb175, 1, none⟩ = some (.slice A0_1 l0_1.length c0_1) := (blk_cell BK175.out 1).trans rfl
           have hcz61_2 : wc.cell? ⟨gb175, 2, none⟩ = some (.int .i64 a0_2) := (blk_cell BK175.out 2).trans rfl
           have hcz61_3 : wc.cell? ⟨gb175, 3, none⟩ = some (.int .i64 a0_3) := (blk_cell BK175.out 3).trans rfl
           have hfz61_0 := blk_frozen BK175.out 0
           have hfz61_1 := blk_frozen BK175.out 1
           have hfz61_2 := blk_frozen BK175.out 2
           have hfz61_3 := blk_frozen BK175.out 3
           go_wp2_with (first | (go_at_call 118; (with_reducible refine (counterfoilref12_fits.calls a0_2 true _ A46.out).mono ?_); rintro e w' ⟨rfl, ⟨nd, rfl⟩⟩; (try first | exact ⟨rfl, _, World.drewN_drewN _ _ _⟩ | exact ⟨rfl, _, Eq.trans (World.drewN_drewN _ _ _) (congrArg (World.drewN _) (Nat.add_assoc _ _ _))⟩)) | (go_at_call 118; (with_reducible refine (counterfoilref12_fits.calls a0_3 true _ A48.out).mono ?_); rintro e w' ⟨rfl, ⟨nd, rfl⟩⟩; (try first | exact ⟨rfl, _, World.drewN_drewN _ _ _⟩ | exact ⟨rfl, _, Eq.trans (World.drewN_drewN _ _ _) (congrArg (World.drewN _) (Nat.add_assoc _ _ _))⟩)) | (go_at_call 119; (with_reducible refine (counterfoilref12_folded.calls kj38 _ _ l0_1 false _ ?side1 ?side2 A52.out).mono ?_); (case side1 => repeat (first | exact (Kd.C_below HR0_1.out (by repeat (first | (with_reducible first | exact HB.out | apply below_alloc | apply pw_below_drewN | apply below_drew1 | refine below_set ?_ GE175.out) | exact HB.out))) | (with_reducible refine Kd.C_alloc ?_ _) | (with_reducible refine Kd.C_drewN ?_ _) | (with_reducible refine Kd.C_drew ?_))); (case side2 => exact HC0_1.out); rintro e w62 ⟨rfl, hb⟩; have n0_ := A0q12_ (blk_below (g:=gb175) (o:=.cells #[.slice A0_0 l0_0.length c0_0, .slice A0_1 l0_1.length c0_1, .int .i64 a0_2, .int .i64 a0_3] 27 (0, 0)) (by (with_reducible repeat (first | refine blk_drewN ?_ _ | refine blk_drew ?_ | refine blk_alloc ?_ _)); exact BK175.out) hb); have n1_ := A0q12_ (below_step (by repeat (first | (with_reducible first | exact HB.out | apply below_alloc | apply pw_below_drewN | apply below_drew1 | refine below_set ?_ GE175.out) | exact HB.out)) hb); clear BK175; clear HB; have BK175 := n0_; have HB := n1_; clear n0_ n1_; (try clear hb); (try clear hb2); (try clear hk); (try clear hi)))
           repeat (go_quiet (first | (go_at_call 118; (with_reducible refine (counterfoilref12_fits.calls a0_2 true _ A46.out).mono ?_); rintro e w' ⟨rfl, ⟨nd, rfl⟩⟩; (try first | exact ⟨rfl, _, World.drewN_drewN _ _ _⟩ | exact ⟨rfl, _, Eq.trans (World.drewN_drewN _ _ _) (congrArg (World.drewN _) (Nat.add_assoc _ _ _))⟩)) | (go_at_call 118; (with_reducible refine (counterfoilref12_fits.calls a0_3 true _ A48.out).mono ?_); rintro e w' ⟨rfl, ⟨nd, rfl⟩⟩; (try first | exact ⟨rfl, _, World.drewN_drewN _ _ _⟩ | exact ⟨rfl, _, Eq.trans (World.drewN_drewN _ _ _) (congrArg (World.drewN _) (Nat.add_assoc _ _ _))⟩)) | (go_at_call 119; (with_reducible refine (counterfoilref12_folded.calls kj38 _ _ l0_1 false _ ?side1 ?side2 A52.out).mono ?_); (case side1 => repeat (first | exact (Kd.C_below HR0_1.out (by repeat (first | (with_reducible first | exact HB.out | apply below_alloc | apply pw_below_drewN | apply below_drew1 | refine below_set ?_ GE175.out) | exact HB.out))) | (with_reducible refine Kd.C_alloc ?_ _) | (with_reducible refine Kd.C_drewN ?_ _) | (with_reducible refine Kd.C_drew ?_))); (case side2 => exact HC0_1.out); rintro e w62 ⟨rfl, hb⟩; have n0_ := A0q12_ (blk_below (g:=gb175) (o:=.cells #[.slice A0_0 l0_0.length c0_0, .slice A0_1 l0_1.length c0_1, .int .i64 a0_2, .int .i64 a0_3] 27 (0, 0)) (by (with_reducible repeat (first | refine blk_drewN ?_ _ | refine blk_drew ?_ | refine blk_alloc ?_ _)); exact BK175.out) hb); have n1_ := A0q12_ (below_step (by repeat (first | (with_reducible first | exact HB.out | apply below_alloc | apply pw_below_drewN | apply below_drew1 | refine below_set ?_ GE175.out) | exact HB.out)) hb); clear BK175; clear HB; have BK175 := n0_; have HB := n1_; clear n0_ n1_; (try clear hb); (try clear hb2); (try clear hk); (try clear hi))); try go_wp2_with (first | (go_at_call 118; (with_reducible refine (counterfoilref12_fits.calls a0_2 true _ A46.out).mono ?_); rintro e w' ⟨rfl, ⟨nd, rfl⟩⟩; (try first | exact ⟨rfl, _, World.drewN_drewN _ _ _⟩ | exact ⟨rfl, _, Eq.trans (World.drewN_drewN _ _ _) (congrArg (World.drewN _) (Nat.add_assoc _ _ _))⟩)) | (go_at_call 118; (with_reducible refine (counterfoilref12_fits.calls a0_3 true _ A48.out).mono ?_); rintro e w' ⟨rfl, ⟨nd, rfl⟩⟩; (try first | exact ⟨rfl, _, World.drewN_drewN _ _ _⟩ | exact ⟨rfl, _, Eq.trans (World.drewN_drewN _ _ _) (congrArg (World.drewN _) (Nat.add_assoc _ _ _))⟩)) | (go_at_call 119; (with_reducible refine (counterfoilref12_folded.calls kj38 _ _ l0_1 false _ ?side1 ?side2 A52.out).mono ?_); (case side1 => repeat (first | exact (Kd.C_below HR0_1.out (by repeat (first | (with_reducible first | exact HB.out | apply below_alloc | apply pw_below_drewN | apply below_drew1 | refine below_set ?_ GE175.out) | exact HB.out))) | (with_reducible refine Kd.C_alloc ?_ _) | (with_reducible refine Kd.C_drewN ?_ _) | (with_reducible refine Kd.C_drew ?_))); (case side2 => exact HC0_1.out); rintro e w62 ⟨rfl, hb⟩; have n0_ := A0q12_ (blk_below (g:=gb175) (o:=.cells #[.slice A0_0 l0_0.length c0_0, .slice A0_1 l0_1.length c0_1, .int .i64 a0_2, .int .i64 a0_3] 27 (0, 0)) (by (with_reducible repeat (first | refine blk_drewN ?_ _ | refine blk_drew ?_ | refine blk_alloc ?_ _)); exact BK175.out) hb); have n1_ := A0q12_ (below_step (by repeat (first | (with_reducible first | exact HB.out | apply below_alloc | apply pw_below_drewN | apply below_drew1 | refine below_set ?_ GE175.out) | exact HB.out)) hb); clear BK175; clear HB; have BK175 := n0_; have HB := n1_; clear n0_ n1_; (try clear hb); (try clear hb2); (try clear hk); (try clear hi))))
           go_ret
           exact ⟨by first | rfl | (simp [errW_none, errW_some] <;> rfl) | (simp [*, errW_none, errW_some] <;> rfl), by repeat (first | (with_reducible first | exact HB.out | apply below_alloc | apply pw_below_drewN | apply below_drew1 | refine below_set ?_ GE175.out) | exact HB.out)⟩
        ·replace c49 := Bool.eq_false_iff.mpr c49
         subst c49
         have H1 : (some false) = some r := by rw [if_neg (show ¬ (false = true) by decide)] at H; exact H
         clear H
         have H := H1
         clear H1
         obtain rfl := Option.some.inj H
         have hcz63_0 : wc.cell? ⟨gb175, 0, none⟩ = some (.slice A0_0 l0_0.length c0_0) := (blk_cell BK175.out 0).trans rfl
         have hcz63_1 : wc.cell? ⟨gb175, 1, none⟩ = some (.slice A0_1 l0_1.length c0_1) := (blk_cell BK175.out 1).trans rfl
         have hcz63_2 : wc.cell? ⟨gb175, 2, none⟩ = some (.int .i64 a0_2) := (blk_cell BK175.out 2).trans rfl
         have hcz63_3 : wc.cell? ⟨gb175, 3, none⟩ = some (.int .i64 a0_3) := (blk_cell BK175.out 3).trans rfl
         have hfz63_0 := blk_frozen BK175.out 0
         have hfz63_1 := blk_frozen BK175.out 1
         have hfz63_2 := blk_frozen BK175.out 2
         have hfz63_3 := blk_frozen BK175.out 3
         go_wp2_with (first | (go_at_call 118; (with_reducible refine (counterfoilref12_fits.calls a0_2 true _ A46.out).mono ?_); rintro e w' ⟨rfl, ⟨nd, rfl⟩⟩; (try first | exact ⟨rfl, _, World.drewN_drewN _ _ _⟩ | exact ⟨rfl, _, Eq.trans (World.drewN_drewN _ _ _) (congrArg (World.drewN _) (Nat.add_assoc _ _ _))⟩)) | (go_at_call 118; (with_reducible refine (counterfoilref12_fits.calls a0_3 false _ A48.out).mono ?_); rintro e w' ⟨rfl, ⟨nd, rfl⟩⟩; (try first | exact ⟨rfl, _, World.drewN_drewN _ _ _⟩ | exact ⟨rfl, _, Eq.trans (World.drewN_drewN _ _ _) (congrArg (World.drewN _) (Nat.add_assoc _ _ _))⟩)))
         repeat (go_quiet (first | (go_at_call 118; (with_reducible refine (counterfoilref12_fits.calls a0_2 true _ A46.out).mono ?_); rintro e w' ⟨rfl, ⟨nd, rfl⟩⟩; (try first | exact ⟨rfl, _, World.drewN_drewN _ _ _⟩ | exact ⟨rfl, _, Eq.trans (World.drewN_drewN _ _ _) (congrArg (World.drewN _) (Nat.add_assoc _ _ _))⟩)) | (go_at_call 118; (with_reducible refine (counterfoilref12_fits.calls a0_3 false _ A48.out).mono ?_); rintro e w' ⟨rfl, ⟨nd, rfl⟩⟩; (try first | exact ⟨rfl, _, World.drewN_drewN _ _ _⟩ | exact ⟨rfl, _, Eq.trans (World.drewN_drewN _ _ _) (congrArg (World.drewN _) (Nat.add_assoc _ _ _))⟩))); try go_wp2_with (first | (go_at_call 118; (with_reducible refine (counterfoilref12_fits.calls a0_2 true _ A46.out).mono ?_); rintro e w' ⟨rfl, ⟨nd, rfl⟩⟩; (try first | exact ⟨rfl, _, World.drewN_drewN _ _ _⟩ | exact ⟨rfl, _, Eq.trans (World.drewN_drewN _ _ _) (congrArg (World.drewN _) (Nat.add_assoc _ _ _))⟩)) | (go_at_call 118; (with_reducible refine (counterfoilref12_fits.calls a0_3 false _ A48.out).mono ?_); rintro e w' ⟨rfl, ⟨nd, rfl⟩⟩; (try first | exact ⟨rfl, _, World.drewN_drewN _ _ _⟩ | exact ⟨rfl, _, Eq.trans (World.drewN_drewN _ _ _) (congrArg (World.drewN _) (Nat.add_assoc _ _ _))⟩))))
         go_ret
         exact ⟨by first | rfl | (simp [errW_none, errW_some] <;> rfl) | (simp [*, errW_none, errW_some] <;> rfl), by repeat (first | (with_reducible first | exact HB.out | apply below_alloc | apply pw_below_drewN | apply below_drew1 | refine below_set ?_ GE175.out) | exact HB.out)⟩
       ·replace c47 := Bool.eq_false_iff.mpr c47
        subst c47
        have H1 : (some false) = some r := by rw [if_neg (show ¬ (false = true) by decide)] at H; exact H
        clear H
        have H := H1
        clear H1
        obtain rfl := Option.some.inj H
        have hcz64_0 : wc.cell? ⟨gb175, 0, none⟩ = some (.slice A0_0 l0_0.length c0_0) := (blk_cell BK175.out 0).trans rfl
        have hcz64_1 : wc.cell? ⟨gb175, 1, none⟩ = some (.slice A0_1 l0_1.length c0_1) := (blk_cell BK175.out 1).trans rfl
        have hcz64_2 : wc.cell? ⟨gb175, 2, none⟩ = some (.int .i64 a0_2) := (blk_cell BK175.out 2).trans rfl
        have hcz64_3 : wc.cell? ⟨gb175, 3, none⟩ = some (.int .i64 a0_3) := (blk_cell BK175.out 3).trans rfl
        have hfz64_0 := blk_frozen BK175.out 0
        have hfz64_1 := blk_frozen BK175.out 1
        have hfz64_2 := blk_frozen BK175.out 2
        have hfz64_3 := blk_frozen BK175.out 3
        go_wp2_with (first | (go_at_call 118; (with_reducible refine (counterfoilref12_fits.calls a0_2 false _ A46.out).mono ?_); rintro e w' ⟨rfl, ⟨nd, rfl⟩⟩; (try first | exact ⟨rfl, _, World.drewN_drewN _ _ _⟩ | exact ⟨rfl, _, Eq.trans (World.drewN_drewN _ _ _) (congrArg (World.drewN _) (Nat.add_assoc _ _ _))⟩)))
        repeat (go_quiet (first | (go_at_call 118; (with_reducible refine (counterfoilref12_fits.calls a0_2 false _ A46.out).mono ?_); rintro e w' ⟨rfl, ⟨nd, rfl⟩⟩; (try first | exact ⟨rfl, _, World.drewN_drewN _ _ _⟩ | exact ⟨rfl, _, Eq.trans (World.drewN_drewN _ _ _) (congrArg (World.drewN _) (Nat.add_assoc _ _ _))⟩))); try go_wp2_with (first | (go_at_call 118; (with_reducible refine (counterfoilref12_fits.calls a0_2 false _ A46.out).mono ?_); rintro e w' ⟨rfl, ⟨nd, rfl⟩⟩; (try first | exact ⟨rfl, _, World.drewN_drewN _ _ _⟩ | exact ⟨rfl, _, Eq.trans (World.drewN_drewN _ _ _) (congrArg (World.drewN _) (Nat.add_assoc _ _ _))⟩))))
        go_ret
        exact ⟨by first | rfl | (simp [errW_none, errW_some] <;> rfl) | (simp [*, errW_none, errW_some] <;> rfl), by repeat (first | (with_reducible first | exact HB.out | apply below_alloc | apply pw_below_drewN | apply below_drew1 | refine below_set ?_ GE175.out) | exact HB.out)⟩
end Go.Proofs.Ythdhkoeaadahaaa.P
