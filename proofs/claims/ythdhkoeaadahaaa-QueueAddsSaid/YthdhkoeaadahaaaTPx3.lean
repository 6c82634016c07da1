-- PACKED by wip/kit/pack.py: what the law's proof uses of Px3 (printed words and texts of this seat)
import Derived.Test.YthdhkoeaadahaaaTPx0
namespace Go.Proofs.Ythdhkoeaadahaaa.P
open Go.RowKit Go.Proofs.YthdhkoeaadahaaaW.PrintWords Go.Proofs.YthdhkoeaadahaaaW.PrintLast Go.Proofs.YthdhkoeaadahaaaW.PrintMore
attribute [local go_sem] max2_int min2_int max_two min_two max_three min_three max_four min_four
set_option linter.unusedVariables false
set_option linter.unusedSimpArgs false
mutual
def counterfoilref12_Small.j0 : Nat → Bool → List (S99) → List (S74) → Int → Int → Option (Bool)
 | 0, _, _, _, _, _ => none
 | k + 1, x13, x102000, x102001, x102002, x102003 => if x13 = true then (some false) else (counterfoilref12_Small.l0 k 0 x102000 x102001 x102002 x102003)
def counterfoilref12_Small.l0 : Nat → Int → List (S99) → List (S74) → Int → Int → Option (Bool)
 | 0, _, _, _, _, _ => none
 | k + 1, x3, x102000, x102001, x102002, x102003 => if x3 < (x102000.length : Int) then (if 0 ≤ x3 then (if (((rd_T99 x102000 x3).f2).length : Int) > 60 then (some false) else (counterfoilref12_Small.l0 k (wrap64 (x3 + 1)) x102000 x102001 x102002 x102003)) else (none)) else (some true)
end
def counterfoilref12_Small.f (k : Nat) (l0_0 : List (S99)) (l0_1 : List (S74)) (a0_2 : Int) (a0_3 : Int) : Option (Bool) := if (l0_0.length : Int) > 20 then (counterfoilref12_Small.j0 k true l0_0 l0_1 a0_2 a0_3) else (counterfoilref12_Small.j0 k (decide ((l0_1.length : Int) > 60)) l0_0 l0_1 a0_2 a0_3)
theorem A0q3_ {p : Prop} (h : p) : Aside0 p := ⟨h⟩
theorem z1q3_ {α : Type} (l : List α) (i : Nat) (a : α) : l.toArray.setIfInBounds i a = (l.set i a).toArray := List.setIfInBounds_toArray l i a
theorem z2q3_ {α : Type} {x : α} {xs : List α} {a : α} : (x :: xs).set 0 a = a :: xs := List.set_cons_zero
theorem z3q3_ {α : Type} {x : α} {xs : List α} {n : Nat} {a : α} : (x :: xs).set (n + 1) a = x :: xs.set n a := List.set_cons_succ
set_option maxHeartbeats 8000000 in
set_option maxRecDepth 100000 in
theorem counterfoilref12_Small.calls (k : Nat) (A0_0 : Option Addr) (c0_0 : Nat) (l0_0 : List (S99)) (A0_1 : Option Addr) (c0_1 : Nat) (l0_1 : List (S74)) (a0_2 : Int) (a0_3 : Int) (r : Bool) (w : World) (hr0_0 : Kd.C k99 w A0_0 l0_0.length l0_0) (hc0_0 : l0_0.length ≤ c0_0) (hr0_1 : Kd.C k74 w A0_1 l0_1.length l0_1) (hc0_1 : l0_1.length ≤ c0_1) (h : counterfoilref12_Small.f k l0_0 l0_1 a0_2 a0_3 = some r) :
  Calls Try.prog 30 #[.agg #[.slice A0_0 l0_0.length c0_0, .slice A0_1 l0_1.length c0_1, .int .i64 a0_2, .int .i64 a0_3]] w fun e w' => e = .returned (.bool r) ∧ Below w.heap.size w w' := by
 have hu27 := Try.underlying27
 have HR0_0 := A0q3_ hr0_0
 have HC0_0 := A0q3_ hc0_0
 clear hr0_0 hc0_0
 have HR0_1 := A0q3_ hr0_1
 have HC0_1 := A0q3_ hc0_1
 clear hr0_1 hc0_1
 have HB := A0q3_ (Below.refl w.heap.size w)
 have H : (if (l0_0.length : Int) > 20 then (counterfoilref12_Small.j0 k true l0_0 l0_1 a0_2 a0_3) else (counterfoilref12_Small.j0 k (decide ((l0_1.length : Int) > 60)) l0_0 l0_1 a0_2 a0_3)) = some r := h
 clear h
 have HC2 := A0q3_ H
 clear H
 go_enter Try.func30, Try.ntmps30
 go_upto_region 1 with (first | ((with_reducible refine gate_dst (N:=1) rfl ?_); (try (refine gate_guard (by rfl) ?_; dsimp only)); refine box_event ?hg (N:=1) ?hd (cs := #[.slice A0_0 l0_0.length c0_0, .slice A0_1 l0_1.length c0_1, .int .i64 a0_2, .int .i64 a0_3]) (t := 27) ?hr ?_; (case hd => rfl); (case hg => rfl); (case hr => first | (go_simp; done) | (go_simp; rfl)); intro gb101 hg w3 hbox hb; have n0_ := A0q3_ (below_step (by repeat (first | (with_reducible first | exact HB.out | apply below_alloc | apply pw_below_drewN | apply below_drew1) | exact HB.out)) hb); have n1_ := A0q3_ (hbox); have n2_ := A0q3_ ((by rw [hg]; exact (below_size (by repeat (first | (with_reducible first | exact HB.out | apply below_alloc | apply pw_below_drewN | apply below_drew1) | exact HB.out))) : w.heap.size ≤ gb101)); have n3_ := A0q3_ ((by rw [hg]; exact (below_size (by repeat (first | (with_reducible first | exact HB.out | apply below_alloc | apply pw_below_drewN | apply below_drew1) | exact HB.out))) : w.heap.size ≤ gb101)); clear HB; have HB := n0_; have BK101 := n1_; have GW101 := n2_; have GE101 := n3_; clear n0_ n1_ n2_ n3_; clear hb hbox hg))
 (try simp only [Act.put, z1q3_, z2q3_, z3q3_])
 go_cut [13] (fun v13 wc => ∃ (kq : Nat) (x13_1 : Bool), v13 = .bool x13_1 ∧ Aside0 (counterfoilref12_Small.j0 kq x13_1 l0_0 l0_1 a0_2 a0_3 = some r) ∧ Aside0 (kq ≤ k) ∧ Aside0 (wc.heap[gb101]? = some (.cells #[(.slice A0_0 l0_0.length c0_0), (.slice A0_1 l0_1.length c0_1), .int .i64 a0_2, .int .i64 a0_3] 27 (0, 0))) ∧ Aside0 (Below w.heap.size w wc))
 case first =>
  have H := HC2.out
  clear HC2
  by_cases c4 : (l0_0.length : Int) > 20
  ·rw [if_pos c4] at H
   have c4b0 : decide (20 < (l0_0.length : Int)) = true := decide_eq_true c4
   have c4b1 : decide (20 < l0_0.length) = true := decide_eq_true (by omega)
   clear c4
   (first | rw [c4b0] | (simp only [i64_w, i32_w]; rw [c4b0]) | skip)
   have H' := A0q3_ H
   clear H
   have hcz5_0 : w3.cell? ⟨gb101, 0, none⟩ = some (.slice A0_0 l0_0.length c0_0) := (blk_cell BK101.out 0).trans rfl
   have hcz5_1 : w3.cell? ⟨gb101, 1, none⟩ = some (.slice A0_1 l0_1.length c0_1) := (blk_cell BK101.out 1).trans rfl
   have hcz5_2 : w3.cell? ⟨gb101, 2, none⟩ = some (.int .i64 a0_2) := (blk_cell BK101.out 2).trans rfl
   have hcz5_3 : w3.cell? ⟨gb101, 3, none⟩ = some (.int .i64 a0_3) := (blk_cell BK101.out 3).trans rfl
   have hfz5_0 := blk_frozen BK101.out 0
   have hfz5_1 := blk_frozen BK101.out 1
   have hfz5_2 := blk_frozen BK101.out 2
   have hfz5_3 := blk_frozen BK101.out 3
   go_wp2
   go_meet
   case rel => exact ⟨_, (true), (by first | rfl | (simp; done) | (simp [*]; done)), H', ⟨by first | omega | exact Nat.le_refl _⟩, ⟨by (with_reducible repeat (first | refine blk_drewN ?_ _ | refine blk_drew ?_ | refine blk_alloc ?_ _)); exact BK101.out⟩, ⟨by repeat (first | (with_reducible first | exact HB.out | apply below_alloc | apply pw_below_drewN | apply below_drew1 | refine below_set ?_ GE101.out) | exact HB.out)⟩⟩
  ·rw [if_neg c4] at H
   have c4b0 : decide (20 < (l0_0.length : Int)) = false := decide_eq_false c4
   have c4b1 : decide (20 < l0_0.length) = false := decide_eq_false (by omega)
   clear c4
   (first | rw [c4b0] | (simp only [i64_w, i32_w]; rw [c4b0]) | skip)
   have H' := A0q3_ H
   clear H
   have hcz6_0 : w3.cell? ⟨gb101, 0, none⟩ = some (.slice A0_0 l0_0.length c0_0) := (blk_cell BK101.out 0).trans rfl
   have hcz6_1 : w3.cell? ⟨gb101, 1, none⟩ = some (.slice A0_1 l0_1.length c0_1) := (blk_cell BK101.out 1).trans rfl
   have hcz6_2 : w3.cell? ⟨gb101, 2, none⟩ = some (.int .i64 a0_2) := (blk_cell BK101.out 2).trans rfl
   have hcz6_3 : w3.cell? ⟨gb101, 3, none⟩ = some (.int .i64 a0_3) := (blk_cell BK101.out 3).trans rfl
   have hfz6_0 := blk_frozen BK101.out 0
   have hfz6_1 := blk_frozen BK101.out 1
   have hfz6_2 := blk_frozen BK101.out 2
   have hfz6_3 := blk_frozen BK101.out 3
   go_wp2
   go_meet
   case rel => exact ⟨_, (decide ((l0_1.length : Int) > 60)), (by first | rfl | (simp; done) | (simp [*]; done)), H', ⟨by first | omega | exact Nat.le_refl _⟩, ⟨by (with_reducible repeat (first | refine blk_drewN ?_ _ | refine blk_drew ?_ | refine blk_alloc ?_ _)); exact BK101.out⟩, ⟨by repeat (first | (with_reducible first | exact HB.out | apply below_alloc | apply pw_below_drewN | apply below_drew1 | refine below_set ?_ GE101.out) | exact HB.out)⟩⟩
 case rest =>
  clear HC2
  try clear p2
  try clear c3
  try clear c4
  try clear c4b0
  try clear c4b1
  try clear hcz5_0
  try clear hcz5_1
  try clear hcz5_2
  try clear hcz5_3
  try clear hcz6_0
  try clear hcz6_1
  try clear hcz6_2
  try clear hcz6_3
  try clear hfz5_0
  try clear hfz5_1
  try clear hfz5_2
  try clear hfz5_3
  try clear hfz6_0
  try clear hfz6_1
  try clear hfz6_2
  try clear hfz6_3
  obtain ⟨kq, x13_1, rfl, HA, HJ1, BK101, HB⟩ := hcut
  cases kq with
  | zero => exact absurd HA.out (by simp [counterfoilref12_Small.j0])
  | succ kj1 =>
   have H := HA.out
   clear HA
   simp only [counterfoilref12_Small.j0] at H
   by_cases c7 : x13_1 = true
   ·subst c7
    have H1 : (some false) = some r := by rw [if_pos rfl] at H; exact H
    clear H
    have H := H1
    clear H1
    obtain rfl := Option.some.inj H
    go_wp2
    go_ret
    exact ⟨by first | rfl | (simp [errW_none, errW_some] <;> rfl) | (simp [*, errW_none, errW_some] <;> rfl), by repeat (first | (with_reducible first | exact HB.out | apply below_alloc | apply pw_below_drewN | apply below_drew1 | refine below_set ?_ GE101.out) | exact HB.out)⟩
   ·replace c7 := Bool.eq_false_iff.mpr c7
    subst c7
    have H1 : (counterfoilref12_Small.l0 kj1 0 l0_0 l0_1 a0_2 a0_3) = some r := by rw [if_neg (show ¬ (false = true) by decide)] at H; exact H
    clear H
    have H := H1
    clear H1
    have H' := A0q3_ H
    clear H
    go_wp2
    go_loopg [3] kj1 (fun kq v3 w' => ∃ (x3_2 : Int), v3 = .int .i64 x3_2 ∧ Aside0 (counterfoilref12_Small.l0 kq x3_2 l0_0 l0_1 a0_2 a0_3 = some r) ∧ Aside0 (kq ≤ kj1) ∧ Aside0 (w'.heap[gb101]? = some (.cells #[(.slice A0_0 l0_0.length c0_0), (.slice A0_1 l0_1.length c0_1), .int .i64 a0_2, .int .i64 a0_3] 27 (0, 0))) ∧ Aside0 (Below w.heap.size w w'))
    case atStart => exact ⟨(0), (by first | rfl | (simp; done) | (simp [*]; done)), H', ⟨Nat.le_refl _⟩, ⟨by (with_reducible repeat (first | refine blk_drewN ?_ _ | refine blk_drew ?_ | refine blk_alloc ?_ _)); exact BK101.out⟩, ⟨by repeat (first | (with_reducible first | exact HB.out | apply below_alloc | apply pw_below_drewN | apply below_drew1 | refine below_set ?_ GE101.out) | exact HB.out)⟩⟩
    case round =>
     clear H'
     try clear p2
     try clear c3
     try clear c4
     try clear c4b0
     try clear c4b1
     try clear c7
     try clear hcz5_0
     try clear hcz5_1
     try clear hcz5_2
     try clear hcz5_3
     try clear hcz6_0
     try clear hcz6_1
     try clear hcz6_2
     try clear hcz6_3
     try clear hfz5_0
     try clear hfz5_1
     try clear hfz5_2
     try clear hfz5_3
     try clear hfz6_0
     try clear hfz6_1
     try clear hfz6_2
     try clear hfz6_3
     try clear p2
     obtain ⟨x3_2, rfl, HA, HK2, BK101, HB⟩ := hrel
     cases gk with
     | zero => exact absurd HA.out (by simp [counterfoilref12_Small.l0])
     | succ k2 =>
      have H := HA.out
      clear HA
      simp only [counterfoilref12_Small.l0] at H
      by_cases c8 : x3_2 < (l0_0.length : Int)
      ·rw [if_pos c8] at H
       have c8b0 : decide (x3_2 < (l0_0.length : Int)) = true := decide_eq_true c8
       clear c8
       by_cases c9 : 0 ≤ x3_2
       ·rw [if_pos c9] at H
        have c9b0 : decide (0 ≤ x3_2) = true := decide_eq_true c9
        clear c9
        by_cases c10 : (((rd_T99 l0_0 x3_2).f2).length : Int) > 60
        ·rw [if_pos c10] at H
         have c10b0 : decide (60 < (((rd_T99 l0_0 x3_2).f2).length : Int)) = true := decide_eq_true c10
         have c10b1 : decide (60 < ((rd_T99 l0_0 x3_2).f2).length) = true := decide_eq_true (by omega)
         clear c10
         obtain rfl := Option.some.inj H
         have hcz11_0 : wr.cell? ⟨gb101, 0, none⟩ = some (.slice A0_0 l0_0.length c0_0) := (blk_cell BK101.out 0).trans rfl
         have hcz11_1 : wr.cell? ⟨gb101, 1, none⟩ = some (.slice A0_1 l0_1.length c0_1) := (blk_cell BK101.out 1).trans rfl
         have hcz11_2 : wr.cell? ⟨gb101, 2, none⟩ = some (.int .i64 a0_2) := (blk_cell BK101.out 2).trans rfl
         have hcz11_3 : wr.cell? ⟨gb101, 3, none⟩ = some (.int .i64 a0_3) := (blk_cell BK101.out 3).trans rfl
         have hfz11_0 := blk_frozen BK101.out 0
         have hfz11_1 := blk_frozen BK101.out 1
         have hfz11_2 := blk_frozen BK101.out 2
         have hfz11_3 := blk_frozen BK101.out 3
         have p102 : 0 ≤ (x3_2 : Int) := of_decide_eq_true (by first | (with_reducible assumption) | assumption)
         have q102 : x3_2 < (l0_0.length : Int) := of_decide_eq_true (by first | (with_reducible assumption) | assumption)
         obtain ⟨ad102, A102_2, c102_2, e102, hx102_0, hx102_1, hx102_2, hl102_2, hi102_2⟩ := at_T99 HR0_0.out x3_2 p102 q102
         cases e102
         replace hx102_0 := (HB.out.cell (World.block_lt_of_cell? w _ hx102_0)).trans hx102_0
         replace hx102_1 := (HB.out.cell (World.block_lt_of_cell? w _ hx102_1)).trans hx102_1
         replace hx102_2 := (HB.out.cell (World.block_lt_of_cell? w _ hx102_2)).trans hx102_2
         have HR102_2 := A0q3_ hi102_2
         have HC102_2 := A0q3_ hl102_2
         clear hi102_2 hl102_2
         replace p102 := eq_true p102
         replace q102 := eq_true q102
         go_wp2
         go_ret
         exact ⟨by first | rfl | (simp [errW_none, errW_some] <;> rfl) | (simp [*, errW_none, errW_some] <;> rfl), by repeat (first | (with_reducible first | exact HB.out | apply below_alloc | apply pw_below_drewN | apply below_drew1 | refine below_set ?_ GE101.out) | exact HB.out)⟩
        ·rw [if_neg c10] at H
         have c10b0 : decide (60 < (((rd_T99 l0_0 x3_2).f2).length : Int)) = false := decide_eq_false c10
         have c10b1 : decide (60 < ((rd_T99 l0_0 x3_2).f2).length) = false := decide_eq_false (by omega)
         clear c10
         have H' := A0q3_ H
         clear H
         have hcz12_0 : wr.cell? ⟨gb101, 0, none⟩ = some (.slice A0_0 l0_0.length c0_0) := (blk_cell BK101.out 0).trans rfl
         have hcz12_1 : wr.cell? ⟨gb101, 1, none⟩ = some (.slice A0_1 l0_1.length c0_1) := (blk_cell BK101.out 1).trans rfl
         have hcz12_2 : wr.cell? ⟨gb101, 2, none⟩ = some (.int .i64 a0_2) := (blk_cell BK101.out 2).trans rfl
         have hcz12_3 : wr.cell? ⟨gb101, 3, none⟩ = some (.int .i64 a0_3) := (blk_cell BK101.out 3).trans rfl
         have hfz12_0 := blk_frozen BK101.out 0
         have hfz12_1 := blk_frozen BK101.out 1
         have hfz12_2 := blk_frozen BK101.out 2
         have hfz12_3 := blk_frozen BK101.out 3
         have p102 : 0 ≤ (x3_2 : Int) := of_decide_eq_true (by first | (with_reducible assumption) | assumption)
         have q102 : x3_2 < (l0_0.length : Int) := of_decide_eq_true (by first | (with_reducible assumption) | assumption)
         obtain ⟨ad102, A102_2, c102_2, e102, hx102_0, hx102_1, hx102_2, hl102_2, hi102_2⟩ := at_T99 HR0_0.out x3_2 p102 q102
         cases e102
         replace hx102_0 := (HB.out.cell (World.block_lt_of_cell? w _ hx102_0)).trans hx102_0
         replace hx102_1 := (HB.out.cell (World.block_lt_of_cell? w _ hx102_1)).trans hx102_1
         replace hx102_2 := (HB.out.cell (World.block_lt_of_cell? w _ hx102_2)).trans hx102_2
         have HR102_2 := A0q3_ hi102_2
         have HC102_2 := A0q3_ hl102_2
         clear hi102_2 hl102_2
         replace p102 := eq_true p102
         replace q102 := eq_true q102
         go_wp2
         go_roundg k2
         case measure => have := HJ1.out; have := HK2.out; omega
         case rel => exact ⟨(wrap64 (x3_2 + 1)), (by first | rfl | (simp; done) | (simp [*]; done)), H', ⟨by have := HJ1.out; have := HK2.out; omega⟩, ⟨by (with_reducible repeat (first | refine blk_drewN ?_ _ | refine blk_drew ?_ | refine blk_alloc ?_ _)); exact BK101.out⟩, ⟨by repeat (first | (with_reducible first | exact HB.out | apply below_alloc | apply pw_below_drewN | apply below_drew1 | refine below_set ?_ GE101.out) | exact HB.out)⟩⟩
       ·rw [if_neg c9] at H
        exact absurd H (by simp)
      ·rw [if_neg c8] at H
       have c8b0 : decide (x3_2 < (l0_0.length : Int)) = false := decide_eq_false c8
       clear c8
       obtain rfl := Option.some.inj H
       have hcz13_0 : wr.cell? ⟨gb101, 0, none⟩ = some (.slice A0_0 l0_0.length c0_0) := (blk_cell BK101.out 0).trans rfl
       have hcz13_1 : wr.cell? ⟨gb101, 1, none⟩ = some (.slice A0_1 l0_1.length c0_1) := (blk_cell BK101.out 1).trans rfl
       have hcz13_2 : wr.cell? ⟨gb101, 2, none⟩ = some (.int .i64 a0_2) := (blk_cell BK101.out 2).trans rfl
       have hcz13_3 : wr.cell? ⟨gb101, 3, none⟩ = some (.int .i64 a0_3) := (blk_cell BK101.out 3).trans rfl
       have hfz13_0 := blk_frozen BK101.out 0
       have hfz13_1 := blk_frozen BK101.out 1
       have hfz13_2 := blk_frozen BK101.out 2
       have hfz13_3 := blk_frozen BK101.out 3
       go_wp2
       go_ret
       exact ⟨by first | rfl | (simp [errW_none, errW_some] <;> rfl) | (simp [*, errW_none, errW_some] <;> rfl), by repeat (first | (with_reducible first | exact HB.out | apply below_alloc | apply pw_below_drewN | apply below_drew1 | refine below_set ?_ GE101.out) | exact HB.out)⟩
end Go.Proofs.Ythdhkoeaadahaaa.P
