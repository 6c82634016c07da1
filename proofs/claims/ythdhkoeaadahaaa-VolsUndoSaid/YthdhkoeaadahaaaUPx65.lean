-- PACKED by wip/kit/pack.py: what the law's proof uses of Px65 (printed words and texts of this seat)
import Derived.Test.YthdhkoeaadahaaaUPx0
import Derived.Test.YthdhkoeaadahaaaUPx23
namespace Go.Proofs.Ythdhkoeaadahaaa.P
open Go.RowKit Go.Proofs.YthdhkoeaadahaaaW.PrintWords Go.Proofs.YthdhkoeaadahaaaW.PrintLast Go.Proofs.YthdhkoeaadahaaaW.PrintMore
attribute [local go_sem] max2_int min2_int max_two min_two max_three min_three max_four min_four
set_option linter.unusedVariables false
set_option linter.unusedSimpArgs false
mutual
def counterfoilref07_put.l0 : Nat → List (S49) → Int → Int → List (S49) → Int → Option ((List (S49)))
  | 0, _, _, _, _, _ => none
  | k + 1, x0, x1, x2, x7, x8 => if x8 < 256 then (counterfoilref07_put.l1 k x0 x1 x2 x7 x8 0 0) else (some x7)
def counterfoilref07_put.l1 : Nat → List (S49) → Int → Int → List (S49) → Int → Int → Int → Option ((List (S49)))
  | 0, _, _, _, _, _, _, _ => none
  | k + 1, x0, x1, x2, x7, x8, x9, x10 => if x10 < (x0.length : Int) then (if 0 ≤ x10 then (if ((rd_T49 x0 x10).f0) = x8 then (counterfoilref07_put.l1 k x0 x1 x2 x7 x8 (((rd_T49 x0 x10).f1).length : Int) (wrap64 (x10 + 1))) else (counterfoilref07_put.l1 k x0 x1 x2 x7 x8 x9 (wrap64 (x10 + 1)))) else (none)) else (if x8 = x1 then (counterfoilref07_put.j2 k x0 x1 x2 x7 x8 x2) else (counterfoilref07_put.j2 k x0 x1 x2 x7 x8 x9))
def counterfoilref07_put.j2 : Nat → List (S49) → Int → Int → List (S49) → Int → Int → Option ((List (S49)))
  | 0, _, _, _, _, _, _ => none
  | k + 1, x0, x1, x2, x7, x8, x9 => if x9 = 0 then (counterfoilref07_put.l0 k x0 x1 x2 x7 (wrap64 (x8 + 1))) else (counterfoilref07_put.l2 k x0 x1 x2 x7 x8 x9 0 x8 ([] : List ByteArray))
def counterfoilref07_put.l2 : Nat → List (S49) → Int → Int → List (S49) → Int → Int → Int → Int → List ByteArray → Option ((List (S49)))
  | 0, _, _, _, _, _, _, _, _, _ => none
  | k + 1, x0, x1, x2, x7, x8, x9, x12, x481000, x481001 => if x12 < x9 then ((counterfoilref07_Get.f k x0 x8 x12).bind fun bt481 => (if x481001.length < 8796093022208 then (counterfoilref07_put.l2 k x0 x1 x2 x7 x8 x9 (wrap64 (x12 + 1)) x481000 (x481001 ++ [bt481.1])) else (none))) else (if x7.length < 4398046511104 then (counterfoilref07_put.l0 k x0 x1 x2 (x7 ++ [(⟨x481000, x481001⟩ : S49)]) (wrap64 (x8 + 1))) else (none))
end
def counterfoilref07_put.f (k : Nat) (l0 : List (S49)) (a1 : Int) (a2 : Int) : Option ((List (S49))) := counterfoilref07_put.l0 k l0 a1 a2 ([] : List (S49)) 1
set_option maxHeartbeats 8000000 in
set_option maxRecDepth 100000 in
theorem counterfoilref07_put.calls (k : Nat) (A0 : Option Addr) (c0 : Nat) (l0 : List (S49)) (a1 : Int) (a2 : Int) (r : List (S49)) (w : World) (hr0 : Kd.C k49 w A0 l0.length l0) (hc0 : l0.length ≤ c0) (h : counterfoilref07_put.f k l0 a1 a2 = some r) :
    Calls Try.prog 111 #[.slice A0 l0.length c0, .int .i64 a1, .int .i64 a2] w fun e w' => ∃ v0_ : Value, e = .returned (v0_) ∧ Kd.S k49 49 w' w.heap.size (fun _ => True) v0_ r ∧ Below w.heap.size w w' := by
  have hu49 := Try.underlying49
  have HR0 := Aside0.mk hr0
  have HC0 := Aside0.mk hc0
  clear hr0 hc0
  have HB := Aside0.mk (Below.refl w.heap.size w)
  have H : (counterfoilref07_put.l0 k l0 a1 a2 ([] : List (S49)) 1) = some r := h
  clear h
  have H' := Aside0.mk H
  clear H
  go_enter Try.func111, Try.ntmps111
  go_wp2
  go_loopg [7, 8] k (fun kq v7 v8 w' => ∃ (x7_1 : List (S49)) (x8_1 : Int), v8 = .int .i64 x8_1 ∧ Aside0 (counterfoilref07_put.l0 kq l0 a1 a2 x7_1 x8_1 = some r) ∧ Aside0 (kq ≤ k) ∧ Aside0 (Kd.S k49 49 w' w.heap.size (fun _ => True) v7 x7_1) ∧ Aside0 (Below w.heap.size w w'))
  case atStart => exact ⟨(([] : List (S49))), (1), (by first | rfl | (simp; done) | (simp [*]; done)), H', ⟨Nat.le_refl _⟩, ⟨by first | exact Kd.S_nil _ _ _ _ _ | exact Kd.N_nil _ _ _ _ _ | exact Kd.V_nil _ _ _ _ _ | exact Kd.Q_nil _ _ _ _ _ | exact Kd.R_nil _ _ _ _ _⟩, ⟨by repeat (first | (with_reducible first | exact HB.out | apply below_alloc | apply pw_below_drewN | apply below_drew1) | exact HB.out)⟩⟩
  case round =>
    clear H'
    try clear c1
    try clear p2
    obtain ⟨x7_1, x8_1, rfl, HA, HK1, HO_7, HB⟩ := hrel
    cases gk with
    | zero => exact absurd HA.out (by simp [counterfoilref07_put.l0])
    | succ k1 =>
      have H := HA.out
      clear HA
      simp only [counterfoilref07_put.l0] at H
      by_cases c4 : x8_1 < 256
      · rw [if_pos c4] at H
        have c4b0 : decide (x8_1 < 256) = true := decide_eq_true c4
        clear c4
        have H' := Aside0.mk H
        clear H
        go_wp2
        go_loopg [9, 10] k1 (fun kq v9 v10 w' => ∃ (x9_2 : Int) (x10_2 : Int), v9 = .int .i64 x9_2 ∧ v10 = .int .i64 x10_2 ∧ Aside0 (counterfoilref07_put.l1 kq l0 a1 a2 x7_1 x8_1 x9_2 x10_2 = some r) ∧ Aside0 (kq ≤ k1) ∧ Aside0 (Kd.S k49 49 w' w.heap.size (fun _ => True) u7 x7_1) ∧ Aside0 (Below w.heap.size w w'))
        case atStart => exact ⟨(0), (0), (by first | rfl | (simp; done) | (simp [*]; done)), (by first | rfl | (simp; done) | (simp [*]; done)), H', ⟨Nat.le_refl _⟩, ⟨by (with_reducible repeat (first | apply Kd.S_alloc | apply Kd.S_drewN | apply Kd.S_drew)); exact HO_7.out⟩, ⟨by repeat (first | (with_reducible first | exact HB.out | apply below_alloc | apply pw_below_drewN | apply below_drew1) | exact HB.out)⟩⟩
        case round =>
          clear H'
          try clear c1
          try clear p2
          try clear c4
          try clear c4b0
          try clear p2
          obtain ⟨x9_2, x10_2, rfl, rfl, HA, HK2, HO_7, HB⟩ := hrel
          cases gk with
          | zero => exact absurd HA.out (by simp [counterfoilref07_put.l1])
          | succ k2 =>
            have H := HA.out
            clear HA
            simp only [counterfoilref07_put.l1] at H
            by_cases c5 : x10_2 < (l0.length : Int)
            · rw [if_pos c5] at H
              have c5b0 : decide (x10_2 < (l0.length : Int)) = true := decide_eq_true c5
              clear c5
              by_cases c6 : 0 ≤ x10_2
              · rw [if_pos c6] at H
                have c6b0 : decide (0 ≤ x10_2) = true := decide_eq_true c6
                clear c6
                by_cases c7 : ((rd_T49 l0 x10_2).f0) = x8_1
                · rw [if_pos c7] at H
                  have c7b0 : (((rd_T49 l0 x10_2).f0) == x8_1) = true := beq_iff_eq.mpr c7
                  have c7b1 : (((rd_T49 l0 x10_2).f0) != x8_1) = false := bne_eq_false_iff_eq.mpr c7
                  clear c7
                  have H' := Aside0.mk H
                  clear H
                  have p478 : 0 ≤ (x10_2 : Int) := of_decide_eq_true (by first | (with_reducible assumption) | assumption)
                  have q478 : x10_2 < (l0.length : Int) := of_decide_eq_true (by first | (with_reducible assumption) | assumption)
                  obtain ⟨ad478, A478_1, c478_1, e478, hx478_0, hx478_1, hl478_1, hi478_1⟩ := at_T49 HR0.out x10_2 p478 q478
                  cases e478
                  replace hx478_0 := (HB.out.cell (World.block_lt_of_cell? w _ hx478_0)).trans hx478_0
                  replace hx478_1 := (HB.out.cell (World.block_lt_of_cell? w _ hx478_1)).trans hx478_1
                  have HR478_1 := Aside0.mk hi478_1
                  have HC478_1 := Aside0.mk hl478_1
                  clear hi478_1 hl478_1
                  replace p478 := eq_true p478
                  replace q478 := eq_true q478
                  have p479 : 0 ≤ (x10_2 : Int) := of_decide_eq_true (by first | (with_reducible assumption) | assumption)
                  have q479 : x10_2 < (l0.length : Int) := of_decide_eq_true (by first | (with_reducible assumption) | assumption)
                  obtain ⟨ad479, A479_1, c479_1, e479, hx479_0, hx479_1, hl479_1, hi479_1⟩ := at_T49 HR0.out x10_2 p479 q479
                  obtain rfl : ad478 = ad479 := (by injection e479)
                  replace hx479_0 := (HB.out.cell (World.block_lt_of_cell? w _ hx479_0)).trans hx479_0
                  replace hx479_1 := (HB.out.cell (World.block_lt_of_cell? w _ hx479_1)).trans hx479_1
                  have HR479_1 := Aside0.mk hi479_1
                  have HC479_1 := Aside0.mk hl479_1
                  clear hi479_1 hl479_1
                  replace p479 := eq_true p479
                  replace q479 := eq_true q479
                  have ea_ := Option.some.inj (hx478_1.symm.trans hx479_1)
                  injection ea_ with ea_ en_ ec_
                  subst ea_
                  subst ec_
                  clear en_
                  go_wp2
                  go_roundg k2
                  case measure => have := HK1.out; have := HK2.out; omega
                  case rel => exact ⟨((((rd_T49 l0 x10_2).f1).length : Int)), (wrap64 (x10_2 + 1)), (by first | rfl | (simp; done) | (simp [*]; done)), (by first | rfl | (simp; done) | (simp [*]; done)), H', ⟨by have := HK1.out; have := HK2.out; omega⟩, ⟨by (with_reducible repeat (first | apply Kd.S_alloc | apply Kd.S_drewN | apply Kd.S_drew)); exact HO_7.out⟩, ⟨by repeat (first | (with_reducible first | exact HB.out | apply below_alloc | apply pw_below_drewN | apply below_drew1) | exact HB.out)⟩⟩
                · rw [if_neg c7] at H
                  have c7b0 : (((rd_T49 l0 x10_2).f0) == x8_1) = false := beq_eq_false_iff_ne.mpr c7
                  have c7b1 : (((rd_T49 l0 x10_2).f0) != x8_1) = true := bne_iff_ne.mpr c7
                  have H' := Aside0.mk H
                  clear H
                  have p478 : 0 ≤ (x10_2 : Int) := of_decide_eq_true (by first | (with_reducible assumption) | assumption)
                  have q478 : x10_2 < (l0.length : Int) := of_decide_eq_true (by first | (with_reducible assumption) | assumption)
                  obtain ⟨ad478, A478_1, c478_1, e478, hx478_0, hx478_1, hl478_1, hi478_1⟩ := at_T49 HR0.out x10_2 p478 q478
                  cases e478
                  replace hx478_0 := (HB.out.cell (World.block_lt_of_cell? w _ hx478_0)).trans hx478_0
                  replace hx478_1 := (HB.out.cell (World.block_lt_of_cell? w _ hx478_1)).trans hx478_1
                  have HR478_1 := Aside0.mk hi478_1
                  have HC478_1 := Aside0.mk hl478_1
                  clear hi478_1 hl478_1
                  replace p478 := eq_true p478
                  replace q478 := eq_true q478
                  go_wp2
                  go_roundg k2
                  case measure => have := HK1.out; have := HK2.out; omega
                  case rel => exact ⟨(x9_2), (wrap64 (x10_2 + 1)), (by first | rfl | (simp; done) | (simp [*]; done)), (by first | rfl | (simp; done) | (simp [*]; done)), H', ⟨by have := HK1.out; have := HK2.out; omega⟩, ⟨by (with_reducible repeat (first | apply Kd.S_alloc | apply Kd.S_drewN | apply Kd.S_drew)); exact HO_7.out⟩, ⟨by repeat (first | (with_reducible first | exact HB.out | apply below_alloc | apply pw_below_drewN | apply below_drew1) | exact HB.out)⟩⟩
              · rw [if_neg c6] at H
                exact absurd H (by simp)
            · rw [if_neg c5] at H
              have c5b0 : decide (x10_2 < (l0.length : Int)) = false := decide_eq_false c5
              clear c5
              have HC8 := Aside0.mk H
              clear H
              go_upto_if 40 with (fail)
              go_cut [9] (fun v9 wc => ∃ (kq : Nat) (x9_7 : Int), v9 = .int .i64 x9_7 ∧ Aside0 (counterfoilref07_put.j2 kq l0 a1 a2 x7_1 x8_1 x9_7 = some r) ∧ Aside0 (kq ≤ k2) ∧ Aside0 (Kd.S k49 49 wc w.heap.size (fun _ => True) u7 x7_1) ∧ Aside0 (Below w.heap.size w wc))
              case first =>
                have H := HC8.out
                clear HC8
                by_cases c9 : x8_1 = a1
                · rw [if_pos c9] at H
                  have c9b0 : (x8_1 == a1) = true := beq_iff_eq.mpr c9
                  have c9b1 : (x8_1 != a1) = false := bne_eq_false_iff_eq.mpr c9
                  clear c9
                  (first | rw [c9b0] | (simp only [i64_w, i32_w]; rw [c9b0]) | skip)
                  have H' := Aside0.mk H
                  clear H
                  go_wp2
                  go_meet
                  case rel => exact ⟨_, (a2), (by first | rfl | (simp; done) | (simp [*]; done)), H', ⟨by have := HK1.out; have := HK2.out; first | omega | exact Nat.le_refl _⟩, ⟨by (with_reducible repeat (first | apply Kd.S_alloc | apply Kd.S_drewN | apply Kd.S_drew)); exact HO_7.out⟩, ⟨by repeat (first | (with_reducible first | exact HB.out | apply below_alloc | apply pw_below_drewN | apply below_drew1) | exact HB.out)⟩⟩
                · rw [if_neg c9] at H
                  have c9b0 : (x8_1 == a1) = false := beq_eq_false_iff_ne.mpr c9
                  have c9b1 : (x8_1 != a1) = true := bne_iff_ne.mpr c9
                  (first | rw [c9b0] | (simp only [i64_w, i32_w]; rw [c9b0]) | skip)
                  have H' := Aside0.mk H
                  clear H
                  go_wp2
                  go_meet
                  case rel => exact ⟨_, (x9_2), (by first | rfl | (simp; done) | (simp [*]; done)), H', ⟨by have := HK1.out; have := HK2.out; first | omega | exact Nat.le_refl _⟩, ⟨by (with_reducible repeat (first | apply Kd.S_alloc | apply Kd.S_drewN | apply Kd.S_drew)); exact HO_7.out⟩, ⟨by repeat (first | (with_reducible first | exact HB.out | apply below_alloc | apply pw_below_drewN | apply below_drew1) | exact HB.out)⟩⟩
              case rest =>
                clear HC8
                try clear c1
                try clear p2
                try clear c4
                try clear c4b0
                try clear p4
                try clear q4
                try clear hx4
                try clear c5
                try clear c5b0
                try clear c6
                try clear c6b0
                try clear p6
                try clear c7
                try clear c7b0
                try clear c7b1
                try clear c9
                try clear c9b0
                try clear c9b1
                try clear hx478_0
                try clear hx478_1
                try clear hx479_0
                try clear hx479_1
                try clear p2
                try clear p478
                try clear p479
                try clear q478
                try clear q479
                obtain ⟨kq, x9_7, rfl, HA, HJ7, HO_7, HB⟩ := hcut
                cases kq with
                | zero => exact absurd HA.out (by simp [counterfoilref07_put.j2])
                | succ kj7 =>
                  have H := HA.out
                  clear HA
                  simp only [counterfoilref07_put.j2] at H
                  by_cases c10 : x9_7 = 0
                  · rw [if_pos c10] at H
                    have c10b0 : (x9_7 == 0) = true := beq_iff_eq.mpr c10
                    have c10b1 : (x9_7 != 0) = false := bne_eq_false_iff_eq.mpr c10
                    clear c10
                    have H' := Aside0.mk H
                    clear H
                    go_wp2
                    go_roundg kj7
                    case measure => have := HK1.out; have := HK2.out; have := HJ7.out; omega
                    case rel => exact ⟨(x7_1), (wrap64 (x8_1 + 1)), (by first | rfl | (simp; done) | (simp [*]; done)), H', ⟨by have := HK1.out; have := HK2.out; have := HJ7.out; omega⟩, ⟨by (with_reducible repeat (first | apply Kd.S_alloc | apply Kd.S_drewN | apply Kd.S_drew)); exact HO_7.out⟩, ⟨by repeat (first | (with_reducible first | exact HB.out | apply below_alloc | apply pw_below_drewN | apply below_drew1) | exact HB.out)⟩⟩
                  · rw [if_neg c10] at H
                    have c10b0 : (x9_7 == 0) = false := beq_eq_false_iff_ne.mpr c10
                    have c10b1 : (x9_7 != 0) = true := bne_iff_ne.mpr c10
                    have H' := Aside0.mk H
                    clear H
                    go_wp2_with (first | ((with_reducible refine gate_dst (N := 11) rfl ?_); refine box_event ?hg (N := 11) ?hd (cs := #[.int .i64 0, .slice none 0 0]) (t := 49) ?hr ?_; (case hd => rfl); (case hg => rfl); (case hr => first | (go_simp; done) | (go_simp; rfl)); intro gb480 hg w11 hbox hb; have n0_ := Aside0.mk (Kd.S_below (Kd.S_elderB (by (with_reducible repeat (first | apply Kd.S_alloc | apply Kd.S_drewN | apply Kd.S_drew)); exact HO_7.out) gb480 (Nat.le_of_eq hg.symm)) hb); have n1_ := Aside0.mk (below_step (by repeat (first | (with_reducible first | exact HB.out | apply below_alloc | apply pw_below_drewN | apply below_drew1) | exact HB.out)) hb); have n2_ := Aside0.mk (hbox); have n3_ := Aside0.mk ((by rw [hg]; exact (below_size (by repeat (first | (with_reducible first | exact HB.out | apply below_alloc | apply pw_below_drewN | apply below_drew1) | exact HB.out))) : w.heap.size ≤ gb480)); have n4_ := Aside0.mk ((by rw [hg]; exact (below_size (by repeat (first | (with_reducible first | exact HB.out | apply below_alloc | apply pw_below_drewN | apply below_drew1) | exact HB.out))) : w.heap.size ≤ gb480)); clear HO_7; clear HB; have HO_7 := n0_; have HB := n1_; have BK480 := n2_; have GW480 := n3_; have GE480 := n4_; clear n0_ n1_ n2_ n3_ n4_; clear hb hbox hg; have hcz12_0 : w11.cell? ⟨gb480, 0, none⟩ = some (.int .i64 0) := (blk_cell BK480.out 0).trans rfl; have hcz12_1 : w11.cell? ⟨gb480, 1, none⟩ = some (.slice none 0 0) := (blk_cell BK480.out 1).trans rfl; have hfz12_0 := blk_frozen BK480.out 0; have hfz12_1 := blk_frozen BK480.out 1))
                    go_loopg [12] kj7 (fun kq v12 w' => ∃ (x12_4 : Int) (x481001_4 : List ByteArray) (u481001 : Value), v12 = .int .i64 x12_4 ∧ Aside0 (counterfoilref07_put.l2 kq l0 a1 a2 x7_1 x8_1 x9_7 x12_4 x8_1 x481001_4 = some r) ∧ Aside0 (kq ≤ kj7) ∧ Aside0 (Kd.S k49 49 w' w.heap.size (fun k_ => some k_ ≠ (u481001 : Value).ownBlock ∧ k_ ≠ gb480) u7 x7_1) ∧ Aside0 (Kd.R Kd.string 9 w' w.heap.size (fun _ => True) u481001 x481001_4) ∧ Aside0 (w'.heap[gb480]? = some (.cells #[.int .i64 x8_1, u481001] 49 (0, 0))) ∧ Aside0 (Below w.heap.size w w'))
                    case atStart => exact ⟨(0), (([] : List ByteArray)), (.slice none 0 0), (by first | rfl | (simp; done) | (simp [*]; done)), H', ⟨Nat.le_refl _⟩, ⟨by (with_reducible repeat (first | apply Kd.S_alloc | apply Kd.S_drewN | apply Kd.S_drew)); exact Kd.S_mono (Kd.S_far (p := ⟨gb480, 1, none⟩) (Kd.S_far (p := ⟨gb480, 0, none⟩) (Kd.S_mono HO_7.out (fun k_ hk => (⟨hk, hk.2⟩ : _ ∧ k_ ≠ gb480))) (fun _ hk => hk.2) (.int .i64 x8_1)) (fun _ hk => hk.2) (.slice none 0 0)) (fun _ hk => ⟨(by simp [Value.ownBlock]), hk.1.2⟩)⟩, ⟨by first | exact Kd.R_nil _ _ _ _ _ | exact Kd.N_nil _ _ _ _ _ | exact Kd.V_nil _ _ _ _ _ | exact Kd.Q_nil _ _ _ _ _ | exact Kd.S_nil _ _ _ _ _⟩, ⟨by (with_reducible repeat (first | refine blk_drewN ?_ _ | refine blk_drew ?_ | refine blk_alloc ?_ _)); refine blk_put (cs := #[.int .i64 x8_1, .slice none 0 0]) ?_ 1 _ rfl; (with_reducible repeat (first | refine blk_drewN ?_ _ | refine blk_drew ?_ | refine blk_alloc ?_ _)); refine blk_put (cs := #[.int .i64 0, .slice none 0 0]) ?_ 0 _ rfl; (with_reducible repeat (first | refine blk_drewN ?_ _ | refine blk_drew ?_ | refine blk_alloc ?_ _)); exact BK480.out⟩, ⟨by repeat (first | (with_reducible first | exact HB.out | apply below_alloc | apply pw_below_drewN | apply below_drew1 | refine below_set ?_ GE480.out) | exact HB.out)⟩⟩
                    case round =>
                      clear H'
                      try clear c1
                      try clear p2
                      try clear c4
                      try clear c4b0
                      try clear p4
                      try clear q4
                      try clear hx4
                      try clear c5
                      try clear c5b0
                      try clear c6
                      try clear c6b0
                      try clear p6
                      try clear c7
                      try clear c7b0
                      try clear c7b1
                      try clear c9
                      try clear c9b0
                      try clear c9b1
                      try clear c10
                      try clear c10b0
                      try clear c10b1
                      try clear c11
                      try clear hcz12_0
                      try clear hcz12_1
                      try clear hfz12_0
                      try clear hfz12_1
                      try clear hx478_0
                      try clear hx478_1
                      try clear hx479_0
                      try clear hx479_1
                      try clear p2
                      try clear p4
                      try clear p478
                      try clear p479
                      try clear p6
                      try clear q4
                      try clear q478
                      try clear q479
                      obtain ⟨x12_4, x481001_4, u481001, rfl, HA, HK4, HO_7, HO_481001, BK480, HB⟩ := hrel
                      cases gk with
                      | zero => exact absurd HA.out (by simp [counterfoilref07_put.l2])
                      | succ k4 =>
                        have H := HA.out
                        clear HA
                        simp only [counterfoilref07_put.l2] at H
                        by_cases c13 : x12_4 < x9_7
                        · rw [if_pos c13] at H
                          have c13b0 : decide (x12_4 < x9_7) = true := decide_eq_true c13
                          clear c13
                          replace H := Option.bind_eq_some_iff.mp H
                          obtain ⟨⟨t481, t482⟩, A140, H⟩ := H
                          replace H : (if x481001_4.length < 8796093022208 then (counterfoilref07_put.l2 k4 l0 a1 a2 x7_1 x8_1 x9_7 (wrap64 (x12_4 + 1)) x8_1 (x481001_4 ++ [t481])) else (none)) = some r := H
                          have A14 := Aside0.mk A140
                          clear A140
                          by_cases c15 : x481001_4.length < 8796093022208
                          · rw [if_pos c15] at H
                            have LMc15 := Aside0.mk c15
                            clear c15
                            obtain ⟨y483, hy483⟩ : ∃ y_ : List ByteArray, y_ = (x481001_4 ++ [t481]) := ⟨_, rfl⟩
                            replace H : (counterfoilref07_put.l2 k4 l0 a1 a2 x7_1 x8_1 x9_7 (wrap64 (x12_4 + 1)) x8_1 y483) = some r := by first | (rw [hy483]; with_reducible exact H) | (have H2_ := (Option.bind_some _ _).symm.trans H; rw [hy483]; with_reducible exact H2_) | (have H2_ := (Option.bind_some _ _).symm.trans H; with_reducible exact H2_) | with_reducible exact H | (rw [hy483]; exact H) | exact H
                            have Ny483 := Aside0.mk hy483
                            clear hy483
                            have H' := Aside0.mk H
                            clear H
                            go_wp2_with (first | ((with_reducible refine gate_callee (f := 41) rfl ?_); refine goesL_ (some 55) rfl rfl Try.func41 (by kernel_rfl) rfl #[.slice A0 l0.length c0, .int .i64 x8_1, .int .i64 x12_4] rfl (by (try simp only [List.map_toArray, List.map_cons, List.map_nil]); first | done | rfl | (simp only [List.length_drop, List.length_take]; rfl)) ?_; (with_reducible refine (counterfoilref07_Get.calls k4 _ _ l0 x8_1 x12_4 t481 t482 _ ?side1 ?side2 A14.out).mono ?_); (case side1 => repeat (first | exact (Kd.C_below HR0.out HB.out) | (with_reducible refine Kd.C_alloc ?_ _) | (with_reducible refine Kd.C_drewN ?_ _) | (with_reducible refine Kd.C_drew ?_))); (case side2 => exact HC0.out); rintro e w' ⟨rfl, ⟨nd, rfl⟩⟩; refine ⟨_, rfl, ?_⟩; (try (rw [drewN_self wr]; generalize hq_ : World.drewN wr _ = wr; have n0_ : Aside0 (Kd.R Kd.string 9 wr w.heap.size (fun _ => True) u481001 x481001_4) := ⟨by rw [← hq_]; exact (by (with_reducible repeat (first | apply Kd.R_alloc | apply Kd.R_drewN | apply Kd.R_drew)); exact HO_481001.out)⟩; have n1_ : Aside0 (Kd.S k49 49 wr w.heap.size (fun k_ => some k_ ≠ (u481001 : Value).ownBlock ∧ k_ ≠ gb480) u7 x7_1) := ⟨by rw [← hq_]; exact (by (with_reducible repeat (first | apply Kd.S_alloc | apply Kd.S_drewN | apply Kd.S_drew)); exact HO_7.out)⟩; have n2_ : Aside0 (wr.heap[gb480]? = some (.cells #[.int .i64 x8_1, u481001] 49 (0, 0))) := ⟨by rw [← hq_]; exact (by (with_reducible repeat (first | refine blk_drewN ?_ _ | refine blk_drew ?_ | refine blk_alloc ?_ _)); exact BK480.out)⟩; have n3_ : Aside0 (Below w.heap.size w wr) := ⟨by rw [← hq_]; exact (by repeat (first | (with_reducible first | exact HB.out | apply below_alloc | apply pw_below_drewN | apply below_drew1 | refine below_set ?_ GE480.out) | exact HB.out))⟩; clear HO_481001 HO_7 BK480 HB hq_; have HO_481001 := n0_; have HO_7 := n1_; have BK480 := n2_; have HB := n3_; clear n0_ n1_ n2_ n3_)); have hcz16_0 : wr.cell? ⟨gb480, 0, none⟩ = some (.int .i64 x8_1) := (blk_cell BK480.out 0).trans rfl; have hcz16_1 : wr.cell? ⟨gb480, 1, none⟩ = some (u481001) := (blk_cell BK480.out 1).trans rfl; have hfz16_0 := blk_frozen BK480.out 0; have hfz16_1 := blk_frozen BK480.out 1) | ((with_reducible refine gate_builtin (b := .append) (xs := #[.tmp 59, .tmp 61]) rfl ?_); at_builtin; refine Kd.R_append Kd.string (w0 := w) w.heap.size rfl (.tmp 59) (.tmp 61) 47 9 (.string ⟨#[]⟩) 16 rfl Try.underlying47 info9 rfl (by decide) (by omega) u481001 x481001_4 t481 [.string t481] (fun _ => True) (fun _ => False) rfl rfl ?aP (fun _ hk => hk.elim) ?aF ?aO ?aB ?aS ?aL ?_; (case aP => exact rfl); (case aB => exact (by repeat (first | (with_reducible first | exact HB.out | apply below_alloc | apply pw_below_drewN | apply below_drew1 | refine below_set ?_ GE480.out) | exact HB.out))); (case aF => exact (fun _ _ => trivial)); (case aO => exact (by (with_reducible repeat (first | apply Kd.R_alloc | apply Kd.R_drewN | apply Kd.R_drew)); exact HO_481001.out)); (case aS => exact (below_size (by repeat (first | (with_reducible first | exact HB.out | apply below_alloc | apply pw_below_drewN | apply below_drew1 | refine below_set ?_ GE480.out) | exact HB.out)))); (case aL => have := LMc15.out; omega); intro v484 w17 ho hb hg hat; rw [← Ny483.out] at ho; have n0_ := Aside0.mk (Kd.S_after (ok := (fun k_ => k_ ≠ gb480)) (by (with_reducible repeat (first | apply Kd.S_alloc | apply Kd.S_drewN | apply Kd.S_drew)); exact Kd.S_mono HO_7.out (fun _ hk => ⟨hk.2, hk.1⟩)) hg hat); have n1_ := Aside0.mk (blk_grown (g := gb480) (o := .cells #[.int .i64 x8_1, u481001] 49 (0, 0)) (by (with_reducible repeat (first | refine blk_drewN ?_ _ | refine blk_drew ?_ | refine blk_alloc ?_ _)); exact BK480.out) hg (Kd.R_ne HO_481001.out BK480.out (by decide))); have n2_ := Aside0.mk (hb); have n3_ := Aside0.mk (ho); clear HO_7; clear BK480; clear HB; clear HO_481001; have HO_7 := n0_; have BK480 := n1_; have HB := n2_; have HO485 := n3_; clear n0_ n1_ n2_ n3_; clear ho hb hg hat; obtain ⟨Ao18, co18, eo18⟩ := Kd.R_slice HO485.out; subst eo18; have hcz19_0 : w17.cell? ⟨gb480, 0, none⟩ = some (.int .i64 x8_1) := (blk_cell BK480.out 0).trans rfl; have hcz19_1 : w17.cell? ⟨gb480, 1, none⟩ = some (u481001) := (blk_cell BK480.out 1).trans rfl; have hfz19_0 := blk_frozen BK480.out 0; have hfz19_1 := blk_frozen BK480.out 1))
                            go_roundg k4
                            case measure => have := HK1.out; have := HK2.out; have := HJ7.out; have := HK4.out; omega
                            case rel => exact ⟨(wrap64 (x12_4 + 1)), (y483), (.slice Ao18 y483.length co18), (by first | rfl | (simp; done) | (simp [*]; done)), H', ⟨by have := HK1.out; have := HK2.out; have := HJ7.out; have := HK4.out; omega⟩, ⟨by (with_reducible repeat (first | apply Kd.S_alloc | apply Kd.S_drewN | apply Kd.S_drew)); exact Kd.S_mono (Kd.S_far (p := ⟨gb480, 1, none⟩) (Kd.S_mono HO_7.out (fun k_ hk => (⟨hk, hk.1⟩ : _ ∧ k_ ≠ gb480))) (fun _ hk => hk.2) (.slice Ao18 y483.length co18)) (fun _ hk => ⟨hk.1.2, hk.1.1⟩)⟩, ⟨by (with_reducible repeat (first | apply Kd.R_alloc | apply Kd.R_drewN | apply Kd.R_drew)); exact Kd.R_mono (Kd.R_far (p := ⟨gb480, 1, none⟩) (Kd.R_types HO485.out BK480.out (by decide)) (fun _ hk => hk.2) (.slice Ao18 y483.length co18)) (fun _ hk => trivial)⟩, ⟨by (with_reducible repeat (first | refine blk_drewN ?_ _ | refine blk_drew ?_ | refine blk_alloc ?_ _)); refine blk_put (cs := #[.int .i64 x8_1, u481001]) ?_ 1 _ rfl; (with_reducible repeat (first | refine blk_drewN ?_ _ | refine blk_drew ?_ | refine blk_alloc ?_ _)); exact BK480.out⟩, ⟨by repeat (first | (with_reducible first | exact HB.out | apply below_alloc | apply pw_below_drewN | apply below_drew1 | refine below_set ?_ GE480.out) | exact HB.out)⟩⟩
                          · rw [if_neg c15] at H
                            exact absurd H (by simp)
                        · rw [if_neg c13] at H
                          have c13b0 : decide (x12_4 < x9_7) = false := decide_eq_false c13
                          clear c13
                          by_cases c20 : x7_1.length < 4398046511104
                          · rw [if_pos c20] at H
                            have LMc20 := Aside0.mk c20
                            clear c20
                            obtain ⟨y486, hy486⟩ : ∃ y_ : List (S49), y_ = (x7_1 ++ [(⟨x8_1, x481001_4⟩ : S49)]) := ⟨_, rfl⟩
                            replace H : (counterfoilref07_put.l0 k4 l0 a1 a2 y486 (wrap64 (x8_1 + 1))) = some r := by first | (rw [hy486]; with_reducible exact H) | (have H2_ := (Option.bind_some _ _).symm.trans H; rw [hy486]; with_reducible exact H2_) | (have H2_ := (Option.bind_some _ _).symm.trans H; with_reducible exact H2_) | with_reducible exact H | (rw [hy486]; exact H) | exact H
                            have Ny486 := Aside0.mk hy486
                            clear hy486
                            have H' := Aside0.mk H
                            clear H
                            have hcz21_0 : wr.cell? ⟨gb480, 0, none⟩ = some (.int .i64 x8_1) := (blk_cell BK480.out 0).trans rfl
                            have hcz21_1 : wr.cell? ⟨gb480, 1, none⟩ = some (u481001) := (blk_cell BK480.out 1).trans rfl
                            have hfz21_0 := blk_frozen BK480.out 0
                            have hfz21_1 := blk_frozen BK480.out 1
                            obtain ⟨Ao23, co23, eo23⟩ := Kd.R_slice HO_481001.out
                            subst eo23
                            go_wp2_with (first | ((with_reducible refine gate_builtin (b := .append) (xs := #[.tmp 64, .tmp 66]) rfl ?_); at_builtin; refine Kd.S_append k49 (w0 := w) w.heap.size rfl (.tmp 64) (.tmp 66) 37 49 (.agg #[(.int .i64 0), (.slice none 0 0)]) 32 rfl Try.underlying37 info49 rfl (by decide) (by omega) u7 x7_1 (⟨x8_1, x481001_4⟩ : S49) [.int .i64 x8_1, .slice Ao23 x481001_4.length co23] (fun k_ => k_ ≠ gb480) (fun k_ => some k_ = (.slice Ao23 x481001_4.length co23 : Value).ownBlock) rfl rfl ?aP (fun k_ hk_ => ((Kd.R_mono (ok' := fun k_ => ((fun k_ => k_ ≠ gb480)) k_ ∧ some k_ ≠ (u7 : Value).ownBlock) (Kd.R_types (Kd.R_apart' (HO_481001.out) (Kd.S_typed HO_7.out) (by decide)) BK480.out (by decide)) (fun k_ hk => ⟨hk.2, hk.1.2⟩))).1 k_ hk_.symm) ?aF ?aO ?aB ?aS ?aL ?_; (case aP => exact k49_mkM _ _ _ (⟨x8_1, x481001_4⟩ : S49) (Kd.R_mono (Kd.R_tight rfl (Kd.R_mono (ok' := fun k_ => ((fun k_ => k_ ≠ gb480)) k_ ∧ some k_ ≠ (u7 : Value).ownBlock) (Kd.R_types (Kd.R_apart' (HO_481001.out) (Kd.S_typed HO_7.out) (by decide)) BK480.out (by decide)) (fun k_ hk => ⟨hk.2, hk.1.2⟩))) (fun _ h_ => h_))); (case aB => exact (by repeat (first | (with_reducible first | exact HB.out | apply below_alloc | apply pw_below_drewN | apply below_drew1 | refine below_set ?_ GE480.out) | exact HB.out))); (case aF => exact (fun k_ hk => Kd.freshB (g := gb480) (o := .cells #[.int .i64 x8_1, .slice Ao23 x481001_4.length co23] 49 (0, 0)) (by (with_reducible repeat (first | refine blk_drewN ?_ _ | refine blk_drew ?_ | refine blk_alloc ?_ _)); exact BK480.out) k_ hk)); (case aO => exact (by (with_reducible repeat (first | apply Kd.S_alloc | apply Kd.S_drewN | apply Kd.S_drew)); exact Kd.S_mono HO_7.out (fun k_ hk => ⟨hk.2, fun e_ => hk.1 e_⟩))); (case aS => exact (below_size (by repeat (first | (with_reducible first | exact HB.out | apply below_alloc | apply pw_below_drewN | apply below_drew1 | refine below_set ?_ GE480.out) | exact HB.out)))); (case aL => have := LMc20.out; omega); intro v487 w22 ho hb hg hat; rw [← Ny486.out] at ho; have n0_ := Aside0.mk (blk_grown (g := gb480) (o := .cells #[.int .i64 x8_1, .slice Ao23 x481001_4.length co23] 49 (0, 0)) (by (with_reducible repeat (first | refine blk_drewN ?_ _ | refine blk_drew ?_ | refine blk_alloc ?_ _)); exact BK480.out) hg (Kd.S_away HO_7.out (fun _ hk => hk.2))); have n1_ := Aside0.mk (hb); have n2_ := Aside0.mk (ho); clear BK480; clear HB; clear HO_7; clear HO_481001; have BK480 := n0_; have HB := n1_; have HO488 := n2_; clear n0_ n1_ n2_; clear ho hb hg hat))
                            go_roundg k4
                            case measure => have := HK1.out; have := HK2.out; have := HJ7.out; have := HK4.out; omega
                            case rel => exact ⟨(y486), (wrap64 (x8_1 + 1)), (by first | rfl | (simp; done) | (simp [*]; done)), H', ⟨by have := HK1.out; have := HK2.out; have := HJ7.out; have := HK4.out; omega⟩, ⟨by (with_reducible repeat (first | apply Kd.S_alloc | apply Kd.S_drewN | apply Kd.S_drew)); exact Kd.S_mono HO488.out (fun _ hk => trivial)⟩, ⟨by repeat (first | (with_reducible first | exact HB.out | apply below_alloc | apply pw_below_drewN | apply below_drew1 | refine below_set ?_ GE480.out) | exact HB.out)⟩⟩
                          · rw [if_neg c20] at H
                            exact absurd H (by simp)
      · rw [if_neg c4] at H
        have c4b0 : decide (x8_1 < 256) = false := decide_eq_false c4
        clear c4
        obtain rfl := Option.some.inj H
        go_wp2
        go_ret
        exact ⟨_, by first | rfl | (simp [errW_none, errW_some] <;> rfl) | (simp [*, errW_none, errW_some] <;> rfl), by (with_reducible repeat (first | apply Kd.S_alloc | apply Kd.S_drewN | apply Kd.S_drew)); exact HO_7.out, by repeat (first | (with_reducible first | exact HB.out | apply below_alloc | apply pw_below_drewN | apply below_drew1) | exact HB.out)⟩
end Go.Proofs.Ythdhkoeaadahaaa.P
