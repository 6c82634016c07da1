-- MADE BY wip/kit/myprint.py for this seat
import Derived.Test.YthdhkoeaadahaaaPx0
import Derived.Test.YthdhkoeaadahaaaPx81
import Derived.Test.YthdhkoeaadahaaaPx82
namespace Go.Proofs.Ythdhkoeaadahaaa.P
open Go.RowKit Go.Proofs.YthdhkoeaadahaaaW.PrintWords Go.Proofs.YthdhkoeaadahaaaW.PrintLast Go.Proofs.YthdhkoeaadahaaaW.PrintMore
attribute [local go_sem] max2_int min2_int max_two min_two max_three min_three max_four min_four   -- for this text's walks alone
set_option linter.unusedVariables false
set_option linter.unusedSimpArgs false

/-! ### counterfoilref07_Apply: function 58 -/
mutual
def counterfoilref07_Apply.l0 : Nat → List (S49) → List (S74) → List (S49) → Int → Option ((List (S49)) × Int)
  | 0, _, _, _, _ => none
  | k + 1, x0, x1, x7, x8 => if x8 < (x0.length : Int) then (if 0 ≤ x8 then (counterfoilref07_Apply.l1 k x0 x1 x7 x8 0 ((rd_T49 x0 x8).f0) ([] : List ByteArray)) else (none)) else (some (x7, 0))
def counterfoilref07_Apply.l1 : Nat → List (S49) → List (S74) → List (S49) → Int → Int → Int → List ByteArray → Option ((List (S49)) × Int)
  | 0, _, _, _, _, _, _, _ => none
  | k + 1, x0, x1, x7, x8, x10, x412000, x412001 => if 0 ≤ x8 then (if x8 < (x0.length : Int) then (if x10 < (((rd_T49 x0 x8).f1).length : Int) then ((counterfoilref07_Last.f k x1 x412000 x10).bind fun bt413 => (if bt413.2 = true then (if x412001.length < 8796093022208 then (counterfoilref07_Apply.l1 k x0 x1 x7 x8 (wrap64 (x10 + 1)) x412000 (x412001 ++ [bt413.1])) else (none)) else (if 0 ≤ x10 then (if x412001.length < 8796093022208 then (counterfoilref07_Apply.l1 k x0 x1 x7 x8 (wrap64 (x10 + 1)) x412000 (x412001 ++ [rdOf ByteArray.empty ((rd_T49 x0 x8).f1) x10])) else (none)) else (none)))) else (if x7.length < 4398046511104 then (counterfoilref07_Apply.l0 k x0 x1 (x7 ++ [(⟨x412000, x412001⟩ : S49)]) (wrap64 (x8 + 1))) else (none))) else (none)) else (none)
end
def counterfoilref07_Apply.f (k : Nat) (l0 : List (S49)) (l1 : List (S74)) : Option ((List (S49)) × Int) := (counterfoilref07_Check.f k l0 l1).bind fun t409 => (if t409 = 0 then (counterfoilref07_Apply.l0 k l0 l1 ([] : List (S49)) 0) else (some (([] : List (S49)), t409)))
theorem counterfoilref07_Apply.mono_l : ∀ k, (∀ y0 y1 y2 y3, LeO (counterfoilref07_Apply.l0 k y0 y1 y2 y3) (counterfoilref07_Apply.l0 (k + 1) y0 y1 y2 y3)) ∧ (∀ y0 y1 y2 y3 y4 y5 y6, LeO (counterfoilref07_Apply.l1 k y0 y1 y2 y3 y4 y5 y6) (counterfoilref07_Apply.l1 (k + 1) y0 y1 y2 y3 y4 y5 y6))
  | 0 => ⟨fun _ _ _ _ r h => by simp [counterfoilref07_Apply.l0] at h, fun _ _ _ _ _ _ _ r h => by simp [counterfoilref07_Apply.l1] at h⟩
  | k + 1 => by
    obtain ⟨ih0, ih1⟩ := counterfoilref07_Apply.mono_l k
    refine ⟨?_, ?_⟩
    · intro y0 y1 y2 y3
      unfold counterfoilref07_Apply.l0
      repeat' first
      | (with_reducible exact ih0 _ _ _ _)
      | (with_reducible exact ih1 _ _ _ _ _ _ _)
      | (with_reducible exact counterfoilref07_Check.mono _ _ _)
      | (with_reducible exact counterfoilref07_Last.mono _ _ _ _)
      | (with_reducible exact LeO.refl _)
      | (with_reducible exact LeO.none _)
      | (with_reducible refine LeO.ite ?_ ?_)
      | (with_reducible refine LeO.bind ?_ (fun _ => ?_))
      | exact ih0 _ _ _ _
      | exact ih1 _ _ _ _ _ _ _
      | exact counterfoilref07_Check.mono _ _ _
      | exact counterfoilref07_Last.mono _ _ _ _
      | exact LeO.none _
      | refine LeO.ite ?_ ?_
      | refine LeO.bind ?_ (fun _ => ?_)
    · intro y0 y1 y2 y3 y4 y5 y6
      unfold counterfoilref07_Apply.l1
      repeat' first
      | (with_reducible exact ih0 _ _ _ _)
      | (with_reducible exact ih1 _ _ _ _ _ _ _)
      | (with_reducible exact counterfoilref07_Check.mono _ _ _)
      | (with_reducible exact counterfoilref07_Last.mono _ _ _ _)
      | (with_reducible exact LeO.refl _)
      | (with_reducible exact LeO.none _)
      | (with_reducible refine LeO.ite ?_ ?_)
      | (with_reducible refine LeO.bind ?_ (fun _ => ?_))
      | exact ih0 _ _ _ _
      | exact ih1 _ _ _ _ _ _ _
      | exact counterfoilref07_Check.mono _ _ _
      | exact counterfoilref07_Last.mono _ _ _ _
      | exact LeO.none _
      | refine LeO.ite ?_ ?_
      | refine LeO.bind ?_ (fun _ => ?_)
theorem counterfoilref07_Apply.mono : ∀ a0 a1 k, LeO (counterfoilref07_Apply.f k a0 a1) (counterfoilref07_Apply.f (k + 1) a0 a1) := by
  intro a0 a1 k
  obtain ⟨ih0, ih1⟩ := counterfoilref07_Apply.mono_l k
  unfold counterfoilref07_Apply.f
  repeat' first
      | (with_reducible exact ih0 _ _ _ _)
      | (with_reducible exact ih1 _ _ _ _ _ _ _)
      | (with_reducible exact counterfoilref07_Check.mono _ _ _)
      | (with_reducible exact counterfoilref07_Last.mono _ _ _ _)
      | (with_reducible exact LeO.refl _)
      | (with_reducible exact LeO.none _)
      | (with_reducible refine LeO.ite ?_ ?_)
      | (with_reducible refine LeO.bind ?_ (fun _ => ?_))
      | exact ih0 _ _ _ _
      | exact ih1 _ _ _ _ _ _ _
      | exact counterfoilref07_Check.mono _ _ _
      | exact counterfoilref07_Last.mono _ _ _ _
      | exact LeO.none _
      | refine LeO.ite ?_ ?_
      | refine LeO.bind ?_ (fun _ => ?_)
set_option maxHeartbeats 8000000 in
set_option maxRecDepth 100000 in
theorem counterfoilref07_Apply.calls (k : Nat) (A0 : Option Addr) (c0 : Nat) (l0 : List (S49)) (A1 : Option Addr) (c1 : Nat) (l1 : List (S74)) (r1 : List (S49)) (r2 : Int) (w : World) (hr0 : Kd.C k49 w A0 l0.length l0) (hc0 : l0.length ≤ c0) (hr1 : Kd.C k74 w A1 l1.length l1) (hc1 : l1.length ≤ c1) (h : counterfoilref07_Apply.f k l0 l1 = some (r1, r2)) :
    Calls Try.prog 58 #[.slice A0 l0.length c0, .slice A1 l1.length c1] w fun e w' => ∃ v0_ : Value, e = .returned (.tuple #[v0_, .int .i64 r2]) ∧ Kd.S k49 49 w' w.heap.size (fun _ => True) v0_ r1 ∧ Below w.heap.size w w' := by
  have hu49 := Try.underlying49
  have HR0 := Aside0.mk hr0
  have HC0 := Aside0.mk hc0
  clear hr0 hc0
  have HR1 := Aside0.mk hr1
  have HC1 := Aside0.mk hc1
  clear hr1 hc1
  have HB := Aside0.mk (Below.refl w.heap.size w)
  have H : ((counterfoilref07_Check.f k l0 l1).bind fun t409 => (if t409 = 0 then (counterfoilref07_Apply.l0 k l0 l1 ([] : List (S49)) 0) else (some (([] : List (S49)), t409)))) = some (r1, r2) := h
  clear h
  replace H := Option.bind_eq_some_iff.mp H
  obtain ⟨t409, A30, H⟩ := H
  replace H : (if t409 = 0 then (counterfoilref07_Apply.l0 k l0 l1 ([] : List (S49)) 0) else (some (([] : List (S49)), t409))) = some (r1, r2) := H
  have A3 := Aside0.mk A30
  clear A30
  by_cases c4 : t409 = 0
  · rw [if_pos c4] at H
    have c4b0 : (t409 == 0) = true := beq_iff_eq.mpr c4
    have c4b1 : (t409 != 0) = false := bne_eq_false_iff_eq.mpr c4
    clear c4
    have H' := Aside0.mk H
    clear H
    go_enter Try.func58, Try.ntmps58
    go_wp2_with (first | ((with_reducible refine gate_callee (f := 107) rfl ?_); refine goesL_ (some 15) rfl rfl Try.func107 (by kernel_rfl) rfl #[.slice A0 l0.length c0, .slice A1 l1.length c1] rfl (by (try simp only [List.map_toArray, List.map_cons, List.map_nil]); first | done | rfl | (simp only [List.length_drop, List.length_take]; rfl)) ?_; (with_reducible refine (counterfoilref07_Check.calls k _ _ l0 _ _ l1 t409 _ ?side1 ?side2 ?side3 ?side4 A3.out).mono ?_); (case side1 => repeat (first | exact HR0.out | (with_reducible refine Kd.C_alloc ?_ _) | (with_reducible refine Kd.C_drewN ?_ _) | (with_reducible refine Kd.C_drew ?_))); (case side2 => exact HC0.out); (case side3 => repeat (first | exact HR1.out | (with_reducible refine Kd.C_alloc ?_ _) | (with_reducible refine Kd.C_drewN ?_ _) | (with_reducible refine Kd.C_drew ?_))); (case side4 => exact HC1.out); rintro e w' ⟨rfl, ⟨nd, rfl⟩⟩; refine ⟨_, rfl, ?_⟩))
    go_loopg [7, 8] k (fun kq v7 v8 w' => ∃ (x7_1 : List (S49)) (x8_1 : Int), v8 = .int .i64 x8_1 ∧ Aside0 (counterfoilref07_Apply.l0 kq l0 l1 x7_1 x8_1 = some (r1, r2)) ∧ Aside0 (kq ≤ k) ∧ Aside0 (Kd.S k49 49 w' w.heap.size (fun _ => True) v7 x7_1) ∧ Aside0 (Below w.heap.size w w'))
    case atStart => exact ⟨(([] : List (S49))), (0), (by first | rfl | (simp; done) | (simp [*]; done)), H', ⟨Nat.le_refl _⟩, ⟨by first | exact Kd.S_nil _ _ _ _ _ | exact Kd.N_nil _ _ _ _ _ | exact Kd.V_nil _ _ _ _ _ | exact Kd.Q_nil _ _ _ _ _ | exact Kd.R_nil _ _ _ _ _⟩, ⟨by repeat (first | (with_reducible first | exact HB.out | apply below_alloc | apply pw_below_drewN | apply below_drew1) | exact HB.out)⟩⟩
    case round =>
      clear H'
      try clear c1
      try clear p2
      try clear c4
      try clear c4b0
      try clear c4b1
      obtain ⟨x7_1, x8_1, rfl, HA, HK1, HO_7, HB⟩ := hrel
      cases gk with
      | zero => exact absurd HA.out (by simp [counterfoilref07_Apply.l0])
      | succ k1 =>
        have H := HA.out
        clear HA
        simp only [counterfoilref07_Apply.l0] at H
        by_cases c5 : x8_1 < (l0.length : Int)
        · rw [if_pos c5] at H
          have c5b0 : decide (x8_1 < (l0.length : Int)) = true := decide_eq_true c5
          clear c5
          by_cases c6 : 0 ≤ x8_1
          · rw [if_pos c6] at H
            have c6b0 : decide (0 ≤ x8_1) = true := decide_eq_true c6
            clear c6
            have H' := Aside0.mk H
            clear H
            have p410 : 0 ≤ (x8_1 : Int) := of_decide_eq_true (by first | (with_reducible assumption) | assumption)
            have q410 : x8_1 < (l0.length : Int) := of_decide_eq_true (by first | (with_reducible assumption) | assumption)
            obtain ⟨ad410, A410_1, c410_1, e410, hx410_0, hx410_1, hl410_1, hi410_1⟩ := at_T49 HR0.out x8_1 p410 q410
            cases e410
            replace hx410_0 := (HB.out.cell (World.block_lt_of_cell? w _ hx410_0)).trans hx410_0
            replace hx410_1 := (HB.out.cell (World.block_lt_of_cell? w _ hx410_1)).trans hx410_1
            have HR410_1 := Aside0.mk hi410_1
            have HC410_1 := Aside0.mk hl410_1
            clear hi410_1 hl410_1
            replace p410 := eq_true p410
            replace q410 := eq_true q410
            go_wp2_with (first | ((with_reducible refine gate_dst (N := 9) rfl ?_); refine box_event ?hg (N := 9) ?hd (cs := #[.int .i64 0, .slice none 0 0]) (t := 49) ?hr ?_; (case hd => rfl); (case hg => rfl); (case hr => first | (go_simp; done) | (go_simp; rfl)); intro gb411 hg w7 hbox hb; have n0_ := Aside0.mk (Kd.S_below (Kd.S_elderB (by (with_reducible repeat (first | apply Kd.S_alloc | apply Kd.S_drewN | apply Kd.S_drew)); exact HO_7.out) gb411 (Nat.le_of_eq hg.symm)) hb); have n1_ := Aside0.mk (below_step (by repeat (first | (with_reducible first | exact HB.out | apply below_alloc | apply pw_below_drewN | apply below_drew1) | exact HB.out)) hb); have n2_ := Aside0.mk (hbox); have n3_ := Aside0.mk ((by rw [hg]; exact (below_size (by repeat (first | (with_reducible first | exact HB.out | apply below_alloc | apply pw_below_drewN | apply below_drew1) | exact HB.out))) : w.heap.size ≤ gb411)); have n4_ := Aside0.mk ((by rw [hg]; exact (below_size (by repeat (first | (with_reducible first | exact HB.out | apply below_alloc | apply pw_below_drewN | apply below_drew1) | exact HB.out))) : w.heap.size ≤ gb411)); clear HO_7; clear HB; have HO_7 := n0_; have HB := n1_; have BK411 := n2_; have GW411 := n3_; have GE411 := n4_; clear n0_ n1_ n2_ n3_ n4_; clear hb hbox hg; have hcz8_0 : w7.cell? ⟨gb411, 0, none⟩ = some (.int .i64 0) := (blk_cell BK411.out 0).trans rfl; have hcz8_1 : w7.cell? ⟨gb411, 1, none⟩ = some (.slice none 0 0) := (blk_cell BK411.out 1).trans rfl; have hfz8_0 := blk_frozen BK411.out 0; have hfz8_1 := blk_frozen BK411.out 1))
            go_loopg [10] k1 (fun kq v10 w' => ∃ (x10_2 : Int) (x412001_2 : List ByteArray) (u412001 : Value), v10 = .int .i64 x10_2 ∧ Aside0 (counterfoilref07_Apply.l1 kq l0 l1 x7_1 x8_1 x10_2 ((rd_T49 l0 x8_1).f0) x412001_2 = some (r1, r2)) ∧ Aside0 (kq ≤ k1) ∧ Aside0 (Kd.S k49 49 w' w.heap.size (fun k_ => some k_ ≠ (u412001 : Value).ownBlock ∧ k_ ≠ gb411) u7 x7_1) ∧ Aside0 (Kd.R Kd.string 9 w' w.heap.size (fun _ => True) u412001 x412001_2) ∧ Aside0 (w'.heap[gb411]? = some (.cells #[.int .i64 ((rd_T49 l0 x8_1).f0), u412001] 49 (0, 0))) ∧ Aside0 (Below w.heap.size w w'))
            case atStart => exact ⟨(0), (([] : List ByteArray)), (.slice none 0 0), (by first | rfl | (simp; done) | (simp [*]; done)), H', ⟨Nat.le_refl _⟩, ⟨by (with_reducible repeat (first | apply Kd.S_alloc | apply Kd.S_drewN | apply Kd.S_drew)); exact Kd.S_mono (Kd.S_far (p := ⟨gb411, 1, none⟩) (Kd.S_far (p := ⟨gb411, 0, none⟩) (Kd.S_mono HO_7.out (fun k_ hk => (⟨hk, hk.2⟩ : _ ∧ k_ ≠ gb411))) (fun _ hk => hk.2) (.int .i64 ((rd_T49 l0 x8_1).f0))) (fun _ hk => hk.2) (.slice none 0 0)) (fun _ hk => ⟨(by simp [Value.ownBlock]), hk.1.2⟩)⟩, ⟨by first | exact Kd.R_nil _ _ _ _ _ | exact Kd.N_nil _ _ _ _ _ | exact Kd.V_nil _ _ _ _ _ | exact Kd.Q_nil _ _ _ _ _ | exact Kd.S_nil _ _ _ _ _⟩, ⟨by (with_reducible repeat (first | refine blk_drewN ?_ _ | refine blk_drew ?_ | refine blk_alloc ?_ _)); refine blk_put (cs := #[.int .i64 ((rd_T49 l0 x8_1).f0), .slice none 0 0]) ?_ 1 _ rfl; (with_reducible repeat (first | refine blk_drewN ?_ _ | refine blk_drew ?_ | refine blk_alloc ?_ _)); refine blk_put (cs := #[.int .i64 0, .slice none 0 0]) ?_ 0 _ rfl; (with_reducible repeat (first | refine blk_drewN ?_ _ | refine blk_drew ?_ | refine blk_alloc ?_ _)); exact BK411.out⟩, ⟨by repeat (first | (with_reducible first | exact HB.out | apply below_alloc | apply pw_below_drewN | apply below_drew1 | refine below_set ?_ GE411.out) | exact HB.out)⟩⟩
            case round =>
              clear H'
              try clear c1
              try clear p2
              try clear c4
              try clear c4b0
              try clear c4b1
              try clear p4
              try clear q4
              try clear hx4
              try clear c5
              try clear c5b0
              try clear c6
              try clear c6b0
              try clear hcz8_0
              try clear hcz8_1
              try clear hfz8_0
              try clear hfz8_1
              try clear hx410_0
              try clear hx410_1
              try clear p2
              try clear p410
              try clear q410
              obtain ⟨x10_2, x412001_2, u412001, rfl, HA, HK2, HO_7, HO_412001, BK411, HB⟩ := hrel
              cases gk with
              | zero => exact absurd HA.out (by simp [counterfoilref07_Apply.l1])
              | succ k2 =>
                have H := HA.out
                clear HA
                simp only [counterfoilref07_Apply.l1] at H
                by_cases c9 : 0 ≤ x8_1
                · rw [if_pos c9] at H
                  have c9b0 : decide (0 ≤ x8_1) = true := decide_eq_true c9
                  clear c9
                  by_cases c10 : x8_1 < (l0.length : Int)
                  · rw [if_pos c10] at H
                    have c10b0 : decide (x8_1 < (l0.length : Int)) = true := decide_eq_true c10
                    clear c10
                    by_cases c11 : x10_2 < (((rd_T49 l0 x8_1).f1).length : Int)
                    · rw [if_pos c11] at H
                      have c11b0 : decide (x10_2 < (((rd_T49 l0 x8_1).f1).length : Int)) = true := decide_eq_true c11
                      clear c11
                      replace H := Option.bind_eq_some_iff.mp H
                      obtain ⟨⟨t413, t414⟩, A120, H⟩ := H
                      replace H : (if t414 = true then (if x412001_2.length < 8796093022208 then (counterfoilref07_Apply.l1 k2 l0 l1 x7_1 x8_1 (wrap64 (x10_2 + 1)) ((rd_T49 l0 x8_1).f0) (x412001_2 ++ [t413])) else (none)) else (if 0 ≤ x10_2 then (if x412001_2.length < 8796093022208 then (counterfoilref07_Apply.l1 k2 l0 l1 x7_1 x8_1 (wrap64 (x10_2 + 1)) ((rd_T49 l0 x8_1).f0) (x412001_2 ++ [rdOf ByteArray.empty ((rd_T49 l0 x8_1).f1) x10_2])) else (none)) else (none))) = some (r1, r2) := H
                      have A12 := Aside0.mk A120
                      clear A120
                      by_cases c13 : t414 = true
                      · subst c13
                        have H1 : (if x412001_2.length < 8796093022208 then (counterfoilref07_Apply.l1 k2 l0 l1 x7_1 x8_1 (wrap64 (x10_2 + 1)) ((rd_T49 l0 x8_1).f0) (x412001_2 ++ [t413])) else (none)) = some (r1, r2) := by rw [if_pos rfl] at H; exact H
                        clear H
                        have H := H1
                        clear H1
                        by_cases c14 : x412001_2.length < 8796093022208
                        · rw [if_pos c14] at H
                          have LMc14 := Aside0.mk c14
                          clear c14
                          obtain ⟨y415, hy415⟩ : ∃ y_ : List ByteArray, y_ = (x412001_2 ++ [t413]) := ⟨_, rfl⟩
                          replace H : (counterfoilref07_Apply.l1 k2 l0 l1 x7_1 x8_1 (wrap64 (x10_2 + 1)) ((rd_T49 l0 x8_1).f0) y415) = some (r1, r2) := by first | (rw [hy415]; with_reducible exact H) | (have H2_ := (Option.bind_some _ _).symm.trans H; rw [hy415]; with_reducible exact H2_) | (have H2_ := (Option.bind_some _ _).symm.trans H; with_reducible exact H2_) | with_reducible exact H | (rw [hy415]; exact H) | exact H
                          have Ny415 := Aside0.mk hy415
                          clear hy415
                          have H' := Aside0.mk H
                          clear H
                          have p412 : 0 ≤ (x8_1 : Int) := of_decide_eq_true (by first | (with_reducible assumption) | assumption)
                          have q412 : x8_1 < (l0.length : Int) := of_decide_eq_true (by first | (with_reducible assumption) | assumption)
                          obtain ⟨ad412, A412_1, c412_1, e412, hx412_0, hx412_1, hl412_1, hi412_1⟩ := at_T49 HR0.out x8_1 p412 q412
                          obtain rfl : ad410 = ad412 := (by injection e412)
                          replace hx412_0 := (HB.out.cell (World.block_lt_of_cell? w _ hx412_0)).trans hx412_0
                          replace hx412_1 := (HB.out.cell (World.block_lt_of_cell? w _ hx412_1)).trans hx412_1
                          have HR412_1 := Aside0.mk hi412_1
                          have HC412_1 := Aside0.mk hl412_1
                          clear hi412_1 hl412_1
                          replace p412 := eq_true p412
                          replace q412 := eq_true q412
                          have hcz15_0 : wr.cell? ⟨gb411, 0, none⟩ = some (.int .i64 ((rd_T49 l0 x8_1).f0)) := (blk_cell BK411.out 0).trans rfl
                          have hcz15_1 : wr.cell? ⟨gb411, 1, none⟩ = some (u412001) := (blk_cell BK411.out 1).trans rfl
                          have hfz15_0 := blk_frozen BK411.out 0
                          have hfz15_1 := blk_frozen BK411.out 1
                          go_wp2_with (first | ((with_reducible refine gate_callee (f := 108) rfl ?_); refine goesL_ (some 46) rfl rfl Try.func108 (by kernel_rfl) rfl #[.slice A1 l1.length c1, .int .i64 ((rd_T49 l0 x8_1).f0), .int .i64 x10_2] rfl (by (try simp only [List.map_toArray, List.map_cons, List.map_nil]); first | done | rfl | (simp only [List.length_drop, List.length_take]; rfl)) ?_; (with_reducible refine (counterfoilref07_Last.calls k2 _ _ l1 ((rd_T49 l0 x8_1).f0) x10_2 t413 true _ ?side1 ?side2 A12.out).mono ?_); (case side1 => repeat (first | exact (Kd.C_below HR1.out HB.out) | (with_reducible refine Kd.C_alloc ?_ _) | (with_reducible refine Kd.C_drewN ?_ _) | (with_reducible refine Kd.C_drew ?_))); (case side2 => exact HC1.out); rintro e w' ⟨rfl, ⟨nd, rfl⟩⟩; refine ⟨_, rfl, ?_⟩; skip) | ((with_reducible refine gate_builtin (b := .append) (xs := #[.tmp 60, .tmp 62]) rfl ?_); at_builtin; refine Kd.R_append Kd.string (w0 := w) w.heap.size rfl (.tmp 60) (.tmp 62) 47 9 (.string ⟨#[]⟩) 16 rfl Try.underlying47 info9 rfl (by decide) (by omega) u412001 x412001_2 t413 [.string t413] (fun _ => True) (fun _ => False) rfl rfl ?aP (fun _ hk => hk.elim) ?aF ?aO ?aB ?aS ?aL ?_; (case aP => exact rfl); (case aB => exact (by repeat (first | (with_reducible first | exact HB.out | apply below_alloc | apply pw_below_drewN | apply below_drew1 | refine below_set ?_ GE411.out) | exact HB.out))); (case aF => exact (fun _ _ => trivial)); (case aO => exact (by (with_reducible repeat (first | apply Kd.R_alloc | apply Kd.R_drewN | apply Kd.R_drew)); exact HO_412001.out)); (case aS => exact (below_size (by repeat (first | (with_reducible first | exact HB.out | apply below_alloc | apply pw_below_drewN | apply below_drew1 | refine below_set ?_ GE411.out) | exact HB.out)))); (case aL => have := LMc14.out; omega); intro v416 w16 ho hb hg hat; rw [← Ny415.out] at ho; have n0_ := Aside0.mk (Kd.S_after (ok := (fun k_ => k_ ≠ gb411)) (by (with_reducible repeat (first | apply Kd.S_alloc | apply Kd.S_drewN | apply Kd.S_drew)); exact Kd.S_mono HO_7.out (fun _ hk => ⟨hk.2, hk.1⟩)) hg hat); have n1_ := Aside0.mk (blk_grown (g := gb411) (o := .cells #[.int .i64 ((rd_T49 l0 x8_1).f0), u412001] 49 (0, 0)) (by (with_reducible repeat (first | refine blk_drewN ?_ _ | refine blk_drew ?_ | refine blk_alloc ?_ _)); exact BK411.out) hg (Kd.R_ne HO_412001.out BK411.out (by decide))); have n2_ := Aside0.mk (hb); have n3_ := Aside0.mk (ho); clear HO_7; clear BK411; clear HB; clear HO_412001; have HO_7 := n0_; have BK411 := n1_; have HB := n2_; have HO417 := n3_; clear n0_ n1_ n2_ n3_; clear ho hb hg hat; obtain ⟨Ao17, co17, eo17⟩ := Kd.R_slice HO417.out; subst eo17; have hcz18_0 : w16.cell? ⟨gb411, 0, none⟩ = some (.int .i64 ((rd_T49 l0 x8_1).f0)) := (blk_cell BK411.out 0).trans rfl; have hcz18_1 : w16.cell? ⟨gb411, 1, none⟩ = some (u412001) := (blk_cell BK411.out 1).trans rfl; have hfz18_0 := blk_frozen BK411.out 0; have hfz18_1 := blk_frozen BK411.out 1))
                          go_roundg k2
                          case measure => have := HK1.out; have := HK2.out; omega
                          case rel => exact ⟨(wrap64 (x10_2 + 1)), (y415), (.slice Ao17 y415.length co17), (by first | rfl | (simp; done) | (simp [*]; done)), H', ⟨by have := HK1.out; have := HK2.out; omega⟩, ⟨by (with_reducible repeat (first | apply Kd.S_alloc | apply Kd.S_drewN | apply Kd.S_drew)); exact Kd.S_mono (Kd.S_far (p := ⟨gb411, 1, none⟩) (Kd.S_mono HO_7.out (fun k_ hk => (⟨hk, hk.1⟩ : _ ∧ k_ ≠ gb411))) (fun _ hk => hk.2) (.slice Ao17 y415.length co17)) (fun _ hk => ⟨hk.1.2, hk.1.1⟩)⟩, ⟨by (with_reducible repeat (first | apply Kd.R_alloc | apply Kd.R_drewN | apply Kd.R_drew)); exact Kd.R_mono (Kd.R_far (p := ⟨gb411, 1, none⟩) (Kd.R_types HO417.out BK411.out (by decide)) (fun _ hk => hk.2) (.slice Ao17 y415.length co17)) (fun _ hk => trivial)⟩, ⟨by (with_reducible repeat (first | refine blk_drewN ?_ _ | refine blk_drew ?_ | refine blk_alloc ?_ _)); refine blk_put (cs := #[.int .i64 ((rd_T49 l0 x8_1).f0), u412001]) ?_ 1 _ rfl; (with_reducible repeat (first | refine blk_drewN ?_ _ | refine blk_drew ?_ | refine blk_alloc ?_ _)); exact BK411.out⟩, ⟨by repeat (first | (with_reducible first | exact HB.out | apply below_alloc | apply pw_below_drewN | apply below_drew1 | refine below_set ?_ GE411.out) | exact HB.out)⟩⟩
                        · rw [if_neg c14] at H
                          exact absurd H (by simp)
                      · replace c13 := Bool.eq_false_iff.mpr c13
                        subst c13
                        have H1 : (if 0 ≤ x10_2 then (if x412001_2.length < 8796093022208 then (counterfoilref07_Apply.l1 k2 l0 l1 x7_1 x8_1 (wrap64 (x10_2 + 1)) ((rd_T49 l0 x8_1).f0) (x412001_2 ++ [rdOf ByteArray.empty ((rd_T49 l0 x8_1).f1) x10_2])) else (none)) else (none)) = some (r1, r2) := by rw [if_neg (show ¬ (false = true) by decide)] at H; exact H
                        clear H
                        have H := H1
                        clear H1
                        by_cases c19 : 0 ≤ x10_2
                        · rw [if_pos c19] at H
                          have c19b0 : decide (0 ≤ x10_2) = true := decide_eq_true c19
                          clear c19
                          by_cases c20 : x412001_2.length < 8796093022208
                          · rw [if_pos c20] at H
                            have LMc20 := Aside0.mk c20
                            clear c20
                            obtain ⟨y420, hy420⟩ : ∃ y_ : List ByteArray, y_ = (x412001_2 ++ [rdOf ByteArray.empty ((rd_T49 l0 x8_1).f1) x10_2]) := ⟨_, rfl⟩
                            replace H : (counterfoilref07_Apply.l1 k2 l0 l1 x7_1 x8_1 (wrap64 (x10_2 + 1)) ((rd_T49 l0 x8_1).f0) y420) = some (r1, r2) := by first | (rw [hy420]; with_reducible exact H) | (have H2_ := (Option.bind_some _ _).symm.trans H; rw [hy420]; with_reducible exact H2_) | (have H2_ := (Option.bind_some _ _).symm.trans H; with_reducible exact H2_) | with_reducible exact H | (rw [hy420]; exact H) | exact H
                            have Ny420 := Aside0.mk hy420
                            clear hy420
                            have H' := Aside0.mk H
                            clear H
                            have p412 : 0 ≤ (x8_1 : Int) := of_decide_eq_true (by first | (with_reducible assumption) | assumption)
                            have q412 : x8_1 < (l0.length : Int) := of_decide_eq_true (by first | (with_reducible assumption) | assumption)
                            obtain ⟨ad412, A412_1, c412_1, e412, hx412_0, hx412_1, hl412_1, hi412_1⟩ := at_T49 HR0.out x8_1 p412 q412
                            obtain rfl : ad410 = ad412 := (by injection e412)
                            replace hx412_0 := (HB.out.cell (World.block_lt_of_cell? w _ hx412_0)).trans hx412_0
                            replace hx412_1 := (HB.out.cell (World.block_lt_of_cell? w _ hx412_1)).trans hx412_1
                            have HR412_1 := Aside0.mk hi412_1
                            have HC412_1 := Aside0.mk hl412_1
                            clear hi412_1 hl412_1
                            replace p412 := eq_true p412
                            replace q412 := eq_true q412
                            have hcz21_0 : wr.cell? ⟨gb411, 0, none⟩ = some (.int .i64 ((rd_T49 l0 x8_1).f0)) := (blk_cell BK411.out 0).trans rfl
                            have hcz21_1 : wr.cell? ⟨gb411, 1, none⟩ = some (u412001) := (blk_cell BK411.out 1).trans rfl
                            have hfz21_0 := blk_frozen BK411.out 0
                            have hfz21_1 := blk_frozen BK411.out 1
                            go_wp2_with (first | ((with_reducible refine gate_callee (f := 108) rfl ?_); refine goesL_ (some 46) rfl rfl Try.func108 (by kernel_rfl) rfl #[.slice A1 l1.length c1, .int .i64 ((rd_T49 l0 x8_1).f0), .int .i64 x10_2] rfl (by (try simp only [List.map_toArray, List.map_cons, List.map_nil]); first | done | rfl | (simp only [List.length_drop, List.length_take]; rfl)) ?_; (with_reducible refine (counterfoilref07_Last.calls k2 _ _ l1 ((rd_T49 l0 x8_1).f0) x10_2 t413 false _ ?side1 ?side2 A12.out).mono ?_); (case side1 => repeat (first | exact (Kd.C_below HR1.out HB.out) | (with_reducible refine Kd.C_alloc ?_ _) | (with_reducible refine Kd.C_drewN ?_ _) | (with_reducible refine Kd.C_drew ?_))); (case side2 => exact HC1.out); rintro e w' ⟨rfl, ⟨nd, rfl⟩⟩; refine ⟨_, rfl, ?_⟩; skip; have p418 : 0 ≤ (x8_1 : Int) := of_decide_eq_true (by first | (with_reducible assumption) | assumption); have q418 : x8_1 < (l0.length : Int) := of_decide_eq_true (by first | (with_reducible assumption) | assumption); obtain ⟨ad418, A418_1, c418_1, e418, hx418_0, hx418_1, hl418_1, hi418_1⟩ := at_T49 HR0.out x8_1 p418 q418; obtain rfl : ad410 = ad418 := (by injection e418); replace hx418_0 := (HB.out.cell (World.block_lt_of_cell? w _ hx418_0)).trans hx418_0; replace hx418_1 := (HB.out.cell (World.block_lt_of_cell? w _ hx418_1)).trans hx418_1; have HR418_1 := Aside0.mk hi418_1; have HC418_1 := Aside0.mk hl418_1; clear hi418_1 hl418_1; replace p418 := eq_true p418; replace q418 := eq_true q418; have ea_ := Option.some.inj (hx412_1.symm.trans hx418_1); injection ea_ with ea_ en_ ec_; subst ea_; subst ec_; clear en_; have p419 : 0 ≤ (x10_2 : Int) := of_decide_eq_true (by first | (with_reducible assumption) | assumption); have q419 : x10_2 < (((rd_T49 l0 x8_1).f1).length : Int) := of_decide_eq_true (by first | (with_reducible assumption) | assumption); obtain ⟨ad419, e419, hx419_0⟩ := Kd.at_string HR418_1.out x10_2 p419 q419; cases e419; replace hx419_0 := (HB.out.cell (World.block_lt_of_cell? w _ hx419_0)).trans hx419_0; replace p419 := eq_true p419; replace q419 := eq_true q419) | ((with_reducible refine gate_builtin (b := .append) (xs := #[.tmp 60, .tmp 62]) rfl ?_); at_builtin; refine Kd.R_append Kd.string (w0 := w) w.heap.size rfl (.tmp 60) (.tmp 62) 47 9 (.string ⟨#[]⟩) 16 rfl Try.underlying47 info9 rfl (by decide) (by omega) u412001 x412001_2 (rdOf ByteArray.empty ((rd_T49 l0 x8_1).f1) x10_2) [.string (rdOf ByteArray.empty ((rd_T49 l0 x8_1).f1) x10_2)] (fun _ => True) (fun _ => False) rfl rfl ?aP (fun _ hk => hk.elim) ?aF ?aO ?aB ?aS ?aL ?_; (case aP => exact rfl); (case aB => exact (by repeat (first | (with_reducible first | exact HB.out | apply below_alloc | apply pw_below_drewN | apply below_drew1 | refine below_set ?_ GE411.out) | exact HB.out))); (case aF => exact (fun _ _ => trivial)); (case aO => exact (by (with_reducible repeat (first | apply Kd.R_alloc | apply Kd.R_drewN | apply Kd.R_drew)); exact HO_412001.out)); (case aS => exact (below_size (by repeat (first | (with_reducible first | exact HB.out | apply below_alloc | apply pw_below_drewN | apply below_drew1 | refine below_set ?_ GE411.out) | exact HB.out)))); (case aL => have := LMc20.out; omega); intro v421 w22 ho hb hg hat; rw [← Ny420.out] at ho; have n0_ := Aside0.mk (Kd.S_after (ok := (fun k_ => k_ ≠ gb411)) (by (with_reducible repeat (first | apply Kd.S_alloc | apply Kd.S_drewN | apply Kd.S_drew)); exact Kd.S_mono HO_7.out (fun _ hk => ⟨hk.2, hk.1⟩)) hg hat); have n1_ := Aside0.mk (blk_grown (g := gb411) (o := .cells #[.int .i64 ((rd_T49 l0 x8_1).f0), u412001] 49 (0, 0)) (by (with_reducible repeat (first | refine blk_drewN ?_ _ | refine blk_drew ?_ | refine blk_alloc ?_ _)); exact BK411.out) hg (Kd.R_ne HO_412001.out BK411.out (by decide))); have n2_ := Aside0.mk (hb); have n3_ := Aside0.mk (ho); clear HO_7; clear BK411; clear HB; clear HO_412001; have HO_7 := n0_; have BK411 := n1_; have HB := n2_; have HO422 := n3_; clear n0_ n1_ n2_ n3_; clear ho hb hg hat; obtain ⟨Ao23, co23, eo23⟩ := Kd.R_slice HO422.out; subst eo23; have hcz24_0 : w22.cell? ⟨gb411, 0, none⟩ = some (.int .i64 ((rd_T49 l0 x8_1).f0)) := (blk_cell BK411.out 0).trans rfl; have hcz24_1 : w22.cell? ⟨gb411, 1, none⟩ = some (u412001) := (blk_cell BK411.out 1).trans rfl; have hfz24_0 := blk_frozen BK411.out 0; have hfz24_1 := blk_frozen BK411.out 1))
                            go_roundg k2
                            case measure => have := HK1.out; have := HK2.out; omega
                            case rel => exact ⟨(wrap64 (x10_2 + 1)), (y420), (.slice Ao23 y420.length co23), (by first | rfl | (simp; done) | (simp [*]; done)), H', ⟨by have := HK1.out; have := HK2.out; omega⟩, ⟨by (with_reducible repeat (first | apply Kd.S_alloc | apply Kd.S_drewN | apply Kd.S_drew)); exact Kd.S_mono (Kd.S_far (p := ⟨gb411, 1, none⟩) (Kd.S_mono HO_7.out (fun k_ hk => (⟨hk, hk.1⟩ : _ ∧ k_ ≠ gb411))) (fun _ hk => hk.2) (.slice Ao23 y420.length co23)) (fun _ hk => ⟨hk.1.2, hk.1.1⟩)⟩, ⟨by (with_reducible repeat (first | apply Kd.R_alloc | apply Kd.R_drewN | apply Kd.R_drew)); exact Kd.R_mono (Kd.R_far (p := ⟨gb411, 1, none⟩) (Kd.R_types HO422.out BK411.out (by decide)) (fun _ hk => hk.2) (.slice Ao23 y420.length co23)) (fun _ hk => trivial)⟩, ⟨by (with_reducible repeat (first | refine blk_drewN ?_ _ | refine blk_drew ?_ | refine blk_alloc ?_ _)); refine blk_put (cs := #[.int .i64 ((rd_T49 l0 x8_1).f0), u412001]) ?_ 1 _ rfl; (with_reducible repeat (first | refine blk_drewN ?_ _ | refine blk_drew ?_ | refine blk_alloc ?_ _)); exact BK411.out⟩, ⟨by repeat (first | (with_reducible first | exact HB.out | apply below_alloc | apply pw_below_drewN | apply below_drew1 | refine below_set ?_ GE411.out) | exact HB.out)⟩⟩
                          · rw [if_neg c20] at H
                            exact absurd H (by simp)
                        · rw [if_neg c19] at H
                          exact absurd H (by simp)
                    · rw [if_neg c11] at H
                      have c11b0 : decide (x10_2 < (((rd_T49 l0 x8_1).f1).length : Int)) = false := decide_eq_false c11
                      clear c11
                      by_cases c25 : x7_1.length < 4398046511104
                      · rw [if_pos c25] at H
                        have LMc25 := Aside0.mk c25
                        clear c25
                        obtain ⟨y423, hy423⟩ : ∃ y_ : List (S49), y_ = (x7_1 ++ [(⟨((rd_T49 l0 x8_1).f0), x412001_2⟩ : S49)]) := ⟨_, rfl⟩
                        replace H : (counterfoilref07_Apply.l0 k2 l0 l1 y423 (wrap64 (x8_1 + 1))) = some (r1, r2) := by first | (rw [hy423]; with_reducible exact H) | (have H2_ := (Option.bind_some _ _).symm.trans H; rw [hy423]; with_reducible exact H2_) | (have H2_ := (Option.bind_some _ _).symm.trans H; with_reducible exact H2_) | with_reducible exact H | (rw [hy423]; exact H) | exact H
                        have Ny423 := Aside0.mk hy423
                        clear hy423
                        have H' := Aside0.mk H
                        clear H
                        have p412 : 0 ≤ (x8_1 : Int) := of_decide_eq_true (by first | (with_reducible assumption) | assumption)
                        have q412 : x8_1 < (l0.length : Int) := of_decide_eq_true (by first | (with_reducible assumption) | assumption)
                        obtain ⟨ad412, A412_1, c412_1, e412, hx412_0, hx412_1, hl412_1, hi412_1⟩ := at_T49 HR0.out x8_1 p412 q412
                        obtain rfl : ad410 = ad412 := (by injection e412)
                        replace hx412_0 := (HB.out.cell (World.block_lt_of_cell? w _ hx412_0)).trans hx412_0
                        replace hx412_1 := (HB.out.cell (World.block_lt_of_cell? w _ hx412_1)).trans hx412_1
                        have HR412_1 := Aside0.mk hi412_1
                        have HC412_1 := Aside0.mk hl412_1
                        clear hi412_1 hl412_1
                        replace p412 := eq_true p412
                        replace q412 := eq_true q412
                        have hcz26_0 : wr.cell? ⟨gb411, 0, none⟩ = some (.int .i64 ((rd_T49 l0 x8_1).f0)) := (blk_cell BK411.out 0).trans rfl
                        have hcz26_1 : wr.cell? ⟨gb411, 1, none⟩ = some (u412001) := (blk_cell BK411.out 1).trans rfl
                        have hfz26_0 := blk_frozen BK411.out 0
                        have hfz26_1 := blk_frozen BK411.out 1
                        obtain ⟨Ao28, co28, eo28⟩ := Kd.R_slice HO_412001.out
                        subst eo28
                        go_wp2_with (first | ((with_reducible refine gate_builtin (b := .append) (xs := #[.tmp 65, .tmp 67]) rfl ?_); at_builtin; refine Kd.S_append k49 (w0 := w) w.heap.size rfl (.tmp 65) (.tmp 67) 37 49 (.agg #[(.int .i64 0), (.slice none 0 0)]) 32 rfl Try.underlying37 info49 rfl (by decide) (by omega) u7 x7_1 (⟨((rd_T49 l0 x8_1).f0), x412001_2⟩ : S49) [.int .i64 ((rd_T49 l0 x8_1).f0), .slice Ao28 x412001_2.length co28] (fun k_ => k_ ≠ gb411) (fun k_ => some k_ = (.slice Ao28 x412001_2.length co28 : Value).ownBlock) rfl rfl ?aP (fun k_ hk_ => ((Kd.R_mono (ok' := fun k_ => ((fun k_ => k_ ≠ gb411)) k_ ∧ some k_ ≠ (u7 : Value).ownBlock) (Kd.R_types (Kd.R_apart' (HO_412001.out) (Kd.S_typed HO_7.out) (by decide)) BK411.out (by decide)) (fun k_ hk => ⟨hk.2, hk.1.2⟩))).1 k_ hk_.symm) ?aF ?aO ?aB ?aS ?aL ?_; (case aP => exact k49_mkM _ _ _ (⟨((rd_T49 l0 x8_1).f0), x412001_2⟩ : S49) (Kd.R_mono (Kd.R_tight rfl (Kd.R_mono (ok' := fun k_ => ((fun k_ => k_ ≠ gb411)) k_ ∧ some k_ ≠ (u7 : Value).ownBlock) (Kd.R_types (Kd.R_apart' (HO_412001.out) (Kd.S_typed HO_7.out) (by decide)) BK411.out (by decide)) (fun k_ hk => ⟨hk.2, hk.1.2⟩))) (fun _ h_ => h_))); (case aB => exact (by repeat (first | (with_reducible first | exact HB.out | apply below_alloc | apply pw_below_drewN | apply below_drew1 | refine below_set ?_ GE411.out) | exact HB.out))); (case aF => exact (fun k_ hk => Kd.freshB (g := gb411) (o := .cells #[.int .i64 ((rd_T49 l0 x8_1).f0), .slice Ao28 x412001_2.length co28] 49 (0, 0)) (by (with_reducible repeat (first | refine blk_drewN ?_ _ | refine blk_drew ?_ | refine blk_alloc ?_ _)); exact BK411.out) k_ hk)); (case aO => exact (by (with_reducible repeat (first | apply Kd.S_alloc | apply Kd.S_drewN | apply Kd.S_drew)); exact Kd.S_mono HO_7.out (fun k_ hk => ⟨hk.2, fun e_ => hk.1 e_⟩))); (case aS => exact (below_size (by repeat (first | (with_reducible first | exact HB.out | apply below_alloc | apply pw_below_drewN | apply below_drew1 | refine below_set ?_ GE411.out) | exact HB.out)))); (case aL => have := LMc25.out; omega); intro v424 w27 ho hb hg hat; rw [← Ny423.out] at ho; have n0_ := Aside0.mk (blk_grown (g := gb411) (o := .cells #[.int .i64 ((rd_T49 l0 x8_1).f0), .slice Ao28 x412001_2.length co28] 49 (0, 0)) (by (with_reducible repeat (first | refine blk_drewN ?_ _ | refine blk_drew ?_ | refine blk_alloc ?_ _)); exact BK411.out) hg (Kd.S_away HO_7.out (fun _ hk => hk.2))); have n1_ := Aside0.mk (hb); have n2_ := Aside0.mk (ho); clear BK411; clear HB; clear HO_7; clear HO_412001; have BK411 := n0_; have HB := n1_; have HO425 := n2_; clear n0_ n1_ n2_; clear ho hb hg hat))
                        go_roundg k2
                        case measure => have := HK1.out; have := HK2.out; omega
                        case rel => exact ⟨(y423), (wrap64 (x8_1 + 1)), (by first | rfl | (simp; done) | (simp [*]; done)), H', ⟨by have := HK1.out; have := HK2.out; omega⟩, ⟨by (with_reducible repeat (first | apply Kd.S_alloc | apply Kd.S_drewN | apply Kd.S_drew)); exact Kd.S_mono HO425.out (fun _ hk => trivial)⟩, ⟨by repeat (first | (with_reducible first | exact HB.out | apply below_alloc | apply pw_below_drewN | apply below_drew1 | refine below_set ?_ GE411.out) | exact HB.out)⟩⟩
                      · rw [if_neg c25] at H
                        exact absurd H (by simp)
                  · rw [if_neg c10] at H
                    exact absurd H (by simp)
                · rw [if_neg c9] at H
                  exact absurd H (by simp)
          · rw [if_neg c6] at H
            exact absurd H (by simp)
        · rw [if_neg c5] at H
          have c5b0 : decide (x8_1 < (l0.length : Int)) = false := decide_eq_false c5
          clear c5
          simp only [Option.some.injEq, Prod.mk.injEq] at H
          obtain ⟨rfl, rfl⟩ := H
          go_wp2
          go_ret2
          exact ⟨_, by first | rfl | (simp [errW_none, errW_some] <;> rfl) | (simp [*, errW_none, errW_some] <;> rfl), by (with_reducible repeat (first | apply Kd.S_alloc | apply Kd.S_drewN | apply Kd.S_drew)); exact HO_7.out, by repeat (first | (with_reducible first | exact HB.out | apply below_alloc | apply pw_below_drewN | apply below_drew1) | exact HB.out)⟩
  · rw [if_neg c4] at H
    have c4b0 : (t409 == 0) = false := beq_eq_false_iff_ne.mpr c4
    have c4b1 : (t409 != 0) = true := bne_iff_ne.mpr c4
    simp only [Option.some.injEq, Prod.mk.injEq] at H
    obtain ⟨rfl, rfl⟩ := H
    go_enter Try.func58, Try.ntmps58
    go_wp2_with (first | ((with_reducible refine gate_callee (f := 107) rfl ?_); refine goesL_ (some 15) rfl rfl Try.func107 (by kernel_rfl) rfl #[.slice A0 l0.length c0, .slice A1 l1.length c1] rfl (by (try simp only [List.map_toArray, List.map_cons, List.map_nil]); first | done | rfl | (simp only [List.length_drop, List.length_take]; rfl)) ?_; (with_reducible refine (counterfoilref07_Check.calls k _ _ l0 _ _ l1 t409 _ ?side1 ?side2 ?side3 ?side4 A3.out).mono ?_); (case side1 => repeat (first | exact HR0.out | (with_reducible refine Kd.C_alloc ?_ _) | (with_reducible refine Kd.C_drewN ?_ _) | (with_reducible refine Kd.C_drew ?_))); (case side2 => exact HC0.out); (case side3 => repeat (first | exact HR1.out | (with_reducible refine Kd.C_alloc ?_ _) | (with_reducible refine Kd.C_drewN ?_ _) | (with_reducible refine Kd.C_drew ?_))); (case side4 => exact HC1.out); rintro e w' ⟨rfl, ⟨nd, rfl⟩⟩; refine ⟨_, rfl, ?_⟩))
    go_ret2
    exact ⟨_, by first | rfl | (simp [errW_none, errW_some] <;> rfl) | (simp [*, errW_none, errW_some] <;> rfl), by first | exact Kd.S_nil _ _ _ _ _ | exact Kd.N_nil _ _ _ _ _ | exact Kd.V_nil _ _ _ _ _ | exact Kd.Q_nil _ _ _ _ _ | exact Kd.R_nil _ _ _ _ _, by repeat (first | (with_reducible first | exact HB.out | apply below_alloc | apply pw_below_drewN | apply below_drew1) | exact HB.out)⟩

end Go.Proofs.Ythdhkoeaadahaaa.P
