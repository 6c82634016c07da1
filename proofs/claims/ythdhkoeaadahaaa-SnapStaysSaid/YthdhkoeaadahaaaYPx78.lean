-- PACKED by wip/kit/pack.py: what the law's proof uses of Px78 (printed words and texts of this seat)
import Derived.Test.YthdhkoeaadahaaaYPx0
import Derived.Test.YthdhkoeaadahaaaYEVGet
namespace Go.Proofs.Ythdhkoeaadahaaa.P
open Go.RowKit Go.Proofs.YthdhkoeaadahaaaW.PrintWords Go.Proofs.YthdhkoeaadahaaaW.PrintLast Go.Proofs.YthdhkoeaadahaaaW.PrintMore
attribute [local go_sem] max2_int min2_int max_two min_two max_three min_three max_four min_four
set_option linter.unusedVariables false
set_option linter.unusedSimpArgs false
def fold_Pick.l0 : Nat → List (S49) → List (S74) → List (S124) → Int → Int → Option ((List (S74)) × Int)
  | 0, _, _, _, _, _ => none
  | k + 1, x0, x6, x14, x15, x16 => if x16 < x15 then (if 0 ≤ x16 then (if x16 < (x14.length : Int) then ((vols_Get.f x0 ((rd_T124 x14 x16).f0) ((rd_T124 x14 x16).f1)).bind fun bt593 => (if bt593.2 = 0 then (if x6.length < 4398046511104 then (fold_Pick.l0 k x0 (x6 ++ [(⟨(rd_T124 x14 x16).f0, (rd_T124 x14 x16).f1, bt593.1⟩ : S74)]) x14 x15 (wrap64 (x16 + 1))) else (none)) else (some (([] : List (S74)), bt593.2)))) else (none)) else (none)) else (some (x6, 0))
def fold_Pick.f (k : Nat) (l0 : List (S49)) (l1 : List (S124)) : Option ((List (S74)) × Int) := (vols_Right.f l0).bind fun t590 => (if t590 = true then (fold_Pick.l0 k l0 ([] : List (S74)) l1 (l1.length : Int) 0) else (some (([] : List (S74)), 1)))
set_option maxHeartbeats 8000000 in
set_option maxRecDepth 100000 in
theorem fold_Pick.calls (k : Nat) (A0 : Option Addr) (c0 : Nat) (l0 : List (S49)) (A1 : Option Addr) (c1 : Nat) (l1 : List (S124)) (r1 : List (S74)) (r2 : Int) (w : World) (hr0 : Kd.C k49 w A0 l0.length l0) (hc0 : l0.length ≤ c0) (hr1 : Kd.C k124 w A1 l1.length l1) (hc1 : l1.length ≤ c1) (h : fold_Pick.f k l0 l1 = some (r1, r2)) :
    Calls Try.prog 69 #[.slice A0 l0.length c0, .slice A1 l1.length c1] w fun e w' => ∃ v0_ : Value, e = .returned (.tuple #[v0_, .int .i64 r2]) ∧ Kd.R k74 74 w' w.heap.size (fun _ => True) v0_ r1 ∧ Below w.heap.size w w' := by
  have hu124 := Try.underlying124
  have hu74 := Try.underlying74
  have HR0 := Aside0.mk hr0
  have HC0 := Aside0.mk hc0
  clear hr0 hc0
  have HR1 := Aside0.mk hr1
  have HC1 := Aside0.mk hc1
  clear hr1 hc1
  have HB := Aside0.mk (Below.refl w.heap.size w)
  have H : ((vols_Right.f l0).bind fun t590 => (if t590 = true then (fold_Pick.l0 k l0 ([] : List (S74)) l1 (l1.length : Int) 0) else (some (([] : List (S74)), 1)))) = some (r1, r2) := h
  clear h
  replace H := Option.bind_eq_some_iff.mp H
  obtain ⟨t590, A30, H⟩ := H
  replace H : (if t590 = true then (fold_Pick.l0 k l0 ([] : List (S74)) l1 (l1.length : Int) 0) else (some (([] : List (S74)), 1))) = some (r1, r2) := H
  have A3 := Aside0.mk A30
  clear A30
  by_cases c4 : t590 = true
  · subst c4
    have H1 : (fold_Pick.l0 k l0 ([] : List (S74)) l1 (l1.length : Int) 0) = some (r1, r2) := by rw [if_pos rfl] at H; exact H
    clear H
    have H := H1
    clear H1
    have H' := Aside0.mk H
    clear H
    go_enter Try.func69, Try.ntmps69
    go_wp2_with (first | ((with_reducible refine gate_callee (f := 66) rfl ?_); refine goesL_ (some 12) rfl rfl Try.func66 (by kernel_rfl) rfl #[.slice A0 l0.length c0] rfl (by (try simp only [List.map_toArray, List.map_cons, List.map_nil]); first | done | rfl | (simp only [List.length_drop, List.length_take]; rfl)) ?_; (with_reducible refine (vols_Right.calls _ _ l0 true _ ?side1 ?side2 A3.out).mono ?_); (case side1 => repeat (first | exact HR0.out | (with_reducible refine Kd.C_alloc ?_ _) | (with_reducible refine Kd.C_drewN ?_ _) | (with_reducible refine Kd.C_drew ?_))); (case side2 => exact HC0.out); rintro e w5 ⟨rfl, hb⟩; refine ⟨_, rfl, ?_⟩; have n0_ := Aside0.mk (below_step (by repeat (first | (with_reducible first | exact HB.out | apply below_alloc | apply pw_below_drewN | apply below_drew1) | exact HB.out)) hb); clear HB; have HB := n0_; clear n0_; (try clear hb); (try clear hb2); (try clear hk); (try clear hi)))
    go_loopg [6, 16] k (fun kq v6 v16 w' => ∃ (x6_1 : List (S74)) (x16_1 : Int), v16 = .int .i64 x16_1 ∧ Aside0 (fold_Pick.l0 kq l0 x6_1 l1 (l1.length : Int) x16_1 = some (r1, r2)) ∧ Aside0 (kq ≤ k) ∧ Aside0 (Kd.R k74 74 w' w.heap.size (fun _ => True) v6 x6_1) ∧ Aside0 (Below w.heap.size w w'))
    case atStart => exact ⟨(([] : List (S74))), (0), (by first | rfl | (simp; done) | (simp [*]; done)), H', ⟨Nat.le_refl _⟩, ⟨by first | exact Kd.R_nil _ _ _ _ _ | exact Kd.N_nil _ _ _ _ _ | exact Kd.V_nil _ _ _ _ _ | exact Kd.Q_nil _ _ _ _ _ | exact Kd.S_nil _ _ _ _ _⟩, ⟨by repeat (first | (with_reducible first | exact HB.out | apply below_alloc | apply pw_below_drewN | apply below_drew1) | exact HB.out)⟩⟩
    case round =>
      clear H'
      try clear c1
      try clear p2
      try clear c4
      obtain ⟨x6_1, x16_1, rfl, HA, HK1, HO_6, HB⟩ := hrel
      cases gk with
      | zero => exact absurd HA.out (by simp [fold_Pick.l0])
      | succ k1 =>
        have H := HA.out
        clear HA
        simp only [fold_Pick.l0] at H
        by_cases c6 : x16_1 < (l1.length : Int)
        · rw [if_pos c6] at H
          have c6b0 : decide (x16_1 < (l1.length : Int)) = true := decide_eq_true c6
          clear c6
          by_cases c7 : 0 ≤ x16_1
          · rw [if_pos c7] at H
            have c7b0 : decide (0 ≤ x16_1) = true := decide_eq_true c7
            clear c7
            by_cases c8 : x16_1 < (l1.length : Int)
            · rw [if_pos c8] at H
              have c8b0 : decide (x16_1 < (l1.length : Int)) = true := decide_eq_true c8
              clear c8
              replace H := Option.bind_eq_some_iff.mp H
              obtain ⟨⟨t593, t594⟩, A90, H⟩ := H
              replace H : (if t594 = 0 then (if x6_1.length < 4398046511104 then (fold_Pick.l0 k1 l0 (x6_1 ++ [(⟨(rd_T124 l1 x16_1).f0, (rd_T124 l1 x16_1).f1, t593⟩ : S74)]) l1 (l1.length : Int) (wrap64 (x16_1 + 1))) else (none)) else (some (([] : List (S74)), t594))) = some (r1, r2) := H
              have A9 := Aside0.mk A90
              clear A90
              by_cases c10 : t594 = 0
              · rw [if_pos c10] at H
                have c10b0 : (t594 == 0) = true := beq_iff_eq.mpr c10
                have c10b1 : (t594 != 0) = false := bne_eq_false_iff_eq.mpr c10
                clear c10
                by_cases c11 : x6_1.length < 4398046511104
                · rw [if_pos c11] at H
                  have LMc11 := Aside0.mk c11
                  clear c11
                  obtain ⟨y595, hy595⟩ : ∃ y_ : List (S74), y_ = (x6_1 ++ [(⟨(rd_T124 l1 x16_1).f0, (rd_T124 l1 x16_1).f1, t593⟩ : S74)]) := ⟨_, rfl⟩
                  replace H : (fold_Pick.l0 k1 l0 y595 l1 (l1.length : Int) (wrap64 (x16_1 + 1))) = some (r1, r2) := by first | (rw [hy595]; with_reducible exact H) | (have H2_ := (Option.bind_some _ _).symm.trans H; rw [hy595]; with_reducible exact H2_) | (have H2_ := (Option.bind_some _ _).symm.trans H; with_reducible exact H2_) | with_reducible exact H | (rw [hy595]; exact H) | exact H
                  have Ny595 := Aside0.mk hy595
                  clear hy595
                  have H' := Aside0.mk H
                  clear H
                  have p591 : 0 ≤ (x16_1 : Int) := of_decide_eq_true (by first | (with_reducible assumption) | assumption)
                  have q591 : x16_1 < (l1.length : Int) := of_decide_eq_true (by first | (with_reducible assumption) | assumption)
                  obtain ⟨ad591, e591, hx591_0, hx591_1⟩ := at_T124 HR1.out x16_1 p591 q591
                  cases e591
                  replace hx591_0 := (HB.out.cell (World.block_lt_of_cell? w _ hx591_0)).trans hx591_0
                  replace hx591_1 := (HB.out.cell (World.block_lt_of_cell? w _ hx591_1)).trans hx591_1
                  replace p591 := eq_true p591
                  replace q591 := eq_true q591
                  go_wp2_with (first | ((with_reducible refine gate_dst (N := 8) rfl ?_); refine box_event ?hg (N := 8) ?hd (cs := #[.int .i64 0, .int .i64 0]) (t := 124) ?hr ?_; (case hd => rfl); (case hg => rfl); (case hr => first | (go_simp; done) | (go_simp; rfl)); intro gb592 hg w12 hbox hb; have n0_ := Aside0.mk (Kd.R_below (by (with_reducible repeat (first | apply Kd.R_alloc | apply Kd.R_drewN | apply Kd.R_drew)); exact HO_6.out) hb); have n1_ := Aside0.mk (below_step (by repeat (first | (with_reducible first | exact HB.out | apply below_alloc | apply pw_below_drewN | apply below_drew1) | exact HB.out)) hb); have n2_ := Aside0.mk (hbox); have n3_ := Aside0.mk ((by rw [hg]; exact (below_size (by repeat (first | (with_reducible first | exact HB.out | apply below_alloc | apply pw_below_drewN | apply below_drew1) | exact HB.out))) : w.heap.size ≤ gb592)); have n4_ := Aside0.mk ((by rw [hg]; exact (below_size (by repeat (first | (with_reducible first | exact HB.out | apply below_alloc | apply pw_below_drewN | apply below_drew1) | exact HB.out))) : w.heap.size ≤ gb592)); clear HO_6; clear HB; have HO_6 := n0_; have HB := n1_; have BK592 := n2_; have GW592 := n3_; have GE592 := n4_; clear n0_ n1_ n2_ n3_ n4_; clear hb hbox hg; have hcz13_0 : w12.cell? ⟨gb592, 0, none⟩ = some (.int .i64 0) := (blk_cell BK592.out 0).trans rfl; have hcz13_1 : w12.cell? ⟨gb592, 1, none⟩ = some (.int .i64 0) := (blk_cell BK592.out 1).trans rfl; have hfz13_0 := blk_frozen BK592.out 0; have hfz13_1 := blk_frozen BK592.out 1) | ((with_reducible refine gate_callee (f := 39) rfl ?_); refine goesL_ (some 26) rfl rfl Try.func39 (by kernel_rfl) rfl #[.slice A0 l0.length c0, .int .i64 ((rd_T124 l1 x16_1).f0), .int .i64 ((rd_T124 l1 x16_1).f1)] rfl (by (try simp only [List.map_toArray, List.map_cons, List.map_nil]); first | done | rfl | (simp only [List.length_drop, List.length_take]; rfl)) ?_; (with_reducible refine (vols_Get.calls _ _ l0 ((rd_T124 l1 x16_1).f0) ((rd_T124 l1 x16_1).f1) t593 t594 _ ?side1 ?side2 A9.out).mono ?_); (case side1 => exact Kd.C_below HR0.out (by repeat (first | (with_reducible first | exact HB.out | apply below_alloc | apply pw_below_drewN | apply below_drew1 | refine below_set ?_ GE592.out) | exact HB.out))); (case side2 => exact HC0.out); rintro e w14 ⟨rfl, hb⟩; refine ⟨_, rfl, ?_⟩; have n0_ := Aside0.mk (Kd.R_below (by (with_reducible repeat (first | apply Kd.R_alloc | apply Kd.R_drewN | apply Kd.R_drew)); exact (Kd.R_mono (Kd.R_far (p := ⟨gb592, 1, none⟩) (Kd.R_far (p := ⟨gb592, 0, none⟩) (Kd.R_types HO_6.out BK592.out (by decide)) (fun _ hk => hk.2) (.int .i64 ((rd_T124 l1 x16_1).f0))) (fun _ hk => hk.2) (.int .i64 ((rd_T124 l1 x16_1).f1))) (fun _ h_ => h_.1))) hb); have n1_ := Aside0.mk (blk_below (g := gb592) (o := .cells #[.int .i64 ((rd_T124 l1 x16_1).f0), .int .i64 ((rd_T124 l1 x16_1).f1)] 124 (0, 0)) (by (with_reducible repeat (first | refine blk_drewN ?_ _ | refine blk_drew ?_ | refine blk_alloc ?_ _)); refine blk_put (cs := #[.int .i64 ((rd_T124 l1 x16_1).f0), .int .i64 0]) ?_ 1 _ rfl; (with_reducible repeat (first | refine blk_drewN ?_ _ | refine blk_drew ?_ | refine blk_alloc ?_ _)); refine blk_put (cs := #[.int .i64 0, .int .i64 0]) ?_ 0 _ rfl; (with_reducible repeat (first | refine blk_drewN ?_ _ | refine blk_drew ?_ | refine blk_alloc ?_ _)); exact BK592.out) hb); have n2_ := Aside0.mk (below_step (by repeat (first | (with_reducible first | exact HB.out | apply below_alloc | apply pw_below_drewN | apply below_drew1 | refine below_set ?_ GE592.out) | exact HB.out)) hb); clear HO_6; clear BK592; clear HB; have HO_6 := n0_; have BK592 := n1_; have HB := n2_; clear n0_ n1_ n2_; (try clear hb); (try clear hb2); (try clear hk); (try clear hi); have hcz15_0 : w14.cell? ⟨gb592, 0, none⟩ = some (.int .i64 ((rd_T124 l1 x16_1).f0)) := (blk_cell BK592.out 0).trans rfl; have hcz15_1 : w14.cell? ⟨gb592, 1, none⟩ = some (.int .i64 ((rd_T124 l1 x16_1).f1)) := (blk_cell BK592.out 1).trans rfl; have hfz15_0 := blk_frozen BK592.out 0; have hfz15_1 := blk_frozen BK592.out 1) | ((with_reducible refine gate_builtin (b := .append) (xs := #[.tmp 32, .tmp 39]) rfl ?_); at_builtin; refine Kd.R_append k74 (w0 := w) w.heap.size rfl (.tmp 32) (.tmp 39) 25 74 (.agg #[(.int .i64 0), (.int .i64 0), (.string ⟨#[]⟩)]) 32 rfl Try.underlying25 info74 rfl (by decide) (by omega) u6 x6_1 (⟨(rd_T124 l1 x16_1).f0, (rd_T124 l1 x16_1).f1, t593⟩ : S74) [.int .i64 ((rd_T124 l1 x16_1).f0), .int .i64 ((rd_T124 l1 x16_1).f1), .string t593] (fun _ => True) (fun _ => False) rfl rfl ?aP (fun _ hk => hk.elim) ?aF ?aO ?aB ?aS ?aL ?_; (case aP => exact k74_mkM _ _ _ (⟨(rd_T124 l1 x16_1).f0, (rd_T124 l1 x16_1).f1, t593⟩ : S74)); (case aB => exact (by repeat (first | (with_reducible first | exact HB.out | apply below_alloc | apply pw_below_drewN | apply below_drew1 | refine below_set ?_ GE592.out) | exact HB.out))); (case aF => exact (fun _ _ => trivial)); (case aO => exact (by (with_reducible repeat (first | apply Kd.R_alloc | apply Kd.R_drewN | apply Kd.R_drew)); exact HO_6.out)); (case aS => exact (below_size (by repeat (first | (with_reducible first | exact HB.out | apply below_alloc | apply pw_below_drewN | apply below_drew1 | refine below_set ?_ GE592.out) | exact HB.out)))); (case aL => have := LMc11.out; omega); intro v596 w16 ho hb hg hat; rw [← Ny595.out] at ho; have n0_ := Aside0.mk (blk_grown (g := gb592) (o := .cells #[.int .i64 ((rd_T124 l1 x16_1).f0), .int .i64 ((rd_T124 l1 x16_1).f1)] 124 (0, 0)) (by (with_reducible repeat (first | refine blk_drewN ?_ _ | refine blk_drew ?_ | refine blk_alloc ?_ _)); exact BK592.out) hg (Kd.R_ne HO_6.out BK592.out (by decide))); have n1_ := Aside0.mk (hb); have n2_ := Aside0.mk (ho); clear BK592; clear HB; clear HO_6; have BK592 := n0_; have HB := n1_; have HO597 := n2_; clear n0_ n1_ n2_; clear ho hb hg hat))
                  go_roundg k1
                  case measure => have := HK1.out; omega
                  case rel => exact ⟨(y595), (wrap64 (x16_1 + 1)), (by first | rfl | (simp; done) | (simp [*]; done)), H', ⟨by have := HK1.out; omega⟩, ⟨by (with_reducible repeat (first | apply Kd.R_alloc | apply Kd.R_drewN | apply Kd.R_drew)); exact HO597.out⟩, ⟨by repeat (first | (with_reducible first | exact HB.out | apply below_alloc | apply pw_below_drewN | apply below_drew1 | refine below_set ?_ GE592.out) | exact HB.out)⟩⟩
                · rw [if_neg c11] at H
                  exact absurd H (by simp)
              · rw [if_neg c10] at H
                have c10b0 : (t594 == 0) = false := beq_eq_false_iff_ne.mpr c10
                have c10b1 : (t594 != 0) = true := bne_iff_ne.mpr c10
                simp only [Option.some.injEq, Prod.mk.injEq] at H
                obtain ⟨rfl, rfl⟩ := H
                have p591 : 0 ≤ (x16_1 : Int) := of_decide_eq_true (by first | (with_reducible assumption) | assumption)
                have q591 : x16_1 < (l1.length : Int) := of_decide_eq_true (by first | (with_reducible assumption) | assumption)
                obtain ⟨ad591, e591, hx591_0, hx591_1⟩ := at_T124 HR1.out x16_1 p591 q591
                cases e591
                replace hx591_0 := (HB.out.cell (World.block_lt_of_cell? w _ hx591_0)).trans hx591_0
                replace hx591_1 := (HB.out.cell (World.block_lt_of_cell? w _ hx591_1)).trans hx591_1
                replace p591 := eq_true p591
                replace q591 := eq_true q591
                go_wp2_with (first | ((with_reducible refine gate_dst (N := 8) rfl ?_); refine box_event ?hg (N := 8) ?hd (cs := #[.int .i64 0, .int .i64 0]) (t := 124) ?hr ?_; (case hd => rfl); (case hg => rfl); (case hr => first | (go_simp; done) | (go_simp; rfl)); intro gb592 hg w17 hbox hb; have n0_ := Aside0.mk (Kd.R_below (by (with_reducible repeat (first | apply Kd.R_alloc | apply Kd.R_drewN | apply Kd.R_drew)); exact HO_6.out) hb); have n1_ := Aside0.mk (below_step (by repeat (first | (with_reducible first | exact HB.out | apply below_alloc | apply pw_below_drewN | apply below_drew1) | exact HB.out)) hb); have n2_ := Aside0.mk (hbox); have n3_ := Aside0.mk ((by rw [hg]; exact (below_size (by repeat (first | (with_reducible first | exact HB.out | apply below_alloc | apply pw_below_drewN | apply below_drew1) | exact HB.out))) : w.heap.size ≤ gb592)); have n4_ := Aside0.mk ((by rw [hg]; exact (below_size (by repeat (first | (with_reducible first | exact HB.out | apply below_alloc | apply pw_below_drewN | apply below_drew1) | exact HB.out))) : w.heap.size ≤ gb592)); clear HO_6; clear HB; have HO_6 := n0_; have HB := n1_; have BK592 := n2_; have GW592 := n3_; have GE592 := n4_; clear n0_ n1_ n2_ n3_ n4_; clear hb hbox hg; have hcz18_0 : w17.cell? ⟨gb592, 0, none⟩ = some (.int .i64 0) := (blk_cell BK592.out 0).trans rfl; have hcz18_1 : w17.cell? ⟨gb592, 1, none⟩ = some (.int .i64 0) := (blk_cell BK592.out 1).trans rfl; have hfz18_0 := blk_frozen BK592.out 0; have hfz18_1 := blk_frozen BK592.out 1) | ((with_reducible refine gate_callee (f := 39) rfl ?_); refine goesL_ (some 26) rfl rfl Try.func39 (by kernel_rfl) rfl #[.slice A0 l0.length c0, .int .i64 ((rd_T124 l1 x16_1).f0), .int .i64 ((rd_T124 l1 x16_1).f1)] rfl (by (try simp only [List.map_toArray, List.map_cons, List.map_nil]); first | done | rfl | (simp only [List.length_drop, List.length_take]; rfl)) ?_; (with_reducible refine (vols_Get.calls _ _ l0 ((rd_T124 l1 x16_1).f0) ((rd_T124 l1 x16_1).f1) t593 t594 _ ?side1 ?side2 A9.out).mono ?_); (case side1 => exact Kd.C_below HR0.out (by repeat (first | (with_reducible first | exact HB.out | apply below_alloc | apply pw_below_drewN | apply below_drew1 | refine below_set ?_ GE592.out) | exact HB.out))); (case side2 => exact HC0.out); rintro e w19 ⟨rfl, hb⟩; refine ⟨_, rfl, ?_⟩; have n0_ := Aside0.mk (Kd.R_below (by (with_reducible repeat (first | apply Kd.R_alloc | apply Kd.R_drewN | apply Kd.R_drew)); exact (Kd.R_mono (Kd.R_far (p := ⟨gb592, 1, none⟩) (Kd.R_far (p := ⟨gb592, 0, none⟩) (Kd.R_types HO_6.out BK592.out (by decide)) (fun _ hk => hk.2) (.int .i64 ((rd_T124 l1 x16_1).f0))) (fun _ hk => hk.2) (.int .i64 ((rd_T124 l1 x16_1).f1))) (fun _ h_ => h_.1))) hb); have n1_ := Aside0.mk (blk_below (g := gb592) (o := .cells #[.int .i64 ((rd_T124 l1 x16_1).f0), .int .i64 ((rd_T124 l1 x16_1).f1)] 124 (0, 0)) (by (with_reducible repeat (first | refine blk_drewN ?_ _ | refine blk_drew ?_ | refine blk_alloc ?_ _)); refine blk_put (cs := #[.int .i64 ((rd_T124 l1 x16_1).f0), .int .i64 0]) ?_ 1 _ rfl; (with_reducible repeat (first | refine blk_drewN ?_ _ | refine blk_drew ?_ | refine blk_alloc ?_ _)); refine blk_put (cs := #[.int .i64 0, .int .i64 0]) ?_ 0 _ rfl; (with_reducible repeat (first | refine blk_drewN ?_ _ | refine blk_drew ?_ | refine blk_alloc ?_ _)); exact BK592.out) hb); have n2_ := Aside0.mk (below_step (by repeat (first | (with_reducible first | exact HB.out | apply below_alloc | apply pw_below_drewN | apply below_drew1 | refine below_set ?_ GE592.out) | exact HB.out)) hb); clear HO_6; clear BK592; clear HB; have HO_6 := n0_; have BK592 := n1_; have HB := n2_; clear n0_ n1_ n2_; (try clear hb); (try clear hb2); (try clear hk); (try clear hi)))
                go_ret2
                exact ⟨_, by first | rfl | (simp [errW_none, errW_some] <;> rfl) | (simp [*, errW_none, errW_some] <;> rfl), by first | exact Kd.R_nil _ _ _ _ _ | exact Kd.N_nil _ _ _ _ _ | exact Kd.V_nil _ _ _ _ _ | exact Kd.Q_nil _ _ _ _ _ | exact Kd.S_nil _ _ _ _ _, by repeat (first | (with_reducible first | exact HB.out | apply below_alloc | apply pw_below_drewN | apply below_drew1 | refine below_set ?_ GE592.out) | exact HB.out)⟩
            · rw [if_neg c8] at H
              exact absurd H (by simp)
          · rw [if_neg c7] at H
            exact absurd H (by simp)
        · rw [if_neg c6] at H
          have c6b0 : decide (x16_1 < (l1.length : Int)) = false := decide_eq_false c6
          clear c6
          simp only [Option.some.injEq, Prod.mk.injEq] at H
          obtain ⟨rfl, rfl⟩ := H
          go_wp2
          go_ret2
          exact ⟨_, by first | rfl | (simp [errW_none, errW_some] <;> rfl) | (simp [*, errW_none, errW_some] <;> rfl), by (with_reducible repeat (first | apply Kd.R_alloc | apply Kd.R_drewN | apply Kd.R_drew)); exact HO_6.out, by repeat (first | (with_reducible first | exact HB.out | apply below_alloc | apply pw_below_drewN | apply below_drew1) | exact HB.out)⟩
  · replace c4 := Bool.eq_false_iff.mpr c4
    subst c4
    have H1 : (some (([] : List (S74)), 1)) = some (r1, r2) := by rw [if_neg (show ¬ (false = true) by decide)] at H; exact H
    clear H
    have H := H1
    clear H1
    simp only [Option.some.injEq, Prod.mk.injEq] at H
    obtain ⟨rfl, rfl⟩ := H
    go_enter Try.func69, Try.ntmps69
    go_wp2_with (first | ((with_reducible refine gate_callee (f := 66) rfl ?_); refine goesL_ (some 12) rfl rfl Try.func66 (by kernel_rfl) rfl #[.slice A0 l0.length c0] rfl (by (try simp only [List.map_toArray, List.map_cons, List.map_nil]); first | done | rfl | (simp only [List.length_drop, List.length_take]; rfl)) ?_; (with_reducible refine (vols_Right.calls _ _ l0 false _ ?side1 ?side2 A3.out).mono ?_); (case side1 => repeat (first | exact HR0.out | (with_reducible refine Kd.C_alloc ?_ _) | (with_reducible refine Kd.C_drewN ?_ _) | (with_reducible refine Kd.C_drew ?_))); (case side2 => exact HC0.out); rintro e w20 ⟨rfl, hb⟩; refine ⟨_, rfl, ?_⟩; have n0_ := Aside0.mk (below_step (by repeat (first | (with_reducible first | exact HB.out | apply below_alloc | apply pw_below_drewN | apply below_drew1) | exact HB.out)) hb); clear HB; have HB := n0_; clear n0_; (try clear hb); (try clear hb2); (try clear hk); (try clear hi)))
    go_ret2
    exact ⟨_, by first | rfl | (simp [errW_none, errW_some] <;> rfl) | (simp [*, errW_none, errW_some] <;> rfl), by first | exact Kd.R_nil _ _ _ _ _ | exact Kd.N_nil _ _ _ _ _ | exact Kd.V_nil _ _ _ _ _ | exact Kd.Q_nil _ _ _ _ _ | exact Kd.S_nil _ _ _ _ _, by repeat (first | (with_reducible first | exact HB.out | apply below_alloc | apply pw_below_drewN | apply below_drew1) | exact HB.out)⟩
end Go.Proofs.Ythdhkoeaadahaaa.P
