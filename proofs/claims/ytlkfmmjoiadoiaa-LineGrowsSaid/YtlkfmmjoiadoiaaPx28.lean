-- MADE BY wip/kit/myprint.py for this seat
import Derived.Test.YtlkfmmjoiadoiaaPx0
import Derived.Test.YtlkfmmjoiadoiaaPx19
import Derived.Test.YtlkfmmjoiadoiaaPx2
import Derived.Test.YtlkfmmjoiadoiaaPx25
import Derived.Test.YtlkfmmjoiadoiaaPx26
import Derived.Test.YtlkfmmjoiadoiaaPx27
import Derived.Test.YtlkfmmjoiadoiaaPx8
import Derived.Test.YtlkfmmjoiadoiaaPx9
import Derived.Test.YtlkfmmjoiadoiaaGood
namespace Go.Proofs.Ytlkfmmjoiadoiaa.P
open Go.RowKit Go.Proofs.YtlkfmmjoiadoiaaW.PrintWords Go.Proofs.YtlkfmmjoiadoiaaW.PrintLast Go.Proofs.YtlkfmmjoiadoiaaW.PrintMore
attribute [local go_sem] max2_int min2_int max_two min_two max_three min_three max_four min_four   -- for this text's walks alone
set_option linter.unusedVariables false
set_option linter.unusedSimpArgs false

/-! ### counterfoillaw11_LineGrows: function 11 -/
def counterfoillaw11_LineGrows.j0 : Nat → List (S61) → List (S61) → Int → List (S61) → Int → Int → Option (Bool)
  | 0, _, _, _, _, _, _ => none
  | k + 1, x0, x7, x8, x9, x10, x11 => (counterfoilref11_Equal.f k x7 x9).bind fun t260 => (if t260 = true then (if x8 = x10 then ((line_Right.f k x0).bind fun t261 => ((counterfoilref11_Right.f k x0).bind fun t262 => (if (t261 == t262) = true then ((line_Last.f k x0).bind fun t263 => (if t263 = x11 then ((counterfoillaw11_awake.f k).bind fun t264 => (some t264)) else (some false))) else (some false)))) else (some false)) else (some false))
def counterfoillaw11_LineGrows.f (k : Nat) (l0 : List (S61)) (a1 : Int) (a2 : Int) : Option (Bool) := if (l0.length : Int) > 100 then ((counterfoillaw11_awake.f k).bind fun t249 => (some t249)) else ((line_Grow.f k l0 a1 a2).bind fun bt250 => ((counterfoilref11_Grow.f k l0 a1 a2).bind fun bt254 => ((counterfoilref11_Right.f k l0).bind fun t258 => (if t258 = true then (if 0 ≤ (wrap64 ((l0.length : Int) - 1)) then (if (wrap64 ((l0.length : Int) - 1)) < (l0.length : Int) then (counterfoillaw11_LineGrows.j0 k l0 bt250.1 bt250.2 bt254.1 bt254.2 ((rd_T61 l0 (wrap64 ((l0.length : Int) - 1))).f0)) else (none)) else (none)) else (counterfoillaw11_LineGrows.j0 k l0 bt250.1 bt250.2 bt254.1 bt254.2 0)))))
theorem counterfoillaw11_LineGrows.mono_l : ∀ k, (∀ y0 y1 y2 y3 y4 y5, LeO (counterfoillaw11_LineGrows.j0 k y0 y1 y2 y3 y4 y5) (counterfoillaw11_LineGrows.j0 (k + 1) y0 y1 y2 y3 y4 y5))
  | 0 => fun _ _ _ _ _ _ r h => by simp [counterfoillaw11_LineGrows.j0] at h
  | k + 1 => by
    have ih0 := counterfoillaw11_LineGrows.mono_l k
    · intro y0 y1 y2 y3 y4 y5
      unfold counterfoillaw11_LineGrows.j0
      repeat' first
      | (with_reducible exact ih0 _ _ _ _ _ _)
      | (with_reducible exact counterfoillaw11_awake.mono _)
      | (with_reducible exact counterfoilref11_Equal.mono _ _ _)
      | (with_reducible exact counterfoilref11_Grow.mono _ _ _ _)
      | (with_reducible exact counterfoilref11_Right.mono _ _)
      | (with_reducible exact line_Grow.mono _ _ _ _)
      | (with_reducible exact line_Last.mono _ _)
      | (with_reducible exact line_Right.mono _ _)
      | (with_reducible exact LeO.refl _)
      | (with_reducible exact LeO.none _)
      | (with_reducible refine LeO.ite ?_ ?_)
      | (with_reducible refine LeO.bind ?_ (fun _ => ?_))
      | exact ih0 _ _ _ _ _ _
      | exact counterfoillaw11_awake.mono _
      | exact counterfoilref11_Equal.mono _ _ _
      | exact counterfoilref11_Grow.mono _ _ _ _
      | exact counterfoilref11_Right.mono _ _
      | exact line_Grow.mono _ _ _ _
      | exact line_Last.mono _ _
      | exact line_Right.mono _ _
      | exact LeO.none _
      | refine LeO.ite ?_ ?_
      | refine LeO.bind ?_ (fun _ => ?_)
theorem counterfoillaw11_LineGrows.mono : ∀ a0 a1 a2 k, LeO (counterfoillaw11_LineGrows.f k a0 a1 a2) (counterfoillaw11_LineGrows.f (k + 1) a0 a1 a2) := by
  intro a0 a1 a2 k
  have ih0 := counterfoillaw11_LineGrows.mono_l k
  unfold counterfoillaw11_LineGrows.f
  repeat' first
      | (with_reducible exact ih0 _ _ _ _ _ _)
      | (with_reducible exact counterfoillaw11_awake.mono _)
      | (with_reducible exact counterfoilref11_Equal.mono _ _ _)
      | (with_reducible exact counterfoilref11_Grow.mono _ _ _ _)
      | (with_reducible exact counterfoilref11_Right.mono _ _)
      | (with_reducible exact line_Grow.mono _ _ _ _)
      | (with_reducible exact line_Last.mono _ _)
      | (with_reducible exact line_Right.mono _ _)
      | (with_reducible exact LeO.refl _)
      | (with_reducible exact LeO.none _)
      | (with_reducible refine LeO.ite ?_ ?_)
      | (with_reducible refine LeO.bind ?_ (fun _ => ?_))
      | exact ih0 _ _ _ _ _ _
      | exact counterfoillaw11_awake.mono _
      | exact counterfoilref11_Equal.mono _ _ _
      | exact counterfoilref11_Grow.mono _ _ _ _
      | exact counterfoilref11_Right.mono _ _
      | exact line_Grow.mono _ _ _ _
      | exact line_Last.mono _ _
      | exact line_Right.mono _ _
      | exact LeO.none _
      | refine LeO.ite ?_ ?_
      | refine LeO.bind ?_ (fun _ => ?_)
set_option maxHeartbeats 8000000 in
set_option maxRecDepth 100000 in
theorem counterfoillaw11_LineGrows.calls (k : Nat) (A0 : Option Addr) (c0 : Nat) (l0 : List (S61)) (a1 : Int) (a2 : Int) (r : Bool) (w : World) (hr0 : Kd.C k61 w A0 l0.length l0) (hc0 : l0.length ≤ c0) (h : counterfoillaw11_LineGrows.f k l0 a1 a2 = some r) :
    Calls Try.prog 11 #[.slice A0 l0.length c0, .int .i64 a1, .int .i64 a2] w fun e w' => e = .returned (.bool r) ∧ Below w.heap.size w w' := by
  have HR0 := Aside0.mk hr0
  have HC0 := Aside0.mk hc0
  clear hr0 hc0
  have HB := Aside0.mk (Below.refl w.heap.size w)
  have H : (if (l0.length : Int) > 100 then ((counterfoillaw11_awake.f k).bind fun t249 => (some t249)) else ((line_Grow.f k l0 a1 a2).bind fun bt250 => ((counterfoilref11_Grow.f k l0 a1 a2).bind fun bt254 => ((counterfoilref11_Right.f k l0).bind fun t258 => (if t258 = true then (if 0 ≤ (wrap64 ((l0.length : Int) - 1)) then (if (wrap64 ((l0.length : Int) - 1)) < (l0.length : Int) then (counterfoillaw11_LineGrows.j0 k l0 bt250.1 bt250.2 bt254.1 bt254.2 ((rd_T61 l0 (wrap64 ((l0.length : Int) - 1))).f0)) else (none)) else (none)) else (counterfoillaw11_LineGrows.j0 k l0 bt250.1 bt250.2 bt254.1 bt254.2 0)))))) = some r := h
  clear h
  by_cases c4 : (l0.length : Int) > 100
  · rw [if_pos c4] at H
    have c4b0 : decide (100 < (l0.length : Int)) = true := decide_eq_true c4
    have c4b1 : decide (100 < l0.length) = true := decide_eq_true (by omega)
    clear c4
    replace H := Option.bind_eq_some_iff.mp H
    obtain ⟨t249, A50, H⟩ := H
    replace H : (some t249) = some r := H
    have A5 := Aside0.mk A50
    clear A50
    obtain rfl := Option.some.inj H
    go_enter Try.func11, Try.ntmps11
    go_wp2_with (first | ((with_reducible refine gate_callee (f := 22) rfl ?_); refine goesL_ (some 15) rfl rfl Try.func22 (by kernel_rfl) rfl #[] rfl (by (try simp only [List.map_toArray, List.map_cons, List.map_nil]); first | done | rfl | (simp only [List.length_drop, List.length_take]; rfl)) ?_; (with_reducible refine (counterfoillaw11_awake.calls k  t249 _ A5.out).mono ?_); rintro e w6 ⟨rfl, hb⟩; refine ⟨_, rfl, ?_⟩; have n0_ := Aside0.mk (below_step (by repeat (first | (with_reducible first | exact HB.out | apply below_alloc | apply pw_below_drewN | apply below_drew1) | exact HB.out)) hb); clear HB; have HB := n0_; clear n0_; (try clear hb); (try clear hb2); (try clear hk); (try clear hi)))
    go_ret
    exact ⟨by first | rfl | (simp [errW_none, errW_some] <;> rfl) | (simp [*, errW_none, errW_some] <;> rfl), by repeat (first | (with_reducible first | exact HB.out | apply below_alloc | apply pw_below_drewN | apply below_drew1) | exact HB.out)⟩
  · rw [if_neg c4] at H
    have c4b0 : decide (100 < (l0.length : Int)) = false := decide_eq_false c4
    have c4b1 : decide (100 < l0.length) = false := decide_eq_false (by omega)
    clear c4
    replace H := Option.bind_eq_some_iff.mp H
    obtain ⟨⟨t250, t251⟩, A70, H⟩ := H
    replace H : ((counterfoilref11_Grow.f k l0 a1 a2).bind fun bt254 => ((counterfoilref11_Right.f k l0).bind fun t258 => (if t258 = true then (if 0 ≤ (wrap64 ((l0.length : Int) - 1)) then (if (wrap64 ((l0.length : Int) - 1)) < (l0.length : Int) then (counterfoillaw11_LineGrows.j0 k l0 t250 t251 bt254.1 bt254.2 ((rd_T61 l0 (wrap64 ((l0.length : Int) - 1))).f0)) else (none)) else (none)) else (counterfoillaw11_LineGrows.j0 k l0 t250 t251 bt254.1 bt254.2 0)))) = some r := H
    have A7 := Aside0.mk A70
    clear A70
    replace H := Option.bind_eq_some_iff.mp H
    obtain ⟨⟨t254, t255⟩, A80, H⟩ := H
    replace H : ((counterfoilref11_Right.f k l0).bind fun t258 => (if t258 = true then (if 0 ≤ (wrap64 ((l0.length : Int) - 1)) then (if (wrap64 ((l0.length : Int) - 1)) < (l0.length : Int) then (counterfoillaw11_LineGrows.j0 k l0 t250 t251 t254 t255 ((rd_T61 l0 (wrap64 ((l0.length : Int) - 1))).f0)) else (none)) else (none)) else (counterfoillaw11_LineGrows.j0 k l0 t250 t251 t254 t255 0))) = some r := H
    have A8 := Aside0.mk A80
    clear A80
    replace H := Option.bind_eq_some_iff.mp H
    obtain ⟨t258, A90, H⟩ := H
    replace H : (if t258 = true then (if 0 ≤ (wrap64 ((l0.length : Int) - 1)) then (if (wrap64 ((l0.length : Int) - 1)) < (l0.length : Int) then (counterfoillaw11_LineGrows.j0 k l0 t250 t251 t254 t255 ((rd_T61 l0 (wrap64 ((l0.length : Int) - 1))).f0)) else (none)) else (none)) else (counterfoillaw11_LineGrows.j0 k l0 t250 t251 t254 t255 0)) = some r := H
    have A9 := Aside0.mk A90
    clear A90
    have HC10 := Aside0.mk H
    clear H
    go_enter Try.func11, Try.ntmps11
    go_upto_if 31 with (first | ((with_reducible refine gate_callee (f := 35) rfl ?_); refine goesL_ (some 20) rfl rfl Try.func35 (by kernel_rfl) rfl #[.slice A0 l0.length c0, .int .i64 a1, .int .i64 a2] rfl (by (try simp only [List.map_toArray, List.map_cons, List.map_nil]); first | done | rfl | (simp only [List.length_drop, List.length_take]; rfl)) ?_; (with_reducible refine (line_Grow.calls k _ _ l0 a1 a2 t250 t251 _ ?side1 ?side2 A7.out).mono ?_); (case side1 => repeat (first | exact HR0.out | (with_reducible refine Kd.C_alloc ?_ _) | (with_reducible refine Kd.C_drewN ?_ _) | (with_reducible refine Kd.C_drew ?_))); (case side2 => exact HC0.out); rintro e w11 ⟨v252, rfl, ho0, hb⟩; refine ⟨_, rfl, ?_⟩; have n0_ := Aside0.mk (Kd.R_lower ho0 (below_size (by repeat (first | (with_reducible first | exact HB.out | apply below_alloc | apply pw_below_drewN | apply below_drew1) | exact HB.out)))); have n1_ := Aside0.mk (below_step (by repeat (first | (with_reducible first | exact HB.out | apply below_alloc | apply pw_below_drewN | apply below_drew1) | exact HB.out)) hb); clear HB; have HO253 := n0_; have HB := n1_; clear n0_ n1_; (try clear hb); (try clear hb2); (try clear hk); (try clear hi); (try clear ho0)) | ((with_reducible refine gate_callee (f := 36) rfl ?_); refine goesL_ (some 27) rfl rfl Try.func36 (by kernel_rfl) rfl #[.slice A0 l0.length c0, .int .i64 a1, .int .i64 a2] rfl (by (try simp only [List.map_toArray, List.map_cons, List.map_nil]); first | done | rfl | (simp only [List.length_drop, List.length_take]; rfl)) ?_; (with_reducible refine (counterfoilref11_Grow.calls k _ _ l0 a1 a2 t254 t255 _ ?side1 ?side2 A8.out).mono ?_); (case side1 => repeat (first | exact (Kd.C_below HR0.out HB.out) | (with_reducible refine Kd.C_alloc ?_ _) | (with_reducible refine Kd.C_drewN ?_ _) | (with_reducible refine Kd.C_drew ?_))); (case side2 => exact HC0.out); rintro e w12 ⟨v256, rfl, ho0, hb⟩; refine ⟨_, rfl, ?_⟩; have n0_ := Aside0.mk (Kd.R_elder' (by (with_reducible repeat (first | apply Kd.R_alloc | apply Kd.R_drewN | apply Kd.R_drew)); exact HO253.out) (Kd.R_base ho0) hb); have n1_ := Aside0.mk (Kd.R_lower (Kd.R_new' ho0 (Kd.R_lt (by (with_reducible repeat (first | apply Kd.R_alloc | apply Kd.R_drewN | apply Kd.R_drew)); exact HO253.out))) (below_size (by repeat (first | (with_reducible first | exact HB.out | apply below_alloc | apply pw_below_drewN | apply below_drew1) | exact HB.out)))); have n2_ := Aside0.mk (below_step (by repeat (first | (with_reducible first | exact HB.out | apply below_alloc | apply pw_below_drewN | apply below_drew1) | exact HB.out)) hb); clear HO253; clear HB; have HO253 := n0_; have HO257 := n1_; have HB := n2_; clear n0_ n1_ n2_; (try clear hb); (try clear hb2); (try clear hk); (try clear hi); (try clear ho0)) | ((with_reducible refine gate_callee (f := 37) rfl ?_); refine goesL_ (some 31) rfl rfl Try.func37 (by kernel_rfl) rfl #[.slice A0 l0.length c0] rfl (by (try simp only [List.map_toArray, List.map_cons, List.map_nil]); first | done | rfl | (simp only [List.length_drop, List.length_take]; rfl)) ?_; (with_reducible refine (counterfoilref11_Right.calls k _ _ l0 t258 _ ?side1 ?side2 A9.out).mono ?_); (case side1 => repeat (first | exact (Kd.C_below HR0.out HB.out) | (with_reducible refine Kd.C_alloc ?_ _) | (with_reducible refine Kd.C_drewN ?_ _) | (with_reducible refine Kd.C_drew ?_))); (case side2 => exact HC0.out); rintro e w' ⟨rfl, ⟨nd, rfl⟩⟩; refine ⟨_, rfl, ?_⟩))
    (try simp only [Act.put, List.setIfInBounds_toArray, List.set_cons_zero, List.set_cons_succ])
    go_cut [11] (fun v11 wc => ∃ (kq : Nat) (x11_9 : Int), v11 = .int .i64 x11_9 ∧ Aside0 (counterfoillaw11_LineGrows.j0 kq l0 t250 t251 t254 t255 x11_9 = some r) ∧ Aside0 (kq ≤ k) ∧ Aside0 (Kd.R k61 61 wc w.heap.size (fun k_ => some k_ ≠ (v256 : Value).ownBlock) v252 t250) ∧ Aside0 (Kd.R k61 61 wc w.heap.size (fun k_ => some k_ ≠ (v252 : Value).ownBlock) v256 t254) ∧ Aside0 (Below w.heap.size w wc))
    case first =>
      have H := HC10.out
      clear HC10
      by_cases c13 : t258 = true
      · subst c13
        have H1 : (if 0 ≤ (wrap64 ((l0.length : Int) - 1)) then (if (wrap64 ((l0.length : Int) - 1)) < (l0.length : Int) then (counterfoillaw11_LineGrows.j0 k l0 t250 t251 t254 t255 ((rd_T61 l0 (wrap64 ((l0.length : Int) - 1))).f0)) else (none)) else (none)) = some r := by rw [if_pos rfl] at H; exact H
        clear H
        have H := H1
        clear H1
        obtain ⟨ji14, hji14⟩ : ∃ j_ : Int, (wrap64 ((l0.length : Int) - 1)) = j_ := ⟨_, rfl⟩
        replace H : (if 0 ≤ (ji14) then (if (ji14) < (l0.length : Int) then (counterfoillaw11_LineGrows.j0 k l0 t250 t251 t254 t255 ((rd_T61 l0 (ji14)).f0)) else (none)) else (none)) = some r := by first | (rw [hji14] at H; exact H) | (simp only [hji14] at H ⊢; exact H)
        have hji14w : (IntKind.i64.wrap ((l0.length : Int) - 1)) = ji14 := (i64_w _).trans hji14
        by_cases c15 : 0 ≤ (ji14)
        · rw [if_pos c15] at H
          have c15b0 : decide (0 ≤ (ji14)) = true := decide_eq_true c15
          clear c15
          (first | rw [c15b0] | (simp only [i64_w, i32_w]; rw [c15b0]) | skip)
          by_cases c16 : (ji14) < (l0.length : Int)
          · rw [if_pos c16] at H
            have c16b0 : decide ((ji14) < (l0.length : Int)) = true := decide_eq_true c16
            clear c16
            have H' := Aside0.mk H
            clear H
            have p259 : 0 ≤ ((ji14) : Int) := of_decide_eq_true (by first | (with_reducible assumption) | assumption)
            have q259 : (ji14) < (l0.length : Int) := of_decide_eq_true (by first | (with_reducible assumption) | assumption)
            obtain ⟨ad259, e259, hx259_0, hx259_1⟩ := at_T61 HR0.out (ji14) p259 q259
            cases e259
            replace hx259_0 := (HB.out.cell (World.block_lt_of_cell? w _ hx259_0)).trans hx259_0
            replace hx259_1 := (HB.out.cell (World.block_lt_of_cell? w _ hx259_1)).trans hx259_1
            replace p259 := eq_true p259
            replace q259 := eq_true q259
            go_wp2
            go_meet
            case rel => exact ⟨_, ((rd_T61 l0 (ji14)).f0), (by first | rfl | (simp; done) | (simp only [← hji14] <;> (first | rfl | simp)) | (simp [*]; done)), H', ⟨by first | omega | exact Nat.le_refl _⟩, ⟨by (with_reducible repeat (first | apply Kd.R_alloc | apply Kd.R_drewN | apply Kd.R_drew)); exact Kd.R_mono HO253.out (fun _ hk => hk.2)⟩, ⟨by (with_reducible repeat (first | apply Kd.R_alloc | apply Kd.R_drewN | apply Kd.R_drew)); exact Kd.R_mono HO257.out (fun _ hk => hk.2)⟩, ⟨by repeat (first | (with_reducible first | exact HB.out | apply below_alloc | apply pw_below_drewN | apply below_drew1) | exact HB.out)⟩⟩
          · rw [if_neg c16] at H
            exact absurd H (by simp)
        · rw [if_neg c15] at H
          exact absurd H (by simp)
      · replace c13 := Bool.eq_false_iff.mpr c13
        subst c13
        have H1 : (counterfoillaw11_LineGrows.j0 k l0 t250 t251 t254 t255 0) = some r := by rw [if_neg (show ¬ (false = true) by decide)] at H; exact H
        clear H
        have H := H1
        clear H1
        have H' := Aside0.mk H
        clear H
        go_wp2
        go_meet
        case rel => exact ⟨_, (0), (by first | rfl | (simp; done) | (simp [*]; done)), H', ⟨by first | omega | exact Nat.le_refl _⟩, ⟨by (with_reducible repeat (first | apply Kd.R_alloc | apply Kd.R_drewN | apply Kd.R_drew)); exact Kd.R_mono HO253.out (fun _ hk => hk.2)⟩, ⟨by (with_reducible repeat (first | apply Kd.R_alloc | apply Kd.R_drewN | apply Kd.R_drew)); exact Kd.R_mono HO257.out (fun _ hk => hk.2)⟩, ⟨by repeat (first | (with_reducible first | exact HB.out | apply below_alloc | apply pw_below_drewN | apply below_drew1) | exact HB.out)⟩⟩
    case rest =>
      clear HC10
      try clear c1
      try clear c2
      try clear p2
      try clear q2
      try clear hx2
      try clear c3
      try clear c4
      try clear c4b0
      try clear c4b1
      try clear p6
      try clear c11
      try clear c13
      try clear c15
      try clear c15b0
      try clear c16
      try clear c16b0
      try clear hx259_0
      try clear hx259_1
      try clear p259
      try clear q259
      obtain ⟨kq, x11_9, rfl, HA, HJ9, HO_7, HO_9, HB⟩ := hcut
      cases kq with
      | zero => exact absurd HA.out (by simp [counterfoillaw11_LineGrows.j0])
      | succ kj9 =>
        have H := HA.out
        clear HA
        simp only [counterfoillaw11_LineGrows.j0] at H
        replace H := Option.bind_eq_some_iff.mp H
        obtain ⟨t260, A170, H⟩ := H
        replace H : (if t260 = true then (if t251 = t255 then ((line_Right.f kj9 l0).bind fun t261 => ((counterfoilref11_Right.f kj9 l0).bind fun t262 => (if (t261 == t262) = true then ((line_Last.f kj9 l0).bind fun t263 => (if t263 = x11_9 then ((counterfoillaw11_awake.f kj9).bind fun t264 => (some t264)) else (some false))) else (some false)))) else (some false)) else (some false)) = some r := H
        have A17 := Aside0.mk A170
        clear A170
        by_cases c18 : t260 = true
        · subst c18
          have H1 : (if t251 = t255 then ((line_Right.f kj9 l0).bind fun t261 => ((counterfoilref11_Right.f kj9 l0).bind fun t262 => (if (t261 == t262) = true then ((line_Last.f kj9 l0).bind fun t263 => (if t263 = x11_9 then ((counterfoillaw11_awake.f kj9).bind fun t264 => (some t264)) else (some false))) else (some false)))) else (some false)) = some r := by rw [if_pos rfl] at H; exact H
          clear H
          have H := H1
          clear H1
          by_cases c19 : t251 = t255
          · rw [if_pos c19] at H
            have c19b0 : (t251 == t255) = true := beq_iff_eq.mpr c19
            have c19b1 : (t251 != t255) = false := bne_eq_false_iff_eq.mpr c19
            clear c19
            replace H := Option.bind_eq_some_iff.mp H
            obtain ⟨t261, A200, H⟩ := H
            replace H : ((counterfoilref11_Right.f kj9 l0).bind fun t262 => (if (t261 == t262) = true then ((line_Last.f kj9 l0).bind fun t263 => (if t263 = x11_9 then ((counterfoillaw11_awake.f kj9).bind fun t264 => (some t264)) else (some false))) else (some false))) = some r := H
            have A20 := Aside0.mk A200
            clear A200
            replace H := Option.bind_eq_some_iff.mp H
            obtain ⟨t262, A210, H⟩ := H
            replace H : (if (t261 == t262) = true then ((line_Last.f kj9 l0).bind fun t263 => (if t263 = x11_9 then ((counterfoillaw11_awake.f kj9).bind fun t264 => (some t264)) else (some false))) else (some false)) = some r := H
            have A21 := Aside0.mk A210
            clear A210
            by_cases c22 : (t261 == t262) = true
            · rw [if_pos c22] at H
              have c22b0 : (t261 == t262) = true := c22
              (try (have c22b1 : decide (t261 = t262) = true := by simpa using c22))
              (try (have c22b2 : (t261 == t262) = true := by simpa using c22))
              clear c22
              replace H := Option.bind_eq_some_iff.mp H
              obtain ⟨t263, A230, H⟩ := H
              replace H : (if t263 = x11_9 then ((counterfoillaw11_awake.f kj9).bind fun t264 => (some t264)) else (some false)) = some r := H
              have A23 := Aside0.mk A230
              clear A230
              by_cases c24 : t263 = x11_9
              · rw [if_pos c24] at H
                have c24b0 : (t263 == x11_9) = true := beq_iff_eq.mpr c24
                have c24b1 : (t263 != x11_9) = false := bne_eq_false_iff_eq.mpr c24
                clear c24
                replace H := Option.bind_eq_some_iff.mp H
                obtain ⟨t264, A250, H⟩ := H
                replace H : (some t264) = some r := H
                have A25 := Aside0.mk A250
                clear A250
                obtain rfl := Option.some.inj H
                obtain ⟨Ao26, co26, eo26⟩ := Kd.R_slice HO_7.out
                subst eo26
                obtain ⟨Ao27, co27, eo27⟩ := Kd.R_slice HO_9.out
                subst eo27
                go_wp2_with (first | ((with_reducible refine gate_callee (f := 31) rfl ?_); refine goesL_ (some 41) rfl rfl Try.func31 (by kernel_rfl) rfl #[.slice Ao26 t250.length co26, .slice Ao27 t254.length co27] rfl (by (try simp only [List.map_toArray, List.map_cons, List.map_nil]); first | done | rfl | (simp only [List.length_drop, List.length_take]; rfl)) ?_; (with_reducible refine (counterfoilref11_Equal.calls kj9 _ _ t250 _ _ t254 true _ ?side1 ?side2 ?side3 ?side4 A17.out).mono ?_); (case side1 => repeat (first | exact (Kd.R_reads' HO_7.out).2.2 | (with_reducible refine Kd.C_alloc ?_ _) | (with_reducible refine Kd.C_drewN ?_ _) | (with_reducible refine Kd.C_drew ?_))); (case side2 => exact (Kd.R_reads' HO_7.out).2.1); (case side3 => repeat (first | exact (Kd.R_reads' HO_9.out).2.2 | (with_reducible refine Kd.C_alloc ?_ _) | (with_reducible refine Kd.C_drewN ?_ _) | (with_reducible refine Kd.C_drew ?_))); (case side4 => exact (Kd.R_reads' HO_9.out).2.1); rintro e w' ⟨rfl, ⟨nd, rfl⟩⟩; refine ⟨_, rfl, ?_⟩) | (go_at_call 38; (with_reducible refine (line_Right.calls kj9 _ _ l0 t261 _ ?side1 ?side2 A20.out).mono ?_); (case side1 => repeat (first | exact (Kd.C_below HR0.out (by repeat (first | (with_reducible first | exact HB.out | apply below_alloc | apply pw_below_drewN | apply below_drew1) | exact HB.out))) | (with_reducible refine Kd.C_alloc ?_ _) | (with_reducible refine Kd.C_drewN ?_ _) | (with_reducible refine Kd.C_drew ?_))); (case side2 => exact HC0.out); rintro e w28 ⟨rfl, hb⟩; have n0_ := Aside0.mk (Kd.R_below (by (with_reducible repeat (first | apply Kd.R_alloc | apply Kd.R_drewN | apply Kd.R_drew)); exact HO_7.out) hb); have n1_ := Aside0.mk (Kd.R_below (by (with_reducible repeat (first | apply Kd.R_alloc | apply Kd.R_drewN | apply Kd.R_drew)); exact HO_9.out) hb); have n2_ := Aside0.mk (below_step (by repeat (first | (with_reducible first | exact HB.out | apply below_alloc | apply pw_below_drewN | apply below_drew1) | exact HB.out)) hb); clear HO_7; clear HO_9; clear HB; have HO_7 := n0_; have HO_9 := n1_; have HB := n2_; clear n0_ n1_ n2_; (try clear hb); (try clear hb2); (try clear hk); (try clear hi)) | (go_at_call 37; (with_reducible refine (counterfoilref11_Right.calls kj9 _ _ l0 t262 _ ?side1 ?side2 A21.out).mono ?_); (case side1 => repeat (first | exact (Kd.C_below HR0.out HB.out) | (with_reducible refine Kd.C_alloc ?_ _) | (with_reducible refine Kd.C_drewN ?_ _) | (with_reducible refine Kd.C_drew ?_))); (case side2 => exact HC0.out); rintro e w' ⟨rfl, ⟨nd, rfl⟩⟩) | (go_at_call 39; (with_reducible refine (line_Last.calls kj9 _ _ l0 t263 _ ?side1 ?side2 A23.out).mono ?_); (case side1 => repeat (first | exact (Kd.C_below HR0.out (by repeat (first | (with_reducible first | exact HB.out | apply below_alloc | apply pw_below_drewN | apply below_drew1) | exact HB.out))) | (with_reducible refine Kd.C_alloc ?_ _) | (with_reducible refine Kd.C_drewN ?_ _) | (with_reducible refine Kd.C_drew ?_))); (case side2 => exact HC0.out); rintro e w29 ⟨rfl, hb⟩; have n0_ := Aside0.mk (Kd.R_below (by (with_reducible repeat (first | apply Kd.R_alloc | apply Kd.R_drewN | apply Kd.R_drew)); exact HO_7.out) hb); have n1_ := Aside0.mk (Kd.R_below (by (with_reducible repeat (first | apply Kd.R_alloc | apply Kd.R_drewN | apply Kd.R_drew)); exact HO_9.out) hb); have n2_ := Aside0.mk (below_step (by repeat (first | (with_reducible first | exact HB.out | apply below_alloc | apply pw_below_drewN | apply below_drew1) | exact HB.out)) hb); clear HO_7; clear HO_9; clear HB; have HO_7 := n0_; have HO_9 := n1_; have HB := n2_; clear n0_ n1_ n2_; (try clear hb); (try clear hb2); (try clear hk); (try clear hi)) | (go_at_call 22; (with_reducible refine (counterfoillaw11_awake.calls kj9  t264 _ A25.out).mono ?_); rintro e w30 ⟨rfl, hb⟩; have n0_ := Aside0.mk (Kd.R_below (by (with_reducible repeat (first | apply Kd.R_alloc | apply Kd.R_drewN | apply Kd.R_drew)); exact HO_7.out) hb); have n1_ := Aside0.mk (Kd.R_below (by (with_reducible repeat (first | apply Kd.R_alloc | apply Kd.R_drewN | apply Kd.R_drew)); exact HO_9.out) hb); have n2_ := Aside0.mk (below_step (by repeat (first | (with_reducible first | exact HB.out | apply below_alloc | apply pw_below_drewN | apply below_drew1) | exact HB.out)) hb); clear HO_7; clear HO_9; clear HB; have HO_7 := n0_; have HO_9 := n1_; have HB := n2_; clear n0_ n1_ n2_; (try clear hb); (try clear hb2); (try clear hk); (try clear hi)))
                go_ret
                exact ⟨by first | rfl | (simp [errW_none, errW_some] <;> rfl) | (simp [*, errW_none, errW_some] <;> rfl), by repeat (first | (with_reducible first | exact HB.out | apply below_alloc | apply pw_below_drewN | apply below_drew1) | exact HB.out)⟩
              · rw [if_neg c24] at H
                have c24b0 : (t263 == x11_9) = false := beq_eq_false_iff_ne.mpr c24
                have c24b1 : (t263 != x11_9) = true := bne_iff_ne.mpr c24
                obtain rfl := Option.some.inj H
                obtain ⟨Ao31, co31, eo31⟩ := Kd.R_slice HO_7.out
                subst eo31
                obtain ⟨Ao32, co32, eo32⟩ := Kd.R_slice HO_9.out
                subst eo32
                go_wp2_with (first | ((with_reducible refine gate_callee (f := 31) rfl ?_); refine goesL_ (some 41) rfl rfl Try.func31 (by kernel_rfl) rfl #[.slice Ao31 t250.length co31, .slice Ao32 t254.length co32] rfl (by (try simp only [List.map_toArray, List.map_cons, List.map_nil]); first | done | rfl | (simp only [List.length_drop, List.length_take]; rfl)) ?_; (with_reducible refine (counterfoilref11_Equal.calls kj9 _ _ t250 _ _ t254 true _ ?side1 ?side2 ?side3 ?side4 A17.out).mono ?_); (case side1 => repeat (first | exact (Kd.R_reads' HO_7.out).2.2 | (with_reducible refine Kd.C_alloc ?_ _) | (with_reducible refine Kd.C_drewN ?_ _) | (with_reducible refine Kd.C_drew ?_))); (case side2 => exact (Kd.R_reads' HO_7.out).2.1); (case side3 => repeat (first | exact (Kd.R_reads' HO_9.out).2.2 | (with_reducible refine Kd.C_alloc ?_ _) | (with_reducible refine Kd.C_drewN ?_ _) | (with_reducible refine Kd.C_drew ?_))); (case side4 => exact (Kd.R_reads' HO_9.out).2.1); rintro e w' ⟨rfl, ⟨nd, rfl⟩⟩; refine ⟨_, rfl, ?_⟩) | (go_at_call 38; (with_reducible refine (line_Right.calls kj9 _ _ l0 t261 _ ?side1 ?side2 A20.out).mono ?_); (case side1 => repeat (first | exact (Kd.C_below HR0.out (by repeat (first | (with_reducible first | exact HB.out | apply below_alloc | apply pw_below_drewN | apply below_drew1) | exact HB.out))) | (with_reducible refine Kd.C_alloc ?_ _) | (with_reducible refine Kd.C_drewN ?_ _) | (with_reducible refine Kd.C_drew ?_))); (case side2 => exact HC0.out); rintro e w33 ⟨rfl, hb⟩; have n0_ := Aside0.mk (Kd.R_below (by (with_reducible repeat (first | apply Kd.R_alloc | apply Kd.R_drewN | apply Kd.R_drew)); exact HO_7.out) hb); have n1_ := Aside0.mk (Kd.R_below (by (with_reducible repeat (first | apply Kd.R_alloc | apply Kd.R_drewN | apply Kd.R_drew)); exact HO_9.out) hb); have n2_ := Aside0.mk (below_step (by repeat (first | (with_reducible first | exact HB.out | apply below_alloc | apply pw_below_drewN | apply below_drew1) | exact HB.out)) hb); clear HO_7; clear HO_9; clear HB; have HO_7 := n0_; have HO_9 := n1_; have HB := n2_; clear n0_ n1_ n2_; (try clear hb); (try clear hb2); (try clear hk); (try clear hi)) | (go_at_call 37; (with_reducible refine (counterfoilref11_Right.calls kj9 _ _ l0 t262 _ ?side1 ?side2 A21.out).mono ?_); (case side1 => repeat (first | exact (Kd.C_below HR0.out HB.out) | (with_reducible refine Kd.C_alloc ?_ _) | (with_reducible refine Kd.C_drewN ?_ _) | (with_reducible refine Kd.C_drew ?_))); (case side2 => exact HC0.out); rintro e w' ⟨rfl, ⟨nd, rfl⟩⟩) | (go_at_call 39; (with_reducible refine (line_Last.calls kj9 _ _ l0 t263 _ ?side1 ?side2 A23.out).mono ?_); (case side1 => repeat (first | exact (Kd.C_below HR0.out (by repeat (first | (with_reducible first | exact HB.out | apply below_alloc | apply pw_below_drewN | apply below_drew1) | exact HB.out))) | (with_reducible refine Kd.C_alloc ?_ _) | (with_reducible refine Kd.C_drewN ?_ _) | (with_reducible refine Kd.C_drew ?_))); (case side2 => exact HC0.out); rintro e w34 ⟨rfl, hb⟩; have n0_ := Aside0.mk (Kd.R_below (by (with_reducible repeat (first | apply Kd.R_alloc | apply Kd.R_drewN | apply Kd.R_drew)); exact HO_7.out) hb); have n1_ := Aside0.mk (Kd.R_below (by (with_reducible repeat (first | apply Kd.R_alloc | apply Kd.R_drewN | apply Kd.R_drew)); exact HO_9.out) hb); have n2_ := Aside0.mk (below_step (by repeat (first | (with_reducible first | exact HB.out | apply below_alloc | apply pw_below_drewN | apply below_drew1) | exact HB.out)) hb); clear HO_7; clear HO_9; clear HB; have HO_7 := n0_; have HO_9 := n1_; have HB := n2_; clear n0_ n1_ n2_; (try clear hb); (try clear hb2); (try clear hk); (try clear hi)))
                go_ret
                exact ⟨by first | rfl | (simp [errW_none, errW_some] <;> rfl) | (simp [*, errW_none, errW_some] <;> rfl), by repeat (first | (with_reducible first | exact HB.out | apply below_alloc | apply pw_below_drewN | apply below_drew1) | exact HB.out)⟩
            · rw [if_neg c22] at H
              have c22b0 : (t261 == t262) = false := by simpa using c22
              (try (have c22b1 : decide (t261 = t262) = false := by simpa using c22))
              (try (have c22b2 : (t261 == t262) = false := by simpa using c22))
              (try (have c22b3 : ¬ (t261 = t262) := by simpa using c22))
              clear c22
              obtain rfl := Option.some.inj H
              obtain ⟨Ao35, co35, eo35⟩ := Kd.R_slice HO_7.out
              subst eo35
              obtain ⟨Ao36, co36, eo36⟩ := Kd.R_slice HO_9.out
              subst eo36
              go_wp2_with (first | ((with_reducible refine gate_callee (f := 31) rfl ?_); refine goesL_ (some 41) rfl rfl Try.func31 (by kernel_rfl) rfl #[.slice Ao35 t250.length co35, .slice Ao36 t254.length co36] rfl (by (try simp only [List.map_toArray, List.map_cons, List.map_nil]); first | done | rfl | (simp only [List.length_drop, List.length_take]; rfl)) ?_; (with_reducible refine (counterfoilref11_Equal.calls kj9 _ _ t250 _ _ t254 true _ ?side1 ?side2 ?side3 ?side4 A17.out).mono ?_); (case side1 => repeat (first | exact (Kd.R_reads' HO_7.out).2.2 | (with_reducible refine Kd.C_alloc ?_ _) | (with_reducible refine Kd.C_drewN ?_ _) | (with_reducible refine Kd.C_drew ?_))); (case side2 => exact (Kd.R_reads' HO_7.out).2.1); (case side3 => repeat (first | exact (Kd.R_reads' HO_9.out).2.2 | (with_reducible refine Kd.C_alloc ?_ _) | (with_reducible refine Kd.C_drewN ?_ _) | (with_reducible refine Kd.C_drew ?_))); (case side4 => exact (Kd.R_reads' HO_9.out).2.1); rintro e w' ⟨rfl, ⟨nd, rfl⟩⟩; refine ⟨_, rfl, ?_⟩) | (go_at_call 38; (with_reducible refine (line_Right.calls kj9 _ _ l0 t261 _ ?side1 ?side2 A20.out).mono ?_); (case side1 => repeat (first | exact (Kd.C_below HR0.out (by repeat (first | (with_reducible first | exact HB.out | apply below_alloc | apply pw_below_drewN | apply below_drew1) | exact HB.out))) | (with_reducible refine Kd.C_alloc ?_ _) | (with_reducible refine Kd.C_drewN ?_ _) | (with_reducible refine Kd.C_drew ?_))); (case side2 => exact HC0.out); rintro e w37 ⟨rfl, hb⟩; have n0_ := Aside0.mk (Kd.R_below (by (with_reducible repeat (first | apply Kd.R_alloc | apply Kd.R_drewN | apply Kd.R_drew)); exact HO_7.out) hb); have n1_ := Aside0.mk (Kd.R_below (by (with_reducible repeat (first | apply Kd.R_alloc | apply Kd.R_drewN | apply Kd.R_drew)); exact HO_9.out) hb); have n2_ := Aside0.mk (below_step (by repeat (first | (with_reducible first | exact HB.out | apply below_alloc | apply pw_below_drewN | apply below_drew1) | exact HB.out)) hb); clear HO_7; clear HO_9; clear HB; have HO_7 := n0_; have HO_9 := n1_; have HB := n2_; clear n0_ n1_ n2_; (try clear hb); (try clear hb2); (try clear hk); (try clear hi)) | (go_at_call 37; (with_reducible refine (counterfoilref11_Right.calls kj9 _ _ l0 t262 _ ?side1 ?side2 A21.out).mono ?_); (case side1 => repeat (first | exact (Kd.C_below HR0.out HB.out) | (with_reducible refine Kd.C_alloc ?_ _) | (with_reducible refine Kd.C_drewN ?_ _) | (with_reducible refine Kd.C_drew ?_))); (case side2 => exact HC0.out); rintro e w' ⟨rfl, ⟨nd, rfl⟩⟩))
              go_ret
              exact ⟨by first | rfl | (simp [errW_none, errW_some] <;> rfl) | (simp [*, errW_none, errW_some] <;> rfl), by repeat (first | (with_reducible first | exact HB.out | apply below_alloc | apply pw_below_drewN | apply below_drew1) | exact HB.out)⟩
          · rw [if_neg c19] at H
            have c19b0 : (t251 == t255) = false := beq_eq_false_iff_ne.mpr c19
            have c19b1 : (t251 != t255) = true := bne_iff_ne.mpr c19
            obtain rfl := Option.some.inj H
            obtain ⟨Ao38, co38, eo38⟩ := Kd.R_slice HO_7.out
            subst eo38
            obtain ⟨Ao39, co39, eo39⟩ := Kd.R_slice HO_9.out
            subst eo39
            go_wp2_with (first | ((with_reducible refine gate_callee (f := 31) rfl ?_); refine goesL_ (some 41) rfl rfl Try.func31 (by kernel_rfl) rfl #[.slice Ao38 t250.length co38, .slice Ao39 t254.length co39] rfl (by (try simp only [List.map_toArray, List.map_cons, List.map_nil]); first | done | rfl | (simp only [List.length_drop, List.length_take]; rfl)) ?_; (with_reducible refine (counterfoilref11_Equal.calls kj9 _ _ t250 _ _ t254 true _ ?side1 ?side2 ?side3 ?side4 A17.out).mono ?_); (case side1 => repeat (first | exact (Kd.R_reads' HO_7.out).2.2 | (with_reducible refine Kd.C_alloc ?_ _) | (with_reducible refine Kd.C_drewN ?_ _) | (with_reducible refine Kd.C_drew ?_))); (case side2 => exact (Kd.R_reads' HO_7.out).2.1); (case side3 => repeat (first | exact (Kd.R_reads' HO_9.out).2.2 | (with_reducible refine Kd.C_alloc ?_ _) | (with_reducible refine Kd.C_drewN ?_ _) | (with_reducible refine Kd.C_drew ?_))); (case side4 => exact (Kd.R_reads' HO_9.out).2.1); rintro e w' ⟨rfl, ⟨nd, rfl⟩⟩; refine ⟨_, rfl, ?_⟩))
            go_ret
            exact ⟨by first | rfl | (simp [errW_none, errW_some] <;> rfl) | (simp [*, errW_none, errW_some] <;> rfl), by repeat (first | (with_reducible first | exact HB.out | apply below_alloc | apply pw_below_drewN | apply below_drew1) | exact HB.out)⟩
        · replace c18 := Bool.eq_false_iff.mpr c18
          subst c18
          have H1 : (some false) = some r := by rw [if_neg (show ¬ (false = true) by decide)] at H; exact H
          clear H
          have H := H1
          clear H1
          obtain rfl := Option.some.inj H
          obtain ⟨Ao40, co40, eo40⟩ := Kd.R_slice HO_7.out
          subst eo40
          obtain ⟨Ao41, co41, eo41⟩ := Kd.R_slice HO_9.out
          subst eo41
          go_wp2_with (first | ((with_reducible refine gate_callee (f := 31) rfl ?_); refine goesL_ (some 41) rfl rfl Try.func31 (by kernel_rfl) rfl #[.slice Ao40 t250.length co40, .slice Ao41 t254.length co41] rfl (by (try simp only [List.map_toArray, List.map_cons, List.map_nil]); first | done | rfl | (simp only [List.length_drop, List.length_take]; rfl)) ?_; (with_reducible refine (counterfoilref11_Equal.calls kj9 _ _ t250 _ _ t254 false _ ?side1 ?side2 ?side3 ?side4 A17.out).mono ?_); (case side1 => repeat (first | exact (Kd.R_reads' HO_7.out).2.2 | (with_reducible refine Kd.C_alloc ?_ _) | (with_reducible refine Kd.C_drewN ?_ _) | (with_reducible refine Kd.C_drew ?_))); (case side2 => exact (Kd.R_reads' HO_7.out).2.1); (case side3 => repeat (first | exact (Kd.R_reads' HO_9.out).2.2 | (with_reducible refine Kd.C_alloc ?_ _) | (with_reducible refine Kd.C_drewN ?_ _) | (with_reducible refine Kd.C_drew ?_))); (case side4 => exact (Kd.R_reads' HO_9.out).2.1); rintro e w' ⟨rfl, ⟨nd, rfl⟩⟩; refine ⟨_, rfl, ?_⟩))
          go_ret
          exact ⟨by first | rfl | (simp [errW_none, errW_some] <;> rfl) | (simp [*, errW_none, errW_some] <;> rfl), by repeat (first | (with_reducible first | exact HB.out | apply below_alloc | apply pw_below_drewN | apply below_drew1) | exact HB.out)⟩

/-- THE ONE PURE STATEMENT of counterfoillaw11_LineGrows. -/
def counterfoillaw11_LineGrows.Pure : Prop := ∀ (l0 : List (S61)) (a1 : Int) (a2 : Int), (l0.length * 16 ≤ 140737488351232 ∧ l0.length ≤ maxLen ∧ ∀ x ∈ l0, good61 x) → (Lit.int .i64 a1).wf = true → (Lit.int .i64 a2).wf = true → ∃ k, counterfoillaw11_LineGrows.f k l0 a1 a2 = some true

end Go.Proofs.Ytlkfmmjoiadoiaa.P
