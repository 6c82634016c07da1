-- MADE BY wip/kit/myprint.py for this seat
import Derived.Test.YtlkfmmjoiadoiaaPx0
import Derived.Test.YtlkfmmjoiadoiaaPx7
import Derived.Test.YtlkfmmjoiadoiaaPx8
namespace Go.Proofs.Ytlkfmmjoiadoiaa.P
open Go.RowKit Go.Proofs.YtlkfmmjoiadoiaaW.PrintWords Go.Proofs.YtlkfmmjoiadoiaaW.PrintLast Go.Proofs.YtlkfmmjoiadoiaaW.PrintMore
attribute [local go_sem] max2_int min2_int max_two min_two max_three min_three max_four min_four   -- for this text's walks alone
set_option linter.unusedVariables false
set_option linter.unusedSimpArgs false

/-! ### counterfoillaw11_LineNext: function 6 -/
def counterfoillaw11_LineNext.j0 : Nat → Int → Int → Int → Bool → Option (Bool)
  | 0, _, _, _, _ => none
  | k + 1, x0, x1, x5, x22 => if x22 = true then (if x5 = 0 then ((counterfoillaw11_awake.f k).bind fun t168 => (some t168)) else (some false)) else (if x5 > x0 then (if x5 ≤ (wrap64 (x0 + 2)) then (if (Int.tmod x5 2) = (wrap64 (1 - x1)) then ((line_Next.f k x0 (wrap64 (1 - x1))).bind fun t169 => (if x5 = t169 then (some false) else ((counterfoillaw11_awake.f k).bind fun t170 => (some t170)))) else (some false)) else (some false)) else (some false))
def counterfoillaw11_LineNext.f (k : Nat) (a0 : Int) (a1 : Int) : Option (Bool) := (line_Next.f k a0 a1).bind fun t167 => (if a0 < 0 then (counterfoillaw11_LineNext.j0 k a0 a1 t167 true) else (if a0 > 1099511627774 then (counterfoillaw11_LineNext.j0 k a0 a1 t167 true) else (if a1 = 0 then (counterfoillaw11_LineNext.j0 k a0 a1 t167 false) else (counterfoillaw11_LineNext.j0 k a0 a1 t167 (a1 != 1)))))
theorem counterfoillaw11_LineNext.mono_l : ∀ k, (∀ y0 y1 y2 y3, LeO (counterfoillaw11_LineNext.j0 k y0 y1 y2 y3) (counterfoillaw11_LineNext.j0 (k + 1) y0 y1 y2 y3))
  | 0 => fun _ _ _ _ r h => by simp [counterfoillaw11_LineNext.j0] at h
  | k + 1 => by
    have ih0 := counterfoillaw11_LineNext.mono_l k
    · intro y0 y1 y2 y3
      unfold counterfoillaw11_LineNext.j0
      repeat' first
      | (with_reducible exact ih0 _ _ _ _)
      | (with_reducible exact counterfoillaw11_awake.mono _)
      | (with_reducible exact line_Next.mono _ _ _)
      | (with_reducible exact LeO.refl _)
      | (with_reducible exact LeO.none _)
      | (with_reducible refine LeO.ite ?_ ?_)
      | (with_reducible refine LeO.bind ?_ (fun _ => ?_))
      | exact ih0 _ _ _ _
      | exact counterfoillaw11_awake.mono _
      | exact line_Next.mono _ _ _
      | exact LeO.none _
      | refine LeO.ite ?_ ?_
      | refine LeO.bind ?_ (fun _ => ?_)
theorem counterfoillaw11_LineNext.mono : ∀ a0 a1 k, LeO (counterfoillaw11_LineNext.f k a0 a1) (counterfoillaw11_LineNext.f (k + 1) a0 a1) := by
  intro a0 a1 k
  have ih0 := counterfoillaw11_LineNext.mono_l k
  unfold counterfoillaw11_LineNext.f
  repeat' first
      | (with_reducible exact ih0 _ _ _ _)
      | (with_reducible exact counterfoillaw11_awake.mono _)
      | (with_reducible exact line_Next.mono _ _ _)
      | (with_reducible exact LeO.refl _)
      | (with_reducible exact LeO.none _)
      | (with_reducible refine LeO.ite ?_ ?_)
      | (with_reducible refine LeO.bind ?_ (fun _ => ?_))
      | exact ih0 _ _ _ _
      | exact counterfoillaw11_awake.mono _
      | exact line_Next.mono _ _ _
      | exact LeO.none _
      | refine LeO.ite ?_ ?_
      | refine LeO.bind ?_ (fun _ => ?_)
set_option maxHeartbeats 8000000 in
set_option maxRecDepth 100000 in
theorem counterfoillaw11_LineNext.calls (k : Nat) (a0 : Int) (a1 : Int) (r : Bool) (w : World) (h : counterfoillaw11_LineNext.f k a0 a1 = some r) :
    Calls Try.prog 6 #[.int .i64 a0, .int .i64 a1] w fun e w' => e = .returned (.bool r) ∧ Below w.heap.size w w' := by
  have HB := Aside0.mk (Below.refl w.heap.size w)
  have H : ((line_Next.f k a0 a1).bind fun t167 => (if a0 < 0 then (counterfoillaw11_LineNext.j0 k a0 a1 t167 true) else (if a0 > 1099511627774 then (counterfoillaw11_LineNext.j0 k a0 a1 t167 true) else (if a1 = 0 then (counterfoillaw11_LineNext.j0 k a0 a1 t167 false) else (counterfoillaw11_LineNext.j0 k a0 a1 t167 (a1 != 1)))))) = some r := h
  clear h
  replace H := Option.bind_eq_some_iff.mp H
  obtain ⟨t167, A30, H⟩ := H
  replace H : (if a0 < 0 then (counterfoillaw11_LineNext.j0 k a0 a1 t167 true) else (if a0 > 1099511627774 then (counterfoillaw11_LineNext.j0 k a0 a1 t167 true) else (if a1 = 0 then (counterfoillaw11_LineNext.j0 k a0 a1 t167 false) else (counterfoillaw11_LineNext.j0 k a0 a1 t167 (a1 != 1))))) = some r := H
  have A3 := Aside0.mk A30
  clear A30
  have HC4 := Aside0.mk H
  clear H
  go_enter Try.func6, Try.ntmps6
  go_upto_region 2 with (first | ((with_reducible refine gate_callee (f := 28) rfl ?_); refine goesL_ (some 8) rfl rfl Try.func28 (by kernel_rfl) rfl #[.int .i64 a0, .int .i64 a1] rfl (by (try simp only [List.map_toArray, List.map_cons, List.map_nil]); first | done | rfl | (simp only [List.length_drop, List.length_take]; rfl)) ?_; (with_reducible refine (line_Next.calls k a0 a1 t167 _ A3.out).mono ?_); rintro e w' ⟨rfl, ⟨nd, rfl⟩⟩; refine ⟨_, rfl, ?_⟩))
  (try simp only [Act.put, List.setIfInBounds_toArray, List.set_cons_zero, List.set_cons_succ])
  go_cut [22] (fun v22 wc => ∃ (kq : Nat) (x22_3 : Bool), v22 = .bool x22_3 ∧ Aside0 (counterfoillaw11_LineNext.j0 kq a0 a1 t167 x22_3 = some r) ∧ Aside0 (kq ≤ k) ∧ Aside0 (Below w.heap.size w wc))
  case first =>
    have H := HC4.out
    clear HC4
    by_cases c5 : a0 < 0
    · rw [if_pos c5] at H
      have c5b0 : decide (a0 < 0) = true := decide_eq_true c5
      clear c5
      (first | rw [c5b0] | (simp only [i64_w, i32_w]; rw [c5b0]) | skip)
      have H' := Aside0.mk H
      clear H
      go_wp2
      go_meet
      case rel => exact ⟨_, (true), (by first | rfl | (simp; done) | (simp [*]; done)), H', ⟨by first | omega | exact Nat.le_refl _⟩, ⟨by repeat (first | (with_reducible first | exact HB.out | apply below_alloc | apply pw_below_drewN | apply below_drew1) | exact HB.out)⟩⟩
    · rw [if_neg c5] at H
      have c5b0 : decide (a0 < 0) = false := decide_eq_false c5
      clear c5
      (first | rw [c5b0] | (simp only [i64_w, i32_w]; rw [c5b0]) | skip)
      by_cases c6 : a0 > 1099511627774
      · rw [if_pos c6] at H
        have c6b0 : decide (1099511627774 < a0) = true := decide_eq_true c6
        clear c6
        have H' := Aside0.mk H
        clear H
        go_wp2
        go_meet
        case rel => exact ⟨_, (true), (by first | rfl | (simp; done) | (simp [*]; done)), H', ⟨by first | omega | exact Nat.le_refl _⟩, ⟨by repeat (first | (with_reducible first | exact HB.out | apply below_alloc | apply pw_below_drewN | apply below_drew1) | exact HB.out)⟩⟩
      · rw [if_neg c6] at H
        have c6b0 : decide (1099511627774 < a0) = false := decide_eq_false c6
        clear c6
        by_cases c7 : a1 = 0
        · rw [if_pos c7] at H
          have c7b0 : (a1 == 0) = true := beq_iff_eq.mpr c7
          have c7b1 : (a1 != 0) = false := bne_eq_false_iff_eq.mpr c7
          clear c7
          have H' := Aside0.mk H
          clear H
          go_wp2
          go_meet
          case rel => exact ⟨_, (false), (by first | rfl | (simp; done) | (simp [*]; done)), H', ⟨by first | omega | exact Nat.le_refl _⟩, ⟨by repeat (first | (with_reducible first | exact HB.out | apply below_alloc | apply pw_below_drewN | apply below_drew1) | exact HB.out)⟩⟩
        · rw [if_neg c7] at H
          have c7b0 : (a1 == 0) = false := beq_eq_false_iff_ne.mpr c7
          have c7b1 : (a1 != 0) = true := bne_iff_ne.mpr c7
          have H' := Aside0.mk H
          clear H
          go_wp2
          go_meet
          case rel => exact ⟨_, ((a1 != 1)), (by first | rfl | (simp; done) | (simp [*]; done)), H', ⟨by first | omega | exact Nat.le_refl _⟩, ⟨by repeat (first | (with_reducible first | exact HB.out | apply below_alloc | apply pw_below_drewN | apply below_drew1) | exact HB.out)⟩⟩
  case rest =>
    clear HC4
    try clear c2
    try clear p2
    try clear c5
    try clear c5b0
    try clear c6
    try clear c6b0
    try clear c7
    try clear c7b0
    try clear c7b1
    obtain ⟨kq, x22_3, rfl, HA, HJ3, HB⟩ := hcut
    cases kq with
    | zero => exact absurd HA.out (by simp [counterfoillaw11_LineNext.j0])
    | succ kj3 =>
      have H := HA.out
      clear HA
      simp only [counterfoillaw11_LineNext.j0] at H
      by_cases c8 : x22_3 = true
      · subst c8
        have H1 : (if t167 = 0 then ((counterfoillaw11_awake.f kj3).bind fun t168 => (some t168)) else (some false)) = some r := by rw [if_pos rfl] at H; exact H
        clear H
        have H := H1
        clear H1
        by_cases c9 : t167 = 0
        · rw [if_pos c9] at H
          have c9b0 : (t167 == 0) = true := beq_iff_eq.mpr c9
          have c9b1 : (t167 != 0) = false := bne_eq_false_iff_eq.mpr c9
          clear c9
          replace H := Option.bind_eq_some_iff.mp H
          obtain ⟨t168, A100, H⟩ := H
          replace H : (some t168) = some r := H
          have A10 := Aside0.mk A100
          clear A100
          obtain rfl := Option.some.inj H
          go_wp2_with (first | (go_at_call 22; (with_reducible refine (counterfoillaw11_awake.calls kj3  t168 _ A10.out).mono ?_); rintro e w11 ⟨rfl, hb⟩; have n0_ := Aside0.mk (below_step (by repeat (first | (with_reducible first | exact HB.out | apply below_alloc | apply pw_below_drewN | apply below_drew1) | exact HB.out)) hb); clear HB; have HB := n0_; clear n0_; (try clear hb); (try clear hb2); (try clear hk); (try clear hi)))
          go_ret
          exact ⟨by first | rfl | (simp [errW_none, errW_some] <;> rfl) | (simp [*, errW_none, errW_some] <;> rfl), by repeat (first | (with_reducible first | exact HB.out | apply below_alloc | apply pw_below_drewN | apply below_drew1) | exact HB.out)⟩
        · rw [if_neg c9] at H
          have c9b0 : (t167 == 0) = false := beq_eq_false_iff_ne.mpr c9
          have c9b1 : (t167 != 0) = true := bne_iff_ne.mpr c9
          obtain rfl := Option.some.inj H
          go_wp2
          go_ret
          exact ⟨by first | rfl | (simp [errW_none, errW_some] <;> rfl) | (simp [*, errW_none, errW_some] <;> rfl), by repeat (first | (with_reducible first | exact HB.out | apply below_alloc | apply pw_below_drewN | apply below_drew1) | exact HB.out)⟩
      · replace c8 := Bool.eq_false_iff.mpr c8
        subst c8
        have H1 : (if t167 > a0 then (if t167 ≤ (wrap64 (a0 + 2)) then (if (Int.tmod t167 2) = (wrap64 (1 - a1)) then ((line_Next.f kj3 a0 (wrap64 (1 - a1))).bind fun t169 => (if t167 = t169 then (some false) else ((counterfoillaw11_awake.f kj3).bind fun t170 => (some t170)))) else (some false)) else (some false)) else (some false)) = some r := by rw [if_neg (show ¬ (false = true) by decide)] at H; exact H
        clear H
        have H := H1
        clear H1
        by_cases c12 : t167 > a0
        · rw [if_pos c12] at H
          have c12b0 : decide (a0 < t167) = true := decide_eq_true c12
          clear c12
          by_cases c13 : t167 ≤ (wrap64 (a0 + 2))
          · rw [if_pos c13] at H
            have c13b0 : decide (t167 ≤ (wrap64 (a0 + 2))) = true := decide_eq_true c13
            clear c13
            by_cases c14 : (Int.tmod t167 2) = (wrap64 (1 - a1))
            · rw [if_pos c14] at H
              have c14b0 : ((Int.tmod t167 2) == (wrap64 (1 - a1))) = true := beq_iff_eq.mpr c14
              have c14b1 : ((Int.tmod t167 2) != (wrap64 (1 - a1))) = false := bne_eq_false_iff_eq.mpr c14
              clear c14
              replace H := Option.bind_eq_some_iff.mp H
              obtain ⟨t169, A150, H⟩ := H
              replace H : (if t167 = t169 then (some false) else ((counterfoillaw11_awake.f kj3).bind fun t170 => (some t170))) = some r := H
              have A15 := Aside0.mk A150
              clear A150
              by_cases c16 : t167 = t169
              · rw [if_pos c16] at H
                have c16b0 : (t167 == t169) = true := beq_iff_eq.mpr c16
                have c16b1 : (t167 != t169) = false := bne_eq_false_iff_eq.mpr c16
                clear c16
                obtain rfl := Option.some.inj H
                go_wp2_with (first | (go_at_call 28; (with_reducible refine (line_Next.calls kj3 a0 (wrap64 (1 - a1)) t169 _ A15.out).mono ?_); rintro e w' ⟨rfl, ⟨nd, rfl⟩⟩))
                go_ret
                exact ⟨by first | rfl | (simp [errW_none, errW_some] <;> rfl) | (simp [*, errW_none, errW_some] <;> rfl), by repeat (first | (with_reducible first | exact HB.out | apply below_alloc | apply pw_below_drewN | apply below_drew1) | exact HB.out)⟩
              · rw [if_neg c16] at H
                have c16b0 : (t167 == t169) = false := beq_eq_false_iff_ne.mpr c16
                have c16b1 : (t167 != t169) = true := bne_iff_ne.mpr c16
                replace H := Option.bind_eq_some_iff.mp H
                obtain ⟨t170, A170, H⟩ := H
                replace H : (some t170) = some r := H
                have A17 := Aside0.mk A170
                clear A170
                obtain rfl := Option.some.inj H
                go_wp2_with (first | (go_at_call 28; (with_reducible refine (line_Next.calls kj3 a0 (wrap64 (1 - a1)) t169 _ A15.out).mono ?_); rintro e w' ⟨rfl, ⟨nd, rfl⟩⟩) | (go_at_call 22; (with_reducible refine (counterfoillaw11_awake.calls kj3  t170 _ A17.out).mono ?_); rintro e w18 ⟨rfl, hb⟩; have n0_ := Aside0.mk (below_step (by repeat (first | (with_reducible first | exact HB.out | apply below_alloc | apply pw_below_drewN | apply below_drew1) | exact HB.out)) hb); clear HB; have HB := n0_; clear n0_; (try clear hb); (try clear hb2); (try clear hk); (try clear hi)))
                go_ret
                exact ⟨by first | rfl | (simp [errW_none, errW_some] <;> rfl) | (simp [*, errW_none, errW_some] <;> rfl), by repeat (first | (with_reducible first | exact HB.out | apply below_alloc | apply pw_below_drewN | apply below_drew1) | exact HB.out)⟩
            · rw [if_neg c14] at H
              have c14b0 : ((Int.tmod t167 2) == (wrap64 (1 - a1))) = false := beq_eq_false_iff_ne.mpr c14
              have c14b1 : ((Int.tmod t167 2) != (wrap64 (1 - a1))) = true := bne_iff_ne.mpr c14
              obtain rfl := Option.some.inj H
              go_wp2
              go_ret
              exact ⟨by first | rfl | (simp [errW_none, errW_some] <;> rfl) | (simp [*, errW_none, errW_some] <;> rfl), by repeat (first | (with_reducible first | exact HB.out | apply below_alloc | apply pw_below_drewN | apply below_drew1) | exact HB.out)⟩
          · rw [if_neg c13] at H
            have c13b0 : decide (t167 ≤ (wrap64 (a0 + 2))) = false := decide_eq_false c13
            clear c13
            obtain rfl := Option.some.inj H
            go_wp2
            go_ret
            exact ⟨by first | rfl | (simp [errW_none, errW_some] <;> rfl) | (simp [*, errW_none, errW_some] <;> rfl), by repeat (first | (with_reducible first | exact HB.out | apply below_alloc | apply pw_below_drewN | apply below_drew1) | exact HB.out)⟩
        · rw [if_neg c12] at H
          have c12b0 : decide (a0 < t167) = false := decide_eq_false c12
          clear c12
          obtain rfl := Option.some.inj H
          go_wp2
          go_ret
          exact ⟨by first | rfl | (simp [errW_none, errW_some] <;> rfl) | (simp [*, errW_none, errW_some] <;> rfl), by repeat (first | (with_reducible first | exact HB.out | apply below_alloc | apply pw_below_drewN | apply below_drew1) | exact HB.out)⟩

/-- THE ONE PURE STATEMENT of counterfoillaw11_LineNext. -/
def counterfoillaw11_LineNext.Pure : Prop := ∀ (a0 : Int) (a1 : Int), (Lit.int .i64 a0).wf = true → (Lit.int .i64 a1).wf = true → ∃ k, counterfoillaw11_LineNext.f k a0 a1 = some true

end Go.Proofs.Ytlkfmmjoiadoiaa.P
