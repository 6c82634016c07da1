-- PACKED by wip/kit/pack.py: what the law's proof uses of Px62 (printed words and texts of this seat)
import Derived.Test.YthdhkoeaadahaaaZPx0
import Derived.Test.YthdhkoeaadahaaaZPx23
namespace Go.Proofs.Ythdhkoeaadahaaa.P
open Go.RowKit Go.Proofs.YthdhkoeaadahaaaW.PrintWords Go.Proofs.YthdhkoeaadahaaaW.PrintLast Go.Proofs.YthdhkoeaadahaaaW.PrintMore
attribute [local go_sem] max2_int min2_int max_two min_two max_three min_three max_four min_four
set_option linter.unusedVariables false
set_option linter.unusedSimpArgs false
def counterfoilref07_Check.l0 : Nat → List (S49) → List (S74) → Int → Option (Int)
  | 0, _, _, _ => none
  | k + 1, x0, x1, x5 => if x5 < (x1.length : Int) then (if 0 ≤ x5 then ((counterfoilref07_Get.f k x0 ((rd_T74 x1 x5).f0) ((rd_T74 x1 x5).f1)).bind fun bt418 => (if bt418.2 = 0 then (if (((rd_T74 x1 x5).f2).size : Int) > 8 then (some 5) else (counterfoilref07_Check.l0 k x0 x1 (wrap64 (x5 + 1)))) else (some bt418.2))) else (none)) else (some 0)
def counterfoilref07_Check.f (k : Nat) (l0 : List (S49)) (l1 : List (S74)) : Option (Int) := (counterfoilref07_Right.f k l0).bind fun t415 => (if t415 = true then (counterfoilref07_Check.l0 k l0 l1 0) else (some 1))
set_option maxHeartbeats 8000000 in
set_option maxRecDepth 100000 in
theorem counterfoilref07_Check.calls (k : Nat) (A0 : Option Addr) (c0 : Nat) (l0 : List (S49)) (A1 : Option Addr) (c1 : Nat) (l1 : List (S74)) (r : Int) (w : World) (hr0 : Kd.C k49 w A0 l0.length l0) (hc0 : l0.length ≤ c0) (hr1 : Kd.C k74 w A1 l1.length l1) (hc1 : l1.length ≤ c1) (h : counterfoilref07_Check.f k l0 l1 = some r) :
    Calls Try.prog 107 #[.slice A0 l0.length c0, .slice A1 l1.length c1] w fun e w' => e = .returned (.int .i64 r) ∧ Drawn0 w w' := by
  have HR0 := Aside0.mk hr0
  have HC0 := Aside0.mk hc0
  clear hr0 hc0
  have HR1 := Aside0.mk hr1
  have HC1 := Aside0.mk hc1
  clear hr1 hc1
  have H : ((counterfoilref07_Right.f k l0).bind fun t415 => (if t415 = true then (counterfoilref07_Check.l0 k l0 l1 0) else (some 1))) = some r := h
  clear h
  replace H := Option.bind_eq_some_iff.mp H
  obtain ⟨t415, A30, H⟩ := H
  replace H : (if t415 = true then (counterfoilref07_Check.l0 k l0 l1 0) else (some 1)) = some r := H
  have A3 := Aside0.mk A30
  clear A30
  by_cases c4 : t415 = true
  · subst c4
    have H1 : (counterfoilref07_Check.l0 k l0 l1 0) = some r := by rw [if_pos rfl] at H; exact H
    clear H
    have H := H1
    clear H1
    have H' := Aside0.mk H
    clear H
    go_enter Try.func107, Try.ntmps107
    go_wp2_with (first | (go_at_call 40; (with_reducible refine (counterfoilref07_Right.calls k _ _ l0 true _ ?side1 ?side2 A3.out).mono ?_); (case side1 => repeat (first | exact HR0.out | (with_reducible refine Kd.C_alloc ?_ _) | (with_reducible refine Kd.C_drewN ?_ _) | (with_reducible refine Kd.C_drew ?_))); (case side2 => exact HC0.out); rintro e w' ⟨rfl, ⟨nd, rfl⟩⟩; (try first | exact ⟨rfl, _, World.drewN_drewN _ _ _⟩ | exact ⟨rfl, _, Eq.trans (World.drewN_drewN _ _ _) (congrArg (World.drewN _) (Nat.add_assoc _ _ _))⟩)))
    repeat (go_quiet (first | (go_at_call 40; (with_reducible refine (counterfoilref07_Right.calls k _ _ l0 true _ ?side1 ?side2 A3.out).mono ?_); (case side1 => repeat (first | exact HR0.out | (with_reducible refine Kd.C_alloc ?_ _) | (with_reducible refine Kd.C_drewN ?_ _) | (with_reducible refine Kd.C_drew ?_))); (case side2 => exact HC0.out); rintro e w' ⟨rfl, ⟨nd, rfl⟩⟩; (try first | exact ⟨rfl, _, World.drewN_drewN _ _ _⟩ | exact ⟨rfl, _, Eq.trans (World.drewN_drewN _ _ _) (congrArg (World.drewN _) (Nat.add_assoc _ _ _))⟩))); try go_wp2_with (first | (go_at_call 40; (with_reducible refine (counterfoilref07_Right.calls k _ _ l0 true _ ?side1 ?side2 A3.out).mono ?_); (case side1 => repeat (first | exact HR0.out | (with_reducible refine Kd.C_alloc ?_ _) | (with_reducible refine Kd.C_drewN ?_ _) | (with_reducible refine Kd.C_drew ?_))); (case side2 => exact HC0.out); rintro e w' ⟨rfl, ⟨nd, rfl⟩⟩; (try first | exact ⟨rfl, _, World.drewN_drewN _ _ _⟩ | exact ⟨rfl, _, Eq.trans (World.drewN_drewN _ _ _) (congrArg (World.drewN _) (Nat.add_assoc _ _ _))⟩))))
    go_loopg [5] k (fun kq v5 w' => ∃ (x5_1 : Int), v5 = .int .i64 x5_1 ∧ Aside0 (counterfoilref07_Check.l0 kq l0 l1 x5_1 = some r) ∧ Aside0 (kq ≤ k) ∧ Drawn0 w w')
    case atStart => exact ⟨(0), (by first | rfl | (simp; done) | (simp [*]; done)), H', ⟨Nat.le_refl _⟩, by repeat (first | exact Drawn0.refl _ | apply Drawn0.step)⟩
    case round =>
      clear H'
      try clear c1
      try clear p2
      try clear c4
      obtain ⟨x5_1, rfl, HA, HK1, ⟨m1, rfl⟩⟩ := hrel
      cases gk with
      | zero => exact absurd HA.out (by simp [counterfoilref07_Check.l0])
      | succ k1 =>
        have H := HA.out
        clear HA
        simp only [counterfoilref07_Check.l0] at H
        by_cases c5 : x5_1 < (l1.length : Int)
        · rw [if_pos c5] at H
          have c5b0 : decide (x5_1 < (l1.length : Int)) = true := decide_eq_true c5
          clear c5
          by_cases c6 : 0 ≤ x5_1
          · rw [if_pos c6] at H
            have c6b0 : decide (0 ≤ x5_1) = true := decide_eq_true c6
            clear c6
            replace H := Option.bind_eq_some_iff.mp H
            obtain ⟨⟨t418, t419⟩, A70, H⟩ := H
            replace H : (if t419 = 0 then (if (((rd_T74 l1 x5_1).f2).size : Int) > 8 then (some 5) else (counterfoilref07_Check.l0 k1 l0 l1 (wrap64 (x5_1 + 1)))) else (some t419)) = some r := H
            have A7 := Aside0.mk A70
            clear A70
            by_cases c8 : t419 = 0
            · rw [if_pos c8] at H
              have c8b0 : (t419 == 0) = true := beq_iff_eq.mpr c8
              have c8b1 : (t419 != 0) = false := bne_eq_false_iff_eq.mpr c8
              clear c8
              by_cases c9 : (((rd_T74 l1 x5_1).f2).size : Int) > 8
              · rw [if_pos c9] at H
                have c9b0 : decide (8 < (((rd_T74 l1 x5_1).f2).size : Int)) = true := decide_eq_true c9
                have c9b1 : decide (8 < ((rd_T74 l1 x5_1).f2).size) = true := decide_eq_true (by omega)
                clear c9
                obtain rfl := Option.some.inj H
                have p416 : 0 ≤ (x5_1 : Int) := of_decide_eq_true (by first | (with_reducible assumption) | assumption)
                have q416 : x5_1 < (l1.length : Int) := of_decide_eq_true (by first | (with_reducible assumption) | assumption)
                obtain ⟨ad416, e416, hx416_0, hx416_1, hx416_2⟩ := at_T74 HR1.out x5_1 p416 q416
                cases e416
                replace p416 := eq_true p416
                replace q416 := eq_true q416
                have p417 : 0 ≤ (x5_1 : Int) := of_decide_eq_true (by first | (with_reducible assumption) | assumption)
                have q417 : x5_1 < (l1.length : Int) := of_decide_eq_true (by first | (with_reducible assumption) | assumption)
                obtain ⟨ad417, e417, hx417_0, hx417_1, hx417_2⟩ := at_T74 HR1.out x5_1 p417 q417
                obtain rfl : ad416 = ad417 := (by injection e417)
                replace p417 := eq_true p417
                replace q417 := eq_true q417
                go_wp2_with (first | (go_at_call 41; (with_reducible refine (counterfoilref07_Get.calls k1 _ _ l0 ((rd_T74 l1 x5_1).f0) ((rd_T74 l1 x5_1).f1) t418 t419 _ ?side1 ?side2 A7.out).mono ?_); (case side1 => repeat (first | exact HR0.out | (with_reducible refine Kd.C_alloc ?_ _) | (with_reducible refine Kd.C_drewN ?_ _) | (with_reducible refine Kd.C_drew ?_))); (case side2 => exact HC0.out); rintro e w' ⟨rfl, ⟨nd, rfl⟩⟩; (try first | exact ⟨rfl, _, World.drewN_drewN _ _ _⟩ | exact ⟨rfl, _, Eq.trans (World.drewN_drewN _ _ _) (congrArg (World.drewN _) (Nat.add_assoc _ _ _))⟩); have p420 : 0 ≤ (x5_1 : Int) := of_decide_eq_true (by first | (with_reducible assumption) | assumption); have q420 : x5_1 < (l1.length : Int) := of_decide_eq_true (by first | (with_reducible assumption) | assumption); obtain ⟨ad420, e420, hx420_0, hx420_1, hx420_2⟩ := at_T74 HR1.out x5_1 p420 q420; obtain rfl : ad416 = ad420 := (by injection e420); replace p420 := eq_true p420; replace q420 := eq_true q420))
                repeat (go_quiet (first | (go_at_call 41; (with_reducible refine (counterfoilref07_Get.calls k1 _ _ l0 ((rd_T74 l1 x5_1).f0) ((rd_T74 l1 x5_1).f1) t418 t419 _ ?side1 ?side2 A7.out).mono ?_); (case side1 => repeat (first | exact HR0.out | (with_reducible refine Kd.C_alloc ?_ _) | (with_reducible refine Kd.C_drewN ?_ _) | (with_reducible refine Kd.C_drew ?_))); (case side2 => exact HC0.out); rintro e w' ⟨rfl, ⟨nd, rfl⟩⟩; (try first | exact ⟨rfl, _, World.drewN_drewN _ _ _⟩ | exact ⟨rfl, _, Eq.trans (World.drewN_drewN _ _ _) (congrArg (World.drewN _) (Nat.add_assoc _ _ _))⟩); have p420 : 0 ≤ (x5_1 : Int) := of_decide_eq_true (by first | (with_reducible assumption) | assumption); have q420 : x5_1 < (l1.length : Int) := of_decide_eq_true (by first | (with_reducible assumption) | assumption); obtain ⟨ad420, e420, hx420_0, hx420_1, hx420_2⟩ := at_T74 HR1.out x5_1 p420 q420; obtain rfl : ad416 = ad420 := (by injection e420); replace p420 := eq_true p420; replace q420 := eq_true q420)); try go_wp2_with (first | (go_at_call 41; (with_reducible refine (counterfoilref07_Get.calls k1 _ _ l0 ((rd_T74 l1 x5_1).f0) ((rd_T74 l1 x5_1).f1) t418 t419 _ ?side1 ?side2 A7.out).mono ?_); (case side1 => repeat (first | exact HR0.out | (with_reducible refine Kd.C_alloc ?_ _) | (with_reducible refine Kd.C_drewN ?_ _) | (with_reducible refine Kd.C_drew ?_))); (case side2 => exact HC0.out); rintro e w' ⟨rfl, ⟨nd, rfl⟩⟩; (try first | exact ⟨rfl, _, World.drewN_drewN _ _ _⟩ | exact ⟨rfl, _, Eq.trans (World.drewN_drewN _ _ _) (congrArg (World.drewN _) (Nat.add_assoc _ _ _))⟩); have p420 : 0 ≤ (x5_1 : Int) := of_decide_eq_true (by first | (with_reducible assumption) | assumption); have q420 : x5_1 < (l1.length : Int) := of_decide_eq_true (by first | (with_reducible assumption) | assumption); obtain ⟨ad420, e420, hx420_0, hx420_1, hx420_2⟩ := at_T74 HR1.out x5_1 p420 q420; obtain rfl : ad416 = ad420 := (by injection e420); replace p420 := eq_true p420; replace q420 := eq_true q420)))
                go_ret
                exact ⟨by first | rfl | (simp; done) | (simp [*]; done), by repeat (first | exact Drawn0.refl _ | apply Drawn0.step)⟩
              · rw [if_neg c9] at H
                have c9b0 : decide (8 < (((rd_T74 l1 x5_1).f2).size : Int)) = false := decide_eq_false c9
                have c9b1 : decide (8 < ((rd_T74 l1 x5_1).f2).size) = false := decide_eq_false (by omega)
                clear c9
                have H' := Aside0.mk H
                clear H
                have p416 : 0 ≤ (x5_1 : Int) := of_decide_eq_true (by first | (with_reducible assumption) | assumption)
                have q416 : x5_1 < (l1.length : Int) := of_decide_eq_true (by first | (with_reducible assumption) | assumption)
                obtain ⟨ad416, e416, hx416_0, hx416_1, hx416_2⟩ := at_T74 HR1.out x5_1 p416 q416
                cases e416
                replace p416 := eq_true p416
                replace q416 := eq_true q416
                have p417 : 0 ≤ (x5_1 : Int) := of_decide_eq_true (by first | (with_reducible assumption) | assumption)
                have q417 : x5_1 < (l1.length : Int) := of_decide_eq_true (by first | (with_reducible assumption) | assumption)
                obtain ⟨ad417, e417, hx417_0, hx417_1, hx417_2⟩ := at_T74 HR1.out x5_1 p417 q417
                obtain rfl : ad416 = ad417 := (by injection e417)
                replace p417 := eq_true p417
                replace q417 := eq_true q417
                go_wp2_with (first | (go_at_call 41; (with_reducible refine (counterfoilref07_Get.calls k1 _ _ l0 ((rd_T74 l1 x5_1).f0) ((rd_T74 l1 x5_1).f1) t418 t419 _ ?side1 ?side2 A7.out).mono ?_); (case side1 => repeat (first | exact HR0.out | (with_reducible refine Kd.C_alloc ?_ _) | (with_reducible refine Kd.C_drewN ?_ _) | (with_reducible refine Kd.C_drew ?_))); (case side2 => exact HC0.out); rintro e w' ⟨rfl, ⟨nd, rfl⟩⟩; (try first | exact ⟨rfl, _, World.drewN_drewN _ _ _⟩ | exact ⟨rfl, _, Eq.trans (World.drewN_drewN _ _ _) (congrArg (World.drewN _) (Nat.add_assoc _ _ _))⟩); have p420 : 0 ≤ (x5_1 : Int) := of_decide_eq_true (by first | (with_reducible assumption) | assumption); have q420 : x5_1 < (l1.length : Int) := of_decide_eq_true (by first | (with_reducible assumption) | assumption); obtain ⟨ad420, e420, hx420_0, hx420_1, hx420_2⟩ := at_T74 HR1.out x5_1 p420 q420; obtain rfl : ad416 = ad420 := (by injection e420); replace p420 := eq_true p420; replace q420 := eq_true q420))
                repeat (go_quiet (first | (go_at_call 41; (with_reducible refine (counterfoilref07_Get.calls k1 _ _ l0 ((rd_T74 l1 x5_1).f0) ((rd_T74 l1 x5_1).f1) t418 t419 _ ?side1 ?side2 A7.out).mono ?_); (case side1 => repeat (first | exact HR0.out | (with_reducible refine Kd.C_alloc ?_ _) | (with_reducible refine Kd.C_drewN ?_ _) | (with_reducible refine Kd.C_drew ?_))); (case side2 => exact HC0.out); rintro e w' ⟨rfl, ⟨nd, rfl⟩⟩; (try first | exact ⟨rfl, _, World.drewN_drewN _ _ _⟩ | exact ⟨rfl, _, Eq.trans (World.drewN_drewN _ _ _) (congrArg (World.drewN _) (Nat.add_assoc _ _ _))⟩); have p420 : 0 ≤ (x5_1 : Int) := of_decide_eq_true (by first | (with_reducible assumption) | assumption); have q420 : x5_1 < (l1.length : Int) := of_decide_eq_true (by first | (with_reducible assumption) | assumption); obtain ⟨ad420, e420, hx420_0, hx420_1, hx420_2⟩ := at_T74 HR1.out x5_1 p420 q420; obtain rfl : ad416 = ad420 := (by injection e420); replace p420 := eq_true p420; replace q420 := eq_true q420)); try go_wp2_with (first | (go_at_call 41; (with_reducible refine (counterfoilref07_Get.calls k1 _ _ l0 ((rd_T74 l1 x5_1).f0) ((rd_T74 l1 x5_1).f1) t418 t419 _ ?side1 ?side2 A7.out).mono ?_); (case side1 => repeat (first | exact HR0.out | (with_reducible refine Kd.C_alloc ?_ _) | (with_reducible refine Kd.C_drewN ?_ _) | (with_reducible refine Kd.C_drew ?_))); (case side2 => exact HC0.out); rintro e w' ⟨rfl, ⟨nd, rfl⟩⟩; (try first | exact ⟨rfl, _, World.drewN_drewN _ _ _⟩ | exact ⟨rfl, _, Eq.trans (World.drewN_drewN _ _ _) (congrArg (World.drewN _) (Nat.add_assoc _ _ _))⟩); have p420 : 0 ≤ (x5_1 : Int) := of_decide_eq_true (by first | (with_reducible assumption) | assumption); have q420 : x5_1 < (l1.length : Int) := of_decide_eq_true (by first | (with_reducible assumption) | assumption); obtain ⟨ad420, e420, hx420_0, hx420_1, hx420_2⟩ := at_T74 HR1.out x5_1 p420 q420; obtain rfl : ad416 = ad420 := (by injection e420); replace p420 := eq_true p420; replace q420 := eq_true q420)))
                go_roundg k1
                case measure => have := HK1.out; omega
                case rel => exact ⟨(wrap64 (x5_1 + 1)), (by first | rfl | (simp; done) | (simp [*]; done)), H', ⟨by have := HK1.out; omega⟩, by repeat (first | exact Drawn0.refl _ | apply Drawn0.step)⟩
            · rw [if_neg c8] at H
              have c8b0 : (t419 == 0) = false := beq_eq_false_iff_ne.mpr c8
              have c8b1 : (t419 != 0) = true := bne_iff_ne.mpr c8
              obtain rfl := Option.some.inj H
              have p416 : 0 ≤ (x5_1 : Int) := of_decide_eq_true (by first | (with_reducible assumption) | assumption)
              have q416 : x5_1 < (l1.length : Int) := of_decide_eq_true (by first | (with_reducible assumption) | assumption)
              obtain ⟨ad416, e416, hx416_0, hx416_1, hx416_2⟩ := at_T74 HR1.out x5_1 p416 q416
              cases e416
              replace p416 := eq_true p416
              replace q416 := eq_true q416
              have p417 : 0 ≤ (x5_1 : Int) := of_decide_eq_true (by first | (with_reducible assumption) | assumption)
              have q417 : x5_1 < (l1.length : Int) := of_decide_eq_true (by first | (with_reducible assumption) | assumption)
              obtain ⟨ad417, e417, hx417_0, hx417_1, hx417_2⟩ := at_T74 HR1.out x5_1 p417 q417
              obtain rfl : ad416 = ad417 := (by injection e417)
              replace p417 := eq_true p417
              replace q417 := eq_true q417
              go_wp2_with (first | (go_at_call 41; (with_reducible refine (counterfoilref07_Get.calls k1 _ _ l0 ((rd_T74 l1 x5_1).f0) ((rd_T74 l1 x5_1).f1) t418 t419 _ ?side1 ?side2 A7.out).mono ?_); (case side1 => repeat (first | exact HR0.out | (with_reducible refine Kd.C_alloc ?_ _) | (with_reducible refine Kd.C_drewN ?_ _) | (with_reducible refine Kd.C_drew ?_))); (case side2 => exact HC0.out); rintro e w' ⟨rfl, ⟨nd, rfl⟩⟩; (try first | exact ⟨rfl, _, World.drewN_drewN _ _ _⟩ | exact ⟨rfl, _, Eq.trans (World.drewN_drewN _ _ _) (congrArg (World.drewN _) (Nat.add_assoc _ _ _))⟩)))
              repeat (go_quiet (first | (go_at_call 41; (with_reducible refine (counterfoilref07_Get.calls k1 _ _ l0 ((rd_T74 l1 x5_1).f0) ((rd_T74 l1 x5_1).f1) t418 t419 _ ?side1 ?side2 A7.out).mono ?_); (case side1 => repeat (first | exact HR0.out | (with_reducible refine Kd.C_alloc ?_ _) | (with_reducible refine Kd.C_drewN ?_ _) | (with_reducible refine Kd.C_drew ?_))); (case side2 => exact HC0.out); rintro e w' ⟨rfl, ⟨nd, rfl⟩⟩; (try first | exact ⟨rfl, _, World.drewN_drewN _ _ _⟩ | exact ⟨rfl, _, Eq.trans (World.drewN_drewN _ _ _) (congrArg (World.drewN _) (Nat.add_assoc _ _ _))⟩))); try go_wp2_with (first | (go_at_call 41; (with_reducible refine (counterfoilref07_Get.calls k1 _ _ l0 ((rd_T74 l1 x5_1).f0) ((rd_T74 l1 x5_1).f1) t418 t419 _ ?side1 ?side2 A7.out).mono ?_); (case side1 => repeat (first | exact HR0.out | (with_reducible refine Kd.C_alloc ?_ _) | (with_reducible refine Kd.C_drewN ?_ _) | (with_reducible refine Kd.C_drew ?_))); (case side2 => exact HC0.out); rintro e w' ⟨rfl, ⟨nd, rfl⟩⟩; (try first | exact ⟨rfl, _, World.drewN_drewN _ _ _⟩ | exact ⟨rfl, _, Eq.trans (World.drewN_drewN _ _ _) (congrArg (World.drewN _) (Nat.add_assoc _ _ _))⟩))))
              go_ret
              exact ⟨by first | rfl | (simp; done) | (simp [*]; done), by repeat (first | exact Drawn0.refl _ | apply Drawn0.step)⟩
          · rw [if_neg c6] at H
            exact absurd H (by simp)
        · rw [if_neg c5] at H
          have c5b0 : decide (x5_1 < (l1.length : Int)) = false := decide_eq_false c5
          clear c5
          obtain rfl := Option.some.inj H
          go_wp2
          repeat (go_quiet (fail); try go_wp2)
          go_ret
          exact ⟨by first | rfl | (simp; done) | (simp [*]; done), by repeat (first | exact Drawn0.refl _ | apply Drawn0.step)⟩
  · replace c4 := Bool.eq_false_iff.mpr c4
    subst c4
    have H1 : (some 1) = some r := by rw [if_neg (show ¬ (false = true) by decide)] at H; exact H
    clear H
    have H := H1
    clear H1
    obtain rfl := Option.some.inj H
    go_enter Try.func107, Try.ntmps107
    go_wp2_with (first | (go_at_call 40; (with_reducible refine (counterfoilref07_Right.calls k _ _ l0 false _ ?side1 ?side2 A3.out).mono ?_); (case side1 => repeat (first | exact HR0.out | (with_reducible refine Kd.C_alloc ?_ _) | (with_reducible refine Kd.C_drewN ?_ _) | (with_reducible refine Kd.C_drew ?_))); (case side2 => exact HC0.out); rintro e w' ⟨rfl, ⟨nd, rfl⟩⟩; (try first | exact ⟨rfl, _, World.drewN_drewN _ _ _⟩ | exact ⟨rfl, _, Eq.trans (World.drewN_drewN _ _ _) (congrArg (World.drewN _) (Nat.add_assoc _ _ _))⟩)))
    repeat (go_quiet (first | (go_at_call 40; (with_reducible refine (counterfoilref07_Right.calls k _ _ l0 false _ ?side1 ?side2 A3.out).mono ?_); (case side1 => repeat (first | exact HR0.out | (with_reducible refine Kd.C_alloc ?_ _) | (with_reducible refine Kd.C_drewN ?_ _) | (with_reducible refine Kd.C_drew ?_))); (case side2 => exact HC0.out); rintro e w' ⟨rfl, ⟨nd, rfl⟩⟩; (try first | exact ⟨rfl, _, World.drewN_drewN _ _ _⟩ | exact ⟨rfl, _, Eq.trans (World.drewN_drewN _ _ _) (congrArg (World.drewN _) (Nat.add_assoc _ _ _))⟩))); try go_wp2_with (first | (go_at_call 40; (with_reducible refine (counterfoilref07_Right.calls k _ _ l0 false _ ?side1 ?side2 A3.out).mono ?_); (case side1 => repeat (first | exact HR0.out | (with_reducible refine Kd.C_alloc ?_ _) | (with_reducible refine Kd.C_drewN ?_ _) | (with_reducible refine Kd.C_drew ?_))); (case side2 => exact HC0.out); rintro e w' ⟨rfl, ⟨nd, rfl⟩⟩; (try first | exact ⟨rfl, _, World.drewN_drewN _ _ _⟩ | exact ⟨rfl, _, Eq.trans (World.drewN_drewN _ _ _) (congrArg (World.drewN _) (Nat.add_assoc _ _ _))⟩))))
    go_ret
    exact ⟨by first | rfl | (simp; done) | (simp [*]; done), by repeat (first | exact Drawn0.refl _ | apply Drawn0.step)⟩
def counterfoilref07_Last.l0 : Nat → List (S74) → Int → Int → Int → Option (ByteArray × Bool)
  | 0, _, _, _, _ => none
  | k + 1, x0, x1, x2, x8 => if x8 ≥ 0 then (if 0 ≤ x8 then (if x8 < (x0.length : Int) then (if ((rd_T74 x0 x8).f0) = x1 then (if ((rd_T74 x0 x8).f1) = x2 then (some ((rd_T74 x0 x8).f2, true)) else (counterfoilref07_Last.l0 k x0 x1 x2 (wrap64 (x8 - 1)))) else (counterfoilref07_Last.l0 k x0 x1 x2 (wrap64 (x8 - 1)))) else (none)) else (none)) else (some ((⟨#[]⟩ : ByteArray), false))
def counterfoilref07_Last.f (k : Nat) (l0 : List (S74)) (a1 : Int) (a2 : Int) : Option (ByteArray × Bool) := counterfoilref07_Last.l0 k l0 a1 a2 (wrap64 ((l0.length : Int) - 1))
set_option maxHeartbeats 8000000 in
set_option maxRecDepth 100000 in
theorem counterfoilref07_Last.calls (k : Nat) (A0 : Option Addr) (c0 : Nat) (l0 : List (S74)) (a1 : Int) (a2 : Int) (r1 : ByteArray) (r2 : Bool) (w : World) (hr0 : Kd.C k74 w A0 l0.length l0) (hc0 : l0.length ≤ c0) (h : counterfoilref07_Last.f k l0 a1 a2 = some (r1, r2)) :
    Calls Try.prog 108 #[.slice A0 l0.length c0, .int .i64 a1, .int .i64 a2] w fun e w' => e = .returned (.tuple #[.string r1, .bool r2]) ∧ Drawn0 w w' := by
  have HR0 := Aside0.mk hr0
  have HC0 := Aside0.mk hc0
  clear hr0 hc0
  have H : (counterfoilref07_Last.l0 k l0 a1 a2 (wrap64 ((l0.length : Int) - 1))) = some (r1, r2) := h
  clear h
  have H' := Aside0.mk H
  clear H
  go_enter Try.func108, Try.ntmps108
  go_wp2
  go_loopg [8] k (fun kq v8 w' => ∃ (x8_1 : Int), v8 = .int .i64 x8_1 ∧ Aside0 (counterfoilref07_Last.l0 kq l0 a1 a2 x8_1 = some (r1, r2)) ∧ Aside0 (kq ≤ k) ∧ Drawn0 w w')
  case atStart => exact ⟨(wrap64 ((l0.length : Int) - 1)), (by first | rfl | (simp; done) | (simp [*]; done)), H', ⟨Nat.le_refl _⟩, by repeat (first | exact Drawn0.refl _ | apply Drawn0.step)⟩
  case round =>
    clear H'
    try clear c1
    try clear p2
    obtain ⟨x8_1, rfl, HA, HK1, ⟨m1, rfl⟩⟩ := hrel
    cases gk with
    | zero => exact absurd HA.out (by simp [counterfoilref07_Last.l0])
    | succ k1 =>
      have H := HA.out
      clear HA
      simp only [counterfoilref07_Last.l0] at H
      by_cases c4 : x8_1 ≥ 0
      · rw [if_pos c4] at H
        have c4b0 : decide (0 ≤ x8_1) = true := decide_eq_true c4
        clear c4
        by_cases c5 : 0 ≤ x8_1
        · rw [if_pos c5] at H
          have c5b0 : decide (0 ≤ x8_1) = true := decide_eq_true c5
          clear c5
          by_cases c6 : x8_1 < (l0.length : Int)
          · rw [if_pos c6] at H
            have c6b0 : decide (x8_1 < (l0.length : Int)) = true := decide_eq_true c6
            clear c6
            by_cases c7 : ((rd_T74 l0 x8_1).f0) = a1
            · rw [if_pos c7] at H
              have c7b0 : (((rd_T74 l0 x8_1).f0) == a1) = true := beq_iff_eq.mpr c7
              have c7b1 : (((rd_T74 l0 x8_1).f0) != a1) = false := bne_eq_false_iff_eq.mpr c7
              clear c7
              by_cases c8 : ((rd_T74 l0 x8_1).f1) = a2
              · rw [if_pos c8] at H
                have c8b0 : (((rd_T74 l0 x8_1).f1) == a2) = true := beq_iff_eq.mpr c8
                have c8b1 : (((rd_T74 l0 x8_1).f1) != a2) = false := bne_eq_false_iff_eq.mpr c8
                clear c8
                simp only [Option.some.injEq, Prod.mk.injEq] at H
                obtain ⟨rfl, rfl⟩ := H
                have p421 : 0 ≤ (x8_1 : Int) := of_decide_eq_true (by first | (with_reducible assumption) | assumption)
                have q421 : x8_1 < (l0.length : Int) := of_decide_eq_true (by first | (with_reducible assumption) | assumption)
                obtain ⟨ad421, e421, hx421_0, hx421_1, hx421_2⟩ := at_T74 HR0.out x8_1 p421 q421
                cases e421
                replace p421 := eq_true p421
                replace q421 := eq_true q421
                have p422 : 0 ≤ (x8_1 : Int) := of_decide_eq_true (by first | (with_reducible assumption) | assumption)
                have q422 : x8_1 < (l0.length : Int) := of_decide_eq_true (by first | (with_reducible assumption) | assumption)
                obtain ⟨ad422, e422, hx422_0, hx422_1, hx422_2⟩ := at_T74 HR0.out x8_1 p422 q422
                obtain rfl : ad421 = ad422 := (by injection e422)
                replace p422 := eq_true p422
                replace q422 := eq_true q422
                have p423 : 0 ≤ (x8_1 : Int) := of_decide_eq_true (by first | (with_reducible assumption) | assumption)
                have q423 : x8_1 < (l0.length : Int) := of_decide_eq_true (by first | (with_reducible assumption) | assumption)
                obtain ⟨ad423, e423, hx423_0, hx423_1, hx423_2⟩ := at_T74 HR0.out x8_1 p423 q423
                obtain rfl : ad421 = ad423 := (by injection e423)
                replace p423 := eq_true p423
                replace q423 := eq_true q423
                go_wp2
                go_ret2
                exact ⟨by first | rfl | (simp; done) | (simp [*]; done), by repeat (first | exact Drawn0.refl _ | apply Drawn0.step)⟩
              · rw [if_neg c8] at H
                have c8b0 : (((rd_T74 l0 x8_1).f1) == a2) = false := beq_eq_false_iff_ne.mpr c8
                have c8b1 : (((rd_T74 l0 x8_1).f1) != a2) = true := bne_iff_ne.mpr c8
                have H' := Aside0.mk H
                clear H
                have p421 : 0 ≤ (x8_1 : Int) := of_decide_eq_true (by first | (with_reducible assumption) | assumption)
                have q421 : x8_1 < (l0.length : Int) := of_decide_eq_true (by first | (with_reducible assumption) | assumption)
                obtain ⟨ad421, e421, hx421_0, hx421_1, hx421_2⟩ := at_T74 HR0.out x8_1 p421 q421
                cases e421
                replace p421 := eq_true p421
                replace q421 := eq_true q421
                have p422 : 0 ≤ (x8_1 : Int) := of_decide_eq_true (by first | (with_reducible assumption) | assumption)
                have q422 : x8_1 < (l0.length : Int) := of_decide_eq_true (by first | (with_reducible assumption) | assumption)
                obtain ⟨ad422, e422, hx422_0, hx422_1, hx422_2⟩ := at_T74 HR0.out x8_1 p422 q422
                obtain rfl : ad421 = ad422 := (by injection e422)
                replace p422 := eq_true p422
                replace q422 := eq_true q422
                go_wp2
                go_roundg k1
                case measure => have := HK1.out; omega
                case rel => exact ⟨(wrap64 (x8_1 - 1)), (by first | rfl | (simp; done) | (simp [*]; done)), H', ⟨by have := HK1.out; omega⟩, by repeat (first | exact Drawn0.refl _ | apply Drawn0.step)⟩
            · rw [if_neg c7] at H
              have c7b0 : (((rd_T74 l0 x8_1).f0) == a1) = false := beq_eq_false_iff_ne.mpr c7
              have c7b1 : (((rd_T74 l0 x8_1).f0) != a1) = true := bne_iff_ne.mpr c7
              have H' := Aside0.mk H
              clear H
              have p421 : 0 ≤ (x8_1 : Int) := of_decide_eq_true (by first | (with_reducible assumption) | assumption)
              have q421 : x8_1 < (l0.length : Int) := of_decide_eq_true (by first | (with_reducible assumption) | assumption)
              obtain ⟨ad421, e421, hx421_0, hx421_1, hx421_2⟩ := at_T74 HR0.out x8_1 p421 q421
              cases e421
              replace p421 := eq_true p421
              replace q421 := eq_true q421
              go_wp2
              go_roundg k1
              case measure => have := HK1.out; omega
              case rel => exact ⟨(wrap64 (x8_1 - 1)), (by first | rfl | (simp; done) | (simp [*]; done)), H', ⟨by have := HK1.out; omega⟩, by repeat (first | exact Drawn0.refl _ | apply Drawn0.step)⟩
          · rw [if_neg c6] at H
            exact absurd H (by simp)
        · rw [if_neg c5] at H
          exact absurd H (by simp)
      · rw [if_neg c4] at H
        have c4b0 : decide (0 ≤ x8_1) = false := decide_eq_false c4
        clear c4
        simp only [Option.some.injEq, Prod.mk.injEq] at H
        obtain ⟨rfl, rfl⟩ := H
        go_wp2
        go_ret2
        exact ⟨by first | rfl | (simp; done) | (simp [*]; done), by repeat (first | exact Drawn0.refl _ | apply Drawn0.step)⟩
mutual
def counterfoilref07_Apply.l0 : Nat → List (S49) → List (S74) → List (S49) → Int → Option ((List (S49)) × Int)
  | 0, _, _, _, _ => none
  | k + 1, x0, x1, x7, x8 => if x8 < (x0.length : Int) then (if 0 ≤ x8 then (counterfoilref07_Apply.l1 k x0 x1 x7 x8 0 ((rd_T49 x0 x8).f0) ([] : List ByteArray)) else (none)) else (some (x7, 0))
def counterfoilref07_Apply.l1 : Nat → List (S49) → List (S74) → List (S49) → Int → Int → Int → List ByteArray → Option ((List (S49)) × Int)
  | 0, _, _, _, _, _, _, _ => none
  | k + 1, x0, x1, x7, x8, x10, x427000, x427001 => if 0 ≤ x8 then (if x8 < (x0.length : Int) then (if x10 < (((rd_T49 x0 x8).f1).length : Int) then ((counterfoilref07_Last.f k x1 x427000 x10).bind fun bt428 => (if bt428.2 = true then (if x427001.length < 8796093022208 then (counterfoilref07_Apply.l1 k x0 x1 x7 x8 (wrap64 (x10 + 1)) x427000 (x427001 ++ [bt428.1])) else (none)) else (if 0 ≤ x10 then (if x427001.length < 8796093022208 then (counterfoilref07_Apply.l1 k x0 x1 x7 x8 (wrap64 (x10 + 1)) x427000 (x427001 ++ [rdOf ByteArray.empty ((rd_T49 x0 x8).f1) x10])) else (none)) else (none)))) else (if x7.length < 4398046511104 then (counterfoilref07_Apply.l0 k x0 x1 (x7 ++ [(⟨x427000, x427001⟩ : S49)]) (wrap64 (x8 + 1))) else (none))) else (none)) else (none)
end
def counterfoilref07_Apply.f (k : Nat) (l0 : List (S49)) (l1 : List (S74)) : Option ((List (S49)) × Int) := (counterfoilref07_Check.f k l0 l1).bind fun t424 => (if t424 = 0 then (counterfoilref07_Apply.l0 k l0 l1 ([] : List (S49)) 0) else (some (([] : List (S49)), t424)))
set_option maxHeartbeats 8000000 in
set_option maxRecDepth 100000 in
theorem counterfoilref07_Apply.calls (k : Nat) (A0 : Option Addr) (c0 : Nat) (l0 : List (S49)) (A1 : Option Addr) (c1 : Nat) (l1 : List (S74)) (r1 : List (S49)) (r2 : Int) (w : World) (hr0 : Kd.C k49 w A0 l0.length l0) (hc0 : l0.length ≤ c0) (hr1 : Kd.C k74 w A1 l1.length l1) (hc1 : l1.length ≤ c1) (h : counterfoilref07_Apply.f k l0 l1 = some (r1, r2)) :
    Calls Try.prog 58 #[.slice A0 l0.length c0, .slice A1 l1.length c1] w fun e w' => ∃ v0_ : Value, e = .returned (.tuple #[v0_, .int .i64 r2]) ∧ Kd.S k49 49 w' w.heap.size (fun _ => True) v0_ r1 ∧ Below w.heap.size w w' := by
  have hu49 := Try.underlying49
  have HR0 := Aside0.mk hr0
  have HC0 := Aside0.mk hc0
  clear hr0 hc0
  have HR1 := Aside0.mk hr1
  have HC1 := Aside0.mk hc1
  clear hr1 hc1
  have HB := Aside0.mk (Below.refl w.heap.size w)
  have H : ((counterfoilref07_Check.f k l0 l1).bind fun t424 => (if t424 = 0 then (counterfoilref07_Apply.l0 k l0 l1 ([] : List (S49)) 0) else (some (([] : List (S49)), t424)))) = some (r1, r2) := h
  clear h
  replace H := Option.bind_eq_some_iff.mp H
  obtain ⟨t424, A30, H⟩ := H
  replace H : (if t424 = 0 then (counterfoilref07_Apply.l0 k l0 l1 ([] : List (S49)) 0) else (some (([] : List (S49)), t424))) = some (r1, r2) := H
  have A3 := Aside0.mk A30
  clear A30
  by_cases c4 : t424 = 0
  · rw [if_pos c4] at H
    have c4b0 : (t424 == 0) = true := beq_iff_eq.mpr c4
    have c4b1 : (t424 != 0) = false := bne_eq_false_iff_eq.mpr c4
    clear c4
    have H' := Aside0.mk H
    clear H
    go_enter Try.func58, Try.ntmps58
    go_wp2_with (first | ((with_reducible refine gate_callee (f := 107) rfl ?_); refine goesL_ (some 15) rfl rfl Try.func107 (by kernel_rfl) rfl #[.slice A0 l0.length c0, .slice A1 l1.length c1] rfl (by (try simp only [List.map_toArray, List.map_cons, List.map_nil]); first | done | rfl | (simp only [List.length_drop, List.length_take]; rfl)) ?_; (with_reducible refine (counterfoilref07_Check.calls k _ _ l0 _ _ l1 t424 _ ?side1 ?side2 ?side3 ?side4 A3.out).mono ?_); (case side1 => repeat (first | exact HR0.out | (with_reducible refine Kd.C_alloc ?_ _) | (with_reducible refine Kd.C_drewN ?_ _) | (with_reducible refine Kd.C_drew ?_))); (case side2 => exact HC0.out); (case side3 => repeat (first | exact HR1.out | (with_reducible refine Kd.C_alloc ?_ _) | (with_reducible refine Kd.C_drewN ?_ _) | (with_reducible refine Kd.C_drew ?_))); (case side4 => exact HC1.out); rintro e w' ⟨rfl, ⟨nd, rfl⟩⟩; refine ⟨_, rfl, ?_⟩))
    go_loopg [7, 8] k (fun kq v7 v8 w' => ∃ (x7_1 : List (S49)) (x8_1 : Int), v8 = .int .i64 x8_1 ∧ Aside0 (counterfoilref07_Apply.l0 kq l0 l1 x7_1 x8_1 = some (r1, r2)) ∧ Aside0 (kq ≤ k) ∧ Aside0 (Kd.S k49 49 w' w.heap.size (fun _ => True) v7 x7_1) ∧ Aside0 (Below w.heap.size w w'))
    case atStart => exact ⟨(([] : List (S49))), (0), (by first | rfl | (simp; done) | (simp [*]; done)), H', ⟨Nat.le_refl _⟩, ⟨by first | exact Kd.S_nil _ _ _ _ _ | exact Kd.N_nil _ _ _ _ _ | exact Kd.V_nil _ _ _ _ _ | exact Kd.Q_nil _ _ _ _ _ | exact Kd.R_nil _ _ _ _ _⟩, ⟨by repeat (first | (with_reducible first | exact HB.out | apply below_alloc | apply pw_below_drewN | apply below_drew1) | exact HB.out)⟩⟩
    case round =>
      clear H'
      try clear c1
      try clear p2
      try clear c4
      try clear c4b0
      try clear c4b1
      obtain ⟨x7_1, x8_1, rfl, HA, HK1, HO_7, HB⟩ := hrel
      cases gk with
      | zero => exact absurd HA.out (by simp [counterfoilref07_Apply.l0])
      | succ k1 =>
        have H := HA.out
        clear HA
        simp only [counterfoilref07_Apply.l0] at H
        by_cases c5 : x8_1 < (l0.length : Int)
        · rw [if_pos c5] at H
          have c5b0 : decide (x8_1 < (l0.length : Int)) = true := decide_eq_true c5
          clear c5
          by_cases c6 : 0 ≤ x8_1
          · rw [if_pos c6] at H
            have c6b0 : decide (0 ≤ x8_1) = true := decide_eq_true c6
            clear c6
            have H' := Aside0.mk H
            clear H
            have p425 : 0 ≤ (x8_1 : Int) := of_decide_eq_true (by first | (with_reducible assumption) | assumption)
            have q425 : x8_1 < (l0.length : Int) := of_decide_eq_true (by first | (with_reducible assumption) | assumption)
            obtain ⟨ad425, A425_1, c425_1, e425, hx425_0, hx425_1, hl425_1, hi425_1⟩ := at_T49 HR0.out x8_1 p425 q425
            cases e425
            replace hx425_0 := (HB.out.cell (World.block_lt_of_cell? w _ hx425_0)).trans hx425_0
            replace hx425_1 := (HB.out.cell (World.block_lt_of_cell? w _ hx425_1)).trans hx425_1
            have HR425_1 := Aside0.mk hi425_1
            have HC425_1 := Aside0.mk hl425_1
            clear hi425_1 hl425_1
            replace p425 := eq_true p425
            replace q425 := eq_true q425
            go_wp2_with (first | ((with_reducible refine gate_dst (N := 9) rfl ?_); refine box_event ?hg (N := 9) ?hd (cs := #[.int .i64 0, .slice none 0 0]) (t := 49) ?hr ?_; (case hd => rfl); (case hg => rfl); (case hr => first | (go_simp; done) | (go_simp; rfl)); intro gb426 hg w7 hbox hb; have n0_ := Aside0.mk (Kd.S_below (Kd.S_elderB (by (with_reducible repeat (first | apply Kd.S_alloc | apply Kd.S_drewN | apply Kd.S_drew)); exact HO_7.out) gb426 (Nat.le_of_eq hg.symm)) hb); have n1_ := Aside0.mk (below_step (by repeat (first | (with_reducible first | exact HB.out | apply below_alloc | apply pw_below_drewN | apply below_drew1) | exact HB.out)) hb); have n2_ := Aside0.mk (hbox); have n3_ := Aside0.mk ((by rw [hg]; exact (below_size (by repeat (first | (with_reducible first | exact HB.out | apply below_alloc | apply pw_below_drewN | apply below_drew1) | exact HB.out))) : w.heap.size ≤ gb426)); have n4_ := Aside0.mk ((by rw [hg]; exact (below_size (by repeat (first | (with_reducible first | exact HB.out | apply below_alloc | apply pw_below_drewN | apply below_drew1) | exact HB.out))) : w.heap.size ≤ gb426)); clear HO_7; clear HB; have HO_7 := n0_; have HB := n1_; have BK426 := n2_; have GW426 := n3_; have GE426 := n4_; clear n0_ n1_ n2_ n3_ n4_; clear hb hbox hg; have hcz8_0 : w7.cell? ⟨gb426, 0, none⟩ = some (.int .i64 0) := (blk_cell BK426.out 0).trans rfl; have hcz8_1 : w7.cell? ⟨gb426, 1, none⟩ = some (.slice none 0 0) := (blk_cell BK426.out 1).trans rfl; have hfz8_0 := blk_frozen BK426.out 0; have hfz8_1 := blk_frozen BK426.out 1))
            go_loopg [10] k1 (fun kq v10 w' => ∃ (x10_2 : Int) (x427001_2 : List ByteArray) (u427001 : Value), v10 = .int .i64 x10_2 ∧ Aside0 (counterfoilref07_Apply.l1 kq l0 l1 x7_1 x8_1 x10_2 ((rd_T49 l0 x8_1).f0) x427001_2 = some (r1, r2)) ∧ Aside0 (kq ≤ k1) ∧ Aside0 (Kd.S k49 49 w' w.heap.size (fun k_ => some k_ ≠ (u427001 : Value).ownBlock ∧ k_ ≠ gb426) u7 x7_1) ∧ Aside0 (Kd.R Kd.string 9 w' w.heap.size (fun _ => True) u427001 x427001_2) ∧ Aside0 (w'.heap[gb426]? = some (.cells #[.int .i64 ((rd_T49 l0 x8_1).f0), u427001] 49 (0, 0))) ∧ Aside0 (Below w.heap.size w w'))
            case atStart => exact ⟨(0), (([] : List ByteArray)), (.slice none 0 0), (by first | rfl | (simp; done) | (simp [*]; done)), H', ⟨Nat.le_refl _⟩, ⟨by (with_reducible repeat (first | apply Kd.S_alloc | apply Kd.S_drewN | apply Kd.S_drew)); exact Kd.S_mono (Kd.S_far (p := ⟨gb426, 1, none⟩) (Kd.S_far (p := ⟨gb426, 0, none⟩) (Kd.S_mono HO_7.out (fun k_ hk => (⟨hk, hk.2⟩ : _ ∧ k_ ≠ gb426))) (fun _ hk => hk.2) (.int .i64 ((rd_T49 l0 x8_1).f0))) (fun _ hk => hk.2) (.slice none 0 0)) (fun _ hk => ⟨(by simp [Value.ownBlock]), hk.1.2⟩)⟩, ⟨by first | exact Kd.R_nil _ _ _ _ _ | exact Kd.N_nil _ _ _ _ _ | exact Kd.V_nil _ _ _ _ _ | exact Kd.Q_nil _ _ _ _ _ | exact Kd.S_nil _ _ _ _ _⟩, ⟨by (with_reducible repeat (first | refine blk_drewN ?_ _ | refine blk_drew ?_ | refine blk_alloc ?_ _)); refine blk_put (cs := #[.int .i64 ((rd_T49 l0 x8_1).f0), .slice none 0 0]) ?_ 1 _ rfl; (with_reducible repeat (first | refine blk_drewN ?_ _ | refine blk_drew ?_ | refine blk_alloc ?_ _)); refine blk_put (cs := #[.int .i64 0, .slice none 0 0]) ?_ 0 _ rfl; (with_reducible repeat (first | refine blk_drewN ?_ _ | refine blk_drew ?_ | refine blk_alloc ?_ _)); exact BK426.out⟩, ⟨by repeat (first | (with_reducible first | exact HB.out | apply below_alloc | apply pw_below_drewN | apply below_drew1 | refine below_set ?_ GE426.out) | exact HB.out)⟩⟩
            case round =>
              clear H'
              try clear c1
              try clear p2
              try clear c4
              try clear c4b0
              try clear c4b1
              try clear p4
              try clear q4
              try clear hx4
              try clear c5
              try clear c5b0
              try clear c6
              try clear c6b0
              try clear hcz8_0
              try clear hcz8_1
              try clear hfz8_0
              try clear hfz8_1
              try clear hx425_0
              try clear hx425_1
              try clear p2
              try clear p425
              try clear q425
              obtain ⟨x10_2, x427001_2, u427001, rfl, HA, HK2, HO_7, HO_427001, BK426, HB⟩ := hrel
              cases gk with
              | zero => exact absurd HA.out (by simp [counterfoilref07_Apply.l1])
              | succ k2 =>
                have H := HA.out
                clear HA
                simp only [counterfoilref07_Apply.l1] at H
                by_cases c9 : 0 ≤ x8_1
                · rw [if_pos c9] at H
                  have c9b0 : decide (0 ≤ x8_1) = true := decide_eq_true c9
                  clear c9
                  by_cases c10 : x8_1 < (l0.length : Int)
                  · rw [if_pos c10] at H
                    have c10b0 : decide (x8_1 < (l0.length : Int)) = true := decide_eq_true c10
                    clear c10
                    by_cases c11 : x10_2 < (((rd_T49 l0 x8_1).f1).length : Int)
                    · rw [if_pos c11] at H
                      have c11b0 : decide (x10_2 < (((rd_T49 l0 x8_1).f1).length : Int)) = true := decide_eq_true c11
                      clear c11
                      replace H := Option.bind_eq_some_iff.mp H
                      obtain ⟨⟨t428, t429⟩, A120, H⟩ := H
                      replace H : (if t429 = true then (if x427001_2.length < 8796093022208 then (counterfoilref07_Apply.l1 k2 l0 l1 x7_1 x8_1 (wrap64 (x10_2 + 1)) ((rd_T49 l0 x8_1).f0) (x427001_2 ++ [t428])) else (none)) else (if 0 ≤ x10_2 then (if x427001_2.length < 8796093022208 then (counterfoilref07_Apply.l1 k2 l0 l1 x7_1 x8_1 (wrap64 (x10_2 + 1)) ((rd_T49 l0 x8_1).f0) (x427001_2 ++ [rdOf ByteArray.empty ((rd_T49 l0 x8_1).f1) x10_2])) else (none)) else (none))) = some (r1, r2) := H
                      have A12 := Aside0.mk A120
                      clear A120
                      by_cases c13 : t429 = true
                      · subst c13
                        have H1 : (if x427001_2.length < 8796093022208 then (counterfoilref07_Apply.l1 k2 l0 l1 x7_1 x8_1 (wrap64 (x10_2 + 1)) ((rd_T49 l0 x8_1).f0) (x427001_2 ++ [t428])) else (none)) = some (r1, r2) := by rw [if_pos rfl] at H; exact H
                        clear H
                        have H := H1
                        clear H1
                        by_cases c14 : x427001_2.length < 8796093022208
                        · rw [if_pos c14] at H
                          have LMc14 := Aside0.mk c14
                          clear c14
                          obtain ⟨y430, hy430⟩ : ∃ y_ : List ByteArray, y_ = (x427001_2 ++ [t428]) := ⟨_, rfl⟩
                          replace H : (counterfoilref07_Apply.l1 k2 l0 l1 x7_1 x8_1 (wrap64 (x10_2 + 1)) ((rd_T49 l0 x8_1).f0) y430) = some (r1, r2) := by first | (rw [hy430]; with_reducible exact H) | (have H2_ := (Option.bind_some _ _).symm.trans H; rw [hy430]; with_reducible exact H2_) | (have H2_ := (Option.bind_some _ _).symm.trans H; with_reducible exact H2_) | with_reducible exact H | (rw [hy430]; exact H) | exact H
                          have Ny430 := Aside0.mk hy430
                          clear hy430
                          have H' := Aside0.mk H
                          clear H
                          have p427 : 0 ≤ (x8_1 : Int) := of_decide_eq_true (by first | (with_reducible assumption) | assumption)
                          have q427 : x8_1 < (l0.length : Int) := of_decide_eq_true (by first | (with_reducible assumption) | assumption)
                          obtain ⟨ad427, A427_1, c427_1, e427, hx427_0, hx427_1, hl427_1, hi427_1⟩ := at_T49 HR0.out x8_1 p427 q427
                          obtain rfl : ad425 = ad427 := (by injection e427)
                          replace hx427_0 := (HB.out.cell (World.block_lt_of_cell? w _ hx427_0)).trans hx427_0
                          replace hx427_1 := (HB.out.cell (World.block_lt_of_cell? w _ hx427_1)).trans hx427_1
                          have HR427_1 := Aside0.mk hi427_1
                          have HC427_1 := Aside0.mk hl427_1
                          clear hi427_1 hl427_1
                          replace p427 := eq_true p427
                          replace q427 := eq_true q427
                          have hcz15_0 : wr.cell? ⟨gb426, 0, none⟩ = some (.int .i64 ((rd_T49 l0 x8_1).f0)) := (blk_cell BK426.out 0).trans rfl
                          have hcz15_1 : wr.cell? ⟨gb426, 1, none⟩ = some (u427001) := (blk_cell BK426.out 1).trans rfl
                          have hfz15_0 := blk_frozen BK426.out 0
                          have hfz15_1 := blk_frozen BK426.out 1
                          go_wp2_with (first | ((with_reducible refine gate_callee (f := 108) rfl ?_); refine goesL_ (some 46) rfl rfl Try.func108 (by kernel_rfl) rfl #[.slice A1 l1.length c1, .int .i64 ((rd_T49 l0 x8_1).f0), .int .i64 x10_2] rfl (by (try simp only [List.map_toArray, List.map_cons, List.map_nil]); first | done | rfl | (simp only [List.length_drop, List.length_take]; rfl)) ?_; (with_reducible refine (counterfoilref07_Last.calls k2 _ _ l1 ((rd_T49 l0 x8_1).f0) x10_2 t428 true _ ?side1 ?side2 A12.out).mono ?_); (case side1 => repeat (first | exact (Kd.C_below HR1.out HB.out) | (with_reducible refine Kd.C_alloc ?_ _) | (with_reducible refine Kd.C_drewN ?_ _) | (with_reducible refine Kd.C_drew ?_))); (case side2 => exact HC1.out); rintro e w' ⟨rfl, ⟨nd, rfl⟩⟩; refine ⟨_, rfl, ?_⟩; skip) | ((with_reducible refine gate_builtin (b := .append) (xs := #[.tmp 60, .tmp 62]) rfl ?_); at_builtin; refine Kd.R_append Kd.string (w0 := w) w.heap.size rfl (.tmp 60) (.tmp 62) 47 9 (.string ⟨#[]⟩) 16 rfl Try.underlying47 info9 rfl (by decide) (by omega) u427001 x427001_2 t428 [.string t428] (fun _ => True) (fun _ => False) rfl rfl ?aP (fun _ hk => hk.elim) ?aF ?aO ?aB ?aS ?aL ?_; (case aP => exact rfl); (case aB => exact (by repeat (first | (with_reducible first | exact HB.out | apply below_alloc | apply pw_below_drewN | apply below_drew1 | refine below_set ?_ GE426.out) | exact HB.out))); (case aF => exact (fun _ _ => trivial)); (case aO => exact (by (with_reducible repeat (first | apply Kd.R_alloc | apply Kd.R_drewN | apply Kd.R_drew)); exact HO_427001.out)); (case aS => exact (below_size (by repeat (first | (with_reducible first | exact HB.out | apply below_alloc | apply pw_below_drewN | apply below_drew1 | refine below_set ?_ GE426.out) | exact HB.out)))); (case aL => have := LMc14.out; omega); intro v431 w16 ho hb hg hat; rw [← Ny430.out] at ho; have n0_ := Aside0.mk (Kd.S_after (ok := (fun k_ => k_ ≠ gb426)) (by (with_reducible repeat (first | apply Kd.S_alloc | apply Kd.S_drewN | apply Kd.S_drew)); exact Kd.S_mono HO_7.out (fun _ hk => ⟨hk.2, hk.1⟩)) hg hat); have n1_ := Aside0.mk (blk_grown (g := gb426) (o := .cells #[.int .i64 ((rd_T49 l0 x8_1).f0), u427001] 49 (0, 0)) (by (with_reducible repeat (first | refine blk_drewN ?_ _ | refine blk_drew ?_ | refine blk_alloc ?_ _)); exact BK426.out) hg (Kd.R_ne HO_427001.out BK426.out (by decide))); have n2_ := Aside0.mk (hb); have n3_ := Aside0.mk (ho); clear HO_7; clear BK426; clear HB; clear HO_427001; have HO_7 := n0_; have BK426 := n1_; have HB := n2_; have HO432 := n3_; clear n0_ n1_ n2_ n3_; clear ho hb hg hat; obtain ⟨Ao17, co17, eo17⟩ := Kd.R_slice HO432.out; subst eo17; have hcz18_0 : w16.cell? ⟨gb426, 0, none⟩ = some (.int .i64 ((rd_T49 l0 x8_1).f0)) := (blk_cell BK426.out 0).trans rfl; have hcz18_1 : w16.cell? ⟨gb426, 1, none⟩ = some (u427001) := (blk_cell BK426.out 1).trans rfl; have hfz18_0 := blk_frozen BK426.out 0; have hfz18_1 := blk_frozen BK426.out 1))
                          go_roundg k2
                          case measure => have := HK1.out; have := HK2.out; omega
                          case rel => exact ⟨(wrap64 (x10_2 + 1)), (y430), (.slice Ao17 y430.length co17), (by first | rfl | (simp; done) | (simp [*]; done)), H', ⟨by have := HK1.out; have := HK2.out; omega⟩, ⟨by (with_reducible repeat (first | apply Kd.S_alloc | apply Kd.S_drewN | apply Kd.S_drew)); exact Kd.S_mono (Kd.S_far (p := ⟨gb426, 1, none⟩) (Kd.S_mono HO_7.out (fun k_ hk => (⟨hk, hk.1⟩ : _ ∧ k_ ≠ gb426))) (fun _ hk => hk.2) (.slice Ao17 y430.length co17)) (fun _ hk => ⟨hk.1.2, hk.1.1⟩)⟩, ⟨by (with_reducible repeat (first | apply Kd.R_alloc | apply Kd.R_drewN | apply Kd.R_drew)); exact Kd.R_mono (Kd.R_far (p := ⟨gb426, 1, none⟩) (Kd.R_types HO432.out BK426.out (by decide)) (fun _ hk => hk.2) (.slice Ao17 y430.length co17)) (fun _ hk => trivial)⟩, ⟨by (with_reducible repeat (first | refine blk_drewN ?_ _ | refine blk_drew ?_ | refine blk_alloc ?_ _)); refine blk_put (cs := #[.int .i64 ((rd_T49 l0 x8_1).f0), u427001]) ?_ 1 _ rfl; (with_reducible repeat (first | refine blk_drewN ?_ _ | refine blk_drew ?_ | refine blk_alloc ?_ _)); exact BK426.out⟩, ⟨by repeat (first | (with_reducible first | exact HB.out | apply below_alloc | apply pw_below_drewN | apply below_drew1 | refine below_set ?_ GE426.out) | exact HB.out)⟩⟩
                        · rw [if_neg c14] at H
                          exact absurd H (by simp)
                      · replace c13 := Bool.eq_false_iff.mpr c13
                        subst c13
                        have H1 : (if 0 ≤ x10_2 then (if x427001_2.length < 8796093022208 then (counterfoilref07_Apply.l1 k2 l0 l1 x7_1 x8_1 (wrap64 (x10_2 + 1)) ((rd_T49 l0 x8_1).f0) (x427001_2 ++ [rdOf ByteArray.empty ((rd_T49 l0 x8_1).f1) x10_2])) else (none)) else (none)) = some (r1, r2) := by rw [if_neg (show ¬ (false = true) by decide)] at H; exact H
                        clear H
                        have H := H1
                        clear H1
                        by_cases c19 : 0 ≤ x10_2
                        · rw [if_pos c19] at H
                          have c19b0 : decide (0 ≤ x10_2) = true := decide_eq_true c19
                          clear c19
                          by_cases c20 : x427001_2.length < 8796093022208
                          · rw [if_pos c20] at H
                            have LMc20 := Aside0.mk c20
                            clear c20
                            obtain ⟨y435, hy435⟩ : ∃ y_ : List ByteArray, y_ = (x427001_2 ++ [rdOf ByteArray.empty ((rd_T49 l0 x8_1).f1) x10_2]) := ⟨_, rfl⟩
                            replace H : (counterfoilref07_Apply.l1 k2 l0 l1 x7_1 x8_1 (wrap64 (x10_2 + 1)) ((rd_T49 l0 x8_1).f0) y435) = some (r1, r2) := by first | (rw [hy435]; with_reducible exact H) | (have H2_ := (Option.bind_some _ _).symm.trans H; rw [hy435]; with_reducible exact H2_) | (have H2_ := (Option.bind_some _ _).symm.trans H; with_reducible exact H2_) | with_reducible exact H | (rw [hy435]; exact H) | exact H
                            have Ny435 := Aside0.mk hy435
                            clear hy435
                            have H' := Aside0.mk H
                            clear H
                            have p427 : 0 ≤ (x8_1 : Int) := of_decide_eq_true (by first | (with_reducible assumption) | assumption)
                            have q427 : x8_1 < (l0.length : Int) := of_decide_eq_true (by first | (with_reducible assumption) | assumption)
                            obtain ⟨ad427, A427_1, c427_1, e427, hx427_0, hx427_1, hl427_1, hi427_1⟩ := at_T49 HR0.out x8_1 p427 q427
                            obtain rfl : ad425 = ad427 := (by injection e427)
                            replace hx427_0 := (HB.out.cell (World.block_lt_of_cell? w _ hx427_0)).trans hx427_0
                            replace hx427_1 := (HB.out.cell (World.block_lt_of_cell? w _ hx427_1)).trans hx427_1
                            have HR427_1 := Aside0.mk hi427_1
                            have HC427_1 := Aside0.mk hl427_1
                            clear hi427_1 hl427_1
                            replace p427 := eq_true p427
                            replace q427 := eq_true q427
                            have hcz21_0 : wr.cell? ⟨gb426, 0, none⟩ = some (.int .i64 ((rd_T49 l0 x8_1).f0)) := (blk_cell BK426.out 0).trans rfl
                            have hcz21_1 : wr.cell? ⟨gb426, 1, none⟩ = some (u427001) := (blk_cell BK426.out 1).trans rfl
                            have hfz21_0 := blk_frozen BK426.out 0
                            have hfz21_1 := blk_frozen BK426.out 1
                            go_wp2_with (first | ((with_reducible refine gate_callee (f := 108) rfl ?_); refine goesL_ (some 46) rfl rfl Try.func108 (by kernel_rfl) rfl #[.slice A1 l1.length c1, .int .i64 ((rd_T49 l0 x8_1).f0), .int .i64 x10_2] rfl (by (try simp only [List.map_toArray, List.map_cons, List.map_nil]); first | done | rfl | (simp only [List.length_drop, List.length_take]; rfl)) ?_; (with_reducible refine (counterfoilref07_Last.calls k2 _ _ l1 ((rd_T49 l0 x8_1).f0) x10_2 t428 false _ ?side1 ?side2 A12.out).mono ?_); (case side1 => repeat (first | exact (Kd.C_below HR1.out HB.out) | (with_reducible refine Kd.C_alloc ?_ _) | (with_reducible refine Kd.C_drewN ?_ _) | (with_reducible refine Kd.C_drew ?_))); (case side2 => exact HC1.out); rintro e w' ⟨rfl, ⟨nd, rfl⟩⟩; refine ⟨_, rfl, ?_⟩; skip; have p433 : 0 ≤ (x8_1 : Int) := of_decide_eq_true (by first | (with_reducible assumption) | assumption); have q433 : x8_1 < (l0.length : Int) := of_decide_eq_true (by first | (with_reducible assumption) | assumption); obtain ⟨ad433, A433_1, c433_1, e433, hx433_0, hx433_1, hl433_1, hi433_1⟩ := at_T49 HR0.out x8_1 p433 q433; obtain rfl : ad425 = ad433 := (by injection e433); replace hx433_0 := (HB.out.cell (World.block_lt_of_cell? w _ hx433_0)).trans hx433_0; replace hx433_1 := (HB.out.cell (World.block_lt_of_cell? w _ hx433_1)).trans hx433_1; have HR433_1 := Aside0.mk hi433_1; have HC433_1 := Aside0.mk hl433_1; clear hi433_1 hl433_1; replace p433 := eq_true p433; replace q433 := eq_true q433; have ea_ := Option.some.inj (hx427_1.symm.trans hx433_1); injection ea_ with ea_ en_ ec_; subst ea_; subst ec_; clear en_; have p434 : 0 ≤ (x10_2 : Int) := of_decide_eq_true (by first | (with_reducible assumption) | assumption); have q434 : x10_2 < (((rd_T49 l0 x8_1).f1).length : Int) := of_decide_eq_true (by first | (with_reducible assumption) | assumption); obtain ⟨ad434, e434, hx434_0⟩ := Kd.at_string HR433_1.out x10_2 p434 q434; cases e434; replace hx434_0 := (HB.out.cell (World.block_lt_of_cell? w _ hx434_0)).trans hx434_0; replace p434 := eq_true p434; replace q434 := eq_true q434) | ((with_reducible refine gate_builtin (b := .append) (xs := #[.tmp 60, .tmp 62]) rfl ?_); at_builtin; refine Kd.R_append Kd.string (w0 := w) w.heap.size rfl (.tmp 60) (.tmp 62) 47 9 (.string ⟨#[]⟩) 16 rfl Try.underlying47 info9 rfl (by decide) (by omega) u427001 x427001_2 (rdOf ByteArray.empty ((rd_T49 l0 x8_1).f1) x10_2) [.string (rdOf ByteArray.empty ((rd_T49 l0 x8_1).f1) x10_2)] (fun _ => True) (fun _ => False) rfl rfl ?aP (fun _ hk => hk.elim) ?aF ?aO ?aB ?aS ?aL ?_; (case aP => exact rfl); (case aB => exact (by repeat (first | (with_reducible first | exact HB.out | apply below_alloc | apply pw_below_drewN | apply below_drew1 | refine below_set ?_ GE426.out) | exact HB.out))); (case aF => exact (fun _ _ => trivial)); (case aO => exact (by (with_reducible repeat (first | apply Kd.R_alloc | apply Kd.R_drewN | apply Kd.R_drew)); exact HO_427001.out)); (case aS => exact (below_size (by repeat (first | (with_reducible first | exact HB.out | apply below_alloc | apply pw_below_drewN | apply below_drew1 | refine below_set ?_ GE426.out) | exact HB.out)))); (case aL => have := LMc20.out; omega); intro v436 w22 ho hb hg hat; rw [← Ny435.out] at ho; have n0_ := Aside0.mk (Kd.S_after (ok := (fun k_ => k_ ≠ gb426)) (by (with_reducible repeat (first | apply Kd.S_alloc | apply Kd.S_drewN | apply Kd.S_drew)); exact Kd.S_mono HO_7.out (fun _ hk => ⟨hk.2, hk.1⟩)) hg hat); have n1_ := Aside0.mk (blk_grown (g := gb426) (o := .cells #[.int .i64 ((rd_T49 l0 x8_1).f0), u427001] 49 (0, 0)) (by (with_reducible repeat (first | refine blk_drewN ?_ _ | refine blk_drew ?_ | refine blk_alloc ?_ _)); exact BK426.out) hg (Kd.R_ne HO_427001.out BK426.out (by decide))); have n2_ := Aside0.mk (hb); have n3_ := Aside0.mk (ho); clear HO_7; clear BK426; clear HB; clear HO_427001; have HO_7 := n0_; have BK426 := n1_; have HB := n2_; have HO437 := n3_; clear n0_ n1_ n2_ n3_; clear ho hb hg hat; obtain ⟨Ao23, co23, eo23⟩ := Kd.R_slice HO437.out; subst eo23; have hcz24_0 : w22.cell? ⟨gb426, 0, none⟩ = some (.int .i64 ((rd_T49 l0 x8_1).f0)) := (blk_cell BK426.out 0).trans rfl; have hcz24_1 : w22.cell? ⟨gb426, 1, none⟩ = some (u427001) := (blk_cell BK426.out 1).trans rfl; have hfz24_0 := blk_frozen BK426.out 0; have hfz24_1 := blk_frozen BK426.out 1))
                            go_roundg k2
                            case measure => have := HK1.out; have := HK2.out; omega
                            case rel => exact ⟨(wrap64 (x10_2 + 1)), (y435), (.slice Ao23 y435.length co23), (by first | rfl | (simp; done) | (simp [*]; done)), H', ⟨by have := HK1.out; have := HK2.out; omega⟩, ⟨by (with_reducible repeat (first | apply Kd.S_alloc | apply Kd.S_drewN | apply Kd.S_drew)); exact Kd.S_mono (Kd.S_far (p := ⟨gb426, 1, none⟩) (Kd.S_mono HO_7.out (fun k_ hk => (⟨hk, hk.1⟩ : _ ∧ k_ ≠ gb426))) (fun _ hk => hk.2) (.slice Ao23 y435.length co23)) (fun _ hk => ⟨hk.1.2, hk.1.1⟩)⟩, ⟨by (with_reducible repeat (first | apply Kd.R_alloc | apply Kd.R_drewN | apply Kd.R_drew)); exact Kd.R_mono (Kd.R_far (p := ⟨gb426, 1, none⟩) (Kd.R_types HO437.out BK426.out (by decide)) (fun _ hk => hk.2) (.slice Ao23 y435.length co23)) (fun _ hk => trivial)⟩, ⟨by (with_reducible repeat (first | refine blk_drewN ?_ _ | refine blk_drew ?_ | refine blk_alloc ?_ _)); refine blk_put (cs := #[.int .i64 ((rd_T49 l0 x8_1).f0), u427001]) ?_ 1 _ rfl; (with_reducible repeat (first | refine blk_drewN ?_ _ | refine blk_drew ?_ | refine blk_alloc ?_ _)); exact BK426.out⟩, ⟨by repeat (first | (with_reducible first | exact HB.out | apply below_alloc | apply pw_below_drewN | apply below_drew1 | refine below_set ?_ GE426.out) | exact HB.out)⟩⟩
                          · rw [if_neg c20] at H
                            exact absurd H (by simp)
                        · rw [if_neg c19] at H
                          exact absurd H (by simp)
                    · rw [if_neg c11] at H
                      have c11b0 : decide (x10_2 < (((rd_T49 l0 x8_1).f1).length : Int)) = false := decide_eq_false c11
                      clear c11
                      by_cases c25 : x7_1.length < 4398046511104
                      · rw [if_pos c25] at H
                        have LMc25 := Aside0.mk c25
                        clear c25
                        obtain ⟨y438, hy438⟩ : ∃ y_ : List (S49), y_ = (x7_1 ++ [(⟨((rd_T49 l0 x8_1).f0), x427001_2⟩ : S49)]) := ⟨_, rfl⟩
                        replace H : (counterfoilref07_Apply.l0 k2 l0 l1 y438 (wrap64 (x8_1 + 1))) = some (r1, r2) := by first | (rw [hy438]; with_reducible exact H) | (have H2_ := (Option.bind_some _ _).symm.trans H; rw [hy438]; with_reducible exact H2_) | (have H2_ := (Option.bind_some _ _).symm.trans H; with_reducible exact H2_) | with_reducible exact H | (rw [hy438]; exact H) | exact H
                        have Ny438 := Aside0.mk hy438
                        clear hy438
                        have H' := Aside0.mk H
                        clear H
                        have p427 : 0 ≤ (x8_1 : Int) := of_decide_eq_true (by first | (with_reducible assumption) | assumption)
                        have q427 : x8_1 < (l0.length : Int) := of_decide_eq_true (by first | (with_reducible assumption) | assumption)
                        obtain ⟨ad427, A427_1, c427_1, e427, hx427_0, hx427_1, hl427_1, hi427_1⟩ := at_T49 HR0.out x8_1 p427 q427
                        obtain rfl : ad425 = ad427 := (by injection e427)
                        replace hx427_0 := (HB.out.cell (World.block_lt_of_cell? w _ hx427_0)).trans hx427_0
                        replace hx427_1 := (HB.out.cell (World.block_lt_of_cell? w _ hx427_1)).trans hx427_1
                        have HR427_1 := Aside0.mk hi427_1
                        have HC427_1 := Aside0.mk hl427_1
                        clear hi427_1 hl427_1
                        replace p427 := eq_true p427
                        replace q427 := eq_true q427
                        have hcz26_0 : wr.cell? ⟨gb426, 0, none⟩ = some (.int .i64 ((rd_T49 l0 x8_1).f0)) := (blk_cell BK426.out 0).trans rfl
                        have hcz26_1 : wr.cell? ⟨gb426, 1, none⟩ = some (u427001) := (blk_cell BK426.out 1).trans rfl
                        have hfz26_0 := blk_frozen BK426.out 0
                        have hfz26_1 := blk_frozen BK426.out 1
                        obtain ⟨Ao28, co28, eo28⟩ := Kd.R_slice HO_427001.out
                        subst eo28
                        go_wp2_with (first | ((with_reducible refine gate_builtin (b := .append) (xs := #[.tmp 65, .tmp 67]) rfl ?_); at_builtin; refine Kd.S_append k49 (w0 := w) w.heap.size rfl (.tmp 65) (.tmp 67) 37 49 (.agg #[(.int .i64 0), (.slice none 0 0)]) 32 rfl Try.underlying37 info49 rfl (by decide) (by omega) u7 x7_1 (⟨((rd_T49 l0 x8_1).f0), x427001_2⟩ : S49) [.int .i64 ((rd_T49 l0 x8_1).f0), .slice Ao28 x427001_2.length co28] (fun k_ => k_ ≠ gb426) (fun k_ => some k_ = (.slice Ao28 x427001_2.length co28 : Value).ownBlock) rfl rfl ?aP (fun k_ hk_ => ((Kd.R_mono (ok' := fun k_ => ((fun k_ => k_ ≠ gb426)) k_ ∧ some k_ ≠ (u7 : Value).ownBlock) (Kd.R_types (Kd.R_apart' (HO_427001.out) (Kd.S_typed HO_7.out) (by decide)) BK426.out (by decide)) (fun k_ hk => ⟨hk.2, hk.1.2⟩))).1 k_ hk_.symm) ?aF ?aO ?aB ?aS ?aL ?_; (case aP => exact k49_mkM _ _ _ (⟨((rd_T49 l0 x8_1).f0), x427001_2⟩ : S49) (Kd.R_mono (Kd.R_tight rfl (Kd.R_mono (ok' := fun k_ => ((fun k_ => k_ ≠ gb426)) k_ ∧ some k_ ≠ (u7 : Value).ownBlock) (Kd.R_types (Kd.R_apart' (HO_427001.out) (Kd.S_typed HO_7.out) (by decide)) BK426.out (by decide)) (fun k_ hk => ⟨hk.2, hk.1.2⟩))) (fun _ h_ => h_))); (case aB => exact (by repeat (first | (with_reducible first | exact HB.out | apply below_alloc | apply pw_below_drewN | apply below_drew1 | refine below_set ?_ GE426.out) | exact HB.out))); (case aF => exact (fun k_ hk => Kd.freshB (g := gb426) (o := .cells #[.int .i64 ((rd_T49 l0 x8_1).f0), .slice Ao28 x427001_2.length co28] 49 (0, 0)) (by (with_reducible repeat (first | refine blk_drewN ?_ _ | refine blk_drew ?_ | refine blk_alloc ?_ _)); exact BK426.out) k_ hk)); (case aO => exact (by (with_reducible repeat (first | apply Kd.S_alloc | apply Kd.S_drewN | apply Kd.S_drew)); exact Kd.S_mono HO_7.out (fun k_ hk => ⟨hk.2, fun e_ => hk.1 e_⟩))); (case aS => exact (below_size (by repeat (first | (with_reducible first | exact HB.out | apply below_alloc | apply pw_below_drewN | apply below_drew1 | refine below_set ?_ GE426.out) | exact HB.out)))); (case aL => have := LMc25.out; omega); intro v439 w27 ho hb hg hat; rw [← Ny438.out] at ho; have n0_ := Aside0.mk (blk_grown (g := gb426) (o := .cells #[.int .i64 ((rd_T49 l0 x8_1).f0), .slice Ao28 x427001_2.length co28] 49 (0, 0)) (by (with_reducible repeat (first | refine blk_drewN ?_ _ | refine blk_drew ?_ | refine blk_alloc ?_ _)); exact BK426.out) hg (Kd.S_away HO_7.out (fun _ hk => hk.2))); have n1_ := Aside0.mk (hb); have n2_ := Aside0.mk (ho); clear BK426; clear HB; clear HO_7; clear HO_427001; have BK426 := n0_; have HB := n1_; have HO440 := n2_; clear n0_ n1_ n2_; clear ho hb hg hat))
                        go_roundg k2
                        case measure => have := HK1.out; have := HK2.out; omega
                        case rel => exact ⟨(y438), (wrap64 (x8_1 + 1)), (by first | rfl | (simp; done) | (simp [*]; done)), H', ⟨by have := HK1.out; have := HK2.out; omega⟩, ⟨by (with_reducible repeat (first | apply Kd.S_alloc | apply Kd.S_drewN | apply Kd.S_drew)); exact Kd.S_mono HO440.out (fun _ hk => trivial)⟩, ⟨by repeat (first | (with_reducible first | exact HB.out | apply below_alloc | apply pw_below_drewN | apply below_drew1 | refine below_set ?_ GE426.out) | exact HB.out)⟩⟩
                      · rw [if_neg c25] at H
                        exact absurd H (by simp)
                  · rw [if_neg c10] at H
                    exact absurd H (by simp)
                · rw [if_neg c9] at H
                  exact absurd H (by simp)
          · rw [if_neg c6] at H
            exact absurd H (by simp)
        · rw [if_neg c5] at H
          have c5b0 : decide (x8_1 < (l0.length : Int)) = false := decide_eq_false c5
          clear c5
          simp only [Option.some.injEq, Prod.mk.injEq] at H
          obtain ⟨rfl, rfl⟩ := H
          go_wp2
          go_ret2
          exact ⟨_, by first | rfl | (simp [errW_none, errW_some] <;> rfl) | (simp [*, errW_none, errW_some] <;> rfl), by (with_reducible repeat (first | apply Kd.S_alloc | apply Kd.S_drewN | apply Kd.S_drew)); exact HO_7.out, by repeat (first | (with_reducible first | exact HB.out | apply below_alloc | apply pw_below_drewN | apply below_drew1) | exact HB.out)⟩
  · rw [if_neg c4] at H
    have c4b0 : (t424 == 0) = false := beq_eq_false_iff_ne.mpr c4
    have c4b1 : (t424 != 0) = true := bne_iff_ne.mpr c4
    simp only [Option.some.injEq, Prod.mk.injEq] at H
    obtain ⟨rfl, rfl⟩ := H
    go_enter Try.func58, Try.ntmps58
    go_wp2_with (first | ((with_reducible refine gate_callee (f := 107) rfl ?_); refine goesL_ (some 15) rfl rfl Try.func107 (by kernel_rfl) rfl #[.slice A0 l0.length c0, .slice A1 l1.length c1] rfl (by (try simp only [List.map_toArray, List.map_cons, List.map_nil]); first | done | rfl | (simp only [List.length_drop, List.length_take]; rfl)) ?_; (with_reducible refine (counterfoilref07_Check.calls k _ _ l0 _ _ l1 t424 _ ?side1 ?side2 ?side3 ?side4 A3.out).mono ?_); (case side1 => repeat (first | exact HR0.out | (with_reducible refine Kd.C_alloc ?_ _) | (with_reducible refine Kd.C_drewN ?_ _) | (with_reducible refine Kd.C_drew ?_))); (case side2 => exact HC0.out); (case side3 => repeat (first | exact HR1.out | (with_reducible refine Kd.C_alloc ?_ _) | (with_reducible refine Kd.C_drewN ?_ _) | (with_reducible refine Kd.C_drew ?_))); (case side4 => exact HC1.out); rintro e w' ⟨rfl, ⟨nd, rfl⟩⟩; refine ⟨_, rfl, ?_⟩))
    go_ret2
    exact ⟨_, by first | rfl | (simp [errW_none, errW_some] <;> rfl) | (simp [*, errW_none, errW_some] <;> rfl), by first | exact Kd.S_nil _ _ _ _ _ | exact Kd.N_nil _ _ _ _ _ | exact Kd.V_nil _ _ _ _ _ | exact Kd.Q_nil _ _ _ _ _ | exact Kd.R_nil _ _ _ _ _, by repeat (first | (with_reducible first | exact HB.out | apply below_alloc | apply pw_below_drewN | apply below_drew1) | exact HB.out)⟩
end Go.Proofs.Ythdhkoeaadahaaa.P
