-- MADE BY wip/kit/myprint.py for this seat
import Derived.Test.YthdhkoeaadahaaaPx0
namespace Go.Proofs.Ythdhkoeaadahaaa.P
open Go.RowKit Go.Proofs.YthdhkoeaadahaaaW.PrintWords Go.Proofs.YthdhkoeaadahaaaW.PrintLast Go.Proofs.YthdhkoeaadahaaaW.PrintMore
attribute [local go_sem] max2_int min2_int max_two min_two max_three min_three max_four min_four   -- for this text's walks alone
set_option linter.unusedVariables false
set_option linter.unusedSimpArgs false

/-! ### counterfoilref07_Get: function 41 -/
def counterfoilref07_Get.l0 : Nat → List (S49) → Int → Int → Int → Option (ByteArray × Int)
  | 0, _, _, _, _ => none
  | k + 1, x0, x1, x2, x8 => if x8 < (x0.length : Int) then (if 0 ≤ x8 then (if ((rd_T49 x0 x8).f0) = x1 then (if x2 < 0 then (some ((⟨#[]⟩ : ByteArray), 10)) else (if x2 ≥ (((rd_T49 x0 x8).f1).length : Int) then (some ((⟨#[]⟩ : ByteArray), 10)) else (if 0 ≤ x2 then (if x2 < (((rd_T49 x0 x8).f1).length : Int) then (some (rdOf ByteArray.empty ((rd_T49 x0 x8).f1) x2, 0)) else (none)) else (none)))) else (counterfoilref07_Get.l0 k x0 x1 x2 (wrap64 (x8 + 1)))) else (none)) else (some ((⟨#[]⟩ : ByteArray), 8))
def counterfoilref07_Get.f (k : Nat) (l0 : List (S49)) (a1 : Int) (a2 : Int) : Option (ByteArray × Int) := counterfoilref07_Get.l0 k l0 a1 a2 0
theorem counterfoilref07_Get.mono_l : ∀ k, (∀ y0 y1 y2 y3, LeO (counterfoilref07_Get.l0 k y0 y1 y2 y3) (counterfoilref07_Get.l0 (k + 1) y0 y1 y2 y3))
  | 0 => fun _ _ _ _ r h => by simp [counterfoilref07_Get.l0] at h
  | k + 1 => by
    have ih0 := counterfoilref07_Get.mono_l k
    · intro y0 y1 y2 y3
      unfold counterfoilref07_Get.l0
      repeat' first
      | (with_reducible exact ih0 _ _ _ _)
      | (with_reducible exact LeO.refl _)
      | (with_reducible exact LeO.none _)
      | (with_reducible refine LeO.ite ?_ ?_)
      | (with_reducible refine LeO.bind ?_ (fun _ => ?_))
      | exact ih0 _ _ _ _
      | exact LeO.none _
      | refine LeO.ite ?_ ?_
      | refine LeO.bind ?_ (fun _ => ?_)
theorem counterfoilref07_Get.mono : ∀ a0 a1 a2 k, LeO (counterfoilref07_Get.f k a0 a1 a2) (counterfoilref07_Get.f (k + 1) a0 a1 a2) := by
  intro a0 a1 a2 k
  have ih0 := counterfoilref07_Get.mono_l k
  unfold counterfoilref07_Get.f
  repeat' first
      | (with_reducible exact ih0 _ _ _ _)
      | (with_reducible exact LeO.refl _)
      | (with_reducible exact LeO.none _)
      | (with_reducible refine LeO.ite ?_ ?_)
      | (with_reducible refine LeO.bind ?_ (fun _ => ?_))
      | exact ih0 _ _ _ _
      | exact LeO.none _
      | refine LeO.ite ?_ ?_
      | refine LeO.bind ?_ (fun _ => ?_)
set_option maxHeartbeats 8000000 in
set_option maxRecDepth 100000 in
theorem counterfoilref07_Get.calls (k : Nat) (A0 : Option Addr) (c0 : Nat) (l0 : List (S49)) (a1 : Int) (a2 : Int) (r1 : ByteArray) (r2 : Int) (w : World) (hr0 : Kd.C k49 w A0 l0.length l0) (hc0 : l0.length ≤ c0) (h : counterfoilref07_Get.f k l0 a1 a2 = some (r1, r2)) :
    Calls Try.prog 41 #[.slice A0 l0.length c0, .int .i64 a1, .int .i64 a2] w fun e w' => e = .returned (.tuple #[.string r1, .int .i64 r2]) ∧ Drawn0 w w' := by
  have HR0 := Aside0.mk hr0
  have HC0 := Aside0.mk hc0
  clear hr0 hc0
  have H : (counterfoilref07_Get.l0 k l0 a1 a2 0) = some (r1, r2) := h
  clear h
  have H' := Aside0.mk H
  clear H
  go_enter Try.func41, Try.ntmps41
  go_wp2
  go_loopg [8] k (fun kq v8 w' => ∃ (x8_1 : Int), v8 = .int .i64 x8_1 ∧ Aside0 (counterfoilref07_Get.l0 kq l0 a1 a2 x8_1 = some (r1, r2)) ∧ Aside0 (kq ≤ k) ∧ Drawn0 w w')
  case atStart => exact ⟨(0), (by first | rfl | (simp; done) | (simp [*]; done)), H', ⟨Nat.le_refl _⟩, by repeat (first | exact Drawn0.refl _ | apply Drawn0.step)⟩
  case round =>
    clear H'
    try clear p2
    obtain ⟨x8_1, rfl, HA, HK1, ⟨m1, rfl⟩⟩ := hrel
    cases gk with
    | zero => exact absurd HA.out (by simp [counterfoilref07_Get.l0])
    | succ k1 =>
      have H := HA.out
      clear HA
      simp only [counterfoilref07_Get.l0] at H
      by_cases c4 : x8_1 < (l0.length : Int)
      · rw [if_pos c4] at H
        have c4b0 : decide (x8_1 < (l0.length : Int)) = true := decide_eq_true c4
        clear c4
        by_cases c5 : 0 ≤ x8_1
        · rw [if_pos c5] at H
          have c5b0 : decide (0 ≤ x8_1) = true := decide_eq_true c5
          clear c5
          by_cases c6 : ((rd_T49 l0 x8_1).f0) = a1
          · rw [if_pos c6] at H
            have c6b0 : (((rd_T49 l0 x8_1).f0) == a1) = true := beq_iff_eq.mpr c6
            have c6b1 : (((rd_T49 l0 x8_1).f0) != a1) = false := bne_eq_false_iff_eq.mpr c6
            clear c6
            by_cases c7 : a2 < 0
            · rw [if_pos c7] at H
              have c7b0 : decide (a2 < 0) = true := decide_eq_true c7
              clear c7
              simp only [Option.some.injEq, Prod.mk.injEq] at H
              obtain ⟨rfl, rfl⟩ := H
              have p272 : 0 ≤ (x8_1 : Int) := of_decide_eq_true (by first | (with_reducible assumption) | assumption)
              have q272 : x8_1 < (l0.length : Int) := of_decide_eq_true (by first | (with_reducible assumption) | assumption)
              obtain ⟨ad272, A272_1, c272_1, e272, hx272_0, hx272_1, hl272_1, hi272_1⟩ := at_T49 HR0.out x8_1 p272 q272
              cases e272
              have HR272_1 := Aside0.mk hi272_1
              have HC272_1 := Aside0.mk hl272_1
              clear hi272_1 hl272_1
              replace p272 := eq_true p272
              replace q272 := eq_true q272
              go_wp2
              go_ret2
              exact ⟨by first | rfl | (simp; done) | (simp [*]; done), by repeat (first | exact Drawn0.refl _ | apply Drawn0.step)⟩
            · rw [if_neg c7] at H
              have c7b0 : decide (a2 < 0) = false := decide_eq_false c7
              clear c7
              by_cases c8 : a2 ≥ (((rd_T49 l0 x8_1).f1).length : Int)
              · rw [if_pos c8] at H
                have c8b0 : decide ((((rd_T49 l0 x8_1).f1).length : Int) ≤ a2) = true := decide_eq_true c8
                clear c8
                simp only [Option.some.injEq, Prod.mk.injEq] at H
                obtain ⟨rfl, rfl⟩ := H
                have p272 : 0 ≤ (x8_1 : Int) := of_decide_eq_true (by first | (with_reducible assumption) | assumption)
                have q272 : x8_1 < (l0.length : Int) := of_decide_eq_true (by first | (with_reducible assumption) | assumption)
                obtain ⟨ad272, A272_1, c272_1, e272, hx272_0, hx272_1, hl272_1, hi272_1⟩ := at_T49 HR0.out x8_1 p272 q272
                cases e272
                have HR272_1 := Aside0.mk hi272_1
                have HC272_1 := Aside0.mk hl272_1
                clear hi272_1 hl272_1
                replace p272 := eq_true p272
                replace q272 := eq_true q272
                have p273 : 0 ≤ (x8_1 : Int) := of_decide_eq_true (by first | (with_reducible assumption) | assumption)
                have q273 : x8_1 < (l0.length : Int) := of_decide_eq_true (by first | (with_reducible assumption) | assumption)
                obtain ⟨ad273, A273_1, c273_1, e273, hx273_0, hx273_1, hl273_1, hi273_1⟩ := at_T49 HR0.out x8_1 p273 q273
                obtain rfl : ad272 = ad273 := (by injection e273)
                have HR273_1 := Aside0.mk hi273_1
                have HC273_1 := Aside0.mk hl273_1
                clear hi273_1 hl273_1
                replace p273 := eq_true p273
                replace q273 := eq_true q273
                have ea_ := Option.some.inj (hx272_1.symm.trans hx273_1)
                injection ea_ with ea_ en_ ec_
                subst ea_
                subst ec_
                clear en_
                go_wp2
                go_ret2
                exact ⟨by first | rfl | (simp; done) | (simp [*]; done), by repeat (first | exact Drawn0.refl _ | apply Drawn0.step)⟩
              · rw [if_neg c8] at H
                have c8b0 : decide ((((rd_T49 l0 x8_1).f1).length : Int) ≤ a2) = false := decide_eq_false c8
                clear c8
                by_cases c9 : 0 ≤ a2
                · rw [if_pos c9] at H
                  have c9b0 : decide (0 ≤ a2) = true := decide_eq_true c9
                  clear c9
                  by_cases c10 : a2 < (((rd_T49 l0 x8_1).f1).length : Int)
                  · rw [if_pos c10] at H
                    have c10b0 : decide (a2 < (((rd_T49 l0 x8_1).f1).length : Int)) = true := decide_eq_true c10
                    clear c10
                    simp only [Option.some.injEq, Prod.mk.injEq] at H
                    obtain ⟨rfl, rfl⟩ := H
                    have p272 : 0 ≤ (x8_1 : Int) := of_decide_eq_true (by first | (with_reducible assumption) | assumption)
                    have q272 : x8_1 < (l0.length : Int) := of_decide_eq_true (by first | (with_reducible assumption) | assumption)
                    obtain ⟨ad272, A272_1, c272_1, e272, hx272_0, hx272_1, hl272_1, hi272_1⟩ := at_T49 HR0.out x8_1 p272 q272
                    cases e272
                    have HR272_1 := Aside0.mk hi272_1
                    have HC272_1 := Aside0.mk hl272_1
                    clear hi272_1 hl272_1
                    replace p272 := eq_true p272
                    replace q272 := eq_true q272
                    have p273 : 0 ≤ (x8_1 : Int) := of_decide_eq_true (by first | (with_reducible assumption) | assumption)
                    have q273 : x8_1 < (l0.length : Int) := of_decide_eq_true (by first | (with_reducible assumption) | assumption)
                    obtain ⟨ad273, A273_1, c273_1, e273, hx273_0, hx273_1, hl273_1, hi273_1⟩ := at_T49 HR0.out x8_1 p273 q273
                    obtain rfl : ad272 = ad273 := (by injection e273)
                    have HR273_1 := Aside0.mk hi273_1
                    have HC273_1 := Aside0.mk hl273_1
                    clear hi273_1 hl273_1
                    replace p273 := eq_true p273
                    replace q273 := eq_true q273
                    have ea_ := Option.some.inj (hx272_1.symm.trans hx273_1)
                    injection ea_ with ea_ en_ ec_
                    subst ea_
                    subst ec_
                    clear en_
                    have p274 : 0 ≤ (x8_1 : Int) := of_decide_eq_true (by first | (with_reducible assumption) | assumption)
                    have q274 : x8_1 < (l0.length : Int) := of_decide_eq_true (by first | (with_reducible assumption) | assumption)
                    obtain ⟨ad274, A274_1, c274_1, e274, hx274_0, hx274_1, hl274_1, hi274_1⟩ := at_T49 HR0.out x8_1 p274 q274
                    obtain rfl : ad272 = ad274 := (by injection e274)
                    have HR274_1 := Aside0.mk hi274_1
                    have HC274_1 := Aside0.mk hl274_1
                    clear hi274_1 hl274_1
                    replace p274 := eq_true p274
                    replace q274 := eq_true q274
                    have ea_ := Option.some.inj (hx272_1.symm.trans hx274_1)
                    injection ea_ with ea_ en_ ec_
                    subst ea_
                    subst ec_
                    clear en_
                    have p275 : 0 ≤ (a2 : Int) := of_decide_eq_true (by first | (with_reducible assumption) | assumption)
                    have q275 : a2 < (((rd_T49 l0 x8_1).f1).length : Int) := of_decide_eq_true (by first | (with_reducible assumption) | assumption)
                    obtain ⟨ad275, e275, hx275_0⟩ := Kd.at_string HR274_1.out a2 p275 q275
                    cases e275
                    replace p275 := eq_true p275
                    replace q275 := eq_true q275
                    go_wp2
                    go_ret2
                    exact ⟨by first | rfl | (simp; done) | (simp [*]; done), by repeat (first | exact Drawn0.refl _ | apply Drawn0.step)⟩
                  · rw [if_neg c10] at H
                    exact absurd H (by simp)
                · rw [if_neg c9] at H
                  exact absurd H (by simp)
          · rw [if_neg c6] at H
            have c6b0 : (((rd_T49 l0 x8_1).f0) == a1) = false := beq_eq_false_iff_ne.mpr c6
            have c6b1 : (((rd_T49 l0 x8_1).f0) != a1) = true := bne_iff_ne.mpr c6
            have H' := Aside0.mk H
            clear H
            have p272 : 0 ≤ (x8_1 : Int) := of_decide_eq_true (by first | (with_reducible assumption) | assumption)
            have q272 : x8_1 < (l0.length : Int) := of_decide_eq_true (by first | (with_reducible assumption) | assumption)
            obtain ⟨ad272, A272_1, c272_1, e272, hx272_0, hx272_1, hl272_1, hi272_1⟩ := at_T49 HR0.out x8_1 p272 q272
            cases e272
            have HR272_1 := Aside0.mk hi272_1
            have HC272_1 := Aside0.mk hl272_1
            clear hi272_1 hl272_1
            replace p272 := eq_true p272
            replace q272 := eq_true q272
            go_wp2
            go_roundg k1
            case measure => have := HK1.out; omega
            case rel => exact ⟨(wrap64 (x8_1 + 1)), (by first | rfl | (simp; done) | (simp [*]; done)), H', ⟨by have := HK1.out; omega⟩, by repeat (first | exact Drawn0.refl _ | apply Drawn0.step)⟩
        · rw [if_neg c5] at H
          exact absurd H (by simp)
      · rw [if_neg c4] at H
        have c4b0 : decide (x8_1 < (l0.length : Int)) = false := decide_eq_false c4
        clear c4
        simp only [Option.some.injEq, Prod.mk.injEq] at H
        obtain ⟨rfl, rfl⟩ := H
        go_wp2
        go_ret2
        exact ⟨by first | rfl | (simp; done) | (simp [*]; done), by repeat (first | exact Drawn0.refl _ | apply Drawn0.step)⟩

end Go.Proofs.Ythdhkoeaadahaaa.P
