-- PACKED by wip/kit/pack.py: what the law's proof uses of Px23 (printed words and texts of this seat)
import Derived.Test.YthdhkoeaadahaaaSPx0
namespace Go.Proofs.Ythdhkoeaadahaaa.P
open Go.RowKit Go.Proofs.YthdhkoeaadahaaaW.PrintWords Go.Proofs.YthdhkoeaadahaaaW.PrintLast Go.Proofs.YthdhkoeaadahaaaW.PrintMore
attribute [local go_sem] max2_int min2_int max_two min_two max_three min_three max_four min_four
set_option linter.unusedVariables false
set_option linter.unusedSimpArgs false
mutual
def counterfoilref07_Small.j0 : Nat → List (S49) → Bool → Option (Bool)
 | 0, _, _ => none
 | k + 1, x0, x13 => if x13 = true then (some false) else (counterfoilref07_Small.l0 k x0 0)
def counterfoilref07_Small.l0 : Nat → List (S49) → Int → Option (Bool)
 | 0, _, _ => none
 | k + 1, x0, x5 => if x5 < (x0.length : Int) then (if 0 ≤ x5 then (if (((rd_T49 x0 x5).f1).length : Int) > 100 then (some false) else (counterfoilref07_Small.l0 k x0 (wrap64 (x5 + 1)))) else (none)) else (some true)
end
def counterfoilref07_Small.f (k : Nat) (l0 : List (S49)) (l1 : List (S74)) : Option (Bool) := if (l0.length : Int) > 10 then (counterfoilref07_Small.j0 k l0 true) else (counterfoilref07_Small.j0 k l0 (decide ((l1.length : Int) > 200)))
theorem A0q23_ {p : Prop} (h : p) : Aside0 p := ⟨h⟩
theorem z1q23_ {α : Type} (l : List α) (i : Nat) (a : α) : l.toArray.setIfInBounds i a = (l.set i a).toArray := List.setIfInBounds_toArray l i a
theorem z2q23_ {α : Type} {x : α} {xs : List α} {a : α} : (x :: xs).set 0 a = a :: xs := List.set_cons_zero
theorem z3q23_ {α : Type} {x : α} {xs : List α} {n : Nat} {a : α} : (x :: xs).set (n + 1) a = x :: xs.set n a := List.set_cons_succ
set_option maxHeartbeats 8000000 in
set_option maxRecDepth 100000 in
theorem counterfoilref07_Small.calls (k : Nat) (A0 : Option Addr) (c0 : Nat) (l0 : List (S49)) (A1 : Option Addr) (c1 : Nat) (l1 : List (S74)) (r : Bool) (w : World) (hr0 : Kd.C k49 w A0 l0.length l0) (hc0 : l0.length ≤ c0) (hr1 : Kd.C k74 w A1 l1.length l1) (hc1 : l1.length ≤ c1) (h : counterfoilref07_Small.f k l0 l1 = some r) :
  Calls Try.prog 37 #[.slice A0 l0.length c0, .slice A1 l1.length c1] w fun e w' => e = .returned (.bool r) ∧ Drawn0 w w' := by
 have HR0 := A0q23_ hr0
 have HC0 := A0q23_ hc0
 clear hr0 hc0
 have HR1 := A0q23_ hr1
 have HC1 := A0q23_ hc1
 clear hr1 hc1
 have H : (if (l0.length : Int) > 10 then (counterfoilref07_Small.j0 k l0 true) else (counterfoilref07_Small.j0 k l0 (decide ((l1.length : Int) > 200)))) = some r := h
 clear h
 have HC3 := A0q23_ H
 clear H
 go_enter Try.func37, Try.ntmps37
 go_upto_region 1 with (fail)
 go_cut [13] (fun v13 wc => ∃ (kq : Nat) (x13_2 : Bool), v13 = .bool x13_2 ∧ Aside0 (counterfoilref07_Small.j0 kq l0 x13_2 = some r) ∧ Aside0 (kq ≤ k) ∧ Drawn0 w wc)
 case first =>
  have H := HC3.out
  clear HC3
  by_cases c4 : (l0.length : Int) > 10
  ·rw [if_pos c4] at H
   have c4b0 : decide (10 < (l0.length : Int)) = true := decide_eq_true c4
   have c4b1 : decide (10 < l0.length) = true := decide_eq_true (by omega)
   clear c4
   (first | rw [c4b0] | (simp only [i64_w, i32_w]; rw [c4b0]) | skip)
   have H' := A0q23_ H
   clear H
   go_wp2
   go_meet
   case rel => exact ⟨_, (true), (by first | rfl | (simp; done) | (simp [*]; done)), H', ⟨by first | omega | exact Nat.le_refl _⟩, by repeat (first | exact Drawn0.refl _ | apply Drawn0.step)⟩
  ·rw [if_neg c4] at H
   have c4b0 : decide (10 < (l0.length : Int)) = false := decide_eq_false c4
   have c4b1 : decide (10 < l0.length) = false := decide_eq_false (by omega)
   clear c4
   (first | rw [c4b0] | (simp only [i64_w, i32_w]; rw [c4b0]) | skip)
   have H' := A0q23_ H
   clear H
   go_wp2
   go_meet
   case rel => exact ⟨_, (decide ((l1.length : Int) > 200)), (by first | rfl | (simp; done) | (simp [*]; done)), H', ⟨by first | omega | exact Nat.le_refl _⟩, by repeat (first | exact Drawn0.refl _ | apply Drawn0.step)⟩
 case rest =>
  clear HC3
  try clear c1
  try clear p2
  try clear c3
  try clear c4
  try clear c4b0
  try clear c4b1
  obtain ⟨kq, x13_2, rfl, HA, HJ2, ⟨mc2, rfl⟩⟩ := hcut
  cases kq with
  | zero => exact absurd HA.out (by simp [counterfoilref07_Small.j0])
  | succ kj2 =>
   have H := HA.out
   clear HA
   simp only [counterfoilref07_Small.j0] at H
   by_cases c5 : x13_2 = true
   ·subst c5
    have H1 : (some false) = some r := by rw [if_pos rfl] at H; exact H
    clear H
    have H := H1
    clear H1
    obtain rfl := Option.some.inj H
    go_wp2
    go_ret
    exact ⟨by first | rfl | (simp; done) | (simp [*]; done), by repeat (first | exact Drawn0.refl _ | apply Drawn0.step)⟩
   ·replace c5 := Bool.eq_false_iff.mpr c5
    subst c5
    have H1 : (counterfoilref07_Small.l0 kj2 l0 0) = some r := by rw [if_neg (show ¬ (false = true) by decide)] at H; exact H
    clear H
    have H := H1
    clear H1
    have H' := A0q23_ H
    clear H
    go_wp2
    go_loopg [5] kj2 (fun kq v5 w' => ∃ (x5_2 : Int), v5 = .int .i64 x5_2 ∧ Aside0 (counterfoilref07_Small.l0 kq l0 x5_2 = some r) ∧ Aside0 (kq ≤ kj2) ∧ Drawn0 w w')
    case atStart => exact ⟨(0), (by first | rfl | (simp; done) | (simp [*]; done)), H', ⟨Nat.le_refl _⟩, by repeat (first | exact Drawn0.refl _ | apply Drawn0.step)⟩
    case round =>
     clear H'
     try clear c1
     try clear c2
     try clear p2
     try clear c3
     try clear c4
     try clear c4b0
     try clear c4b1
     try clear c5
     try clear p2
     obtain ⟨x5_2, rfl, HA, HK2, ⟨m2, rfl⟩⟩ := hrel
     cases gk with
     | zero => exact absurd HA.out (by simp [counterfoilref07_Small.l0])
     | succ k2 =>
      have H := HA.out
      clear HA
      simp only [counterfoilref07_Small.l0] at H
      by_cases c6 : x5_2 < (l0.length : Int)
      ·rw [if_pos c6] at H
       have c6b0 : decide (x5_2 < (l0.length : Int)) = true := decide_eq_true c6
       clear c6
       by_cases c7 : 0 ≤ x5_2
       ·rw [if_pos c7] at H
        have c7b0 : decide (0 ≤ x5_2) = true := decide_eq_true c7
        clear c7
        by_cases c8 : (((rd_T49 l0 x5_2).f1).length : Int) > 100
        ·rw [if_pos c8] at H
         have c8b0 : decide (100 < (((rd_T49 l0 x5_2).f1).length : Int)) = true := decide_eq_true c8
         have c8b1 : decide (100 < ((rd_T49 l0 x5_2).f1).length) = true := decide_eq_true (by omega)
         clear c8
         obtain rfl := Option.some.inj H
         have p235 : 0 ≤ (x5_2 : Int) := of_decide_eq_true (by first | (with_reducible assumption) | assumption)
         have q235 : x5_2 < (l0.length : Int) := of_decide_eq_true (by first | (with_reducible assumption) | assumption)
         obtain ⟨ad235, A235_1, c235_1, e235, hx235_0, hx235_1, hl235_1, hi235_1⟩ := at_T49 HR0.out x5_2 p235 q235
         cases e235
         have HR235_1 := A0q23_ hi235_1
         have HC235_1 := A0q23_ hl235_1
         clear hi235_1 hl235_1
         replace p235 := eq_true p235
         replace q235 := eq_true q235
         go_wp2
         go_ret
         exact ⟨by first | rfl | (simp; done) | (simp [*]; done), by repeat (first | exact Drawn0.refl _ | apply Drawn0.step)⟩
        ·rw [if_neg c8] at H
         have c8b0 : decide (100 < (((rd_T49 l0 x5_2).f1).length : Int)) = false := decide_eq_false c8
         have c8b1 : decide (100 < ((rd_T49 l0 x5_2).f1).length) = false := decide_eq_false (by omega)
         clear c8
         have H' := A0q23_ H
         clear H
         have p235 : 0 ≤ (x5_2 : Int) := of_decide_eq_true (by first | (with_reducible assumption) | assumption)
         have q235 : x5_2 < (l0.length : Int) := of_decide_eq_true (by first | (with_reducible assumption) | assumption)
         obtain ⟨ad235, A235_1, c235_1, e235, hx235_0, hx235_1, hl235_1, hi235_1⟩ := at_T49 HR0.out x5_2 p235 q235
         cases e235
         have HR235_1 := A0q23_ hi235_1
         have HC235_1 := A0q23_ hl235_1
         clear hi235_1 hl235_1
         replace p235 := eq_true p235
         replace q235 := eq_true q235
         go_wp2
         go_roundg k2
         case measure => have := HJ2.out; have := HK2.out; omega
         case rel => exact ⟨(wrap64 (x5_2 + 1)), (by first | rfl | (simp; done) | (simp [*]; done)), H', ⟨by have := HJ2.out; have := HK2.out; omega⟩, by repeat (first | exact Drawn0.refl _ | apply Drawn0.step)⟩
       ·rw [if_neg c7] at H
        exact absurd H (by simp)
      ·rw [if_neg c6] at H
       have c6b0 : decide (x5_2 < (l0.length : Int)) = false := decide_eq_false c6
       clear c6
       obtain rfl := Option.some.inj H
       go_wp2
       go_ret
       exact ⟨by first | rfl | (simp; done) | (simp [*]; done), by repeat (first | exact Drawn0.refl _ | apply Drawn0.step)⟩
mutual
def counterfoilref07_Right.l0 : Nat → List (S49) → Int → Option (Bool)
 | 0, _, _ => none
 | k + 1, x0, x3 => if x3 < (x0.length : Int) then (if 0 ≤ x3 then (if ((rd_T49 x0 x3).f0) < 1 then (counterfoilref07_Right.j1 k x0 x3 true) else (if ((rd_T49 x0 x3).f0) > 255 then (counterfoilref07_Right.j1 k x0 x3 true) else (if x3 > 0 then (if 0 ≤ (wrap64 (x3 - 1)) then (if (wrap64 (x3 - 1)) < (x0.length : Int) then (if ((rd_T49 x0 (wrap64 (x3 - 1))).f0) ≥ ((rd_T49 x0 x3).f0) then (counterfoilref07_Right.j1 k x0 x3 true) else (if (((rd_T49 x0 x3).f1).length : Int) < 1 then (counterfoilref07_Right.j1 k x0 x3 true) else (counterfoilref07_Right.j1 k x0 x3 (decide ((((rd_T49 x0 x3).f1).length : Int) > 32))))) else (none)) else (none)) else (if (((rd_T49 x0 x3).f1).length : Int) < 1 then (counterfoilref07_Right.j1 k x0 x3 true) else (counterfoilref07_Right.j1 k x0 x3 (decide ((((rd_T49 x0 x3).f1).length : Int) > 32))))))) else (none)) else (some true)
def counterfoilref07_Right.j1 : Nat → List (S49) → Int → Bool → Option (Bool)
 | 0, _, _, _ => none
 | k + 1, x0, x3, x63 => if x63 = true then (some false) else (counterfoilref07_Right.l1 k x0 x3 0)
def counterfoilref07_Right.l1 : Nat → List (S49) → Int → Int → Option (Bool)
 | 0, _, _, _ => none
 | k + 1, x0, x3, x4 => if 0 ≤ x3 then (if x3 < (x0.length : Int) then (if x4 < (((rd_T49 x0 x3).f1).length : Int) then (if 0 ≤ x4 then (if ((rdOf ByteArray.empty ((rd_T49 x0 x3).f1) x4).size : Int) > 8 then (some false) else (counterfoilref07_Right.l1 k x0 x3 (wrap64 (x4 + 1)))) else (none)) else (counterfoilref07_Right.l0 k x0 (wrap64 (x3 + 1)))) else (none)) else (none)
end
def counterfoilref07_Right.f (k : Nat) (l0 : List (S49)) : Option (Bool) := if (l0.length : Int) > 4 then (some false) else (counterfoilref07_Right.l0 k l0 0)
set_option maxHeartbeats 8000000 in
set_option maxRecDepth 100000 in
theorem counterfoilref07_Right.calls (k : Nat) (A0 : Option Addr) (c0 : Nat) (l0 : List (S49)) (r : Bool) (w : World) (hr0 : Kd.C k49 w A0 l0.length l0) (hc0 : l0.length ≤ c0) (h : counterfoilref07_Right.f k l0 = some r) :
  Calls Try.prog 40 #[.slice A0 l0.length c0] w fun e w' => e = .returned (.bool r) ∧ Drawn0 w w' := by
 have HR0 := A0q23_ hr0
 have HC0 := A0q23_ hc0
 clear hr0 hc0
 have H : (if (l0.length : Int) > 4 then (some false) else (counterfoilref07_Right.l0 k l0 0)) = some r := h
 clear h
 by_cases c2 : (l0.length : Int) > 4
 ·rw [if_pos c2] at H
  have c2b0 : decide (4 < (l0.length : Int)) = true := decide_eq_true c2
  have c2b1 : decide (4 < l0.length) = true := decide_eq_true (by omega)
  clear c2
  obtain rfl := Option.some.inj H
  go_enter Try.func40, Try.ntmps40
  go_wp2
  repeat (go_quiet (fail); try go_wp2)
  go_ret
  exact ⟨by first | rfl | (simp; done) | (simp [*]; done), by repeat (first | exact Drawn0.refl _ | apply Drawn0.step)⟩
 ·rw [if_neg c2] at H
  have c2b0 : decide (4 < (l0.length : Int)) = false := decide_eq_false c2
  have c2b1 : decide (4 < l0.length) = false := decide_eq_false (by omega)
  clear c2
  have H' := A0q23_ H
  clear H
  go_enter Try.func40, Try.ntmps40
  go_wp2
  repeat (go_quiet (fail); try go_wp2)
  go_loopg [3] k (fun kq v3 w' => ∃ (x3_1 : Int), v3 = .int .i64 x3_1 ∧ Aside0 (counterfoilref07_Right.l0 kq l0 x3_1 = some r) ∧ Aside0 (kq ≤ k) ∧ Drawn0 w w')
  case atStart => exact ⟨(0), (by first | rfl | (simp; done) | (simp [*]; done)), H', ⟨Nat.le_refl _⟩, by repeat (first | exact Drawn0.refl _ | apply Drawn0.step)⟩
  case round =>
   clear H'
   try clear c2
   try clear c2b0
   try clear c2b1
   try clear p2
   obtain ⟨x3_1, rfl, HA, HK1, ⟨m1, rfl⟩⟩ := hrel
   cases gk with
   | zero => exact absurd HA.out (by simp [counterfoilref07_Right.l0])
   | succ k1 =>
    have H := HA.out
    clear HA
    simp only [counterfoilref07_Right.l0] at H
    by_cases c3 : x3_1 < (l0.length : Int)
    ·rw [if_pos c3] at H
     have c3b0 : decide (x3_1 < (l0.length : Int)) = true := decide_eq_true c3
     clear c3
     have HC4 := A0q23_ H
     clear H
     go_upto_region 6 with (fail)
     repeat (go_quiet (fail); go_upto_region 6 with (fail))
     go_cut [63] (fun v63 wc => ∃ (kq : Nat) (x63_3 : Bool), v63 = .bool x63_3 ∧ Aside0 (counterfoilref07_Right.j1 kq l0 x3_1 x63_3 = some r) ∧ Aside0 (kq ≤ k1) ∧ Drawn0 w wc)
     case first =>
      have H := HC4.out
      clear HC4
      by_cases c5 : 0 ≤ x3_1
      ·rw [if_pos c5] at H
       have c5b0 : decide (0 ≤ x3_1) = true := decide_eq_true c5
       clear c5
       (first | rw [c5b0] | (simp only [i64_w, i32_w]; rw [c5b0]) | skip)
       by_cases c6 : ((rd_T49 l0 x3_1).f0) < 1
       ·rw [if_pos c6] at H
        have c6b0 : decide (((rd_T49 l0 x3_1).f0) < 1) = true := decide_eq_true c6
        clear c6
        have H' := A0q23_ H
        clear H
        have p261 : 0 ≤ (x3_1 : Int) := of_decide_eq_true (by first | (with_reducible assumption) | assumption)
        have q261 : x3_1 < (l0.length : Int) := of_decide_eq_true (by first | (with_reducible assumption) | assumption)
        obtain ⟨ad261, A261_1, c261_1, e261, hx261_0, hx261_1, hl261_1, hi261_1⟩ := at_T49 HR0.out x3_1 p261 q261
        cases e261
        have HR261_1 := A0q23_ hi261_1
        have HC261_1 := A0q23_ hl261_1
        clear hi261_1 hl261_1
        replace p261 := eq_true p261
        replace q261 := eq_true q261
        go_wp2
        repeat (go_quiet (fail); try go_wp2)
        go_meet
        case rel => exact ⟨_, (true), (by first | rfl | (simp; done) | (simp [*]; done)), H', ⟨by have := HK1.out; first | omega | exact Nat.le_refl _⟩, by repeat (first | exact Drawn0.refl _ | apply Drawn0.step)⟩
       ·rw [if_neg c6] at H
        have c6b0 : decide (((rd_T49 l0 x3_1).f0) < 1) = false := decide_eq_false c6
        clear c6
        by_cases c7 : ((rd_T49 l0 x3_1).f0) > 255
        ·rw [if_pos c7] at H
         have c7b0 : decide (255 < ((rd_T49 l0 x3_1).f0)) = true := decide_eq_true c7
         clear c7
         have H' := A0q23_ H
         clear H
         have p261 : 0 ≤ (x3_1 : Int) := of_decide_eq_true (by first | (with_reducible assumption) | assumption)
         have q261 : x3_1 < (l0.length : Int) := of_decide_eq_true (by first | (with_reducible assumption) | assumption)
         obtain ⟨ad261, A261_1, c261_1, e261, hx261_0, hx261_1, hl261_1, hi261_1⟩ := at_T49 HR0.out x3_1 p261 q261
         cases e261
         have HR261_1 := A0q23_ hi261_1
         have HC261_1 := A0q23_ hl261_1
         clear hi261_1 hl261_1
         replace p261 := eq_true p261
         replace q261 := eq_true q261
         have p262 : 0 ≤ (x3_1 : Int) := of_decide_eq_true (by first | (with_reducible assumption) | assumption)
         have q262 : x3_1 < (l0.length : Int) := of_decide_eq_true (by first | (with_reducible assumption) | assumption)
         obtain ⟨ad262, A262_1, c262_1, e262, hx262_0, hx262_1, hl262_1, hi262_1⟩ := at_T49 HR0.out x3_1 p262 q262
         obtain rfl : ad261 = ad262 := (by injection e262)
         have HR262_1 := A0q23_ hi262_1
         have HC262_1 := A0q23_ hl262_1
         clear hi262_1 hl262_1
         replace p262 := eq_true p262
         replace q262 := eq_true q262
         have ea_ := Option.some.inj (hx261_1.symm.trans hx262_1)
         injection ea_ with ea_ en_ ec_
         subst ea_
         subst ec_
         clear en_
         go_wp2
         repeat (go_quiet (fail); try go_wp2)
         go_meet
         case rel => exact ⟨_, (true), (by first | rfl | (simp; done) | (simp [*]; done)), H', ⟨by have := HK1.out; first | omega | exact Nat.le_refl _⟩, by repeat (first | exact Drawn0.refl _ | apply Drawn0.step)⟩
        ·rw [if_neg c7] at H
         have c7b0 : decide (255 < ((rd_T49 l0 x3_1).f0)) = false := decide_eq_false c7
         clear c7
         by_cases c8 : x3_1 > 0
         ·rw [if_pos c8] at H
          have c8b0 : decide (0 < x3_1) = true := decide_eq_true c8
          clear c8
          obtain ⟨ji9, hji9⟩ : ∃ j_ : Int, (wrap64 (x3_1 - 1)) = j_ := ⟨_, rfl⟩
          replace H : (if 0 ≤ (ji9) then (if (ji9) < (l0.length : Int) then (if ((rd_T49 l0 (ji9)).f0) ≥ ((rd_T49 l0 x3_1).f0) then (counterfoilref07_Right.j1 k1 l0 x3_1 true) else (if (((rd_T49 l0 x3_1).f1).length : Int) < 1 then (counterfoilref07_Right.j1 k1 l0 x3_1 true) else (counterfoilref07_Right.j1 k1 l0 x3_1 (decide ((((rd_T49 l0 x3_1).f1).length : Int) > 32))))) else (none)) else (none)) = some r := by first | (rw [hji9] at H; exact H) | (simp only [hji9] at H ⊢; exact H)
          have hji9w : (IntKind.i64.wrap (x3_1 - 1)) = ji9 := (i64_w _).trans hji9
          by_cases c10 : 0 ≤ (ji9)
          ·rw [if_pos c10] at H
           have c10b0 : decide (0 ≤ (ji9)) = true := decide_eq_true c10
           clear c10
           by_cases c11 : (ji9) < (l0.length : Int)
           ·rw [if_pos c11] at H
            have c11b0 : decide ((ji9) < (l0.length : Int)) = true := decide_eq_true c11
            clear c11
            by_cases c12 : ((rd_T49 l0 (ji9)).f0) ≥ ((rd_T49 l0 x3_1).f0)
            ·rw [if_pos c12] at H
             have c12b0 : decide (((rd_T49 l0 x3_1).f0) ≤ ((rd_T49 l0 (ji9)).f0)) = true := decide_eq_true c12
             clear c12
             have H' := A0q23_ H
             clear H
             have p261 : 0 ≤ (x3_1 : Int) := of_decide_eq_true (by first | (with_reducible assumption) | assumption)
             have q261 : x3_1 < (l0.length : Int) := of_decide_eq_true (by first | (with_reducible assumption) | assumption)
             obtain ⟨ad261, A261_1, c261_1, e261, hx261_0, hx261_1, hl261_1, hi261_1⟩ := at_T49 HR0.out x3_1 p261 q261
             cases e261
             have HR261_1 := A0q23_ hi261_1
             have HC261_1 := A0q23_ hl261_1
             clear hi261_1 hl261_1
             replace p261 := eq_true p261
             replace q261 := eq_true q261
             have p262 : 0 ≤ (x3_1 : Int) := of_decide_eq_true (by first | (with_reducible assumption) | assumption)
             have q262 : x3_1 < (l0.length : Int) := of_decide_eq_true (by first | (with_reducible assumption) | assumption)
             obtain ⟨ad262, A262_1, c262_1, e262, hx262_0, hx262_1, hl262_1, hi262_1⟩ := at_T49 HR0.out x3_1 p262 q262
             obtain rfl : ad261 = ad262 := (by injection e262)
             have HR262_1 := A0q23_ hi262_1
             have HC262_1 := A0q23_ hl262_1
             clear hi262_1 hl262_1
             replace p262 := eq_true p262
             replace q262 := eq_true q262
             have ea_ := Option.some.inj (hx261_1.symm.trans hx262_1)
             injection ea_ with ea_ en_ ec_
             subst ea_
             subst ec_
             clear en_
             have p263 : 0 ≤ ((ji9) : Int) := of_decide_eq_true (by first | (with_reducible assumption) | assumption)
             have q263 : (ji9) < (l0.length : Int) := of_decide_eq_true (by first | (with_reducible assumption) | assumption)
             obtain ⟨ad263, A263_1, c263_1, e263, hx263_0, hx263_1, hl263_1, hi263_1⟩ := at_T49 HR0.out (ji9) p263 q263
             obtain rfl : ad261 = ad263 := (by injection e263)
             have HR263_1 := A0q23_ hi263_1
             have HC263_1 := A0q23_ hl263_1
             clear hi263_1 hl263_1
             replace p263 := eq_true p263
             replace q263 := eq_true q263
             have p264 : 0 ≤ (x3_1 : Int) := of_decide_eq_true (by first | (with_reducible assumption) | assumption)
             have q264 : x3_1 < (l0.length : Int) := of_decide_eq_true (by first | (with_reducible assumption) | assumption)
             obtain ⟨ad264, A264_1, c264_1, e264, hx264_0, hx264_1, hl264_1, hi264_1⟩ := at_T49 HR0.out x3_1 p264 q264
             obtain rfl : ad261 = ad264 := (by injection e264)
             have HR264_1 := A0q23_ hi264_1
             have HC264_1 := A0q23_ hl264_1
             clear hi264_1 hl264_1
             replace p264 := eq_true p264
             replace q264 := eq_true q264
             have ea_ := Option.some.inj (hx261_1.symm.trans hx264_1)
             injection ea_ with ea_ en_ ec_
             subst ea_
             subst ec_
             clear en_
             go_wp2
             repeat (go_quiet (fail); try go_wp2)
             go_meet
             case rel => exact ⟨_, (true), (by first | rfl | (simp; done) | (simp [*]; done)), H', ⟨by have := HK1.out; first | omega | exact Nat.le_refl _⟩, by repeat (first | exact Drawn0.refl _ | apply Drawn0.step)⟩
            ·rw [if_neg c12] at H
             have c12b0 : decide (((rd_T49 l0 x3_1).f0) ≤ ((rd_T49 l0 (ji9)).f0)) = false := decide_eq_false c12
             clear c12
             by_cases c13 : (((rd_T49 l0 x3_1).f1).length : Int) < 1
             ·rw [if_pos c13] at H
              have c13b0 : decide ((((rd_T49 l0 x3_1).f1).length : Int) < 1) = true := decide_eq_true c13
              have c13b1 : decide (((rd_T49 l0 x3_1).f1).length < 1) = true := decide_eq_true (by omega)
              clear c13
              have H' := A0q23_ H
              clear H
              have p261 : 0 ≤ (x3_1 : Int) := of_decide_eq_true (by first | (with_reducible assumption) | assumption)
              have q261 : x3_1 < (l0.length : Int) := of_decide_eq_true (by first | (with_reducible assumption) | assumption)
              obtain ⟨ad261, A261_1, c261_1, e261, hx261_0, hx261_1, hl261_1, hi261_1⟩ := at_T49 HR0.out x3_1 p261 q261
              cases e261
              have HR261_1 := A0q23_ hi261_1
              have HC261_1 := A0q23_ hl261_1
              clear hi261_1 hl261_1
              replace p261 := eq_true p261
              replace q261 := eq_true q261
              have p262 : 0 ≤ (x3_1 : Int) := of_decide_eq_true (by first | (with_reducible assumption) | assumption)
              have q262 : x3_1 < (l0.length : Int) := of_decide_eq_true (by first | (with_reducible assumption) | assumption)
              obtain ⟨ad262, A262_1, c262_1, e262, hx262_0, hx262_1, hl262_1, hi262_1⟩ := at_T49 HR0.out x3_1 p262 q262
              obtain rfl : ad261 = ad262 := (by injection e262)
              have HR262_1 := A0q23_ hi262_1
              have HC262_1 := A0q23_ hl262_1
              clear hi262_1 hl262_1
              replace p262 := eq_true p262
              replace q262 := eq_true q262
              have ea_ := Option.some.inj (hx261_1.symm.trans hx262_1)
              injection ea_ with ea_ en_ ec_
              subst ea_
              subst ec_
              clear en_
              have p263 : 0 ≤ ((ji9) : Int) := of_decide_eq_true (by first | (with_reducible assumption) | assumption)
              have q263 : (ji9) < (l0.length : Int) := of_decide_eq_true (by first | (with_reducible assumption) | assumption)
              obtain ⟨ad263, A263_1, c263_1, e263, hx263_0, hx263_1, hl263_1, hi263_1⟩ := at_T49 HR0.out (ji9) p263 q263
              obtain rfl : ad261 = ad263 := (by injection e263)
              have HR263_1 := A0q23_ hi263_1
              have HC263_1 := A0q23_ hl263_1
              clear hi263_1 hl263_1
              replace p263 := eq_true p263
              replace q263 := eq_true q263
              have p264 : 0 ≤ (x3_1 : Int) := of_decide_eq_true (by first | (with_reducible assumption) | assumption)
              have q264 : x3_1 < (l0.length : Int) := of_decide_eq_true (by first | (with_reducible assumption) | assumption)
              obtain ⟨ad264, A264_1, c264_1, e264, hx264_0, hx264_1, hl264_1, hi264_1⟩ := at_T49 HR0.out x3_1 p264 q264
              obtain rfl : ad261 = ad264 := (by injection e264)
              have HR264_1 := A0q23_ hi264_1
              have HC264_1 := A0q23_ hl264_1
              clear hi264_1 hl264_1
              replace p264 := eq_true p264
              replace q264 := eq_true q264
              have ea_ := Option.some.inj (hx261_1.symm.trans hx264_1)
              injection ea_ with ea_ en_ ec_
              subst ea_
              subst ec_
              clear en_
              have p265 : 0 ≤ (x3_1 : Int) := of_decide_eq_true (by first | (with_reducible assumption) | assumption)
              have q265 : x3_1 < (l0.length : Int) := of_decide_eq_true (by first | (with_reducible assumption) | assumption)
              obtain ⟨ad265, A265_1, c265_1, e265, hx265_0, hx265_1, hl265_1, hi265_1⟩ := at_T49 HR0.out x3_1 p265 q265
              obtain rfl : ad261 = ad265 := (by injection e265)
              have HR265_1 := A0q23_ hi265_1
              have HC265_1 := A0q23_ hl265_1
              clear hi265_1 hl265_1
              replace p265 := eq_true p265
              replace q265 := eq_true q265
              have ea_ := Option.some.inj (hx261_1.symm.trans hx265_1)
              injection ea_ with ea_ en_ ec_
              subst ea_
              subst ec_
              clear en_
              go_wp2
              repeat (go_quiet (fail); try go_wp2)
              go_meet
              case rel => exact ⟨_, (true), (by first | rfl | (simp; done) | (simp [*]; done)), H', ⟨by have := HK1.out; first | omega | exact Nat.le_refl _⟩, by repeat (first | exact Drawn0.refl _ | apply Drawn0.step)⟩
             ·rw [if_neg c13] at H
              have c13b0 : decide ((((rd_T49 l0 x3_1).f1).length : Int) < 1) = false := decide_eq_false c13
              have c13b1 : decide (((rd_T49 l0 x3_1).f1).length < 1) = false := decide_eq_false (by omega)
              clear c13
              have H' := A0q23_ H
              clear H
              have p261 : 0 ≤ (x3_1 : Int) := of_decide_eq_true (by first | (with_reducible assumption) | assumption)
              have q261 : x3_1 < (l0.length : Int) := of_decide_eq_true (by first | (with_reducible assumption) | assumption)
              obtain ⟨ad261, A261_1, c261_1, e261, hx261_0, hx261_1, hl261_1, hi261_1⟩ := at_T49 HR0.out x3_1 p261 q261
              cases e261
              have HR261_1 := A0q23_ hi261_1
              have HC261_1 := A0q23_ hl261_1
              clear hi261_1 hl261_1
              replace p261 := eq_true p261
              replace q261 := eq_true q261
              have p262 : 0 ≤ (x3_1 : Int) := of_decide_eq_true (by first | (with_reducible assumption) | assumption)
              have q262 : x3_1 < (l0.length : Int) := of_decide_eq_true (by first | (with_reducible assumption) | assumption)
              obtain ⟨ad262, A262_1, c262_1, e262, hx262_0, hx262_1, hl262_1, hi262_1⟩ := at_T49 HR0.out x3_1 p262 q262
              obtain rfl : ad261 = ad262 := (by injection e262)
              have HR262_1 := A0q23_ hi262_1
              have HC262_1 := A0q23_ hl262_1
              clear hi262_1 hl262_1
              replace p262 := eq_true p262
              replace q262 := eq_true q262
              have ea_ := Option.some.inj (hx261_1.symm.trans hx262_1)
              injection ea_ with ea_ en_ ec_
              subst ea_
              subst ec_
              clear en_
              have p263 : 0 ≤ ((ji9) : Int) := of_decide_eq_true (by first | (with_reducible assumption) | assumption)
              have q263 : (ji9) < (l0.length : Int) := of_decide_eq_true (by first | (with_reducible assumption) | assumption)
              obtain ⟨ad263, A263_1, c263_1, e263, hx263_0, hx263_1, hl263_1, hi263_1⟩ := at_T49 HR0.out (ji9) p263 q263
              obtain rfl : ad261 = ad263 := (by injection e263)
              have HR263_1 := A0q23_ hi263_1
              have HC263_1 := A0q23_ hl263_1
              clear hi263_1 hl263_1
              replace p263 := eq_true p263
              replace q263 := eq_true q263
              have p264 : 0 ≤ (x3_1 : Int) := of_decide_eq_true (by first | (with_reducible assumption) | assumption)
              have q264 : x3_1 < (l0.length : Int) := of_decide_eq_true (by first | (with_reducible assumption) | assumption)
              obtain ⟨ad264, A264_1, c264_1, e264, hx264_0, hx264_1, hl264_1, hi264_1⟩ := at_T49 HR0.out x3_1 p264 q264
              obtain rfl : ad261 = ad264 := (by injection e264)
              have HR264_1 := A0q23_ hi264_1
              have HC264_1 := A0q23_ hl264_1
              clear hi264_1 hl264_1
              replace p264 := eq_true p264
              replace q264 := eq_true q264
              have ea_ := Option.some.inj (hx261_1.symm.trans hx264_1)
              injection ea_ with ea_ en_ ec_
              subst ea_
              subst ec_
              clear en_
              have p265 : 0 ≤ (x3_1 : Int) := of_decide_eq_true (by first | (with_reducible assumption) | assumption)
              have q265 : x3_1 < (l0.length : Int) := of_decide_eq_true (by first | (with_reducible assumption) | assumption)
              obtain ⟨ad265, A265_1, c265_1, e265, hx265_0, hx265_1, hl265_1, hi265_1⟩ := at_T49 HR0.out x3_1 p265 q265
              obtain rfl : ad261 = ad265 := (by injection e265)
              have HR265_1 := A0q23_ hi265_1
              have HC265_1 := A0q23_ hl265_1
              clear hi265_1 hl265_1
              replace p265 := eq_true p265
              replace q265 := eq_true q265
              have ea_ := Option.some.inj (hx261_1.symm.trans hx265_1)
              injection ea_ with ea_ en_ ec_
              subst ea_
              subst ec_
              clear en_
              have p266 : 0 ≤ (x3_1 : Int) := of_decide_eq_true (by first | (with_reducible assumption) | assumption)
              have q266 : x3_1 < (l0.length : Int) := of_decide_eq_true (by first | (with_reducible assumption) | assumption)
              obtain ⟨ad266, A266_1, c266_1, e266, hx266_0, hx266_1, hl266_1, hi266_1⟩ := at_T49 HR0.out x3_1 p266 q266
              obtain rfl : ad261 = ad266 := (by injection e266)
              have HR266_1 := A0q23_ hi266_1
              have HC266_1 := A0q23_ hl266_1
              clear hi266_1 hl266_1
              replace p266 := eq_true p266
              replace q266 := eq_true q266
              have ea_ := Option.some.inj (hx261_1.symm.trans hx266_1)
              injection ea_ with ea_ en_ ec_
              subst ea_
              subst ec_
              clear en_
              go_wp2
              repeat (go_quiet (fail); try go_wp2)
              go_meet
              case rel => exact ⟨_, (decide ((((rd_T49 l0 x3_1).f1).length : Int) > 32)), (by first | rfl | (simp; done) | (simp [*]; done)), H', ⟨by have := HK1.out; first | omega | exact Nat.le_refl _⟩, by repeat (first | exact Drawn0.refl _ | apply Drawn0.step)⟩
           ·rw [if_neg c11] at H
            exact absurd H (by simp)
          ·rw [if_neg c10] at H
           exact absurd H (by simp)
         ·rw [if_neg c8] at H
          have c8b0 : decide (0 < x3_1) = false := decide_eq_false c8
          clear c8
          by_cases c14 : (((rd_T49 l0 x3_1).f1).length : Int) < 1
          ·rw [if_pos c14] at H
           have c14b0 : decide ((((rd_T49 l0 x3_1).f1).length : Int) < 1) = true := decide_eq_true c14
           have c14b1 : decide (((rd_T49 l0 x3_1).f1).length < 1) = true := decide_eq_true (by omega)
           clear c14
           have H' := A0q23_ H
           clear H
           have p261 : 0 ≤ (x3_1 : Int) := of_decide_eq_true (by first | (with_reducible assumption) | assumption)
           have q261 : x3_1 < (l0.length : Int) := of_decide_eq_true (by first | (with_reducible assumption) | assumption)
           obtain ⟨ad261, A261_1, c261_1, e261, hx261_0, hx261_1, hl261_1, hi261_1⟩ := at_T49 HR0.out x3_1 p261 q261
           cases e261
           have HR261_1 := A0q23_ hi261_1
           have HC261_1 := A0q23_ hl261_1
           clear hi261_1 hl261_1
           replace p261 := eq_true p261
           replace q261 := eq_true q261
           have p262 : 0 ≤ (x3_1 : Int) := of_decide_eq_true (by first | (with_reducible assumption) | assumption)
           have q262 : x3_1 < (l0.length : Int) := of_decide_eq_true (by first | (with_reducible assumption) | assumption)
           obtain ⟨ad262, A262_1, c262_1, e262, hx262_0, hx262_1, hl262_1, hi262_1⟩ := at_T49 HR0.out x3_1 p262 q262
           obtain rfl : ad261 = ad262 := (by injection e262)
           have HR262_1 := A0q23_ hi262_1
           have HC262_1 := A0q23_ hl262_1
           clear hi262_1 hl262_1
           replace p262 := eq_true p262
           replace q262 := eq_true q262
           have ea_ := Option.some.inj (hx261_1.symm.trans hx262_1)
           injection ea_ with ea_ en_ ec_
           subst ea_
           subst ec_
           clear en_
           have p267 : 0 ≤ (x3_1 : Int) := of_decide_eq_true (by first | (with_reducible assumption) | assumption)
           have q267 : x3_1 < (l0.length : Int) := of_decide_eq_true (by first | (with_reducible assumption) | assumption)
           obtain ⟨ad267, A267_1, c267_1, e267, hx267_0, hx267_1, hl267_1, hi267_1⟩ := at_T49 HR0.out x3_1 p267 q267
           obtain rfl : ad261 = ad267 := (by injection e267)
           have HR267_1 := A0q23_ hi267_1
           have HC267_1 := A0q23_ hl267_1
           clear hi267_1 hl267_1
           replace p267 := eq_true p267
           replace q267 := eq_true q267
           have ea_ := Option.some.inj (hx261_1.symm.trans hx267_1)
           injection ea_ with ea_ en_ ec_
           subst ea_
           subst ec_
           clear en_
           go_wp2
           repeat (go_quiet (fail); try go_wp2)
           go_meet
           case rel => exact ⟨_, (true), (by first | rfl | (simp; done) | (simp [*]; done)), H', ⟨by have := HK1.out; first | omega | exact Nat.le_refl _⟩, by repeat (first | exact Drawn0.refl _ | apply Drawn0.step)⟩
          ·rw [if_neg c14] at H
           have c14b0 : decide ((((rd_T49 l0 x3_1).f1).length : Int) < 1) = false := decide_eq_false c14
           have c14b1 : decide (((rd_T49 l0 x3_1).f1).length < 1) = false := decide_eq_false (by omega)
           clear c14
           have H' := A0q23_ H
           clear H
           have p261 : 0 ≤ (x3_1 : Int) := of_decide_eq_true (by first | (with_reducible assumption) | assumption)
           have q261 : x3_1 < (l0.length : Int) := of_decide_eq_true (by first | (with_reducible assumption) | assumption)
           obtain ⟨ad261, A261_1, c261_1, e261, hx261_0, hx261_1, hl261_1, hi261_1⟩ := at_T49 HR0.out x3_1 p261 q261
           cases e261
           have HR261_1 := A0q23_ hi261_1
           have HC261_1 := A0q23_ hl261_1
           clear hi261_1 hl261_1
           replace p261 := eq_true p261
           replace q261 := eq_true q261
           have p262 : 0 ≤ (x3_1 : Int) := of_decide_eq_true (by first | (with_reducible assumption) | assumption)
           have q262 : x3_1 < (l0.length : Int) := of_decide_eq_true (by first | (with_reducible assumption) | assumption)
           obtain ⟨ad262, A262_1, c262_1, e262, hx262_0, hx262_1, hl262_1, hi262_1⟩ := at_T49 HR0.out x3_1 p262 q262
           obtain rfl : ad261 = ad262 := (by injection e262)
           have HR262_1 := A0q23_ hi262_1
           have HC262_1 := A0q23_ hl262_1
           clear hi262_1 hl262_1
           replace p262 := eq_true p262
           replace q262 := eq_true q262
           have ea_ := Option.some.inj (hx261_1.symm.trans hx262_1)
           injection ea_ with ea_ en_ ec_
           subst ea_
           subst ec_
           clear en_
           have p267 : 0 ≤ (x3_1 : Int) := of_decide_eq_true (by first | (with_reducible assumption) | assumption)
           have q267 : x3_1 < (l0.length : Int) := of_decide_eq_true (by first | (with_reducible assumption) | assumption)
           obtain ⟨ad267, A267_1, c267_1, e267, hx267_0, hx267_1, hl267_1, hi267_1⟩ := at_T49 HR0.out x3_1 p267 q267
           obtain rfl : ad261 = ad267 := (by injection e267)
           have HR267_1 := A0q23_ hi267_1
           have HC267_1 := A0q23_ hl267_1
           clear hi267_1 hl267_1
           replace p267 := eq_true p267
           replace q267 := eq_true q267
           have ea_ := Option.some.inj (hx261_1.symm.trans hx267_1)
           injection ea_ with ea_ en_ ec_
           subst ea_
           subst ec_
           clear en_
           have p268 : 0 ≤ (x3_1 : Int) := of_decide_eq_true (by first | (with_reducible assumption) | assumption)
           have q268 : x3_1 < (l0.length : Int) := of_decide_eq_true (by first | (with_reducible assumption) | assumption)
           obtain ⟨ad268, A268_1, c268_1, e268, hx268_0, hx268_1, hl268_1, hi268_1⟩ := at_T49 HR0.out x3_1 p268 q268
           obtain rfl : ad261 = ad268 := (by injection e268)
           have HR268_1 := A0q23_ hi268_1
           have HC268_1 := A0q23_ hl268_1
           clear hi268_1 hl268_1
           replace p268 := eq_true p268
           replace q268 := eq_true q268
           have ea_ := Option.some.inj (hx261_1.symm.trans hx268_1)
           injection ea_ with ea_ en_ ec_
           subst ea_
           subst ec_
           clear en_
           go_wp2
           repeat (go_quiet (fail); try go_wp2)
           go_meet
           case rel => exact ⟨_, (decide ((((rd_T49 l0 x3_1).f1).length : Int) > 32)), (by first | rfl | (simp; done) | (simp [*]; done)), H', ⟨by have := HK1.out; first | omega | exact Nat.le_refl _⟩, by repeat (first | exact Drawn0.refl _ | apply Drawn0.step)⟩
      ·rw [if_neg c5] at H
       exact absurd H (by simp)
     case rest =>
      clear HC4
      try clear c1
      try clear c2
      try clear c2b0
      try clear c2b1
      try clear p2
      try clear q2
      try clear hx2
      try clear c3
      try clear c3b0
      try clear c4
      try clear c5
      try clear c5b0
      try clear c6
      try clear c6b0
      try clear p6
      try clear c7
      try clear c7b0
      try clear c8
      try clear c8b0
      try clear c10
      try clear c10b0
      try clear c11
      try clear c11b0
      try clear c12
      try clear c12b0
      try clear c13
      try clear c13b0
      try clear c13b1
      try clear c14
      try clear c14b0
      try clear c14b1
      try clear hx261_0
      try clear hx261_1
      try clear hx262_0
      try clear hx262_1
      try clear hx263_0
      try clear hx263_1
      try clear hx264_0
      try clear hx264_1
      try clear hx265_0
      try clear hx265_1
      try clear hx266_0
      try clear hx266_1
      try clear hx267_0
      try clear hx267_1
      try clear hx268_0
      try clear hx268_1
      try clear p2
      try clear p261
      try clear p262
      try clear p263
      try clear p264
      try clear p265
      try clear p266
      try clear p267
      try clear p268
      try clear q261
      try clear q262
      try clear q263
      try clear q264
      try clear q265
      try clear q266
      try clear q267
      try clear q268
      obtain ⟨kq, x63_3, rfl, HA, HJ3, ⟨mc3, rfl⟩⟩ := hcut
      cases kq with
      | zero => exact absurd HA.out (by simp [counterfoilref07_Right.j1])
      | succ kj3 =>
       have H := HA.out
       clear HA
       simp only [counterfoilref07_Right.j1] at H
       by_cases c15 : x63_3 = true
       ·subst c15
        have H1 : (some false) = some r := by rw [if_pos rfl] at H; exact H
        clear H
        have H := H1
        clear H1
        obtain rfl := Option.some.inj H
        go_wp2
        repeat (go_quiet (fail); try go_wp2)
        go_ret
        exact ⟨by first | rfl | (simp; done) | (simp [*]; done), by repeat (first | exact Drawn0.refl _ | apply Drawn0.step)⟩
       ·replace c15 := Bool.eq_false_iff.mpr c15
        subst c15
        have H1 : (counterfoilref07_Right.l1 kj3 l0 x3_1 0) = some r := by rw [if_neg (show ¬ (false = true) by decide)] at H; exact H
        clear H
        have H := H1
        clear H1
        have H' := A0q23_ H
        clear H
        go_wp2
        repeat (go_quiet (fail); try go_wp2)
        go_loopg [4] kj3 (fun kq v4 w' => ∃ (x4_3 : Int), v4 = .int .i64 x4_3 ∧ Aside0 (counterfoilref07_Right.l1 kq l0 x3_1 x4_3 = some r) ∧ Aside0 (kq ≤ kj3) ∧ Drawn0 w w')
        case atStart => exact ⟨(0), (by first | rfl | (simp; done) | (simp [*]; done)), H', ⟨Nat.le_refl _⟩, by repeat (first | exact Drawn0.refl _ | apply Drawn0.step)⟩
        case round =>
         clear H'
         try clear c1
         try clear c2
         try clear c2b0
         try clear c2b1
         try clear p2
         try clear q2
         try clear hx2
         try clear c3
         try clear c3b0
         try clear c4
         try clear c5
         try clear c5b0
         try clear c6
         try clear c6b0
         try clear p6
         try clear c7
         try clear c7b0
         try clear c8
         try clear c8b0
         try clear c10
         try clear c10b0
         try clear c11
         try clear c11b0
         try clear c12
         try clear c12b0
         try clear c13
         try clear c13b0
         try clear c13b1
         try clear c14
         try clear c14b0
         try clear c14b1
         try clear c15
         try clear hx261_0
         try clear hx261_1
         try clear hx262_0
         try clear hx262_1
         try clear hx263_0
         try clear hx263_1
         try clear hx264_0
         try clear hx264_1
         try clear hx265_0
         try clear hx265_1
         try clear hx266_0
         try clear hx266_1
         try clear hx267_0
         try clear hx267_1
         try clear hx268_0
         try clear hx268_1
         try clear p2
         try clear p261
         try clear p262
         try clear p263
         try clear p264
         try clear p265
         try clear p266
         try clear p267
         try clear p268
         try clear p6
         try clear q2
         try clear q261
         try clear q262
         try clear q263
         try clear q264
         try clear q265
         try clear q266
         try clear q267
         try clear q268
         obtain ⟨x4_3, rfl, HA, HK3, ⟨m3, rfl⟩⟩ := hrel
         cases gk with
         | zero => exact absurd HA.out (by simp [counterfoilref07_Right.l1])
         | succ k3 =>
          have H := HA.out
          clear HA
          simp only [counterfoilref07_Right.l1] at H
          by_cases c16 : 0 ≤ x3_1
          ·rw [if_pos c16] at H
           have c16b0 : decide (0 ≤ x3_1) = true := decide_eq_true c16
           clear c16
           by_cases c17 : x3_1 < (l0.length : Int)
           ·rw [if_pos c17] at H
            have c17b0 : decide (x3_1 < (l0.length : Int)) = true := decide_eq_true c17
            clear c17
            by_cases c18 : x4_3 < (((rd_T49 l0 x3_1).f1).length : Int)
            ·rw [if_pos c18] at H
             have c18b0 : decide (x4_3 < (((rd_T49 l0 x3_1).f1).length : Int)) = true := decide_eq_true c18
             clear c18
             by_cases c19 : 0 ≤ x4_3
             ·rw [if_pos c19] at H
              have c19b0 : decide (0 ≤ x4_3) = true := decide_eq_true c19
              clear c19
              by_cases c20 : ((rdOf ByteArray.empty ((rd_T49 l0 x3_1).f1) x4_3).size : Int) > 8
              ·rw [if_pos c20] at H
               have c20b0 : decide (8 < ((rdOf ByteArray.empty ((rd_T49 l0 x3_1).f1) x4_3).size : Int)) = true := decide_eq_true c20
               have c20b1 : decide (8 < (rdOf ByteArray.empty ((rd_T49 l0 x3_1).f1) x4_3).size) = true := decide_eq_true (by omega)
               clear c20
               obtain rfl := Option.some.inj H
               have p269 : 0 ≤ (x3_1 : Int) := of_decide_eq_true (by first | (with_reducible assumption) | assumption)
               have q269 : x3_1 < (l0.length : Int) := of_decide_eq_true (by first | (with_reducible assumption) | assumption)
               obtain ⟨ad269, A269_1, c269_1, e269, hx269_0, hx269_1, hl269_1, hi269_1⟩ := at_T49 HR0.out x3_1 p269 q269
               cases e269
               have HR269_1 := A0q23_ hi269_1
               have HC269_1 := A0q23_ hl269_1
               clear hi269_1 hl269_1
               replace p269 := eq_true p269
               replace q269 := eq_true q269
               have p270 : 0 ≤ (x3_1 : Int) := of_decide_eq_true (by first | (with_reducible assumption) | assumption)
               have q270 : x3_1 < (l0.length : Int) := of_decide_eq_true (by first | (with_reducible assumption) | assumption)
               obtain ⟨ad270, A270_1, c270_1, e270, hx270_0, hx270_1, hl270_1, hi270_1⟩ := at_T49 HR0.out x3_1 p270 q270
               obtain rfl : ad269 = ad270 := (by injection e270)
               have HR270_1 := A0q23_ hi270_1
               have HC270_1 := A0q23_ hl270_1
               clear hi270_1 hl270_1
               replace p270 := eq_true p270
               replace q270 := eq_true q270
               have ea_ := Option.some.inj (hx269_1.symm.trans hx270_1)
               injection ea_ with ea_ en_ ec_
               subst ea_
               subst ec_
               clear en_
               have p271 : 0 ≤ (x4_3 : Int) := of_decide_eq_true (by first | (with_reducible assumption) | assumption)
               have q271 : x4_3 < (((rd_T49 l0 x3_1).f1).length : Int) := of_decide_eq_true (by first | (with_reducible assumption) | assumption)
               obtain ⟨ad271, e271, hx271_0⟩ := Kd.at_string HR270_1.out x4_3 p271 q271
               cases e271
               replace p271 := eq_true p271
               replace q271 := eq_true q271
               go_wp2
               repeat (go_quiet (fail); try go_wp2)
               go_ret
               exact ⟨by first | rfl | (simp; done) | (simp [*]; done), by repeat (first | exact Drawn0.refl _ | apply Drawn0.step)⟩
              ·rw [if_neg c20] at H
               have c20b0 : decide (8 < ((rdOf ByteArray.empty ((rd_T49 l0 x3_1).f1) x4_3).size : Int)) = false := decide_eq_false c20
               have c20b1 : decide (8 < (rdOf ByteArray.empty ((rd_T49 l0 x3_1).f1) x4_3).size) = false := decide_eq_false (by omega)
               clear c20
               have H' := A0q23_ H
               clear H
               have p269 : 0 ≤ (x3_1 : Int) := of_decide_eq_true (by first | (with_reducible assumption) | assumption)
               have q269 : x3_1 < (l0.length : Int) := of_decide_eq_true (by first | (with_reducible assumption) | assumption)
               obtain ⟨ad269, A269_1, c269_1, e269, hx269_0, hx269_1, hl269_1, hi269_1⟩ := at_T49 HR0.out x3_1 p269 q269
               cases e269
               have HR269_1 := A0q23_ hi269_1
               have HC269_1 := A0q23_ hl269_1
               clear hi269_1 hl269_1
               replace p269 := eq_true p269
               replace q269 := eq_true q269
               have p270 : 0 ≤ (x3_1 : Int) := of_decide_eq_true (by first | (with_reducible assumption) | assumption)
               have q270 : x3_1 < (l0.length : Int) := of_decide_eq_true (by first | (with_reducible assumption) | assumption)
               obtain ⟨ad270, A270_1, c270_1, e270, hx270_0, hx270_1, hl270_1, hi270_1⟩ := at_T49 HR0.out x3_1 p270 q270
               obtain rfl : ad269 = ad270 := (by injection e270)
               have HR270_1 := A0q23_ hi270_1
               have HC270_1 := A0q23_ hl270_1
               clear hi270_1 hl270_1
               replace p270 := eq_true p270
               replace q270 := eq_true q270
               have ea_ := Option.some.inj (hx269_1.symm.trans hx270_1)
               injection ea_ with ea_ en_ ec_
               subst ea_
               subst ec_
               clear en_
               have p271 : 0 ≤ (x4_3 : Int) := of_decide_eq_true (by first | (with_reducible assumption) | assumption)
               have q271 : x4_3 < (((rd_T49 l0 x3_1).f1).length : Int) := of_decide_eq_true (by first | (with_reducible assumption) | assumption)
               obtain ⟨ad271, e271, hx271_0⟩ := Kd.at_string HR270_1.out x4_3 p271 q271
               cases e271
               replace p271 := eq_true p271
               replace q271 := eq_true q271
               go_wp2
               repeat (go_quiet (fail); try go_wp2)
               go_roundg k3
               case measure => have := HK1.out; have := HJ3.out; have := HK3.out; omega
               case rel => exact ⟨(wrap64 (x4_3 + 1)), (by first | rfl | (simp; done) | (simp [*]; done)), H', ⟨by have := HK1.out; have := HJ3.out; have := HK3.out; omega⟩, by repeat (first | exact Drawn0.refl _ | apply Drawn0.step)⟩
             ·rw [if_neg c19] at H
              exact absurd H (by simp)
            ·rw [if_neg c18] at H
             have c18b0 : decide (x4_3 < (((rd_T49 l0 x3_1).f1).length : Int)) = false := decide_eq_false c18
             clear c18
             have H' := A0q23_ H
             clear H
             have p269 : 0 ≤ (x3_1 : Int) := of_decide_eq_true (by first | (with_reducible assumption) | assumption)
             have q269 : x3_1 < (l0.length : Int) := of_decide_eq_true (by first | (with_reducible assumption) | assumption)
             obtain ⟨ad269, A269_1, c269_1, e269, hx269_0, hx269_1, hl269_1, hi269_1⟩ := at_T49 HR0.out x3_1 p269 q269
             cases e269
             have HR269_1 := A0q23_ hi269_1
             have HC269_1 := A0q23_ hl269_1
             clear hi269_1 hl269_1
             replace p269 := eq_true p269
             replace q269 := eq_true q269
             go_wp2
             repeat (go_quiet (fail); try go_wp2)
             go_roundg k3
             case measure => have := HK1.out; have := HJ3.out; have := HK3.out; omega
             case rel => exact ⟨(wrap64 (x3_1 + 1)), (by first | rfl | (simp; done) | (simp [*]; done)), H', ⟨by have := HK1.out; have := HJ3.out; have := HK3.out; omega⟩, by repeat (first | exact Drawn0.refl _ | apply Drawn0.step)⟩
           ·rw [if_neg c17] at H
            exact absurd H (by simp)
          ·rw [if_neg c16] at H
           exact absurd H (by simp)
    ·rw [if_neg c3] at H
     have c3b0 : decide (x3_1 < (l0.length : Int)) = false := decide_eq_false c3
     clear c3
     obtain rfl := Option.some.inj H
     go_wp2
     repeat (go_quiet (fail); try go_wp2)
     go_ret
     exact ⟨by first | rfl | (simp; done) | (simp [*]; done), by repeat (first | exact Drawn0.refl _ | apply Drawn0.step)⟩
end Go.Proofs.Ythdhkoeaadahaaa.P
