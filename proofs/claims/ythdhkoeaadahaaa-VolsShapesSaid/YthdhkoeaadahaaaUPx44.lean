-- PACKED by wip/kit/pack.py: what the law's proof uses of Px44 (printed words and texts of this seat)
import Derived.Test.YthdhkoeaadahaaaUPx0
namespace Go.Proofs.Ythdhkoeaadahaaa.P
open Go.RowKit Go.Proofs.YthdhkoeaadahaaaW.PrintWords Go.Proofs.YthdhkoeaadahaaaW.PrintLast Go.Proofs.YthdhkoeaadahaaaW.PrintMore
attribute [local go_sem] max2_int min2_int max_two min_two max_three min_three max_four min_four
set_option linter.unusedVariables false
set_option linter.unusedSimpArgs false
mutual
def counterfoilref07_Equal.l0 : Nat → List (S49) → List (S49) → Int → Option (Bool)
  | 0, _, _, _ => none
  | k + 1, x0, x1, x5 => if x5 < (x0.length : Int) then (if 0 ≤ x5 then (if x5 < (x1.length : Int) then (if ((rd_T49 x0 x5).f0) = ((rd_T49 x1 x5).f0) then (counterfoilref07_Equal.j1 k x0 x1 x5 ((((rd_T49 x0 x5).f1).length : Int) != (((rd_T49 x1 x5).f1).length : Int))) else (counterfoilref07_Equal.j1 k x0 x1 x5 true)) else (none)) else (none)) else (some true)
def counterfoilref07_Equal.j1 : Nat → List (S49) → List (S49) → Int → Bool → Option (Bool)
  | 0, _, _, _, _ => none
  | k + 1, x0, x1, x5, x43 => if x43 = true then (some false) else (counterfoilref07_Equal.l1 k x0 x1 x5 0)
def counterfoilref07_Equal.l1 : Nat → List (S49) → List (S49) → Int → Int → Option (Bool)
  | 0, _, _, _, _ => none
  | k + 1, x0, x1, x5, x6 => if 0 ≤ x5 then (if x5 < (x0.length : Int) then (if x6 < (((rd_T49 x0 x5).f1).length : Int) then (if 0 ≤ x6 then (if x5 < (x1.length : Int) then (if x6 < (((rd_T49 x1 x5).f1).length : Int) then (if (rdOf ByteArray.empty ((rd_T49 x0 x5).f1) x6).toList = (rdOf ByteArray.empty ((rd_T49 x1 x5).f1) x6).toList then (counterfoilref07_Equal.l1 k x0 x1 x5 (wrap64 (x6 + 1))) else (some false)) else (none)) else (none)) else (none)) else (counterfoilref07_Equal.l0 k x0 x1 (wrap64 (x5 + 1)))) else (none)) else (none)
end
def counterfoilref07_Equal.f (k : Nat) (l0 : List (S49)) (l1 : List (S49)) : Option (Bool) := if (l0.length : Int) = (l1.length : Int) then (counterfoilref07_Equal.l0 k l0 l1 0) else (some false)
set_option maxHeartbeats 8000000 in
set_option maxRecDepth 100000 in
theorem counterfoilref07_Equal.calls (k : Nat) (A0 : Option Addr) (c0 : Nat) (l0 : List (S49)) (A1 : Option Addr) (c1 : Nat) (l1 : List (S49)) (r : Bool) (w : World) (hr0 : Kd.C k49 w A0 l0.length l0) (hc0 : l0.length ≤ c0) (hr1 : Kd.C k49 w A1 l1.length l1) (hc1 : l1.length ≤ c1) (h : counterfoilref07_Equal.f k l0 l1 = some r) :
    Calls Try.prog 45 #[.slice A0 l0.length c0, .slice A1 l1.length c1] w fun e w' => e = .returned (.bool r) ∧ Drawn0 w w' := by
  have HR0 := Aside0.mk hr0
  have HC0 := Aside0.mk hc0
  clear hr0 hc0
  have HR1 := Aside0.mk hr1
  have HC1 := Aside0.mk hc1
  clear hr1 hc1
  have H : (if (l0.length : Int) = (l1.length : Int) then (counterfoilref07_Equal.l0 k l0 l1 0) else (some false)) = some r := h
  clear h
  by_cases c3 : (l0.length : Int) = (l1.length : Int)
  · rw [if_pos c3] at H
    have c3b0 : ((l0.length : Int) == (l1.length : Int)) = true := beq_iff_eq.mpr c3
    have c3b1 : ((l0.length : Int) != (l1.length : Int)) = false := bne_eq_false_iff_eq.mpr c3
    have c3b2 : (l0.length == l1.length) = true := by first | simpa using c3 | (simp at c3 ⊢; omega)
    clear c3
    have H' := Aside0.mk H
    clear H
    go_enter Try.func45, Try.ntmps45
    go_wp2
    repeat (go_quiet (fail); try go_wp2)
    go_loopg [5] k (fun kq v5 w' => ∃ (x5_1 : Int), v5 = .int .i64 x5_1 ∧ Aside0 (counterfoilref07_Equal.l0 kq l0 l1 x5_1 = some r) ∧ Aside0 (kq ≤ k) ∧ Drawn0 w w')
    case atStart => exact ⟨(0), (by first | rfl | (simp; done) | (simp [*]; done)), H', ⟨Nat.le_refl _⟩, by repeat (first | exact Drawn0.refl _ | apply Drawn0.step)⟩
    case round =>
      clear H'
      try clear c1
      try clear p2
      try clear c3
      try clear c3b0
      try clear c3b1
      try clear c3b2
      obtain ⟨x5_1, rfl, HA, HK1, ⟨m1, rfl⟩⟩ := hrel
      cases gk with
      | zero => exact absurd HA.out (by simp [counterfoilref07_Equal.l0])
      | succ k1 =>
        have H := HA.out
        clear HA
        simp only [counterfoilref07_Equal.l0] at H
        by_cases c4 : x5_1 < (l0.length : Int)
        · rw [if_pos c4] at H
          have c4b0 : decide (x5_1 < (l0.length : Int)) = true := decide_eq_true c4
          clear c4
          have HC5 := Aside0.mk H
          clear H
          go_upto_region 6 with (fail)
          repeat (go_quiet (fail); go_upto_region 6 with (fail))
          go_cut [43] (fun v43 wc => ∃ (kq : Nat) (x43_4 : Bool), v43 = .bool x43_4 ∧ Aside0 (counterfoilref07_Equal.j1 kq l0 l1 x5_1 x43_4 = some r) ∧ Aside0 (kq ≤ k1) ∧ Drawn0 w wc)
          case first =>
            have H := HC5.out
            clear HC5
            by_cases c6 : 0 ≤ x5_1
            · rw [if_pos c6] at H
              have c6b0 : decide (0 ≤ x5_1) = true := decide_eq_true c6
              clear c6
              (first | rw [c6b0] | (simp only [i64_w, i32_w]; rw [c6b0]) | skip)
              by_cases c7 : x5_1 < (l1.length : Int)
              · rw [if_pos c7] at H
                have c7b0 : decide (x5_1 < (l1.length : Int)) = true := decide_eq_true c7
                clear c7
                by_cases c8 : ((rd_T49 l0 x5_1).f0) = ((rd_T49 l1 x5_1).f0)
                · rw [if_pos c8] at H
                  have c8b0 : (((rd_T49 l0 x5_1).f0) == ((rd_T49 l1 x5_1).f0)) = true := beq_iff_eq.mpr c8
                  have c8b1 : (((rd_T49 l0 x5_1).f0) != ((rd_T49 l1 x5_1).f0)) = false := bne_eq_false_iff_eq.mpr c8
                  clear c8
                  have H' := Aside0.mk H
                  clear H
                  have p317 : 0 ≤ (x5_1 : Int) := of_decide_eq_true (by first | (with_reducible assumption) | assumption)
                  have q317 : x5_1 < (l0.length : Int) := of_decide_eq_true (by first | (with_reducible assumption) | assumption)
                  obtain ⟨ad317, A317_1, c317_1, e317, hx317_0, hx317_1, hl317_1, hi317_1⟩ := at_T49 HR0.out x5_1 p317 q317
                  cases e317
                  have HR317_1 := Aside0.mk hi317_1
                  have HC317_1 := Aside0.mk hl317_1
                  clear hi317_1 hl317_1
                  replace p317 := eq_true p317
                  replace q317 := eq_true q317
                  have p318 : 0 ≤ (x5_1 : Int) := of_decide_eq_true (by first | (with_reducible assumption) | assumption)
                  have q318 : x5_1 < (l1.length : Int) := of_decide_eq_true (by first | (with_reducible assumption) | assumption)
                  obtain ⟨ad318, A318_1, c318_1, e318, hx318_0, hx318_1, hl318_1, hi318_1⟩ := at_T49 HR1.out x5_1 p318 q318
                  cases e318
                  have HR318_1 := Aside0.mk hi318_1
                  have HC318_1 := Aside0.mk hl318_1
                  clear hi318_1 hl318_1
                  replace p318 := eq_true p318
                  replace q318 := eq_true q318
                  have p319 : 0 ≤ (x5_1 : Int) := of_decide_eq_true (by first | (with_reducible assumption) | assumption)
                  have q319 : x5_1 < (l0.length : Int) := of_decide_eq_true (by first | (with_reducible assumption) | assumption)
                  obtain ⟨ad319, A319_1, c319_1, e319, hx319_0, hx319_1, hl319_1, hi319_1⟩ := at_T49 HR0.out x5_1 p319 q319
                  obtain rfl : ad317 = ad319 := (by injection e319)
                  have HR319_1 := Aside0.mk hi319_1
                  have HC319_1 := Aside0.mk hl319_1
                  clear hi319_1 hl319_1
                  replace p319 := eq_true p319
                  replace q319 := eq_true q319
                  have ea_ := Option.some.inj (hx317_1.symm.trans hx319_1)
                  injection ea_ with ea_ en_ ec_
                  subst ea_
                  subst ec_
                  clear en_
                  have p320 : 0 ≤ (x5_1 : Int) := of_decide_eq_true (by first | (with_reducible assumption) | assumption)
                  have q320 : x5_1 < (l1.length : Int) := of_decide_eq_true (by first | (with_reducible assumption) | assumption)
                  obtain ⟨ad320, A320_1, c320_1, e320, hx320_0, hx320_1, hl320_1, hi320_1⟩ := at_T49 HR1.out x5_1 p320 q320
                  obtain rfl : ad318 = ad320 := (by injection e320)
                  have HR320_1 := Aside0.mk hi320_1
                  have HC320_1 := Aside0.mk hl320_1
                  clear hi320_1 hl320_1
                  replace p320 := eq_true p320
                  replace q320 := eq_true q320
                  have ea_ := Option.some.inj (hx318_1.symm.trans hx320_1)
                  injection ea_ with ea_ en_ ec_
                  subst ea_
                  subst ec_
                  clear en_
                  go_wp2
                  repeat (go_quiet (fail); try go_wp2)
                  go_meet
                  case rel => exact ⟨_, (((((rd_T49 l0 x5_1).f1).length : Int) != (((rd_T49 l1 x5_1).f1).length : Int))), (by first | rfl | (simp; done) | (simp [*]; done)), H', ⟨by have := HK1.out; first | omega | exact Nat.le_refl _⟩, by repeat (first | exact Drawn0.refl _ | apply Drawn0.step)⟩
                · rw [if_neg c8] at H
                  have c8b0 : (((rd_T49 l0 x5_1).f0) == ((rd_T49 l1 x5_1).f0)) = false := beq_eq_false_iff_ne.mpr c8
                  have c8b1 : (((rd_T49 l0 x5_1).f0) != ((rd_T49 l1 x5_1).f0)) = true := bne_iff_ne.mpr c8
                  have H' := Aside0.mk H
                  clear H
                  have p317 : 0 ≤ (x5_1 : Int) := of_decide_eq_true (by first | (with_reducible assumption) | assumption)
                  have q317 : x5_1 < (l0.length : Int) := of_decide_eq_true (by first | (with_reducible assumption) | assumption)
                  obtain ⟨ad317, A317_1, c317_1, e317, hx317_0, hx317_1, hl317_1, hi317_1⟩ := at_T49 HR0.out x5_1 p317 q317
                  cases e317
                  have HR317_1 := Aside0.mk hi317_1
                  have HC317_1 := Aside0.mk hl317_1
                  clear hi317_1 hl317_1
                  replace p317 := eq_true p317
                  replace q317 := eq_true q317
                  have p318 : 0 ≤ (x5_1 : Int) := of_decide_eq_true (by first | (with_reducible assumption) | assumption)
                  have q318 : x5_1 < (l1.length : Int) := of_decide_eq_true (by first | (with_reducible assumption) | assumption)
                  obtain ⟨ad318, A318_1, c318_1, e318, hx318_0, hx318_1, hl318_1, hi318_1⟩ := at_T49 HR1.out x5_1 p318 q318
                  cases e318
                  have HR318_1 := Aside0.mk hi318_1
                  have HC318_1 := Aside0.mk hl318_1
                  clear hi318_1 hl318_1
                  replace p318 := eq_true p318
                  replace q318 := eq_true q318
                  go_wp2
                  repeat (go_quiet (fail); try go_wp2)
                  go_meet
                  case rel => exact ⟨_, (true), (by first | rfl | (simp; done) | (simp [*]; done)), H', ⟨by have := HK1.out; first | omega | exact Nat.le_refl _⟩, by repeat (first | exact Drawn0.refl _ | apply Drawn0.step)⟩
              · rw [if_neg c7] at H
                exact absurd H (by simp)
            · rw [if_neg c6] at H
              exact absurd H (by simp)
          case rest =>
            clear HC5
            try clear c1
            try clear p2
            try clear c3
            try clear c3b0
            try clear c3b1
            try clear c3b2
            try clear p3
            try clear q3
            try clear hx3
            try clear c4
            try clear c4b0
            try clear c6
            try clear c6b0
            try clear c7
            try clear c7b0
            try clear c8
            try clear c8b0
            try clear c8b1
            try clear hx317_0
            try clear hx317_1
            try clear hx318_0
            try clear hx318_1
            try clear hx319_0
            try clear hx319_1
            try clear hx320_0
            try clear hx320_1
            try clear p2
            try clear p317
            try clear p318
            try clear p319
            try clear p320
            try clear q317
            try clear q318
            try clear q319
            try clear q320
            obtain ⟨kq, x43_4, rfl, HA, HJ4, ⟨mc4, rfl⟩⟩ := hcut
            cases kq with
            | zero => exact absurd HA.out (by simp [counterfoilref07_Equal.j1])
            | succ kj4 =>
              have H := HA.out
              clear HA
              simp only [counterfoilref07_Equal.j1] at H
              by_cases c9 : x43_4 = true
              · subst c9
                have H1 : (some false) = some r := by rw [if_pos rfl] at H; exact H
                clear H
                have H := H1
                clear H1
                obtain rfl := Option.some.inj H
                go_wp2
                repeat (go_quiet (fail); try go_wp2)
                go_ret
                exact ⟨by first | rfl | (simp; done) | (simp [*]; done), by repeat (first | exact Drawn0.refl _ | apply Drawn0.step)⟩
              · replace c9 := Bool.eq_false_iff.mpr c9
                subst c9
                have H1 : (counterfoilref07_Equal.l1 kj4 l0 l1 x5_1 0) = some r := by rw [if_neg (show ¬ (false = true) by decide)] at H; exact H
                clear H
                have H := H1
                clear H1
                have H' := Aside0.mk H
                clear H
                go_wp2
                repeat (go_quiet (fail); try go_wp2)
                go_loopg [6] kj4 (fun kq v6 w' => ∃ (x6_3 : Int), v6 = .int .i64 x6_3 ∧ Aside0 (counterfoilref07_Equal.l1 kq l0 l1 x5_1 x6_3 = some r) ∧ Aside0 (kq ≤ kj4) ∧ Drawn0 w w')
                case atStart => exact ⟨(0), (by first | rfl | (simp; done) | (simp [*]; done)), H', ⟨Nat.le_refl _⟩, by repeat (first | exact Drawn0.refl _ | apply Drawn0.step)⟩
                case round =>
                  clear H'
                  try clear c1
                  try clear p2
                  try clear c3
                  try clear c3b0
                  try clear c3b1
                  try clear c3b2
                  try clear p3
                  try clear q3
                  try clear hx3
                  try clear c4
                  try clear c4b0
                  try clear c6
                  try clear c6b0
                  try clear c7
                  try clear c7b0
                  try clear c8
                  try clear c8b0
                  try clear c8b1
                  try clear c9
                  try clear hx317_0
                  try clear hx317_1
                  try clear hx318_0
                  try clear hx318_1
                  try clear hx319_0
                  try clear hx319_1
                  try clear hx320_0
                  try clear hx320_1
                  try clear p2
                  try clear p3
                  try clear p317
                  try clear p318
                  try clear p319
                  try clear p320
                  try clear q3
                  try clear q317
                  try clear q318
                  try clear q319
                  try clear q320
                  obtain ⟨x6_3, rfl, HA, HK3, ⟨m3, rfl⟩⟩ := hrel
                  cases gk with
                  | zero => exact absurd HA.out (by simp [counterfoilref07_Equal.l1])
                  | succ k3 =>
                    have H := HA.out
                    clear HA
                    simp only [counterfoilref07_Equal.l1] at H
                    by_cases c10 : 0 ≤ x5_1
                    · rw [if_pos c10] at H
                      have c10b0 : decide (0 ≤ x5_1) = true := decide_eq_true c10
                      clear c10
                      by_cases c11 : x5_1 < (l0.length : Int)
                      · rw [if_pos c11] at H
                        have c11b0 : decide (x5_1 < (l0.length : Int)) = true := decide_eq_true c11
                        clear c11
                        by_cases c12 : x6_3 < (((rd_T49 l0 x5_1).f1).length : Int)
                        · rw [if_pos c12] at H
                          have c12b0 : decide (x6_3 < (((rd_T49 l0 x5_1).f1).length : Int)) = true := decide_eq_true c12
                          clear c12
                          by_cases c13 : 0 ≤ x6_3
                          · rw [if_pos c13] at H
                            have c13b0 : decide (0 ≤ x6_3) = true := decide_eq_true c13
                            clear c13
                            by_cases c14 : x5_1 < (l1.length : Int)
                            · rw [if_pos c14] at H
                              have c14b0 : decide (x5_1 < (l1.length : Int)) = true := decide_eq_true c14
                              clear c14
                              by_cases c15 : x6_3 < (((rd_T49 l1 x5_1).f1).length : Int)
                              · rw [if_pos c15] at H
                                have c15b0 : decide (x6_3 < (((rd_T49 l1 x5_1).f1).length : Int)) = true := decide_eq_true c15
                                clear c15
                                by_cases c16 : (rdOf ByteArray.empty ((rd_T49 l0 x5_1).f1) x6_3).toList = (rdOf ByteArray.empty ((rd_T49 l1 x5_1).f1) x6_3).toList
                                · rw [if_pos c16] at H
                                  have c16b0 : ((rdOf ByteArray.empty ((rd_T49 l0 x5_1).f1) x6_3).toList == (rdOf ByteArray.empty ((rd_T49 l1 x5_1).f1) x6_3).toList) = true := beq_iff_eq.mpr c16
                                  have c16b1 : ((rdOf ByteArray.empty ((rd_T49 l0 x5_1).f1) x6_3).toList != (rdOf ByteArray.empty ((rd_T49 l1 x5_1).f1) x6_3).toList) = false := bne_eq_false_iff_eq.mpr c16
                                  clear c16
                                  have H' := Aside0.mk H
                                  clear H
                                  have p321 : 0 ≤ (x5_1 : Int) := of_decide_eq_true (by first | (with_reducible assumption) | assumption)
                                  have q321 : x5_1 < (l0.length : Int) := of_decide_eq_true (by first | (with_reducible assumption) | assumption)
                                  obtain ⟨ad321, A321_1, c321_1, e321, hx321_0, hx321_1, hl321_1, hi321_1⟩ := at_T49 HR0.out x5_1 p321 q321
                                  cases e321
                                  have HR321_1 := Aside0.mk hi321_1
                                  have HC321_1 := Aside0.mk hl321_1
                                  clear hi321_1 hl321_1
                                  replace p321 := eq_true p321
                                  replace q321 := eq_true q321
                                  have p322 : 0 ≤ (x5_1 : Int) := of_decide_eq_true (by first | (with_reducible assumption) | assumption)
                                  have q322 : x5_1 < (l0.length : Int) := of_decide_eq_true (by first | (with_reducible assumption) | assumption)
                                  obtain ⟨ad322, A322_1, c322_1, e322, hx322_0, hx322_1, hl322_1, hi322_1⟩ := at_T49 HR0.out x5_1 p322 q322
                                  obtain rfl : ad321 = ad322 := (by injection e322)
                                  have HR322_1 := Aside0.mk hi322_1
                                  have HC322_1 := Aside0.mk hl322_1
                                  clear hi322_1 hl322_1
                                  replace p322 := eq_true p322
                                  replace q322 := eq_true q322
                                  have ea_ := Option.some.inj (hx321_1.symm.trans hx322_1)
                                  injection ea_ with ea_ en_ ec_
                                  subst ea_
                                  subst ec_
                                  clear en_
                                  have p323 : 0 ≤ (x6_3 : Int) := of_decide_eq_true (by first | (with_reducible assumption) | assumption)
                                  have q323 : x6_3 < (((rd_T49 l0 x5_1).f1).length : Int) := of_decide_eq_true (by first | (with_reducible assumption) | assumption)
                                  obtain ⟨ad323, e323, hx323_0⟩ := Kd.at_string HR322_1.out x6_3 p323 q323
                                  cases e323
                                  replace p323 := eq_true p323
                                  replace q323 := eq_true q323
                                  have p324 : 0 ≤ (x5_1 : Int) := of_decide_eq_true (by first | (with_reducible assumption) | assumption)
                                  have q324 : x5_1 < (l1.length : Int) := of_decide_eq_true (by first | (with_reducible assumption) | assumption)
                                  obtain ⟨ad324, A324_1, c324_1, e324, hx324_0, hx324_1, hl324_1, hi324_1⟩ := at_T49 HR1.out x5_1 p324 q324
                                  cases e324
                                  have HR324_1 := Aside0.mk hi324_1
                                  have HC324_1 := Aside0.mk hl324_1
                                  clear hi324_1 hl324_1
                                  replace p324 := eq_true p324
                                  replace q324 := eq_true q324
                                  have p325 : 0 ≤ (x6_3 : Int) := of_decide_eq_true (by first | (with_reducible assumption) | assumption)
                                  have q325 : x6_3 < (((rd_T49 l1 x5_1).f1).length : Int) := of_decide_eq_true (by first | (with_reducible assumption) | assumption)
                                  obtain ⟨ad325, e325, hx325_0⟩ := Kd.at_string HR324_1.out x6_3 p325 q325
                                  cases e325
                                  replace p325 := eq_true p325
                                  replace q325 := eq_true q325
                                  go_wp2
                                  repeat (go_quiet (fail); try go_wp2)
                                  go_roundg k3
                                  case measure => have := HK1.out; have := HJ4.out; have := HK3.out; omega
                                  case rel => exact ⟨(wrap64 (x6_3 + 1)), (by first | rfl | (simp; done) | (simp [*]; done)), H', ⟨by have := HK1.out; have := HJ4.out; have := HK3.out; omega⟩, by repeat (first | exact Drawn0.refl _ | apply Drawn0.step)⟩
                                · rw [if_neg c16] at H
                                  have c16b0 : ((rdOf ByteArray.empty ((rd_T49 l0 x5_1).f1) x6_3).toList == (rdOf ByteArray.empty ((rd_T49 l1 x5_1).f1) x6_3).toList) = false := beq_eq_false_iff_ne.mpr c16
                                  have c16b1 : ((rdOf ByteArray.empty ((rd_T49 l0 x5_1).f1) x6_3).toList != (rdOf ByteArray.empty ((rd_T49 l1 x5_1).f1) x6_3).toList) = true := bne_iff_ne.mpr c16
                                  obtain rfl := Option.some.inj H
                                  have p321 : 0 ≤ (x5_1 : Int) := of_decide_eq_true (by first | (with_reducible assumption) | assumption)
                                  have q321 : x5_1 < (l0.length : Int) := of_decide_eq_true (by first | (with_reducible assumption) | assumption)
                                  obtain ⟨ad321, A321_1, c321_1, e321, hx321_0, hx321_1, hl321_1, hi321_1⟩ := at_T49 HR0.out x5_1 p321 q321
                                  cases e321
                                  have HR321_1 := Aside0.mk hi321_1
                                  have HC321_1 := Aside0.mk hl321_1
                                  clear hi321_1 hl321_1
                                  replace p321 := eq_true p321
                                  replace q321 := eq_true q321
                                  have p322 : 0 ≤ (x5_1 : Int) := of_decide_eq_true (by first | (with_reducible assumption) | assumption)
                                  have q322 : x5_1 < (l0.length : Int) := of_decide_eq_true (by first | (with_reducible assumption) | assumption)
                                  obtain ⟨ad322, A322_1, c322_1, e322, hx322_0, hx322_1, hl322_1, hi322_1⟩ := at_T49 HR0.out x5_1 p322 q322
                                  obtain rfl : ad321 = ad322 := (by injection e322)
                                  have HR322_1 := Aside0.mk hi322_1
                                  have HC322_1 := Aside0.mk hl322_1
                                  clear hi322_1 hl322_1
                                  replace p322 := eq_true p322
                                  replace q322 := eq_true q322
                                  have ea_ := Option.some.inj (hx321_1.symm.trans hx322_1)
                                  injection ea_ with ea_ en_ ec_
                                  subst ea_
                                  subst ec_
                                  clear en_
                                  have p323 : 0 ≤ (x6_3 : Int) := of_decide_eq_true (by first | (with_reducible assumption) | assumption)
                                  have q323 : x6_3 < (((rd_T49 l0 x5_1).f1).length : Int) := of_decide_eq_true (by first | (with_reducible assumption) | assumption)
                                  obtain ⟨ad323, e323, hx323_0⟩ := Kd.at_string HR322_1.out x6_3 p323 q323
                                  cases e323
                                  replace p323 := eq_true p323
                                  replace q323 := eq_true q323
                                  have p324 : 0 ≤ (x5_1 : Int) := of_decide_eq_true (by first | (with_reducible assumption) | assumption)
                                  have q324 : x5_1 < (l1.length : Int) := of_decide_eq_true (by first | (with_reducible assumption) | assumption)
                                  obtain ⟨ad324, A324_1, c324_1, e324, hx324_0, hx324_1, hl324_1, hi324_1⟩ := at_T49 HR1.out x5_1 p324 q324
                                  cases e324
                                  have HR324_1 := Aside0.mk hi324_1
                                  have HC324_1 := Aside0.mk hl324_1
                                  clear hi324_1 hl324_1
                                  replace p324 := eq_true p324
                                  replace q324 := eq_true q324
                                  have p325 : 0 ≤ (x6_3 : Int) := of_decide_eq_true (by first | (with_reducible assumption) | assumption)
                                  have q325 : x6_3 < (((rd_T49 l1 x5_1).f1).length : Int) := of_decide_eq_true (by first | (with_reducible assumption) | assumption)
                                  obtain ⟨ad325, e325, hx325_0⟩ := Kd.at_string HR324_1.out x6_3 p325 q325
                                  cases e325
                                  replace p325 := eq_true p325
                                  replace q325 := eq_true q325
                                  go_wp2
                                  repeat (go_quiet (fail); try go_wp2)
                                  go_ret
                                  exact ⟨by first | rfl | (simp; done) | (simp [*]; done), by repeat (first | exact Drawn0.refl _ | apply Drawn0.step)⟩
                              · rw [if_neg c15] at H
                                exact absurd H (by simp)
                            · rw [if_neg c14] at H
                              exact absurd H (by simp)
                          · rw [if_neg c13] at H
                            exact absurd H (by simp)
                        · rw [if_neg c12] at H
                          have c12b0 : decide (x6_3 < (((rd_T49 l0 x5_1).f1).length : Int)) = false := decide_eq_false c12
                          clear c12
                          have H' := Aside0.mk H
                          clear H
                          have p321 : 0 ≤ (x5_1 : Int) := of_decide_eq_true (by first | (with_reducible assumption) | assumption)
                          have q321 : x5_1 < (l0.length : Int) := of_decide_eq_true (by first | (with_reducible assumption) | assumption)
                          obtain ⟨ad321, A321_1, c321_1, e321, hx321_0, hx321_1, hl321_1, hi321_1⟩ := at_T49 HR0.out x5_1 p321 q321
                          cases e321
                          have HR321_1 := Aside0.mk hi321_1
                          have HC321_1 := Aside0.mk hl321_1
                          clear hi321_1 hl321_1
                          replace p321 := eq_true p321
                          replace q321 := eq_true q321
                          go_wp2
                          repeat (go_quiet (fail); try go_wp2)
                          go_roundg k3
                          case measure => have := HK1.out; have := HJ4.out; have := HK3.out; omega
                          case rel => exact ⟨(wrap64 (x5_1 + 1)), (by first | rfl | (simp; done) | (simp [*]; done)), H', ⟨by have := HK1.out; have := HJ4.out; have := HK3.out; omega⟩, by repeat (first | exact Drawn0.refl _ | apply Drawn0.step)⟩
                      · rw [if_neg c11] at H
                        exact absurd H (by simp)
                    · rw [if_neg c10] at H
                      exact absurd H (by simp)
        · rw [if_neg c4] at H
          have c4b0 : decide (x5_1 < (l0.length : Int)) = false := decide_eq_false c4
          clear c4
          obtain rfl := Option.some.inj H
          go_wp2
          repeat (go_quiet (fail); try go_wp2)
          go_ret
          exact ⟨by first | rfl | (simp; done) | (simp [*]; done), by repeat (first | exact Drawn0.refl _ | apply Drawn0.step)⟩
  · rw [if_neg c3] at H
    have c3b0 : ((l0.length : Int) == (l1.length : Int)) = false := beq_eq_false_iff_ne.mpr c3
    have c3b1 : ((l0.length : Int) != (l1.length : Int)) = true := bne_iff_ne.mpr c3
    have c3b2 : (l0.length == l1.length) = false := by first | simpa using c3 | (simp at c3 ⊢; omega)
    obtain rfl := Option.some.inj H
    go_enter Try.func45, Try.ntmps45
    go_wp2
    repeat (go_quiet (fail); try go_wp2)
    go_ret
    exact ⟨by first | rfl | (simp; done) | (simp [*]; done), by repeat (first | exact Drawn0.refl _ | apply Drawn0.step)⟩
end Go.Proofs.Ythdhkoeaadahaaa.P
