-- MADE BY wip/kit/myprint.py for this seat
import Derived.Test.YtlkfmmjoiadoiaaPx0
import Derived.Test.YtlkfmmjoiadoiaaPx1
import Derived.Test.YtlkfmmjoiadoiaaPx31
import Derived.Test.YtlkfmmjoiadoiaaPx38
import Derived.Test.YtlkfmmjoiadoiaaPx39
import Derived.Test.YtlkfmmjoiadoiaaPx40
import Derived.Test.YtlkfmmjoiadoiaaPx41
import Derived.Test.YtlkfmmjoiadoiaaPx42
import Derived.Test.YtlkfmmjoiadoiaaPx50
import Derived.Test.YtlkfmmjoiadoiaaPx51
import Derived.Test.YtlkfmmjoiadoiaaETake
import Derived.Test.YtlkfmmjoiadoiaaETurn
import Derived.Test.YtlkfmmjoiadoiaaGood
namespace Go.Proofs.Ytlkfmmjoiadoiaa.P
open Go.RowKit Go.Proofs.YtlkfmmjoiadoiaaW.PrintWords Go.Proofs.YtlkfmmjoiadoiaaW.PrintLast Go.Proofs.YtlkfmmjoiadoiaaW.PrintMore
attribute [local go_sem] max2_int min2_int max_two min_two max_three min_three max_four min_four   -- for this text's walks alone
set_option linter.unusedVariables false
set_option linter.unusedSimpArgs false

attribute [local go_sem high] eqA24
/-! ### counterfoillaw16_WiresTakes: function 13 -/
mutual
def counterfoillaw16_WiresTakes.j0 : Nat → List (S24) → Int → Int → Int → List (S24) → Int → List (S24) → Int → List (S24) → Int → List (S35) → Int → Bool → Int → ByteArray → Option (Bool)
  | 0, _, _, _, _, _, _, _, _, _, _, _, _, _, _, _ => none
  | k + 1, x0, x1, x2, x3, x9, x11, x12, x13, x14, x15, x16, x17, x53, x401000, x401001 => if x53 = true then (counterfoillaw16_WiresTakes.j1 k x0 x1 x2 x3 x9 x11 x12 x13 x14 x15 x16 8 x401000 x401001) else (counterfoillaw16_WiresTakes.j1 k x0 x1 x2 x3 x9 x11 x12 x13 x14 x15 x16 x17 x401000 x401001)
def counterfoillaw16_WiresTakes.j1 : Nat → List (S24) → Int → Int → Int → List (S24) → Int → List (S24) → Int → List (S24) → Int → List (S35) → Int → Int → ByteArray → Option (Bool)
  | 0, _, _, _, _, _, _, _, _, _, _, _, _, _, _ => none
  | k + 1, x0, x1, x2, x3, x9, x11, x12, x13, x14, x15, x16, x17, x401000, x401001 => (counterfoilref16_Right.f k x16).bind fun t412 => (if t412 = true then (counterfoillaw16_WiresTakes.j2 k x0 x1 x2 x3 x9 x11 x12 x13 x14 x15 x16 x17 x401000 x401001) else (counterfoillaw16_WiresTakes.j2 k x0 x1 x2 x3 x9 x11 x12 x13 x14 x15 x16 1 x401000 x401001))
def counterfoillaw16_WiresTakes.j2 : Nat → List (S24) → Int → Int → Int → List (S24) → Int → List (S24) → Int → List (S24) → Int → List (S35) → Int → Int → ByteArray → Option (Bool)
  | 0, _, _, _, _, _, _, _, _, _, _, _, _, _, _ => none
  | k + 1, x0, x1, x2, x3, x9, x11, x12, x13, x14, x15, x16, x17, x401000, x401001 => if x17 = 0 then ((counterfoilref16_Put.f k x16 x1 ([] : List (S35))).bind fun t414 => ((counterfoillaw16_same.f k x9 t414).bind fun t417 => (if t417 = true then (if 0 ≤ x1 then (if x1 < (x0.length : Int) then (if (!(x401000 == ((rd_T24 x0 x1).f0)) || (!(x401001.toList == (((rd_T24 x0 x1).f1).toList)))) = true then (counterfoillaw16_WiresTakes.j3 k x0 x1 x2 x3 x12 x13 x14 x15 x16 true) else (counterfoillaw16_WiresTakes.j3 k x0 x1 x2 x3 x12 x13 x14 x15 x16 (x11 != 0))) else (none)) else (none)) else (counterfoillaw16_WiresTakes.j3 k x0 x1 x2 x3 x12 x13 x14 x15 x16 true)))) else (if (x9.length : Int) = 0 then (if (x401000 == 0 && (x401001.toList == ([] : List UInt8))) = true then (if x11 = x17 then (if (x12.length : Int) = 0 then (if x13 = x17 then (if (x14.length : Int) = 0 then (if x15 = x17 then ((counterfoillaw16_awake.f k).bind fun t413 => (some t413)) else (some false)) else (some false)) else (some false)) else (some false)) else (some false)) else (some false)) else (some false))
def counterfoillaw16_WiresTakes.j3 : Nat → List (S24) → Int → Int → Int → List (S24) → Int → List (S24) → Int → List (S35) → Bool → Option (Bool)
  | 0, _, _, _, _, _, _, _, _, _, _ => none
  | k + 1, x0, x1, x2, x3, x12, x13, x14, x15, x16, x112 => if x112 = true then (some false) else (if (x0.length : Int) > 255 then (if (x12.length : Int) = 0 then (if x13 = 6 then (counterfoillaw16_WiresTakes.j4 k x0 x1 x2 x3 x14 x15 x16) else (some false)) else (some false)) else (if 0 ≤ x1 then (if x1 ≤ (wrap64 (x1 + 1)) then (if (wrap64 (x1 + 1)) ≤ (x16.length : Int) then ((counterfoilref16_Put.f k x16 (x16.length : Int) ((x16.take ((wrap64 (x1 + 1)) : Int).toNat).drop (x1 : Int).toNat)).bind fun t423 => ((counterfoillaw16_same.f k x12 t423).bind fun t426 => (if t426 = true then (if x13 = 0 then (counterfoillaw16_WiresTakes.j4 k x0 x1 x2 x3 x14 x15 x16) else (some false)) else (some false)))) else (none)) else (none)) else (none)))
def counterfoillaw16_WiresTakes.j4 : Nat → List (S24) → Int → Int → Int → List (S24) → Int → List (S35) → Option (Bool)
  | 0, _, _, _, _, _, _, _ => none
  | k + 1, x0, x1, x2, x3, x14, x15, x16 => if x2 < 0 then (counterfoillaw16_WiresTakes.j5 k x0 x1 x2 x3 x14 x15 x16 true) else (if 0 ≤ x1 then (if x1 < (x0.length : Int) then (counterfoillaw16_WiresTakes.j5 k x0 x1 x2 x3 x14 x15 x16 (decide (x2 ≥ (((rd_T24 x0 x1).f1).size : Int)))) else (none)) else (none))
def counterfoillaw16_WiresTakes.j5 : Nat → List (S24) → Int → Int → Int → List (S24) → Int → List (S35) → Bool → Option (Bool)
  | 0, _, _, _, _, _, _, _, _ => none
  | k + 1, x0, x1, x2, x3, x14, x15, x16, x150 => if x150 = true then (if (x14.length : Int) = 0 then (if x15 = 1 then ((counterfoillaw16_awake.f k).bind fun t428 => (some t428)) else (some false)) else (some false)) else (if 0 ≤ x1 then (if x1 < (x0.length : Int) then ((counterfoilref16_Turned.f ((rd_T24 x0 x1).f1) x2 x3).bind fun t431 => ((counterfoilref16_Put.f k x16 x1 (([(⟨(rd_T24 x0 x1).f0, t431⟩ : S35)] : List (S35)))).bind fun t435 => ((counterfoillaw16_same.f k x14 t435).bind fun t438 => (if t438 = true then (if x15 = 0 then ((counterfoillaw16_awake.f k).bind fun t439 => (some t439)) else (some false)) else (some false))))) else (none)) else (none))
end
def counterfoillaw16_WiresTakes.f (k : Nat) (l0 : List (S24)) (a1 : Int) (a2 : Int) (a3 : Int) : Option (Bool) := (counterfoillaw16_few.f k l0).bind fun t392 => (if t392 = true then ((wires_Take.f l0 a1).bind fun bt394 => ((wires_Twice.f k l0 a1).bind fun bt401 => ((wires_Turn.f l0 a1 a2 a3).bind fun bt405 => ((counterfoillaw16_ref.f k l0).bind fun t409 => (if a1 < 0 then (counterfoillaw16_WiresTakes.j0 k l0 a1 a2 a3 bt394.1 bt394.2.2.2 bt401.1 bt401.2 bt405.1 bt405.2 t409 0 true bt394.2.1 bt394.2.2.1) else (counterfoillaw16_WiresTakes.j0 k l0 a1 a2 a3 bt394.1 bt394.2.2.2 bt401.1 bt401.2 bt405.1 bt405.2 t409 0 (decide (a1 ≥ (l0.length : Int))) bt394.2.1 bt394.2.2.1)))))) else ((counterfoillaw16_awake.f k).bind fun t393 => (some t393)))
theorem counterfoillaw16_WiresTakes.mono_l : ∀ k, (∀ y0 y1 y2 y3 y4 y5 y6 y7 y8 y9 y10 y11 y12 y13 y14, LeO (counterfoillaw16_WiresTakes.j0 k y0 y1 y2 y3 y4 y5 y6 y7 y8 y9 y10 y11 y12 y13 y14) (counterfoillaw16_WiresTakes.j0 (k + 1) y0 y1 y2 y3 y4 y5 y6 y7 y8 y9 y10 y11 y12 y13 y14)) ∧ (∀ y0 y1 y2 y3 y4 y5 y6 y7 y8 y9 y10 y11 y12 y13, LeO (counterfoillaw16_WiresTakes.j1 k y0 y1 y2 y3 y4 y5 y6 y7 y8 y9 y10 y11 y12 y13) (counterfoillaw16_WiresTakes.j1 (k + 1) y0 y1 y2 y3 y4 y5 y6 y7 y8 y9 y10 y11 y12 y13)) ∧ (∀ y0 y1 y2 y3 y4 y5 y6 y7 y8 y9 y10 y11 y12 y13, LeO (counterfoillaw16_WiresTakes.j2 k y0 y1 y2 y3 y4 y5 y6 y7 y8 y9 y10 y11 y12 y13) (counterfoillaw16_WiresTakes.j2 (k + 1) y0 y1 y2 y3 y4 y5 y6 y7 y8 y9 y10 y11 y12 y13)) ∧ (∀ y0 y1 y2 y3 y4 y5 y6 y7 y8 y9, LeO (counterfoillaw16_WiresTakes.j3 k y0 y1 y2 y3 y4 y5 y6 y7 y8 y9) (counterfoillaw16_WiresTakes.j3 (k + 1) y0 y1 y2 y3 y4 y5 y6 y7 y8 y9)) ∧ (∀ y0 y1 y2 y3 y4 y5 y6, LeO (counterfoillaw16_WiresTakes.j4 k y0 y1 y2 y3 y4 y5 y6) (counterfoillaw16_WiresTakes.j4 (k + 1) y0 y1 y2 y3 y4 y5 y6)) ∧ (∀ y0 y1 y2 y3 y4 y5 y6 y7, LeO (counterfoillaw16_WiresTakes.j5 k y0 y1 y2 y3 y4 y5 y6 y7) (counterfoillaw16_WiresTakes.j5 (k + 1) y0 y1 y2 y3 y4 y5 y6 y7))
  | 0 => ⟨fun _ _ _ _ _ _ _ _ _ _ _ _ _ _ _ r h => by simp [counterfoillaw16_WiresTakes.j0] at h, fun _ _ _ _ _ _ _ _ _ _ _ _ _ _ r h => by simp [counterfoillaw16_WiresTakes.j1] at h, fun _ _ _ _ _ _ _ _ _ _ _ _ _ _ r h => by simp [counterfoillaw16_WiresTakes.j2] at h, fun _ _ _ _ _ _ _ _ _ _ r h => by simp [counterfoillaw16_WiresTakes.j3] at h, fun _ _ _ _ _ _ _ r h => by simp [counterfoillaw16_WiresTakes.j4] at h, fun _ _ _ _ _ _ _ _ r h => by simp [counterfoillaw16_WiresTakes.j5] at h⟩
  | k + 1 => by
    obtain ⟨ih0, ih1, ih2, ih3, ih4, ih5⟩ := counterfoillaw16_WiresTakes.mono_l k
    refine ⟨?_, ?_, ?_, ?_, ?_, ?_⟩
    · intro y0 y1 y2 y3 y4 y5 y6 y7 y8 y9 y10 y11 y12 y13 y14
      unfold counterfoillaw16_WiresTakes.j0
      repeat' first
      | (with_reducible exact ih0 _ _ _ _ _ _ _ _ _ _ _ _ _ _ _)
      | (with_reducible exact ih1 _ _ _ _ _ _ _ _ _ _ _ _ _ _)
      | (with_reducible exact ih2 _ _ _ _ _ _ _ _ _ _ _ _ _ _)
      | (with_reducible exact ih3 _ _ _ _ _ _ _ _ _ _)
      | (with_reducible exact ih4 _ _ _ _ _ _ _)
      | (with_reducible exact ih5 _ _ _ _ _ _ _ _)
      | (with_reducible exact counterfoillaw16_awake.mono _)
      | (with_reducible exact counterfoillaw16_few.mono _ _)
      | (with_reducible exact counterfoillaw16_ref.mono _ _)
      | (with_reducible exact counterfoillaw16_same.mono _ _ _)
      | (with_reducible exact counterfoilref16_Put.mono _ _ _ _)
      | (with_reducible exact counterfoilref16_Right.mono _ _)
      | (with_reducible exact wires_Twice.mono _ _ _)
      | (with_reducible exact LeO.refl _)
      | (with_reducible exact LeO.none _)
      | (with_reducible refine LeO.ite ?_ ?_)
      | (with_reducible refine LeO.bind ?_ (fun _ => ?_))
      | exact ih0 _ _ _ _ _ _ _ _ _ _ _ _ _ _ _
      | exact ih1 _ _ _ _ _ _ _ _ _ _ _ _ _ _
      | exact ih2 _ _ _ _ _ _ _ _ _ _ _ _ _ _
      | exact ih3 _ _ _ _ _ _ _ _ _ _
      | exact ih4 _ _ _ _ _ _ _
      | exact ih5 _ _ _ _ _ _ _ _
      | exact counterfoillaw16_awake.mono _
      | exact counterfoillaw16_few.mono _ _
      | exact counterfoillaw16_ref.mono _ _
      | exact counterfoillaw16_same.mono _ _ _
      | exact counterfoilref16_Put.mono _ _ _ _
      | exact counterfoilref16_Right.mono _ _
      | exact wires_Twice.mono _ _ _
      | exact LeO.none _
      | refine LeO.ite ?_ ?_
      | refine LeO.bind ?_ (fun _ => ?_)
    · intro y0 y1 y2 y3 y4 y5 y6 y7 y8 y9 y10 y11 y12 y13
      unfold counterfoillaw16_WiresTakes.j1
      repeat' first
      | (with_reducible exact ih0 _ _ _ _ _ _ _ _ _ _ _ _ _ _ _)
      | (with_reducible exact ih1 _ _ _ _ _ _ _ _ _ _ _ _ _ _)
      | (with_reducible exact ih2 _ _ _ _ _ _ _ _ _ _ _ _ _ _)
      | (with_reducible exact ih3 _ _ _ _ _ _ _ _ _ _)
      | (with_reducible exact ih4 _ _ _ _ _ _ _)
      | (with_reducible exact ih5 _ _ _ _ _ _ _ _)
      | (with_reducible exact counterfoillaw16_awake.mono _)
      | (with_reducible exact counterfoillaw16_few.mono _ _)
      | (with_reducible exact counterfoillaw16_ref.mono _ _)
      | (with_reducible exact counterfoillaw16_same.mono _ _ _)
      | (with_reducible exact counterfoilref16_Put.mono _ _ _ _)
      | (with_reducible exact counterfoilref16_Right.mono _ _)
      | (with_reducible exact wires_Twice.mono _ _ _)
      | (with_reducible exact LeO.refl _)
      | (with_reducible exact LeO.none _)
      | (with_reducible refine LeO.ite ?_ ?_)
      | (with_reducible refine LeO.bind ?_ (fun _ => ?_))
      | exact ih0 _ _ _ _ _ _ _ _ _ _ _ _ _ _ _
      | exact ih1 _ _ _ _ _ _ _ _ _ _ _ _ _ _
      | exact ih2 _ _ _ _ _ _ _ _ _ _ _ _ _ _
      | exact ih3 _ _ _ _ _ _ _ _ _ _
      | exact ih4 _ _ _ _ _ _ _
      | exact ih5 _ _ _ _ _ _ _ _
      | exact counterfoillaw16_awake.mono _
      | exact counterfoillaw16_few.mono _ _
      | exact counterfoillaw16_ref.mono _ _
      | exact counterfoillaw16_same.mono _ _ _
      | exact counterfoilref16_Put.mono _ _ _ _
      | exact counterfoilref16_Right.mono _ _
      | exact wires_Twice.mono _ _ _
      | exact LeO.none _
      | refine LeO.ite ?_ ?_
      | refine LeO.bind ?_ (fun _ => ?_)
    · intro y0 y1 y2 y3 y4 y5 y6 y7 y8 y9 y10 y11 y12 y13
      unfold counterfoillaw16_WiresTakes.j2
      repeat' first
      | (with_reducible exact ih0 _ _ _ _ _ _ _ _ _ _ _ _ _ _ _)
      | (with_reducible exact ih1 _ _ _ _ _ _ _ _ _ _ _ _ _ _)
      | (with_reducible exact ih2 _ _ _ _ _ _ _ _ _ _ _ _ _ _)
      | (with_reducible exact ih3 _ _ _ _ _ _ _ _ _ _)
      | (with_reducible exact ih4 _ _ _ _ _ _ _)
      | (with_reducible exact ih5 _ _ _ _ _ _ _ _)
      | (with_reducible exact counterfoillaw16_awake.mono _)
      | (with_reducible exact counterfoillaw16_few.mono _ _)
      | (with_reducible exact counterfoillaw16_ref.mono _ _)
      | (with_reducible exact counterfoillaw16_same.mono _ _ _)
      | (with_reducible exact counterfoilref16_Put.mono _ _ _ _)
      | (with_reducible exact counterfoilref16_Right.mono _ _)
      | (with_reducible exact wires_Twice.mono _ _ _)
      | (with_reducible exact LeO.refl _)
      | (with_reducible exact LeO.none _)
      | (with_reducible refine LeO.ite ?_ ?_)
      | (with_reducible refine LeO.bind ?_ (fun _ => ?_))
      | exact ih0 _ _ _ _ _ _ _ _ _ _ _ _ _ _ _
      | exact ih1 _ _ _ _ _ _ _ _ _ _ _ _ _ _
      | exact ih2 _ _ _ _ _ _ _ _ _ _ _ _ _ _
      | exact ih3 _ _ _ _ _ _ _ _ _ _
      | exact ih4 _ _ _ _ _ _ _
      | exact ih5 _ _ _ _ _ _ _ _
      | exact counterfoillaw16_awake.mono _
      | exact counterfoillaw16_few.mono _ _
      | exact counterfoillaw16_ref.mono _ _
      | exact counterfoillaw16_same.mono _ _ _
      | exact counterfoilref16_Put.mono _ _ _ _
      | exact counterfoilref16_Right.mono _ _
      | exact wires_Twice.mono _ _ _
      | exact LeO.none _
      | refine LeO.ite ?_ ?_
      | refine LeO.bind ?_ (fun _ => ?_)
    · intro y0 y1 y2 y3 y4 y5 y6 y7 y8 y9
      unfold counterfoillaw16_WiresTakes.j3
      repeat' first
      | (with_reducible exact ih0 _ _ _ _ _ _ _ _ _ _ _ _ _ _ _)
      | (with_reducible exact ih1 _ _ _ _ _ _ _ _ _ _ _ _ _ _)
      | (with_reducible exact ih2 _ _ _ _ _ _ _ _ _ _ _ _ _ _)
      | (with_reducible exact ih3 _ _ _ _ _ _ _ _ _ _)
      | (with_reducible exact ih4 _ _ _ _ _ _ _)
      | (with_reducible exact ih5 _ _ _ _ _ _ _ _)
      | (with_reducible exact counterfoillaw16_awake.mono _)
      | (with_reducible exact counterfoillaw16_few.mono _ _)
      | (with_reducible exact counterfoillaw16_ref.mono _ _)
      | (with_reducible exact counterfoillaw16_same.mono _ _ _)
      | (with_reducible exact counterfoilref16_Put.mono _ _ _ _)
      | (with_reducible exact counterfoilref16_Right.mono _ _)
      | (with_reducible exact wires_Twice.mono _ _ _)
      | (with_reducible exact LeO.refl _)
      | (with_reducible exact LeO.none _)
      | (with_reducible refine LeO.ite ?_ ?_)
      | (with_reducible refine LeO.bind ?_ (fun _ => ?_))
      | exact ih0 _ _ _ _ _ _ _ _ _ _ _ _ _ _ _
      | exact ih1 _ _ _ _ _ _ _ _ _ _ _ _ _ _
      | exact ih2 _ _ _ _ _ _ _ _ _ _ _ _ _ _
      | exact ih3 _ _ _ _ _ _ _ _ _ _
      | exact ih4 _ _ _ _ _ _ _
      | exact ih5 _ _ _ _ _ _ _ _
      | exact counterfoillaw16_awake.mono _
      | exact counterfoillaw16_few.mono _ _
      | exact counterfoillaw16_ref.mono _ _
      | exact counterfoillaw16_same.mono _ _ _
      | exact counterfoilref16_Put.mono _ _ _ _
      | exact counterfoilref16_Right.mono _ _
      | exact wires_Twice.mono _ _ _
      | exact LeO.none _
      | refine LeO.ite ?_ ?_
      | refine LeO.bind ?_ (fun _ => ?_)
    · intro y0 y1 y2 y3 y4 y5 y6
      unfold counterfoillaw16_WiresTakes.j4
      repeat' first
      | (with_reducible exact ih0 _ _ _ _ _ _ _ _ _ _ _ _ _ _ _)
      | (with_reducible exact ih1 _ _ _ _ _ _ _ _ _ _ _ _ _ _)
      | (with_reducible exact ih2 _ _ _ _ _ _ _ _ _ _ _ _ _ _)
      | (with_reducible exact ih3 _ _ _ _ _ _ _ _ _ _)
      | (with_reducible exact ih4 _ _ _ _ _ _ _)
      | (with_reducible exact ih5 _ _ _ _ _ _ _ _)
      | (with_reducible exact counterfoillaw16_awake.mono _)
      | (with_reducible exact counterfoillaw16_few.mono _ _)
      | (with_reducible exact counterfoillaw16_ref.mono _ _)
      | (with_reducible exact counterfoillaw16_same.mono _ _ _)
      | (with_reducible exact counterfoilref16_Put.mono _ _ _ _)
      | (with_reducible exact counterfoilref16_Right.mono _ _)
      | (with_reducible exact wires_Twice.mono _ _ _)
      | (with_reducible exact LeO.refl _)
      | (with_reducible exact LeO.none _)
      | (with_reducible refine LeO.ite ?_ ?_)
      | (with_reducible refine LeO.bind ?_ (fun _ => ?_))
      | exact ih0 _ _ _ _ _ _ _ _ _ _ _ _ _ _ _
      | exact ih1 _ _ _ _ _ _ _ _ _ _ _ _ _ _
      | exact ih2 _ _ _ _ _ _ _ _ _ _ _ _ _ _
      | exact ih3 _ _ _ _ _ _ _ _ _ _
      | exact ih4 _ _ _ _ _ _ _
      | exact ih5 _ _ _ _ _ _ _ _
      | exact counterfoillaw16_awake.mono _
      | exact counterfoillaw16_few.mono _ _
      | exact counterfoillaw16_ref.mono _ _
      | exact counterfoillaw16_same.mono _ _ _
      | exact counterfoilref16_Put.mono _ _ _ _
      | exact counterfoilref16_Right.mono _ _
      | exact wires_Twice.mono _ _ _
      | exact LeO.none _
      | refine LeO.ite ?_ ?_
      | refine LeO.bind ?_ (fun _ => ?_)
    · intro y0 y1 y2 y3 y4 y5 y6 y7
      unfold counterfoillaw16_WiresTakes.j5
      repeat' first
      | (with_reducible exact ih0 _ _ _ _ _ _ _ _ _ _ _ _ _ _ _)
      | (with_reducible exact ih1 _ _ _ _ _ _ _ _ _ _ _ _ _ _)
      | (with_reducible exact ih2 _ _ _ _ _ _ _ _ _ _ _ _ _ _)
      | (with_reducible exact ih3 _ _ _ _ _ _ _ _ _ _)
      | (with_reducible exact ih4 _ _ _ _ _ _ _)
      | (with_reducible exact ih5 _ _ _ _ _ _ _ _)
      | (with_reducible exact counterfoillaw16_awake.mono _)
      | (with_reducible exact counterfoillaw16_few.mono _ _)
      | (with_reducible exact counterfoillaw16_ref.mono _ _)
      | (with_reducible exact counterfoillaw16_same.mono _ _ _)
      | (with_reducible exact counterfoilref16_Put.mono _ _ _ _)
      | (with_reducible exact counterfoilref16_Right.mono _ _)
      | (with_reducible exact wires_Twice.mono _ _ _)
      | (with_reducible exact LeO.refl _)
      | (with_reducible exact LeO.none _)
      | (with_reducible refine LeO.ite ?_ ?_)
      | (with_reducible refine LeO.bind ?_ (fun _ => ?_))
      | exact ih0 _ _ _ _ _ _ _ _ _ _ _ _ _ _ _
      | exact ih1 _ _ _ _ _ _ _ _ _ _ _ _ _ _
      | exact ih2 _ _ _ _ _ _ _ _ _ _ _ _ _ _
      | exact ih3 _ _ _ _ _ _ _ _ _ _
      | exact ih4 _ _ _ _ _ _ _
      | exact ih5 _ _ _ _ _ _ _ _
      | exact counterfoillaw16_awake.mono _
      | exact counterfoillaw16_few.mono _ _
      | exact counterfoillaw16_ref.mono _ _
      | exact counterfoillaw16_same.mono _ _ _
      | exact counterfoilref16_Put.mono _ _ _ _
      | exact counterfoilref16_Right.mono _ _
      | exact wires_Twice.mono _ _ _
      | exact LeO.none _
      | refine LeO.ite ?_ ?_
      | refine LeO.bind ?_ (fun _ => ?_)
theorem counterfoillaw16_WiresTakes.mono : ∀ a0 a1 a2 a3 k, LeO (counterfoillaw16_WiresTakes.f k a0 a1 a2 a3) (counterfoillaw16_WiresTakes.f (k + 1) a0 a1 a2 a3) := by
  intro a0 a1 a2 a3 k
  obtain ⟨ih0, ih1, ih2, ih3, ih4, ih5⟩ := counterfoillaw16_WiresTakes.mono_l k
  unfold counterfoillaw16_WiresTakes.f
  repeat' first
      | (with_reducible exact ih0 _ _ _ _ _ _ _ _ _ _ _ _ _ _ _)
      | (with_reducible exact ih1 _ _ _ _ _ _ _ _ _ _ _ _ _ _)
      | (with_reducible exact ih2 _ _ _ _ _ _ _ _ _ _ _ _ _ _)
      | (with_reducible exact ih3 _ _ _ _ _ _ _ _ _ _)
      | (with_reducible exact ih4 _ _ _ _ _ _ _)
      | (with_reducible exact ih5 _ _ _ _ _ _ _ _)
      | (with_reducible exact counterfoillaw16_awake.mono _)
      | (with_reducible exact counterfoillaw16_few.mono _ _)
      | (with_reducible exact counterfoillaw16_ref.mono _ _)
      | (with_reducible exact counterfoillaw16_same.mono _ _ _)
      | (with_reducible exact counterfoilref16_Put.mono _ _ _ _)
      | (with_reducible exact counterfoilref16_Right.mono _ _)
      | (with_reducible exact wires_Twice.mono _ _ _)
      | (with_reducible exact LeO.refl _)
      | (with_reducible exact LeO.none _)
      | (with_reducible refine LeO.ite ?_ ?_)
      | (with_reducible refine LeO.bind ?_ (fun _ => ?_))
      | exact ih0 _ _ _ _ _ _ _ _ _ _ _ _ _ _ _
      | exact ih1 _ _ _ _ _ _ _ _ _ _ _ _ _ _
      | exact ih2 _ _ _ _ _ _ _ _ _ _ _ _ _ _
      | exact ih3 _ _ _ _ _ _ _ _ _ _
      | exact ih4 _ _ _ _ _ _ _
      | exact ih5 _ _ _ _ _ _ _ _
      | exact counterfoillaw16_awake.mono _
      | exact counterfoillaw16_few.mono _ _
      | exact counterfoillaw16_ref.mono _ _
      | exact counterfoillaw16_same.mono _ _ _
      | exact counterfoilref16_Put.mono _ _ _ _
      | exact counterfoilref16_Right.mono _ _
      | exact wires_Twice.mono _ _ _
      | exact LeO.none _
      | refine LeO.ite ?_ ?_
      | refine LeO.bind ?_ (fun _ => ?_)
def counterfoillaw16_WiresTakes.T14 : Bool × List (List Nat × List Nat) := (true, [([], []), ([], []), ([], []), ([1, 2], [1, 2]), ([0, 3, 3], [0, 3]), ([4], [4]), ([5, 4], [5]), ([6], [6]), ([6], [6]), ([6], [6]), ([8, 9, 6], [6, 8, 9]), ([10, 6], [6, 10]), ([7, 11, 6], [6, 7, 11]), ([6, 12], [6, 12]), ([13, 6], [13]), ([14], [14]), ([15, 14], [14, 15]), ([14, 16], [14, 16])])
def counterfoillaw16_WiresTakes.B14 : List Nat := [0, 0, 0, 6, 15, 31, 63, 127, 127, 127, 895, 1919, 4095, 8191, 16383, 32767, 65535, 131071]
theorem counterfoillaw16_WiresTakes.tab14 : rtab .any (opsOf Try.f13 14) = counterfoillaw16_WiresTakes.T14 := by kernel_rfl
theorem counterfoillaw16_WiresTakes.bits14 : waitsOk counterfoillaw16_WiresTakes.T14.2 counterfoillaw16_WiresTakes.B14 = true := by kernel_rfl
def counterfoillaw16_WiresTakes.T23 : Bool × List (List Nat × List Nat) := (true, [([], []), ([], []), ([0, 1], [0, 1]), ([2], [2]), ([3], [3]), ([], []), ([], []), ([5, 6], [5, 6]), ([7], [7]), ([8], [8]), ([], []), ([], []), ([9, 10, 11], [9, 10, 11]), ([4, 12], [4, 12]), ([13], [13]), ([14, 12, 0, 1, 2, 3, 4, 5, 6, 7, 8, 9, 10, 11, 12, 13, 14], [14])])
def counterfoillaw16_WiresTakes.B23 : List Nat := [0, 0, 3, 7, 15, 0, 0, 96, 224, 480, 0, 0, 4064, 8191, 16383, 32767]
theorem counterfoillaw16_WiresTakes.tab23 : rtab .any (opsOf Try.f13 23) = counterfoillaw16_WiresTakes.T23 := by kernel_rfl
theorem counterfoillaw16_WiresTakes.bits23 : waitsOk counterfoillaw16_WiresTakes.T23.2 counterfoillaw16_WiresTakes.B23 = true := by kernel_rfl
set_option maxHeartbeats 8000000 in
set_option maxRecDepth 100000 in
theorem counterfoillaw16_WiresTakes.calls (k : Nat) (A0 : Option Addr) (c0 : Nat) (l0 : List (S24)) (a1 : Int) (a2 : Int) (a3 : Int) (r : Bool) (w : World) (hr0 : Kd.C k24 w A0 l0.length l0) (hc0 : l0.length ≤ c0) (h : counterfoillaw16_WiresTakes.f k l0 a1 a2 a3 = some r) :
    Calls Try.prog 13 #[.slice A0 l0.length c0, .int .i64 a1, .int .i64 a2, .int .u8 a3] w fun e w' => e = .returned (.bool r) ∧ Below w.heap.size w w' := by
  have hu24 := Try.underlying24
  have hu35 := Try.underlying35
  have HR0 := Aside0.mk hr0
  have HC0 := Aside0.mk hc0
  clear hr0 hc0
  have HB := Aside0.mk (Below.refl w.heap.size w)
  have H : ((counterfoillaw16_few.f k l0).bind fun t392 => (if t392 = true then ((wires_Take.f l0 a1).bind fun bt394 => ((wires_Twice.f k l0 a1).bind fun bt401 => ((wires_Turn.f l0 a1 a2 a3).bind fun bt405 => ((counterfoillaw16_ref.f k l0).bind fun t409 => (if a1 < 0 then (counterfoillaw16_WiresTakes.j0 k l0 a1 a2 a3 bt394.1 bt394.2.2.2 bt401.1 bt401.2 bt405.1 bt405.2 t409 0 true bt394.2.1 bt394.2.2.1) else (counterfoillaw16_WiresTakes.j0 k l0 a1 a2 a3 bt394.1 bt394.2.2.2 bt401.1 bt401.2 bt405.1 bt405.2 t409 0 (decide (a1 ≥ (l0.length : Int))) bt394.2.1 bt394.2.2.1)))))) else ((counterfoillaw16_awake.f k).bind fun t393 => (some t393)))) = some r := h
  clear h
  replace H := Option.bind_eq_some_iff.mp H
  obtain ⟨t392, A50, H⟩ := H
  replace H : (if t392 = true then ((wires_Take.f l0 a1).bind fun bt394 => ((wires_Twice.f k l0 a1).bind fun bt401 => ((wires_Turn.f l0 a1 a2 a3).bind fun bt405 => ((counterfoillaw16_ref.f k l0).bind fun t409 => (if a1 < 0 then (counterfoillaw16_WiresTakes.j0 k l0 a1 a2 a3 bt394.1 bt394.2.2.2 bt401.1 bt401.2 bt405.1 bt405.2 t409 0 true bt394.2.1 bt394.2.2.1) else (counterfoillaw16_WiresTakes.j0 k l0 a1 a2 a3 bt394.1 bt394.2.2.2 bt401.1 bt401.2 bt405.1 bt405.2 t409 0 (decide (a1 ≥ (l0.length : Int))) bt394.2.1 bt394.2.2.1)))))) else ((counterfoillaw16_awake.f k).bind fun t393 => (some t393))) = some r := H
  have A5 := Aside0.mk A50
  clear A50
  by_cases c6 : t392 = true
  · subst c6
    have H1 : ((wires_Take.f l0 a1).bind fun bt394 => ((wires_Twice.f k l0 a1).bind fun bt401 => ((wires_Turn.f l0 a1 a2 a3).bind fun bt405 => ((counterfoillaw16_ref.f k l0).bind fun t409 => (if a1 < 0 then (counterfoillaw16_WiresTakes.j0 k l0 a1 a2 a3 bt394.1 bt394.2.2.2 bt401.1 bt401.2 bt405.1 bt405.2 t409 0 true bt394.2.1 bt394.2.2.1) else (counterfoillaw16_WiresTakes.j0 k l0 a1 a2 a3 bt394.1 bt394.2.2.2 bt401.1 bt401.2 bt405.1 bt405.2 t409 0 (decide (a1 ≥ (l0.length : Int))) bt394.2.1 bt394.2.2.1)))))) = some r := by rw [if_pos rfl] at H; exact H
    clear H
    have H := H1
    clear H1
    replace H := Option.bind_eq_some_iff.mp H
    obtain ⟨⟨t394, t397, t398, t399⟩, A70, H⟩ := H
    replace H : ((wires_Twice.f k l0 a1).bind fun bt401 => ((wires_Turn.f l0 a1 a2 a3).bind fun bt405 => ((counterfoillaw16_ref.f k l0).bind fun t409 => (if a1 < 0 then (counterfoillaw16_WiresTakes.j0 k l0 a1 a2 a3 t394 t399 bt401.1 bt401.2 bt405.1 bt405.2 t409 0 true t397 t398) else (counterfoillaw16_WiresTakes.j0 k l0 a1 a2 a3 t394 t399 bt401.1 bt401.2 bt405.1 bt405.2 t409 0 (decide (a1 ≥ (l0.length : Int))) t397 t398))))) = some r := H
    have A7 := Aside0.mk A70
    clear A70
    replace H := Option.bind_eq_some_iff.mp H
    obtain ⟨⟨t401, t402⟩, A80, H⟩ := H
    replace H : ((wires_Turn.f l0 a1 a2 a3).bind fun bt405 => ((counterfoillaw16_ref.f k l0).bind fun t409 => (if a1 < 0 then (counterfoillaw16_WiresTakes.j0 k l0 a1 a2 a3 t394 t399 t401 t402 bt405.1 bt405.2 t409 0 true t397 t398) else (counterfoillaw16_WiresTakes.j0 k l0 a1 a2 a3 t394 t399 t401 t402 bt405.1 bt405.2 t409 0 (decide (a1 ≥ (l0.length : Int))) t397 t398)))) = some r := H
    have A8 := Aside0.mk A80
    clear A80
    replace H := Option.bind_eq_some_iff.mp H
    obtain ⟨⟨t405, t406⟩, A90, H⟩ := H
    replace H : ((counterfoillaw16_ref.f k l0).bind fun t409 => (if a1 < 0 then (counterfoillaw16_WiresTakes.j0 k l0 a1 a2 a3 t394 t399 t401 t402 t405 t406 t409 0 true t397 t398) else (counterfoillaw16_WiresTakes.j0 k l0 a1 a2 a3 t394 t399 t401 t402 t405 t406 t409 0 (decide (a1 ≥ (l0.length : Int))) t397 t398))) = some r := H
    have A9 := Aside0.mk A90
    clear A90
    replace H := Option.bind_eq_some_iff.mp H
    obtain ⟨t409, A100, H⟩ := H
    replace H : (if a1 < 0 then (counterfoillaw16_WiresTakes.j0 k l0 a1 a2 a3 t394 t399 t401 t402 t405 t406 t409 0 true t397 t398) else (counterfoillaw16_WiresTakes.j0 k l0 a1 a2 a3 t394 t399 t401 t402 t405 t406 t409 0 (decide (a1 ≥ (l0.length : Int))) t397 t398)) = some r := H
    have A10 := Aside0.mk A100
    clear A100
    have HC11 := Aside0.mk H
    clear H
    go_enter Try.func13, Try.ntmps13
    go_upto_region 8 with (first | ((with_reducible refine gate_callee (f := 14) rfl ?_); refine goesL_ (some 20) rfl rfl Try.func14 (by kernel_rfl) rfl #[.slice A0 l0.length c0] rfl (by (try simp only [List.map_toArray, List.map_cons, List.map_nil]); first | done | rfl | (simp only [List.length_drop, List.length_take]; rfl)) ?_; (with_reducible refine (counterfoillaw16_few.calls k _ _ l0 true _ ?side1 ?side2 A5.out).mono ?_); (case side1 => repeat (first | exact HR0.out | (with_reducible refine Kd.C_alloc ?_ _) | (with_reducible refine Kd.C_drewN ?_ _) | (with_reducible refine Kd.C_drew ?_))); (case side2 => exact HC0.out); rintro e w' ⟨rfl, ⟨nd, rfl⟩⟩; refine ⟨_, rfl, ?_⟩) | ((with_reducible refine gate_callee (f := 34) rfl ?_); refine goesL_ (some 26) rfl rfl Try.func34 (by kernel_rfl) rfl #[.slice A0 l0.length c0, .int .i64 a1] rfl (by (try simp only [List.map_toArray, List.map_cons, List.map_nil]); first | done | rfl | (simp only [List.length_drop, List.length_take]; rfl)) ?_; (with_reducible refine (wires_Take.calls _ _ l0 a1 t394 t397 t398 t399 _ ?side1 ?side2 A7.out).mono ?_); (case side1 => repeat (first | exact HR0.out | (with_reducible refine Kd.C_alloc ?_ _) | (with_reducible refine Kd.C_drewN ?_ _) | (with_reducible refine Kd.C_drew ?_))); (case side2 => exact HC0.out); rintro e w12 ⟨v395, rfl, ho0, hb⟩; refine ⟨_, rfl, ?_⟩; have n0_ := Aside0.mk (Kd.R_lower ho0 (below_size (by repeat (first | (with_reducible first | exact HB.out | apply below_alloc | apply pw_below_drewN | apply below_drew1) | exact HB.out)))); have n1_ := Aside0.mk (below_step (by repeat (first | (with_reducible first | exact HB.out | apply below_alloc | apply pw_below_drewN | apply below_drew1) | exact HB.out)) hb); clear HB; have HO396 := n0_; have HB := n1_; clear n0_ n1_; (try clear hb); (try clear hb2); (try clear hk); (try clear hi); (try clear ho0)) | ((with_reducible refine gate_dst (N := 10) rfl ?_); (try (refine gate_guard (by rfl) ?_; dsimp only)); refine box_event ?hg (N := 10) ?hd (cs := #[.int .i64 0, .string (⟨#[]⟩ : ByteArray)]) (t := 24) ?hr ?_; (case hd => rfl); (case hg => rfl); (case hr => first | (go_simp; done) | (go_simp; rfl)); intro gb400 hg w13 hbox hb; have n0_ := Aside0.mk (Kd.R_below (Kd.R_elderB (by (with_reducible repeat (first | apply Kd.R_alloc | apply Kd.R_drewN | apply Kd.R_drew)); exact HO396.out) gb400 (Nat.le_of_eq hg.symm)) hb); have n1_ := Aside0.mk (below_step (by repeat (first | (with_reducible first | exact HB.out | apply below_alloc | apply pw_below_drewN | apply below_drew1) | exact HB.out)) hb); have n2_ := Aside0.mk (hbox); have n3_ := Aside0.mk ((by rw [hg]; exact (below_size (by repeat (first | (with_reducible first | exact HB.out | apply below_alloc | apply pw_below_drewN | apply below_drew1) | exact HB.out))) : w.heap.size ≤ gb400)); have n4_ := Aside0.mk ((by rw [hg]; exact (below_size (by repeat (first | (with_reducible first | exact HB.out | apply below_alloc | apply pw_below_drewN | apply below_drew1) | exact HB.out))) : w.heap.size ≤ gb400)); clear HO396; clear HB; have HO396 := n0_; have HB := n1_; have BK400 := n2_; have GW400 := n3_; have GE400 := n4_; clear n0_ n1_ n2_ n3_ n4_; clear hb hbox hg; have hcz14_0 : w13.cell? ⟨gb400, 0, none⟩ = some (.int .i64 0) := (blk_cell BK400.out 0).trans rfl; have hcz14_1 : w13.cell? ⟨gb400, 1, none⟩ = some (.string (⟨#[]⟩ : ByteArray)) := (blk_cell BK400.out 1).trans rfl; have hfz14_0 := blk_frozen BK400.out 0; have hfz14_1 := blk_frozen BK400.out 1) | ((with_reducible refine gate_callee (f := 40) rfl ?_); refine goesL_ (some 33) rfl rfl Try.func40 (by kernel_rfl) rfl #[.slice A0 l0.length c0, .int .i64 a1] rfl (by (try simp only [List.map_toArray, List.map_cons, List.map_nil]); first | done | rfl | (simp only [List.length_drop, List.length_take]; rfl)) ?_; (with_reducible refine (wires_Twice.calls k _ _ l0 a1 t401 t402 _ ?side1 ?side2 A8.out).mono ?_); (case side1 => exact Kd.C_below HR0.out (by repeat (first | (with_reducible first | exact HB.out | apply below_alloc | apply pw_below_drewN | apply below_drew1 | refine below_set ?_ GE400.out) | exact HB.out))); (case side2 => exact HC0.out); rintro e w15 ⟨v403, rfl, ho0, hb⟩; refine ⟨_, rfl, ?_⟩; have n0_ := Aside0.mk (Kd.R_elder' (by (with_reducible repeat (first | apply Kd.R_alloc | apply Kd.R_drewN | apply Kd.R_drew)); exact (Kd.R_mono (Kd.R_far (p := ⟨gb400, 1, none⟩) (Kd.R_far (p := ⟨gb400, 0, none⟩) (Kd.R_mono HO396.out (fun k_ hk => (⟨hk, hk.2⟩ : _ ∧ k_ ≠ gb400))) (fun _ hk => hk.2) (.int .i64 t397)) (fun _ hk => hk.2) (.string t398)) (fun _ h_ => h_.1))) (Kd.R_base ho0) hb); have n1_ := Aside0.mk (Kd.R_lower (Kd.R_newB (Kd.R_new' ho0 (Kd.R_lt (by (with_reducible repeat (first | apply Kd.R_alloc | apply Kd.R_drewN | apply Kd.R_drew)); exact (Kd.R_mono (Kd.R_far (p := ⟨gb400, 1, none⟩) (Kd.R_far (p := ⟨gb400, 0, none⟩) (Kd.R_mono HO396.out (fun k_ hk => (⟨hk, hk.2⟩ : _ ∧ k_ ≠ gb400))) (fun _ hk => hk.2) (.int .i64 t397)) (fun _ hk => hk.2) (.string t398)) (fun _ h_ => h_.1))))) (g := gb400) (o := .cells #[.int .i64 t397, .string t398] 24 (0, 0)) (by (with_reducible repeat (first | refine blk_drewN ?_ _ | refine blk_drew ?_ | refine blk_alloc ?_ _)); refine blk_put (cs := #[.int .i64 t397, .string (⟨#[]⟩ : ByteArray)]) ?_ 1 _ rfl; (with_reducible repeat (first | refine blk_drewN ?_ _ | refine blk_drew ?_ | refine blk_alloc ?_ _)); refine blk_put (cs := #[.int .i64 0, .string (⟨#[]⟩ : ByteArray)]) ?_ 0 _ rfl; (with_reducible repeat (first | refine blk_drewN ?_ _ | refine blk_drew ?_ | refine blk_alloc ?_ _)); exact BK400.out)) (below_size (by repeat (first | (with_reducible first | exact HB.out | apply below_alloc | apply pw_below_drewN | apply below_drew1 | refine below_set ?_ GE400.out) | exact HB.out)))); have n2_ := Aside0.mk (blk_below (g := gb400) (o := .cells #[.int .i64 t397, .string t398] 24 (0, 0)) (by (with_reducible repeat (first | refine blk_drewN ?_ _ | refine blk_drew ?_ | refine blk_alloc ?_ _)); refine blk_put (cs := #[.int .i64 t397, .string (⟨#[]⟩ : ByteArray)]) ?_ 1 _ rfl; (with_reducible repeat (first | refine blk_drewN ?_ _ | refine blk_drew ?_ | refine blk_alloc ?_ _)); refine blk_put (cs := #[.int .i64 0, .string (⟨#[]⟩ : ByteArray)]) ?_ 0 _ rfl; (with_reducible repeat (first | refine blk_drewN ?_ _ | refine blk_drew ?_ | refine blk_alloc ?_ _)); exact BK400.out) hb); have n3_ := Aside0.mk (below_step (by repeat (first | (with_reducible first | exact HB.out | apply below_alloc | apply pw_below_drewN | apply below_drew1 | refine below_set ?_ GE400.out) | exact HB.out)) hb); clear HO396; clear BK400; clear HB; have HO396 := n0_; have HO404 := n1_; have BK400 := n2_; have HB := n3_; clear n0_ n1_ n2_ n3_; (try clear hb); (try clear hb2); (try clear hk); (try clear hi); (try clear ho0)) | ((with_reducible refine gate_callee (f := 33) rfl ?_); refine goesL_ (some 41) rfl rfl Try.func33 (by kernel_rfl) rfl #[.slice A0 l0.length c0, .int .i64 a1, .int .i64 a2, .int .u8 a3] rfl (by (try simp only [List.map_toArray, List.map_cons, List.map_nil]); first | done | rfl | (simp only [List.length_drop, List.length_take]; rfl)) ?_; (with_reducible refine (wires_Turn.calls _ _ l0 a1 a2 a3 t405 t406 _ ?side1 ?side2 A9.out).mono ?_); (case side1 => repeat (first | exact (Kd.C_below HR0.out HB.out) | (with_reducible refine Kd.C_alloc ?_ _) | (with_reducible refine Kd.C_drewN ?_ _) | (with_reducible refine Kd.C_drew ?_))); (case side2 => exact HC0.out); rintro e w16 ⟨v407, rfl, ho0, hb⟩; refine ⟨_, rfl, ?_⟩; have n0_ := Aside0.mk (Kd.R_elder' (by (with_reducible repeat (first | apply Kd.R_alloc | apply Kd.R_drewN | apply Kd.R_drew)); exact HO396.out) (Kd.R_base ho0) hb); have n1_ := Aside0.mk (Kd.R_elder' (by (with_reducible repeat (first | apply Kd.R_alloc | apply Kd.R_drewN | apply Kd.R_drew)); exact HO404.out) (Kd.R_base ho0) hb); have n2_ := Aside0.mk (Kd.R_lower (Kd.R_newB (Kd.R_new' (Kd.R_new' ho0 (Kd.R_lt (by (with_reducible repeat (first | apply Kd.R_alloc | apply Kd.R_drewN | apply Kd.R_drew)); exact HO396.out))) (Kd.R_lt (by (with_reducible repeat (first | apply Kd.R_alloc | apply Kd.R_drewN | apply Kd.R_drew)); exact HO404.out))) (g := gb400) (o := .cells #[.int .i64 t397, .string t398] 24 (0, 0)) (by (with_reducible repeat (first | refine blk_drewN ?_ _ | refine blk_drew ?_ | refine blk_alloc ?_ _)); exact BK400.out)) (below_size (by repeat (first | (with_reducible first | exact HB.out | apply below_alloc | apply pw_below_drewN | apply below_drew1 | refine below_set ?_ GE400.out) | exact HB.out)))); have n3_ := Aside0.mk (blk_below (g := gb400) (o := .cells #[.int .i64 t397, .string t398] 24 (0, 0)) (by (with_reducible repeat (first | refine blk_drewN ?_ _ | refine blk_drew ?_ | refine blk_alloc ?_ _)); exact BK400.out) hb); have n4_ := Aside0.mk (below_step (by repeat (first | (with_reducible first | exact HB.out | apply below_alloc | apply pw_below_drewN | apply below_drew1 | refine below_set ?_ GE400.out) | exact HB.out)) hb); clear HO396; clear HO404; clear BK400; clear HB; have HO396 := n0_; have HO404 := n1_; have HO408 := n2_; have BK400 := n3_; have HB := n4_; clear n0_ n1_ n2_ n3_ n4_; (try clear hb); (try clear hb2); (try clear hk); (try clear hi); (try clear ho0)) | ((with_reducible refine gate_callee (f := 18) rfl ?_); refine goesL_ (some 45) rfl rfl Try.func18 (by kernel_rfl) rfl #[.slice A0 l0.length c0] rfl (by (try simp only [List.map_toArray, List.map_cons, List.map_nil]); first | done | rfl | (simp only [List.length_drop, List.length_take]; rfl)) ?_; (with_reducible refine (counterfoillaw16_ref.calls k _ _ l0 t409 _ ?side1 ?side2 A10.out).mono ?_); (case side1 => repeat (first | exact (Kd.C_below HR0.out HB.out) | (with_reducible refine Kd.C_alloc ?_ _) | (with_reducible refine Kd.C_drewN ?_ _) | (with_reducible refine Kd.C_drew ?_))); (case side2 => exact HC0.out); rintro e w17 ⟨v410, rfl, ho0, hb⟩; refine ⟨_, rfl, ?_⟩; have n0_ := Aside0.mk (Kd.R_below (by (with_reducible repeat (first | apply Kd.R_alloc | apply Kd.R_drewN | apply Kd.R_drew)); exact HO396.out) hb); have n1_ := Aside0.mk (Kd.R_below (by (with_reducible repeat (first | apply Kd.R_alloc | apply Kd.R_drewN | apply Kd.R_drew)); exact HO404.out) hb); have n2_ := Aside0.mk (Kd.R_below (by (with_reducible repeat (first | apply Kd.R_alloc | apply Kd.R_drewN | apply Kd.R_drew)); exact HO408.out) hb); have n3_ := Aside0.mk (Kd.R_lower ho0 (below_size (by repeat (first | (with_reducible first | exact HB.out | apply below_alloc | apply pw_below_drewN | apply below_drew1 | refine below_set ?_ GE400.out) | exact HB.out)))); have n4_ := Aside0.mk (blk_below (g := gb400) (o := .cells #[.int .i64 t397, .string t398] 24 (0, 0)) (by (with_reducible repeat (first | refine blk_drewN ?_ _ | refine blk_drew ?_ | refine blk_alloc ?_ _)); exact BK400.out) hb); have n5_ := Aside0.mk (below_step (by repeat (first | (with_reducible first | exact HB.out | apply below_alloc | apply pw_below_drewN | apply below_drew1 | refine below_set ?_ GE400.out) | exact HB.out)) hb); clear HO396; clear HO404; clear HO408; clear BK400; clear HB; have HO396 := n0_; have HO404 := n1_; have HO408 := n2_; have HO411 := n3_; have BK400 := n4_; have HB := n5_; clear n0_ n1_ n2_ n3_ n4_ n5_; (try clear hb); (try clear hb2); (try clear hk); (try clear hi); (try clear ho0)))
    (try simp only [Act.put, List.setIfInBounds_toArray, List.set_cons_zero, List.set_cons_succ])
    go_cut [53] (fun v53 wc => ∃ (kq : Nat) (x53_10 : Bool), v53 = .bool x53_10 ∧ Aside0 (counterfoillaw16_WiresTakes.j0 kq l0 a1 a2 a3 t394 t399 t401 t402 t405 t406 t409 0 x53_10 t397 t398 = some r) ∧ Aside0 (kq ≤ k) ∧ Aside0 (Kd.R k24 24 wc w.heap.size (fun k_ => some k_ ≠ (v403 : Value).ownBlock ∧ some k_ ≠ (v407 : Value).ownBlock ∧ k_ ≠ gb400) v395 t394) ∧ Aside0 (Kd.R k24 24 wc w.heap.size (fun k_ => some k_ ≠ (v395 : Value).ownBlock ∧ some k_ ≠ (v407 : Value).ownBlock ∧ k_ ≠ gb400) v403 t401) ∧ Aside0 (Kd.R k24 24 wc w.heap.size (fun k_ => some k_ ≠ (v395 : Value).ownBlock ∧ some k_ ≠ (v403 : Value).ownBlock ∧ k_ ≠ gb400) v407 t405) ∧ Aside0 (Kd.R k35 35 wc w.heap.size (fun _ => True) v410 t409) ∧ Aside0 (wc.heap[gb400]? = some (.cells #[.int .i64 t397, .string t398] 24 (0, 0))) ∧ Aside0 (Below w.heap.size w wc))
    case first =>
      have H := HC11.out
      clear HC11
      by_cases c18 : a1 < 0
      · rw [if_pos c18] at H
        have c18b0 : decide (a1 < 0) = true := decide_eq_true c18
        clear c18
        (first | rw [c18b0] | (simp only [i64_w, i32_w]; rw [c18b0]) | skip)
        have H' := Aside0.mk H
        clear H
        go_wp2
        go_meet
        case rel => exact ⟨_, (true), (by first | rfl | (simp; done) | (simp [*]; done)), H', ⟨by first | omega | exact Nat.le_refl _⟩, ⟨by (with_reducible repeat (first | apply Kd.R_alloc | apply Kd.R_drewN | apply Kd.R_drew)); exact Kd.R_mono HO396.out (fun _ hk => ⟨hk.1.2, ⟨hk.2, hk.1.1.2⟩⟩)⟩, ⟨by (with_reducible repeat (first | apply Kd.R_alloc | apply Kd.R_drewN | apply Kd.R_drew)); exact Kd.R_mono HO404.out (fun _ hk => ⟨hk.1.1.2, ⟨hk.2, hk.1.2⟩⟩)⟩, ⟨by (with_reducible repeat (first | apply Kd.R_alloc | apply Kd.R_drewN | apply Kd.R_drew)); exact Kd.R_mono HO408.out (fun _ hk => ⟨hk.1.1.2, ⟨hk.1.2, hk.2⟩⟩)⟩, ⟨by (with_reducible repeat (first | apply Kd.R_alloc | apply Kd.R_drewN | apply Kd.R_drew)); exact HO411.out⟩, ⟨by (with_reducible repeat (first | refine blk_drewN ?_ _ | refine blk_drew ?_ | refine blk_alloc ?_ _)); exact BK400.out⟩, ⟨by repeat (first | (with_reducible first | exact HB.out | apply below_alloc | apply pw_below_drewN | apply below_drew1 | refine below_set ?_ GE400.out) | exact HB.out)⟩⟩
      · rw [if_neg c18] at H
        have c18b0 : decide (a1 < 0) = false := decide_eq_false c18
        clear c18
        (first | rw [c18b0] | (simp only [i64_w, i32_w]; rw [c18b0]) | skip)
        have H' := Aside0.mk H
        clear H
        go_wp2
        go_meet
        case rel => exact ⟨_, (decide (a1 ≥ (l0.length : Int))), (by first | rfl | (simp; done) | (simp [*]; done)), H', ⟨by first | omega | exact Nat.le_refl _⟩, ⟨by (with_reducible repeat (first | apply Kd.R_alloc | apply Kd.R_drewN | apply Kd.R_drew)); exact Kd.R_mono HO396.out (fun _ hk => ⟨hk.1.2, ⟨hk.2, hk.1.1.2⟩⟩)⟩, ⟨by (with_reducible repeat (first | apply Kd.R_alloc | apply Kd.R_drewN | apply Kd.R_drew)); exact Kd.R_mono HO404.out (fun _ hk => ⟨hk.1.1.2, ⟨hk.2, hk.1.2⟩⟩)⟩, ⟨by (with_reducible repeat (first | apply Kd.R_alloc | apply Kd.R_drewN | apply Kd.R_drew)); exact Kd.R_mono HO408.out (fun _ hk => ⟨hk.1.1.2, ⟨hk.1.2, hk.2⟩⟩)⟩, ⟨by (with_reducible repeat (first | apply Kd.R_alloc | apply Kd.R_drewN | apply Kd.R_drew)); exact HO411.out⟩, ⟨by (with_reducible repeat (first | refine blk_drewN ?_ _ | refine blk_drew ?_ | refine blk_alloc ?_ _)); exact BK400.out⟩, ⟨by repeat (first | (with_reducible first | exact HB.out | apply below_alloc | apply pw_below_drewN | apply below_drew1 | refine below_set ?_ GE400.out) | exact HB.out)⟩⟩
    case rest =>
      clear HC11
      try clear c1
      try clear p2
      try clear c3
      try clear c4
      try clear c6
      try clear c13
      try clear c14
      try clear c18
      try clear c18b0
      try clear hcz14_0
      try clear hcz14_1
      try clear hfz14_0
      try clear hfz14_1
      obtain ⟨kq, x53_10, rfl, HA, HJ10, HO_9, HO_12, HO_14, HO_16, BK400, HB⟩ := hcut
      cases kq with
      | zero => exact absurd HA.out (by simp [counterfoillaw16_WiresTakes.j0])
      | succ kj10 =>
        have H := HA.out
        clear HA
        simp only [counterfoillaw16_WiresTakes.j0] at H
        have HC19 := Aside0.mk H
        clear H
        go_upto_if 53 with (fail)
        go_cut [17] (fun v17 wc => ∃ (kq : Nat) (x17_18 : Int), v17 = .int .i64 x17_18 ∧ Aside0 (counterfoillaw16_WiresTakes.j1 kq l0 a1 a2 a3 t394 t399 t401 t402 t405 t406 t409 x17_18 t397 t398 = some r) ∧ Aside0 (kq ≤ kj10) ∧ Aside0 (Kd.R k24 24 wc w.heap.size (fun k_ => some k_ ≠ (v403 : Value).ownBlock ∧ some k_ ≠ (v407 : Value).ownBlock ∧ k_ ≠ gb400) v395 t394) ∧ Aside0 (Kd.R k24 24 wc w.heap.size (fun k_ => some k_ ≠ (v395 : Value).ownBlock ∧ some k_ ≠ (v407 : Value).ownBlock ∧ k_ ≠ gb400) v403 t401) ∧ Aside0 (Kd.R k24 24 wc w.heap.size (fun k_ => some k_ ≠ (v395 : Value).ownBlock ∧ some k_ ≠ (v403 : Value).ownBlock ∧ k_ ≠ gb400) v407 t405) ∧ Aside0 (Kd.R k35 35 wc w.heap.size (fun _ => True) v410 t409) ∧ Aside0 (wc.heap[gb400]? = some (.cells #[.int .i64 t397, .string t398] 24 (0, 0))) ∧ Aside0 (Below w.heap.size w wc))
        case first =>
          have H := HC19.out
          clear HC19
          by_cases c20 : x53_10 = true
          · subst c20
            have H1 : (counterfoillaw16_WiresTakes.j1 kj10 l0 a1 a2 a3 t394 t399 t401 t402 t405 t406 t409 8 t397 t398) = some r := by rw [if_pos rfl] at H; exact H
            clear H
            have H := H1
            clear H1
            have H' := Aside0.mk H
            clear H
            go_wp2
            go_meet
            case rel => exact ⟨_, (8), (by first | rfl | (simp; done) | (simp [*]; done)), H', ⟨by have := HJ10.out; first | omega | exact Nat.le_refl _⟩, ⟨by (with_reducible repeat (first | apply Kd.R_alloc | apply Kd.R_drewN | apply Kd.R_drew)); exact HO_9.out⟩, ⟨by (with_reducible repeat (first | apply Kd.R_alloc | apply Kd.R_drewN | apply Kd.R_drew)); exact HO_12.out⟩, ⟨by (with_reducible repeat (first | apply Kd.R_alloc | apply Kd.R_drewN | apply Kd.R_drew)); exact HO_14.out⟩, ⟨by (with_reducible repeat (first | apply Kd.R_alloc | apply Kd.R_drewN | apply Kd.R_drew)); exact HO_16.out⟩, ⟨by (with_reducible repeat (first | refine blk_drewN ?_ _ | refine blk_drew ?_ | refine blk_alloc ?_ _)); exact BK400.out⟩, ⟨by repeat (first | (with_reducible first | exact HB.out | apply below_alloc | apply pw_below_drewN | apply below_drew1 | refine below_set ?_ GE400.out) | exact HB.out)⟩⟩
          · replace c20 := Bool.eq_false_iff.mpr c20
            subst c20
            have H1 : (counterfoillaw16_WiresTakes.j1 kj10 l0 a1 a2 a3 t394 t399 t401 t402 t405 t406 t409 0 t397 t398) = some r := by rw [if_neg (show ¬ (false = true) by decide)] at H; exact H
            clear H
            have H := H1
            clear H1
            have H' := Aside0.mk H
            clear H
            go_wp2
            go_meet
            case rel => exact ⟨_, (0), (by first | rfl | (simp; done) | (simp [*]; done)), H', ⟨by have := HJ10.out; first | omega | exact Nat.le_refl _⟩, ⟨by (with_reducible repeat (first | apply Kd.R_alloc | apply Kd.R_drewN | apply Kd.R_drew)); exact HO_9.out⟩, ⟨by (with_reducible repeat (first | apply Kd.R_alloc | apply Kd.R_drewN | apply Kd.R_drew)); exact HO_12.out⟩, ⟨by (with_reducible repeat (first | apply Kd.R_alloc | apply Kd.R_drewN | apply Kd.R_drew)); exact HO_14.out⟩, ⟨by (with_reducible repeat (first | apply Kd.R_alloc | apply Kd.R_drewN | apply Kd.R_drew)); exact HO_16.out⟩, ⟨by (with_reducible repeat (first | refine blk_drewN ?_ _ | refine blk_drew ?_ | refine blk_alloc ?_ _)); exact BK400.out⟩, ⟨by repeat (first | (with_reducible first | exact HB.out | apply below_alloc | apply pw_below_drewN | apply below_drew1 | refine below_set ?_ GE400.out) | exact HB.out)⟩⟩
        case rest =>
          clear HC19
          try clear c1
          try clear c2
          try clear p2
          try clear c3
          try clear c4
          try clear c6
          try clear c13
          try clear c14
          try clear c18
          try clear c18b0
          try clear c20
          try clear hcz14_0
          try clear hcz14_1
          try clear hfz14_0
          try clear hfz14_1
          try clear p2
          obtain ⟨kq, x17_18, rfl, HA, HJ18, HO_9, HO_12, HO_14, HO_16, BK400, HB⟩ := hcut
          cases kq with
          | zero => exact absurd HA.out (by simp [counterfoillaw16_WiresTakes.j1])
          | succ kj18 =>
            have H := HA.out
            clear HA
            simp only [counterfoillaw16_WiresTakes.j1] at H
            replace H := Option.bind_eq_some_iff.mp H
            obtain ⟨t412, A210, H⟩ := H
            replace H : (if t412 = true then (counterfoillaw16_WiresTakes.j2 kj18 l0 a1 a2 a3 t394 t399 t401 t402 t405 t406 t409 x17_18 t397 t398) else (counterfoillaw16_WiresTakes.j2 kj18 l0 a1 a2 a3 t394 t399 t401 t402 t405 t406 t409 1 t397 t398)) = some r := H
            have A21 := Aside0.mk A210
            clear A210
            have HC22 := Aside0.mk H
            clear H
            obtain ⟨Ao23, co23, eo23⟩ := Kd.R_slice HO_16.out
            subst eo23
            go_upto_if 56 with (first | ((with_reducible refine gate_callee (f := 17) rfl ?_); refine goesL_ (some 55) rfl rfl Try.func17 (by kernel_rfl) rfl #[.slice Ao23 t409.length co23] rfl (by (try simp only [List.map_toArray, List.map_cons, List.map_nil]); first | done | rfl | (simp only [List.length_drop, List.length_take]; rfl)) ?_; (with_reducible refine (counterfoilref16_Right.calls kj18 _ _ t409 t412 _ ?side1 ?side2 A21.out).mono ?_); (case side1 => repeat (first | exact (Kd.R_reads' HO_16.out).2.2 | (with_reducible refine Kd.C_alloc ?_ _) | (with_reducible refine Kd.C_drewN ?_ _) | (with_reducible refine Kd.C_drew ?_))); (case side2 => exact (Kd.R_reads' HO_16.out).2.1); rintro e w' ⟨rfl, ⟨nd, rfl⟩⟩; refine ⟨_, rfl, ?_⟩))
            (try simp only [Act.put, List.setIfInBounds_toArray, List.set_cons_zero, List.set_cons_succ])
            go_cut [17] (fun v17 wc => ∃ (kq : Nat) (x17_21 : Int), v17 = .int .i64 x17_21 ∧ Aside0 (counterfoillaw16_WiresTakes.j2 kq l0 a1 a2 a3 t394 t399 t401 t402 t405 t406 t409 x17_21 t397 t398 = some r) ∧ Aside0 (kq ≤ kj18) ∧ Aside0 (Kd.R k24 24 wc w.heap.size (fun k_ => some k_ ≠ (v403 : Value).ownBlock ∧ some k_ ≠ (v407 : Value).ownBlock ∧ k_ ≠ gb400) v395 t394) ∧ Aside0 (Kd.R k24 24 wc w.heap.size (fun k_ => some k_ ≠ (v395 : Value).ownBlock ∧ some k_ ≠ (v407 : Value).ownBlock ∧ k_ ≠ gb400) v403 t401) ∧ Aside0 (Kd.R k24 24 wc w.heap.size (fun k_ => some k_ ≠ (v395 : Value).ownBlock ∧ some k_ ≠ (v403 : Value).ownBlock ∧ k_ ≠ gb400) v407 t405) ∧ Aside0 (Kd.R k35 35 wc w.heap.size (fun _ => True) (.slice Ao23 t409.length co23) t409) ∧ Aside0 (wc.heap[gb400]? = some (.cells #[.int .i64 t397, .string t398] 24 (0, 0))) ∧ Aside0 (Below w.heap.size w wc))
            case first =>
              have H := HC22.out
              clear HC22
              by_cases c24 : t412 = true
              · subst c24
                have H1 : (counterfoillaw16_WiresTakes.j2 kj18 l0 a1 a2 a3 t394 t399 t401 t402 t405 t406 t409 x17_18 t397 t398) = some r := by rw [if_pos rfl] at H; exact H
                clear H
                have H := H1
                clear H1
                have H' := Aside0.mk H
                clear H
                go_wp2
                go_meet
                case rel => exact ⟨_, (x17_18), (by first | rfl | (simp; done) | (simp [*]; done)), H', ⟨by have := HJ10.out; have := HJ18.out; first | omega | exact Nat.le_refl _⟩, ⟨by (with_reducible repeat (first | apply Kd.R_alloc | apply Kd.R_drewN | apply Kd.R_drew)); exact HO_9.out⟩, ⟨by (with_reducible repeat (first | apply Kd.R_alloc | apply Kd.R_drewN | apply Kd.R_drew)); exact HO_12.out⟩, ⟨by (with_reducible repeat (first | apply Kd.R_alloc | apply Kd.R_drewN | apply Kd.R_drew)); exact HO_14.out⟩, ⟨by (with_reducible repeat (first | apply Kd.R_alloc | apply Kd.R_drewN | apply Kd.R_drew)); exact HO_16.out⟩, ⟨by (with_reducible repeat (first | refine blk_drewN ?_ _ | refine blk_drew ?_ | refine blk_alloc ?_ _)); exact BK400.out⟩, ⟨by repeat (first | (with_reducible first | exact HB.out | apply below_alloc | apply pw_below_drewN | apply below_drew1 | refine below_set ?_ GE400.out) | exact HB.out)⟩⟩
              · replace c24 := Bool.eq_false_iff.mpr c24
                subst c24
                have H1 : (counterfoillaw16_WiresTakes.j2 kj18 l0 a1 a2 a3 t394 t399 t401 t402 t405 t406 t409 1 t397 t398) = some r := by rw [if_neg (show ¬ (false = true) by decide)] at H; exact H
                clear H
                have H := H1
                clear H1
                have H' := Aside0.mk H
                clear H
                go_wp2
                go_meet
                case rel => exact ⟨_, (1), (by first | rfl | (simp; done) | (simp [*]; done)), H', ⟨by have := HJ10.out; have := HJ18.out; first | omega | exact Nat.le_refl _⟩, ⟨by (with_reducible repeat (first | apply Kd.R_alloc | apply Kd.R_drewN | apply Kd.R_drew)); exact HO_9.out⟩, ⟨by (with_reducible repeat (first | apply Kd.R_alloc | apply Kd.R_drewN | apply Kd.R_drew)); exact HO_12.out⟩, ⟨by (with_reducible repeat (first | apply Kd.R_alloc | apply Kd.R_drewN | apply Kd.R_drew)); exact HO_14.out⟩, ⟨by (with_reducible repeat (first | apply Kd.R_alloc | apply Kd.R_drewN | apply Kd.R_drew)); exact HO_16.out⟩, ⟨by (with_reducible repeat (first | refine blk_drewN ?_ _ | refine blk_drew ?_ | refine blk_alloc ?_ _)); exact BK400.out⟩, ⟨by repeat (first | (with_reducible first | exact HB.out | apply below_alloc | apply pw_below_drewN | apply below_drew1 | refine below_set ?_ GE400.out) | exact HB.out)⟩⟩
            case rest =>
              clear HC22
              try clear c1
              try clear c2
              try clear p2
              try clear c3
              try clear c4
              try clear c6
              try clear c13
              try clear c14
              try clear c17
              try clear c18
              try clear c18b0
              try clear c20
              try clear c24
              try clear hcz14_0
              try clear hcz14_1
              try clear hfz14_0
              try clear hfz14_1
              try clear p2
              obtain ⟨kq, x17_21, rfl, HA, HJ21, HO_9, HO_12, HO_14, HO_16, BK400, HB⟩ := hcut
              cases kq with
              | zero => exact absurd HA.out (by simp [counterfoillaw16_WiresTakes.j2])
              | succ kj21 =>
                have H := HA.out
                clear HA
                simp only [counterfoillaw16_WiresTakes.j2] at H
                by_cases c25 : x17_21 = 0
                · as_aux_lemma =>
                  rw [if_pos c25] at H
                  have c25b0 : (x17_21 == 0) = true := beq_iff_eq.mpr c25
                  have c25b1 : (x17_21 != 0) = false := bne_eq_false_iff_eq.mpr c25
                  clear c25
                  have HC26 := Aside0.mk H
                  clear H
                  go_upto_region 14 with (fail)
                  go_cut [112] (fun v112 wc => ∃ (kq : Nat) (x112_25 : Bool), v112 = .bool x112_25 ∧ Aside0 (counterfoillaw16_WiresTakes.j3 kq l0 a1 a2 a3 t401 t402 t405 t406 t409 x112_25 = some r) ∧ Aside0 (kq ≤ kj21) ∧ Aside0 (Kd.R k24 24 wc w.heap.size (fun k_ => some k_ ≠ (v407 : Value).ownBlock ∧ k_ ≠ gb400) v403 t401) ∧ Aside0 (Kd.R k24 24 wc w.heap.size (fun k_ => some k_ ≠ (v403 : Value).ownBlock ∧ k_ ≠ gb400) v407 t405) ∧ Aside0 (Kd.R k35 35 wc w.heap.size (fun _ => True) (.slice Ao23 t409.length co23) t409) ∧ Aside0 (wc.heap[gb400]? = some (.cells #[.int .i64 t397, .string t398] 24 (0, 0))) ∧ Aside0 (Below w.heap.size w wc))
                  case first =>
                    have H := HC26.out
                    clear HC26
                    replace H := Option.bind_eq_some_iff.mp H
                    obtain ⟨t414, A270, H⟩ := H
                    replace H : ((counterfoillaw16_same.f kj21 t394 t414).bind fun t417 => (if t417 = true then (if 0 ≤ a1 then (if a1 < (l0.length : Int) then (if (!(t397 == ((rd_T24 l0 a1).f0)) || (!(t398.toList == (((rd_T24 l0 a1).f1).toList)))) = true then (counterfoillaw16_WiresTakes.j3 kj21 l0 a1 a2 a3 t401 t402 t405 t406 t409 true) else (counterfoillaw16_WiresTakes.j3 kj21 l0 a1 a2 a3 t401 t402 t405 t406 t409 (t399 != 0))) else (none)) else (none)) else (counterfoillaw16_WiresTakes.j3 kj21 l0 a1 a2 a3 t401 t402 t405 t406 t409 true))) = some r := H
                    have A27 := Aside0.mk A270
                    clear A270
                    replace H := Option.bind_eq_some_iff.mp H
                    obtain ⟨t417, A280, H⟩ := H
                    replace H : (if t417 = true then (if 0 ≤ a1 then (if a1 < (l0.length : Int) then (if (!(t397 == ((rd_T24 l0 a1).f0)) || (!(t398.toList == (((rd_T24 l0 a1).f1).toList)))) = true then (counterfoillaw16_WiresTakes.j3 kj21 l0 a1 a2 a3 t401 t402 t405 t406 t409 true) else (counterfoillaw16_WiresTakes.j3 kj21 l0 a1 a2 a3 t401 t402 t405 t406 t409 (t399 != 0))) else (none)) else (none)) else (counterfoillaw16_WiresTakes.j3 kj21 l0 a1 a2 a3 t401 t402 t405 t406 t409 true)) = some r := H
                    have A28 := Aside0.mk A280
                    clear A280
                    by_cases c29 : t417 = true
                    · subst c29
                      have H1 : (if 0 ≤ a1 then (if a1 < (l0.length : Int) then (if (!(t397 == ((rd_T24 l0 a1).f0)) || (!(t398.toList == (((rd_T24 l0 a1).f1).toList)))) = true then (counterfoillaw16_WiresTakes.j3 kj21 l0 a1 a2 a3 t401 t402 t405 t406 t409 true) else (counterfoillaw16_WiresTakes.j3 kj21 l0 a1 a2 a3 t401 t402 t405 t406 t409 (t399 != 0))) else (none)) else (none)) = some r := by rw [if_pos rfl] at H; exact H
                      clear H
                      have H := H1
                      clear H1
                      by_cases c30 : 0 ≤ a1
                      · as_aux_lemma =>
                        rw [if_pos c30] at H
                        have c30b0 : decide (0 ≤ a1) = true := decide_eq_true c30
                        clear c30
                        (first | rw [c30b0] | (simp only [i64_w, i32_w]; rw [c30b0]) | skip)
                        by_cases c31 : a1 < (l0.length : Int)
                        · as_aux_lemma =>
                          rw [if_pos c31] at H
                          have c31b0 : decide (a1 < (l0.length : Int)) = true := decide_eq_true c31
                          clear c31
                          by_cases c32 : (!(t397 == ((rd_T24 l0 a1).f0)) || (!(t398.toList == (((rd_T24 l0 a1).f1).toList)))) = true
                          · as_aux_lemma =>
                            rw [if_pos c32] at H
                            have c32b0 : (!(t397 == ((rd_T24 l0 a1).f0)) || (!(t398.toList == (((rd_T24 l0 a1).f1).toList)))) = true := c32
                            clear c32
                            have H' := Aside0.mk H
                            clear H
                            try go_wp2
                            have n0_ := Aside0.mk (Kd.R_drew HO_9.out)
                            have n1_ := Aside0.mk (Kd.R_drew HO_12.out)
                            have n2_ := Aside0.mk (Kd.R_drew HO_14.out)
                            have n3_ := Aside0.mk (Kd.R_drew HO_16.out)
                            have n4_ := Aside0.mk (blk_drew BK400.out)
                            have n5_ := Aside0.mk (below_drew1 HB.out)
                            clear HO_9
                            clear HO_12
                            clear HO_14
                            clear HO_16
                            clear BK400
                            clear HB
                            have HO_9 := n0_
                            have HO_12 := n1_
                            have HO_14 := n2_
                            have HO_16 := n3_
                            have BK400 := n4_
                            have HB := n5_
                            clear n0_ n1_ n2_ n3_ n4_ n5_
                            have p418 : 0 ≤ (a1 : Int) := of_decide_eq_true (by first | (with_reducible assumption) | assumption)
                            have q418 : a1 < (l0.length : Int) := of_decide_eq_true (by first | (with_reducible assumption) | assumption)
                            obtain ⟨ad418, e418, hx418_0, hx418_1⟩ := at_T24 HR0.out a1 p418 q418
                            have hw418_1 := hx418_1
                            have hw418_0 := hx418_0
                            cases e418
                            replace hx418_0 := (HB.out.cell (World.block_lt_of_cell? w _ hx418_0)).trans hx418_0
                            replace hx418_1 := (HB.out.cell (World.block_lt_of_cell? w _ hx418_1)).trans hx418_1
                            replace p418 := eq_true p418
                            replace q418 := eq_true q418
                            refine start_ (n := 18) (S := fun w' => w'.cell? ⟨gb400, 0, none⟩ = some (.int .i64 t397) ∧ w'.cell? ⟨gb400, 1, none⟩ = some (.string t398) ∧ w'.cell? (ad418.add ((a1).toNat * 2)) = some (.int .i64 ((rd_T24 l0 a1).f0)) ∧ w'.cell? ⟨(ad418.add ((a1).toNat * 2)).block, (ad418.add ((a1).toNat * 2)).off + 1, none⟩ = some (.string ((rd_T24 l0 a1).f1))) (ds := []) #[false, false, false, false, false, false, false, false, false, false, false, false, false, false, false, false, false, false] (by kernel_rfl) rfl rfl ⟨(blk_cell BK400.out 0).trans rfl, (blk_cell BK400.out 1).trans rfl, ((HB.out.cell (World.block_lt_of_cell? w _ hw418_0)).trans hw418_0), ((HB.out.cell (World.block_lt_of_cell? w _ hw418_1)).trans hw418_1)⟩ (fun hHeld => ?_); refine with_tabW counterfoillaw16_WiresTakes.tab14 counterfoillaw16_WiresTakes.bits14 (fun HT_ HW_ => ?_)
                            generalize wc.drew = w33 at HO_9 HO_12 HO_14 HO_16 BK400 HB hx418_0 hx418_1 hHeld ⊢
                            refine pure_ (i := 0) (N := some 95) (v := ?_) (a' := ?_) #[true, false, false, false, false, false, false, false, false, false, false, false, false, false, false, false, false, false] rfl rfl (any_of HT_.out (by kernel_rfl)) (fun _ _ _ h => h) (Or.inl ⟨by rfl, ?_⟩) ?_ ?_
                            rotate_left
                            · intro w'
                              go_simp
                              with_reducible rfl
                            rotate_left
                            · simp only [Act.put, List.setIfInBounds_toArray, List.set_cons_zero, List.set_cons_succ, i64_w, i32_w]
                              rfl
                            refine pure_ (i := 1) (N := some 96) (v := ?_) (a' := ?_) #[true, true, false, false, false, false, false, false, false, false, false, false, false, false, false, false, false, false] rfl rfl (any_of HT_.out (by kernel_rfl)) (fun _ _ _ h => h) (Or.inl ⟨by rfl, ?_⟩) ?_ ?_
                            rotate_left
                            · intro w'
                              go_simp
                              with_reducible rfl
                            rotate_left
                            · simp only [Act.put, List.setIfInBounds_toArray, List.set_cons_zero, List.set_cons_succ, i64_w, i32_w]
                              rfl
                            refine pure_ (i := 2) (N := some 97) (v := ?_) (a' := ?_) #[true, true, true, false, false, false, false, false, false, false, false, false, false, false, false, false, false, false] rfl rfl (any_of HT_.out (by kernel_rfl)) (fun _ _ _ h => h) (Or.inl ⟨by rfl, ?_⟩) ?_ ?_
                            rotate_left
                            · intro w'
                              go_simp
                              with_reducible rfl
                            rotate_left
                            · simp only [Act.put, List.setIfInBounds_toArray, List.set_cons_zero, List.set_cons_succ, i64_w, i32_w]
                              rfl
                            refine one_ (i := 3) (N := some 98) #[true, true, true, true, false, false, false, false, false, false, false, false, false, false, false, false, false, false] rfl rfl (one_of HT_.out (by kernel_rfl)) (by decide) (fun K hK => ?_)
                            refine goes_ Try.func21 (by kernel_rfl) rfl #[.slice Ao23 t409.length co23, .int .i64 a1, .slice none 0 0] (by rfl) rfl rfl (by (try simp only [List.map_toArray, List.map_cons, List.map_nil]); first | done | rfl | (simp only [List.length_drop, List.length_take]; rfl)) ?_
                            refine (counterfoilref16_Put.calls kj21 _ _ t409 a1 _ _ ([] : List (S35)) t414 _ ?side1 ?side2 ?side3 ?side4 A27.out).mono ?_
                            (case side1 => repeat (first | exact (Kd.R_reads' HO_16.out).2.2 | (with_reducible refine Kd.C_alloc ?_ _) | (with_reducible refine Kd.C_drewN ?_ _) | (with_reducible refine Kd.C_drew ?_)))
                            (case side2 => exact (Kd.R_reads' HO_16.out).2.1)
                            (case side3 => exact Kd.C_nil _ _)
                            (case side4 => exact Nat.le_refl _)
                            rintro e w34 ⟨v415, rfl, ho0, hb⟩
                            refine ⟨_, rfl, ?_⟩
                            have n0_ := Aside0.mk (Kd.R_below (by (with_reducible repeat (first | apply Kd.R_alloc | apply Kd.R_drewN | apply Kd.R_drew)); exact HO_9.out) hb)
                            have n1_ := Aside0.mk (Kd.R_below (by (with_reducible repeat (first | apply Kd.R_alloc | apply Kd.R_drewN | apply Kd.R_drew)); exact HO_12.out) hb)
                            have n2_ := Aside0.mk (Kd.R_below (by (with_reducible repeat (first | apply Kd.R_alloc | apply Kd.R_drewN | apply Kd.R_drew)); exact HO_14.out) hb)
                            have n3_ := Aside0.mk (Kd.R_elder' (by (with_reducible repeat (first | apply Kd.R_alloc | apply Kd.R_drewN | apply Kd.R_drew)); exact HO_16.out) (Kd.R_base ho0) hb)
                            have n4_ := Aside0.mk (Kd.R_lower (Kd.R_new' ho0 (Kd.R_lt (by (with_reducible repeat (first | apply Kd.R_alloc | apply Kd.R_drewN | apply Kd.R_drew)); exact HO_16.out))) (below_size (by repeat (first | (with_reducible first | exact HB.out | apply below_alloc | apply pw_below_drewN | apply below_drew1 | refine below_set ?_ GE400.out) | exact HB.out))))
                            have n5_ := Aside0.mk (blk_below (g := gb400) (o := .cells #[.int .i64 t397, .string t398] 24 (0, 0)) (by (with_reducible repeat (first | refine blk_drewN ?_ _ | refine blk_drew ?_ | refine blk_alloc ?_ _)); exact BK400.out) hb)
                            have n6_ := Aside0.mk (below_step (by repeat (first | (with_reducible first | exact HB.out | apply below_alloc | apply pw_below_drewN | apply below_drew1 | refine below_set ?_ GE400.out) | exact HB.out)) hb)
                            clear HO_9
                            clear HO_12
                            clear HO_14
                            clear HO_16
                            clear BK400
                            clear HB
                            have HO_9 := n0_
                            have HO_12 := n1_
                            have HO_14 := n2_
                            have HO_16 := n3_
                            have HO416 := n4_
                            have BK400 := n5_
                            have HB := n6_
                            clear n0_ n1_ n2_ n3_ n4_ n5_ n6_
                            (try clear hb)
                            (try clear hb2)
                            (try clear hk)
                            (try clear hi)
                            (try clear ho0)
                            obtain ⟨Ao35, co35, eo35⟩ := Kd.R_slice HO_9.out
                            (first | subst eo35 | (injection eo35 with f1_ f2_ f3_; have f4_ := f1_.symm; have f5_ := f3_.symm; clear f1_ f2_ f3_; subst f4_; subst f5_))
                            obtain ⟨Ao36, co36, eo36⟩ := Kd.R_slice HO416.out
                            (first | subst eo36 | (injection eo36 with f1_ f2_ f3_; have f4_ := f1_.symm; have f5_ := f3_.symm; clear f1_ f2_ f3_; subst f4_; subst f5_))
                            refine hK.out _ _ ⟨(blk_cell BK400.out 0).trans rfl, (blk_cell BK400.out 1).trans rfl, ((HB.out.cell (World.block_lt_of_cell? w _ hw418_0)).trans hw418_0), ((HB.out.cell (World.block_lt_of_cell? w _ hw418_1)).trans hw418_1)⟩ (fun hHeld => ?_)
                            clear hK K
                            refine norm_ (a' := ?_) ?_ ?_
                            rotate_left
                            · show Act.put _ (some 98) _ = _
                              simp only [Act.put, List.setIfInBounds_toArray, List.set_cons_zero, List.set_cons_succ, i64_w, i32_w]
                              rfl
                            refine one_ (i := 4) (N := some 99) #[true, true, true, true, true, false, false, false, false, false, false, false, false, false, false, false, false, false] rfl rfl (one_of HT_.out (by kernel_rfl)) (by decide) (fun K hK => ?_)
                            refine goes_ Try.func20 (by kernel_rfl) rfl #[.slice Ao35 t394.length co35, .slice Ao36 t414.length co36] (by rfl) rfl rfl (by (try simp only [List.map_toArray, List.map_cons, List.map_nil]); first | done | rfl | (simp only [List.length_drop, List.length_take]; rfl)) ?_
                            with_reducible refine (counterfoillaw16_same.calls kj21 _ _ t394 _ _ t414 true _ ?side1 ?side2 ?side3 ?side4 A28.out).mono ?_
                            (case side1 => repeat (first | exact (Kd.R_reads' HO_9.out).2.2 | (with_reducible refine Kd.C_alloc ?_ _) | (with_reducible refine Kd.C_drewN ?_ _) | (with_reducible refine Kd.C_drew ?_)))
                            (case side2 => exact (Kd.R_reads' HO_9.out).2.1)
                            (case side3 => repeat (first | exact (Kd.R_reads' HO416.out).2.2 | (with_reducible refine Kd.C_alloc ?_ _) | (with_reducible refine Kd.C_drewN ?_ _) | (with_reducible refine Kd.C_drew ?_)))
                            (case side4 => exact (Kd.R_reads' HO416.out).2.1)
                            rintro e w' ⟨rfl, ⟨nd, rfl⟩⟩
                            refine ⟨_, rfl, ?_⟩
                            refine hK.out _ _ ⟨(blk_cell BK400.out 0).trans rfl, (blk_cell BK400.out 1).trans rfl, ((HB.out.cell (World.block_lt_of_cell? w _ hw418_0)).trans hw418_0), ((HB.out.cell (World.block_lt_of_cell? w _ hw418_1)).trans hw418_1)⟩ (fun hHeld => ?_)
                            clear hK K
                            refine norm_ (a' := ?_) ?_ ?_
                            rotate_left
                            · show Act.put _ (some 99) _ = _
                              simp only [Act.put, List.setIfInBounds_toArray, List.set_cons_zero, List.set_cons_succ, i64_w, i32_w]
                              rfl
                            refine pure_ (i := 5) (N := some 100) (v := ?_) (a' := ?_) #[true, true, true, true, true, true, false, false, false, false, false, false, false, false, false, false, false, false] rfl rfl (any_of HT_.out (by kernel_rfl)) (fun _ _ _ h => h) (Or.inl ⟨by rfl, ?_⟩) ?_ ?_
                            rotate_left
                            · intro w'
                              go_simp
                              with_reducible rfl
                            rotate_left
                            · simp only [Act.put, List.setIfInBounds_toArray, List.set_cons_zero, List.set_cons_succ, i64_w, i32_w]
                              rfl
                            refine pure_ (i := 6) (N := some 101) (v := ?_) (a' := ?_) #[true, true, true, true, true, true, true, false, false, false, false, false, false, false, false, false, false, false] rfl rfl (any_of HT_.out (by kernel_rfl)) (fun _ _ _ h => h) (Or.inl ⟨by rfl, ?_⟩) ?_ ?_
                            rotate_left
                            · intro w'
                              go_simp
                              with_reducible rfl
                            rotate_left
                            · simp only [Act.put, List.setIfInBounds_toArray, List.set_cons_zero, List.set_cons_succ, i64_w, i32_w]
                              rfl
                            refine pure_ (i := 8) (N := some 103) (v := ?_) (a' := ?_) #[true, true, true, true, true, true, true, false, true, false, false, false, false, false, false, false, false, false] rfl rfl (any_of HT_.out (by kernel_rfl)) (fun _ _ _ h => h) (Or.inl ⟨by rfl, ?_⟩) ?_ ?_
                            rotate_left
                            · intro w'
                              go_simp
                              with_reducible rfl
                            rotate_left
                            · simp only [Act.put, List.setIfInBounds_toArray, List.set_cons_zero, List.set_cons_succ, i64_w, i32_w]
                              rfl
                            refine pure_ (i := 9) (N := some 104) (v := ?_) (a' := ?_) #[true, true, true, true, true, true, true, false, true, true, false, false, false, false, false, false, false, false] rfl rfl (any_of HT_.out (by kernel_rfl)) (fun _ _ _ h => h) (Or.inl ⟨by rfl, ?_⟩) ?_ ?_
                            rotate_left
                            · intro w'
                              go_simp
                              with_reducible rfl
                            rotate_left
                            · simp only [Act.put, List.setIfInBounds_toArray, List.set_cons_zero, List.set_cons_succ, i64_w, i32_w]
                              rfl
                            refine pure_ (i := 10) (N := some 105) (v := ?_) (a' := ?_) #[true, true, true, true, true, true, true, false, true, true, true, false, false, false, false, false, false, false] rfl rfl (any_of HT_.out (by kernel_rfl)) (fun _ _ _ h => h) (Or.inl ⟨by rfl, ?_⟩) ?_ ?_
                            rotate_left
                            · intro w'
                              go_simp
                              with_reducible rfl
                            rotate_left
                            · simp only [Act.put, List.setIfInBounds_toArray, List.set_cons_zero, List.set_cons_succ, i64_w, i32_w]
                              rfl
                            refine take_ (i := 7) (N := some 102) (v := ?_) (a' := ?_) #[true, true, true, true, true, true, true, true, true, true, true, false, false, false, false, false, false, false] rfl rfl (take_ofW HT_.out HW_.out (by kernel_rfl)) (fun _ _ _ h => h) (Or.inl ⟨by rfl, ?_⟩) hHeld ?_ ?_
                            rotate_left
                            · rintro w' ⟨s0, s1, s2, s3⟩
                              go_simp
                              with_reducible rfl
                            rotate_left
                            · simp only [Act.put, List.setIfInBounds_toArray, List.set_cons_zero, List.set_cons_succ, i64_w, i32_w]
                              rfl
                            refine take_ (i := 11) (N := some 106) (v := ?_) (a' := ?_) #[true, true, true, true, true, true, true, true, true, true, true, true, false, false, false, false, false, false] rfl rfl (take_ofW HT_.out HW_.out (by kernel_rfl)) (fun _ _ _ h => h) (Or.inl ⟨by rfl, ?_⟩) hHeld ?_ ?_
                            rotate_left
                            · rintro w' ⟨s0, s1, s2, s3⟩
                              go_simp
                              with_reducible rfl
                            rotate_left
                            · simp only [Act.put, List.setIfInBounds_toArray, List.set_cons_zero, List.set_cons_succ, i64_w, i32_w]
                              rfl
                            refine pure_ (i := 12) (N := some 107) (v := ?_) (a' := ?_) #[true, true, true, true, true, true, true, true, true, true, true, true, true, false, false, false, false, false] rfl rfl (any_of HT_.out (by kernel_rfl)) (fun _ _ _ h => h) (Or.inl ⟨by rfl, ?_⟩) ?_ ?_
                            rotate_left
                            · intro w'
                              go_simp
                              with_reducible rfl
                            rotate_left
                            · simp only [Act.put, List.setIfInBounds_toArray, List.set_cons_zero, List.set_cons_succ, i64_w, i32_w]
                              rfl
                            refine pure_ (i := 13) (N := some 108) (v := ?_) (a' := ?_) #[true, true, true, true, true, true, true, true, true, true, true, true, true, true, false, false, false, false] rfl rfl (any_of HT_.out (by kernel_rfl)) (fun _ _ _ h => h) (Or.inl ⟨by rfl, ?_⟩) ?_ ?_
                            rotate_left
                            · intro w'
                              go_simp
                              with_reducible rfl
                            rotate_left
                            · simp only [Act.put, List.setIfInBounds_toArray, List.set_cons_zero, List.set_cons_succ, i64_w, i32_w]
                              rfl
                            refine pure_ (i := 14) (N := some 109) (v := ?_) (a' := ?_) #[true, true, true, true, true, true, true, true, true, true, true, true, true, true, true, false, false, false] rfl rfl (any_of HT_.out (by kernel_rfl)) (fun _ _ _ h => h) (Or.inl ⟨by rfl, ?_⟩) ?_ ?_
                            rotate_left
                            · intro w'
                              go_simp
                              with_reducible rfl
                            rotate_left
                            · simp only [Act.put, List.setIfInBounds_toArray, List.set_cons_zero, List.set_cons_succ, i64_w, i32_w]
                              rfl
                            refine pure_ (i := 15) (N := some 110) (v := undef) (a' := ?_) #[true, true, true, true, true, true, true, true, true, true, true, true, true, true, true, true, false, false] rfl rfl (any_of HT_.out (by kernel_rfl)) (fun _ _ _ h => h) (Or.inr ⟨by rfl, rfl⟩) ?_ ?_
                            rotate_left
                            · simp only [Act.put, List.setIfInBounds_toArray, List.set_cons_zero, List.set_cons_succ, i64_w, i32_w]
                              rfl
                            refine pure_ (i := 16) (N := some 111) (v := undef) (a' := ?_) #[true, true, true, true, true, true, true, true, true, true, true, true, true, true, true, true, true, false] rfl rfl (any_of HT_.out (by kernel_rfl)) (fun _ _ _ h => h) (Or.inr ⟨by rfl, rfl⟩) ?_ ?_
                            rotate_left
                            · simp only [Act.put, List.setIfInBounds_toArray, List.set_cons_zero, List.set_cons_succ, i64_w, i32_w]
                              rfl
                            refine pure_ (i := 17) (N := some 112) (v := ?_) (a' := ?_) #[true, true, true, true, true, true, true, true, true, true, true, true, true, true, true, true, true, true] rfl rfl (any_of HT_.out (by kernel_rfl)) (fun _ _ _ h => h) (Or.inl ⟨by rfl, ?_⟩) ?_ ?_
                            rotate_left
                            · intro w'
                              go_simp
                              with_reducible rfl
                            rotate_left
                            · simp only [Act.put, List.setIfInBounds_toArray, List.set_cons_zero, List.set_cons_succ, i64_w, i32_w]
                              rfl
                            refine done_ (done_of HT_.out (by kernel_rfl)) ?_
                            try go_wp2
                            go_meet
                            case rel => exact ⟨_, (true), (by first | rfl | (simp; done) | (simp [*]; done)), H', ⟨by have := HJ10.out; have := HJ18.out; have := HJ21.out; first | omega | exact Nat.le_refl _⟩, ⟨by (with_reducible repeat (first | apply Kd.R_alloc | apply Kd.R_drewN | apply Kd.R_drew)); exact Kd.R_mono HO_12.out (fun _ hk => ⟨hk.2.1, hk.2.2⟩)⟩, ⟨by (with_reducible repeat (first | apply Kd.R_alloc | apply Kd.R_drewN | apply Kd.R_drew)); exact Kd.R_mono HO_14.out (fun _ hk => ⟨hk.2.1, hk.2.2⟩)⟩, ⟨by (with_reducible repeat (first | apply Kd.R_alloc | apply Kd.R_drewN | apply Kd.R_drew)); exact Kd.R_mono HO_16.out (fun _ hk => trivial)⟩, ⟨by (with_reducible repeat (first | refine blk_drewN ?_ _ | refine blk_drew ?_ | refine blk_alloc ?_ _)); exact BK400.out⟩, ⟨by repeat (first | (with_reducible first | exact HB.out | apply below_alloc | apply pw_below_drewN | apply below_drew1 | refine below_set ?_ GE400.out) | exact HB.out)⟩⟩
                          · as_aux_lemma =>
                            rw [if_neg c32] at H
                            have c32b0 : (!(t397 == ((rd_T24 l0 a1).f0)) || (!(t398.toList == (((rd_T24 l0 a1).f1).toList)))) = false := by simpa using c32
                            clear c32
                            have H' := Aside0.mk H
                            clear H
                            try go_wp2
                            have n0_ := Aside0.mk (Kd.R_drew HO_9.out)
                            have n1_ := Aside0.mk (Kd.R_drew HO_12.out)
                            have n2_ := Aside0.mk (Kd.R_drew HO_14.out)
                            have n3_ := Aside0.mk (Kd.R_drew HO_16.out)
                            have n4_ := Aside0.mk (blk_drew BK400.out)
                            have n5_ := Aside0.mk (below_drew1 HB.out)
                            clear HO_9
                            clear HO_12
                            clear HO_14
                            clear HO_16
                            clear BK400
                            clear HB
                            have HO_9 := n0_
                            have HO_12 := n1_
                            have HO_14 := n2_
                            have HO_16 := n3_
                            have BK400 := n4_
                            have HB := n5_
                            clear n0_ n1_ n2_ n3_ n4_ n5_
                            have p418 : 0 ≤ (a1 : Int) := of_decide_eq_true (by first | (with_reducible assumption) | assumption)
                            have q418 : a1 < (l0.length : Int) := of_decide_eq_true (by first | (with_reducible assumption) | assumption)
                            obtain ⟨ad418, e418, hx418_0, hx418_1⟩ := at_T24 HR0.out a1 p418 q418
                            have hw418_1 := hx418_1
                            have hw418_0 := hx418_0
                            cases e418
                            replace hx418_0 := (HB.out.cell (World.block_lt_of_cell? w _ hx418_0)).trans hx418_0
                            replace hx418_1 := (HB.out.cell (World.block_lt_of_cell? w _ hx418_1)).trans hx418_1
                            replace p418 := eq_true p418
                            replace q418 := eq_true q418
                            refine start_ (n := 18) (S := fun w' => w'.cell? ⟨gb400, 0, none⟩ = some (.int .i64 t397) ∧ w'.cell? ⟨gb400, 1, none⟩ = some (.string t398) ∧ w'.cell? (ad418.add ((a1).toNat * 2)) = some (.int .i64 ((rd_T24 l0 a1).f0)) ∧ w'.cell? ⟨(ad418.add ((a1).toNat * 2)).block, (ad418.add ((a1).toNat * 2)).off + 1, none⟩ = some (.string ((rd_T24 l0 a1).f1))) (ds := []) #[false, false, false, false, false, false, false, false, false, false, false, false, false, false, false, false, false, false] (by kernel_rfl) rfl rfl ⟨(blk_cell BK400.out 0).trans rfl, (blk_cell BK400.out 1).trans rfl, ((HB.out.cell (World.block_lt_of_cell? w _ hw418_0)).trans hw418_0), ((HB.out.cell (World.block_lt_of_cell? w _ hw418_1)).trans hw418_1)⟩ (fun hHeld => ?_); refine with_tabW counterfoillaw16_WiresTakes.tab14 counterfoillaw16_WiresTakes.bits14 (fun HT_ HW_ => ?_)
                            generalize wc.drew = w37 at HO_9 HO_12 HO_14 HO_16 BK400 HB hx418_0 hx418_1 hHeld ⊢
                            refine pure_ (i := 0) (N := some 95) (v := ?_) (a' := ?_) #[true, false, false, false, false, false, false, false, false, false, false, false, false, false, false, false, false, false] rfl rfl (any_of HT_.out (by kernel_rfl)) (fun _ _ _ h => h) (Or.inl ⟨by rfl, ?_⟩) ?_ ?_
                            rotate_left
                            · intro w'
                              go_simp
                              with_reducible rfl
                            rotate_left
                            · simp only [Act.put, List.setIfInBounds_toArray, List.set_cons_zero, List.set_cons_succ, i64_w, i32_w]
                              rfl
                            refine pure_ (i := 1) (N := some 96) (v := ?_) (a' := ?_) #[true, true, false, false, false, false, false, false, false, false, false, false, false, false, false, false, false, false] rfl rfl (any_of HT_.out (by kernel_rfl)) (fun _ _ _ h => h) (Or.inl ⟨by rfl, ?_⟩) ?_ ?_
                            rotate_left
                            · intro w'
                              go_simp
                              with_reducible rfl
                            rotate_left
                            · simp only [Act.put, List.setIfInBounds_toArray, List.set_cons_zero, List.set_cons_succ, i64_w, i32_w]
                              rfl
                            refine pure_ (i := 2) (N := some 97) (v := ?_) (a' := ?_) #[true, true, true, false, false, false, false, false, false, false, false, false, false, false, false, false, false, false] rfl rfl (any_of HT_.out (by kernel_rfl)) (fun _ _ _ h => h) (Or.inl ⟨by rfl, ?_⟩) ?_ ?_
                            rotate_left
                            · intro w'
                              go_simp
                              with_reducible rfl
                            rotate_left
                            · simp only [Act.put, List.setIfInBounds_toArray, List.set_cons_zero, List.set_cons_succ, i64_w, i32_w]
                              rfl
                            refine one_ (i := 3) (N := some 98) #[true, true, true, true, false, false, false, false, false, false, false, false, false, false, false, false, false, false] rfl rfl (one_of HT_.out (by kernel_rfl)) (by decide) (fun K hK => ?_)
                            refine goes_ Try.func21 (by kernel_rfl) rfl #[.slice Ao23 t409.length co23, .int .i64 a1, .slice none 0 0] (by rfl) rfl rfl (by (try simp only [List.map_toArray, List.map_cons, List.map_nil]); first | done | rfl | (simp only [List.length_drop, List.length_take]; rfl)) ?_
                            refine (counterfoilref16_Put.calls kj21 _ _ t409 a1 _ _ ([] : List (S35)) t414 _ ?side1 ?side2 ?side3 ?side4 A27.out).mono ?_
                            (case side1 => repeat (first | exact (Kd.R_reads' HO_16.out).2.2 | (with_reducible refine Kd.C_alloc ?_ _) | (with_reducible refine Kd.C_drewN ?_ _) | (with_reducible refine Kd.C_drew ?_)))
                            (case side2 => exact (Kd.R_reads' HO_16.out).2.1)
                            (case side3 => exact Kd.C_nil _ _)
                            (case side4 => exact Nat.le_refl _)
                            rintro e w38 ⟨v415, rfl, ho0, hb⟩
                            refine ⟨_, rfl, ?_⟩
                            have n0_ := Aside0.mk (Kd.R_below (by (with_reducible repeat (first | apply Kd.R_alloc | apply Kd.R_drewN | apply Kd.R_drew)); exact HO_9.out) hb)
                            have n1_ := Aside0.mk (Kd.R_below (by (with_reducible repeat (first | apply Kd.R_alloc | apply Kd.R_drewN | apply Kd.R_drew)); exact HO_12.out) hb)
                            have n2_ := Aside0.mk (Kd.R_below (by (with_reducible repeat (first | apply Kd.R_alloc | apply Kd.R_drewN | apply Kd.R_drew)); exact HO_14.out) hb)
                            have n3_ := Aside0.mk (Kd.R_elder' (by (with_reducible repeat (first | apply Kd.R_alloc | apply Kd.R_drewN | apply Kd.R_drew)); exact HO_16.out) (Kd.R_base ho0) hb)
                            have n4_ := Aside0.mk (Kd.R_lower (Kd.R_new' ho0 (Kd.R_lt (by (with_reducible repeat (first | apply Kd.R_alloc | apply Kd.R_drewN | apply Kd.R_drew)); exact HO_16.out))) (below_size (by repeat (first | (with_reducible first | exact HB.out | apply below_alloc | apply pw_below_drewN | apply below_drew1 | refine below_set ?_ GE400.out) | exact HB.out))))
                            have n5_ := Aside0.mk (blk_below (g := gb400) (o := .cells #[.int .i64 t397, .string t398] 24 (0, 0)) (by (with_reducible repeat (first | refine blk_drewN ?_ _ | refine blk_drew ?_ | refine blk_alloc ?_ _)); exact BK400.out) hb)
                            have n6_ := Aside0.mk (below_step (by repeat (first | (with_reducible first | exact HB.out | apply below_alloc | apply pw_below_drewN | apply below_drew1 | refine below_set ?_ GE400.out) | exact HB.out)) hb)
                            clear HO_9
                            clear HO_12
                            clear HO_14
                            clear HO_16
                            clear BK400
                            clear HB
                            have HO_9 := n0_
                            have HO_12 := n1_
                            have HO_14 := n2_
                            have HO_16 := n3_
                            have HO416 := n4_
                            have BK400 := n5_
                            have HB := n6_
                            clear n0_ n1_ n2_ n3_ n4_ n5_ n6_
                            (try clear hb)
                            (try clear hb2)
                            (try clear hk)
                            (try clear hi)
                            (try clear ho0)
                            obtain ⟨Ao39, co39, eo39⟩ := Kd.R_slice HO_9.out
                            (first | subst eo39 | (injection eo39 with f1_ f2_ f3_; have f4_ := f1_.symm; have f5_ := f3_.symm; clear f1_ f2_ f3_; subst f4_; subst f5_))
                            obtain ⟨Ao40, co40, eo40⟩ := Kd.R_slice HO416.out
                            (first | subst eo40 | (injection eo40 with f1_ f2_ f3_; have f4_ := f1_.symm; have f5_ := f3_.symm; clear f1_ f2_ f3_; subst f4_; subst f5_))
                            refine hK.out _ _ ⟨(blk_cell BK400.out 0).trans rfl, (blk_cell BK400.out 1).trans rfl, ((HB.out.cell (World.block_lt_of_cell? w _ hw418_0)).trans hw418_0), ((HB.out.cell (World.block_lt_of_cell? w _ hw418_1)).trans hw418_1)⟩ (fun hHeld => ?_)
                            clear hK K
                            refine norm_ (a' := ?_) ?_ ?_
                            rotate_left
                            · show Act.put _ (some 98) _ = _
                              simp only [Act.put, List.setIfInBounds_toArray, List.set_cons_zero, List.set_cons_succ, i64_w, i32_w]
                              rfl
                            refine one_ (i := 4) (N := some 99) #[true, true, true, true, true, false, false, false, false, false, false, false, false, false, false, false, false, false] rfl rfl (one_of HT_.out (by kernel_rfl)) (by decide) (fun K hK => ?_)
                            refine goes_ Try.func20 (by kernel_rfl) rfl #[.slice Ao39 t394.length co39, .slice Ao40 t414.length co40] (by rfl) rfl rfl (by (try simp only [List.map_toArray, List.map_cons, List.map_nil]); first | done | rfl | (simp only [List.length_drop, List.length_take]; rfl)) ?_
                            with_reducible refine (counterfoillaw16_same.calls kj21 _ _ t394 _ _ t414 true _ ?side1 ?side2 ?side3 ?side4 A28.out).mono ?_
                            (case side1 => repeat (first | exact (Kd.R_reads' HO_9.out).2.2 | (with_reducible refine Kd.C_alloc ?_ _) | (with_reducible refine Kd.C_drewN ?_ _) | (with_reducible refine Kd.C_drew ?_)))
                            (case side2 => exact (Kd.R_reads' HO_9.out).2.1)
                            (case side3 => repeat (first | exact (Kd.R_reads' HO416.out).2.2 | (with_reducible refine Kd.C_alloc ?_ _) | (with_reducible refine Kd.C_drewN ?_ _) | (with_reducible refine Kd.C_drew ?_)))
                            (case side4 => exact (Kd.R_reads' HO416.out).2.1)
                            rintro e w' ⟨rfl, ⟨nd, rfl⟩⟩
                            refine ⟨_, rfl, ?_⟩
                            refine hK.out _ _ ⟨(blk_cell BK400.out 0).trans rfl, (blk_cell BK400.out 1).trans rfl, ((HB.out.cell (World.block_lt_of_cell? w _ hw418_0)).trans hw418_0), ((HB.out.cell (World.block_lt_of_cell? w _ hw418_1)).trans hw418_1)⟩ (fun hHeld => ?_)
                            clear hK K
                            refine norm_ (a' := ?_) ?_ ?_
                            rotate_left
                            · show Act.put _ (some 99) _ = _
                              simp only [Act.put, List.setIfInBounds_toArray, List.set_cons_zero, List.set_cons_succ, i64_w, i32_w]
                              rfl
                            refine pure_ (i := 5) (N := some 100) (v := ?_) (a' := ?_) #[true, true, true, true, true, true, false, false, false, false, false, false, false, false, false, false, false, false] rfl rfl (any_of HT_.out (by kernel_rfl)) (fun _ _ _ h => h) (Or.inl ⟨by rfl, ?_⟩) ?_ ?_
                            rotate_left
                            · intro w'
                              go_simp
                              with_reducible rfl
                            rotate_left
                            · simp only [Act.put, List.setIfInBounds_toArray, List.set_cons_zero, List.set_cons_succ, i64_w, i32_w]
                              rfl
                            refine pure_ (i := 6) (N := some 101) (v := ?_) (a' := ?_) #[true, true, true, true, true, true, true, false, false, false, false, false, false, false, false, false, false, false] rfl rfl (any_of HT_.out (by kernel_rfl)) (fun _ _ _ h => h) (Or.inl ⟨by rfl, ?_⟩) ?_ ?_
                            rotate_left
                            · intro w'
                              go_simp
                              with_reducible rfl
                            rotate_left
                            · simp only [Act.put, List.setIfInBounds_toArray, List.set_cons_zero, List.set_cons_succ, i64_w, i32_w]
                              rfl
                            refine pure_ (i := 8) (N := some 103) (v := ?_) (a' := ?_) #[true, true, true, true, true, true, true, false, true, false, false, false, false, false, false, false, false, false] rfl rfl (any_of HT_.out (by kernel_rfl)) (fun _ _ _ h => h) (Or.inl ⟨by rfl, ?_⟩) ?_ ?_
                            rotate_left
                            · intro w'
                              go_simp
                              with_reducible rfl
                            rotate_left
                            · simp only [Act.put, List.setIfInBounds_toArray, List.set_cons_zero, List.set_cons_succ, i64_w, i32_w]
                              rfl
                            refine pure_ (i := 9) (N := some 104) (v := ?_) (a' := ?_) #[true, true, true, true, true, true, true, false, true, true, false, false, false, false, false, false, false, false] rfl rfl (any_of HT_.out (by kernel_rfl)) (fun _ _ _ h => h) (Or.inl ⟨by rfl, ?_⟩) ?_ ?_
                            rotate_left
                            · intro w'
                              go_simp
                              with_reducible rfl
                            rotate_left
                            · simp only [Act.put, List.setIfInBounds_toArray, List.set_cons_zero, List.set_cons_succ, i64_w, i32_w]
                              rfl
                            refine pure_ (i := 10) (N := some 105) (v := ?_) (a' := ?_) #[true, true, true, true, true, true, true, false, true, true, true, false, false, false, false, false, false, false] rfl rfl (any_of HT_.out (by kernel_rfl)) (fun _ _ _ h => h) (Or.inl ⟨by rfl, ?_⟩) ?_ ?_
                            rotate_left
                            · intro w'
                              go_simp
                              with_reducible rfl
                            rotate_left
                            · simp only [Act.put, List.setIfInBounds_toArray, List.set_cons_zero, List.set_cons_succ, i64_w, i32_w]
                              rfl
                            refine take_ (i := 7) (N := some 102) (v := ?_) (a' := ?_) #[true, true, true, true, true, true, true, true, true, true, true, false, false, false, false, false, false, false] rfl rfl (take_ofW HT_.out HW_.out (by kernel_rfl)) (fun _ _ _ h => h) (Or.inl ⟨by rfl, ?_⟩) hHeld ?_ ?_
                            rotate_left
                            · rintro w' ⟨s0, s1, s2, s3⟩
                              go_simp
                              with_reducible rfl
                            rotate_left
                            · simp only [Act.put, List.setIfInBounds_toArray, List.set_cons_zero, List.set_cons_succ, i64_w, i32_w]
                              rfl
                            refine take_ (i := 11) (N := some 106) (v := ?_) (a' := ?_) #[true, true, true, true, true, true, true, true, true, true, true, true, false, false, false, false, false, false] rfl rfl (take_ofW HT_.out HW_.out (by kernel_rfl)) (fun _ _ _ h => h) (Or.inl ⟨by rfl, ?_⟩) hHeld ?_ ?_
                            rotate_left
                            · rintro w' ⟨s0, s1, s2, s3⟩
                              go_simp
                              with_reducible rfl
                            rotate_left
                            · simp only [Act.put, List.setIfInBounds_toArray, List.set_cons_zero, List.set_cons_succ, i64_w, i32_w]
                              rfl
                            refine pure_ (i := 12) (N := some 107) (v := ?_) (a' := ?_) #[true, true, true, true, true, true, true, true, true, true, true, true, true, false, false, false, false, false] rfl rfl (any_of HT_.out (by kernel_rfl)) (fun _ _ _ h => h) (Or.inl ⟨by rfl, ?_⟩) ?_ ?_
                            rotate_left
                            · intro w'
                              go_simp
                              with_reducible rfl
                            rotate_left
                            · simp only [Act.put, List.setIfInBounds_toArray, List.set_cons_zero, List.set_cons_succ, i64_w, i32_w]
                              rfl
                            refine pure_ (i := 13) (N := some 108) (v := ?_) (a' := ?_) #[true, true, true, true, true, true, true, true, true, true, true, true, true, true, false, false, false, false] rfl rfl (any_of HT_.out (by kernel_rfl)) (fun _ _ _ h => h) (Or.inl ⟨by rfl, ?_⟩) ?_ ?_
                            rotate_left
                            · intro w'
                              go_simp
                              with_reducible rfl
                            rotate_left
                            · simp only [Act.put, List.setIfInBounds_toArray, List.set_cons_zero, List.set_cons_succ, i64_w, i32_w]
                              rfl
                            refine pure_ (i := 14) (N := some 109) (v := ?_) (a' := ?_) #[true, true, true, true, true, true, true, true, true, true, true, true, true, true, true, false, false, false] rfl rfl (any_of HT_.out (by kernel_rfl)) (fun _ _ _ h => h) (Or.inl ⟨by rfl, ?_⟩) ?_ ?_
                            rotate_left
                            · intro w'
                              go_simp
                              with_reducible rfl
                            rotate_left
                            · simp only [Act.put, List.setIfInBounds_toArray, List.set_cons_zero, List.set_cons_succ, i64_w, i32_w]
                              rfl
                            refine pure_ (i := 15) (N := some 110) (v := ?_) (a' := ?_) #[true, true, true, true, true, true, true, true, true, true, true, true, true, true, true, true, false, false] rfl rfl (any_of HT_.out (by kernel_rfl)) (fun _ _ _ h => h) (Or.inl ⟨by rfl, ?_⟩) ?_ ?_
                            rotate_left
                            · intro w'
                              go_simp
                              with_reducible rfl
                            rotate_left
                            · simp only [Act.put, List.setIfInBounds_toArray, List.set_cons_zero, List.set_cons_succ, i64_w, i32_w]
                              rfl
                            refine pure_ (i := 16) (N := some 111) (v := ?_) (a' := ?_) #[true, true, true, true, true, true, true, true, true, true, true, true, true, true, true, true, true, false] rfl rfl (any_of HT_.out (by kernel_rfl)) (fun _ _ _ h => h) (Or.inl ⟨by rfl, ?_⟩) ?_ ?_
                            rotate_left
                            · intro w'
                              go_simp
                              with_reducible rfl
                            rotate_left
                            · simp only [Act.put, List.setIfInBounds_toArray, List.set_cons_zero, List.set_cons_succ, i64_w, i32_w]
                              rfl
                            refine pure_ (i := 17) (N := some 112) (v := ?_) (a' := ?_) #[true, true, true, true, true, true, true, true, true, true, true, true, true, true, true, true, true, true] rfl rfl (any_of HT_.out (by kernel_rfl)) (fun _ _ _ h => h) (Or.inl ⟨by rfl, ?_⟩) ?_ ?_
                            rotate_left
                            · intro w'
                              go_simp
                              with_reducible rfl
                            rotate_left
                            · simp only [Act.put, List.setIfInBounds_toArray, List.set_cons_zero, List.set_cons_succ, i64_w, i32_w]
                              rfl
                            refine done_ (done_of HT_.out (by kernel_rfl)) ?_
                            try go_wp2
                            go_meet
                            case rel => exact ⟨_, ((t399 != 0)), (by first | rfl | (simp; done) | (simp [*]; done)), H', ⟨by have := HJ10.out; have := HJ18.out; have := HJ21.out; first | omega | exact Nat.le_refl _⟩, ⟨by (with_reducible repeat (first | apply Kd.R_alloc | apply Kd.R_drewN | apply Kd.R_drew)); exact Kd.R_mono HO_12.out (fun _ hk => ⟨hk.2.1, hk.2.2⟩)⟩, ⟨by (with_reducible repeat (first | apply Kd.R_alloc | apply Kd.R_drewN | apply Kd.R_drew)); exact Kd.R_mono HO_14.out (fun _ hk => ⟨hk.2.1, hk.2.2⟩)⟩, ⟨by (with_reducible repeat (first | apply Kd.R_alloc | apply Kd.R_drewN | apply Kd.R_drew)); exact Kd.R_mono HO_16.out (fun _ hk => trivial)⟩, ⟨by (with_reducible repeat (first | refine blk_drewN ?_ _ | refine blk_drew ?_ | refine blk_alloc ?_ _)); exact BK400.out⟩, ⟨by repeat (first | (with_reducible first | exact HB.out | apply below_alloc | apply pw_below_drewN | apply below_drew1 | refine below_set ?_ GE400.out) | exact HB.out)⟩⟩
                        · rw [if_neg c31] at H
                          exact absurd H (by simp)
                      · rw [if_neg c30] at H
                        exact absurd H (by simp)
                    · replace c29 := Bool.eq_false_iff.mpr c29
                      subst c29
                      have H1 : (counterfoillaw16_WiresTakes.j3 kj21 l0 a1 a2 a3 t401 t402 t405 t406 t409 true) = some r := by rw [if_neg (show ¬ (false = true) by decide)] at H; exact H
                      clear H
                      have H := H1
                      clear H1
                      have H' := Aside0.mk H
                      clear H
                      try go_wp2
                      have n0_ := Aside0.mk (Kd.R_drew HO_9.out)
                      have n1_ := Aside0.mk (Kd.R_drew HO_12.out)
                      have n2_ := Aside0.mk (Kd.R_drew HO_14.out)
                      have n3_ := Aside0.mk (Kd.R_drew HO_16.out)
                      have n4_ := Aside0.mk (blk_drew BK400.out)
                      have n5_ := Aside0.mk (below_drew1 HB.out)
                      clear HO_9
                      clear HO_12
                      clear HO_14
                      clear HO_16
                      clear BK400
                      clear HB
                      have HO_9 := n0_
                      have HO_12 := n1_
                      have HO_14 := n2_
                      have HO_16 := n3_
                      have BK400 := n4_
                      have HB := n5_
                      clear n0_ n1_ n2_ n3_ n4_ n5_
                      refine start_ (n := 18) (S := fun w' => True) (ds := []) #[false, false, false, false, false, false, false, false, false, false, false, false, false, false, false, false, false, false] (by kernel_rfl) rfl rfl trivial (fun hHeld => ?_); refine with_tabW counterfoillaw16_WiresTakes.tab14 counterfoillaw16_WiresTakes.bits14 (fun HT_ HW_ => ?_)
                      generalize wc.drew = w41 at HO_9 HO_12 HO_14 HO_16 BK400 HB hHeld ⊢
                      refine pure_ (i := 0) (N := some 95) (v := ?_) (a' := ?_) #[true, false, false, false, false, false, false, false, false, false, false, false, false, false, false, false, false, false] rfl rfl (any_of HT_.out (by kernel_rfl)) (fun _ _ _ h => h) (Or.inl ⟨by rfl, ?_⟩) ?_ ?_
                      rotate_left
                      · intro w'
                        go_simp
                        with_reducible rfl
                      rotate_left
                      · simp only [Act.put, List.setIfInBounds_toArray, List.set_cons_zero, List.set_cons_succ, i64_w, i32_w]
                        rfl
                      refine pure_ (i := 1) (N := some 96) (v := ?_) (a' := ?_) #[true, true, false, false, false, false, false, false, false, false, false, false, false, false, false, false, false, false] rfl rfl (any_of HT_.out (by kernel_rfl)) (fun _ _ _ h => h) (Or.inl ⟨by rfl, ?_⟩) ?_ ?_
                      rotate_left
                      · intro w'
                        go_simp
                        with_reducible rfl
                      rotate_left
                      · simp only [Act.put, List.setIfInBounds_toArray, List.set_cons_zero, List.set_cons_succ, i64_w, i32_w]
                        rfl
                      refine pure_ (i := 2) (N := some 97) (v := ?_) (a' := ?_) #[true, true, true, false, false, false, false, false, false, false, false, false, false, false, false, false, false, false] rfl rfl (any_of HT_.out (by kernel_rfl)) (fun _ _ _ h => h) (Or.inl ⟨by rfl, ?_⟩) ?_ ?_
                      rotate_left
                      · intro w'
                        go_simp
                        with_reducible rfl
                      rotate_left
                      · simp only [Act.put, List.setIfInBounds_toArray, List.set_cons_zero, List.set_cons_succ, i64_w, i32_w]
                        rfl
                      refine one_ (i := 3) (N := some 98) #[true, true, true, true, false, false, false, false, false, false, false, false, false, false, false, false, false, false] rfl rfl (one_of HT_.out (by kernel_rfl)) (by decide) (fun K hK => ?_)
                      refine goes_ Try.func21 (by kernel_rfl) rfl #[.slice Ao23 t409.length co23, .int .i64 a1, .slice none 0 0] (by rfl) rfl rfl (by (try simp only [List.map_toArray, List.map_cons, List.map_nil]); first | done | rfl | (simp only [List.length_drop, List.length_take]; rfl)) ?_
                      refine (counterfoilref16_Put.calls kj21 _ _ t409 a1 _ _ ([] : List (S35)) t414 _ ?side1 ?side2 ?side3 ?side4 A27.out).mono ?_
                      (case side1 => repeat (first | exact (Kd.R_reads' HO_16.out).2.2 | (with_reducible refine Kd.C_alloc ?_ _) | (with_reducible refine Kd.C_drewN ?_ _) | (with_reducible refine Kd.C_drew ?_)))
                      (case side2 => exact (Kd.R_reads' HO_16.out).2.1)
                      (case side3 => exact Kd.C_nil _ _)
                      (case side4 => exact Nat.le_refl _)
                      rintro e w42 ⟨v415, rfl, ho0, hb⟩
                      refine ⟨_, rfl, ?_⟩
                      have n0_ := Aside0.mk (Kd.R_below (by (with_reducible repeat (first | apply Kd.R_alloc | apply Kd.R_drewN | apply Kd.R_drew)); exact HO_9.out) hb)
                      have n1_ := Aside0.mk (Kd.R_below (by (with_reducible repeat (first | apply Kd.R_alloc | apply Kd.R_drewN | apply Kd.R_drew)); exact HO_12.out) hb)
                      have n2_ := Aside0.mk (Kd.R_below (by (with_reducible repeat (first | apply Kd.R_alloc | apply Kd.R_drewN | apply Kd.R_drew)); exact HO_14.out) hb)
                      have n3_ := Aside0.mk (Kd.R_elder' (by (with_reducible repeat (first | apply Kd.R_alloc | apply Kd.R_drewN | apply Kd.R_drew)); exact HO_16.out) (Kd.R_base ho0) hb)
                      have n4_ := Aside0.mk (Kd.R_lower (Kd.R_new' ho0 (Kd.R_lt (by (with_reducible repeat (first | apply Kd.R_alloc | apply Kd.R_drewN | apply Kd.R_drew)); exact HO_16.out))) (below_size (by repeat (first | (with_reducible first | exact HB.out | apply below_alloc | apply pw_below_drewN | apply below_drew1 | refine below_set ?_ GE400.out) | exact HB.out))))
                      have n5_ := Aside0.mk (blk_below (g := gb400) (o := .cells #[.int .i64 t397, .string t398] 24 (0, 0)) (by (with_reducible repeat (first | refine blk_drewN ?_ _ | refine blk_drew ?_ | refine blk_alloc ?_ _)); exact BK400.out) hb)
                      have n6_ := Aside0.mk (below_step (by repeat (first | (with_reducible first | exact HB.out | apply below_alloc | apply pw_below_drewN | apply below_drew1 | refine below_set ?_ GE400.out) | exact HB.out)) hb)
                      clear HO_9
                      clear HO_12
                      clear HO_14
                      clear HO_16
                      clear BK400
                      clear HB
                      have HO_9 := n0_
                      have HO_12 := n1_
                      have HO_14 := n2_
                      have HO_16 := n3_
                      have HO416 := n4_
                      have BK400 := n5_
                      have HB := n6_
                      clear n0_ n1_ n2_ n3_ n4_ n5_ n6_
                      (try clear hb)
                      (try clear hb2)
                      (try clear hk)
                      (try clear hi)
                      (try clear ho0)
                      obtain ⟨Ao43, co43, eo43⟩ := Kd.R_slice HO_9.out
                      (first | subst eo43 | (injection eo43 with f1_ f2_ f3_; have f4_ := f1_.symm; have f5_ := f3_.symm; clear f1_ f2_ f3_; subst f4_; subst f5_))
                      obtain ⟨Ao44, co44, eo44⟩ := Kd.R_slice HO416.out
                      (first | subst eo44 | (injection eo44 with f1_ f2_ f3_; have f4_ := f1_.symm; have f5_ := f3_.symm; clear f1_ f2_ f3_; subst f4_; subst f5_))
                      refine hK.out _ _ trivial (fun hHeld => ?_)
                      clear hK K
                      refine norm_ (a' := ?_) ?_ ?_
                      rotate_left
                      · show Act.put _ (some 98) _ = _
                        simp only [Act.put, List.setIfInBounds_toArray, List.set_cons_zero, List.set_cons_succ, i64_w, i32_w]
                        rfl
                      refine one_ (i := 4) (N := some 99) #[true, true, true, true, true, false, false, false, false, false, false, false, false, false, false, false, false, false] rfl rfl (one_of HT_.out (by kernel_rfl)) (by decide) (fun K hK => ?_)
                      refine goes_ Try.func20 (by kernel_rfl) rfl #[.slice Ao43 t394.length co43, .slice Ao44 t414.length co44] (by rfl) rfl rfl (by (try simp only [List.map_toArray, List.map_cons, List.map_nil]); first | done | rfl | (simp only [List.length_drop, List.length_take]; rfl)) ?_
                      with_reducible refine (counterfoillaw16_same.calls kj21 _ _ t394 _ _ t414 false _ ?side1 ?side2 ?side3 ?side4 A28.out).mono ?_
                      (case side1 => repeat (first | exact (Kd.R_reads' HO_9.out).2.2 | (with_reducible refine Kd.C_alloc ?_ _) | (with_reducible refine Kd.C_drewN ?_ _) | (with_reducible refine Kd.C_drew ?_)))
                      (case side2 => exact (Kd.R_reads' HO_9.out).2.1)
                      (case side3 => repeat (first | exact (Kd.R_reads' HO416.out).2.2 | (with_reducible refine Kd.C_alloc ?_ _) | (with_reducible refine Kd.C_drewN ?_ _) | (with_reducible refine Kd.C_drew ?_)))
                      (case side4 => exact (Kd.R_reads' HO416.out).2.1)
                      rintro e w' ⟨rfl, ⟨nd, rfl⟩⟩
                      refine ⟨_, rfl, ?_⟩
                      refine hK.out _ _ trivial (fun hHeld => ?_)
                      clear hK K
                      refine norm_ (a' := ?_) ?_ ?_
                      rotate_left
                      · show Act.put _ (some 99) _ = _
                        simp only [Act.put, List.setIfInBounds_toArray, List.set_cons_zero, List.set_cons_succ, i64_w, i32_w]
                        rfl
                      refine pure_ (i := 5) (N := some 100) (v := ?_) (a' := ?_) #[true, true, true, true, true, true, false, false, false, false, false, false, false, false, false, false, false, false] rfl rfl (any_of HT_.out (by kernel_rfl)) (fun _ _ _ h => h) (Or.inl ⟨by rfl, ?_⟩) ?_ ?_
                      rotate_left
                      · intro w'
                        go_simp
                        with_reducible rfl
                      rotate_left
                      · simp only [Act.put, List.setIfInBounds_toArray, List.set_cons_zero, List.set_cons_succ, i64_w, i32_w]
                        rfl
                      refine pure_ (i := 6) (N := some 101) (v := ?_) (a' := ?_) #[true, true, true, true, true, true, true, false, false, false, false, false, false, false, false, false, false, false] rfl rfl (any_of HT_.out (by kernel_rfl)) (fun _ _ _ h => h) (Or.inl ⟨by rfl, ?_⟩) ?_ ?_
                      rotate_left
                      · intro w'
                        go_simp
                        with_reducible rfl
                      rotate_left
                      · simp only [Act.put, List.setIfInBounds_toArray, List.set_cons_zero, List.set_cons_succ, i64_w, i32_w]
                        rfl
                      refine pure_ (i := 7) (N := some 102) (v := undef) (a' := ?_) #[true, true, true, true, true, true, true, true, false, false, false, false, false, false, false, false, false, false] rfl rfl (any_of HT_.out (by kernel_rfl)) (fun _ _ _ h => h) (Or.inr ⟨by rfl, rfl⟩) ?_ ?_
                      rotate_left
                      · simp only [Act.put, List.setIfInBounds_toArray, List.set_cons_zero, List.set_cons_succ, i64_w, i32_w]
                        rfl
                      refine pure_ (i := 8) (N := some 103) (v := undef) (a' := ?_) #[true, true, true, true, true, true, true, true, true, false, false, false, false, false, false, false, false, false] rfl rfl (any_of HT_.out (by kernel_rfl)) (fun _ _ _ h => h) (Or.inr ⟨by rfl, rfl⟩) ?_ ?_
                      rotate_left
                      · simp only [Act.put, List.setIfInBounds_toArray, List.set_cons_zero, List.set_cons_succ, i64_w, i32_w]
                        rfl
                      refine pure_ (i := 9) (N := some 104) (v := undef) (a' := ?_) #[true, true, true, true, true, true, true, true, true, true, false, false, false, false, false, false, false, false] rfl rfl (any_of HT_.out (by kernel_rfl)) (fun _ _ _ h => h) (Or.inr ⟨by rfl, rfl⟩) ?_ ?_
                      rotate_left
                      · simp only [Act.put, List.setIfInBounds_toArray, List.set_cons_zero, List.set_cons_succ, i64_w, i32_w]
                        rfl
                      refine pure_ (i := 10) (N := some 105) (v := undef) (a' := ?_) #[true, true, true, true, true, true, true, true, true, true, true, false, false, false, false, false, false, false] rfl rfl (any_of HT_.out (by kernel_rfl)) (fun _ _ _ h => h) (Or.inr ⟨by rfl, rfl⟩) ?_ ?_
                      rotate_left
                      · simp only [Act.put, List.setIfInBounds_toArray, List.set_cons_zero, List.set_cons_succ, i64_w, i32_w]
                        rfl
                      refine pure_ (i := 11) (N := some 106) (v := undef) (a' := ?_) #[true, true, true, true, true, true, true, true, true, true, true, true, false, false, false, false, false, false] rfl rfl (any_of HT_.out (by kernel_rfl)) (fun _ _ _ h => h) (Or.inr ⟨by rfl, rfl⟩) ?_ ?_
                      rotate_left
                      · simp only [Act.put, List.setIfInBounds_toArray, List.set_cons_zero, List.set_cons_succ, i64_w, i32_w]
                        rfl
                      refine pure_ (i := 12) (N := some 107) (v := undef) (a' := ?_) #[true, true, true, true, true, true, true, true, true, true, true, true, true, false, false, false, false, false] rfl rfl (any_of HT_.out (by kernel_rfl)) (fun _ _ _ h => h) (Or.inr ⟨by rfl, rfl⟩) ?_ ?_
                      rotate_left
                      · simp only [Act.put, List.setIfInBounds_toArray, List.set_cons_zero, List.set_cons_succ, i64_w, i32_w]
                        rfl
                      refine pure_ (i := 13) (N := some 108) (v := ?_) (a' := ?_) #[true, true, true, true, true, true, true, true, true, true, true, true, true, true, false, false, false, false] rfl rfl (any_of HT_.out (by kernel_rfl)) (fun _ _ _ h => h) (Or.inl ⟨by rfl, ?_⟩) ?_ ?_
                      rotate_left
                      · intro w'
                        go_simp
                        with_reducible rfl
                      rotate_left
                      · simp only [Act.put, List.setIfInBounds_toArray, List.set_cons_zero, List.set_cons_succ, i64_w, i32_w]
                        rfl
                      refine pure_ (i := 14) (N := some 109) (v := ?_) (a' := ?_) #[true, true, true, true, true, true, true, true, true, true, true, true, true, true, true, false, false, false] rfl rfl (any_of HT_.out (by kernel_rfl)) (fun _ _ _ h => h) (Or.inl ⟨by rfl, ?_⟩) ?_ ?_
                      rotate_left
                      · intro w'
                        go_simp
                        with_reducible rfl
                      rotate_left
                      · simp only [Act.put, List.setIfInBounds_toArray, List.set_cons_zero, List.set_cons_succ, i64_w, i32_w]
                        rfl
                      refine pure_ (i := 15) (N := some 110) (v := undef) (a' := ?_) #[true, true, true, true, true, true, true, true, true, true, true, true, true, true, true, true, false, false] rfl rfl (any_of HT_.out (by kernel_rfl)) (fun _ _ _ h => h) (Or.inr ⟨by rfl, rfl⟩) ?_ ?_
                      rotate_left
                      · simp only [Act.put, List.setIfInBounds_toArray, List.set_cons_zero, List.set_cons_succ, i64_w, i32_w]
                        rfl
                      refine pure_ (i := 16) (N := some 111) (v := undef) (a' := ?_) #[true, true, true, true, true, true, true, true, true, true, true, true, true, true, true, true, true, false] rfl rfl (any_of HT_.out (by kernel_rfl)) (fun _ _ _ h => h) (Or.inr ⟨by rfl, rfl⟩) ?_ ?_
                      rotate_left
                      · simp only [Act.put, List.setIfInBounds_toArray, List.set_cons_zero, List.set_cons_succ, i64_w, i32_w]
                        rfl
                      refine pure_ (i := 17) (N := some 112) (v := ?_) (a' := ?_) #[true, true, true, true, true, true, true, true, true, true, true, true, true, true, true, true, true, true] rfl rfl (any_of HT_.out (by kernel_rfl)) (fun _ _ _ h => h) (Or.inl ⟨by rfl, ?_⟩) ?_ ?_
                      rotate_left
                      · intro w'
                        go_simp
                        with_reducible rfl
                      rotate_left
                      · simp only [Act.put, List.setIfInBounds_toArray, List.set_cons_zero, List.set_cons_succ, i64_w, i32_w]
                        rfl
                      refine done_ (done_of HT_.out (by kernel_rfl)) ?_
                      try go_wp2
                      go_meet
                      case rel => exact ⟨_, (true), (by first | rfl | (simp; done) | (simp [*]; done)), H', ⟨by have := HJ10.out; have := HJ18.out; have := HJ21.out; first | omega | exact Nat.le_refl _⟩, ⟨by (with_reducible repeat (first | apply Kd.R_alloc | apply Kd.R_drewN | apply Kd.R_drew)); exact Kd.R_mono HO_12.out (fun _ hk => ⟨hk.2.1, hk.2.2⟩)⟩, ⟨by (with_reducible repeat (first | apply Kd.R_alloc | apply Kd.R_drewN | apply Kd.R_drew)); exact Kd.R_mono HO_14.out (fun _ hk => ⟨hk.2.1, hk.2.2⟩)⟩, ⟨by (with_reducible repeat (first | apply Kd.R_alloc | apply Kd.R_drewN | apply Kd.R_drew)); exact Kd.R_mono HO_16.out (fun _ hk => trivial)⟩, ⟨by (with_reducible repeat (first | refine blk_drewN ?_ _ | refine blk_drew ?_ | refine blk_alloc ?_ _)); exact BK400.out⟩, ⟨by repeat (first | (with_reducible first | exact HB.out | apply below_alloc | apply pw_below_drewN | apply below_drew1 | refine below_set ?_ GE400.out) | exact HB.out)⟩⟩
                  case rest =>
                    clear HC26
                    try clear c2
                    try clear p2
                    try clear c3
                    try clear p4
                    try clear q4
                    try clear hx4
                    try clear c20
                    try clear c21
                    try clear c29
                    try clear c30
                    try clear c31
                    try clear c32
                    try clear c32b0
                    try clear p41
                    try clear q41
                    try clear hx41
                    try clear hx418_0
                    try clear hx418_1
                    try clear p418
                    try clear q418
                    obtain ⟨kq, x112_25, rfl, HA, HJ25, HO_12, HO_14, HO_16, BK400, HB⟩ := hcut
                    cases kq with
                    | zero => exact absurd HA.out (by simp [counterfoillaw16_WiresTakes.j3])
                    | succ kj25 =>
                      have H := HA.out
                      clear HA
                      simp only [counterfoillaw16_WiresTakes.j3] at H
                      by_cases c45 : x112_25 = true
                      · subst c45
                        have H1 : (some false) = some r := by rw [if_pos rfl] at H; exact H
                        clear H
                        have H := H1
                        clear H1
                        obtain rfl := Option.some.inj H
                        go_wp2
                        go_ret
                        exact ⟨by first | rfl | (simp [errW_none, errW_some] <;> rfl) | (simp [*, errW_none, errW_some] <;> rfl), by repeat (first | (with_reducible first | exact HB.out | apply below_alloc | apply pw_below_drewN | apply below_drew1 | refine below_set ?_ GE400.out) | exact HB.out)⟩
                      · replace c45 := Bool.eq_false_iff.mpr c45
                        subst c45
                        have H1 : (if (l0.length : Int) > 255 then (if (t401.length : Int) = 0 then (if t402 = 6 then (counterfoillaw16_WiresTakes.j4 kj25 l0 a1 a2 a3 t405 t406 t409) else (some false)) else (some false)) else (if 0 ≤ a1 then (if a1 ≤ (wrap64 (a1 + 1)) then (if (wrap64 (a1 + 1)) ≤ (t409.length : Int) then ((counterfoilref16_Put.f kj25 t409 (t409.length : Int) ((t409.take ((wrap64 (a1 + 1)) : Int).toNat).drop (a1 : Int).toNat)).bind fun t423 => ((counterfoillaw16_same.f kj25 t401 t423).bind fun t426 => (if t426 = true then (if t402 = 0 then (counterfoillaw16_WiresTakes.j4 kj25 l0 a1 a2 a3 t405 t406 t409) else (some false)) else (some false)))) else (none)) else (none)) else (none))) = some r := by rw [if_neg (show ¬ (false = true) by decide)] at H; exact H
                        clear H
                        have H := H1
                        clear H1
                        have HC46 := Aside0.mk H
                        clear H
                        go_upto_if 115 with (fail)
                        go_cut [] (fun wc => ∃ (kq : Nat), Aside0 (counterfoillaw16_WiresTakes.j4 kq l0 a1 a2 a3 t405 t406 t409 = some r) ∧ Aside0 (kq ≤ kj25) ∧ Aside0 (Kd.R k24 24 wc w.heap.size (fun k_ => k_ ≠ gb400) v407 t405) ∧ Aside0 (Kd.R k35 35 wc w.heap.size (fun _ => True) (.slice Ao23 t409.length co23) t409) ∧ Aside0 (wc.heap[gb400]? = some (.cells #[.int .i64 t397, .string t398] 24 (0, 0))) ∧ Aside0 (Below w.heap.size w wc))
                        case first =>
                          have H := HC46.out
                          clear HC46
                          by_cases c47 : (l0.length : Int) > 255
                          · as_aux_lemma =>
                            rw [if_pos c47] at H
                            have c47b0 : decide (255 < (l0.length : Int)) = true := decide_eq_true c47
                            have c47b1 : decide (255 < l0.length) = true := decide_eq_true (by omega)
                            clear c47
                            (first | rw [c47b0] | (simp only [i64_w, i32_w]; rw [c47b0]) | skip)
                            by_cases c48 : (t401.length : Int) = 0
                            · rw [if_pos c48] at H
                              have c48b0 : ((t401.length : Int) == 0) = true := beq_iff_eq.mpr c48
                              have c48b1 : ((t401.length : Int) != 0) = false := bne_eq_false_iff_eq.mpr c48
                              clear c48
                              by_cases c49 : t402 = 6
                              · rw [if_pos c49] at H
                                have c49b0 : (t402 == 6) = true := beq_iff_eq.mpr c49
                                have c49b1 : (t402 != 6) = false := bne_eq_false_iff_eq.mpr c49
                                clear c49
                                have H' := Aside0.mk H
                                clear H
                                obtain ⟨Ao50, co50, eo50⟩ := Kd.R_slice HO_12.out
                                subst eo50
                                go_wp2
                                go_meet
                                case rel => exact ⟨_, H', ⟨by have := HJ10.out; have := HJ18.out; have := HJ21.out; have := HJ25.out; first | omega | exact Nat.le_refl _⟩, ⟨by (with_reducible repeat (first | apply Kd.R_alloc | apply Kd.R_drewN | apply Kd.R_drew)); exact Kd.R_mono HO_14.out (fun _ hk => hk.2)⟩, ⟨by (with_reducible repeat (first | apply Kd.R_alloc | apply Kd.R_drewN | apply Kd.R_drew)); exact HO_16.out⟩, ⟨by (with_reducible repeat (first | refine blk_drewN ?_ _ | refine blk_drew ?_ | refine blk_alloc ?_ _)); exact BK400.out⟩, ⟨by repeat (first | (with_reducible first | exact HB.out | apply below_alloc | apply pw_below_drewN | apply below_drew1 | refine below_set ?_ GE400.out) | exact HB.out)⟩⟩
                              · rw [if_neg c49] at H
                                have c49b0 : (t402 == 6) = false := beq_eq_false_iff_ne.mpr c49
                                have c49b1 : (t402 != 6) = true := bne_iff_ne.mpr c49
                                obtain rfl := Option.some.inj H
                                obtain ⟨Ao51, co51, eo51⟩ := Kd.R_slice HO_12.out
                                subst eo51
                                go_wp2
                                go_ret
                                exact ⟨by first | rfl | (simp [errW_none, errW_some] <;> rfl) | (simp [*, errW_none, errW_some] <;> rfl), by repeat (first | (with_reducible first | exact HB.out | apply below_alloc | apply pw_below_drewN | apply below_drew1 | refine below_set ?_ GE400.out) | exact HB.out)⟩
                            · rw [if_neg c48] at H
                              have c48b0 : ((t401.length : Int) == 0) = false := beq_eq_false_iff_ne.mpr c48
                              have c48b1 : ((t401.length : Int) != 0) = true := bne_iff_ne.mpr c48
                              have c48b2 : ¬ (t401 = []) := fun h_ => c48 (by rw [h_]; rfl)
                              obtain rfl := Option.some.inj H
                              obtain ⟨Ao52, co52, eo52⟩ := Kd.R_slice HO_12.out
                              subst eo52
                              go_wp2
                              go_ret
                              exact ⟨by first | rfl | (simp [errW_none, errW_some] <;> rfl) | (simp [*, errW_none, errW_some] <;> rfl), by repeat (first | (with_reducible first | exact HB.out | apply below_alloc | apply pw_below_drewN | apply below_drew1 | refine below_set ?_ GE400.out) | exact HB.out)⟩
                          · as_aux_lemma =>
                            rw [if_neg c47] at H
                            have c47b0 : decide (255 < (l0.length : Int)) = false := decide_eq_false c47
                            have c47b1 : decide (255 < l0.length) = false := decide_eq_false (by omega)
                            clear c47
                            (first | rw [c47b0] | (simp only [i64_w, i32_w]; rw [c47b0]) | skip)
                            by_cases c53 : 0 ≤ a1
                            · as_aux_lemma =>
                              rw [if_pos c53] at H
                              have c53b0 := eq_true c53
                              have c53b1 : decide (0 ≤ a1) = true := decide_eq_true c53
                              clear c53
                              by_cases c54 : a1 ≤ (wrap64 (a1 + 1))
                              · as_aux_lemma =>
                                rw [if_pos c54] at H
                                have c54b0 := eq_true c54
                                have c54b1 : decide (a1 ≤ (wrap64 (a1 + 1))) = true := decide_eq_true c54
                                by_cases c55 : (wrap64 (a1 + 1)) ≤ (t409.length : Int)
                                · as_aux_lemma =>
                                  rw [if_pos c55] at H
                                  have c55b0 := eq_true c55
                                  have c55b1 : decide ((wrap64 (a1 + 1)) ≤ (t409.length : Int)) = true := decide_eq_true c55
                                  obtain ⟨y419, hy419⟩ : ∃ y_ : List (S35), y_ = ((t409.take ((wrap64 (a1 + 1)) : Int).toNat).drop (a1 : Int).toNat) := ⟨_, rfl⟩
                                  replace H : ((counterfoilref16_Put.f kj25 t409 (t409.length : Int) y419).bind fun t423 => ((counterfoillaw16_same.f kj25 t401 t423).bind fun t426 => (if t426 = true then (if t402 = 0 then (counterfoillaw16_WiresTakes.j4 kj25 l0 a1 a2 a3 t405 t406 t409) else (some false)) else (some false)))) = some r := by first | (rw [hy419]; with_reducible exact H) | (have H2_ := (Option.bind_some _ _).symm.trans H; rw [hy419]; with_reducible exact H2_) | (have H2_ := (Option.bind_some _ _).symm.trans H; with_reducible exact H2_) | with_reducible exact H | (rw [hy419]; exact H) | exact H
                                  have Ny419 := Aside0.mk hy419
                                  clear hy419
                                  replace H := Option.bind_eq_some_iff.mp H
                                  obtain ⟨t423, A560, H⟩ := H
                                  replace H : ((counterfoillaw16_same.f kj25 t401 t423).bind fun t426 => (if t426 = true then (if t402 = 0 then (counterfoillaw16_WiresTakes.j4 kj25 l0 a1 a2 a3 t405 t406 t409) else (some false)) else (some false))) = some r := H
                                  have A56 := Aside0.mk A560
                                  clear A560
                                  replace H := Option.bind_eq_some_iff.mp H
                                  obtain ⟨t426, A570, H⟩ := H
                                  replace H : (if t426 = true then (if t402 = 0 then (counterfoillaw16_WiresTakes.j4 kj25 l0 a1 a2 a3 t405 t406 t409) else (some false)) else (some false)) = some r := H
                                  have A57 := Aside0.mk A570
                                  clear A570
                                  by_cases c58 : t426 = true
                                  · subst c58
                                    have H1 : (if t402 = 0 then (counterfoillaw16_WiresTakes.j4 kj25 l0 a1 a2 a3 t405 t406 t409) else (some false)) = some r := by rw [if_pos rfl] at H; exact H
                                    clear H
                                    have H := H1
                                    clear H1
                                    by_cases c59 : t402 = 0
                                    · as_aux_lemma =>
                                      rw [if_pos c59] at H
                                      have c59b0 : (t402 == 0) = true := beq_iff_eq.mpr c59
                                      have c59b1 : (t402 != 0) = false := bne_eq_false_iff_eq.mpr c59
                                      clear c59
                                      have H' := Aside0.mk H
                                      clear H
                                      have q60 : ((wrap64 (a1 + 1)) : Int) ≤ ((t409.length : Int) : Int) := of_decide_eq_true (by first | (with_reducible assumption) | assumption)
                                      obtain ⟨i060, hi060, _, hsz60, _⟩ := info_parts info35
                                      have hroom60 : t409.length ≤ co23 := (Kd.R_reads' HO_16.out).2.1
                                      have hC60 : Kd.C k35 _ Ao23 t409.length t409 := (Kd.R_reads' HO_16.out).2.2
                                      have ql60 : (a1 : Int) ≤ ((wrap64 (a1 + 1)) : Int) := of_decide_eq_true (by first | (with_reducible assumption) | assumption)
                                      have q060 : (0 : Int) ≤ (a1 : Int) := of_decide_eq_true (by first | (with_reducible assumption) | assumption)
                                      have hcut60 := cut_mid (P := Try.prog) 31 35 .i64 .i64 Try.underlying31 hi060 2 hsz60 Ao23 t409.length co23 a1 (wrap64 (a1 + 1)) q060 ql60 q60 hroom60
                                      have hr60 := Kd.C_mid (lo := (a1 : Int).toNat) (hi := ((wrap64 (a1 + 1)) : Int).toNat) (c := co23) hC60 (by omega) (by omega) hroom60
                                      obtain ⟨A60, hA60⟩ : ∃ A1, A1 = (if co23 = (a1 : Int).toNat then Ao23 else (Ao23 : Option Addr).map (·.add ((a1 : Int).toNat * 2))) := ⟨_, rfl⟩
                                      obtain ⟨c60, hc60⟩ : ∃ c1, c1 = co23 - (a1 : Int).toNat := ⟨_, rfl⟩
                                      have hy60 : y419.length = ((wrap64 (a1 + 1)) : Int).toNat - (a1 : Int).toNat := (by rw [Ny419.out, List.length_drop, List.length_take] <;> omega)
                                      rw [show ((t409).take ((wrap64 (a1 + 1)) : Int).toNat).drop (a1 : Int).toNat = y419 from Ny419.out.symm] at hr60
                                      replace hr60 : Kd.C k35 _ A60 y419.length y419 := (by rw [hA60]; exact hr60)
                                      rw [← hy60, ← hA60, ← hc60] at hcut60
                                      have HR422 := Aside0.mk hr60
                                      have HC422 := Aside0.mk (show y419.length ≤ c60 from by rw [hy60, hc60]; exact Nat.sub_le_sub_right (Nat.le_trans (by omega) hroom60) _)
                                      clear hr60 hC60 hroom60 hi060 hsz60 hc60
                                      have KY60 := Aside0.mk hy60
                                      have KA60 := Aside0.mk hA60
                                      clear hy60 hA60
                                      have KL60 := Aside0.mk (show ((wrap64 (a1 + 1)) : Int).toNat ≤ t409.length from by omega)
                                      have KM60 := Aside0.mk (show (a1 : Int).toNat ≤ ((wrap64 (a1 + 1)) : Int).toNat from by omega)
                                      replace q60 := eq_true q60
                                      go_wp2_with (first | ((with_reducible refine gate_callee (f := 21) rfl ?_); refine goesL_ (some 132) rfl rfl Try.func21 (by kernel_rfl) rfl #[.slice Ao23 t409.length co23, .int .i64 (t409.length : Int), .slice A60 y419.length c60] rfl (by (try simp only [List.map_toArray, List.map_cons, List.map_nil]); first | done | rfl | (simp only [List.length_drop, List.length_take]; rfl)) ?_; (with_reducible refine (counterfoilref16_Put.calls kj25 _ _ t409 (t409.length : Int) _ _ y419 t423 _ ?side1 ?side2 ?side3 ?side4 A56.out).mono ?_); (case side1 => repeat (first | exact (Kd.R_reads' HO_16.out).2.2 | (with_reducible refine Kd.C_alloc ?_ _) | (with_reducible refine Kd.C_drewN ?_ _) | (with_reducible refine Kd.C_drew ?_))); (case side2 => exact (Kd.R_reads' HO_16.out).2.1); (case side3 => repeat (first | exact (by repeat (first | (with_reducible exact HR422.out) | (with_reducible refine Kd.C_alloc ?_ _) | (with_reducible refine Kd.C_drewN ?_ _) | (with_reducible refine Kd.C_drew ?_) | exact HR422.out)) | (with_reducible refine Kd.C_alloc ?_ _) | (with_reducible refine Kd.C_drewN ?_ _) | (with_reducible refine Kd.C_drew ?_))); (case side4 => exact HC422.out); rintro e w61 ⟨v424, rfl, ho0, hb⟩; refine ⟨_, rfl, ?_⟩; have n0_ := Aside0.mk (Kd.R_below (by (with_reducible repeat (first | apply Kd.R_alloc | apply Kd.R_drewN | apply Kd.R_drew)); exact HO_12.out) hb); have n1_ := Aside0.mk (Kd.R_below (by (with_reducible repeat (first | apply Kd.R_alloc | apply Kd.R_drewN | apply Kd.R_drew)); exact HO_14.out) hb); have n2_ := Aside0.mk (Kd.R_elder' (by (with_reducible repeat (first | apply Kd.R_alloc | apply Kd.R_drewN | apply Kd.R_drew)); exact HO_16.out) (Kd.R_base ho0) hb); have n3_ := Aside0.mk (Kd.R_lower (Kd.R_new' ho0 (Kd.R_lt (by (with_reducible repeat (first | apply Kd.R_alloc | apply Kd.R_drewN | apply Kd.R_drew)); exact HO_16.out))) (below_size (by repeat (first | (with_reducible first | exact HB.out | apply below_alloc | apply pw_below_drewN | apply below_drew1 | refine below_set ?_ GE400.out) | exact HB.out)))); have n4_ := Aside0.mk (blk_below (g := gb400) (o := .cells #[.int .i64 t397, .string t398] 24 (0, 0)) (by (with_reducible repeat (first | refine blk_drewN ?_ _ | refine blk_drew ?_ | refine blk_alloc ?_ _)); exact BK400.out) hb); have n5_ := Aside0.mk (Kd.C_below (by repeat (first | (with_reducible exact HR422.out) | (with_reducible refine Kd.C_alloc ?_ _) | (with_reducible refine Kd.C_drewN ?_ _) | (with_reducible refine Kd.C_drew ?_) | exact HR422.out)) hb); have n6_ := Aside0.mk (below_step (by repeat (first | (with_reducible first | exact HB.out | apply below_alloc | apply pw_below_drewN | apply below_drew1 | refine below_set ?_ GE400.out) | exact HB.out)) hb); clear HO_12; clear HO_14; clear HO_16; clear BK400; clear HR422; clear HB; have HO_12 := n0_; have HO_14 := n1_; have HO_16 := n2_; have HO425 := n3_; have BK400 := n4_; have HR422 := n5_; have HB := n6_; clear n0_ n1_ n2_ n3_ n4_ n5_ n6_; (try clear hb); (try clear hb2); (try clear hk); (try clear hi); (try clear ho0); obtain ⟨Ao62, co62, eo62⟩ := Kd.R_slice HO_12.out; subst eo62; obtain ⟨Ao63, co63, eo63⟩ := Kd.R_slice HO425.out; subst eo63) | ((with_reducible refine gate_callee (f := 20) rfl ?_); refine goesL_ (some 133) rfl rfl Try.func20 (by kernel_rfl) rfl #[.slice Ao62 t401.length co62, .slice Ao63 t423.length co63] rfl (by (try simp only [List.map_toArray, List.map_cons, List.map_nil]); first | done | rfl | (simp only [List.length_drop, List.length_take]; rfl)) ?_; (with_reducible refine (counterfoillaw16_same.calls kj25 _ _ t401 _ _ t423 true _ ?side1 ?side2 ?side3 ?side4 A57.out).mono ?_); (case side1 => repeat (first | exact (Kd.R_reads' HO_12.out).2.2 | (with_reducible refine Kd.C_alloc ?_ _) | (with_reducible refine Kd.C_drewN ?_ _) | (with_reducible refine Kd.C_drew ?_))); (case side2 => exact (Kd.R_reads' HO_12.out).2.1); (case side3 => repeat (first | exact (Kd.R_reads' HO425.out).2.2 | (with_reducible refine Kd.C_alloc ?_ _) | (with_reducible refine Kd.C_drewN ?_ _) | (with_reducible refine Kd.C_drew ?_))); (case side4 => exact (Kd.R_reads' HO425.out).2.1); rintro e w' ⟨rfl, ⟨nd, rfl⟩⟩; refine ⟨_, rfl, ?_⟩))
                                      go_meet
                                      case rel => exact ⟨_, H', ⟨by have := HJ10.out; have := HJ18.out; have := HJ21.out; have := HJ25.out; first | omega | exact Nat.le_refl _⟩, ⟨by (with_reducible repeat (first | apply Kd.R_alloc | apply Kd.R_drewN | apply Kd.R_drew)); exact Kd.R_mono HO_14.out (fun _ hk => hk.2)⟩, ⟨by (with_reducible repeat (first | apply Kd.R_alloc | apply Kd.R_drewN | apply Kd.R_drew)); exact Kd.R_mono HO_16.out (fun _ hk => trivial)⟩, ⟨by (with_reducible repeat (first | refine blk_drewN ?_ _ | refine blk_drew ?_ | refine blk_alloc ?_ _)); exact BK400.out⟩, ⟨by repeat (first | (with_reducible first | exact HB.out | apply below_alloc | apply pw_below_drewN | apply below_drew1 | refine below_set ?_ GE400.out) | exact HB.out)⟩⟩
                                    · as_aux_lemma =>
                                      rw [if_neg c59] at H
                                      have c59b0 : (t402 == 0) = false := beq_eq_false_iff_ne.mpr c59
                                      have c59b1 : (t402 != 0) = true := bne_iff_ne.mpr c59
                                      obtain rfl := Option.some.inj H
                                      have q64 : ((wrap64 (a1 + 1)) : Int) ≤ ((t409.length : Int) : Int) := of_decide_eq_true (by first | (with_reducible assumption) | assumption)
                                      obtain ⟨i064, hi064, _, hsz64, _⟩ := info_parts info35
                                      have hroom64 : t409.length ≤ co23 := (Kd.R_reads' HO_16.out).2.1
                                      have hC64 : Kd.C k35 _ Ao23 t409.length t409 := (Kd.R_reads' HO_16.out).2.2
                                      have ql64 : (a1 : Int) ≤ ((wrap64 (a1 + 1)) : Int) := of_decide_eq_true (by first | (with_reducible assumption) | assumption)
                                      have q064 : (0 : Int) ≤ (a1 : Int) := of_decide_eq_true (by first | (with_reducible assumption) | assumption)
                                      have hcut64 := cut_mid (P := Try.prog) 31 35 .i64 .i64 Try.underlying31 hi064 2 hsz64 Ao23 t409.length co23 a1 (wrap64 (a1 + 1)) q064 ql64 q64 hroom64
                                      have hr64 := Kd.C_mid (lo := (a1 : Int).toNat) (hi := ((wrap64 (a1 + 1)) : Int).toNat) (c := co23) hC64 (by omega) (by omega) hroom64
                                      obtain ⟨A64, hA64⟩ : ∃ A1, A1 = (if co23 = (a1 : Int).toNat then Ao23 else (Ao23 : Option Addr).map (·.add ((a1 : Int).toNat * 2))) := ⟨_, rfl⟩
                                      obtain ⟨c64, hc64⟩ : ∃ c1, c1 = co23 - (a1 : Int).toNat := ⟨_, rfl⟩
                                      have hy64 : y419.length = ((wrap64 (a1 + 1)) : Int).toNat - (a1 : Int).toNat := (by rw [Ny419.out, List.length_drop, List.length_take] <;> omega)
                                      rw [show ((t409).take ((wrap64 (a1 + 1)) : Int).toNat).drop (a1 : Int).toNat = y419 from Ny419.out.symm] at hr64
                                      replace hr64 : Kd.C k35 _ A64 y419.length y419 := (by rw [hA64]; exact hr64)
                                      rw [← hy64, ← hA64, ← hc64] at hcut64
                                      have HR422 := Aside0.mk hr64
                                      have HC422 := Aside0.mk (show y419.length ≤ c64 from by rw [hy64, hc64]; exact Nat.sub_le_sub_right (Nat.le_trans (by omega) hroom64) _)
                                      clear hr64 hC64 hroom64 hi064 hsz64 hc64
                                      have KY64 := Aside0.mk hy64
                                      have KA64 := Aside0.mk hA64
                                      clear hy64 hA64
                                      have KL64 := Aside0.mk (show ((wrap64 (a1 + 1)) : Int).toNat ≤ t409.length from by omega)
                                      have KM64 := Aside0.mk (show (a1 : Int).toNat ≤ ((wrap64 (a1 + 1)) : Int).toNat from by omega)
                                      replace q64 := eq_true q64
                                      go_wp2_with (first | ((with_reducible refine gate_callee (f := 21) rfl ?_); refine goesL_ (some 132) rfl rfl Try.func21 (by kernel_rfl) rfl #[.slice Ao23 t409.length co23, .int .i64 (t409.length : Int), .slice A64 y419.length c64] rfl (by (try simp only [List.map_toArray, List.map_cons, List.map_nil]); first | done | rfl | (simp only [List.length_drop, List.length_take]; rfl)) ?_; (with_reducible refine (counterfoilref16_Put.calls kj25 _ _ t409 (t409.length : Int) _ _ y419 t423 _ ?side1 ?side2 ?side3 ?side4 A56.out).mono ?_); (case side1 => repeat (first | exact (Kd.R_reads' HO_16.out).2.2 | (with_reducible refine Kd.C_alloc ?_ _) | (with_reducible refine Kd.C_drewN ?_ _) | (with_reducible refine Kd.C_drew ?_))); (case side2 => exact (Kd.R_reads' HO_16.out).2.1); (case side3 => repeat (first | exact (by repeat (first | (with_reducible exact HR422.out) | (with_reducible refine Kd.C_alloc ?_ _) | (with_reducible refine Kd.C_drewN ?_ _) | (with_reducible refine Kd.C_drew ?_) | exact HR422.out)) | (with_reducible refine Kd.C_alloc ?_ _) | (with_reducible refine Kd.C_drewN ?_ _) | (with_reducible refine Kd.C_drew ?_))); (case side4 => exact HC422.out); rintro e w65 ⟨v424, rfl, ho0, hb⟩; refine ⟨_, rfl, ?_⟩; have n0_ := Aside0.mk (Kd.R_below (by (with_reducible repeat (first | apply Kd.R_alloc | apply Kd.R_drewN | apply Kd.R_drew)); exact HO_12.out) hb); have n1_ := Aside0.mk (Kd.R_below (by (with_reducible repeat (first | apply Kd.R_alloc | apply Kd.R_drewN | apply Kd.R_drew)); exact HO_14.out) hb); have n2_ := Aside0.mk (Kd.R_elder' (by (with_reducible repeat (first | apply Kd.R_alloc | apply Kd.R_drewN | apply Kd.R_drew)); exact HO_16.out) (Kd.R_base ho0) hb); have n3_ := Aside0.mk (Kd.R_lower (Kd.R_new' ho0 (Kd.R_lt (by (with_reducible repeat (first | apply Kd.R_alloc | apply Kd.R_drewN | apply Kd.R_drew)); exact HO_16.out))) (below_size (by repeat (first | (with_reducible first | exact HB.out | apply below_alloc | apply pw_below_drewN | apply below_drew1 | refine below_set ?_ GE400.out) | exact HB.out)))); have n4_ := Aside0.mk (blk_below (g := gb400) (o := .cells #[.int .i64 t397, .string t398] 24 (0, 0)) (by (with_reducible repeat (first | refine blk_drewN ?_ _ | refine blk_drew ?_ | refine blk_alloc ?_ _)); exact BK400.out) hb); have n5_ := Aside0.mk (Kd.C_below (by repeat (first | (with_reducible exact HR422.out) | (with_reducible refine Kd.C_alloc ?_ _) | (with_reducible refine Kd.C_drewN ?_ _) | (with_reducible refine Kd.C_drew ?_) | exact HR422.out)) hb); have n6_ := Aside0.mk (below_step (by repeat (first | (with_reducible first | exact HB.out | apply below_alloc | apply pw_below_drewN | apply below_drew1 | refine below_set ?_ GE400.out) | exact HB.out)) hb); clear HO_12; clear HO_14; clear HO_16; clear BK400; clear HR422; clear HB; have HO_12 := n0_; have HO_14 := n1_; have HO_16 := n2_; have HO425 := n3_; have BK400 := n4_; have HR422 := n5_; have HB := n6_; clear n0_ n1_ n2_ n3_ n4_ n5_ n6_; (try clear hb); (try clear hb2); (try clear hk); (try clear hi); (try clear ho0); obtain ⟨Ao66, co66, eo66⟩ := Kd.R_slice HO_12.out; subst eo66; obtain ⟨Ao67, co67, eo67⟩ := Kd.R_slice HO425.out; subst eo67) | ((with_reducible refine gate_callee (f := 20) rfl ?_); refine goesL_ (some 133) rfl rfl Try.func20 (by kernel_rfl) rfl #[.slice Ao66 t401.length co66, .slice Ao67 t423.length co67] rfl (by (try simp only [List.map_toArray, List.map_cons, List.map_nil]); first | done | rfl | (simp only [List.length_drop, List.length_take]; rfl)) ?_; (with_reducible refine (counterfoillaw16_same.calls kj25 _ _ t401 _ _ t423 true _ ?side1 ?side2 ?side3 ?side4 A57.out).mono ?_); (case side1 => repeat (first | exact (Kd.R_reads' HO_12.out).2.2 | (with_reducible refine Kd.C_alloc ?_ _) | (with_reducible refine Kd.C_drewN ?_ _) | (with_reducible refine Kd.C_drew ?_))); (case side2 => exact (Kd.R_reads' HO_12.out).2.1); (case side3 => repeat (first | exact (Kd.R_reads' HO425.out).2.2 | (with_reducible refine Kd.C_alloc ?_ _) | (with_reducible refine Kd.C_drewN ?_ _) | (with_reducible refine Kd.C_drew ?_))); (case side4 => exact (Kd.R_reads' HO425.out).2.1); rintro e w' ⟨rfl, ⟨nd, rfl⟩⟩; refine ⟨_, rfl, ?_⟩))
                                      go_ret
                                      exact ⟨by first | rfl | (simp [errW_none, errW_some] <;> rfl) | (simp [*, errW_none, errW_some] <;> rfl), by repeat (first | (with_reducible first | exact HB.out | apply below_alloc | apply pw_below_drewN | apply below_drew1 | refine below_set ?_ GE400.out) | exact HB.out)⟩
                                  · replace c58 := Bool.eq_false_iff.mpr c58
                                    subst c58
                                    have H1 : (some false) = some r := by rw [if_neg (show ¬ (false = true) by decide)] at H; exact H
                                    clear H
                                    have H := H1
                                    clear H1
                                    obtain rfl := Option.some.inj H
                                    have q68 : ((wrap64 (a1 + 1)) : Int) ≤ ((t409.length : Int) : Int) := of_decide_eq_true (by first | (with_reducible assumption) | assumption)
                                    obtain ⟨i068, hi068, _, hsz68, _⟩ := info_parts info35
                                    have hroom68 : t409.length ≤ co23 := (Kd.R_reads' HO_16.out).2.1
                                    have hC68 : Kd.C k35 _ Ao23 t409.length t409 := (Kd.R_reads' HO_16.out).2.2
                                    have ql68 : (a1 : Int) ≤ ((wrap64 (a1 + 1)) : Int) := of_decide_eq_true (by first | (with_reducible assumption) | assumption)
                                    have q068 : (0 : Int) ≤ (a1 : Int) := of_decide_eq_true (by first | (with_reducible assumption) | assumption)
                                    have hcut68 := cut_mid (P := Try.prog) 31 35 .i64 .i64 Try.underlying31 hi068 2 hsz68 Ao23 t409.length co23 a1 (wrap64 (a1 + 1)) q068 ql68 q68 hroom68
                                    have hr68 := Kd.C_mid (lo := (a1 : Int).toNat) (hi := ((wrap64 (a1 + 1)) : Int).toNat) (c := co23) hC68 (by omega) (by omega) hroom68
                                    obtain ⟨A68, hA68⟩ : ∃ A1, A1 = (if co23 = (a1 : Int).toNat then Ao23 else (Ao23 : Option Addr).map (·.add ((a1 : Int).toNat * 2))) := ⟨_, rfl⟩
                                    obtain ⟨c68, hc68⟩ : ∃ c1, c1 = co23 - (a1 : Int).toNat := ⟨_, rfl⟩
                                    have hy68 : y419.length = ((wrap64 (a1 + 1)) : Int).toNat - (a1 : Int).toNat := (by rw [Ny419.out, List.length_drop, List.length_take] <;> omega)
                                    rw [show ((t409).take ((wrap64 (a1 + 1)) : Int).toNat).drop (a1 : Int).toNat = y419 from Ny419.out.symm] at hr68
                                    replace hr68 : Kd.C k35 _ A68 y419.length y419 := (by rw [hA68]; exact hr68)
                                    rw [← hy68, ← hA68, ← hc68] at hcut68
                                    have HR422 := Aside0.mk hr68
                                    have HC422 := Aside0.mk (show y419.length ≤ c68 from by rw [hy68, hc68]; exact Nat.sub_le_sub_right (Nat.le_trans (by omega) hroom68) _)
                                    clear hr68 hC68 hroom68 hi068 hsz68 hc68
                                    have KY68 := Aside0.mk hy68
                                    have KA68 := Aside0.mk hA68
                                    clear hy68 hA68
                                    have KL68 := Aside0.mk (show ((wrap64 (a1 + 1)) : Int).toNat ≤ t409.length from by omega)
                                    have KM68 := Aside0.mk (show (a1 : Int).toNat ≤ ((wrap64 (a1 + 1)) : Int).toNat from by omega)
                                    replace q68 := eq_true q68
                                    go_wp2_with (first | ((with_reducible refine gate_callee (f := 21) rfl ?_); refine goesL_ (some 132) rfl rfl Try.func21 (by kernel_rfl) rfl #[.slice Ao23 t409.length co23, .int .i64 (t409.length : Int), .slice A68 y419.length c68] rfl (by (try simp only [List.map_toArray, List.map_cons, List.map_nil]); first | done | rfl | (simp only [List.length_drop, List.length_take]; rfl)) ?_; (with_reducible refine (counterfoilref16_Put.calls kj25 _ _ t409 (t409.length : Int) _ _ y419 t423 _ ?side1 ?side2 ?side3 ?side4 A56.out).mono ?_); (case side1 => repeat (first | exact (Kd.R_reads' HO_16.out).2.2 | (with_reducible refine Kd.C_alloc ?_ _) | (with_reducible refine Kd.C_drewN ?_ _) | (with_reducible refine Kd.C_drew ?_))); (case side2 => exact (Kd.R_reads' HO_16.out).2.1); (case side3 => repeat (first | exact (by repeat (first | (with_reducible exact HR422.out) | (with_reducible refine Kd.C_alloc ?_ _) | (with_reducible refine Kd.C_drewN ?_ _) | (with_reducible refine Kd.C_drew ?_) | exact HR422.out)) | (with_reducible refine Kd.C_alloc ?_ _) | (with_reducible refine Kd.C_drewN ?_ _) | (with_reducible refine Kd.C_drew ?_))); (case side4 => exact HC422.out); rintro e w69 ⟨v424, rfl, ho0, hb⟩; refine ⟨_, rfl, ?_⟩; have n0_ := Aside0.mk (Kd.R_below (by (with_reducible repeat (first | apply Kd.R_alloc | apply Kd.R_drewN | apply Kd.R_drew)); exact HO_12.out) hb); have n1_ := Aside0.mk (Kd.R_below (by (with_reducible repeat (first | apply Kd.R_alloc | apply Kd.R_drewN | apply Kd.R_drew)); exact HO_14.out) hb); have n2_ := Aside0.mk (Kd.R_elder' (by (with_reducible repeat (first | apply Kd.R_alloc | apply Kd.R_drewN | apply Kd.R_drew)); exact HO_16.out) (Kd.R_base ho0) hb); have n3_ := Aside0.mk (Kd.R_lower (Kd.R_new' ho0 (Kd.R_lt (by (with_reducible repeat (first | apply Kd.R_alloc | apply Kd.R_drewN | apply Kd.R_drew)); exact HO_16.out))) (below_size (by repeat (first | (with_reducible first | exact HB.out | apply below_alloc | apply pw_below_drewN | apply below_drew1 | refine below_set ?_ GE400.out) | exact HB.out)))); have n4_ := Aside0.mk (blk_below (g := gb400) (o := .cells #[.int .i64 t397, .string t398] 24 (0, 0)) (by (with_reducible repeat (first | refine blk_drewN ?_ _ | refine blk_drew ?_ | refine blk_alloc ?_ _)); exact BK400.out) hb); have n5_ := Aside0.mk (Kd.C_below (by repeat (first | (with_reducible exact HR422.out) | (with_reducible refine Kd.C_alloc ?_ _) | (with_reducible refine Kd.C_drewN ?_ _) | (with_reducible refine Kd.C_drew ?_) | exact HR422.out)) hb); have n6_ := Aside0.mk (below_step (by repeat (first | (with_reducible first | exact HB.out | apply below_alloc | apply pw_below_drewN | apply below_drew1 | refine below_set ?_ GE400.out) | exact HB.out)) hb); clear HO_12; clear HO_14; clear HO_16; clear BK400; clear HR422; clear HB; have HO_12 := n0_; have HO_14 := n1_; have HO_16 := n2_; have HO425 := n3_; have BK400 := n4_; have HR422 := n5_; have HB := n6_; clear n0_ n1_ n2_ n3_ n4_ n5_ n6_; (try clear hb); (try clear hb2); (try clear hk); (try clear hi); (try clear ho0); obtain ⟨Ao70, co70, eo70⟩ := Kd.R_slice HO_12.out; subst eo70; obtain ⟨Ao71, co71, eo71⟩ := Kd.R_slice HO425.out; subst eo71) | ((with_reducible refine gate_callee (f := 20) rfl ?_); refine goesL_ (some 133) rfl rfl Try.func20 (by kernel_rfl) rfl #[.slice Ao70 t401.length co70, .slice Ao71 t423.length co71] rfl (by (try simp only [List.map_toArray, List.map_cons, List.map_nil]); first | done | rfl | (simp only [List.length_drop, List.length_take]; rfl)) ?_; (with_reducible refine (counterfoillaw16_same.calls kj25 _ _ t401 _ _ t423 false _ ?side1 ?side2 ?side3 ?side4 A57.out).mono ?_); (case side1 => repeat (first | exact (Kd.R_reads' HO_12.out).2.2 | (with_reducible refine Kd.C_alloc ?_ _) | (with_reducible refine Kd.C_drewN ?_ _) | (with_reducible refine Kd.C_drew ?_))); (case side2 => exact (Kd.R_reads' HO_12.out).2.1); (case side3 => repeat (first | exact (Kd.R_reads' HO425.out).2.2 | (with_reducible refine Kd.C_alloc ?_ _) | (with_reducible refine Kd.C_drewN ?_ _) | (with_reducible refine Kd.C_drew ?_))); (case side4 => exact (Kd.R_reads' HO425.out).2.1); rintro e w' ⟨rfl, ⟨nd, rfl⟩⟩; refine ⟨_, rfl, ?_⟩))
                                    go_ret
                                    exact ⟨by first | rfl | (simp [errW_none, errW_some] <;> rfl) | (simp [*, errW_none, errW_some] <;> rfl), by repeat (first | (with_reducible first | exact HB.out | apply below_alloc | apply pw_below_drewN | apply below_drew1 | refine below_set ?_ GE400.out) | exact HB.out)⟩
                                · rw [if_neg c55] at H
                                  exact absurd H (by simp)
                              · rw [if_neg c54] at H
                                exact absurd H (by simp)
                            · rw [if_neg c53] at H
                              exact absurd H (by simp)
                        case rest =>
                          clear HC46
                          try clear c1
                          try clear c2
                          try clear p2
                          try clear c3
                          try clear c4
                          try clear p4
                          try clear q4
                          try clear hx4
                          try clear c5
                          try clear c6
                          try clear p6
                          try clear q6
                          try clear c20
                          try clear c21
                          try clear c29
                          try clear c30
                          try clear c31
                          try clear c32
                          try clear c32b0
                          try clear p41
                          try clear q41
                          try clear hx41
                          try clear c45
                          try clear c47
                          try clear c47b0
                          try clear c47b1
                          try clear c48
                          try clear c48b0
                          try clear c48b1
                          try clear c48b2
                          try clear c49
                          try clear c49b0
                          try clear c49b1
                          try clear c53
                          try clear c53b0
                          try clear c53b1
                          try clear c54
                          try clear c54b0
                          try clear c54b1
                          try clear c55
                          try clear c55b0
                          try clear c55b1
                          try clear c58
                          try clear c59
                          try clear c59b0
                          try clear c59b1
                          try clear c60
                          try clear q60
                          try clear c64
                          try clear p64
                          try clear q64
                          try clear c68
                          try clear q68
                          try clear hx418_0
                          try clear hx418_1
                          try clear p2
                          try clear p4
                          try clear p41
                          try clear p418
                          try clear q060
                          try clear q064
                          try clear q068
                          try clear q4
                          try clear q41
                          try clear q418
                          try clear q60
                          try clear q64
                          try clear q68
                          obtain ⟨kq, HA, HJ45, HO_14, HO_16, BK400, HB⟩ := hcut
                          cases kq with
                          | zero => exact absurd HA.out (by simp [counterfoillaw16_WiresTakes.j4])
                          | succ kj45 =>
                            have H := HA.out
                            clear HA
                            simp only [counterfoillaw16_WiresTakes.j4] at H
                            have HC72 := Aside0.mk H
                            clear H
                            go_upto_region 21 with (fail)
                            go_cut [150] (fun v150 wc => ∃ (kq : Nat) (x150_71 : Bool), v150 = .bool x150_71 ∧ Aside0 (counterfoillaw16_WiresTakes.j5 kq l0 a1 a2 a3 t405 t406 t409 x150_71 = some r) ∧ Aside0 (kq ≤ kj45) ∧ Aside0 (Kd.R k24 24 wc w.heap.size (fun k_ => k_ ≠ gb400) v407 t405) ∧ Aside0 (Kd.R k35 35 wc w.heap.size (fun _ => True) (.slice Ao23 t409.length co23) t409) ∧ Aside0 (wc.heap[gb400]? = some (.cells #[.int .i64 t397, .string t398] 24 (0, 0))) ∧ Aside0 (Below w.heap.size w wc))
                            case first =>
                              have H := HC72.out
                              clear HC72
                              by_cases c73 : a2 < 0
                              · rw [if_pos c73] at H
                                have c73b0 : decide (a2 < 0) = true := decide_eq_true c73
                                clear c73
                                (first | rw [c73b0] | (simp only [i64_w, i32_w]; rw [c73b0]) | skip)
                                have H' := Aside0.mk H
                                clear H
                                go_wp2
                                go_meet
                                case rel => exact ⟨_, (true), (by first | rfl | (simp; done) | (simp [*]; done)), H', ⟨by have := HJ10.out; have := HJ18.out; have := HJ21.out; have := HJ25.out; have := HJ45.out; first | omega | exact Nat.le_refl _⟩, ⟨by (with_reducible repeat (first | apply Kd.R_alloc | apply Kd.R_drewN | apply Kd.R_drew)); exact HO_14.out⟩, ⟨by (with_reducible repeat (first | apply Kd.R_alloc | apply Kd.R_drewN | apply Kd.R_drew)); exact HO_16.out⟩, ⟨by (with_reducible repeat (first | refine blk_drewN ?_ _ | refine blk_drew ?_ | refine blk_alloc ?_ _)); exact BK400.out⟩, ⟨by repeat (first | (with_reducible first | exact HB.out | apply below_alloc | apply pw_below_drewN | apply below_drew1 | refine below_set ?_ GE400.out) | exact HB.out)⟩⟩
                              · rw [if_neg c73] at H
                                have c73b0 : decide (a2 < 0) = false := decide_eq_false c73
                                clear c73
                                (first | rw [c73b0] | (simp only [i64_w, i32_w]; rw [c73b0]) | skip)
                                by_cases c74 : 0 ≤ a1
                                · rw [if_pos c74] at H
                                  have c74b0 : decide (0 ≤ a1) = true := decide_eq_true c74
                                  clear c74
                                  by_cases c75 : a1 < (l0.length : Int)
                                  · rw [if_pos c75] at H
                                    have c75b0 : decide (a1 < (l0.length : Int)) = true := decide_eq_true c75
                                    clear c75
                                    have H' := Aside0.mk H
                                    clear H
                                    have p427 : 0 ≤ (a1 : Int) := of_decide_eq_true (by first | (with_reducible assumption) | assumption)
                                    have q427 : a1 < (l0.length : Int) := of_decide_eq_true (by first | (with_reducible assumption) | assumption)
                                    obtain ⟨ad427, e427, hx427_0, hx427_1⟩ := at_T24 HR0.out a1 p427 q427
                                    cases e427
                                    replace hx427_0 := (HB.out.cell (World.block_lt_of_cell? w _ hx427_0)).trans hx427_0
                                    replace hx427_1 := (HB.out.cell (World.block_lt_of_cell? w _ hx427_1)).trans hx427_1
                                    replace p427 := eq_true p427
                                    replace q427 := eq_true q427
                                    go_wp2
                                    go_meet
                                    case rel => exact ⟨_, (decide (a2 ≥ (((rd_T24 l0 a1).f1).size : Int))), (by first | rfl | (simp; done) | (simp [*]; done)), H', ⟨by have := HJ10.out; have := HJ18.out; have := HJ21.out; have := HJ25.out; have := HJ45.out; first | omega | exact Nat.le_refl _⟩, ⟨by (with_reducible repeat (first | apply Kd.R_alloc | apply Kd.R_drewN | apply Kd.R_drew)); exact HO_14.out⟩, ⟨by (with_reducible repeat (first | apply Kd.R_alloc | apply Kd.R_drewN | apply Kd.R_drew)); exact HO_16.out⟩, ⟨by (with_reducible repeat (first | refine blk_drewN ?_ _ | refine blk_drew ?_ | refine blk_alloc ?_ _)); exact BK400.out⟩, ⟨by repeat (first | (with_reducible first | exact HB.out | apply below_alloc | apply pw_below_drewN | apply below_drew1 | refine below_set ?_ GE400.out) | exact HB.out)⟩⟩
                                  · rw [if_neg c75] at H
                                    exact absurd H (by simp)
                                · rw [if_neg c74] at H
                                  exact absurd H (by simp)
                            case rest =>
                              clear HC72
                              try clear c1
                              try clear c2
                              try clear p2
                              try clear c3
                              try clear c4
                              try clear p4
                              try clear q4
                              try clear hx4
                              try clear c5
                              try clear c6
                              try clear p6
                              try clear q6
                              try clear c7
                              try clear c20
                              try clear c21
                              try clear c29
                              try clear c30
                              try clear c31
                              try clear c32
                              try clear c32b0
                              try clear p41
                              try clear q41
                              try clear hx41
                              try clear p42
                              try clear q42
                              try clear hx42
                              try clear c45
                              try clear c47
                              try clear c47b0
                              try clear c47b1
                              try clear c48
                              try clear c48b0
                              try clear c48b1
                              try clear c48b2
                              try clear c49
                              try clear c49b0
                              try clear c49b1
                              try clear c53
                              try clear c53b0
                              try clear c53b1
                              try clear c54
                              try clear c54b0
                              try clear c54b1
                              try clear c55
                              try clear c55b0
                              try clear c55b1
                              try clear c58
                              try clear c59
                              try clear c59b0
                              try clear c59b1
                              try clear c60
                              try clear q60
                              try clear c64
                              try clear p64
                              try clear q64
                              try clear c68
                              try clear q68
                              try clear c73
                              try clear c73b0
                              try clear c74
                              try clear c74b0
                              try clear c75
                              try clear c75b0
                              try clear hx418_0
                              try clear hx418_1
                              try clear hx427_0
                              try clear hx427_1
                              try clear p2
                              try clear p4
                              try clear p41
                              try clear p418
                              try clear p427
                              try clear p6
                              try clear p64
                              try clear q060
                              try clear q064
                              try clear q068
                              try clear q4
                              try clear q41
                              try clear q418
                              try clear q427
                              try clear q6
                              try clear q60
                              try clear q64
                              try clear q68
                              obtain ⟨kq, x150_71, rfl, HA, HJ71, HO_14, HO_16, BK400, HB⟩ := hcut
                              cases kq with
                              | zero => exact absurd HA.out (by simp [counterfoillaw16_WiresTakes.j5])
                              | succ kj71 =>
                                have H := HA.out
                                clear HA
                                simp only [counterfoillaw16_WiresTakes.j5] at H
                                by_cases c76 : x150_71 = true
                                · subst c76
                                  have H1 : (if (t405.length : Int) = 0 then (if t406 = 1 then ((counterfoillaw16_awake.f kj71).bind fun t428 => (some t428)) else (some false)) else (some false)) = some r := by rw [if_pos rfl] at H; exact H
                                  clear H
                                  have H := H1
                                  clear H1
                                  by_cases c77 : (t405.length : Int) = 0
                                  · rw [if_pos c77] at H
                                    have c77b0 : ((t405.length : Int) == 0) = true := beq_iff_eq.mpr c77
                                    have c77b1 : ((t405.length : Int) != 0) = false := bne_eq_false_iff_eq.mpr c77
                                    clear c77
                                    by_cases c78 : t406 = 1
                                    · rw [if_pos c78] at H
                                      have c78b0 : (t406 == 1) = true := beq_iff_eq.mpr c78
                                      have c78b1 : (t406 != 1) = false := bne_eq_false_iff_eq.mpr c78
                                      clear c78
                                      replace H := Option.bind_eq_some_iff.mp H
                                      obtain ⟨t428, A790, H⟩ := H
                                      replace H : (some t428) = some r := H
                                      have A79 := Aside0.mk A790
                                      clear A790
                                      obtain rfl := Option.some.inj H
                                      obtain ⟨Ao80, co80, eo80⟩ := Kd.R_slice HO_14.out
                                      subst eo80
                                      go_wp2_with (first | (go_at_call 15; (with_reducible refine (counterfoillaw16_awake.calls kj71  t428 _ A79.out).mono ?_); rintro e w81 ⟨rfl, hb⟩; have n0_ := Aside0.mk (Kd.R_below (by (with_reducible repeat (first | apply Kd.R_alloc | apply Kd.R_drewN | apply Kd.R_drew)); exact HO_14.out) hb); have n1_ := Aside0.mk (Kd.R_below (by (with_reducible repeat (first | apply Kd.R_alloc | apply Kd.R_drewN | apply Kd.R_drew)); exact HO_16.out) hb); have n2_ := Aside0.mk (blk_below (g := gb400) (o := .cells #[.int .i64 t397, .string t398] 24 (0, 0)) (by (with_reducible repeat (first | refine blk_drewN ?_ _ | refine blk_drew ?_ | refine blk_alloc ?_ _)); exact BK400.out) hb); have n3_ := Aside0.mk (below_step (by repeat (first | (with_reducible first | exact HB.out | apply below_alloc | apply pw_below_drewN | apply below_drew1 | refine below_set ?_ GE400.out) | exact HB.out)) hb); clear HO_14; clear HO_16; clear BK400; clear HB; have HO_14 := n0_; have HO_16 := n1_; have BK400 := n2_; have HB := n3_; clear n0_ n1_ n2_ n3_; (try clear hb); (try clear hb2); (try clear hk); (try clear hi)))
                                      go_ret
                                      exact ⟨by first | rfl | (simp [errW_none, errW_some] <;> rfl) | (simp [*, errW_none, errW_some] <;> rfl), by repeat (first | (with_reducible first | exact HB.out | apply below_alloc | apply pw_below_drewN | apply below_drew1 | refine below_set ?_ GE400.out) | exact HB.out)⟩
                                    · rw [if_neg c78] at H
                                      have c78b0 : (t406 == 1) = false := beq_eq_false_iff_ne.mpr c78
                                      have c78b1 : (t406 != 1) = true := bne_iff_ne.mpr c78
                                      obtain rfl := Option.some.inj H
                                      obtain ⟨Ao82, co82, eo82⟩ := Kd.R_slice HO_14.out
                                      subst eo82
                                      go_wp2
                                      go_ret
                                      exact ⟨by first | rfl | (simp [errW_none, errW_some] <;> rfl) | (simp [*, errW_none, errW_some] <;> rfl), by repeat (first | (with_reducible first | exact HB.out | apply below_alloc | apply pw_below_drewN | apply below_drew1 | refine below_set ?_ GE400.out) | exact HB.out)⟩
                                  · rw [if_neg c77] at H
                                    have c77b0 : ((t405.length : Int) == 0) = false := beq_eq_false_iff_ne.mpr c77
                                    have c77b1 : ((t405.length : Int) != 0) = true := bne_iff_ne.mpr c77
                                    have c77b2 : ¬ (t405 = []) := fun h_ => c77 (by rw [h_]; rfl)
                                    obtain rfl := Option.some.inj H
                                    obtain ⟨Ao83, co83, eo83⟩ := Kd.R_slice HO_14.out
                                    subst eo83
                                    go_wp2
                                    go_ret
                                    exact ⟨by first | rfl | (simp [errW_none, errW_some] <;> rfl) | (simp [*, errW_none, errW_some] <;> rfl), by repeat (first | (with_reducible first | exact HB.out | apply below_alloc | apply pw_below_drewN | apply below_drew1 | refine below_set ?_ GE400.out) | exact HB.out)⟩
                                · replace c76 := Bool.eq_false_iff.mpr c76
                                  subst c76
                                  have H1 : (if 0 ≤ a1 then (if a1 < (l0.length : Int) then ((counterfoilref16_Turned.f ((rd_T24 l0 a1).f1) a2 a3).bind fun t431 => ((counterfoilref16_Put.f kj71 t409 a1 (([(⟨(rd_T24 l0 a1).f0, t431⟩ : S35)] : List (S35)))).bind fun t435 => ((counterfoillaw16_same.f kj71 t405 t435).bind fun t438 => (if t438 = true then (if t406 = 0 then ((counterfoillaw16_awake.f kj71).bind fun t439 => (some t439)) else (some false)) else (some false))))) else (none)) else (none)) = some r := by rw [if_neg (show ¬ (false = true) by decide)] at H; exact H
                                  clear H
                                  have H := H1
                                  clear H1
                                  by_cases c84 : 0 ≤ a1
                                  · as_aux_lemma =>
                                    rw [if_pos c84] at H
                                    have c84b0 : decide (0 ≤ a1) = true := decide_eq_true c84
                                    clear c84
                                    by_cases c85 : a1 < (l0.length : Int)
                                    · as_aux_lemma =>
                                      rw [if_pos c85] at H
                                      have c85b0 : decide (a1 < (l0.length : Int)) = true := decide_eq_true c85
                                      clear c85
                                      replace H := Option.bind_eq_some_iff.mp H
                                      obtain ⟨t431, A860, H⟩ := H
                                      replace H : ((counterfoilref16_Put.f kj71 t409 a1 (([(⟨(rd_T24 l0 a1).f0, t431⟩ : S35)] : List (S35)))).bind fun t435 => ((counterfoillaw16_same.f kj71 t405 t435).bind fun t438 => (if t438 = true then (if t406 = 0 then ((counterfoillaw16_awake.f kj71).bind fun t439 => (some t439)) else (some false)) else (some false)))) = some r := H
                                      have A86 := Aside0.mk A860
                                      clear A860
                                      obtain ⟨y432, hy432⟩ : ∃ y_ : List (S35), y_ = (([(⟨(rd_T24 l0 a1).f0, t431⟩ : S35)] : List (S35))) := ⟨_, rfl⟩
                                      replace H : ((counterfoilref16_Put.f kj71 t409 a1 y432).bind fun t435 => ((counterfoillaw16_same.f kj71 t405 t435).bind fun t438 => (if t438 = true then (if t406 = 0 then ((counterfoillaw16_awake.f kj71).bind fun t439 => (some t439)) else (some false)) else (some false)))) = some r := by first | (rw [hy432]; with_reducible exact H) | (have H2_ := (Option.bind_some _ _).symm.trans H; rw [hy432]; with_reducible exact H2_) | (have H2_ := (Option.bind_some _ _).symm.trans H; with_reducible exact H2_) | with_reducible exact H | (rw [hy432]; exact H) | exact H
                                      have Ny432 := Aside0.mk hy432
                                      clear hy432
                                      replace H := Option.bind_eq_some_iff.mp H
                                      obtain ⟨t435, A870, H⟩ := H
                                      replace H : ((counterfoillaw16_same.f kj71 t405 t435).bind fun t438 => (if t438 = true then (if t406 = 0 then ((counterfoillaw16_awake.f kj71).bind fun t439 => (some t439)) else (some false)) else (some false))) = some r := H
                                      have A87 := Aside0.mk A870
                                      clear A870
                                      replace H := Option.bind_eq_some_iff.mp H
                                      obtain ⟨t438, A880, H⟩ := H
                                      replace H : (if t438 = true then (if t406 = 0 then ((counterfoillaw16_awake.f kj71).bind fun t439 => (some t439)) else (some false)) else (some false)) = some r := H
                                      have A88 := Aside0.mk A880
                                      clear A880
                                      by_cases c89 : t438 = true
                                      · subst c89
                                        have H1 : (if t406 = 0 then ((counterfoillaw16_awake.f kj71).bind fun t439 => (some t439)) else (some false)) = some r := by rw [if_pos rfl] at H; exact H
                                        clear H
                                        have H := H1
                                        clear H1
                                        by_cases c90 : t406 = 0
                                        · as_aux_lemma =>
                                          rw [if_pos c90] at H
                                          have c90b0 : (t406 == 0) = true := beq_iff_eq.mpr c90
                                          have c90b1 : (t406 != 0) = false := bne_eq_false_iff_eq.mpr c90
                                          clear c90
                                          replace H := Option.bind_eq_some_iff.mp H
                                          obtain ⟨t439, A910, H⟩ := H
                                          replace H : (some t439) = some r := H
                                          have A91 := Aside0.mk A910
                                          clear A910
                                          obtain rfl := Option.some.inj H
                                          try go_wp2
                                          have n0_ := Aside0.mk (Kd.R_drew HO_14.out)
                                          have n1_ := Aside0.mk (Kd.R_drew HO_16.out)
                                          have n2_ := Aside0.mk (blk_drew BK400.out)
                                          have n3_ := Aside0.mk (below_drew1 HB.out)
                                          clear HO_14
                                          clear HO_16
                                          clear BK400
                                          clear HB
                                          have HO_14 := n0_
                                          have HO_16 := n1_
                                          have BK400 := n2_
                                          have HB := n3_
                                          clear n0_ n1_ n2_ n3_
                                          have p429 : 0 ≤ (a1 : Int) := of_decide_eq_true (by first | (with_reducible assumption) | assumption)
                                          have q429 : a1 < (l0.length : Int) := of_decide_eq_true (by first | (with_reducible assumption) | assumption)
                                          obtain ⟨ad429, e429, hx429_0, hx429_1⟩ := at_T24 HR0.out a1 p429 q429
                                          have hw429_1 := hx429_1
                                          have hw429_0 := hx429_0
                                          cases e429
                                          replace hx429_0 := (HB.out.cell (World.block_lt_of_cell? w _ hx429_0)).trans hx429_0
                                          replace hx429_1 := (HB.out.cell (World.block_lt_of_cell? w _ hx429_1)).trans hx429_1
                                          replace p429 := eq_true p429
                                          replace q429 := eq_true q429
                                          have p430 : 0 ≤ (a1 : Int) := of_decide_eq_true (by first | (with_reducible assumption) | assumption)
                                          have q430 : a1 < (l0.length : Int) := of_decide_eq_true (by first | (with_reducible assumption) | assumption)
                                          obtain ⟨ad430, e430, hx430_0, hx430_1⟩ := at_T24 HR0.out a1 p430 q430
                                          have hw430_1 := hx430_1
                                          have hw430_0 := hx430_0
                                          obtain rfl : ad429 = ad430 := (by injection e430)
                                          replace hx430_0 := (HB.out.cell (World.block_lt_of_cell? w _ hx430_0)).trans hx430_0
                                          replace hx430_1 := (HB.out.cell (World.block_lt_of_cell? w _ hx430_1)).trans hx430_1
                                          replace p430 := eq_true p430
                                          replace q430 := eq_true q430
                                          refine start_ (n := 16) (S := fun w' => w'.cell? (ad429.add ((a1).toNat * 2)) = some (.int .i64 ((rd_T24 l0 a1).f0)) ∧ w'.cell? ⟨(ad429.add ((a1).toNat * 2)).block, (ad429.add ((a1).toNat * 2)).off + 1, none⟩ = some (.string ((rd_T24 l0 a1).f1)) ∧ w'.cell? (ad429.add ((a1).toNat * 2)) = some (.int .i64 ((rd_T24 l0 a1).f0)) ∧ w'.cell? ⟨(ad429.add ((a1).toNat * 2)).block, (ad429.add ((a1).toNat * 2)).off + 1, none⟩ = some (.string ((rd_T24 l0 a1).f1))) (ds := []) #[false, false, false, false, false, false, false, false, false, false, false, false, false, false, false, false] (by kernel_rfl) rfl rfl ⟨((HB.out.cell (World.block_lt_of_cell? w _ hw429_0)).trans hw429_0), ((HB.out.cell (World.block_lt_of_cell? w _ hw429_1)).trans hw429_1), ((HB.out.cell (World.block_lt_of_cell? w _ hw430_0)).trans hw430_0), ((HB.out.cell (World.block_lt_of_cell? w _ hw430_1)).trans hw430_1)⟩ (fun hHeld => ?_); refine with_tabW counterfoillaw16_WiresTakes.tab23 counterfoillaw16_WiresTakes.bits23 (fun HT_ HW_ => ?_)
                                          generalize wc.drew = w92 at HO_14 HO_16 BK400 HB hx429_0 hx429_1 hx430_0 hx430_1 hHeld ⊢
                                          refine pure_ (i := 0) (N := some 161) (v := ?_) (a' := ?_) #[true, false, false, false, false, false, false, false, false, false, false, false, false, false, false, false] rfl rfl (any_of HT_.out (by kernel_rfl)) (fun _ _ _ h => h) (Or.inl ⟨by rfl, ?_⟩) ?_ ?_
                                          rotate_left
                                          · intro w'
                                            go_simp
                                            with_reducible rfl
                                          rotate_left
                                          · simp only [Act.put, List.setIfInBounds_toArray, List.set_cons_zero, List.set_cons_succ, i64_w, i32_w]
                                            rfl
                                          refine pure_ (i := 1) (N := some 162) (v := ?_) (a' := ?_) #[true, true, false, false, false, false, false, false, false, false, false, false, false, false, false, false] rfl rfl (any_of HT_.out (by kernel_rfl)) (fun _ _ _ h => h) (Or.inl ⟨by rfl, ?_⟩) ?_ ?_
                                          rotate_left
                                          · intro w'
                                            go_simp
                                            with_reducible rfl
                                          rotate_left
                                          · simp only [Act.put, List.setIfInBounds_toArray, List.set_cons_zero, List.set_cons_succ, i64_w, i32_w]
                                            rfl
                                          refine pure_ (i := 2) (N := some 163) (v := ?_) (a' := ?_) #[true, true, true, false, false, false, false, false, false, false, false, false, false, false, false, false] rfl rfl (any_of HT_.out (by kernel_rfl)) (fun _ _ _ h => h) (Or.inl ⟨by rfl, ?_⟩) ?_ ?_
                                          rotate_left
                                          · intro w'
                                            go_simp
                                            with_reducible rfl
                                          rotate_left
                                          · simp only [Act.put, List.setIfInBounds_toArray, List.set_cons_zero, List.set_cons_succ, i64_w, i32_w]
                                            rfl
                                          refine pure_ (i := 3) (N := some 164) (v := ?_) (a' := ?_) #[true, true, true, true, false, false, false, false, false, false, false, false, false, false, false, false] rfl rfl (any_of HT_.out (by kernel_rfl)) (fun _ _ _ h => h) (Or.inl ⟨by rfl, ?_⟩) ?_ ?_
                                          rotate_left
                                          · intro w'
                                            go_simp
                                            with_reducible rfl
                                          rotate_left
                                          · simp only [Act.put, List.setIfInBounds_toArray, List.set_cons_zero, List.set_cons_succ, i64_w, i32_w]
                                            rfl
                                          refine pure_ (i := 5) (N := some 166) (v := ?_) (a' := ?_) #[true, true, true, true, false, true, false, false, false, false, false, false, false, false, false, false] rfl rfl (any_of HT_.out (by kernel_rfl)) (fun _ _ _ h => h) (Or.inl ⟨by rfl, ?_⟩) ?_ ?_
                                          rotate_left
                                          · intro w'
                                            go_simp
                                            with_reducible rfl
                                          rotate_left
                                          · simp only [Act.put, List.setIfInBounds_toArray, List.set_cons_zero, List.set_cons_succ, i64_w, i32_w]
                                            rfl
                                          refine pure_ (i := 6) (N := some 167) (v := ?_) (a' := ?_) #[true, true, true, true, false, true, true, false, false, false, false, false, false, false, false, false] rfl rfl (any_of HT_.out (by kernel_rfl)) (fun _ _ _ h => h) (Or.inl ⟨by rfl, ?_⟩) ?_ ?_
                                          rotate_left
                                          · intro w'
                                            go_simp
                                            with_reducible rfl
                                          rotate_left
                                          · simp only [Act.put, List.setIfInBounds_toArray, List.set_cons_zero, List.set_cons_succ, i64_w, i32_w]
                                            rfl
                                          refine pure_ (i := 7) (N := some 168) (v := ?_) (a' := ?_) #[true, true, true, true, false, true, true, true, false, false, false, false, false, false, false, false] rfl rfl (any_of HT_.out (by kernel_rfl)) (fun _ _ _ h => h) (Or.inl ⟨by rfl, ?_⟩) ?_ ?_
                                          rotate_left
                                          · intro w'
                                            go_simp
                                            with_reducible rfl
                                          rotate_left
                                          · simp only [Act.put, List.setIfInBounds_toArray, List.set_cons_zero, List.set_cons_succ, i64_w, i32_w]
                                            rfl
                                          refine pure_ (i := 8) (N := some 169) (v := ?_) (a' := ?_) #[true, true, true, true, false, true, true, true, true, false, false, false, false, false, false, false] rfl rfl (any_of HT_.out (by kernel_rfl)) (fun _ _ _ h => h) (Or.inl ⟨by rfl, ?_⟩) ?_ ?_
                                          rotate_left
                                          · intro w'
                                            go_simp
                                            with_reducible rfl
                                          rotate_left
                                          · simp only [Act.put, List.setIfInBounds_toArray, List.set_cons_zero, List.set_cons_succ, i64_w, i32_w]
                                            rfl
                                          refine pure_ (i := 10) (N := some 171) (v := ?_) (a' := ?_) #[true, true, true, true, false, true, true, true, true, false, true, false, false, false, false, false] rfl rfl (any_of HT_.out (by kernel_rfl)) (fun _ _ _ h => h) (Or.inl ⟨by rfl, ?_⟩) ?_ ?_
                                          rotate_left
                                          · intro w'
                                            go_simp
                                            with_reducible rfl
                                          rotate_left
                                          · simp only [Act.put, List.setIfInBounds_toArray, List.set_cons_zero, List.set_cons_succ, i64_w, i32_w]
                                            rfl
                                          refine pure_ (i := 11) (N := some 172) (v := ?_) (a' := ?_) #[true, true, true, true, false, true, true, true, true, false, true, true, false, false, false, false] rfl rfl (any_of HT_.out (by kernel_rfl)) (fun _ _ _ h => h) (Or.inl ⟨by rfl, ?_⟩) ?_ ?_
                                          rotate_left
                                          · intro w'
                                            go_simp
                                            with_reducible rfl
                                          rotate_left
                                          · simp only [Act.put, List.setIfInBounds_toArray, List.set_cons_zero, List.set_cons_succ, i64_w, i32_w]
                                            rfl
                                          refine take_ (i := 4) (N := some 165) (v := ?_) (a' := ?_) #[true, true, true, true, true, true, true, true, true, false, true, true, false, false, false, false] rfl rfl (take_ofW HT_.out HW_.out (by kernel_rfl)) (fun _ _ _ h => h) (Or.inl ⟨by rfl, ?_⟩) hHeld ?_ ?_
                                          rotate_left
                                          · rintro w' ⟨s0, s1, s2, s3⟩
                                            go_simp
                                            with_reducible rfl
                                          rotate_left
                                          · simp only [Act.put, List.setIfInBounds_toArray, List.set_cons_zero, List.set_cons_succ, i64_w, i32_w]
                                            rfl
                                          refine take_ (i := 9) (N := some 170) (v := ?_) (a' := ?_) #[true, true, true, true, true, true, true, true, true, true, true, true, false, false, false, false] rfl rfl (take_ofW HT_.out HW_.out (by kernel_rfl)) (fun _ _ _ h => h) (Or.inl ⟨by rfl, ?_⟩) hHeld ?_ ?_
                                          rotate_left
                                          · rintro w' ⟨s0, s1, s2, s3⟩
                                            go_simp
                                            with_reducible rfl
                                          rotate_left
                                          · simp only [Act.put, List.setIfInBounds_toArray, List.set_cons_zero, List.set_cons_succ, i64_w, i32_w]
                                            rfl
                                          refine one_ (i := 12) (N := some 173) #[true, true, true, true, true, true, true, true, true, true, true, true, true, false, false, false] rfl rfl (one_of HT_.out (by kernel_rfl)) (by decide) (fun K hK => ?_)
                                          refine goes_ Try.func41 (by kernel_rfl) rfl #[.string ((rd_T24 l0 a1).f1), .int .i64 a2, .int .u8 a3] (by rfl) rfl rfl (by (try simp only [List.map_toArray, List.map_cons, List.map_nil]); first | done | rfl | (simp only [List.length_drop, List.length_take]; rfl)) ?_
                                          with_reducible refine (counterfoilref16_Turned.calls ((rd_T24 l0 a1).f1) a2 a3 t431 _ A86.out).mono ?_
                                          rintro e w93 ⟨rfl, hb⟩
                                          refine ⟨_, rfl, ?_⟩
                                          have n0_ := Aside0.mk (Kd.R_below (by (with_reducible repeat (first | apply Kd.R_alloc | apply Kd.R_drewN | apply Kd.R_drew)); exact HO_14.out) hb)
                                          have n1_ := Aside0.mk (Kd.R_below (by (with_reducible repeat (first | apply Kd.R_alloc | apply Kd.R_drewN | apply Kd.R_drew)); exact HO_16.out) hb)
                                          have n2_ := Aside0.mk (blk_below (g := gb400) (o := .cells #[.int .i64 t397, .string t398] 24 (0, 0)) (by (with_reducible repeat (first | refine blk_drewN ?_ _ | refine blk_drew ?_ | refine blk_alloc ?_ _)); exact BK400.out) hb)
                                          have n3_ := Aside0.mk (below_step (by repeat (first | (with_reducible first | exact HB.out | apply below_alloc | apply pw_below_drewN | apply below_drew1 | refine below_set ?_ GE400.out) | exact HB.out)) hb)
                                          clear HO_14
                                          clear HO_16
                                          clear BK400
                                          clear HB
                                          have HO_14 := n0_
                                          have HO_16 := n1_
                                          have BK400 := n2_
                                          have HB := n3_
                                          clear n0_ n1_ n2_ n3_
                                          (try clear hb)
                                          (try clear hb2)
                                          (try clear hk)
                                          (try clear hi)
                                          refine hK.out _ _ ⟨((HB.out.cell (World.block_lt_of_cell? w _ hw429_0)).trans hw429_0), ((HB.out.cell (World.block_lt_of_cell? w _ hw429_1)).trans hw429_1), ((HB.out.cell (World.block_lt_of_cell? w _ hw430_0)).trans hw430_0), ((HB.out.cell (World.block_lt_of_cell? w _ hw430_1)).trans hw430_1)⟩ (fun hHeld => ?_)
                                          clear hK K
                                          refine norm_ (a' := ?_) ?_ ?_
                                          rotate_left
                                          · show Act.put _ (some 173) _ = _
                                            simp only [Act.put, List.setIfInBounds_toArray, List.set_cons_zero, List.set_cons_succ, i64_w, i32_w]
                                            rfl
                                          refine pure_ (i := 13) (N := some 174) (v := ?_) (a' := ?_) #[true, true, true, true, true, true, true, true, true, true, true, true, true, true, false, false] rfl rfl (any_of HT_.out (by kernel_rfl)) (fun _ _ _ h => h) (Or.inl ⟨by rfl, ?_⟩) ?_ ?_
                                          rotate_left
                                          · intro w'
                                            go_simp
                                            with_reducible rfl
                                          rotate_left
                                          · simp only [Act.put, List.setIfInBounds_toArray, List.set_cons_zero, List.set_cons_succ, i64_w, i32_w]
                                            rfl
                                          refine one_ (i := 14) (N := some 175) #[true, true, true, true, true, true, true, true, true, true, true, true, true, true, true, false] rfl rfl (one_of HT_.out (by kernel_rfl)) (by decide) (fun K hK => ?_)
                                          refine Kd.R_lit_step k35 _ 35 ?hg (N := 175) ?hd (xs := ([(⟨(rd_T24 l0 a1).f0, t431⟩ : S35)] : List (S35))) (inner := [.int .i64 ((rd_T24 l0 a1).f0), .string t431]) (ok := fun _ => True) (okp := fun _ => True) ?hr ?hp (fun _ hk => hk) trivial (Below.refl _ _) (Nat.le_refl _) (by simp) ?_; (case hd => rfl); (case hg => rfl); (case hr => first | (go_simp; done) | (go_simp; rfl)); (case hp => exact (Reps.c2 (show Kd.M k35 _ _ _ (⟨(rd_T24 l0 a1).f0, t431⟩ : S35) [.int .i64 ((rd_T24 l0 a1).f0), .string t431] from (k35_mkM _ _ _ (⟨(rd_T24 l0 a1).f0, t431⟩ : S35) )) (Reps.none _ _)))
                                          intro v433 w94 ho95 hb hg_ hnew_
                                          clear hg_ hnew_
                                          (first | rw [← Ny432.out] at ho95 | (simp only [Int.reduceToNat] at ho95; rw [← Ny432.out] at ho95))
                                          have n0_ := Aside0.mk (Kd.R_below (by (with_reducible repeat (first | apply Kd.R_alloc | apply Kd.R_drewN | apply Kd.R_drew)); exact HO_14.out) hb)
                                          have n1_ := Aside0.mk (Kd.R_elder' (by (with_reducible repeat (first | apply Kd.R_alloc | apply Kd.R_drewN | apply Kd.R_drew)); exact HO_16.out) (Kd.R_base ho95) hb)
                                          have n2_ := Aside0.mk (Kd.R_lower (Kd.R_new' ho95 (Kd.R_lt (by (with_reducible repeat (first | apply Kd.R_alloc | apply Kd.R_drewN | apply Kd.R_drew)); exact HO_16.out))) (below_size (by repeat (first | (with_reducible first | exact HB.out | apply below_alloc | apply pw_below_drewN | apply below_drew1 | refine below_set ?_ GE400.out) | exact HB.out))))
                                          have n3_ := Aside0.mk (blk_below (g := gb400) (o := .cells #[.int .i64 t397, .string t398] 24 (0, 0)) (by (with_reducible repeat (first | refine blk_drewN ?_ _ | refine blk_drew ?_ | refine blk_alloc ?_ _)); exact BK400.out) hb)
                                          have n4_ := Aside0.mk (below_step (by repeat (first | (with_reducible first | exact HB.out | apply below_alloc | apply pw_below_drewN | apply below_drew1 | refine below_set ?_ GE400.out) | exact HB.out)) hb)
                                          clear HO_14
                                          clear HO_16
                                          clear BK400
                                          clear HB
                                          have HO_14 := n0_
                                          have HO_16 := n1_
                                          have HO434 := n2_
                                          have BK400 := n3_
                                          have HB := n4_
                                          clear n0_ n1_ n2_ n3_ n4_
                                          clear hb ho95
                                          refine hK.out _ _ ⟨((HB.out.cell (World.block_lt_of_cell? w _ hw429_0)).trans hw429_0), ((HB.out.cell (World.block_lt_of_cell? w _ hw429_1)).trans hw429_1), ((HB.out.cell (World.block_lt_of_cell? w _ hw430_0)).trans hw430_0), ((HB.out.cell (World.block_lt_of_cell? w _ hw430_1)).trans hw430_1)⟩ (fun hHeld => ?_)
                                          clear hK K
                                          refine norm_ (a' := ?_) ?_ ?_
                                          rotate_left
                                          · show Act.put _ (some 175) _ = _
                                            simp only [Act.put, List.setIfInBounds_toArray, List.set_cons_zero, List.set_cons_succ, i64_w, i32_w]
                                            rfl
                                          refine pure_ (i := 15) (N := some 18) (v := ?_) (a' := ?_) #[true, true, true, true, true, true, true, true, true, true, true, true, true, true, true, true] rfl rfl (any_of HT_.out (by kernel_rfl)) (fun _ _ _ h => h) (Or.inl ⟨by rfl, ?_⟩) ?_ ?_
                                          rotate_left
                                          · intro w'
                                            go_simp
                                            with_reducible rfl
                                          rotate_left
                                          · simp only [Act.put, List.setIfInBounds_toArray, List.set_cons_zero, List.set_cons_succ, i64_w, i32_w]
                                            rfl
                                          refine done_ (done_of HT_.out (by kernel_rfl)) ?_
                                          obtain ⟨Ao96, co96, eo96⟩ := Kd.R_slice HO434.out
                                          subst eo96
                                          try go_wp2_with (first | ((with_reducible refine gate_callee (f := 21) rfl ?_); refine goesL_ (some 180) rfl rfl Try.func21 (by kernel_rfl) rfl #[.slice Ao23 t409.length co23, .int .i64 a1, .slice Ao96 y432.length co96] rfl (by (try simp only [List.map_toArray, List.map_cons, List.map_nil]); first | done | rfl | (simp only [List.length_drop, List.length_take]; rfl)) ?_; (with_reducible refine (counterfoilref16_Put.calls kj71 _ _ t409 a1 _ _ y432 t435 _ ?side1 ?side2 ?side3 ?side4 A87.out).mono ?_); (case side1 => repeat (first | exact (Kd.R_reads' HO_16.out).2.2 | (with_reducible refine Kd.C_alloc ?_ _) | (with_reducible refine Kd.C_drewN ?_ _) | (with_reducible refine Kd.C_drew ?_))); (case side2 => exact (Kd.R_reads' HO_16.out).2.1); (case side3 => repeat (first | exact (Kd.R_reads' HO434.out).2.2 | (with_reducible refine Kd.C_alloc ?_ _) | (with_reducible refine Kd.C_drewN ?_ _) | (with_reducible refine Kd.C_drew ?_))); (case side4 => exact (Kd.R_reads' HO434.out).2.1); rintro e w97 ⟨v436, rfl, ho0, hb⟩; refine ⟨_, rfl, ?_⟩; have n0_ := Aside0.mk (Kd.R_below (by (with_reducible repeat (first | apply Kd.R_alloc | apply Kd.R_drewN | apply Kd.R_drew)); exact HO_14.out) hb); have n1_ := Aside0.mk (Kd.R_elder' (by (with_reducible repeat (first | apply Kd.R_alloc | apply Kd.R_drewN | apply Kd.R_drew)); exact HO_16.out) (Kd.R_base ho0) hb); have n2_ := Aside0.mk (Kd.R_elder' (by (with_reducible repeat (first | apply Kd.R_alloc | apply Kd.R_drewN | apply Kd.R_drew)); exact HO434.out) (Kd.R_base ho0) hb); have n3_ := Aside0.mk (Kd.R_lower (Kd.R_new' (Kd.R_new' ho0 (Kd.R_lt (by (with_reducible repeat (first | apply Kd.R_alloc | apply Kd.R_drewN | apply Kd.R_drew)); exact HO_16.out))) (Kd.R_lt (by (with_reducible repeat (first | apply Kd.R_alloc | apply Kd.R_drewN | apply Kd.R_drew)); exact HO434.out))) (below_size (by repeat (first | (with_reducible first | exact HB.out | apply below_alloc | apply pw_below_drewN | apply below_drew1 | refine below_set ?_ GE400.out) | exact HB.out)))); have n4_ := Aside0.mk (blk_below (g := gb400) (o := .cells #[.int .i64 t397, .string t398] 24 (0, 0)) (by (with_reducible repeat (first | refine blk_drewN ?_ _ | refine blk_drew ?_ | refine blk_alloc ?_ _)); exact BK400.out) hb); have n5_ := Aside0.mk (below_step (by repeat (first | (with_reducible first | exact HB.out | apply below_alloc | apply pw_below_drewN | apply below_drew1 | refine below_set ?_ GE400.out) | exact HB.out)) hb); clear HO_14; clear HO_16; clear HO434; clear BK400; clear HB; have HO_14 := n0_; have HO_16 := n1_; have HO434 := n2_; have HO437 := n3_; have BK400 := n4_; have HB := n5_; clear n0_ n1_ n2_ n3_ n4_ n5_; (try clear hb); (try clear hb2); (try clear hk); (try clear hi); (try clear ho0); obtain ⟨Ao98, co98, eo98⟩ := Kd.R_slice HO_14.out; subst eo98; obtain ⟨Ao99, co99, eo99⟩ := Kd.R_slice HO437.out; subst eo99) | ((with_reducible refine gate_callee (f := 20) rfl ?_); refine goesL_ (some 181) rfl rfl Try.func20 (by kernel_rfl) rfl #[.slice Ao98 t405.length co98, .slice Ao99 t435.length co99] rfl (by (try simp only [List.map_toArray, List.map_cons, List.map_nil]); first | done | rfl | (simp only [List.length_drop, List.length_take]; rfl)) ?_; (with_reducible refine (counterfoillaw16_same.calls kj71 _ _ t405 _ _ t435 true _ ?side1 ?side2 ?side3 ?side4 A88.out).mono ?_); (case side1 => repeat (first | exact (Kd.R_reads' HO_14.out).2.2 | (with_reducible refine Kd.C_alloc ?_ _) | (with_reducible refine Kd.C_drewN ?_ _) | (with_reducible refine Kd.C_drew ?_))); (case side2 => exact (Kd.R_reads' HO_14.out).2.1); (case side3 => repeat (first | exact (Kd.R_reads' HO437.out).2.2 | (with_reducible refine Kd.C_alloc ?_ _) | (with_reducible refine Kd.C_drewN ?_ _) | (with_reducible refine Kd.C_drew ?_))); (case side4 => exact (Kd.R_reads' HO437.out).2.1); rintro e w' ⟨rfl, ⟨nd, rfl⟩⟩; refine ⟨_, rfl, ?_⟩) | (go_at_call 15; (with_reducible refine (counterfoillaw16_awake.calls kj71  t439 _ A91.out).mono ?_); rintro e w100 ⟨rfl, hb⟩; have n0_ := Aside0.mk (Kd.R_below (by (with_reducible repeat (first | apply Kd.R_alloc | apply Kd.R_drewN | apply Kd.R_drew)); exact HO_14.out) hb); have n1_ := Aside0.mk (Kd.R_below (by (with_reducible repeat (first | apply Kd.R_alloc | apply Kd.R_drewN | apply Kd.R_drew)); exact HO_16.out) hb); have n2_ := Aside0.mk (Kd.R_below (by (with_reducible repeat (first | apply Kd.R_alloc | apply Kd.R_drewN | apply Kd.R_drew)); exact HO434.out) hb); have n3_ := Aside0.mk (Kd.R_below (by (with_reducible repeat (first | apply Kd.R_alloc | apply Kd.R_drewN | apply Kd.R_drew)); exact HO437.out) hb); have n4_ := Aside0.mk (blk_below (g := gb400) (o := .cells #[.int .i64 t397, .string t398] 24 (0, 0)) (by (with_reducible repeat (first | refine blk_drewN ?_ _ | refine blk_drew ?_ | refine blk_alloc ?_ _)); exact BK400.out) hb); have n5_ := Aside0.mk (below_step (by repeat (first | (with_reducible first | exact HB.out | apply below_alloc | apply pw_below_drewN | apply below_drew1 | refine below_set ?_ GE400.out) | exact HB.out)) hb); clear HO_14; clear HO_16; clear HO434; clear HO437; clear BK400; clear HB; have HO_14 := n0_; have HO_16 := n1_; have HO434 := n2_; have HO437 := n3_; have BK400 := n4_; have HB := n5_; clear n0_ n1_ n2_ n3_ n4_ n5_; (try clear hb); (try clear hb2); (try clear hk); (try clear hi)))
                                          go_ret
                                          exact ⟨by first | rfl | (simp [errW_none, errW_some] <;> rfl) | (simp [*, errW_none, errW_some] <;> rfl), by repeat (first | (with_reducible first | exact HB.out | apply below_alloc | apply pw_below_drewN | apply below_drew1 | refine below_set ?_ GE400.out) | exact HB.out)⟩
                                        · as_aux_lemma =>
                                          rw [if_neg c90] at H
                                          have c90b0 : (t406 == 0) = false := beq_eq_false_iff_ne.mpr c90
                                          have c90b1 : (t406 != 0) = true := bne_iff_ne.mpr c90
                                          obtain rfl := Option.some.inj H
                                          try go_wp2
                                          have n0_ := Aside0.mk (Kd.R_drew HO_14.out)
                                          have n1_ := Aside0.mk (Kd.R_drew HO_16.out)
                                          have n2_ := Aside0.mk (blk_drew BK400.out)
                                          have n3_ := Aside0.mk (below_drew1 HB.out)
                                          clear HO_14
                                          clear HO_16
                                          clear BK400
                                          clear HB
                                          have HO_14 := n0_
                                          have HO_16 := n1_
                                          have BK400 := n2_
                                          have HB := n3_
                                          clear n0_ n1_ n2_ n3_
                                          have p429 : 0 ≤ (a1 : Int) := of_decide_eq_true (by first | (with_reducible assumption) | assumption)
                                          have q429 : a1 < (l0.length : Int) := of_decide_eq_true (by first | (with_reducible assumption) | assumption)
                                          obtain ⟨ad429, e429, hx429_0, hx429_1⟩ := at_T24 HR0.out a1 p429 q429
                                          have hw429_1 := hx429_1
                                          have hw429_0 := hx429_0
                                          cases e429
                                          replace hx429_0 := (HB.out.cell (World.block_lt_of_cell? w _ hx429_0)).trans hx429_0
                                          replace hx429_1 := (HB.out.cell (World.block_lt_of_cell? w _ hx429_1)).trans hx429_1
                                          replace p429 := eq_true p429
                                          replace q429 := eq_true q429
                                          have p430 : 0 ≤ (a1 : Int) := of_decide_eq_true (by first | (with_reducible assumption) | assumption)
                                          have q430 : a1 < (l0.length : Int) := of_decide_eq_true (by first | (with_reducible assumption) | assumption)
                                          obtain ⟨ad430, e430, hx430_0, hx430_1⟩ := at_T24 HR0.out a1 p430 q430
                                          have hw430_1 := hx430_1
                                          have hw430_0 := hx430_0
                                          obtain rfl : ad429 = ad430 := (by injection e430)
                                          replace hx430_0 := (HB.out.cell (World.block_lt_of_cell? w _ hx430_0)).trans hx430_0
                                          replace hx430_1 := (HB.out.cell (World.block_lt_of_cell? w _ hx430_1)).trans hx430_1
                                          replace p430 := eq_true p430
                                          replace q430 := eq_true q430
                                          refine start_ (n := 16) (S := fun w' => w'.cell? (ad429.add ((a1).toNat * 2)) = some (.int .i64 ((rd_T24 l0 a1).f0)) ∧ w'.cell? ⟨(ad429.add ((a1).toNat * 2)).block, (ad429.add ((a1).toNat * 2)).off + 1, none⟩ = some (.string ((rd_T24 l0 a1).f1)) ∧ w'.cell? (ad429.add ((a1).toNat * 2)) = some (.int .i64 ((rd_T24 l0 a1).f0)) ∧ w'.cell? ⟨(ad429.add ((a1).toNat * 2)).block, (ad429.add ((a1).toNat * 2)).off + 1, none⟩ = some (.string ((rd_T24 l0 a1).f1))) (ds := []) #[false, false, false, false, false, false, false, false, false, false, false, false, false, false, false, false] (by kernel_rfl) rfl rfl ⟨((HB.out.cell (World.block_lt_of_cell? w _ hw429_0)).trans hw429_0), ((HB.out.cell (World.block_lt_of_cell? w _ hw429_1)).trans hw429_1), ((HB.out.cell (World.block_lt_of_cell? w _ hw430_0)).trans hw430_0), ((HB.out.cell (World.block_lt_of_cell? w _ hw430_1)).trans hw430_1)⟩ (fun hHeld => ?_); refine with_tabW counterfoillaw16_WiresTakes.tab23 counterfoillaw16_WiresTakes.bits23 (fun HT_ HW_ => ?_)
                                          generalize wc.drew = w101 at HO_14 HO_16 BK400 HB hx429_0 hx429_1 hx430_0 hx430_1 hHeld ⊢
                                          refine pure_ (i := 0) (N := some 161) (v := ?_) (a' := ?_) #[true, false, false, false, false, false, false, false, false, false, false, false, false, false, false, false] rfl rfl (any_of HT_.out (by kernel_rfl)) (fun _ _ _ h => h) (Or.inl ⟨by rfl, ?_⟩) ?_ ?_
                                          rotate_left
                                          · intro w'
                                            go_simp
                                            with_reducible rfl
                                          rotate_left
                                          · simp only [Act.put, List.setIfInBounds_toArray, List.set_cons_zero, List.set_cons_succ, i64_w, i32_w]
                                            rfl
                                          refine pure_ (i := 1) (N := some 162) (v := ?_) (a' := ?_) #[true, true, false, false, false, false, false, false, false, false, false, false, false, false, false, false] rfl rfl (any_of HT_.out (by kernel_rfl)) (fun _ _ _ h => h) (Or.inl ⟨by rfl, ?_⟩) ?_ ?_
                                          rotate_left
                                          · intro w'
                                            go_simp
                                            with_reducible rfl
                                          rotate_left
                                          · simp only [Act.put, List.setIfInBounds_toArray, List.set_cons_zero, List.set_cons_succ, i64_w, i32_w]
                                            rfl
                                          refine pure_ (i := 2) (N := some 163) (v := ?_) (a' := ?_) #[true, true, true, false, false, false, false, false, false, false, false, false, false, false, false, false] rfl rfl (any_of HT_.out (by kernel_rfl)) (fun _ _ _ h => h) (Or.inl ⟨by rfl, ?_⟩) ?_ ?_
                                          rotate_left
                                          · intro w'
                                            go_simp
                                            with_reducible rfl
                                          rotate_left
                                          · simp only [Act.put, List.setIfInBounds_toArray, List.set_cons_zero, List.set_cons_succ, i64_w, i32_w]
                                            rfl
                                          refine pure_ (i := 3) (N := some 164) (v := ?_) (a' := ?_) #[true, true, true, true, false, false, false, false, false, false, false, false, false, false, false, false] rfl rfl (any_of HT_.out (by kernel_rfl)) (fun _ _ _ h => h) (Or.inl ⟨by rfl, ?_⟩) ?_ ?_
                                          rotate_left
                                          · intro w'
                                            go_simp
                                            with_reducible rfl
                                          rotate_left
                                          · simp only [Act.put, List.setIfInBounds_toArray, List.set_cons_zero, List.set_cons_succ, i64_w, i32_w]
                                            rfl
                                          refine pure_ (i := 5) (N := some 166) (v := ?_) (a' := ?_) #[true, true, true, true, false, true, false, false, false, false, false, false, false, false, false, false] rfl rfl (any_of HT_.out (by kernel_rfl)) (fun _ _ _ h => h) (Or.inl ⟨by rfl, ?_⟩) ?_ ?_
                                          rotate_left
                                          · intro w'
                                            go_simp
                                            with_reducible rfl
                                          rotate_left
                                          · simp only [Act.put, List.setIfInBounds_toArray, List.set_cons_zero, List.set_cons_succ, i64_w, i32_w]
                                            rfl
                                          refine pure_ (i := 6) (N := some 167) (v := ?_) (a' := ?_) #[true, true, true, true, false, true, true, false, false, false, false, false, false, false, false, false] rfl rfl (any_of HT_.out (by kernel_rfl)) (fun _ _ _ h => h) (Or.inl ⟨by rfl, ?_⟩) ?_ ?_
                                          rotate_left
                                          · intro w'
                                            go_simp
                                            with_reducible rfl
                                          rotate_left
                                          · simp only [Act.put, List.setIfInBounds_toArray, List.set_cons_zero, List.set_cons_succ, i64_w, i32_w]
                                            rfl
                                          refine pure_ (i := 7) (N := some 168) (v := ?_) (a' := ?_) #[true, true, true, true, false, true, true, true, false, false, false, false, false, false, false, false] rfl rfl (any_of HT_.out (by kernel_rfl)) (fun _ _ _ h => h) (Or.inl ⟨by rfl, ?_⟩) ?_ ?_
                                          rotate_left
                                          · intro w'
                                            go_simp
                                            with_reducible rfl
                                          rotate_left
                                          · simp only [Act.put, List.setIfInBounds_toArray, List.set_cons_zero, List.set_cons_succ, i64_w, i32_w]
                                            rfl
                                          refine pure_ (i := 8) (N := some 169) (v := ?_) (a' := ?_) #[true, true, true, true, false, true, true, true, true, false, false, false, false, false, false, false] rfl rfl (any_of HT_.out (by kernel_rfl)) (fun _ _ _ h => h) (Or.inl ⟨by rfl, ?_⟩) ?_ ?_
                                          rotate_left
                                          · intro w'
                                            go_simp
                                            with_reducible rfl
                                          rotate_left
                                          · simp only [Act.put, List.setIfInBounds_toArray, List.set_cons_zero, List.set_cons_succ, i64_w, i32_w]
                                            rfl
                                          refine pure_ (i := 10) (N := some 171) (v := ?_) (a' := ?_) #[true, true, true, true, false, true, true, true, true, false, true, false, false, false, false, false] rfl rfl (any_of HT_.out (by kernel_rfl)) (fun _ _ _ h => h) (Or.inl ⟨by rfl, ?_⟩) ?_ ?_
                                          rotate_left
                                          · intro w'
                                            go_simp
                                            with_reducible rfl
                                          rotate_left
                                          · simp only [Act.put, List.setIfInBounds_toArray, List.set_cons_zero, List.set_cons_succ, i64_w, i32_w]
                                            rfl
                                          refine pure_ (i := 11) (N := some 172) (v := ?_) (a' := ?_) #[true, true, true, true, false, true, true, true, true, false, true, true, false, false, false, false] rfl rfl (any_of HT_.out (by kernel_rfl)) (fun _ _ _ h => h) (Or.inl ⟨by rfl, ?_⟩) ?_ ?_
                                          rotate_left
                                          · intro w'
                                            go_simp
                                            with_reducible rfl
                                          rotate_left
                                          · simp only [Act.put, List.setIfInBounds_toArray, List.set_cons_zero, List.set_cons_succ, i64_w, i32_w]
                                            rfl
                                          refine take_ (i := 4) (N := some 165) (v := ?_) (a' := ?_) #[true, true, true, true, true, true, true, true, true, false, true, true, false, false, false, false] rfl rfl (take_ofW HT_.out HW_.out (by kernel_rfl)) (fun _ _ _ h => h) (Or.inl ⟨by rfl, ?_⟩) hHeld ?_ ?_
                                          rotate_left
                                          · rintro w' ⟨s0, s1, s2, s3⟩
                                            go_simp
                                            with_reducible rfl
                                          rotate_left
                                          · simp only [Act.put, List.setIfInBounds_toArray, List.set_cons_zero, List.set_cons_succ, i64_w, i32_w]
                                            rfl
                                          refine take_ (i := 9) (N := some 170) (v := ?_) (a' := ?_) #[true, true, true, true, true, true, true, true, true, true, true, true, false, false, false, false] rfl rfl (take_ofW HT_.out HW_.out (by kernel_rfl)) (fun _ _ _ h => h) (Or.inl ⟨by rfl, ?_⟩) hHeld ?_ ?_
                                          rotate_left
                                          · rintro w' ⟨s0, s1, s2, s3⟩
                                            go_simp
                                            with_reducible rfl
                                          rotate_left
                                          · simp only [Act.put, List.setIfInBounds_toArray, List.set_cons_zero, List.set_cons_succ, i64_w, i32_w]
                                            rfl
                                          refine one_ (i := 12) (N := some 173) #[true, true, true, true, true, true, true, true, true, true, true, true, true, false, false, false] rfl rfl (one_of HT_.out (by kernel_rfl)) (by decide) (fun K hK => ?_)
                                          refine goes_ Try.func41 (by kernel_rfl) rfl #[.string ((rd_T24 l0 a1).f1), .int .i64 a2, .int .u8 a3] (by rfl) rfl rfl (by (try simp only [List.map_toArray, List.map_cons, List.map_nil]); first | done | rfl | (simp only [List.length_drop, List.length_take]; rfl)) ?_
                                          with_reducible refine (counterfoilref16_Turned.calls ((rd_T24 l0 a1).f1) a2 a3 t431 _ A86.out).mono ?_
                                          rintro e w102 ⟨rfl, hb⟩
                                          refine ⟨_, rfl, ?_⟩
                                          have n0_ := Aside0.mk (Kd.R_below (by (with_reducible repeat (first | apply Kd.R_alloc | apply Kd.R_drewN | apply Kd.R_drew)); exact HO_14.out) hb)
                                          have n1_ := Aside0.mk (Kd.R_below (by (with_reducible repeat (first | apply Kd.R_alloc | apply Kd.R_drewN | apply Kd.R_drew)); exact HO_16.out) hb)
                                          have n2_ := Aside0.mk (blk_below (g := gb400) (o := .cells #[.int .i64 t397, .string t398] 24 (0, 0)) (by (with_reducible repeat (first | refine blk_drewN ?_ _ | refine blk_drew ?_ | refine blk_alloc ?_ _)); exact BK400.out) hb)
                                          have n3_ := Aside0.mk (below_step (by repeat (first | (with_reducible first | exact HB.out | apply below_alloc | apply pw_below_drewN | apply below_drew1 | refine below_set ?_ GE400.out) | exact HB.out)) hb)
                                          clear HO_14
                                          clear HO_16
                                          clear BK400
                                          clear HB
                                          have HO_14 := n0_
                                          have HO_16 := n1_
                                          have BK400 := n2_
                                          have HB := n3_
                                          clear n0_ n1_ n2_ n3_
                                          (try clear hb)
                                          (try clear hb2)
                                          (try clear hk)
                                          (try clear hi)
                                          refine hK.out _ _ ⟨((HB.out.cell (World.block_lt_of_cell? w _ hw429_0)).trans hw429_0), ((HB.out.cell (World.block_lt_of_cell? w _ hw429_1)).trans hw429_1), ((HB.out.cell (World.block_lt_of_cell? w _ hw430_0)).trans hw430_0), ((HB.out.cell (World.block_lt_of_cell? w _ hw430_1)).trans hw430_1)⟩ (fun hHeld => ?_)
                                          clear hK K
                                          refine norm_ (a' := ?_) ?_ ?_
                                          rotate_left
                                          · show Act.put _ (some 173) _ = _
                                            simp only [Act.put, List.setIfInBounds_toArray, List.set_cons_zero, List.set_cons_succ, i64_w, i32_w]
                                            rfl
                                          refine pure_ (i := 13) (N := some 174) (v := ?_) (a' := ?_) #[true, true, true, true, true, true, true, true, true, true, true, true, true, true, false, false] rfl rfl (any_of HT_.out (by kernel_rfl)) (fun _ _ _ h => h) (Or.inl ⟨by rfl, ?_⟩) ?_ ?_
                                          rotate_left
                                          · intro w'
                                            go_simp
                                            with_reducible rfl
                                          rotate_left
                                          · simp only [Act.put, List.setIfInBounds_toArray, List.set_cons_zero, List.set_cons_succ, i64_w, i32_w]
                                            rfl
                                          refine one_ (i := 14) (N := some 175) #[true, true, true, true, true, true, true, true, true, true, true, true, true, true, true, false] rfl rfl (one_of HT_.out (by kernel_rfl)) (by decide) (fun K hK => ?_)
                                          refine Kd.R_lit_step k35 _ 35 ?hg (N := 175) ?hd (xs := ([(⟨(rd_T24 l0 a1).f0, t431⟩ : S35)] : List (S35))) (inner := [.int .i64 ((rd_T24 l0 a1).f0), .string t431]) (ok := fun _ => True) (okp := fun _ => True) ?hr ?hp (fun _ hk => hk) trivial (Below.refl _ _) (Nat.le_refl _) (by simp) ?_; (case hd => rfl); (case hg => rfl); (case hr => first | (go_simp; done) | (go_simp; rfl)); (case hp => exact (Reps.c2 (show Kd.M k35 _ _ _ (⟨(rd_T24 l0 a1).f0, t431⟩ : S35) [.int .i64 ((rd_T24 l0 a1).f0), .string t431] from (k35_mkM _ _ _ (⟨(rd_T24 l0 a1).f0, t431⟩ : S35) )) (Reps.none _ _)))
                                          intro v433 w103 ho104 hb hg_ hnew_
                                          clear hg_ hnew_
                                          (first | rw [← Ny432.out] at ho104 | (simp only [Int.reduceToNat] at ho104; rw [← Ny432.out] at ho104))
                                          have n0_ := Aside0.mk (Kd.R_below (by (with_reducible repeat (first | apply Kd.R_alloc | apply Kd.R_drewN | apply Kd.R_drew)); exact HO_14.out) hb)
                                          have n1_ := Aside0.mk (Kd.R_elder' (by (with_reducible repeat (first | apply Kd.R_alloc | apply Kd.R_drewN | apply Kd.R_drew)); exact HO_16.out) (Kd.R_base ho104) hb)
                                          have n2_ := Aside0.mk (Kd.R_lower (Kd.R_new' ho104 (Kd.R_lt (by (with_reducible repeat (first | apply Kd.R_alloc | apply Kd.R_drewN | apply Kd.R_drew)); exact HO_16.out))) (below_size (by repeat (first | (with_reducible first | exact HB.out | apply below_alloc | apply pw_below_drewN | apply below_drew1 | refine below_set ?_ GE400.out) | exact HB.out))))
                                          have n3_ := Aside0.mk (blk_below (g := gb400) (o := .cells #[.int .i64 t397, .string t398] 24 (0, 0)) (by (with_reducible repeat (first | refine blk_drewN ?_ _ | refine blk_drew ?_ | refine blk_alloc ?_ _)); exact BK400.out) hb)
                                          have n4_ := Aside0.mk (below_step (by repeat (first | (with_reducible first | exact HB.out | apply below_alloc | apply pw_below_drewN | apply below_drew1 | refine below_set ?_ GE400.out) | exact HB.out)) hb)
                                          clear HO_14
                                          clear HO_16
                                          clear BK400
                                          clear HB
                                          have HO_14 := n0_
                                          have HO_16 := n1_
                                          have HO434 := n2_
                                          have BK400 := n3_
                                          have HB := n4_
                                          clear n0_ n1_ n2_ n3_ n4_
                                          clear hb ho104
                                          refine hK.out _ _ ⟨((HB.out.cell (World.block_lt_of_cell? w _ hw429_0)).trans hw429_0), ((HB.out.cell (World.block_lt_of_cell? w _ hw429_1)).trans hw429_1), ((HB.out.cell (World.block_lt_of_cell? w _ hw430_0)).trans hw430_0), ((HB.out.cell (World.block_lt_of_cell? w _ hw430_1)).trans hw430_1)⟩ (fun hHeld => ?_)
                                          clear hK K
                                          refine norm_ (a' := ?_) ?_ ?_
                                          rotate_left
                                          · show Act.put _ (some 175) _ = _
                                            simp only [Act.put, List.setIfInBounds_toArray, List.set_cons_zero, List.set_cons_succ, i64_w, i32_w]
                                            rfl
                                          refine pure_ (i := 15) (N := some 18) (v := ?_) (a' := ?_) #[true, true, true, true, true, true, true, true, true, true, true, true, true, true, true, true] rfl rfl (any_of HT_.out (by kernel_rfl)) (fun _ _ _ h => h) (Or.inl ⟨by rfl, ?_⟩) ?_ ?_
                                          rotate_left
                                          · intro w'
                                            go_simp
                                            with_reducible rfl
                                          rotate_left
                                          · simp only [Act.put, List.setIfInBounds_toArray, List.set_cons_zero, List.set_cons_succ, i64_w, i32_w]
                                            rfl
                                          refine done_ (done_of HT_.out (by kernel_rfl)) ?_
                                          obtain ⟨Ao105, co105, eo105⟩ := Kd.R_slice HO434.out
                                          subst eo105
                                          try go_wp2_with (first | ((with_reducible refine gate_callee (f := 21) rfl ?_); refine goesL_ (some 180) rfl rfl Try.func21 (by kernel_rfl) rfl #[.slice Ao23 t409.length co23, .int .i64 a1, .slice Ao105 y432.length co105] rfl (by (try simp only [List.map_toArray, List.map_cons, List.map_nil]); first | done | rfl | (simp only [List.length_drop, List.length_take]; rfl)) ?_; (with_reducible refine (counterfoilref16_Put.calls kj71 _ _ t409 a1 _ _ y432 t435 _ ?side1 ?side2 ?side3 ?side4 A87.out).mono ?_); (case side1 => repeat (first | exact (Kd.R_reads' HO_16.out).2.2 | (with_reducible refine Kd.C_alloc ?_ _) | (with_reducible refine Kd.C_drewN ?_ _) | (with_reducible refine Kd.C_drew ?_))); (case side2 => exact (Kd.R_reads' HO_16.out).2.1); (case side3 => repeat (first | exact (Kd.R_reads' HO434.out).2.2 | (with_reducible refine Kd.C_alloc ?_ _) | (with_reducible refine Kd.C_drewN ?_ _) | (with_reducible refine Kd.C_drew ?_))); (case side4 => exact (Kd.R_reads' HO434.out).2.1); rintro e w106 ⟨v436, rfl, ho0, hb⟩; refine ⟨_, rfl, ?_⟩; have n0_ := Aside0.mk (Kd.R_below (by (with_reducible repeat (first | apply Kd.R_alloc | apply Kd.R_drewN | apply Kd.R_drew)); exact HO_14.out) hb); have n1_ := Aside0.mk (Kd.R_elder' (by (with_reducible repeat (first | apply Kd.R_alloc | apply Kd.R_drewN | apply Kd.R_drew)); exact HO_16.out) (Kd.R_base ho0) hb); have n2_ := Aside0.mk (Kd.R_elder' (by (with_reducible repeat (first | apply Kd.R_alloc | apply Kd.R_drewN | apply Kd.R_drew)); exact HO434.out) (Kd.R_base ho0) hb); have n3_ := Aside0.mk (Kd.R_lower (Kd.R_new' (Kd.R_new' ho0 (Kd.R_lt (by (with_reducible repeat (first | apply Kd.R_alloc | apply Kd.R_drewN | apply Kd.R_drew)); exact HO_16.out))) (Kd.R_lt (by (with_reducible repeat (first | apply Kd.R_alloc | apply Kd.R_drewN | apply Kd.R_drew)); exact HO434.out))) (below_size (by repeat (first | (with_reducible first | exact HB.out | apply below_alloc | apply pw_below_drewN | apply below_drew1 | refine below_set ?_ GE400.out) | exact HB.out)))); have n4_ := Aside0.mk (blk_below (g := gb400) (o := .cells #[.int .i64 t397, .string t398] 24 (0, 0)) (by (with_reducible repeat (first | refine blk_drewN ?_ _ | refine blk_drew ?_ | refine blk_alloc ?_ _)); exact BK400.out) hb); have n5_ := Aside0.mk (below_step (by repeat (first | (with_reducible first | exact HB.out | apply below_alloc | apply pw_below_drewN | apply below_drew1 | refine below_set ?_ GE400.out) | exact HB.out)) hb); clear HO_14; clear HO_16; clear HO434; clear BK400; clear HB; have HO_14 := n0_; have HO_16 := n1_; have HO434 := n2_; have HO437 := n3_; have BK400 := n4_; have HB := n5_; clear n0_ n1_ n2_ n3_ n4_ n5_; (try clear hb); (try clear hb2); (try clear hk); (try clear hi); (try clear ho0); obtain ⟨Ao107, co107, eo107⟩ := Kd.R_slice HO_14.out; subst eo107; obtain ⟨Ao108, co108, eo108⟩ := Kd.R_slice HO437.out; subst eo108) | ((with_reducible refine gate_callee (f := 20) rfl ?_); refine goesL_ (some 181) rfl rfl Try.func20 (by kernel_rfl) rfl #[.slice Ao107 t405.length co107, .slice Ao108 t435.length co108] rfl (by (try simp only [List.map_toArray, List.map_cons, List.map_nil]); first | done | rfl | (simp only [List.length_drop, List.length_take]; rfl)) ?_; (with_reducible refine (counterfoillaw16_same.calls kj71 _ _ t405 _ _ t435 true _ ?side1 ?side2 ?side3 ?side4 A88.out).mono ?_); (case side1 => repeat (first | exact (Kd.R_reads' HO_14.out).2.2 | (with_reducible refine Kd.C_alloc ?_ _) | (with_reducible refine Kd.C_drewN ?_ _) | (with_reducible refine Kd.C_drew ?_))); (case side2 => exact (Kd.R_reads' HO_14.out).2.1); (case side3 => repeat (first | exact (Kd.R_reads' HO437.out).2.2 | (with_reducible refine Kd.C_alloc ?_ _) | (with_reducible refine Kd.C_drewN ?_ _) | (with_reducible refine Kd.C_drew ?_))); (case side4 => exact (Kd.R_reads' HO437.out).2.1); rintro e w' ⟨rfl, ⟨nd, rfl⟩⟩; refine ⟨_, rfl, ?_⟩))
                                          go_ret
                                          exact ⟨by first | rfl | (simp [errW_none, errW_some] <;> rfl) | (simp [*, errW_none, errW_some] <;> rfl), by repeat (first | (with_reducible first | exact HB.out | apply below_alloc | apply pw_below_drewN | apply below_drew1 | refine below_set ?_ GE400.out) | exact HB.out)⟩
                                      · replace c89 := Bool.eq_false_iff.mpr c89
                                        subst c89
                                        have H1 : (some false) = some r := by rw [if_neg (show ¬ (false = true) by decide)] at H; exact H
                                        clear H
                                        have H := H1
                                        clear H1
                                        obtain rfl := Option.some.inj H
                                        try go_wp2
                                        have n0_ := Aside0.mk (Kd.R_drew HO_14.out)
                                        have n1_ := Aside0.mk (Kd.R_drew HO_16.out)
                                        have n2_ := Aside0.mk (blk_drew BK400.out)
                                        have n3_ := Aside0.mk (below_drew1 HB.out)
                                        clear HO_14
                                        clear HO_16
                                        clear BK400
                                        clear HB
                                        have HO_14 := n0_
                                        have HO_16 := n1_
                                        have BK400 := n2_
                                        have HB := n3_
                                        clear n0_ n1_ n2_ n3_
                                        have p429 : 0 ≤ (a1 : Int) := of_decide_eq_true (by first | (with_reducible assumption) | assumption)
                                        have q429 : a1 < (l0.length : Int) := of_decide_eq_true (by first | (with_reducible assumption) | assumption)
                                        obtain ⟨ad429, e429, hx429_0, hx429_1⟩ := at_T24 HR0.out a1 p429 q429
                                        have hw429_1 := hx429_1
                                        have hw429_0 := hx429_0
                                        cases e429
                                        replace hx429_0 := (HB.out.cell (World.block_lt_of_cell? w _ hx429_0)).trans hx429_0
                                        replace hx429_1 := (HB.out.cell (World.block_lt_of_cell? w _ hx429_1)).trans hx429_1
                                        replace p429 := eq_true p429
                                        replace q429 := eq_true q429
                                        have p430 : 0 ≤ (a1 : Int) := of_decide_eq_true (by first | (with_reducible assumption) | assumption)
                                        have q430 : a1 < (l0.length : Int) := of_decide_eq_true (by first | (with_reducible assumption) | assumption)
                                        obtain ⟨ad430, e430, hx430_0, hx430_1⟩ := at_T24 HR0.out a1 p430 q430
                                        have hw430_1 := hx430_1
                                        have hw430_0 := hx430_0
                                        obtain rfl : ad429 = ad430 := (by injection e430)
                                        replace hx430_0 := (HB.out.cell (World.block_lt_of_cell? w _ hx430_0)).trans hx430_0
                                        replace hx430_1 := (HB.out.cell (World.block_lt_of_cell? w _ hx430_1)).trans hx430_1
                                        replace p430 := eq_true p430
                                        replace q430 := eq_true q430
                                        refine start_ (n := 16) (S := fun w' => w'.cell? (ad429.add ((a1).toNat * 2)) = some (.int .i64 ((rd_T24 l0 a1).f0)) ∧ w'.cell? ⟨(ad429.add ((a1).toNat * 2)).block, (ad429.add ((a1).toNat * 2)).off + 1, none⟩ = some (.string ((rd_T24 l0 a1).f1)) ∧ w'.cell? (ad429.add ((a1).toNat * 2)) = some (.int .i64 ((rd_T24 l0 a1).f0)) ∧ w'.cell? ⟨(ad429.add ((a1).toNat * 2)).block, (ad429.add ((a1).toNat * 2)).off + 1, none⟩ = some (.string ((rd_T24 l0 a1).f1))) (ds := []) #[false, false, false, false, false, false, false, false, false, false, false, false, false, false, false, false] (by kernel_rfl) rfl rfl ⟨((HB.out.cell (World.block_lt_of_cell? w _ hw429_0)).trans hw429_0), ((HB.out.cell (World.block_lt_of_cell? w _ hw429_1)).trans hw429_1), ((HB.out.cell (World.block_lt_of_cell? w _ hw430_0)).trans hw430_0), ((HB.out.cell (World.block_lt_of_cell? w _ hw430_1)).trans hw430_1)⟩ (fun hHeld => ?_); refine with_tabW counterfoillaw16_WiresTakes.tab23 counterfoillaw16_WiresTakes.bits23 (fun HT_ HW_ => ?_)
                                        generalize wc.drew = w109 at HO_14 HO_16 BK400 HB hx429_0 hx429_1 hx430_0 hx430_1 hHeld ⊢
                                        refine pure_ (i := 0) (N := some 161) (v := ?_) (a' := ?_) #[true, false, false, false, false, false, false, false, false, false, false, false, false, false, false, false] rfl rfl (any_of HT_.out (by kernel_rfl)) (fun _ _ _ h => h) (Or.inl ⟨by rfl, ?_⟩) ?_ ?_
                                        rotate_left
                                        · intro w'
                                          go_simp
                                          with_reducible rfl
                                        rotate_left
                                        · simp only [Act.put, List.setIfInBounds_toArray, List.set_cons_zero, List.set_cons_succ, i64_w, i32_w]
                                          rfl
                                        refine pure_ (i := 1) (N := some 162) (v := ?_) (a' := ?_) #[true, true, false, false, false, false, false, false, false, false, false, false, false, false, false, false] rfl rfl (any_of HT_.out (by kernel_rfl)) (fun _ _ _ h => h) (Or.inl ⟨by rfl, ?_⟩) ?_ ?_
                                        rotate_left
                                        · intro w'
                                          go_simp
                                          with_reducible rfl
                                        rotate_left
                                        · simp only [Act.put, List.setIfInBounds_toArray, List.set_cons_zero, List.set_cons_succ, i64_w, i32_w]
                                          rfl
                                        refine pure_ (i := 2) (N := some 163) (v := ?_) (a' := ?_) #[true, true, true, false, false, false, false, false, false, false, false, false, false, false, false, false] rfl rfl (any_of HT_.out (by kernel_rfl)) (fun _ _ _ h => h) (Or.inl ⟨by rfl, ?_⟩) ?_ ?_
                                        rotate_left
                                        · intro w'
                                          go_simp
                                          with_reducible rfl
                                        rotate_left
                                        · simp only [Act.put, List.setIfInBounds_toArray, List.set_cons_zero, List.set_cons_succ, i64_w, i32_w]
                                          rfl
                                        refine pure_ (i := 3) (N := some 164) (v := ?_) (a' := ?_) #[true, true, true, true, false, false, false, false, false, false, false, false, false, false, false, false] rfl rfl (any_of HT_.out (by kernel_rfl)) (fun _ _ _ h => h) (Or.inl ⟨by rfl, ?_⟩) ?_ ?_
                                        rotate_left
                                        · intro w'
                                          go_simp
                                          with_reducible rfl
                                        rotate_left
                                        · simp only [Act.put, List.setIfInBounds_toArray, List.set_cons_zero, List.set_cons_succ, i64_w, i32_w]
                                          rfl
                                        refine pure_ (i := 5) (N := some 166) (v := ?_) (a' := ?_) #[true, true, true, true, false, true, false, false, false, false, false, false, false, false, false, false] rfl rfl (any_of HT_.out (by kernel_rfl)) (fun _ _ _ h => h) (Or.inl ⟨by rfl, ?_⟩) ?_ ?_
                                        rotate_left
                                        · intro w'
                                          go_simp
                                          with_reducible rfl
                                        rotate_left
                                        · simp only [Act.put, List.setIfInBounds_toArray, List.set_cons_zero, List.set_cons_succ, i64_w, i32_w]
                                          rfl
                                        refine pure_ (i := 6) (N := some 167) (v := ?_) (a' := ?_) #[true, true, true, true, false, true, true, false, false, false, false, false, false, false, false, false] rfl rfl (any_of HT_.out (by kernel_rfl)) (fun _ _ _ h => h) (Or.inl ⟨by rfl, ?_⟩) ?_ ?_
                                        rotate_left
                                        · intro w'
                                          go_simp
                                          with_reducible rfl
                                        rotate_left
                                        · simp only [Act.put, List.setIfInBounds_toArray, List.set_cons_zero, List.set_cons_succ, i64_w, i32_w]
                                          rfl
                                        refine pure_ (i := 7) (N := some 168) (v := ?_) (a' := ?_) #[true, true, true, true, false, true, true, true, false, false, false, false, false, false, false, false] rfl rfl (any_of HT_.out (by kernel_rfl)) (fun _ _ _ h => h) (Or.inl ⟨by rfl, ?_⟩) ?_ ?_
                                        rotate_left
                                        · intro w'
                                          go_simp
                                          with_reducible rfl
                                        rotate_left
                                        · simp only [Act.put, List.setIfInBounds_toArray, List.set_cons_zero, List.set_cons_succ, i64_w, i32_w]
                                          rfl
                                        refine pure_ (i := 8) (N := some 169) (v := ?_) (a' := ?_) #[true, true, true, true, false, true, true, true, true, false, false, false, false, false, false, false] rfl rfl (any_of HT_.out (by kernel_rfl)) (fun _ _ _ h => h) (Or.inl ⟨by rfl, ?_⟩) ?_ ?_
                                        rotate_left
                                        · intro w'
                                          go_simp
                                          with_reducible rfl
                                        rotate_left
                                        · simp only [Act.put, List.setIfInBounds_toArray, List.set_cons_zero, List.set_cons_succ, i64_w, i32_w]
                                          rfl
                                        refine pure_ (i := 10) (N := some 171) (v := ?_) (a' := ?_) #[true, true, true, true, false, true, true, true, true, false, true, false, false, false, false, false] rfl rfl (any_of HT_.out (by kernel_rfl)) (fun _ _ _ h => h) (Or.inl ⟨by rfl, ?_⟩) ?_ ?_
                                        rotate_left
                                        · intro w'
                                          go_simp
                                          with_reducible rfl
                                        rotate_left
                                        · simp only [Act.put, List.setIfInBounds_toArray, List.set_cons_zero, List.set_cons_succ, i64_w, i32_w]
                                          rfl
                                        refine pure_ (i := 11) (N := some 172) (v := ?_) (a' := ?_) #[true, true, true, true, false, true, true, true, true, false, true, true, false, false, false, false] rfl rfl (any_of HT_.out (by kernel_rfl)) (fun _ _ _ h => h) (Or.inl ⟨by rfl, ?_⟩) ?_ ?_
                                        rotate_left
                                        · intro w'
                                          go_simp
                                          with_reducible rfl
                                        rotate_left
                                        · simp only [Act.put, List.setIfInBounds_toArray, List.set_cons_zero, List.set_cons_succ, i64_w, i32_w]
                                          rfl
                                        refine take_ (i := 4) (N := some 165) (v := ?_) (a' := ?_) #[true, true, true, true, true, true, true, true, true, false, true, true, false, false, false, false] rfl rfl (take_ofW HT_.out HW_.out (by kernel_rfl)) (fun _ _ _ h => h) (Or.inl ⟨by rfl, ?_⟩) hHeld ?_ ?_
                                        rotate_left
                                        · rintro w' ⟨s0, s1, s2, s3⟩
                                          go_simp
                                          with_reducible rfl
                                        rotate_left
                                        · simp only [Act.put, List.setIfInBounds_toArray, List.set_cons_zero, List.set_cons_succ, i64_w, i32_w]
                                          rfl
                                        refine take_ (i := 9) (N := some 170) (v := ?_) (a' := ?_) #[true, true, true, true, true, true, true, true, true, true, true, true, false, false, false, false] rfl rfl (take_ofW HT_.out HW_.out (by kernel_rfl)) (fun _ _ _ h => h) (Or.inl ⟨by rfl, ?_⟩) hHeld ?_ ?_
                                        rotate_left
                                        · rintro w' ⟨s0, s1, s2, s3⟩
                                          go_simp
                                          with_reducible rfl
                                        rotate_left
                                        · simp only [Act.put, List.setIfInBounds_toArray, List.set_cons_zero, List.set_cons_succ, i64_w, i32_w]
                                          rfl
                                        refine one_ (i := 12) (N := some 173) #[true, true, true, true, true, true, true, true, true, true, true, true, true, false, false, false] rfl rfl (one_of HT_.out (by kernel_rfl)) (by decide) (fun K hK => ?_)
                                        refine goes_ Try.func41 (by kernel_rfl) rfl #[.string ((rd_T24 l0 a1).f1), .int .i64 a2, .int .u8 a3] (by rfl) rfl rfl (by (try simp only [List.map_toArray, List.map_cons, List.map_nil]); first | done | rfl | (simp only [List.length_drop, List.length_take]; rfl)) ?_
                                        with_reducible refine (counterfoilref16_Turned.calls ((rd_T24 l0 a1).f1) a2 a3 t431 _ A86.out).mono ?_
                                        rintro e w110 ⟨rfl, hb⟩
                                        refine ⟨_, rfl, ?_⟩
                                        have n0_ := Aside0.mk (Kd.R_below (by (with_reducible repeat (first | apply Kd.R_alloc | apply Kd.R_drewN | apply Kd.R_drew)); exact HO_14.out) hb)
                                        have n1_ := Aside0.mk (Kd.R_below (by (with_reducible repeat (first | apply Kd.R_alloc | apply Kd.R_drewN | apply Kd.R_drew)); exact HO_16.out) hb)
                                        have n2_ := Aside0.mk (blk_below (g := gb400) (o := .cells #[.int .i64 t397, .string t398] 24 (0, 0)) (by (with_reducible repeat (first | refine blk_drewN ?_ _ | refine blk_drew ?_ | refine blk_alloc ?_ _)); exact BK400.out) hb)
                                        have n3_ := Aside0.mk (below_step (by repeat (first | (with_reducible first | exact HB.out | apply below_alloc | apply pw_below_drewN | apply below_drew1 | refine below_set ?_ GE400.out) | exact HB.out)) hb)
                                        clear HO_14
                                        clear HO_16
                                        clear BK400
                                        clear HB
                                        have HO_14 := n0_
                                        have HO_16 := n1_
                                        have BK400 := n2_
                                        have HB := n3_
                                        clear n0_ n1_ n2_ n3_
                                        (try clear hb)
                                        (try clear hb2)
                                        (try clear hk)
                                        (try clear hi)
                                        refine hK.out _ _ ⟨((HB.out.cell (World.block_lt_of_cell? w _ hw429_0)).trans hw429_0), ((HB.out.cell (World.block_lt_of_cell? w _ hw429_1)).trans hw429_1), ((HB.out.cell (World.block_lt_of_cell? w _ hw430_0)).trans hw430_0), ((HB.out.cell (World.block_lt_of_cell? w _ hw430_1)).trans hw430_1)⟩ (fun hHeld => ?_)
                                        clear hK K
                                        refine norm_ (a' := ?_) ?_ ?_
                                        rotate_left
                                        · show Act.put _ (some 173) _ = _
                                          simp only [Act.put, List.setIfInBounds_toArray, List.set_cons_zero, List.set_cons_succ, i64_w, i32_w]
                                          rfl
                                        refine pure_ (i := 13) (N := some 174) (v := ?_) (a' := ?_) #[true, true, true, true, true, true, true, true, true, true, true, true, true, true, false, false] rfl rfl (any_of HT_.out (by kernel_rfl)) (fun _ _ _ h => h) (Or.inl ⟨by rfl, ?_⟩) ?_ ?_
                                        rotate_left
                                        · intro w'
                                          go_simp
                                          with_reducible rfl
                                        rotate_left
                                        · simp only [Act.put, List.setIfInBounds_toArray, List.set_cons_zero, List.set_cons_succ, i64_w, i32_w]
                                          rfl
                                        refine one_ (i := 14) (N := some 175) #[true, true, true, true, true, true, true, true, true, true, true, true, true, true, true, false] rfl rfl (one_of HT_.out (by kernel_rfl)) (by decide) (fun K hK => ?_)
                                        refine Kd.R_lit_step k35 _ 35 ?hg (N := 175) ?hd (xs := ([(⟨(rd_T24 l0 a1).f0, t431⟩ : S35)] : List (S35))) (inner := [.int .i64 ((rd_T24 l0 a1).f0), .string t431]) (ok := fun _ => True) (okp := fun _ => True) ?hr ?hp (fun _ hk => hk) trivial (Below.refl _ _) (Nat.le_refl _) (by simp) ?_; (case hd => rfl); (case hg => rfl); (case hr => first | (go_simp; done) | (go_simp; rfl)); (case hp => exact (Reps.c2 (show Kd.M k35 _ _ _ (⟨(rd_T24 l0 a1).f0, t431⟩ : S35) [.int .i64 ((rd_T24 l0 a1).f0), .string t431] from (k35_mkM _ _ _ (⟨(rd_T24 l0 a1).f0, t431⟩ : S35) )) (Reps.none _ _)))
                                        intro v433 w111 ho112 hb hg_ hnew_
                                        clear hg_ hnew_
                                        (first | rw [← Ny432.out] at ho112 | (simp only [Int.reduceToNat] at ho112; rw [← Ny432.out] at ho112))
                                        have n0_ := Aside0.mk (Kd.R_below (by (with_reducible repeat (first | apply Kd.R_alloc | apply Kd.R_drewN | apply Kd.R_drew)); exact HO_14.out) hb)
                                        have n1_ := Aside0.mk (Kd.R_elder' (by (with_reducible repeat (first | apply Kd.R_alloc | apply Kd.R_drewN | apply Kd.R_drew)); exact HO_16.out) (Kd.R_base ho112) hb)
                                        have n2_ := Aside0.mk (Kd.R_lower (Kd.R_new' ho112 (Kd.R_lt (by (with_reducible repeat (first | apply Kd.R_alloc | apply Kd.R_drewN | apply Kd.R_drew)); exact HO_16.out))) (below_size (by repeat (first | (with_reducible first | exact HB.out | apply below_alloc | apply pw_below_drewN | apply below_drew1 | refine below_set ?_ GE400.out) | exact HB.out))))
                                        have n3_ := Aside0.mk (blk_below (g := gb400) (o := .cells #[.int .i64 t397, .string t398] 24 (0, 0)) (by (with_reducible repeat (first | refine blk_drewN ?_ _ | refine blk_drew ?_ | refine blk_alloc ?_ _)); exact BK400.out) hb)
                                        have n4_ := Aside0.mk (below_step (by repeat (first | (with_reducible first | exact HB.out | apply below_alloc | apply pw_below_drewN | apply below_drew1 | refine below_set ?_ GE400.out) | exact HB.out)) hb)
                                        clear HO_14
                                        clear HO_16
                                        clear BK400
                                        clear HB
                                        have HO_14 := n0_
                                        have HO_16 := n1_
                                        have HO434 := n2_
                                        have BK400 := n3_
                                        have HB := n4_
                                        clear n0_ n1_ n2_ n3_ n4_
                                        clear hb ho112
                                        refine hK.out _ _ ⟨((HB.out.cell (World.block_lt_of_cell? w _ hw429_0)).trans hw429_0), ((HB.out.cell (World.block_lt_of_cell? w _ hw429_1)).trans hw429_1), ((HB.out.cell (World.block_lt_of_cell? w _ hw430_0)).trans hw430_0), ((HB.out.cell (World.block_lt_of_cell? w _ hw430_1)).trans hw430_1)⟩ (fun hHeld => ?_)
                                        clear hK K
                                        refine norm_ (a' := ?_) ?_ ?_
                                        rotate_left
                                        · show Act.put _ (some 175) _ = _
                                          simp only [Act.put, List.setIfInBounds_toArray, List.set_cons_zero, List.set_cons_succ, i64_w, i32_w]
                                          rfl
                                        refine pure_ (i := 15) (N := some 18) (v := ?_) (a' := ?_) #[true, true, true, true, true, true, true, true, true, true, true, true, true, true, true, true] rfl rfl (any_of HT_.out (by kernel_rfl)) (fun _ _ _ h => h) (Or.inl ⟨by rfl, ?_⟩) ?_ ?_
                                        rotate_left
                                        · intro w'
                                          go_simp
                                          with_reducible rfl
                                        rotate_left
                                        · simp only [Act.put, List.setIfInBounds_toArray, List.set_cons_zero, List.set_cons_succ, i64_w, i32_w]
                                          rfl
                                        refine done_ (done_of HT_.out (by kernel_rfl)) ?_
                                        obtain ⟨Ao113, co113, eo113⟩ := Kd.R_slice HO434.out
                                        subst eo113
                                        try go_wp2_with (first | ((with_reducible refine gate_callee (f := 21) rfl ?_); refine goesL_ (some 180) rfl rfl Try.func21 (by kernel_rfl) rfl #[.slice Ao23 t409.length co23, .int .i64 a1, .slice Ao113 y432.length co113] rfl (by (try simp only [List.map_toArray, List.map_cons, List.map_nil]); first | done | rfl | (simp only [List.length_drop, List.length_take]; rfl)) ?_; (with_reducible refine (counterfoilref16_Put.calls kj71 _ _ t409 a1 _ _ y432 t435 _ ?side1 ?side2 ?side3 ?side4 A87.out).mono ?_); (case side1 => repeat (first | exact (Kd.R_reads' HO_16.out).2.2 | (with_reducible refine Kd.C_alloc ?_ _) | (with_reducible refine Kd.C_drewN ?_ _) | (with_reducible refine Kd.C_drew ?_))); (case side2 => exact (Kd.R_reads' HO_16.out).2.1); (case side3 => repeat (first | exact (Kd.R_reads' HO434.out).2.2 | (with_reducible refine Kd.C_alloc ?_ _) | (with_reducible refine Kd.C_drewN ?_ _) | (with_reducible refine Kd.C_drew ?_))); (case side4 => exact (Kd.R_reads' HO434.out).2.1); rintro e w114 ⟨v436, rfl, ho0, hb⟩; refine ⟨_, rfl, ?_⟩; have n0_ := Aside0.mk (Kd.R_below (by (with_reducible repeat (first | apply Kd.R_alloc | apply Kd.R_drewN | apply Kd.R_drew)); exact HO_14.out) hb); have n1_ := Aside0.mk (Kd.R_elder' (by (with_reducible repeat (first | apply Kd.R_alloc | apply Kd.R_drewN | apply Kd.R_drew)); exact HO_16.out) (Kd.R_base ho0) hb); have n2_ := Aside0.mk (Kd.R_elder' (by (with_reducible repeat (first | apply Kd.R_alloc | apply Kd.R_drewN | apply Kd.R_drew)); exact HO434.out) (Kd.R_base ho0) hb); have n3_ := Aside0.mk (Kd.R_lower (Kd.R_new' (Kd.R_new' ho0 (Kd.R_lt (by (with_reducible repeat (first | apply Kd.R_alloc | apply Kd.R_drewN | apply Kd.R_drew)); exact HO_16.out))) (Kd.R_lt (by (with_reducible repeat (first | apply Kd.R_alloc | apply Kd.R_drewN | apply Kd.R_drew)); exact HO434.out))) (below_size (by repeat (first | (with_reducible first | exact HB.out | apply below_alloc | apply pw_below_drewN | apply below_drew1 | refine below_set ?_ GE400.out) | exact HB.out)))); have n4_ := Aside0.mk (blk_below (g := gb400) (o := .cells #[.int .i64 t397, .string t398] 24 (0, 0)) (by (with_reducible repeat (first | refine blk_drewN ?_ _ | refine blk_drew ?_ | refine blk_alloc ?_ _)); exact BK400.out) hb); have n5_ := Aside0.mk (below_step (by repeat (first | (with_reducible first | exact HB.out | apply below_alloc | apply pw_below_drewN | apply below_drew1 | refine below_set ?_ GE400.out) | exact HB.out)) hb); clear HO_14; clear HO_16; clear HO434; clear BK400; clear HB; have HO_14 := n0_; have HO_16 := n1_; have HO434 := n2_; have HO437 := n3_; have BK400 := n4_; have HB := n5_; clear n0_ n1_ n2_ n3_ n4_ n5_; (try clear hb); (try clear hb2); (try clear hk); (try clear hi); (try clear ho0); obtain ⟨Ao115, co115, eo115⟩ := Kd.R_slice HO_14.out; subst eo115; obtain ⟨Ao116, co116, eo116⟩ := Kd.R_slice HO437.out; subst eo116) | ((with_reducible refine gate_callee (f := 20) rfl ?_); refine goesL_ (some 181) rfl rfl Try.func20 (by kernel_rfl) rfl #[.slice Ao115 t405.length co115, .slice Ao116 t435.length co116] rfl (by (try simp only [List.map_toArray, List.map_cons, List.map_nil]); first | done | rfl | (simp only [List.length_drop, List.length_take]; rfl)) ?_; (with_reducible refine (counterfoillaw16_same.calls kj71 _ _ t405 _ _ t435 false _ ?side1 ?side2 ?side3 ?side4 A88.out).mono ?_); (case side1 => repeat (first | exact (Kd.R_reads' HO_14.out).2.2 | (with_reducible refine Kd.C_alloc ?_ _) | (with_reducible refine Kd.C_drewN ?_ _) | (with_reducible refine Kd.C_drew ?_))); (case side2 => exact (Kd.R_reads' HO_14.out).2.1); (case side3 => repeat (first | exact (Kd.R_reads' HO437.out).2.2 | (with_reducible refine Kd.C_alloc ?_ _) | (with_reducible refine Kd.C_drewN ?_ _) | (with_reducible refine Kd.C_drew ?_))); (case side4 => exact (Kd.R_reads' HO437.out).2.1); rintro e w' ⟨rfl, ⟨nd, rfl⟩⟩; refine ⟨_, rfl, ?_⟩))
                                        go_ret
                                        exact ⟨by first | rfl | (simp [errW_none, errW_some] <;> rfl) | (simp [*, errW_none, errW_some] <;> rfl), by repeat (first | (with_reducible first | exact HB.out | apply below_alloc | apply pw_below_drewN | apply below_drew1 | refine below_set ?_ GE400.out) | exact HB.out)⟩
                                    · rw [if_neg c85] at H
                                      exact absurd H (by simp)
                                  · rw [if_neg c84] at H
                                    exact absurd H (by simp)
                · as_aux_lemma =>
                  rw [if_neg c25] at H
                  have c25b0 : (x17_21 == 0) = false := beq_eq_false_iff_ne.mpr c25
                  have c25b1 : (x17_21 != 0) = true := bne_iff_ne.mpr c25
                  by_cases c117 : (t394.length : Int) = 0
                  · as_aux_lemma =>
                    rw [if_pos c117] at H
                    have c117b0 : ((t394.length : Int) == 0) = true := beq_iff_eq.mpr c117
                    have c117b1 : ((t394.length : Int) != 0) = false := bne_eq_false_iff_eq.mpr c117
                    clear c117
                    by_cases c118 : (t397 == 0 && (t398.toList == ([] : List UInt8))) = true
                    · as_aux_lemma =>
                      rw [if_pos c118] at H
                      have c118b0 : (t397 == 0 && (t398.toList == ([] : List UInt8))) = true := c118
                      (try (have c118b1 : decide (t397 = 0 && (t398.toList == ([] : List UInt8))) = true := by simpa using c118))
                      (try (have c118b2 : (t397 == 0 && (t398.toList == ([] : List UInt8))) = true := by simpa using c118)); have c118b9 : (t397 = 0 ∧ t398.toList = ([] : List UInt8)) = True := eq_true (by simpa using c118)
                      clear c118
                      by_cases c119 : t399 = x17_21
                      · as_aux_lemma =>
                        rw [if_pos c119] at H
                        have c119b0 : (t399 == x17_21) = true := beq_iff_eq.mpr c119
                        have c119b1 : (t399 != x17_21) = false := bne_eq_false_iff_eq.mpr c119
                        clear c119
                        by_cases c120 : (t401.length : Int) = 0
                        · as_aux_lemma =>
                          rw [if_pos c120] at H
                          have c120b0 : ((t401.length : Int) == 0) = true := beq_iff_eq.mpr c120
                          have c120b1 : ((t401.length : Int) != 0) = false := bne_eq_false_iff_eq.mpr c120
                          clear c120
                          by_cases c121 : t402 = x17_21
                          · as_aux_lemma =>
                            rw [if_pos c121] at H
                            have c121b0 : (t402 == x17_21) = true := beq_iff_eq.mpr c121
                            have c121b1 : (t402 != x17_21) = false := bne_eq_false_iff_eq.mpr c121
                            clear c121
                            by_cases c122 : (t405.length : Int) = 0
                            · as_aux_lemma =>
                              rw [if_pos c122] at H
                              have c122b0 : ((t405.length : Int) == 0) = true := beq_iff_eq.mpr c122
                              have c122b1 : ((t405.length : Int) != 0) = false := bne_eq_false_iff_eq.mpr c122
                              clear c122
                              by_cases c123 : t406 = x17_21
                              · rw [if_pos c123] at H
                                have c123b0 : (t406 == x17_21) = true := beq_iff_eq.mpr c123
                                have c123b1 : (t406 != x17_21) = false := bne_eq_false_iff_eq.mpr c123
                                clear c123
                                replace H := Option.bind_eq_some_iff.mp H
                                obtain ⟨t413, A1240, H⟩ := H
                                replace H : (some t413) = some r := H
                                have A124 := Aside0.mk A1240
                                clear A1240
                                obtain rfl := Option.some.inj H
                                obtain ⟨Ao125, co125, eo125⟩ := Kd.R_slice HO_9.out
                                subst eo125
                                have hcz126_0 : wc.cell? ⟨gb400, 0, none⟩ = some (.int .i64 t397) := (blk_cell BK400.out 0).trans rfl
                                have hcz126_1 : wc.cell? ⟨gb400, 1, none⟩ = some (.string t398) := (blk_cell BK400.out 1).trans rfl
                                have hfz126_0 := blk_frozen BK400.out 0
                                have hfz126_1 := blk_frozen BK400.out 1
                                obtain ⟨Ao127, co127, eo127⟩ := Kd.R_slice HO_12.out
                                subst eo127
                                obtain ⟨Ao128, co128, eo128⟩ := Kd.R_slice HO_14.out
                                subst eo128
                                go_wp2_with (first | (go_at_call 15; (with_reducible refine (counterfoillaw16_awake.calls kj21  t413 _ A124.out).mono ?_); rintro e w129 ⟨rfl, hb⟩; have n0_ := Aside0.mk (Kd.R_below (by (with_reducible repeat (first | apply Kd.R_alloc | apply Kd.R_drewN | apply Kd.R_drew)); exact HO_9.out) hb); have n1_ := Aside0.mk (Kd.R_below (by (with_reducible repeat (first | apply Kd.R_alloc | apply Kd.R_drewN | apply Kd.R_drew)); exact HO_12.out) hb); have n2_ := Aside0.mk (Kd.R_below (by (with_reducible repeat (first | apply Kd.R_alloc | apply Kd.R_drewN | apply Kd.R_drew)); exact HO_14.out) hb); have n3_ := Aside0.mk (Kd.R_below (by (with_reducible repeat (first | apply Kd.R_alloc | apply Kd.R_drewN | apply Kd.R_drew)); exact HO_16.out) hb); have n4_ := Aside0.mk (blk_below (g := gb400) (o := .cells #[.int .i64 t397, .string t398] 24 (0, 0)) (by (with_reducible repeat (first | refine blk_drewN ?_ _ | refine blk_drew ?_ | refine blk_alloc ?_ _)); exact BK400.out) hb); have n5_ := Aside0.mk (below_step (by repeat (first | (with_reducible first | exact HB.out | apply below_alloc | apply pw_below_drewN | apply below_drew1 | refine below_set ?_ GE400.out) | exact HB.out)) hb); clear HO_9; clear HO_12; clear HO_14; clear HO_16; clear BK400; clear HB; have HO_9 := n0_; have HO_12 := n1_; have HO_14 := n2_; have HO_16 := n3_; have BK400 := n4_; have HB := n5_; clear n0_ n1_ n2_ n3_ n4_ n5_; (try clear hb); (try clear hb2); (try clear hk); (try clear hi)))
                                go_ret
                                exact ⟨by first | rfl | (simp [errW_none, errW_some] <;> rfl) | (simp [*, errW_none, errW_some] <;> rfl), by repeat (first | (with_reducible first | exact HB.out | apply below_alloc | apply pw_below_drewN | apply below_drew1 | refine below_set ?_ GE400.out) | exact HB.out)⟩
                              · rw [if_neg c123] at H
                                have c123b0 : (t406 == x17_21) = false := beq_eq_false_iff_ne.mpr c123
                                have c123b1 : (t406 != x17_21) = true := bne_iff_ne.mpr c123
                                obtain rfl := Option.some.inj H
                                obtain ⟨Ao130, co130, eo130⟩ := Kd.R_slice HO_9.out
                                subst eo130
                                have hcz131_0 : wc.cell? ⟨gb400, 0, none⟩ = some (.int .i64 t397) := (blk_cell BK400.out 0).trans rfl
                                have hcz131_1 : wc.cell? ⟨gb400, 1, none⟩ = some (.string t398) := (blk_cell BK400.out 1).trans rfl
                                have hfz131_0 := blk_frozen BK400.out 0
                                have hfz131_1 := blk_frozen BK400.out 1
                                obtain ⟨Ao132, co132, eo132⟩ := Kd.R_slice HO_12.out
                                subst eo132
                                obtain ⟨Ao133, co133, eo133⟩ := Kd.R_slice HO_14.out
                                subst eo133
                                go_wp2
                                go_ret
                                exact ⟨by first | rfl | (simp [errW_none, errW_some] <;> rfl) | (simp [*, errW_none, errW_some] <;> rfl), by repeat (first | (with_reducible first | exact HB.out | apply below_alloc | apply pw_below_drewN | apply below_drew1 | refine below_set ?_ GE400.out) | exact HB.out)⟩
                            · rw [if_neg c122] at H
                              have c122b0 : ((t405.length : Int) == 0) = false := beq_eq_false_iff_ne.mpr c122
                              have c122b1 : ((t405.length : Int) != 0) = true := bne_iff_ne.mpr c122
                              have c122b2 : ¬ (t405 = []) := fun h_ => c122 (by rw [h_]; rfl)
                              obtain rfl := Option.some.inj H
                              obtain ⟨Ao134, co134, eo134⟩ := Kd.R_slice HO_9.out
                              subst eo134
                              have hcz135_0 : wc.cell? ⟨gb400, 0, none⟩ = some (.int .i64 t397) := (blk_cell BK400.out 0).trans rfl
                              have hcz135_1 : wc.cell? ⟨gb400, 1, none⟩ = some (.string t398) := (blk_cell BK400.out 1).trans rfl
                              have hfz135_0 := blk_frozen BK400.out 0
                              have hfz135_1 := blk_frozen BK400.out 1
                              obtain ⟨Ao136, co136, eo136⟩ := Kd.R_slice HO_12.out
                              subst eo136
                              obtain ⟨Ao137, co137, eo137⟩ := Kd.R_slice HO_14.out
                              subst eo137
                              go_wp2
                              go_ret
                              exact ⟨by first | rfl | (simp [errW_none, errW_some] <;> rfl) | (simp [*, errW_none, errW_some] <;> rfl), by repeat (first | (with_reducible first | exact HB.out | apply below_alloc | apply pw_below_drewN | apply below_drew1 | refine below_set ?_ GE400.out) | exact HB.out)⟩
                          · rw [if_neg c121] at H
                            have c121b0 : (t402 == x17_21) = false := beq_eq_false_iff_ne.mpr c121
                            have c121b1 : (t402 != x17_21) = true := bne_iff_ne.mpr c121
                            obtain rfl := Option.some.inj H
                            obtain ⟨Ao138, co138, eo138⟩ := Kd.R_slice HO_9.out
                            subst eo138
                            have hcz139_0 : wc.cell? ⟨gb400, 0, none⟩ = some (.int .i64 t397) := (blk_cell BK400.out 0).trans rfl
                            have hcz139_1 : wc.cell? ⟨gb400, 1, none⟩ = some (.string t398) := (blk_cell BK400.out 1).trans rfl
                            have hfz139_0 := blk_frozen BK400.out 0
                            have hfz139_1 := blk_frozen BK400.out 1
                            obtain ⟨Ao140, co140, eo140⟩ := Kd.R_slice HO_12.out
                            subst eo140
                            go_wp2
                            go_ret
                            exact ⟨by first | rfl | (simp [errW_none, errW_some] <;> rfl) | (simp [*, errW_none, errW_some] <;> rfl), by repeat (first | (with_reducible first | exact HB.out | apply below_alloc | apply pw_below_drewN | apply below_drew1 | refine below_set ?_ GE400.out) | exact HB.out)⟩
                        · rw [if_neg c120] at H
                          have c120b0 : ((t401.length : Int) == 0) = false := beq_eq_false_iff_ne.mpr c120
                          have c120b1 : ((t401.length : Int) != 0) = true := bne_iff_ne.mpr c120
                          have c120b2 : ¬ (t401 = []) := fun h_ => c120 (by rw [h_]; rfl)
                          obtain rfl := Option.some.inj H
                          obtain ⟨Ao141, co141, eo141⟩ := Kd.R_slice HO_9.out
                          subst eo141
                          have hcz142_0 : wc.cell? ⟨gb400, 0, none⟩ = some (.int .i64 t397) := (blk_cell BK400.out 0).trans rfl
                          have hcz142_1 : wc.cell? ⟨gb400, 1, none⟩ = some (.string t398) := (blk_cell BK400.out 1).trans rfl
                          have hfz142_0 := blk_frozen BK400.out 0
                          have hfz142_1 := blk_frozen BK400.out 1
                          obtain ⟨Ao143, co143, eo143⟩ := Kd.R_slice HO_12.out
                          subst eo143
                          go_wp2
                          go_ret
                          exact ⟨by first | rfl | (simp [errW_none, errW_some] <;> rfl) | (simp [*, errW_none, errW_some] <;> rfl), by repeat (first | (with_reducible first | exact HB.out | apply below_alloc | apply pw_below_drewN | apply below_drew1 | refine below_set ?_ GE400.out) | exact HB.out)⟩
                      · rw [if_neg c119] at H
                        have c119b0 : (t399 == x17_21) = false := beq_eq_false_iff_ne.mpr c119
                        have c119b1 : (t399 != x17_21) = true := bne_iff_ne.mpr c119
                        obtain rfl := Option.some.inj H
                        obtain ⟨Ao144, co144, eo144⟩ := Kd.R_slice HO_9.out
                        subst eo144
                        have hcz145_0 : wc.cell? ⟨gb400, 0, none⟩ = some (.int .i64 t397) := (blk_cell BK400.out 0).trans rfl
                        have hcz145_1 : wc.cell? ⟨gb400, 1, none⟩ = some (.string t398) := (blk_cell BK400.out 1).trans rfl
                        have hfz145_0 := blk_frozen BK400.out 0
                        have hfz145_1 := blk_frozen BK400.out 1
                        go_wp2
                        go_ret
                        exact ⟨by first | rfl | (simp [errW_none, errW_some] <;> rfl) | (simp [*, errW_none, errW_some] <;> rfl), by repeat (first | (with_reducible first | exact HB.out | apply below_alloc | apply pw_below_drewN | apply below_drew1 | refine below_set ?_ GE400.out) | exact HB.out)⟩
                    · rw [if_neg c118] at H
                      have c118b0 : (t397 == 0 && (t398.toList == ([] : List UInt8))) = false := by simpa using c118
                      (try (have c118b1 : decide (t397 = 0 && (t398.toList == ([] : List UInt8))) = false := by simpa using c118))
                      (try (have c118b2 : (t397 == 0 && (t398.toList == ([] : List UInt8))) = false := by simpa using c118)); have c118b9 : (t397 = 0 ∧ t398.toList = ([] : List UInt8)) = False := eq_false (by simpa using c118)
                      (try (have c118b3 : ¬ (t397 = 0 && (t398.toList == ([] : List UInt8))) := by simpa using c118))
                      clear c118
                      obtain rfl := Option.some.inj H
                      obtain ⟨Ao146, co146, eo146⟩ := Kd.R_slice HO_9.out
                      subst eo146
                      have hcz147_0 : wc.cell? ⟨gb400, 0, none⟩ = some (.int .i64 t397) := (blk_cell BK400.out 0).trans rfl
                      have hcz147_1 : wc.cell? ⟨gb400, 1, none⟩ = some (.string t398) := (blk_cell BK400.out 1).trans rfl
                      have hfz147_0 := blk_frozen BK400.out 0
                      have hfz147_1 := blk_frozen BK400.out 1
                      go_wp2
                      go_ret
                      exact ⟨by first | rfl | (simp [errW_none, errW_some] <;> rfl) | (simp [*, errW_none, errW_some] <;> rfl), by repeat (first | (with_reducible first | exact HB.out | apply below_alloc | apply pw_below_drewN | apply below_drew1 | refine below_set ?_ GE400.out) | exact HB.out)⟩
                  · rw [if_neg c117] at H
                    have c117b0 : ((t394.length : Int) == 0) = false := beq_eq_false_iff_ne.mpr c117
                    have c117b1 : ((t394.length : Int) != 0) = true := bne_iff_ne.mpr c117
                    have c117b2 : ¬ (t394 = []) := fun h_ => c117 (by rw [h_]; rfl)
                    obtain rfl := Option.some.inj H
                    obtain ⟨Ao148, co148, eo148⟩ := Kd.R_slice HO_9.out
                    subst eo148
                    go_wp2
                    go_ret
                    exact ⟨by first | rfl | (simp [errW_none, errW_some] <;> rfl) | (simp [*, errW_none, errW_some] <;> rfl), by repeat (first | (with_reducible first | exact HB.out | apply below_alloc | apply pw_below_drewN | apply below_drew1 | refine below_set ?_ GE400.out) | exact HB.out)⟩
  · replace c6 := Bool.eq_false_iff.mpr c6
    subst c6
    have H1 : ((counterfoillaw16_awake.f k).bind fun t393 => (some t393)) = some r := by rw [if_neg (show ¬ (false = true) by decide)] at H; exact H
    clear H
    have H := H1
    clear H1
    replace H := Option.bind_eq_some_iff.mp H
    obtain ⟨t393, A1490, H⟩ := H
    replace H : (some t393) = some r := H
    have A149 := Aside0.mk A1490
    clear A1490
    obtain rfl := Option.some.inj H
    go_enter Try.func13, Try.ntmps13
    go_wp2_with (first | ((with_reducible refine gate_callee (f := 14) rfl ?_); refine goesL_ (some 20) rfl rfl Try.func14 (by kernel_rfl) rfl #[.slice A0 l0.length c0] rfl (by (try simp only [List.map_toArray, List.map_cons, List.map_nil]); first | done | rfl | (simp only [List.length_drop, List.length_take]; rfl)) ?_; (with_reducible refine (counterfoillaw16_few.calls k _ _ l0 false _ ?side1 ?side2 A5.out).mono ?_); (case side1 => repeat (first | exact HR0.out | (with_reducible refine Kd.C_alloc ?_ _) | (with_reducible refine Kd.C_drewN ?_ _) | (with_reducible refine Kd.C_drew ?_))); (case side2 => exact HC0.out); rintro e w' ⟨rfl, ⟨nd, rfl⟩⟩; refine ⟨_, rfl, ?_⟩) | ((with_reducible refine gate_callee (f := 15) rfl ?_); refine goesL_ (some 22) rfl rfl Try.func15 (by kernel_rfl) rfl #[] rfl (by (try simp only [List.map_toArray, List.map_cons, List.map_nil]); first | done | rfl | (simp only [List.length_drop, List.length_take]; rfl)) ?_; (with_reducible refine (counterfoillaw16_awake.calls k  t393 _ A149.out).mono ?_); rintro e w150 ⟨rfl, hb⟩; refine ⟨_, rfl, ?_⟩; have n0_ := Aside0.mk (below_step (by repeat (first | (with_reducible first | exact HB.out | apply below_alloc | apply pw_below_drewN | apply below_drew1) | exact HB.out)) hb); clear HB; have HB := n0_; clear n0_; (try clear hb); (try clear hb2); (try clear hk); (try clear hi)))
    go_ret
    exact ⟨by first | rfl | (simp [errW_none, errW_some] <;> rfl) | (simp [*, errW_none, errW_some] <;> rfl), by repeat (first | (with_reducible first | exact HB.out | apply below_alloc | apply pw_below_drewN | apply below_drew1) | exact HB.out)⟩

/-- THE ONE PURE STATEMENT of counterfoillaw16_WiresTakes. -/
def counterfoillaw16_WiresTakes.Pure : Prop := ∀ (l0 : List (S24)) (a1 : Int) (a2 : Int) (a3 : Int), (l0.length * 24 ≤ 140737488351232 ∧ l0.length ≤ maxLen ∧ ∀ x ∈ l0, good24 x) → (Lit.int .i64 a1).wf = true → (Lit.int .i64 a2).wf = true → (Lit.int .u8 a3).wf = true → ∃ k, counterfoillaw16_WiresTakes.f k l0 a1 a2 a3 = some true

end Go.Proofs.Ytlkfmmjoiadoiaa.P
