-- MADE BY wip/kit/myprint.py for this seat
import Derived.Test.YtlkfmmjoiadoiaaPx0
import Derived.Test.YtlkfmmjoiadoiaaPx15
import Derived.Test.YtlkfmmjoiadoiaaPx25
import Derived.Test.YtlkfmmjoiadoiaaPx27
import Derived.Test.YtlkfmmjoiadoiaaPx3
import Derived.Test.YtlkfmmjoiadoiaaPx6
import Derived.Test.YtlkfmmjoiadoiaaPx8
import Derived.Test.YtlkfmmjoiadoiaaEEpoch
import Derived.Test.YtlkfmmjoiadoiaaEWrap
import Derived.Test.YtlkfmmjoiadoiaaGood
namespace Go.Proofs.Ytlkfmmjoiadoiaa.P
open Go.RowKit Go.Proofs.YtlkfmmjoiadoiaaW.PrintWords Go.Proofs.YtlkfmmjoiadoiaaW.PrintLast Go.Proofs.YtlkfmmjoiadoiaaW.PrintMore
attribute [local go_sem] max2_int min2_int max_two min_two max_three min_three max_four min_four   -- for this text's walks alone
set_option linter.unusedVariables false
set_option linter.unusedSimpArgs false

/-! ### counterfoillaw11_LineGoes: function 12 -/
def counterfoillaw11_LineGoes.j0 : Nat → Int → Int → Bool → List (S61) → Int → Option (Bool)
 | 0, _, _, _, _, _ => none
 | k + 1, x1, x2, x31, x266000, x266001 => if x31 = true then ((counterfoillaw11_awake.f k).bind fun t267 => (some t267)) else ((line_Grow.f k x266000 x1 x266001).bind fun bt268 => (if bt268.2 = 0 then ((line_Placed.f k bt268.1 (wrap64 (x266001 + x2))).bind fun t274 => (if t274 = true then ((line_Ahead.f k x266000 x266001 bt268.1 (wrap64 (x266001 + x2))).bind fun t275 => (if t275 = true then ((line_Common.f k x266000 x266001 bt268.1 (wrap64 (x266001 + x2))).bind fun t276 => (if t276 = x266001 then (if x2 = 0 then ((line_Last.f k bt268.1).bind fun t277 => (if t277 = x1 then ((counterfoillaw11_awake.f k).bind fun t278 => (some t278)) else (some false))) else ((line_Epoch.f k bt268.1 (wrap64 (x266001 + x2)) (wrap64 (x266001 + x2))).bind fun t279 => (if t279 = x1 then ((line_Last.f k bt268.1).bind fun t280 => (if t280 = x1 then ((counterfoillaw11_awake.f k).bind fun t281 => (some t281)) else (some false))) else (some false)))) else (some false))) else (some false))) else (some false))) else (if (bt268.1.length : Int) = 0 then ((counterfoillaw11_awake.f k).bind fun t272 => (some t272)) else (some false))))
def counterfoillaw11_LineGoes.f (k : Nat) (l0_0 : List (S61)) (a0_1 : Int) (a1 : Int) (a2 : Int) : Option (Bool) := if (l0_0.length : Int) > 100 then (counterfoillaw11_LineGoes.j0 k a1 a2 true l0_0 a0_1) else ((line_Placed.f k l0_0 a0_1).bind fun t266 => (if t266 = true then (if a2 < 0 then (counterfoillaw11_LineGoes.j0 k a1 a2 true l0_0 a0_1) else (if a2 > 1048576 then (counterfoillaw11_LineGoes.j0 k a1 a2 true l0_0 a0_1) else (counterfoillaw11_LineGoes.j0 k a1 a2 (decide (a0_1 > 549755813888)) l0_0 a0_1))) else (counterfoillaw11_LineGoes.j0 k a1 a2 true l0_0 a0_1)))
theorem counterfoillaw11_LineGoes.mono_l : ∀ k, (∀ y0 y1 y2 y3 y4, LeO (counterfoillaw11_LineGoes.j0 k y0 y1 y2 y3 y4) (counterfoillaw11_LineGoes.j0 (k + 1) y0 y1 y2 y3 y4))
 | 0 => fun _ _ _ _ _ r h => by simp [counterfoillaw11_LineGoes.j0] at h
 | k + 1 => by
  have ih0 := counterfoillaw11_LineGoes.mono_l k
  ·intro y0 y1 y2 y3 y4
   unfold counterfoillaw11_LineGoes.j0
   repeat' first
   | (with_reducible exact ih0 _ _ _ _ _)
   | (with_reducible exact counterfoillaw11_awake.mono _)
   | (with_reducible exact line_Ahead.mono _ _ _ _ _)
   | (with_reducible exact line_Common.mono _ _ _ _ _)
   | (with_reducible exact line_Epoch.mono _ _ _ _)
   | (with_reducible exact line_Grow.mono _ _ _ _)
   | (with_reducible exact line_Last.mono _ _)
   | (with_reducible exact line_Placed.mono _ _ _)
   | (with_reducible exact LeO.refl _)
   | (with_reducible exact LeO.none _)
   | (with_reducible refine LeO.ite ?_ ?_)
   | (with_reducible refine LeO.bind ?_ (fun _ => ?_))
   | exact ih0 _ _ _ _ _
   | exact counterfoillaw11_awake.mono _
   | exact line_Ahead.mono _ _ _ _ _
   | exact line_Common.mono _ _ _ _ _
   | exact line_Epoch.mono _ _ _ _
   | exact line_Grow.mono _ _ _ _
   | exact line_Last.mono _ _
   | exact line_Placed.mono _ _ _
   | exact LeO.none _
   | refine LeO.ite ?_ ?_
   | refine LeO.bind ?_ (fun _ => ?_)
theorem counterfoillaw11_LineGoes.mono : ∀ a0 a1 a2 a3 k, LeO (counterfoillaw11_LineGoes.f k a0 a1 a2 a3) (counterfoillaw11_LineGoes.f (k + 1) a0 a1 a2 a3) := by
 intro a0 a1 a2 a3 k
 have ih0 := counterfoillaw11_LineGoes.mono_l k
 unfold counterfoillaw11_LineGoes.f
 repeat' first
   | (with_reducible exact ih0 _ _ _ _ _)
   | (with_reducible exact counterfoillaw11_awake.mono _)
   | (with_reducible exact line_Ahead.mono _ _ _ _ _)
   | (with_reducible exact line_Common.mono _ _ _ _ _)
   | (with_reducible exact line_Epoch.mono _ _ _ _)
   | (with_reducible exact line_Grow.mono _ _ _ _)
   | (with_reducible exact line_Last.mono _ _)
   | (with_reducible exact line_Placed.mono _ _ _)
   | (with_reducible exact LeO.refl _)
   | (with_reducible exact LeO.none _)
   | (with_reducible refine LeO.ite ?_ ?_)
   | (with_reducible refine LeO.bind ?_ (fun _ => ?_))
   | exact ih0 _ _ _ _ _
   | exact counterfoillaw11_awake.mono _
   | exact line_Ahead.mono _ _ _ _ _
   | exact line_Common.mono _ _ _ _ _
   | exact line_Epoch.mono _ _ _ _
   | exact line_Grow.mono _ _ _ _
   | exact line_Last.mono _ _
   | exact line_Placed.mono _ _ _
   | exact LeO.none _
   | refine LeO.ite ?_ ?_
   | refine LeO.bind ?_ (fun _ => ?_)
def counterfoillaw11_LineGoes.T7 : Bool × List (List Nat × List Nat) := (true, [([], []), ([0], [0]), ([1, 1], [1]), ([2], [2]), ([2], [2]), ([3, 4, 2, 2], [2, 3, 4]), ([2, 5], [2, 5]), ([6, 5], [6]), ([7], [7]), ([7], [7]), ([8, 9, 7, 7], [7, 8, 9]), ([7], [7]), ([11, 7], [7, 11]), ([10, 12, 7], [7, 10, 12]), ([7, 13], [7, 13]), ([14, 10], [14]), ([15], [15]), ([16, 15], [15, 16]), ([17, 15, 15], [15, 17]), ([18], [18]), ([18], [18]), ([20, 18], [18, 20]), ([18], [18]), ([21, 22, 18], [18, 21, 22]), ([19, 23, 18, 18], [18, 19, 23]), ([18], [18]), ([24, 25, 18], [18, 24, 25]), ([18, 26, 15], [15, 18, 26]), ([15, 27], [15, 27]), ([28, 24], [28]), ([29], [29]), ([30, 29, 29], [29, 30]), ([29], [29]), ([31, 32, 29], [29, 31, 32]), ([29, 33], [29, 33]), ([34, 31], [34]), ([35, 35], [35]), ([35, 36], [35, 36]), ([37, 36, 0, 1, 2, 3, 4, 5, 6, 7, 8, 9, 10, 11, 12, 13, 14, 15, 16, 17, 18, 19, 20, 21, 22, 23, 24, 25, 26, 27, 28, 29, 30, 31, 32, 33, 34, 35, 36, 37], [37])])
def counterfoillaw11_LineGoes.B7 : List Nat := [0, 1, 3, 7, 7, 31, 63, 127, 255, 255, 1023, 255, 2303, 8191, 16383, 32767, 65535, 131071, 262143, 524287, 524287, 1572863, 524287, 7864319, 16777215, 524287, 67108863, 134217727, 268435455, 536870911, 1073741823, 2147483647, 1073741823, 8589934591, 17179869183, 34359738367, 68719476735, 137438953471, 274877906943]
theorem counterfoillaw11_LineGoes.tab7 : rtab .any (opsOf Try.f12 7) = counterfoillaw11_LineGoes.T7 := by kernel_rfl
theorem counterfoillaw11_LineGoes.bits7 : waitsOk counterfoillaw11_LineGoes.T7.2 counterfoillaw11_LineGoes.B7 = true := by kernel_rfl
theorem A0_ {p : Prop} (h : p) : Aside0 p := ⟨h⟩
theorem z1_ {α : Type} (l : List α) (i : Nat) (a : α) : l.toArray.setIfInBounds i a = (l.set i a).toArray := List.setIfInBounds_toArray l i a
theorem z2_ {α : Type} {x : α} {xs : List α} {a : α} : (x :: xs).set 0 a = a :: xs := List.set_cons_zero
theorem z3_ {α : Type} {x : α} {xs : List α} {n : Nat} {a : α} : (x :: xs).set (n + 1) a = x :: xs.set n a := List.set_cons_succ
abbrev mk0_ : Array Bool := #[false, false, false, false, false, false, false, false, false, false, false, false, false, false, false, false, false, false, false, false, false, false, false, false, false, false, false, false, false, false, false, false, false, false, false, false, false, false, false]
abbrev mk1_ : Array Bool := #[true, false, false, false, false, false, false, false, false, false, false, false, false, false, false, false, false, false, false, false, false, false, false, false, false, false, false, false, false, false, false, false, false, false, false, false, false, false, false]
abbrev mk2_ : Array Bool := #[true, true, false, false, false, false, false, false, false, false, false, false, false, false, false, false, false, false, false, false, false, false, false, false, false, false, false, false, false, false, false, false, false, false, false, false, false, false, false]
abbrev mk3_ : Array Bool := #[true, true, true, false, false, false, false, false, false, false, false, false, false, false, false, false, false, false, false, false, false, false, false, false, false, false, false, false, false, false, false, false, false, false, false, false, false, false, false]
abbrev mk4_ : Array Bool := #[true, true, true, true, false, false, false, false, false, false, false, false, false, false, false, false, false, false, false, false, false, false, false, false, false, false, false, false, false, false, false, false, false, false, false, false, false, false, false]
abbrev mk5_ : Array Bool := #[true, true, true, true, true, false, false, false, false, false, false, false, false, false, false, false, false, false, false, false, false, false, false, false, false, false, false, false, false, false, false, false, false, false, false, false, false, false, false]
abbrev mk6_ : Array Bool := #[true, true, true, true, true, true, false, false, false, false, false, false, false, false, false, false, false, false, false, false, false, false, false, false, false, false, false, false, false, false, false, false, false, false, false, false, false, false, false]
abbrev mk7_ : Array Bool := #[true, true, true, true, true, true, true, false, false, false, false, false, false, false, false, false, false, false, false, false, false, false, false, false, false, false, false, false, false, false, false, false, false, false, false, false, false, false, false]
abbrev mk8_ : Array Bool := #[true, true, true, true, true, true, true, true, false, false, false, false, false, false, false, false, false, false, false, false, false, false, false, false, false, false, false, false, false, false, false, false, false, false, false, false, false, false, false]
abbrev mk9_ : Array Bool := #[true, true, true, true, true, true, true, true, false, false, false, true, false, false, false, false, false, false, false, false, false, false, false, false, false, false, false, false, false, false, false, false, false, false, false, false, false, false, false]
abbrev mk10_ : Array Bool := #[true, true, true, true, true, true, true, true, true, false, false, true, false, false, false, false, false, false, false, false, false, false, false, false, false, false, false, false, false, false, false, false, false, false, false, false, false, false, false]
abbrev mk11_ : Array Bool := #[true, true, true, true, true, true, true, true, true, true, false, true, false, false, false, false, false, false, false, false, false, false, false, false, false, false, false, false, false, false, false, false, false, false, false, false, false, false, false]
abbrev mk12_ : Array Bool := #[true, true, true, true, true, true, true, true, true, true, false, true, true, false, false, false, false, false, false, false, false, false, false, false, false, false, false, false, false, false, false, false, false, false, false, false, false, false, false]
abbrev mk13_ : Array Bool := #[true, true, true, true, true, true, true, true, true, true, true, true, true, false, false, false, false, false, false, false, false, false, false, false, false, false, false, false, false, false, false, false, false, false, false, false, false, false, false]
abbrev mk14_ : Array Bool := #[true, true, true, true, true, true, true, true, true, true, true, true, true, true, false, false, false, false, false, false, false, false, false, false, false, false, false, false, false, false, false, false, false, false, false, false, false, false, false]
abbrev mk15_ : Array Bool := #[true, true, true, true, true, true, true, true, true, true, true, true, true, true, true, false, false, false, false, false, false, false, false, false, false, false, false, false, false, false, false, false, false, false, false, false, false, false, false]
abbrev mk16_ : Array Bool := #[true, true, true, true, true, true, true, true, true, true, true, true, true, true, true, true, false, false, false, false, false, false, false, false, false, false, false, false, false, false, false, false, false, false, false, false, false, false, false]
abbrev mk17_ : Array Bool := #[true, true, true, true, true, true, true, true, true, true, true, true, true, true, true, true, true, false, false, false, false, false, false, false, false, false, false, false, false, false, false, false, false, false, false, false, false, false, false]
abbrev mk18_ : Array Bool := #[true, true, true, true, true, true, true, true, true, true, true, true, true, true, true, true, true, true, false, false, false, false, false, false, false, false, false, false, false, false, false, false, false, false, false, false, false, false, false]
abbrev mk19_ : Array Bool := #[true, true, true, true, true, true, true, true, true, true, true, true, true, true, true, true, true, true, true, false, false, false, false, false, false, false, false, false, false, false, false, false, false, false, false, false, false, false, false]
abbrev mk20_ : Array Bool := #[true, true, true, true, true, true, true, true, true, true, true, true, true, true, true, true, true, true, true, true, false, false, false, false, false, false, false, false, false, false, false, false, false, false, false, false, false, false, false]
abbrev mk21_ : Array Bool := #[true, true, true, true, true, true, true, true, true, true, true, true, true, true, true, true, true, true, true, true, true, false, false, false, false, false, false, false, false, false, false, false, false, false, false, false, false, false, false]
abbrev mk22_ : Array Bool := #[true, true, true, true, true, true, true, true, true, true, true, true, true, true, true, true, true, true, true, true, true, true, false, false, false, false, false, false, false, false, false, false, false, false, false, false, false, false, false]
abbrev mk23_ : Array Bool := #[true, true, true, true, true, true, true, true, true, true, true, true, true, true, true, true, true, true, true, true, true, true, true, false, false, false, false, false, false, false, false, false, false, false, false, false, false, false, false]
abbrev mk24_ : Array Bool := #[true, true, true, true, true, true, true, true, true, true, true, true, true, true, true, true, true, true, true, true, true, true, true, true, false, false, false, false, false, false, false, false, false, false, false, false, false, false, false]
abbrev mk25_ : Array Bool := #[true, true, true, true, true, true, true, true, true, true, true, true, true, true, true, true, true, true, true, true, true, true, true, true, true, false, false, false, false, false, false, false, false, false, false, false, false, false, false]
abbrev mk26_ : Array Bool := #[true, true, true, true, true, true, true, true, true, true, true, true, true, true, true, true, true, true, true, true, true, true, true, true, true, true, false, false, false, false, false, false, false, false, false, false, false, false, false]
abbrev mk27_ : Array Bool := #[true, true, true, true, true, true, true, true, true, true, true, true, true, true, true, true, true, true, true, true, true, true, true, true, true, true, true, false, false, false, false, false, false, false, false, false, false, false, false]
abbrev mk28_ : Array Bool := #[true, true, true, true, true, true, true, true, true, true, true, true, true, true, true, true, true, true, true, true, true, true, true, true, true, true, true, true, false, false, false, false, false, false, false, false, false, false, false]
abbrev mk29_ : Array Bool := #[true, true, true, true, true, true, true, true, true, true, true, true, true, true, true, true, true, true, true, true, true, true, true, true, true, true, true, true, true, false, false, false, false, false, false, false, false, false, false]
abbrev mk30_ : Array Bool := #[true, true, true, true, true, true, true, true, true, true, true, true, true, true, true, true, true, true, true, true, true, true, true, true, true, true, true, true, true, true, false, false, false, false, false, false, false, false, false]
abbrev mk31_ : Array Bool := #[true, true, true, true, true, true, true, true, true, true, true, true, true, true, true, true, true, true, true, true, true, true, true, true, true, true, true, true, true, true, true, false, false, false, false, false, false, false, false]
abbrev mk32_ : Array Bool := #[true, true, true, true, true, true, true, true, true, true, true, true, true, true, true, true, true, true, true, true, true, true, true, true, true, true, true, true, true, true, true, false, true, false, false, false, false, false, false]
abbrev mk33_ : Array Bool := #[true, true, true, true, true, true, true, true, true, true, true, true, true, true, true, true, true, true, true, true, true, true, true, true, true, true, true, true, true, true, true, true, true, false, false, false, false, false, false]
abbrev mk34_ : Array Bool := #[true, true, true, true, true, true, true, true, true, true, true, true, true, true, true, true, true, true, true, true, true, true, true, true, true, true, true, true, true, true, true, true, true, true, false, false, false, false, false]
abbrev mk35_ : Array Bool := #[true, true, true, true, true, true, true, true, true, true, true, true, true, true, true, true, true, true, true, true, true, true, true, true, true, true, true, true, true, true, true, true, true, true, true, false, false, false, false]
abbrev mk36_ : Array Bool := #[true, true, true, true, true, true, true, true, true, true, true, true, true, true, true, true, true, true, true, true, true, true, true, true, true, true, true, true, true, true, true, true, true, true, true, true, false, false, false]
abbrev mk37_ : Array Bool := #[true, true, true, true, true, true, true, true, true, true, true, true, true, true, true, true, true, true, true, true, true, true, true, true, true, true, true, true, true, true, true, true, true, true, true, true, true, false, false]
abbrev mk38_ : Array Bool := #[true, true, true, true, true, true, true, true, true, true, true, true, true, true, true, true, true, true, true, true, true, true, true, true, true, true, true, true, true, true, true, true, true, true, true, true, true, true, false]
abbrev mk39_ : Array Bool := #[true, true, true, true, true, true, true, true, true, true, true, true, true, true, true, true, true, true, true, true, true, true, true, true, true, true, true, true, true, true, true, true, true, true, true, true, true, true, true]
abbrev mk40_ : Array Bool := #[true, true, true, true, true, true, true, true, true, true, true, true, true, true, true, true, true, true, true, false, true, false, false, false, false, false, false, false, false, false, false, false, false, false, false, false, false, false, false]
abbrev mk41_ : Array Bool := #[true, true, true, true, true, true, true, true, true, true, true, true, true, true, true, true, true, true, true, false, true, false, true, false, false, false, false, false, false, false, false, false, false, false, false, false, false, false, false]
abbrev mk42_ : Array Bool := #[true, true, true, true, true, true, true, true, true, true, true, true, true, true, true, true, true, true, true, false, true, false, true, false, false, true, false, false, false, false, false, false, false, false, false, false, false, false, false]
abbrev mk43_ : Array Bool := #[true, true, true, true, true, true, true, true, true, true, true, true, true, true, true, true, true, true, true, true, true, false, true, false, false, true, false, false, false, false, false, false, false, false, false, false, false, false, false]
abbrev mk44_ : Array Bool := #[true, true, true, true, true, true, true, true, true, true, true, true, true, true, true, true, true, true, true, true, true, true, true, false, false, true, false, false, false, false, false, false, false, false, false, false, false, false, false]
abbrev mk45_ : Array Bool := #[true, true, true, true, true, true, true, true, true, true, true, true, true, true, true, true, true, true, true, true, true, true, true, true, false, true, false, false, false, false, false, false, false, false, false, false, false, false, false]
abbrev mk46_ : Array Bool := #[true, true, true, true, true, true, true, true, true, true, true, true, true, true, true, true, true, true, true, true, true, true, true, true, true, true, true, true, true, true, true, true, false, false, false, false, false, false, false]
abbrev mk47_ : Array Bool := #[true, true, true, true, true, true, true, true, true, false, false, false, false, false, false, false, false, false, false, false, false, false, false, false, false, false, false, false, false, false, false, false, false, false, false, false, false, false, false]
abbrev mk48_ : Array Bool := #[true, true, true, true, true, true, true, true, true, true, false, false, false, false, false, false, false, false, false, false, false, false, false, false, false, false, false, false, false, false, false, false, false, false, false, false, false, false, false]
abbrev mk49_ : Array Bool := #[true, true, true, true, true, true, true, true, true, true, true, false, false, false, false, false, false, false, false, false, false, false, false, false, false, false, false, false, false, false, false, false, false, false, false, false, false, false, false]
abbrev mk50_ : Array Bool := #[true, true, true, true, true, true, true, true, true, true, true, true, false, false, false, false, false, false, false, false, false, false, false, false, false, false, false, false, false, false, false, false, false, false, false, false, false, false, false]
set_option maxHeartbeats 8000000 in
set_option maxRecDepth 100000 in
theorem counterfoillaw11_LineGoes.calls (k : Nat) (A0_0 : Option Addr) (c0_0 : Nat) (l0_0 : List (S61)) (a0_1 : Int) (a1 : Int) (a2 : Int) (r : Bool) (w : World) (hr0_0 : Kd.C k61 w A0_0 l0_0.length l0_0) (hc0_0 : l0_0.length ≤ c0_0) (h : counterfoillaw11_LineGoes.f k l0_0 a0_1 a1 a2 = some r) :
  Calls Try.prog 12 #[.agg #[.slice A0_0 l0_0.length c0_0, .int .i64 a0_1], .int .i64 a1, .int .i64 a2] w fun e w' => e = .returned (.bool r) ∧ Below w.heap.size w w' := by
 have hu39 := Try.underlying39
 have HR0_0 := A0_ hr0_0
 have HC0_0 := A0_ hc0_0
 clear hr0_0 hc0_0
 have HB := A0_ (Below.refl w.heap.size w)
 have H : (if (l0_0.length : Int) > 100 then (counterfoillaw11_LineGoes.j0 k a1 a2 true l0_0 a0_1) else ((line_Placed.f k l0_0 a0_1).bind fun t266 => (if t266 = true then (if a2 < 0 then (counterfoillaw11_LineGoes.j0 k a1 a2 true l0_0 a0_1) else (if a2 > 1048576 then (counterfoillaw11_LineGoes.j0 k a1 a2 true l0_0 a0_1) else (counterfoillaw11_LineGoes.j0 k a1 a2 (decide (a0_1 > 549755813888)) l0_0 a0_1))) else (counterfoillaw11_LineGoes.j0 k a1 a2 true l0_0 a0_1)))) = some r := h
 clear h
 have HC4 := A0_ H
 clear H
 go_enter Try.func12, Try.ntmps12
 go_upto_region 1 with (first | ((with_reducible refine gate_dst (N:=3) rfl ?_); refine box_event ?hg (N:=3) ?hd (cs := #[.slice A0_0 l0_0.length c0_0, .int .i64 a0_1]) (t := 39) ?hr ?_; (case hd => rfl); (case hg => rfl); (case hr => first | (go_simp; done) | (go_simp; rfl)); intro gb265 hg w5 hbox hb; have n0_ := A0_ (below_step (by repeat (first | (with_reducible first | exact HB.out | apply below_alloc | apply pw_below_drewN | apply below_drew1) | exact HB.out)) hb); have n1_ := A0_ (hbox); have n2_ := A0_ ((by rw [hg]; exact (below_size (by repeat (first | (with_reducible first | exact HB.out | apply below_alloc | apply pw_below_drewN | apply below_drew1) | exact HB.out))) : w.heap.size ≤ gb265)); have n3_ := A0_ ((by rw [hg]; exact (below_size (by repeat (first | (with_reducible first | exact HB.out | apply below_alloc | apply pw_below_drewN | apply below_drew1) | exact HB.out))) : w.heap.size ≤ gb265)); clear HB; have HB := n0_; have BK265 := n1_; have GW265 := n2_; have GE265 := n3_; clear n0_ n1_ n2_ n3_; clear hb hbox hg))
 (try simp only [Act.put, z1_, z2_, z3_])
 go_cut [31] (fun v31 wc => ∃ (kq : Nat) (x31_3 : Bool), v31 = .bool x31_3 ∧ Aside0 (counterfoillaw11_LineGoes.j0 kq a1 a2 x31_3 l0_0 a0_1 = some r) ∧ Aside0 (kq ≤ k) ∧ Aside0 (wc.heap[gb265]? = some (.cells #[(.slice A0_0 l0_0.length c0_0), .int .i64 a0_1] 39 (0, 0))) ∧ Aside0 (Below w.heap.size w wc))
 case first =>
  have H := HC4.out
  clear HC4
  by_cases c6 : (l0_0.length : Int) > 100
  ·rw [if_pos c6] at H
   have c6b0 : decide (100 < (l0_0.length : Int)) = true := decide_eq_true c6
   have c6b1 : decide (100 < l0_0.length) = true := decide_eq_true (by omega)
   clear c6
   (first | rw [c6b0] | (simp only [i64_w, i32_w]; rw [c6b0]) | skip)
   have H' := A0_ H
   clear H
   have hcz7_0 : w5.cell? ⟨gb265, 0, none⟩ = some (.slice A0_0 l0_0.length c0_0) := (blk_cell BK265.out 0).trans rfl
   have hcz7_1 : w5.cell? ⟨gb265, 1, none⟩ = some (.int .i64 a0_1) := (blk_cell BK265.out 1).trans rfl
   have hfz7_0 := blk_frozen BK265.out 0
   have hfz7_1 := blk_frozen BK265.out 1
   go_wp2
   go_meet
   case rel => exact ⟨_, (true), (by first | rfl | (simp; done) | (simp [*]; done)), H', ⟨by first | omega | exact Nat.le_refl _⟩, ⟨by (with_reducible repeat (first | refine blk_drewN ?_ _ | refine blk_drew ?_ | refine blk_alloc ?_ _)); exact BK265.out⟩, ⟨by repeat (first | (with_reducible first | exact HB.out | apply below_alloc | apply pw_below_drewN | apply below_drew1 | refine below_set ?_ GE265.out) | exact HB.out)⟩⟩
  ·rw [if_neg c6] at H
   have c6b0 : decide (100 < (l0_0.length : Int)) = false := decide_eq_false c6
   have c6b1 : decide (100 < l0_0.length) = false := decide_eq_false (by omega)
   clear c6
   (first | rw [c6b0] | (simp only [i64_w, i32_w]; rw [c6b0]) | skip)
   replace H := Option.bind_eq_some_iff.mp H
   obtain ⟨t266, A80, H⟩ := H
   replace H : (if t266 = true then (if a2 < 0 then (counterfoillaw11_LineGoes.j0 k a1 a2 true l0_0 a0_1) else (if a2 > 1048576 then (counterfoillaw11_LineGoes.j0 k a1 a2 true l0_0 a0_1) else (counterfoillaw11_LineGoes.j0 k a1 a2 (decide (a0_1 > 549755813888)) l0_0 a0_1))) else (counterfoillaw11_LineGoes.j0 k a1 a2 true l0_0 a0_1)) = some r := H
   have A8 := A0_ A80
   clear A80
   by_cases c9 : t266 = true
   ·subst c9
    have H1 : (if a2 < 0 then (counterfoillaw11_LineGoes.j0 k a1 a2 true l0_0 a0_1) else (if a2 > 1048576 then (counterfoillaw11_LineGoes.j0 k a1 a2 true l0_0 a0_1) else (counterfoillaw11_LineGoes.j0 k a1 a2 (decide (a0_1 > 549755813888)) l0_0 a0_1))) = some r := by rw [if_pos rfl] at H; exact H
    clear H
    have H := H1
    clear H1
    by_cases c10 : a2 < 0
    ·rw [if_pos c10] at H
     have c10b0 : decide (a2 < 0) = true := decide_eq_true c10
     clear c10
     have H' := A0_ H
     clear H
     have hcz11_0 : w5.cell? ⟨gb265, 0, none⟩ = some (.slice A0_0 l0_0.length c0_0) := (blk_cell BK265.out 0).trans rfl
     have hcz11_1 : w5.cell? ⟨gb265, 1, none⟩ = some (.int .i64 a0_1) := (blk_cell BK265.out 1).trans rfl
     have hfz11_0 := blk_frozen BK265.out 0
     have hfz11_1 := blk_frozen BK265.out 1
     go_wp2_with (first | (go_at_call 23; (with_reducible refine (line_Placed.calls k _ _ l0_0 a0_1 true _ ?side1 ?side2 A8.out).mono ?_); (case side1 => repeat (first | exact (Kd.C_below HR0_0.out HB.out) | (with_reducible refine Kd.C_alloc ?_ _) | (with_reducible refine Kd.C_drewN ?_ _) | (with_reducible refine Kd.C_drew ?_))); (case side2 => exact HC0_0.out); rintro e w12 ⟨rfl, hb⟩; have n0_ := A0_ (blk_below (g:=gb265) (o:=.cells #[.slice A0_0 l0_0.length c0_0, .int .i64 a0_1] 39 (0, 0)) (by (with_reducible repeat (first | refine blk_drewN ?_ _ | refine blk_drew ?_ | refine blk_alloc ?_ _)); exact BK265.out) hb); have n1_ := A0_ (below_step (by repeat (first | (with_reducible first | exact HB.out | apply below_alloc | apply pw_below_drewN | apply below_drew1 | refine below_set ?_ GE265.out) | exact HB.out)) hb); clear BK265; clear HB; have BK265 := n0_; have HB := n1_; clear n0_ n1_; (try clear hb); (try clear hb2); (try clear hk); (try clear hi)))
     go_meet
     case rel => exact ⟨_, (true), (by first | rfl | (simp; done) | (simp [*]; done)), H', ⟨by first | omega | exact Nat.le_refl _⟩, ⟨by (with_reducible repeat (first | refine blk_drewN ?_ _ | refine blk_drew ?_ | refine blk_alloc ?_ _)); exact BK265.out⟩, ⟨by repeat (first | (with_reducible first | exact HB.out | apply below_alloc | apply pw_below_drewN | apply below_drew1 | refine below_set ?_ GE265.out) | exact HB.out)⟩⟩
    ·rw [if_neg c10] at H
     have c10b0 : decide (a2 < 0) = false := decide_eq_false c10
     clear c10
     by_cases c13 : a2 > 1048576
     ·rw [if_pos c13] at H
      have c13b0 : decide (1048576 < a2) = true := decide_eq_true c13
      clear c13
      have H' := A0_ H
      clear H
      have hcz14_0 : w5.cell? ⟨gb265, 0, none⟩ = some (.slice A0_0 l0_0.length c0_0) := (blk_cell BK265.out 0).trans rfl
      have hcz14_1 : w5.cell? ⟨gb265, 1, none⟩ = some (.int .i64 a0_1) := (blk_cell BK265.out 1).trans rfl
      have hfz14_0 := blk_frozen BK265.out 0
      have hfz14_1 := blk_frozen BK265.out 1
      go_wp2_with (first | (go_at_call 23; (with_reducible refine (line_Placed.calls k _ _ l0_0 a0_1 true _ ?side1 ?side2 A8.out).mono ?_); (case side1 => repeat (first | exact (Kd.C_below HR0_0.out HB.out) | (with_reducible refine Kd.C_alloc ?_ _) | (with_reducible refine Kd.C_drewN ?_ _) | (with_reducible refine Kd.C_drew ?_))); (case side2 => exact HC0_0.out); rintro e w15 ⟨rfl, hb⟩; have n0_ := A0_ (blk_below (g:=gb265) (o:=.cells #[.slice A0_0 l0_0.length c0_0, .int .i64 a0_1] 39 (0, 0)) (by (with_reducible repeat (first | refine blk_drewN ?_ _ | refine blk_drew ?_ | refine blk_alloc ?_ _)); exact BK265.out) hb); have n1_ := A0_ (below_step (by repeat (first | (with_reducible first | exact HB.out | apply below_alloc | apply pw_below_drewN | apply below_drew1 | refine below_set ?_ GE265.out) | exact HB.out)) hb); clear BK265; clear HB; have BK265 := n0_; have HB := n1_; clear n0_ n1_; (try clear hb); (try clear hb2); (try clear hk); (try clear hi)))
      go_meet
      case rel => exact ⟨_, (true), (by first | rfl | (simp; done) | (simp [*]; done)), H', ⟨by first | omega | exact Nat.le_refl _⟩, ⟨by (with_reducible repeat (first | refine blk_drewN ?_ _ | refine blk_drew ?_ | refine blk_alloc ?_ _)); exact BK265.out⟩, ⟨by repeat (first | (with_reducible first | exact HB.out | apply below_alloc | apply pw_below_drewN | apply below_drew1 | refine below_set ?_ GE265.out) | exact HB.out)⟩⟩
     ·rw [if_neg c13] at H
      have c13b0 : decide (1048576 < a2) = false := decide_eq_false c13
      clear c13
      have H' := A0_ H
      clear H
      have hcz16_0 : w5.cell? ⟨gb265, 0, none⟩ = some (.slice A0_0 l0_0.length c0_0) := (blk_cell BK265.out 0).trans rfl
      have hcz16_1 : w5.cell? ⟨gb265, 1, none⟩ = some (.int .i64 a0_1) := (blk_cell BK265.out 1).trans rfl
      have hfz16_0 := blk_frozen BK265.out 0
      have hfz16_1 := blk_frozen BK265.out 1
      go_wp2_with (first | (go_at_call 23; (with_reducible refine (line_Placed.calls k _ _ l0_0 a0_1 true _ ?side1 ?side2 A8.out).mono ?_); (case side1 => repeat (first | exact (Kd.C_below HR0_0.out HB.out) | (with_reducible refine Kd.C_alloc ?_ _) | (with_reducible refine Kd.C_drewN ?_ _) | (with_reducible refine Kd.C_drew ?_))); (case side2 => exact HC0_0.out); rintro e w17 ⟨rfl, hb⟩; have n0_ := A0_ (blk_below (g:=gb265) (o:=.cells #[.slice A0_0 l0_0.length c0_0, .int .i64 a0_1] 39 (0, 0)) (by (with_reducible repeat (first | refine blk_drewN ?_ _ | refine blk_drew ?_ | refine blk_alloc ?_ _)); exact BK265.out) hb); have n1_ := A0_ (below_step (by repeat (first | (with_reducible first | exact HB.out | apply below_alloc | apply pw_below_drewN | apply below_drew1 | refine below_set ?_ GE265.out) | exact HB.out)) hb); clear BK265; clear HB; have BK265 := n0_; have HB := n1_; clear n0_ n1_; (try clear hb); (try clear hb2); (try clear hk); (try clear hi); have hcz18_0 : w17.cell? ⟨gb265, 0, none⟩ = some (.slice A0_0 l0_0.length c0_0) := (blk_cell BK265.out 0).trans rfl; have hcz18_1 : w17.cell? ⟨gb265, 1, none⟩ = some (.int .i64 a0_1) := (blk_cell BK265.out 1).trans rfl; have hfz18_0 := blk_frozen BK265.out 0; have hfz18_1 := blk_frozen BK265.out 1))
      go_meet
      case rel => exact ⟨_, (decide (a0_1 > 549755813888)), (by first | rfl | (simp; done) | (simp [*]; done)), H', ⟨by first | omega | exact Nat.le_refl _⟩, ⟨by (with_reducible repeat (first | refine blk_drewN ?_ _ | refine blk_drew ?_ | refine blk_alloc ?_ _)); exact BK265.out⟩, ⟨by repeat (first | (with_reducible first | exact HB.out | apply below_alloc | apply pw_below_drewN | apply below_drew1 | refine below_set ?_ GE265.out) | exact HB.out)⟩⟩
   ·replace c9 := Bool.eq_false_iff.mpr c9
    subst c9
    have H1 : (counterfoillaw11_LineGoes.j0 k a1 a2 true l0_0 a0_1) = some r := by rw [if_neg (show ¬ (false = true) by decide)] at H; exact H
    clear H
    have H := H1
    clear H1
    have H' := A0_ H
    clear H
    have hcz19_0 : w5.cell? ⟨gb265, 0, none⟩ = some (.slice A0_0 l0_0.length c0_0) := (blk_cell BK265.out 0).trans rfl
    have hcz19_1 : w5.cell? ⟨gb265, 1, none⟩ = some (.int .i64 a0_1) := (blk_cell BK265.out 1).trans rfl
    have hfz19_0 := blk_frozen BK265.out 0
    have hfz19_1 := blk_frozen BK265.out 1
    go_wp2_with (first | (go_at_call 23; (with_reducible refine (line_Placed.calls k _ _ l0_0 a0_1 false _ ?side1 ?side2 A8.out).mono ?_); (case side1 => repeat (first | exact (Kd.C_below HR0_0.out HB.out) | (with_reducible refine Kd.C_alloc ?_ _) | (with_reducible refine Kd.C_drewN ?_ _) | (with_reducible refine Kd.C_drew ?_))); (case side2 => exact HC0_0.out); rintro e w20 ⟨rfl, hb⟩; have n0_ := A0_ (blk_below (g:=gb265) (o:=.cells #[.slice A0_0 l0_0.length c0_0, .int .i64 a0_1] 39 (0, 0)) (by (with_reducible repeat (first | refine blk_drewN ?_ _ | refine blk_drew ?_ | refine blk_alloc ?_ _)); exact BK265.out) hb); have n1_ := A0_ (below_step (by repeat (first | (with_reducible first | exact HB.out | apply below_alloc | apply pw_below_drewN | apply below_drew1 | refine below_set ?_ GE265.out) | exact HB.out)) hb); clear BK265; clear HB; have BK265 := n0_; have HB := n1_; clear n0_ n1_; (try clear hb); (try clear hb2); (try clear hk); (try clear hi)))
    go_meet
    case rel => exact ⟨_, (true), (by first | rfl | (simp; done) | (simp [*]; done)), H', ⟨by first | omega | exact Nat.le_refl _⟩, ⟨by (with_reducible repeat (first | refine blk_drewN ?_ _ | refine blk_drew ?_ | refine blk_alloc ?_ _)); exact BK265.out⟩, ⟨by repeat (first | (with_reducible first | exact HB.out | apply below_alloc | apply pw_below_drewN | apply below_drew1 | refine below_set ?_ GE265.out) | exact HB.out)⟩⟩
 case rest =>
  clear HC4
  try clear c1
  try clear p2
  try clear c6
  try clear c6b0
  try clear c6b1
  try clear c9
  try clear c10
  try clear c10b0
  try clear c12
  try clear c13
  try clear c13b0
  try clear hcz11_0
  try clear hcz11_1
  try clear hcz14_0
  try clear hcz14_1
  try clear hcz16_0
  try clear hcz16_1
  try clear hcz18_0
  try clear hcz18_1
  try clear hcz19_0
  try clear hcz19_1
  try clear hcz7_0
  try clear hcz7_1
  try clear hfz11_0
  try clear hfz11_1
  try clear hfz14_0
  try clear hfz14_1
  try clear hfz16_0
  try clear hfz16_1
  try clear hfz18_0
  try clear hfz18_1
  try clear hfz19_0
  try clear hfz19_1
  try clear hfz7_0
  try clear hfz7_1
  obtain ⟨kq, x31_3, rfl, HA, HJ3, BK265, HB⟩ := hcut
  cases kq with
  | zero => exact absurd HA.out (by simp [counterfoillaw11_LineGoes.j0])
  | succ kj3 =>
   have H := HA.out
   clear HA
   simp only [counterfoillaw11_LineGoes.j0] at H
   by_cases c21 : x31_3 = true
   ·subst c21
    have H1 : ((counterfoillaw11_awake.f kj3).bind fun t267 => (some t267)) = some r := by rw [if_pos rfl] at H; exact H
    clear H
    have H := H1
    clear H1
    replace H := Option.bind_eq_some_iff.mp H
    obtain ⟨t267, A220, H⟩ := H
    replace H : (some t267) = some r := H
    have A22 := A0_ A220
    clear A220
    obtain rfl := Option.some.inj H
    go_wp2_with (first | ((with_reducible refine gate_callee (f := 22) rfl ?_); refine goesL_ (some 32) rfl rfl Try.func22 (by kernel_rfl) rfl #[] rfl (by (try simp only [List.map_toArray, List.map_cons, List.map_nil]); first | done | rfl | (simp only [List.length_drop, List.length_take]; rfl)) ?_; (with_reducible refine (counterfoillaw11_awake.calls kj3  t267 _ A22.out).mono ?_); rintro e w23 ⟨rfl, hb⟩; refine ⟨_, rfl, ?_⟩; have n0_ := A0_ (blk_below (g:=gb265) (o:=.cells #[.slice A0_0 l0_0.length c0_0, .int .i64 a0_1] 39 (0, 0)) (by (with_reducible repeat (first | refine blk_drewN ?_ _ | refine blk_drew ?_ | refine blk_alloc ?_ _)); exact BK265.out) hb); have n1_ := A0_ (below_step (by repeat (first | (with_reducible first | exact HB.out | apply below_alloc | apply pw_below_drewN | apply below_drew1 | refine below_set ?_ GE265.out) | exact HB.out)) hb); clear BK265; clear HB; have BK265 := n0_; have HB := n1_; clear n0_ n1_; (try clear hb); (try clear hb2); (try clear hk); (try clear hi)))
    go_ret
    exact ⟨by first | rfl | (simp [errW_none, errW_some] <;> rfl) | (simp [*, errW_none, errW_some] <;> rfl), by repeat (first | (with_reducible first | exact HB.out | apply below_alloc | apply pw_below_drewN | apply below_drew1 | refine below_set ?_ GE265.out) | exact HB.out)⟩
   ·replace c21 := Bool.eq_false_iff.mpr c21
    subst c21
    have H1 : ((line_Grow.f kj3 l0_0 a1 a0_1).bind fun bt268 => (if bt268.2 = 0 then ((line_Placed.f kj3 bt268.1 (wrap64 (a0_1 + a2))).bind fun t274 => (if t274 = true then ((line_Ahead.f kj3 l0_0 a0_1 bt268.1 (wrap64 (a0_1 + a2))).bind fun t275 => (if t275 = true then ((line_Common.f kj3 l0_0 a0_1 bt268.1 (wrap64 (a0_1 + a2))).bind fun t276 => (if t276 = a0_1 then (if a2 = 0 then ((line_Last.f kj3 bt268.1).bind fun t277 => (if t277 = a1 then ((counterfoillaw11_awake.f kj3).bind fun t278 => (some t278)) else (some false))) else ((line_Epoch.f kj3 bt268.1 (wrap64 (a0_1 + a2)) (wrap64 (a0_1 + a2))).bind fun t279 => (if t279 = a1 then ((line_Last.f kj3 bt268.1).bind fun t280 => (if t280 = a1 then ((counterfoillaw11_awake.f kj3).bind fun t281 => (some t281)) else (some false))) else (some false)))) else (some false))) else (some false))) else (some false))) else (if (bt268.1.length : Int) = 0 then ((counterfoillaw11_awake.f kj3).bind fun t272 => (some t272)) else (some false)))) = some r := by rw [if_neg (show ¬ (false = true) by decide)] at H; exact H
    clear H
    have H := H1
    clear H1
    replace H := Option.bind_eq_some_iff.mp H
    obtain ⟨⟨t268, t269⟩, A240, H⟩ := H
    replace H : (if t269 = 0 then ((line_Placed.f kj3 t268 (wrap64 (a0_1 + a2))).bind fun t274 => (if t274 = true then ((line_Ahead.f kj3 l0_0 a0_1 t268 (wrap64 (a0_1 + a2))).bind fun t275 => (if t275 = true then ((line_Common.f kj3 l0_0 a0_1 t268 (wrap64 (a0_1 + a2))).bind fun t276 => (if t276 = a0_1 then (if a2 = 0 then ((line_Last.f kj3 t268).bind fun t277 => (if t277 = a1 then ((counterfoillaw11_awake.f kj3).bind fun t278 => (some t278)) else (some false))) else ((line_Epoch.f kj3 t268 (wrap64 (a0_1 + a2)) (wrap64 (a0_1 + a2))).bind fun t279 => (if t279 = a1 then ((line_Last.f kj3 t268).bind fun t280 => (if t280 = a1 then ((counterfoillaw11_awake.f kj3).bind fun t281 => (some t281)) else (some false))) else (some false)))) else (some false))) else (some false))) else (some false))) else (if (t268.length : Int) = 0 then ((counterfoillaw11_awake.f kj3).bind fun t272 => (some t272)) else (some false))) = some r := H
    have A24 := A0_ A240
    clear A240
    by_cases c25 : t269 = 0
    ·rw [if_pos c25] at H
     have c25b0 : (t269 == 0) = true := beq_iff_eq.mpr c25
     have c25b1 : (t269 != 0) = false := bne_eq_false_iff_eq.mpr c25
     clear c25
     replace H := Option.bind_eq_some_iff.mp H
     obtain ⟨t274, A260, H⟩ := H
     replace H : (if t274 = true then ((line_Ahead.f kj3 l0_0 a0_1 t268 (wrap64 (a0_1 + a2))).bind fun t275 => (if t275 = true then ((line_Common.f kj3 l0_0 a0_1 t268 (wrap64 (a0_1 + a2))).bind fun t276 => (if t276 = a0_1 then (if a2 = 0 then ((line_Last.f kj3 t268).bind fun t277 => (if t277 = a1 then ((counterfoillaw11_awake.f kj3).bind fun t278 => (some t278)) else (some false))) else ((line_Epoch.f kj3 t268 (wrap64 (a0_1 + a2)) (wrap64 (a0_1 + a2))).bind fun t279 => (if t279 = a1 then ((line_Last.f kj3 t268).bind fun t280 => (if t280 = a1 then ((counterfoillaw11_awake.f kj3).bind fun t281 => (some t281)) else (some false))) else (some false)))) else (some false))) else (some false))) else (some false)) = some r := H
     have A26 := A0_ A260
     clear A260
     by_cases c27 : t274 = true
     ·subst c27
      have H1 : ((line_Ahead.f kj3 l0_0 a0_1 t268 (wrap64 (a0_1 + a2))).bind fun t275 => (if t275 = true then ((line_Common.f kj3 l0_0 a0_1 t268 (wrap64 (a0_1 + a2))).bind fun t276 => (if t276 = a0_1 then (if a2 = 0 then ((line_Last.f kj3 t268).bind fun t277 => (if t277 = a1 then ((counterfoillaw11_awake.f kj3).bind fun t278 => (some t278)) else (some false))) else ((line_Epoch.f kj3 t268 (wrap64 (a0_1 + a2)) (wrap64 (a0_1 + a2))).bind fun t279 => (if t279 = a1 then ((line_Last.f kj3 t268).bind fun t280 => (if t280 = a1 then ((counterfoillaw11_awake.f kj3).bind fun t281 => (some t281)) else (some false))) else (some false)))) else (some false))) else (some false))) = some r := by rw [if_pos rfl] at H; exact H
      clear H
      have H := H1
      clear H1
      replace H := Option.bind_eq_some_iff.mp H
      obtain ⟨t275, A280, H⟩ := H
      replace H : (if t275 = true then ((line_Common.f kj3 l0_0 a0_1 t268 (wrap64 (a0_1 + a2))).bind fun t276 => (if t276 = a0_1 then (if a2 = 0 then ((line_Last.f kj3 t268).bind fun t277 => (if t277 = a1 then ((counterfoillaw11_awake.f kj3).bind fun t278 => (some t278)) else (some false))) else ((line_Epoch.f kj3 t268 (wrap64 (a0_1 + a2)) (wrap64 (a0_1 + a2))).bind fun t279 => (if t279 = a1 then ((line_Last.f kj3 t268).bind fun t280 => (if t280 = a1 then ((counterfoillaw11_awake.f kj3).bind fun t281 => (some t281)) else (some false))) else (some false)))) else (some false))) else (some false)) = some r := H
      have A28 := A0_ A280
      clear A280
      by_cases c29 : t275 = true
      ·subst c29
       have H1 : ((line_Common.f kj3 l0_0 a0_1 t268 (wrap64 (a0_1 + a2))).bind fun t276 => (if t276 = a0_1 then (if a2 = 0 then ((line_Last.f kj3 t268).bind fun t277 => (if t277 = a1 then ((counterfoillaw11_awake.f kj3).bind fun t278 => (some t278)) else (some false))) else ((line_Epoch.f kj3 t268 (wrap64 (a0_1 + a2)) (wrap64 (a0_1 + a2))).bind fun t279 => (if t279 = a1 then ((line_Last.f kj3 t268).bind fun t280 => (if t280 = a1 then ((counterfoillaw11_awake.f kj3).bind fun t281 => (some t281)) else (some false))) else (some false)))) else (some false))) = some r := by rw [if_pos rfl] at H; exact H
       clear H
       have H := H1
       clear H1
       replace H := Option.bind_eq_some_iff.mp H
       obtain ⟨t276, A300, H⟩ := H
       replace H : (if t276 = a0_1 then (if a2 = 0 then ((line_Last.f kj3 t268).bind fun t277 => (if t277 = a1 then ((counterfoillaw11_awake.f kj3).bind fun t278 => (some t278)) else (some false))) else ((line_Epoch.f kj3 t268 (wrap64 (a0_1 + a2)) (wrap64 (a0_1 + a2))).bind fun t279 => (if t279 = a1 then ((line_Last.f kj3 t268).bind fun t280 => (if t280 = a1 then ((counterfoillaw11_awake.f kj3).bind fun t281 => (some t281)) else (some false))) else (some false)))) else (some false)) = some r := H
       have A30 := A0_ A300
       clear A300
       by_cases c31 : t276 = a0_1
       ·rw [if_pos c31] at H
        have c31b0 : (t276 == a0_1) = true := beq_iff_eq.mpr c31
        have c31b1 : (t276 != a0_1) = false := bne_eq_false_iff_eq.mpr c31
        clear c31
        by_cases c32 : a2 = 0
        ·rw [if_pos c32] at H
         have c32b0 : (a2 == 0) = true := beq_iff_eq.mpr c32
         have c32b1 : (a2 != 0) = false := bne_eq_false_iff_eq.mpr c32
         clear c32
         replace H := Option.bind_eq_some_iff.mp H
         obtain ⟨t277, A330, H⟩ := H
         replace H : (if t277 = a1 then ((counterfoillaw11_awake.f kj3).bind fun t278 => (some t278)) else (some false)) = some r := H
         have A33 := A0_ A330
         clear A330
         by_cases c34 : t277 = a1
         ·rw [if_pos c34] at H
          have c34b0 : (t277 == a1) = true := beq_iff_eq.mpr c34
          have c34b1 : (t277 != a1) = false := bne_eq_false_iff_eq.mpr c34
          clear c34
          replace H := Option.bind_eq_some_iff.mp H
          obtain ⟨t278, A350, H⟩ := H
          replace H : (some t278) = some r := H
          have A35 := A0_ A350
          clear A350
          obtain rfl := Option.some.inj H
          have hcz36_0 : wc.cell? ⟨gb265, 0, none⟩ = some (.slice A0_0 l0_0.length c0_0) := (blk_cell BK265.out 0).trans rfl
          have hcz36_1 : wc.cell? ⟨gb265, 1, none⟩ = some (.int .i64 a0_1) := (blk_cell BK265.out 1).trans rfl
          have hfz36_0 := blk_frozen BK265.out 0
          have hfz36_1 := blk_frozen BK265.out 1
          try go_wp2_with (first | ((with_reducible refine gate_callee (f := 35) rfl ?_); refine goesL_ (some 39) rfl rfl Try.func35 (by kernel_rfl) rfl #[.slice A0_0 l0_0.length c0_0, .int .i64 a1, .int .i64 a0_1] rfl (by (try simp only [List.map_toArray, List.map_cons, List.map_nil]); first | done | rfl | (simp only [List.length_drop, List.length_take]; rfl)) ?_; (with_reducible refine (line_Grow.calls kj3 _ _ l0_0 a1 a0_1 t268 t269 _ ?side1 ?side2 A24.out).mono ?_); (case side1 => repeat (first | exact (Kd.C_below HR0_0.out HB.out) | (with_reducible refine Kd.C_alloc ?_ _) | (with_reducible refine Kd.C_drewN ?_ _) | (with_reducible refine Kd.C_drew ?_))); (case side2 => exact HC0_0.out); rintro e w37 ⟨v270, rfl, ho0, hb⟩; refine ⟨_, rfl, ?_⟩; have n0_ := A0_ (Kd.R_lower ho0 (below_size (by repeat (first | (with_reducible first | exact HB.out | apply below_alloc | apply pw_below_drewN | apply below_drew1 | refine below_set ?_ GE265.out) | exact HB.out)))); have n1_ := A0_ (blk_below (g:=gb265) (o:=.cells #[.slice A0_0 l0_0.length c0_0, .int .i64 a0_1] 39 (0, 0)) (by (with_reducible repeat (first | refine blk_drewN ?_ _ | refine blk_drew ?_ | refine blk_alloc ?_ _)); exact BK265.out) hb); have n2_ := A0_ (below_step (by repeat (first | (with_reducible first | exact HB.out | apply below_alloc | apply pw_below_drewN | apply below_drew1 | refine below_set ?_ GE265.out) | exact HB.out)) hb); clear BK265; clear HB; have HO271 := n0_; have BK265 := n1_; have HB := n2_; clear n0_ n1_ n2_; (try clear hb); (try clear hb2); (try clear hk); (try clear hi); (try clear ho0); have hcz38_0 : w37.cell? ⟨gb265, 0, none⟩ = some (.slice A0_0 l0_0.length c0_0) := (blk_cell BK265.out 0).trans rfl; have hcz38_1 : w37.cell? ⟨gb265, 1, none⟩ = some (.int .i64 a0_1) := (blk_cell BK265.out 1).trans rfl; have hfz38_0 := blk_frozen BK265.out 0; have hfz38_1 := blk_frozen BK265.out 1; obtain ⟨Ao39, co39, eo39⟩ := Kd.R_slice HO271.out; subst eo39) | ((with_reducible refine gate_dst (N:=9) rfl ?_); refine box_event ?hg (N:=9) ?hd (cs := #[.slice none 0 0, .int .i64 0]) (t := 39) ?hr ?_; (case hd => rfl); (case hg => rfl); (case hr => first | (go_simp; done) | (go_simp; rfl)); intro gb273 hg w40 hbox hb; have n0_ := A0_ (Kd.R_below (by (with_reducible repeat (first | apply Kd.R_alloc | apply Kd.R_drewN | apply Kd.R_drew)); exact HO271.out) hb); have n1_ := A0_ (blk_below (g:=gb265) (o:=.cells #[.slice A0_0 l0_0.length c0_0, .int .i64 a0_1] 39 (0, 0)) (by (with_reducible repeat (first | refine blk_drewN ?_ _ | refine blk_drew ?_ | refine blk_alloc ?_ _)); exact BK265.out) hb); have n2_ := A0_ (below_step (by repeat (first | (with_reducible first | exact HB.out | apply below_alloc | apply pw_below_drewN | apply below_drew1 | refine below_set ?_ GE265.out) | exact HB.out)) hb); have n3_ := A0_ (hbox); have n4_ := A0_ ((by rw [hg]; exact (below_size (by repeat (first | (with_reducible first | exact HB.out | apply below_alloc | apply pw_below_drewN | apply below_drew1 | refine below_set ?_ GE265.out) | exact HB.out))) : w.heap.size ≤ gb273)); have n5_ := A0_ ((by rw [hg]; exact (below_size (by repeat (first | (with_reducible first | exact HB.out | apply below_alloc | apply pw_below_drewN | apply below_drew1 | refine below_set ?_ GE265.out) | exact HB.out))) : w.heap.size ≤ gb273)); have n6_ := A0_ ((by rw [hg]; exact Nat.ne_of_lt (blk_lt (g:=gb265) (o:=.cells #[.slice A0_0 l0_0.length c0_0, .int .i64 a0_1] 39 (0, 0)) (by (with_reducible repeat (first | refine blk_drewN ?_ _ | refine blk_drew ?_ | refine blk_alloc ?_ _)); exact BK265.out)) : gb265 ≠ gb273)); have n7_ := A0_ ((by rw [hg]; exact Nat.ne_of_gt (blk_lt (g:=gb265) (o:=.cells #[.slice A0_0 l0_0.length c0_0, .int .i64 a0_1] 39 (0, 0)) (by (with_reducible repeat (first | refine blk_drewN ?_ _ | refine blk_drew ?_ | refine blk_alloc ?_ _)); exact BK265.out)) : gb273 ≠ gb265)); clear HO271; clear BK265; clear HB; have HO271 := n0_; have BK265 := n1_; have HB := n2_; have BK273 := n3_; have GW273 := n4_; have GE273 := n5_; have NB265_273 := n6_; have NB273_265 := n7_; clear n0_ n1_ n2_ n3_ n4_ n5_ n6_ n7_; clear hb hbox hg; have hnb41 := NB273_265.out; have hnc41 := NB265_273.out; have hcz42_0 : w40.cell? ⟨gb273, 0, none⟩ = some (.slice none 0 0) := (blk_cell BK273.out 0).trans rfl; have hcz42_1 : w40.cell? ⟨gb273, 1, none⟩ = some (.int .i64 0) := (blk_cell BK273.out 1).trans rfl; have hfz42_0 := blk_frozen BK273.out 0; have hfz42_1 := blk_frozen BK273.out 1))
          have n0_ : Aside0 (Kd.R k61 61 ((w40.setCell ⟨gb273, 0, none⟩ (.slice Ao39 t268.length co39)).setCell ⟨gb273, 1, none⟩ (.int .i64 (wrap64 (a0_1 + a2)))) w.heap.size (fun _ => True) (.slice Ao39 t268.length co39) t268) := ⟨by (with_reducible repeat (first | apply Kd.R_alloc | apply Kd.R_drewN | apply Kd.R_drew)); exact Kd.R_mono (Kd.R_far (p := ⟨gb273, 1, none⟩) (Kd.R_far (p := ⟨gb273, 0, none⟩) (Kd.R_types HO271.out BK273.out (by decide)) (fun _ hk => hk.2) (.slice Ao39 t268.length co39)) (fun _ hk => hk.2) (.int .i64 (wrap64 (a0_1 + a2)))) (fun _ hk => trivial)⟩
          have n1_ : Aside0 (((w40.setCell ⟨gb273, 0, none⟩ (.slice Ao39 t268.length co39)).setCell ⟨gb273, 1, none⟩ (.int .i64 (wrap64 (a0_1 + a2)))).heap[gb265]? = some (.cells #[.slice A0_0 l0_0.length c0_0, .int .i64 a0_1] 39 (0, 0))) := ⟨by (with_reducible repeat (first | refine blk_drewN ?_ _ | refine blk_drew ?_ | refine blk_alloc ?_ _)); refine blk_far ?_ NB265_273.out _; (with_reducible repeat (first | refine blk_drewN ?_ _ | refine blk_drew ?_ | refine blk_alloc ?_ _)); refine blk_far ?_ NB265_273.out _; (with_reducible repeat (first | refine blk_drewN ?_ _ | refine blk_drew ?_ | refine blk_alloc ?_ _)); exact BK265.out⟩
          have n2_ : Aside0 (((w40.setCell ⟨gb273, 0, none⟩ (.slice Ao39 t268.length co39)).setCell ⟨gb273, 1, none⟩ (.int .i64 (wrap64 (a0_1 + a2)))).heap[gb273]? = some (.cells #[.slice Ao39 t268.length co39, .int .i64 (wrap64 (a0_1 + a2))] 39 (0, 0))) := ⟨by (with_reducible repeat (first | refine blk_drewN ?_ _ | refine blk_drew ?_ | refine blk_alloc ?_ _)); refine blk_put (cs := #[.slice Ao39 t268.length co39, .int .i64 0]) ?_ 1 _ rfl; (with_reducible repeat (first | refine blk_drewN ?_ _ | refine blk_drew ?_ | refine blk_alloc ?_ _)); refine blk_put (cs := #[.slice none 0 0, .int .i64 0]) ?_ 0 _ rfl; (with_reducible repeat (first | refine blk_drewN ?_ _ | refine blk_drew ?_ | refine blk_alloc ?_ _)); exact BK273.out⟩
          have n3_ : Aside0 (Below w.heap.size w ((w40.setCell ⟨gb273, 0, none⟩ (.slice Ao39 t268.length co39)).setCell ⟨gb273, 1, none⟩ (.int .i64 (wrap64 (a0_1 + a2))))) := ⟨by repeat (first | (with_reducible first | exact HB.out | apply below_alloc | apply pw_below_drewN | apply below_drew1 | refine below_set ?_ GE265.out | refine below_set ?_ GE273.out) | exact HB.out)⟩
          (try clear HO271)
          (try clear BK265)
          (try clear BK273)
          (try clear HB)
          generalize ((w40.setCell ⟨gb273, 0, none⟩ (.slice Ao39 t268.length co39)).setCell ⟨gb273, 1, none⟩ (.int .i64 (wrap64 (a0_1 + a2)))) = w43 at n0_ n1_ n2_ n3_ ⊢
          have HO271 := n0_
          have BK265 := n1_
          have BK273 := n2_
          have HB := n3_
          clear n0_ n1_ n2_ n3_
          have n0_ := A0_ (Kd.R_drew HO271.out)
          have n1_ := A0_ (blk_drew BK265.out)
          have n2_ := A0_ (blk_drew BK273.out)
          have n3_ := A0_ (below_drew1 HB.out)
          clear HO271
          clear BK265
          clear BK273
          clear HB
          have HO271 := n0_
          have BK265 := n1_
          have BK273 := n2_
          have HB := n3_
          clear n0_ n1_ n2_ n3_
          refine start_ (n := 39) (S := fun w' => w'.cell? ⟨gb273, 0, none⟩ = some (.slice Ao39 t268.length co39) ∧ w'.cell? ⟨gb273, 1, none⟩ = some (.int .i64 (wrap64 (a0_1 + a2))) ∧ w'.cell? ⟨gb265, 0, none⟩ = some (.slice A0_0 l0_0.length c0_0) ∧ w'.cell? ⟨gb265, 1, none⟩ = some (.int .i64 a0_1)) (ds := []) mk0_ (by kernel_rfl) rfl rfl ⟨(blk_cell BK273.out 0).trans rfl, (blk_cell BK273.out 1).trans rfl, (blk_cell BK265.out 0).trans rfl, (blk_cell BK265.out 1).trans rfl⟩ (fun hHeld => ?_); refine with_tabW counterfoillaw11_LineGoes.tab7 counterfoillaw11_LineGoes.bits7 (fun HT_ HW_ => ?_)
          generalize w43.drew = w44 at HO271 BK265 BK273 HB hHeld ⊢
          refine take_ (i:=0) (N:=some 56) (v:=?_) (a':=?_) mk1_ rfl rfl (take_ofW HT_.out HW_.out (by kernel_rfl)) (fun _ _ _ h => h) (Or.inl ⟨by rfl, ?_⟩) hHeld ?_ ?_
          rotate_left
          ·rintro w' ⟨s0, s1, s2, s3⟩
           go_simp
           with_reducible rfl
          rotate_left
          ·simp only [Act.put, z1_, z2_, z3_, i64_w, i32_w]
           rfl
          refine one_ (i:=1) (N:=some 57) mk2_ rfl rfl (one_of HT_.out (by kernel_rfl)) (by decide) (fun K hK => ?_)
          refine goes_ Try.func23 (by kernel_rfl) rfl #[.agg #[.slice Ao39 t268.length co39, .int .i64 (wrap64 (a0_1 + a2))]] (by rfl) rfl rfl (by (try simp only [List.map_toArray, List.map_cons, List.map_nil]); first | done | rfl | (simp only [List.length_drop, List.length_take]; rfl)) ?_
          with_reducible refine (line_Placed.calls kj3 _ _ t268 (wrap64 (a0_1 + a2)) true _ ?side1 ?side2 A26.out).mono ?_
          (case side1 => repeat (first | exact (Kd.R_reads' HO271.out).2.2 | (with_reducible refine Kd.C_alloc ?_ _) | (with_reducible refine Kd.C_drewN ?_ _) | (with_reducible refine Kd.C_drew ?_)))
          (case side2 => exact (Kd.R_reads' HO271.out).2.1)
          rintro e w45 ⟨rfl, hb⟩
          refine ⟨_, rfl, ?_⟩
          have n0_ := A0_ (Kd.R_below (by (with_reducible repeat (first | apply Kd.R_alloc | apply Kd.R_drewN | apply Kd.R_drew)); exact HO271.out) hb)
          have n1_ := A0_ (blk_below (g:=gb265) (o:=.cells #[.slice A0_0 l0_0.length c0_0, .int .i64 a0_1] 39 (0, 0)) (by (with_reducible repeat (first | refine blk_drewN ?_ _ | refine blk_drew ?_ | refine blk_alloc ?_ _)); exact BK265.out) hb)
          have n2_ := A0_ (blk_below (g:=gb273) (o:=.cells #[.slice Ao39 t268.length co39, .int .i64 (wrap64 (a0_1 + a2))] 39 (0, 0)) (by (with_reducible repeat (first | refine blk_drewN ?_ _ | refine blk_drew ?_ | refine blk_alloc ?_ _)); exact BK273.out) hb)
          have n3_ := A0_ (below_step (by repeat (first | (with_reducible first | exact HB.out | apply below_alloc | apply pw_below_drewN | apply below_drew1 | refine below_set ?_ GE265.out | refine below_set ?_ GE273.out) | exact HB.out)) hb)
          clear HO271
          clear BK265
          clear BK273
          clear HB
          have HO271 := n0_
          have BK265 := n1_
          have BK273 := n2_
          have HB := n3_
          clear n0_ n1_ n2_ n3_
          (try clear hb)
          (try clear hb2)
          (try clear hk)
          (try clear hi)
          refine hK.out _ _ ⟨(blk_cell BK273.out 0).trans rfl, (blk_cell BK273.out 1).trans rfl, (blk_cell BK265.out 0).trans rfl, (blk_cell BK265.out 1).trans rfl⟩ (fun hHeld => ?_)
          clear hK K
          refine norm_ (a' := ?_) ?_ ?_
          rotate_left
          ·show Act.put _ (some 57) _ = _
           simp only [Act.put, z1_, z2_, z3_, i64_w, i32_w]
           rfl
          refine pure_ (i:=2) (N:=some 58) (v:=?_) (a':=?_) mk3_ rfl rfl (any_of HT_.out (by kernel_rfl)) (fun _ _ _ h => h) (Or.inl ⟨by rfl, ?_⟩) ?_ ?_
          rotate_left
          ·intro w'
           go_simp
           with_reducible rfl
          rotate_left
          ·simp only [Act.put, z1_, z2_, z3_, i64_w, i32_w]
           rfl
          refine take_ (i:=3) (N:=some 59) (v:=?_) (a':=?_) mk4_ rfl rfl (take_ofW HT_.out HW_.out (by kernel_rfl)) (fun _ _ _ h => h) (Or.inl ⟨by rfl, ?_⟩) hHeld ?_ ?_
          rotate_left
          ·rintro w' ⟨s0, s1, s2, s3⟩
           go_simp
           with_reducible rfl
          rotate_left
          ·simp only [Act.put, z1_, z2_, z3_, i64_w, i32_w]
           rfl
          refine take_ (i:=4) (N:=some 60) (v:=?_) (a':=?_) mk5_ rfl rfl (take_ofW HT_.out HW_.out (by kernel_rfl)) (fun _ _ _ h => h) (Or.inl ⟨by rfl, ?_⟩) hHeld ?_ ?_
          rotate_left
          ·rintro w' ⟨s0, s1, s2, s3⟩
           go_simp
           with_reducible rfl
          rotate_left
          ·simp only [Act.put, z1_, z2_, z3_, i64_w, i32_w]
           rfl
          refine one_ (i:=5) (N:=some 61) mk6_ rfl rfl (one_of HT_.out (by kernel_rfl)) (by decide) (fun K hK => ?_)
          refine goes_ Try.func29 (by kernel_rfl) rfl #[.agg #[.slice A0_0 l0_0.length c0_0, .int .i64 a0_1], .agg #[.slice Ao39 t268.length co39, .int .i64 (wrap64 (a0_1 + a2))]] (by rfl) rfl rfl (by (try simp only [List.map_toArray, List.map_cons, List.map_nil]); first | done | rfl | (simp only [List.length_drop, List.length_take]; rfl)) ?_
          with_reducible refine (line_Ahead.calls kj3 _ _ l0_0 a0_1 _ _ t268 (wrap64 (a0_1 + a2)) true _ ?side1 ?side2 ?side3 ?side4 A28.out).mono ?_
          (case side1 => repeat (first | exact (Kd.C_below HR0_0.out HB.out) | (with_reducible refine Kd.C_alloc ?_ _) | (with_reducible refine Kd.C_drewN ?_ _) | (with_reducible refine Kd.C_drew ?_)))
          (case side2 => exact HC0_0.out)
          (case side3 => repeat (first | exact (Kd.R_reads' HO271.out).2.2 | (with_reducible refine Kd.C_alloc ?_ _) | (with_reducible refine Kd.C_drewN ?_ _) | (with_reducible refine Kd.C_drew ?_)))
          (case side4 => exact (Kd.R_reads' HO271.out).2.1)
          rintro e w46 ⟨rfl, hb⟩
          refine ⟨_, rfl, ?_⟩
          have n0_ := A0_ (Kd.R_below (by (with_reducible repeat (first | apply Kd.R_alloc | apply Kd.R_drewN | apply Kd.R_drew)); exact HO271.out) hb)
          have n1_ := A0_ (blk_below (g:=gb265) (o:=.cells #[.slice A0_0 l0_0.length c0_0, .int .i64 a0_1] 39 (0, 0)) (by (with_reducible repeat (first | refine blk_drewN ?_ _ | refine blk_drew ?_ | refine blk_alloc ?_ _)); exact BK265.out) hb)
          have n2_ := A0_ (blk_below (g:=gb273) (o:=.cells #[.slice Ao39 t268.length co39, .int .i64 (wrap64 (a0_1 + a2))] 39 (0, 0)) (by (with_reducible repeat (first | refine blk_drewN ?_ _ | refine blk_drew ?_ | refine blk_alloc ?_ _)); exact BK273.out) hb)
          have n3_ := A0_ (below_step (by repeat (first | (with_reducible first | exact HB.out | apply below_alloc | apply pw_below_drewN | apply below_drew1 | refine below_set ?_ GE265.out | refine below_set ?_ GE273.out) | exact HB.out)) hb)
          clear HO271
          clear BK265
          clear BK273
          clear HB
          have HO271 := n0_
          have BK265 := n1_
          have BK273 := n2_
          have HB := n3_
          clear n0_ n1_ n2_ n3_
          (try clear hb)
          (try clear hb2)
          (try clear hk)
          (try clear hi)
          refine hK.out _ _ ⟨(blk_cell BK273.out 0).trans rfl, (blk_cell BK273.out 1).trans rfl, (blk_cell BK265.out 0).trans rfl, (blk_cell BK265.out 1).trans rfl⟩ (fun hHeld => ?_)
          clear hK K
          refine norm_ (a' := ?_) ?_ ?_
          rotate_left
          ·show Act.put _ (some 61) _ = _
           simp only [Act.put, z1_, z2_, z3_, i64_w, i32_w]
           rfl
          refine pure_ (i:=6) (N:=some 62) (v:=?_) (a':=?_) mk7_ rfl rfl (any_of HT_.out (by kernel_rfl)) (fun _ _ _ h => h) (Or.inl ⟨by rfl, ?_⟩) ?_ ?_
          rotate_left
          ·intro w'
           go_simp
           with_reducible rfl
          rotate_left
          ·simp only [Act.put, z1_, z2_, z3_, i64_w, i32_w]
           rfl
          refine pure_ (i:=7) (N:=some 63) (v:=?_) (a':=?_) mk8_ rfl rfl (any_of HT_.out (by kernel_rfl)) (fun _ _ _ h => h) (Or.inl ⟨by rfl, ?_⟩) ?_ ?_
          rotate_left
          ·intro w'
           go_simp
           with_reducible rfl
          rotate_left
          ·simp only [Act.put, z1_, z2_, z3_, i64_w, i32_w]
           rfl
          refine pure_ (i:=11) (N:=some 67) (v:=?_) (a':=?_) mk9_ rfl rfl (any_of HT_.out (by kernel_rfl)) (fun _ _ _ h => h) (Or.inl ⟨by rfl, ?_⟩) ?_ ?_
          rotate_left
          ·intro w'
           go_simp
           with_reducible rfl
          rotate_left
          ·simp only [Act.put, z1_, z2_, z3_, i64_w, i32_w]
           rfl
          refine take_ (i:=8) (N:=some 64) (v:=?_) (a':=?_) mk10_ rfl rfl (take_ofW HT_.out HW_.out (by kernel_rfl)) (fun _ _ _ h => h) (Or.inl ⟨by rfl, ?_⟩) hHeld ?_ ?_
          rotate_left
          ·rintro w' ⟨s0, s1, s2, s3⟩
           go_simp
           with_reducible rfl
          rotate_left
          ·simp only [Act.put, z1_, z2_, z3_, i64_w, i32_w]
           rfl
          refine take_ (i:=9) (N:=some 65) (v:=?_) (a':=?_) mk11_ rfl rfl (take_ofW HT_.out HW_.out (by kernel_rfl)) (fun _ _ _ h => h) (Or.inl ⟨by rfl, ?_⟩) hHeld ?_ ?_
          rotate_left
          ·rintro w' ⟨s0, s1, s2, s3⟩
           go_simp
           with_reducible rfl
          rotate_left
          ·simp only [Act.put, z1_, z2_, z3_, i64_w, i32_w]
           rfl
          refine take_ (i:=12) (N:=some 68) (v:=?_) (a':=?_) mk12_ rfl rfl (take_ofW HT_.out HW_.out (by kernel_rfl)) (fun _ _ _ h => h) (Or.inl ⟨by rfl, ?_⟩) hHeld ?_ ?_
          rotate_left
          ·rintro w' ⟨s0, s1, s2, s3⟩
           go_simp
           with_reducible rfl
          rotate_left
          ·simp only [Act.put, z1_, z2_, z3_, i64_w, i32_w]
           rfl
          refine one_ (i:=10) (N:=some 66) mk13_ rfl rfl (one_of HT_.out (by kernel_rfl)) (by decide) (fun K hK => ?_)
          refine goes_ Try.func27 (by kernel_rfl) rfl #[.agg #[.slice A0_0 l0_0.length c0_0, .int .i64 a0_1], .agg #[.slice Ao39 t268.length co39, .int .i64 (wrap64 (a0_1 + a2))]] (by rfl) rfl rfl (by (try simp only [List.map_toArray, List.map_cons, List.map_nil]); first | done | rfl | (simp only [List.length_drop, List.length_take]; rfl)) ?_
          with_reducible refine (line_Common.calls kj3 _ _ l0_0 a0_1 _ _ t268 (wrap64 (a0_1 + a2)) t276 _ ?side1 ?side2 ?side3 ?side4 A30.out).mono ?_
          (case side1 => repeat (first | exact (Kd.C_below HR0_0.out HB.out) | (with_reducible refine Kd.C_alloc ?_ _) | (with_reducible refine Kd.C_drewN ?_ _) | (with_reducible refine Kd.C_drew ?_)))
          (case side2 => exact HC0_0.out)
          (case side3 => repeat (first | exact (Kd.R_reads' HO271.out).2.2 | (with_reducible refine Kd.C_alloc ?_ _) | (with_reducible refine Kd.C_drewN ?_ _) | (with_reducible refine Kd.C_drew ?_)))
          (case side4 => exact (Kd.R_reads' HO271.out).2.1)
          rintro e w47 ⟨rfl, hb⟩
          refine ⟨_, rfl, ?_⟩
          have n0_ := A0_ (Kd.R_below (by (with_reducible repeat (first | apply Kd.R_alloc | apply Kd.R_drewN | apply Kd.R_drew)); exact HO271.out) hb)
          have n1_ := A0_ (blk_below (g:=gb265) (o:=.cells #[.slice A0_0 l0_0.length c0_0, .int .i64 a0_1] 39 (0, 0)) (by (with_reducible repeat (first | refine blk_drewN ?_ _ | refine blk_drew ?_ | refine blk_alloc ?_ _)); exact BK265.out) hb)
          have n2_ := A0_ (blk_below (g:=gb273) (o:=.cells #[.slice Ao39 t268.length co39, .int .i64 (wrap64 (a0_1 + a2))] 39 (0, 0)) (by (with_reducible repeat (first | refine blk_drewN ?_ _ | refine blk_drew ?_ | refine blk_alloc ?_ _)); exact BK273.out) hb)
          have n3_ := A0_ (below_step (by repeat (first | (with_reducible first | exact HB.out | apply below_alloc | apply pw_below_drewN | apply below_drew1 | refine below_set ?_ GE265.out | refine below_set ?_ GE273.out) | exact HB.out)) hb)
          clear HO271
          clear BK265
          clear BK273
          clear HB
          have HO271 := n0_
          have BK265 := n1_
          have BK273 := n2_
          have HB := n3_
          clear n0_ n1_ n2_ n3_
          (try clear hb)
          (try clear hb2)
          (try clear hk)
          (try clear hi)
          refine hK.out _ _ ⟨(blk_cell BK273.out 0).trans rfl, (blk_cell BK273.out 1).trans rfl, (blk_cell BK265.out 0).trans rfl, (blk_cell BK265.out 1).trans rfl⟩ (fun hHeld => ?_)
          clear hK K
          refine norm_ (a' := ?_) ?_ ?_
          rotate_left
          ·show Act.put _ (some 66) _ = _
           simp only [Act.put, z1_, z2_, z3_, i64_w, i32_w]
           rfl
          refine pure_ (i:=13) (N:=some 69) (v:=?_) (a':=?_) mk14_ rfl rfl (any_of HT_.out (by kernel_rfl)) (fun _ _ _ h => h) (Or.inl ⟨by rfl, ?_⟩) ?_ ?_
          rotate_left
          ·intro w'
           go_simp
           with_reducible rfl
          rotate_left
          ·simp only [Act.put, z1_, z2_, z3_, i64_w, i32_w]
           rfl
          refine pure_ (i:=14) (N:=some 70) (v:=?_) (a':=?_) mk15_ rfl rfl (any_of HT_.out (by kernel_rfl)) (fun _ _ _ h => h) (Or.inl ⟨by rfl, ?_⟩) ?_ ?_
          rotate_left
          ·intro w'
           go_simp
           with_reducible rfl
          rotate_left
          ·simp only [Act.put, z1_, z2_, z3_, i64_w, i32_w]
           rfl
          refine pure_ (i:=15) (N:=some 71) (v:=?_) (a':=?_) mk16_ rfl rfl (any_of HT_.out (by kernel_rfl)) (fun _ _ _ h => h) (Or.inl ⟨by rfl, ?_⟩) ?_ ?_
          rotate_left
          ·intro w'
           go_simp
           with_reducible rfl
          rotate_left
          ·simp only [Act.put, z1_, z2_, z3_, i64_w, i32_w]
           rfl
          refine pure_ (i:=16) (N:=some 72) (v:=?_) (a':=?_) mk17_ rfl rfl (any_of HT_.out (by kernel_rfl)) (fun _ _ _ h => h) (Or.inl ⟨by rfl, ?_⟩) ?_ ?_
          rotate_left
          ·intro w'
           go_simp
           with_reducible rfl
          rotate_left
          ·simp only [Act.put, z1_, z2_, z3_, i64_w, i32_w]
           rfl
          refine pure_ (i:=17) (N:=some 73) (v:=?_) (a':=?_) mk18_ rfl rfl (any_of HT_.out (by kernel_rfl)) (fun _ _ _ h => h) (Or.inl ⟨by rfl, ?_⟩) ?_ ?_
          rotate_left
          ·intro w'
           go_simp
           with_reducible rfl
          rotate_left
          ·simp only [Act.put, z1_, z2_, z3_, i64_w, i32_w]
           rfl
          refine pure_ (i:=18) (N:=some 74) (v:=?_) (a':=?_) mk19_ rfl rfl (any_of HT_.out (by kernel_rfl)) (fun _ _ _ h => h) (Or.inl ⟨by rfl, ?_⟩) ?_ ?_
          rotate_left
          ·intro w'
           go_simp
           with_reducible rfl
          rotate_left
          ·simp only [Act.put, z1_, z2_, z3_, i64_w, i32_w]
           rfl
          refine pure_ (i:=19) (N:=some 75) (v := undef) (a' := ?_) mk20_ rfl rfl (any_of HT_.out (by kernel_rfl)) (fun _ _ _ h => h) (Or.inr ⟨by rfl, rfl⟩) ?_ ?_
          rotate_left
          ·simp only [Act.put, z1_, z2_, z3_, i64_w, i32_w]
           rfl
          refine pure_ (i:=20) (N:=some 76) (v := undef) (a' := ?_) mk21_ rfl rfl (any_of HT_.out (by kernel_rfl)) (fun _ _ _ h => h) (Or.inr ⟨by rfl, rfl⟩) ?_ ?_
          rotate_left
          ·simp only [Act.put, z1_, z2_, z3_, i64_w, i32_w]
           rfl
          refine pure_ (i:=21) (N:=some 77) (v := undef) (a' := ?_) mk22_ rfl rfl (any_of HT_.out (by kernel_rfl)) (fun _ _ _ h => h) (Or.inr ⟨by rfl, rfl⟩) ?_ ?_
          rotate_left
          ·simp only [Act.put, z1_, z2_, z3_, i64_w, i32_w]
           rfl
          refine pure_ (i:=22) (N:=some 78) (v := undef) (a' := ?_) mk23_ rfl rfl (any_of HT_.out (by kernel_rfl)) (fun _ _ _ h => h) (Or.inr ⟨by rfl, rfl⟩) ?_ ?_
          rotate_left
          ·simp only [Act.put, z1_, z2_, z3_, i64_w, i32_w]
           rfl
          refine pure_ (i:=23) (N:=some 79) (v := undef) (a' := ?_) mk24_ rfl rfl (any_of HT_.out (by kernel_rfl)) (fun _ _ _ h => h) (Or.inr ⟨by rfl, rfl⟩) ?_ ?_
          rotate_left
          ·simp only [Act.put, z1_, z2_, z3_, i64_w, i32_w]
           rfl
          refine pure_ (i:=24) (N:=some 80) (v := undef) (a' := ?_) mk25_ rfl rfl (any_of HT_.out (by kernel_rfl)) (fun _ _ _ h => h) (Or.inr ⟨by rfl, rfl⟩) ?_ ?_
          rotate_left
          ·simp only [Act.put, z1_, z2_, z3_, i64_w, i32_w]
           rfl
          refine pure_ (i:=25) (N:=some 81) (v := undef) (a' := ?_) mk26_ rfl rfl (any_of HT_.out (by kernel_rfl)) (fun _ _ _ h => h) (Or.inr ⟨by rfl, rfl⟩) ?_ ?_
          rotate_left
          ·simp only [Act.put, z1_, z2_, z3_, i64_w, i32_w]
           rfl
          refine pure_ (i:=26) (N:=some 82) (v := undef) (a' := ?_) mk27_ rfl rfl (any_of HT_.out (by kernel_rfl)) (fun _ _ _ h => h) (Or.inr ⟨by rfl, rfl⟩) ?_ ?_
          rotate_left
          ·simp only [Act.put, z1_, z2_, z3_, i64_w, i32_w]
           rfl
          refine pure_ (i:=27) (N:=some 83) (v:=?_) (a':=?_) mk28_ rfl rfl (any_of HT_.out (by kernel_rfl)) (fun _ _ _ h => h) (Or.inl ⟨by rfl, ?_⟩) ?_ ?_
          rotate_left
          ·intro w'
           go_simp
           with_reducible rfl
          rotate_left
          ·simp only [Act.put, z1_, z2_, z3_, i64_w, i32_w]
           rfl
          refine pure_ (i:=28) (N:=some 84) (v:=?_) (a':=?_) mk29_ rfl rfl (any_of HT_.out (by kernel_rfl)) (fun _ _ _ h => h) (Or.inl ⟨by rfl, ?_⟩) ?_ ?_
          rotate_left
          ·intro w'
           go_simp
           with_reducible rfl
          rotate_left
          ·simp only [Act.put, z1_, z2_, z3_, i64_w, i32_w]
           rfl
          refine pure_ (i:=29) (N:=some 85) (v:=?_) (a':=?_) mk30_ rfl rfl (any_of HT_.out (by kernel_rfl)) (fun _ _ _ h => h) (Or.inl ⟨by rfl, ?_⟩) ?_ ?_
          rotate_left
          ·intro w'
           go_simp
           with_reducible rfl
          rotate_left
          ·simp only [Act.put, z1_, z2_, z3_, i64_w, i32_w]
           rfl
          refine pure_ (i:=30) (N:=some 86) (v:=?_) (a':=?_) mk31_ rfl rfl (any_of HT_.out (by kernel_rfl)) (fun _ _ _ h => h) (Or.inl ⟨by rfl, ?_⟩) ?_ ?_
          rotate_left
          ·intro w'
           go_simp
           with_reducible rfl
          rotate_left
          ·simp only [Act.put, z1_, z2_, z3_, i64_w, i32_w]
           rfl
          refine pure_ (i:=32) (N:=some 88) (v:=?_) (a':=?_) mk32_ rfl rfl (any_of HT_.out (by kernel_rfl)) (fun _ _ _ h => h) (Or.inl ⟨by rfl, ?_⟩) ?_ ?_
          rotate_left
          ·intro w'
           go_simp
           with_reducible rfl
          rotate_left
          ·simp only [Act.put, z1_, z2_, z3_, i64_w, i32_w]
           rfl
          refine one_ (i:=31) (N:=some 87) mk33_ rfl rfl (one_of HT_.out (by kernel_rfl)) (by decide) (fun K hK => ?_)
          refine goes_ Try.func39 (by kernel_rfl) rfl #[.slice Ao39 t268.length co39] (by rfl) rfl rfl (by (try simp only [List.map_toArray, List.map_cons, List.map_nil]); first | done | rfl | (simp only [List.length_drop, List.length_take]; rfl)) ?_
          with_reducible refine (line_Last.calls kj3 _ _ t268 t277 _ ?side1 ?side2 A33.out).mono ?_
          (case side1 => repeat (first | exact (Kd.R_reads' HO271.out).2.2 | (with_reducible refine Kd.C_alloc ?_ _) | (with_reducible refine Kd.C_drewN ?_ _) | (with_reducible refine Kd.C_drew ?_)))
          (case side2 => exact (Kd.R_reads' HO271.out).2.1)
          rintro e w48 ⟨rfl, hb⟩
          refine ⟨_, rfl, ?_⟩
          have n0_ := A0_ (Kd.R_below (by (with_reducible repeat (first | apply Kd.R_alloc | apply Kd.R_drewN | apply Kd.R_drew)); exact HO271.out) hb)
          have n1_ := A0_ (blk_below (g:=gb265) (o:=.cells #[.slice A0_0 l0_0.length c0_0, .int .i64 a0_1] 39 (0, 0)) (by (with_reducible repeat (first | refine blk_drewN ?_ _ | refine blk_drew ?_ | refine blk_alloc ?_ _)); exact BK265.out) hb)
          have n2_ := A0_ (blk_below (g:=gb273) (o:=.cells #[.slice Ao39 t268.length co39, .int .i64 (wrap64 (a0_1 + a2))] 39 (0, 0)) (by (with_reducible repeat (first | refine blk_drewN ?_ _ | refine blk_drew ?_ | refine blk_alloc ?_ _)); exact BK273.out) hb)
          have n3_ := A0_ (below_step (by repeat (first | (with_reducible first | exact HB.out | apply below_alloc | apply pw_below_drewN | apply below_drew1 | refine below_set ?_ GE265.out | refine below_set ?_ GE273.out) | exact HB.out)) hb)
          clear HO271
          clear BK265
          clear BK273
          clear HB
          have HO271 := n0_
          have BK265 := n1_
          have BK273 := n2_
          have HB := n3_
          clear n0_ n1_ n2_ n3_
          (try clear hb)
          (try clear hb2)
          (try clear hk)
          (try clear hi)
          refine hK.out _ _ ⟨(blk_cell BK273.out 0).trans rfl, (blk_cell BK273.out 1).trans rfl, (blk_cell BK265.out 0).trans rfl, (blk_cell BK265.out 1).trans rfl⟩ (fun hHeld => ?_)
          clear hK K
          refine norm_ (a' := ?_) ?_ ?_
          rotate_left
          ·show Act.put _ (some 87) _ = _
           simp only [Act.put, z1_, z2_, z3_, i64_w, i32_w]
           rfl
          refine pure_ (i:=33) (N:=some 89) (v:=?_) (a':=?_) mk34_ rfl rfl (any_of HT_.out (by kernel_rfl)) (fun _ _ _ h => h) (Or.inl ⟨by rfl, ?_⟩) ?_ ?_
          rotate_left
          ·intro w'
           go_simp
           with_reducible rfl
          rotate_left
          ·simp only [Act.put, z1_, z2_, z3_, i64_w, i32_w]
           rfl
          refine pure_ (i:=34) (N:=some 90) (v:=?_) (a':=?_) mk35_ rfl rfl (any_of HT_.out (by kernel_rfl)) (fun _ _ _ h => h) (Or.inl ⟨by rfl, ?_⟩) ?_ ?_
          rotate_left
          ·intro w'
           go_simp
           with_reducible rfl
          rotate_left
          ·simp only [Act.put, z1_, z2_, z3_, i64_w, i32_w]
           rfl
          refine pure_ (i:=35) (N:=some 91) (v:=?_) (a':=?_) mk36_ rfl rfl (any_of HT_.out (by kernel_rfl)) (fun _ _ _ h => h) (Or.inl ⟨by rfl, ?_⟩) ?_ ?_
          rotate_left
          ·intro w'
           go_simp
           with_reducible rfl
          rotate_left
          ·simp only [Act.put, z1_, z2_, z3_, i64_w, i32_w]
           rfl
          refine one_ (i:=36) (N:=some 92) mk37_ rfl rfl (one_of HT_.out (by kernel_rfl)) (by decide) (fun K hK => ?_)
          refine goes_ Try.func22 (by kernel_rfl) rfl #[] (by rfl) rfl rfl (by (try simp only [List.map_toArray, List.map_cons, List.map_nil]); first | done | rfl | (simp only [List.length_drop, List.length_take]; rfl)) ?_
          with_reducible refine (counterfoillaw11_awake.calls kj3  t278 _ A35.out).mono ?_
          rintro e w49 ⟨rfl, hb⟩
          refine ⟨_, rfl, ?_⟩
          have n0_ := A0_ (Kd.R_below (by (with_reducible repeat (first | apply Kd.R_alloc | apply Kd.R_drewN | apply Kd.R_drew)); exact HO271.out) hb)
          have n1_ := A0_ (blk_below (g:=gb265) (o:=.cells #[.slice A0_0 l0_0.length c0_0, .int .i64 a0_1] 39 (0, 0)) (by (with_reducible repeat (first | refine blk_drewN ?_ _ | refine blk_drew ?_ | refine blk_alloc ?_ _)); exact BK265.out) hb)
          have n2_ := A0_ (blk_below (g:=gb273) (o:=.cells #[.slice Ao39 t268.length co39, .int .i64 (wrap64 (a0_1 + a2))] 39 (0, 0)) (by (with_reducible repeat (first | refine blk_drewN ?_ _ | refine blk_drew ?_ | refine blk_alloc ?_ _)); exact BK273.out) hb)
          have n3_ := A0_ (below_step (by repeat (first | (with_reducible first | exact HB.out | apply below_alloc | apply pw_below_drewN | apply below_drew1 | refine below_set ?_ GE265.out | refine below_set ?_ GE273.out) | exact HB.out)) hb)
          clear HO271
          clear BK265
          clear BK273
          clear HB
          have HO271 := n0_
          have BK265 := n1_
          have BK273 := n2_
          have HB := n3_
          clear n0_ n1_ n2_ n3_
          (try clear hb)
          (try clear hb2)
          (try clear hk)
          (try clear hi)
          refine hK.out _ _ ⟨(blk_cell BK273.out 0).trans rfl, (blk_cell BK273.out 1).trans rfl, (blk_cell BK265.out 0).trans rfl, (blk_cell BK265.out 1).trans rfl⟩ (fun hHeld => ?_)
          clear hK K
          refine norm_ (a' := ?_) ?_ ?_
          rotate_left
          ·show Act.put _ (some 92) _ = _
           simp only [Act.put, z1_, z2_, z3_, i64_w, i32_w]
           rfl
          refine pure_ (i:=37) (N:=some 93) (v:=?_) (a':=?_) mk38_ rfl rfl (any_of HT_.out (by kernel_rfl)) (fun _ _ _ h => h) (Or.inl ⟨by rfl, ?_⟩) ?_ ?_
          rotate_left
          ·intro w'
           go_simp
           with_reducible rfl
          rotate_left
          ·simp only [Act.put, z1_, z2_, z3_, i64_w, i32_w]
           rfl
          refine pure_ (i:=38) (N:=some 6) (v:=?_) (a':=?_) mk39_ rfl rfl (any_of HT_.out (by kernel_rfl)) (fun _ _ _ h => h) (Or.inl ⟨by rfl, ?_⟩) ?_ ?_
          rotate_left
          ·intro w'
           go_simp
           with_reducible rfl
          rotate_left
          ·simp only [Act.put, z1_, z2_, z3_, i64_w, i32_w]
           rfl
          refine done_ (done_of HT_.out (by kernel_rfl)) ?_
          try go_wp2
          go_ret
          exact ⟨by first | rfl | (simp [errW_none, errW_some] <;> rfl) | (simp [*, errW_none, errW_some] <;> rfl), by repeat (first | (with_reducible first | exact HB.out | apply below_alloc | apply pw_below_drewN | apply below_drew1 | refine below_set ?_ GE265.out | refine below_set ?_ GE273.out) | exact HB.out)⟩
         ·rw [if_neg c34] at H
          have c34b0 : (t277 == a1) = false := beq_eq_false_iff_ne.mpr c34
          have c34b1 : (t277 != a1) = true := bne_iff_ne.mpr c34
          obtain rfl := Option.some.inj H
          have hcz50_0 : wc.cell? ⟨gb265, 0, none⟩ = some (.slice A0_0 l0_0.length c0_0) := (blk_cell BK265.out 0).trans rfl
          have hcz50_1 : wc.cell? ⟨gb265, 1, none⟩ = some (.int .i64 a0_1) := (blk_cell BK265.out 1).trans rfl
          have hfz50_0 := blk_frozen BK265.out 0
          have hfz50_1 := blk_frozen BK265.out 1
          try go_wp2_with (first | ((with_reducible refine gate_callee (f := 35) rfl ?_); refine goesL_ (some 39) rfl rfl Try.func35 (by kernel_rfl) rfl #[.slice A0_0 l0_0.length c0_0, .int .i64 a1, .int .i64 a0_1] rfl (by (try simp only [List.map_toArray, List.map_cons, List.map_nil]); first | done | rfl | (simp only [List.length_drop, List.length_take]; rfl)) ?_; (with_reducible refine (line_Grow.calls kj3 _ _ l0_0 a1 a0_1 t268 t269 _ ?side1 ?side2 A24.out).mono ?_); (case side1 => repeat (first | exact (Kd.C_below HR0_0.out HB.out) | (with_reducible refine Kd.C_alloc ?_ _) | (with_reducible refine Kd.C_drewN ?_ _) | (with_reducible refine Kd.C_drew ?_))); (case side2 => exact HC0_0.out); rintro e w51 ⟨v270, rfl, ho0, hb⟩; refine ⟨_, rfl, ?_⟩; have n0_ := A0_ (Kd.R_lower ho0 (below_size (by repeat (first | (with_reducible first | exact HB.out | apply below_alloc | apply pw_below_drewN | apply below_drew1 | refine below_set ?_ GE265.out) | exact HB.out)))); have n1_ := A0_ (blk_below (g:=gb265) (o:=.cells #[.slice A0_0 l0_0.length c0_0, .int .i64 a0_1] 39 (0, 0)) (by (with_reducible repeat (first | refine blk_drewN ?_ _ | refine blk_drew ?_ | refine blk_alloc ?_ _)); exact BK265.out) hb); have n2_ := A0_ (below_step (by repeat (first | (with_reducible first | exact HB.out | apply below_alloc | apply pw_below_drewN | apply below_drew1 | refine below_set ?_ GE265.out) | exact HB.out)) hb); clear BK265; clear HB; have HO271 := n0_; have BK265 := n1_; have HB := n2_; clear n0_ n1_ n2_; (try clear hb); (try clear hb2); (try clear hk); (try clear hi); (try clear ho0); have hcz52_0 : w51.cell? ⟨gb265, 0, none⟩ = some (.slice A0_0 l0_0.length c0_0) := (blk_cell BK265.out 0).trans rfl; have hcz52_1 : w51.cell? ⟨gb265, 1, none⟩ = some (.int .i64 a0_1) := (blk_cell BK265.out 1).trans rfl; have hfz52_0 := blk_frozen BK265.out 0; have hfz52_1 := blk_frozen BK265.out 1; obtain ⟨Ao53, co53, eo53⟩ := Kd.R_slice HO271.out; subst eo53) | ((with_reducible refine gate_dst (N:=9) rfl ?_); refine box_event ?hg (N:=9) ?hd (cs := #[.slice none 0 0, .int .i64 0]) (t := 39) ?hr ?_; (case hd => rfl); (case hg => rfl); (case hr => first | (go_simp; done) | (go_simp; rfl)); intro gb273 hg w54 hbox hb; have n0_ := A0_ (Kd.R_below (by (with_reducible repeat (first | apply Kd.R_alloc | apply Kd.R_drewN | apply Kd.R_drew)); exact HO271.out) hb); have n1_ := A0_ (blk_below (g:=gb265) (o:=.cells #[.slice A0_0 l0_0.length c0_0, .int .i64 a0_1] 39 (0, 0)) (by (with_reducible repeat (first | refine blk_drewN ?_ _ | refine blk_drew ?_ | refine blk_alloc ?_ _)); exact BK265.out) hb); have n2_ := A0_ (below_step (by repeat (first | (with_reducible first | exact HB.out | apply below_alloc | apply pw_below_drewN | apply below_drew1 | refine below_set ?_ GE265.out) | exact HB.out)) hb); have n3_ := A0_ (hbox); have n4_ := A0_ ((by rw [hg]; exact (below_size (by repeat (first | (with_reducible first | exact HB.out | apply below_alloc | apply pw_below_drewN | apply below_drew1 | refine below_set ?_ GE265.out) | exact HB.out))) : w.heap.size ≤ gb273)); have n5_ := A0_ ((by rw [hg]; exact (below_size (by repeat (first | (with_reducible first | exact HB.out | apply below_alloc | apply pw_below_drewN | apply below_drew1 | refine below_set ?_ GE265.out) | exact HB.out))) : w.heap.size ≤ gb273)); have n6_ := A0_ ((by rw [hg]; exact Nat.ne_of_lt (blk_lt (g:=gb265) (o:=.cells #[.slice A0_0 l0_0.length c0_0, .int .i64 a0_1] 39 (0, 0)) (by (with_reducible repeat (first | refine blk_drewN ?_ _ | refine blk_drew ?_ | refine blk_alloc ?_ _)); exact BK265.out)) : gb265 ≠ gb273)); have n7_ := A0_ ((by rw [hg]; exact Nat.ne_of_gt (blk_lt (g:=gb265) (o:=.cells #[.slice A0_0 l0_0.length c0_0, .int .i64 a0_1] 39 (0, 0)) (by (with_reducible repeat (first | refine blk_drewN ?_ _ | refine blk_drew ?_ | refine blk_alloc ?_ _)); exact BK265.out)) : gb273 ≠ gb265)); clear HO271; clear BK265; clear HB; have HO271 := n0_; have BK265 := n1_; have HB := n2_; have BK273 := n3_; have GW273 := n4_; have GE273 := n5_; have NB265_273 := n6_; have NB273_265 := n7_; clear n0_ n1_ n2_ n3_ n4_ n5_ n6_ n7_; clear hb hbox hg; have hnb55 := NB273_265.out; have hnc55 := NB265_273.out; have hcz56_0 : w54.cell? ⟨gb273, 0, none⟩ = some (.slice none 0 0) := (blk_cell BK273.out 0).trans rfl; have hcz56_1 : w54.cell? ⟨gb273, 1, none⟩ = some (.int .i64 0) := (blk_cell BK273.out 1).trans rfl; have hfz56_0 := blk_frozen BK273.out 0; have hfz56_1 := blk_frozen BK273.out 1))
          have n0_ : Aside0 (Kd.R k61 61 ((w54.setCell ⟨gb273, 0, none⟩ (.slice Ao53 t268.length co53)).setCell ⟨gb273, 1, none⟩ (.int .i64 (wrap64 (a0_1 + a2)))) w.heap.size (fun _ => True) (.slice Ao53 t268.length co53) t268) := ⟨by (with_reducible repeat (first | apply Kd.R_alloc | apply Kd.R_drewN | apply Kd.R_drew)); exact Kd.R_mono (Kd.R_far (p := ⟨gb273, 1, none⟩) (Kd.R_far (p := ⟨gb273, 0, none⟩) (Kd.R_types HO271.out BK273.out (by decide)) (fun _ hk => hk.2) (.slice Ao53 t268.length co53)) (fun _ hk => hk.2) (.int .i64 (wrap64 (a0_1 + a2)))) (fun _ hk => trivial)⟩
          have n1_ : Aside0 (((w54.setCell ⟨gb273, 0, none⟩ (.slice Ao53 t268.length co53)).setCell ⟨gb273, 1, none⟩ (.int .i64 (wrap64 (a0_1 + a2)))).heap[gb265]? = some (.cells #[.slice A0_0 l0_0.length c0_0, .int .i64 a0_1] 39 (0, 0))) := ⟨by (with_reducible repeat (first | refine blk_drewN ?_ _ | refine blk_drew ?_ | refine blk_alloc ?_ _)); refine blk_far ?_ NB265_273.out _; (with_reducible repeat (first | refine blk_drewN ?_ _ | refine blk_drew ?_ | refine blk_alloc ?_ _)); refine blk_far ?_ NB265_273.out _; (with_reducible repeat (first | refine blk_drewN ?_ _ | refine blk_drew ?_ | refine blk_alloc ?_ _)); exact BK265.out⟩
          have n2_ : Aside0 (((w54.setCell ⟨gb273, 0, none⟩ (.slice Ao53 t268.length co53)).setCell ⟨gb273, 1, none⟩ (.int .i64 (wrap64 (a0_1 + a2)))).heap[gb273]? = some (.cells #[.slice Ao53 t268.length co53, .int .i64 (wrap64 (a0_1 + a2))] 39 (0, 0))) := ⟨by (with_reducible repeat (first | refine blk_drewN ?_ _ | refine blk_drew ?_ | refine blk_alloc ?_ _)); refine blk_put (cs := #[.slice Ao53 t268.length co53, .int .i64 0]) ?_ 1 _ rfl; (with_reducible repeat (first | refine blk_drewN ?_ _ | refine blk_drew ?_ | refine blk_alloc ?_ _)); refine blk_put (cs := #[.slice none 0 0, .int .i64 0]) ?_ 0 _ rfl; (with_reducible repeat (first | refine blk_drewN ?_ _ | refine blk_drew ?_ | refine blk_alloc ?_ _)); exact BK273.out⟩
          have n3_ : Aside0 (Below w.heap.size w ((w54.setCell ⟨gb273, 0, none⟩ (.slice Ao53 t268.length co53)).setCell ⟨gb273, 1, none⟩ (.int .i64 (wrap64 (a0_1 + a2))))) := ⟨by repeat (first | (with_reducible first | exact HB.out | apply below_alloc | apply pw_below_drewN | apply below_drew1 | refine below_set ?_ GE265.out | refine below_set ?_ GE273.out) | exact HB.out)⟩
          (try clear HO271)
          (try clear BK265)
          (try clear BK273)
          (try clear HB)
          generalize ((w54.setCell ⟨gb273, 0, none⟩ (.slice Ao53 t268.length co53)).setCell ⟨gb273, 1, none⟩ (.int .i64 (wrap64 (a0_1 + a2)))) = w57 at n0_ n1_ n2_ n3_ ⊢
          have HO271 := n0_
          have BK265 := n1_
          have BK273 := n2_
          have HB := n3_
          clear n0_ n1_ n2_ n3_
          have n0_ := A0_ (Kd.R_drew HO271.out)
          have n1_ := A0_ (blk_drew BK265.out)
          have n2_ := A0_ (blk_drew BK273.out)
          have n3_ := A0_ (below_drew1 HB.out)
          clear HO271
          clear BK265
          clear BK273
          clear HB
          have HO271 := n0_
          have BK265 := n1_
          have BK273 := n2_
          have HB := n3_
          clear n0_ n1_ n2_ n3_
          refine start_ (n := 39) (S := fun w' => w'.cell? ⟨gb273, 0, none⟩ = some (.slice Ao53 t268.length co53) ∧ w'.cell? ⟨gb273, 1, none⟩ = some (.int .i64 (wrap64 (a0_1 + a2))) ∧ w'.cell? ⟨gb265, 0, none⟩ = some (.slice A0_0 l0_0.length c0_0) ∧ w'.cell? ⟨gb265, 1, none⟩ = some (.int .i64 a0_1)) (ds := []) mk0_ (by kernel_rfl) rfl rfl ⟨(blk_cell BK273.out 0).trans rfl, (blk_cell BK273.out 1).trans rfl, (blk_cell BK265.out 0).trans rfl, (blk_cell BK265.out 1).trans rfl⟩ (fun hHeld => ?_); refine with_tabW counterfoillaw11_LineGoes.tab7 counterfoillaw11_LineGoes.bits7 (fun HT_ HW_ => ?_)
          generalize w57.drew = w58 at HO271 BK265 BK273 HB hHeld ⊢
          refine take_ (i:=0) (N:=some 56) (v:=?_) (a':=?_) mk1_ rfl rfl (take_ofW HT_.out HW_.out (by kernel_rfl)) (fun _ _ _ h => h) (Or.inl ⟨by rfl, ?_⟩) hHeld ?_ ?_
          rotate_left
          ·rintro w' ⟨s0, s1, s2, s3⟩
           go_simp
           with_reducible rfl
          rotate_left
          ·simp only [Act.put, z1_, z2_, z3_, i64_w, i32_w]
           rfl
          refine one_ (i:=1) (N:=some 57) mk2_ rfl rfl (one_of HT_.out (by kernel_rfl)) (by decide) (fun K hK => ?_)
          refine goes_ Try.func23 (by kernel_rfl) rfl #[.agg #[.slice Ao53 t268.length co53, .int .i64 (wrap64 (a0_1 + a2))]] (by rfl) rfl rfl (by (try simp only [List.map_toArray, List.map_cons, List.map_nil]); first | done | rfl | (simp only [List.length_drop, List.length_take]; rfl)) ?_
          with_reducible refine (line_Placed.calls kj3 _ _ t268 (wrap64 (a0_1 + a2)) true _ ?side1 ?side2 A26.out).mono ?_
          (case side1 => repeat (first | exact (Kd.R_reads' HO271.out).2.2 | (with_reducible refine Kd.C_alloc ?_ _) | (with_reducible refine Kd.C_drewN ?_ _) | (with_reducible refine Kd.C_drew ?_)))
          (case side2 => exact (Kd.R_reads' HO271.out).2.1)
          rintro e w59 ⟨rfl, hb⟩
          refine ⟨_, rfl, ?_⟩
          have n0_ := A0_ (Kd.R_below (by (with_reducible repeat (first | apply Kd.R_alloc | apply Kd.R_drewN | apply Kd.R_drew)); exact HO271.out) hb)
          have n1_ := A0_ (blk_below (g:=gb265) (o:=.cells #[.slice A0_0 l0_0.length c0_0, .int .i64 a0_1] 39 (0, 0)) (by (with_reducible repeat (first | refine blk_drewN ?_ _ | refine blk_drew ?_ | refine blk_alloc ?_ _)); exact BK265.out) hb)
          have n2_ := A0_ (blk_below (g:=gb273) (o:=.cells #[.slice Ao53 t268.length co53, .int .i64 (wrap64 (a0_1 + a2))] 39 (0, 0)) (by (with_reducible repeat (first | refine blk_drewN ?_ _ | refine blk_drew ?_ | refine blk_alloc ?_ _)); exact BK273.out) hb)
          have n3_ := A0_ (below_step (by repeat (first | (with_reducible first | exact HB.out | apply below_alloc | apply pw_below_drewN | apply below_drew1 | refine below_set ?_ GE265.out | refine below_set ?_ GE273.out) | exact HB.out)) hb)
          clear HO271
          clear BK265
          clear BK273
          clear HB
          have HO271 := n0_
          have BK265 := n1_
          have BK273 := n2_
          have HB := n3_
          clear n0_ n1_ n2_ n3_
          (try clear hb)
          (try clear hb2)
          (try clear hk)
          (try clear hi)
          refine hK.out _ _ ⟨(blk_cell BK273.out 0).trans rfl, (blk_cell BK273.out 1).trans rfl, (blk_cell BK265.out 0).trans rfl, (blk_cell BK265.out 1).trans rfl⟩ (fun hHeld => ?_)
          clear hK K
          refine norm_ (a' := ?_) ?_ ?_
          rotate_left
          ·show Act.put _ (some 57) _ = _
           simp only [Act.put, z1_, z2_, z3_, i64_w, i32_w]
           rfl
          refine pure_ (i:=2) (N:=some 58) (v:=?_) (a':=?_) mk3_ rfl rfl (any_of HT_.out (by kernel_rfl)) (fun _ _ _ h => h) (Or.inl ⟨by rfl, ?_⟩) ?_ ?_
          rotate_left
          ·intro w'
           go_simp
           with_reducible rfl
          rotate_left
          ·simp only [Act.put, z1_, z2_, z3_, i64_w, i32_w]
           rfl
          refine take_ (i:=3) (N:=some 59) (v:=?_) (a':=?_) mk4_ rfl rfl (take_ofW HT_.out HW_.out (by kernel_rfl)) (fun _ _ _ h => h) (Or.inl ⟨by rfl, ?_⟩) hHeld ?_ ?_
          rotate_left
          ·rintro w' ⟨s0, s1, s2, s3⟩
           go_simp
           with_reducible rfl
          rotate_left
          ·simp only [Act.put, z1_, z2_, z3_, i64_w, i32_w]
           rfl
          refine take_ (i:=4) (N:=some 60) (v:=?_) (a':=?_) mk5_ rfl rfl (take_ofW HT_.out HW_.out (by kernel_rfl)) (fun _ _ _ h => h) (Or.inl ⟨by rfl, ?_⟩) hHeld ?_ ?_
          rotate_left
          ·rintro w' ⟨s0, s1, s2, s3⟩
           go_simp
           with_reducible rfl
          rotate_left
          ·simp only [Act.put, z1_, z2_, z3_, i64_w, i32_w]
           rfl
          refine one_ (i:=5) (N:=some 61) mk6_ rfl rfl (one_of HT_.out (by kernel_rfl)) (by decide) (fun K hK => ?_)
          refine goes_ Try.func29 (by kernel_rfl) rfl #[.agg #[.slice A0_0 l0_0.length c0_0, .int .i64 a0_1], .agg #[.slice Ao53 t268.length co53, .int .i64 (wrap64 (a0_1 + a2))]] (by rfl) rfl rfl (by (try simp only [List.map_toArray, List.map_cons, List.map_nil]); first | done | rfl | (simp only [List.length_drop, List.length_take]; rfl)) ?_
          with_reducible refine (line_Ahead.calls kj3 _ _ l0_0 a0_1 _ _ t268 (wrap64 (a0_1 + a2)) true _ ?side1 ?side2 ?side3 ?side4 A28.out).mono ?_
          (case side1 => repeat (first | exact (Kd.C_below HR0_0.out HB.out) | (with_reducible refine Kd.C_alloc ?_ _) | (with_reducible refine Kd.C_drewN ?_ _) | (with_reducible refine Kd.C_drew ?_)))
          (case side2 => exact HC0_0.out)
          (case side3 => repeat (first | exact (Kd.R_reads' HO271.out).2.2 | (with_reducible refine Kd.C_alloc ?_ _) | (with_reducible refine Kd.C_drewN ?_ _) | (with_reducible refine Kd.C_drew ?_)))
          (case side4 => exact (Kd.R_reads' HO271.out).2.1)
          rintro e w60 ⟨rfl, hb⟩
          refine ⟨_, rfl, ?_⟩
          have n0_ := A0_ (Kd.R_below (by (with_reducible repeat (first | apply Kd.R_alloc | apply Kd.R_drewN | apply Kd.R_drew)); exact HO271.out) hb)
          have n1_ := A0_ (blk_below (g:=gb265) (o:=.cells #[.slice A0_0 l0_0.length c0_0, .int .i64 a0_1] 39 (0, 0)) (by (with_reducible repeat (first | refine blk_drewN ?_ _ | refine blk_drew ?_ | refine blk_alloc ?_ _)); exact BK265.out) hb)
          have n2_ := A0_ (blk_below (g:=gb273) (o:=.cells #[.slice Ao53 t268.length co53, .int .i64 (wrap64 (a0_1 + a2))] 39 (0, 0)) (by (with_reducible repeat (first | refine blk_drewN ?_ _ | refine blk_drew ?_ | refine blk_alloc ?_ _)); exact BK273.out) hb)
          have n3_ := A0_ (below_step (by repeat (first | (with_reducible first | exact HB.out | apply below_alloc | apply pw_below_drewN | apply below_drew1 | refine below_set ?_ GE265.out | refine below_set ?_ GE273.out) | exact HB.out)) hb)
          clear HO271
          clear BK265
          clear BK273
          clear HB
          have HO271 := n0_
          have BK265 := n1_
          have BK273 := n2_
          have HB := n3_
          clear n0_ n1_ n2_ n3_
          (try clear hb)
          (try clear hb2)
          (try clear hk)
          (try clear hi)
          refine hK.out _ _ ⟨(blk_cell BK273.out 0).trans rfl, (blk_cell BK273.out 1).trans rfl, (blk_cell BK265.out 0).trans rfl, (blk_cell BK265.out 1).trans rfl⟩ (fun hHeld => ?_)
          clear hK K
          refine norm_ (a' := ?_) ?_ ?_
          rotate_left
          ·show Act.put _ (some 61) _ = _
           simp only [Act.put, z1_, z2_, z3_, i64_w, i32_w]
           rfl
          refine pure_ (i:=6) (N:=some 62) (v:=?_) (a':=?_) mk7_ rfl rfl (any_of HT_.out (by kernel_rfl)) (fun _ _ _ h => h) (Or.inl ⟨by rfl, ?_⟩) ?_ ?_
          rotate_left
          ·intro w'
           go_simp
           with_reducible rfl
          rotate_left
          ·simp only [Act.put, z1_, z2_, z3_, i64_w, i32_w]
           rfl
          refine pure_ (i:=7) (N:=some 63) (v:=?_) (a':=?_) mk8_ rfl rfl (any_of HT_.out (by kernel_rfl)) (fun _ _ _ h => h) (Or.inl ⟨by rfl, ?_⟩) ?_ ?_
          rotate_left
          ·intro w'
           go_simp
           with_reducible rfl
          rotate_left
          ·simp only [Act.put, z1_, z2_, z3_, i64_w, i32_w]
           rfl
          refine pure_ (i:=11) (N:=some 67) (v:=?_) (a':=?_) mk9_ rfl rfl (any_of HT_.out (by kernel_rfl)) (fun _ _ _ h => h) (Or.inl ⟨by rfl, ?_⟩) ?_ ?_
          rotate_left
          ·intro w'
           go_simp
           with_reducible rfl
          rotate_left
          ·simp only [Act.put, z1_, z2_, z3_, i64_w, i32_w]
           rfl
          refine take_ (i:=8) (N:=some 64) (v:=?_) (a':=?_) mk10_ rfl rfl (take_ofW HT_.out HW_.out (by kernel_rfl)) (fun _ _ _ h => h) (Or.inl ⟨by rfl, ?_⟩) hHeld ?_ ?_
          rotate_left
          ·rintro w' ⟨s0, s1, s2, s3⟩
           go_simp
           with_reducible rfl
          rotate_left
          ·simp only [Act.put, z1_, z2_, z3_, i64_w, i32_w]
           rfl
          refine take_ (i:=9) (N:=some 65) (v:=?_) (a':=?_) mk11_ rfl rfl (take_ofW HT_.out HW_.out (by kernel_rfl)) (fun _ _ _ h => h) (Or.inl ⟨by rfl, ?_⟩) hHeld ?_ ?_
          rotate_left
          ·rintro w' ⟨s0, s1, s2, s3⟩
           go_simp
           with_reducible rfl
          rotate_left
          ·simp only [Act.put, z1_, z2_, z3_, i64_w, i32_w]
           rfl
          refine take_ (i:=12) (N:=some 68) (v:=?_) (a':=?_) mk12_ rfl rfl (take_ofW HT_.out HW_.out (by kernel_rfl)) (fun _ _ _ h => h) (Or.inl ⟨by rfl, ?_⟩) hHeld ?_ ?_
          rotate_left
          ·rintro w' ⟨s0, s1, s2, s3⟩
           go_simp
           with_reducible rfl
          rotate_left
          ·simp only [Act.put, z1_, z2_, z3_, i64_w, i32_w]
           rfl
          refine one_ (i:=10) (N:=some 66) mk13_ rfl rfl (one_of HT_.out (by kernel_rfl)) (by decide) (fun K hK => ?_)
          refine goes_ Try.func27 (by kernel_rfl) rfl #[.agg #[.slice A0_0 l0_0.length c0_0, .int .i64 a0_1], .agg #[.slice Ao53 t268.length co53, .int .i64 (wrap64 (a0_1 + a2))]] (by rfl) rfl rfl (by (try simp only [List.map_toArray, List.map_cons, List.map_nil]); first | done | rfl | (simp only [List.length_drop, List.length_take]; rfl)) ?_
          with_reducible refine (line_Common.calls kj3 _ _ l0_0 a0_1 _ _ t268 (wrap64 (a0_1 + a2)) t276 _ ?side1 ?side2 ?side3 ?side4 A30.out).mono ?_
          (case side1 => repeat (first | exact (Kd.C_below HR0_0.out HB.out) | (with_reducible refine Kd.C_alloc ?_ _) | (with_reducible refine Kd.C_drewN ?_ _) | (with_reducible refine Kd.C_drew ?_)))
          (case side2 => exact HC0_0.out)
          (case side3 => repeat (first | exact (Kd.R_reads' HO271.out).2.2 | (with_reducible refine Kd.C_alloc ?_ _) | (with_reducible refine Kd.C_drewN ?_ _) | (with_reducible refine Kd.C_drew ?_)))
          (case side4 => exact (Kd.R_reads' HO271.out).2.1)
          rintro e w61 ⟨rfl, hb⟩
          refine ⟨_, rfl, ?_⟩
          have n0_ := A0_ (Kd.R_below (by (with_reducible repeat (first | apply Kd.R_alloc | apply Kd.R_drewN | apply Kd.R_drew)); exact HO271.out) hb)
          have n1_ := A0_ (blk_below (g:=gb265) (o:=.cells #[.slice A0_0 l0_0.length c0_0, .int .i64 a0_1] 39 (0, 0)) (by (with_reducible repeat (first | refine blk_drewN ?_ _ | refine blk_drew ?_ | refine blk_alloc ?_ _)); exact BK265.out) hb)
          have n2_ := A0_ (blk_below (g:=gb273) (o:=.cells #[.slice Ao53 t268.length co53, .int .i64 (wrap64 (a0_1 + a2))] 39 (0, 0)) (by (with_reducible repeat (first | refine blk_drewN ?_ _ | refine blk_drew ?_ | refine blk_alloc ?_ _)); exact BK273.out) hb)
          have n3_ := A0_ (below_step (by repeat (first | (with_reducible first | exact HB.out | apply below_alloc | apply pw_below_drewN | apply below_drew1 | refine below_set ?_ GE265.out | refine below_set ?_ GE273.out) | exact HB.out)) hb)
          clear HO271
          clear BK265
          clear BK273
          clear HB
          have HO271 := n0_
          have BK265 := n1_
          have BK273 := n2_
          have HB := n3_
          clear n0_ n1_ n2_ n3_
          (try clear hb)
          (try clear hb2)
          (try clear hk)
          (try clear hi)
          refine hK.out _ _ ⟨(blk_cell BK273.out 0).trans rfl, (blk_cell BK273.out 1).trans rfl, (blk_cell BK265.out 0).trans rfl, (blk_cell BK265.out 1).trans rfl⟩ (fun hHeld => ?_)
          clear hK K
          refine norm_ (a' := ?_) ?_ ?_
          rotate_left
          ·show Act.put _ (some 66) _ = _
           simp only [Act.put, z1_, z2_, z3_, i64_w, i32_w]
           rfl
          refine pure_ (i:=13) (N:=some 69) (v:=?_) (a':=?_) mk14_ rfl rfl (any_of HT_.out (by kernel_rfl)) (fun _ _ _ h => h) (Or.inl ⟨by rfl, ?_⟩) ?_ ?_
          rotate_left
          ·intro w'
           go_simp
           with_reducible rfl
          rotate_left
          ·simp only [Act.put, z1_, z2_, z3_, i64_w, i32_w]
           rfl
          refine pure_ (i:=14) (N:=some 70) (v:=?_) (a':=?_) mk15_ rfl rfl (any_of HT_.out (by kernel_rfl)) (fun _ _ _ h => h) (Or.inl ⟨by rfl, ?_⟩) ?_ ?_
          rotate_left
          ·intro w'
           go_simp
           with_reducible rfl
          rotate_left
          ·simp only [Act.put, z1_, z2_, z3_, i64_w, i32_w]
           rfl
          refine pure_ (i:=15) (N:=some 71) (v:=?_) (a':=?_) mk16_ rfl rfl (any_of HT_.out (by kernel_rfl)) (fun _ _ _ h => h) (Or.inl ⟨by rfl, ?_⟩) ?_ ?_
          rotate_left
          ·intro w'
           go_simp
           with_reducible rfl
          rotate_left
          ·simp only [Act.put, z1_, z2_, z3_, i64_w, i32_w]
           rfl
          refine pure_ (i:=16) (N:=some 72) (v:=?_) (a':=?_) mk17_ rfl rfl (any_of HT_.out (by kernel_rfl)) (fun _ _ _ h => h) (Or.inl ⟨by rfl, ?_⟩) ?_ ?_
          rotate_left
          ·intro w'
           go_simp
           with_reducible rfl
          rotate_left
          ·simp only [Act.put, z1_, z2_, z3_, i64_w, i32_w]
           rfl
          refine pure_ (i:=17) (N:=some 73) (v:=?_) (a':=?_) mk18_ rfl rfl (any_of HT_.out (by kernel_rfl)) (fun _ _ _ h => h) (Or.inl ⟨by rfl, ?_⟩) ?_ ?_
          rotate_left
          ·intro w'
           go_simp
           with_reducible rfl
          rotate_left
          ·simp only [Act.put, z1_, z2_, z3_, i64_w, i32_w]
           rfl
          refine pure_ (i:=18) (N:=some 74) (v:=?_) (a':=?_) mk19_ rfl rfl (any_of HT_.out (by kernel_rfl)) (fun _ _ _ h => h) (Or.inl ⟨by rfl, ?_⟩) ?_ ?_
          rotate_left
          ·intro w'
           go_simp
           with_reducible rfl
          rotate_left
          ·simp only [Act.put, z1_, z2_, z3_, i64_w, i32_w]
           rfl
          refine pure_ (i:=19) (N:=some 75) (v := undef) (a' := ?_) mk20_ rfl rfl (any_of HT_.out (by kernel_rfl)) (fun _ _ _ h => h) (Or.inr ⟨by rfl, rfl⟩) ?_ ?_
          rotate_left
          ·simp only [Act.put, z1_, z2_, z3_, i64_w, i32_w]
           rfl
          refine pure_ (i:=20) (N:=some 76) (v := undef) (a' := ?_) mk21_ rfl rfl (any_of HT_.out (by kernel_rfl)) (fun _ _ _ h => h) (Or.inr ⟨by rfl, rfl⟩) ?_ ?_
          rotate_left
          ·simp only [Act.put, z1_, z2_, z3_, i64_w, i32_w]
           rfl
          refine pure_ (i:=21) (N:=some 77) (v := undef) (a' := ?_) mk22_ rfl rfl (any_of HT_.out (by kernel_rfl)) (fun _ _ _ h => h) (Or.inr ⟨by rfl, rfl⟩) ?_ ?_
          rotate_left
          ·simp only [Act.put, z1_, z2_, z3_, i64_w, i32_w]
           rfl
          refine pure_ (i:=22) (N:=some 78) (v := undef) (a' := ?_) mk23_ rfl rfl (any_of HT_.out (by kernel_rfl)) (fun _ _ _ h => h) (Or.inr ⟨by rfl, rfl⟩) ?_ ?_
          rotate_left
          ·simp only [Act.put, z1_, z2_, z3_, i64_w, i32_w]
           rfl
          refine pure_ (i:=23) (N:=some 79) (v := undef) (a' := ?_) mk24_ rfl rfl (any_of HT_.out (by kernel_rfl)) (fun _ _ _ h => h) (Or.inr ⟨by rfl, rfl⟩) ?_ ?_
          rotate_left
          ·simp only [Act.put, z1_, z2_, z3_, i64_w, i32_w]
           rfl
          refine pure_ (i:=24) (N:=some 80) (v := undef) (a' := ?_) mk25_ rfl rfl (any_of HT_.out (by kernel_rfl)) (fun _ _ _ h => h) (Or.inr ⟨by rfl, rfl⟩) ?_ ?_
          rotate_left
          ·simp only [Act.put, z1_, z2_, z3_, i64_w, i32_w]
           rfl
          refine pure_ (i:=25) (N:=some 81) (v := undef) (a' := ?_) mk26_ rfl rfl (any_of HT_.out (by kernel_rfl)) (fun _ _ _ h => h) (Or.inr ⟨by rfl, rfl⟩) ?_ ?_
          rotate_left
          ·simp only [Act.put, z1_, z2_, z3_, i64_w, i32_w]
           rfl
          refine pure_ (i:=26) (N:=some 82) (v := undef) (a' := ?_) mk27_ rfl rfl (any_of HT_.out (by kernel_rfl)) (fun _ _ _ h => h) (Or.inr ⟨by rfl, rfl⟩) ?_ ?_
          rotate_left
          ·simp only [Act.put, z1_, z2_, z3_, i64_w, i32_w]
           rfl
          refine pure_ (i:=27) (N:=some 83) (v:=?_) (a':=?_) mk28_ rfl rfl (any_of HT_.out (by kernel_rfl)) (fun _ _ _ h => h) (Or.inl ⟨by rfl, ?_⟩) ?_ ?_
          rotate_left
          ·intro w'
           go_simp
           with_reducible rfl
          rotate_left
          ·simp only [Act.put, z1_, z2_, z3_, i64_w, i32_w]
           rfl
          refine pure_ (i:=28) (N:=some 84) (v:=?_) (a':=?_) mk29_ rfl rfl (any_of HT_.out (by kernel_rfl)) (fun _ _ _ h => h) (Or.inl ⟨by rfl, ?_⟩) ?_ ?_
          rotate_left
          ·intro w'
           go_simp
           with_reducible rfl
          rotate_left
          ·simp only [Act.put, z1_, z2_, z3_, i64_w, i32_w]
           rfl
          refine pure_ (i:=29) (N:=some 85) (v:=?_) (a':=?_) mk30_ rfl rfl (any_of HT_.out (by kernel_rfl)) (fun _ _ _ h => h) (Or.inl ⟨by rfl, ?_⟩) ?_ ?_
          rotate_left
          ·intro w'
           go_simp
           with_reducible rfl
          rotate_left
          ·simp only [Act.put, z1_, z2_, z3_, i64_w, i32_w]
           rfl
          refine pure_ (i:=30) (N:=some 86) (v:=?_) (a':=?_) mk31_ rfl rfl (any_of HT_.out (by kernel_rfl)) (fun _ _ _ h => h) (Or.inl ⟨by rfl, ?_⟩) ?_ ?_
          rotate_left
          ·intro w'
           go_simp
           with_reducible rfl
          rotate_left
          ·simp only [Act.put, z1_, z2_, z3_, i64_w, i32_w]
           rfl
          refine pure_ (i:=32) (N:=some 88) (v:=?_) (a':=?_) mk32_ rfl rfl (any_of HT_.out (by kernel_rfl)) (fun _ _ _ h => h) (Or.inl ⟨by rfl, ?_⟩) ?_ ?_
          rotate_left
          ·intro w'
           go_simp
           with_reducible rfl
          rotate_left
          ·simp only [Act.put, z1_, z2_, z3_, i64_w, i32_w]
           rfl
          refine one_ (i:=31) (N:=some 87) mk33_ rfl rfl (one_of HT_.out (by kernel_rfl)) (by decide) (fun K hK => ?_)
          refine goes_ Try.func39 (by kernel_rfl) rfl #[.slice Ao53 t268.length co53] (by rfl) rfl rfl (by (try simp only [List.map_toArray, List.map_cons, List.map_nil]); first | done | rfl | (simp only [List.length_drop, List.length_take]; rfl)) ?_
          with_reducible refine (line_Last.calls kj3 _ _ t268 t277 _ ?side1 ?side2 A33.out).mono ?_
          (case side1 => repeat (first | exact (Kd.R_reads' HO271.out).2.2 | (with_reducible refine Kd.C_alloc ?_ _) | (with_reducible refine Kd.C_drewN ?_ _) | (with_reducible refine Kd.C_drew ?_)))
          (case side2 => exact (Kd.R_reads' HO271.out).2.1)
          rintro e w62 ⟨rfl, hb⟩
          refine ⟨_, rfl, ?_⟩
          have n0_ := A0_ (Kd.R_below (by (with_reducible repeat (first | apply Kd.R_alloc | apply Kd.R_drewN | apply Kd.R_drew)); exact HO271.out) hb)
          have n1_ := A0_ (blk_below (g:=gb265) (o:=.cells #[.slice A0_0 l0_0.length c0_0, .int .i64 a0_1] 39 (0, 0)) (by (with_reducible repeat (first | refine blk_drewN ?_ _ | refine blk_drew ?_ | refine blk_alloc ?_ _)); exact BK265.out) hb)
          have n2_ := A0_ (blk_below (g:=gb273) (o:=.cells #[.slice Ao53 t268.length co53, .int .i64 (wrap64 (a0_1 + a2))] 39 (0, 0)) (by (with_reducible repeat (first | refine blk_drewN ?_ _ | refine blk_drew ?_ | refine blk_alloc ?_ _)); exact BK273.out) hb)
          have n3_ := A0_ (below_step (by repeat (first | (with_reducible first | exact HB.out | apply below_alloc | apply pw_below_drewN | apply below_drew1 | refine below_set ?_ GE265.out | refine below_set ?_ GE273.out) | exact HB.out)) hb)
          clear HO271
          clear BK265
          clear BK273
          clear HB
          have HO271 := n0_
          have BK265 := n1_
          have BK273 := n2_
          have HB := n3_
          clear n0_ n1_ n2_ n3_
          (try clear hb)
          (try clear hb2)
          (try clear hk)
          (try clear hi)
          refine hK.out _ _ ⟨(blk_cell BK273.out 0).trans rfl, (blk_cell BK273.out 1).trans rfl, (blk_cell BK265.out 0).trans rfl, (blk_cell BK265.out 1).trans rfl⟩ (fun hHeld => ?_)
          clear hK K
          refine norm_ (a' := ?_) ?_ ?_
          rotate_left
          ·show Act.put _ (some 87) _ = _
           simp only [Act.put, z1_, z2_, z3_, i64_w, i32_w]
           rfl
          refine pure_ (i:=33) (N:=some 89) (v:=?_) (a':=?_) mk34_ rfl rfl (any_of HT_.out (by kernel_rfl)) (fun _ _ _ h => h) (Or.inl ⟨by rfl, ?_⟩) ?_ ?_
          rotate_left
          ·intro w'
           go_simp
           with_reducible rfl
          rotate_left
          ·simp only [Act.put, z1_, z2_, z3_, i64_w, i32_w]
           rfl
          refine pure_ (i:=34) (N:=some 90) (v:=?_) (a':=?_) mk35_ rfl rfl (any_of HT_.out (by kernel_rfl)) (fun _ _ _ h => h) (Or.inl ⟨by rfl, ?_⟩) ?_ ?_
          rotate_left
          ·intro w'
           go_simp
           with_reducible rfl
          rotate_left
          ·simp only [Act.put, z1_, z2_, z3_, i64_w, i32_w]
           rfl
          refine pure_ (i:=35) (N:=some 91) (v:=?_) (a':=?_) mk36_ rfl rfl (any_of HT_.out (by kernel_rfl)) (fun _ _ _ h => h) (Or.inl ⟨by rfl, ?_⟩) ?_ ?_
          rotate_left
          ·intro w'
           go_simp
           with_reducible rfl
          rotate_left
          ·simp only [Act.put, z1_, z2_, z3_, i64_w, i32_w]
           rfl
          refine pure_ (i:=36) (N:=some 92) (v := undef) (a' := ?_) mk37_ rfl rfl (any_of HT_.out (by kernel_rfl)) (fun _ _ _ h => h) (Or.inr ⟨by rfl, rfl⟩) ?_ ?_
          rotate_left
          ·simp only [Act.put, z1_, z2_, z3_, i64_w, i32_w]
           rfl
          refine pure_ (i:=37) (N:=some 93) (v:=?_) (a':=?_) mk38_ rfl rfl (any_of HT_.out (by kernel_rfl)) (fun _ _ _ h => h) (Or.inl ⟨by rfl, ?_⟩) ?_ ?_
          rotate_left
          ·intro w'
           go_simp
           with_reducible rfl
          rotate_left
          ·simp only [Act.put, z1_, z2_, z3_, i64_w, i32_w]
           rfl
          refine pure_ (i:=38) (N:=some 6) (v:=?_) (a':=?_) mk39_ rfl rfl (any_of HT_.out (by kernel_rfl)) (fun _ _ _ h => h) (Or.inl ⟨by rfl, ?_⟩) ?_ ?_
          rotate_left
          ·intro w'
           go_simp
           with_reducible rfl
          rotate_left
          ·simp only [Act.put, z1_, z2_, z3_, i64_w, i32_w]
           rfl
          refine done_ (done_of HT_.out (by kernel_rfl)) ?_
          try go_wp2
          go_ret
          exact ⟨by first | rfl | (simp [errW_none, errW_some] <;> rfl) | (simp [*, errW_none, errW_some] <;> rfl), by repeat (first | (with_reducible first | exact HB.out | apply below_alloc | apply pw_below_drewN | apply below_drew1 | refine below_set ?_ GE265.out | refine below_set ?_ GE273.out) | exact HB.out)⟩
        ·rw [if_neg c32] at H
         have c32b0 : (a2 == 0) = false := beq_eq_false_iff_ne.mpr c32
         have c32b1 : (a2 != 0) = true := bne_iff_ne.mpr c32
         replace H := Option.bind_eq_some_iff.mp H
         obtain ⟨t279, A630, H⟩ := H
         replace H : (if t279 = a1 then ((line_Last.f kj3 t268).bind fun t280 => (if t280 = a1 then ((counterfoillaw11_awake.f kj3).bind fun t281 => (some t281)) else (some false))) else (some false)) = some r := H
         have A63 := A0_ A630
         clear A630
         by_cases c64 : t279 = a1
         ·rw [if_pos c64] at H
          have c64b0 : (t279 == a1) = true := beq_iff_eq.mpr c64
          have c64b1 : (t279 != a1) = false := bne_eq_false_iff_eq.mpr c64
          clear c64
          replace H := Option.bind_eq_some_iff.mp H
          obtain ⟨t280, A650, H⟩ := H
          replace H : (if t280 = a1 then ((counterfoillaw11_awake.f kj3).bind fun t281 => (some t281)) else (some false)) = some r := H
          have A65 := A0_ A650
          clear A650
          by_cases c66 : t280 = a1
          ·rw [if_pos c66] at H
           have c66b0 : (t280 == a1) = true := beq_iff_eq.mpr c66
           have c66b1 : (t280 != a1) = false := bne_eq_false_iff_eq.mpr c66
           clear c66
           replace H := Option.bind_eq_some_iff.mp H
           obtain ⟨t281, A670, H⟩ := H
           replace H : (some t281) = some r := H
           have A67 := A0_ A670
           clear A670
           obtain rfl := Option.some.inj H
           have hcz68_0 : wc.cell? ⟨gb265, 0, none⟩ = some (.slice A0_0 l0_0.length c0_0) := (blk_cell BK265.out 0).trans rfl
           have hcz68_1 : wc.cell? ⟨gb265, 1, none⟩ = some (.int .i64 a0_1) := (blk_cell BK265.out 1).trans rfl
           have hfz68_0 := blk_frozen BK265.out 0
           have hfz68_1 := blk_frozen BK265.out 1
           try go_wp2_with (first | ((with_reducible refine gate_callee (f := 35) rfl ?_); refine goesL_ (some 39) rfl rfl Try.func35 (by kernel_rfl) rfl #[.slice A0_0 l0_0.length c0_0, .int .i64 a1, .int .i64 a0_1] rfl (by (try simp only [List.map_toArray, List.map_cons, List.map_nil]); first | done | rfl | (simp only [List.length_drop, List.length_take]; rfl)) ?_; (with_reducible refine (line_Grow.calls kj3 _ _ l0_0 a1 a0_1 t268 t269 _ ?side1 ?side2 A24.out).mono ?_); (case side1 => repeat (first | exact (Kd.C_below HR0_0.out HB.out) | (with_reducible refine Kd.C_alloc ?_ _) | (with_reducible refine Kd.C_drewN ?_ _) | (with_reducible refine Kd.C_drew ?_))); (case side2 => exact HC0_0.out); rintro e w69 ⟨v270, rfl, ho0, hb⟩; refine ⟨_, rfl, ?_⟩; have n0_ := A0_ (Kd.R_lower ho0 (below_size (by repeat (first | (with_reducible first | exact HB.out | apply below_alloc | apply pw_below_drewN | apply below_drew1 | refine below_set ?_ GE265.out) | exact HB.out)))); have n1_ := A0_ (blk_below (g:=gb265) (o:=.cells #[.slice A0_0 l0_0.length c0_0, .int .i64 a0_1] 39 (0, 0)) (by (with_reducible repeat (first | refine blk_drewN ?_ _ | refine blk_drew ?_ | refine blk_alloc ?_ _)); exact BK265.out) hb); have n2_ := A0_ (below_step (by repeat (first | (with_reducible first | exact HB.out | apply below_alloc | apply pw_below_drewN | apply below_drew1 | refine below_set ?_ GE265.out) | exact HB.out)) hb); clear BK265; clear HB; have HO271 := n0_; have BK265 := n1_; have HB := n2_; clear n0_ n1_ n2_; (try clear hb); (try clear hb2); (try clear hk); (try clear hi); (try clear ho0); have hcz70_0 : w69.cell? ⟨gb265, 0, none⟩ = some (.slice A0_0 l0_0.length c0_0) := (blk_cell BK265.out 0).trans rfl; have hcz70_1 : w69.cell? ⟨gb265, 1, none⟩ = some (.int .i64 a0_1) := (blk_cell BK265.out 1).trans rfl; have hfz70_0 := blk_frozen BK265.out 0; have hfz70_1 := blk_frozen BK265.out 1; obtain ⟨Ao71, co71, eo71⟩ := Kd.R_slice HO271.out; subst eo71) | ((with_reducible refine gate_dst (N:=9) rfl ?_); refine box_event ?hg (N:=9) ?hd (cs := #[.slice none 0 0, .int .i64 0]) (t := 39) ?hr ?_; (case hd => rfl); (case hg => rfl); (case hr => first | (go_simp; done) | (go_simp; rfl)); intro gb273 hg w72 hbox hb; have n0_ := A0_ (Kd.R_below (by (with_reducible repeat (first | apply Kd.R_alloc | apply Kd.R_drewN | apply Kd.R_drew)); exact HO271.out) hb); have n1_ := A0_ (blk_below (g:=gb265) (o:=.cells #[.slice A0_0 l0_0.length c0_0, .int .i64 a0_1] 39 (0, 0)) (by (with_reducible repeat (first | refine blk_drewN ?_ _ | refine blk_drew ?_ | refine blk_alloc ?_ _)); exact BK265.out) hb); have n2_ := A0_ (below_step (by repeat (first | (with_reducible first | exact HB.out | apply below_alloc | apply pw_below_drewN | apply below_drew1 | refine below_set ?_ GE265.out) | exact HB.out)) hb); have n3_ := A0_ (hbox); have n4_ := A0_ ((by rw [hg]; exact (below_size (by repeat (first | (with_reducible first | exact HB.out | apply below_alloc | apply pw_below_drewN | apply below_drew1 | refine below_set ?_ GE265.out) | exact HB.out))) : w.heap.size ≤ gb273)); have n5_ := A0_ ((by rw [hg]; exact (below_size (by repeat (first | (with_reducible first | exact HB.out | apply below_alloc | apply pw_below_drewN | apply below_drew1 | refine below_set ?_ GE265.out) | exact HB.out))) : w.heap.size ≤ gb273)); have n6_ := A0_ ((by rw [hg]; exact Nat.ne_of_lt (blk_lt (g:=gb265) (o:=.cells #[.slice A0_0 l0_0.length c0_0, .int .i64 a0_1] 39 (0, 0)) (by (with_reducible repeat (first | refine blk_drewN ?_ _ | refine blk_drew ?_ | refine blk_alloc ?_ _)); exact BK265.out)) : gb265 ≠ gb273)); have n7_ := A0_ ((by rw [hg]; exact Nat.ne_of_gt (blk_lt (g:=gb265) (o:=.cells #[.slice A0_0 l0_0.length c0_0, .int .i64 a0_1] 39 (0, 0)) (by (with_reducible repeat (first | refine blk_drewN ?_ _ | refine blk_drew ?_ | refine blk_alloc ?_ _)); exact BK265.out)) : gb273 ≠ gb265)); clear HO271; clear BK265; clear HB; have HO271 := n0_; have BK265 := n1_; have HB := n2_; have BK273 := n3_; have GW273 := n4_; have GE273 := n5_; have NB265_273 := n6_; have NB273_265 := n7_; clear n0_ n1_ n2_ n3_ n4_ n5_ n6_ n7_; clear hb hbox hg; have hnb73 := NB273_265.out; have hnc73 := NB265_273.out; have hcz74_0 : w72.cell? ⟨gb273, 0, none⟩ = some (.slice none 0 0) := (blk_cell BK273.out 0).trans rfl; have hcz74_1 : w72.cell? ⟨gb273, 1, none⟩ = some (.int .i64 0) := (blk_cell BK273.out 1).trans rfl; have hfz74_0 := blk_frozen BK273.out 0; have hfz74_1 := blk_frozen BK273.out 1))
           have n0_ : Aside0 (Kd.R k61 61 ((w72.setCell ⟨gb273, 0, none⟩ (.slice Ao71 t268.length co71)).setCell ⟨gb273, 1, none⟩ (.int .i64 (wrap64 (a0_1 + a2)))) w.heap.size (fun _ => True) (.slice Ao71 t268.length co71) t268) := ⟨by (with_reducible repeat (first | apply Kd.R_alloc | apply Kd.R_drewN | apply Kd.R_drew)); exact Kd.R_mono (Kd.R_far (p := ⟨gb273, 1, none⟩) (Kd.R_far (p := ⟨gb273, 0, none⟩) (Kd.R_types HO271.out BK273.out (by decide)) (fun _ hk => hk.2) (.slice Ao71 t268.length co71)) (fun _ hk => hk.2) (.int .i64 (wrap64 (a0_1 + a2)))) (fun _ hk => trivial)⟩
           have n1_ : Aside0 (((w72.setCell ⟨gb273, 0, none⟩ (.slice Ao71 t268.length co71)).setCell ⟨gb273, 1, none⟩ (.int .i64 (wrap64 (a0_1 + a2)))).heap[gb265]? = some (.cells #[.slice A0_0 l0_0.length c0_0, .int .i64 a0_1] 39 (0, 0))) := ⟨by (with_reducible repeat (first | refine blk_drewN ?_ _ | refine blk_drew ?_ | refine blk_alloc ?_ _)); refine blk_far ?_ NB265_273.out _; (with_reducible repeat (first | refine blk_drewN ?_ _ | refine blk_drew ?_ | refine blk_alloc ?_ _)); refine blk_far ?_ NB265_273.out _; (with_reducible repeat (first | refine blk_drewN ?_ _ | refine blk_drew ?_ | refine blk_alloc ?_ _)); exact BK265.out⟩
           have n2_ : Aside0 (((w72.setCell ⟨gb273, 0, none⟩ (.slice Ao71 t268.length co71)).setCell ⟨gb273, 1, none⟩ (.int .i64 (wrap64 (a0_1 + a2)))).heap[gb273]? = some (.cells #[.slice Ao71 t268.length co71, .int .i64 (wrap64 (a0_1 + a2))] 39 (0, 0))) := ⟨by (with_reducible repeat (first | refine blk_drewN ?_ _ | refine blk_drew ?_ | refine blk_alloc ?_ _)); refine blk_put (cs := #[.slice Ao71 t268.length co71, .int .i64 0]) ?_ 1 _ rfl; (with_reducible repeat (first | refine blk_drewN ?_ _ | refine blk_drew ?_ | refine blk_alloc ?_ _)); refine blk_put (cs := #[.slice none 0 0, .int .i64 0]) ?_ 0 _ rfl; (with_reducible repeat (first | refine blk_drewN ?_ _ | refine blk_drew ?_ | refine blk_alloc ?_ _)); exact BK273.out⟩
           have n3_ : Aside0 (Below w.heap.size w ((w72.setCell ⟨gb273, 0, none⟩ (.slice Ao71 t268.length co71)).setCell ⟨gb273, 1, none⟩ (.int .i64 (wrap64 (a0_1 + a2))))) := ⟨by repeat (first | (with_reducible first | exact HB.out | apply below_alloc | apply pw_below_drewN | apply below_drew1 | refine below_set ?_ GE265.out | refine below_set ?_ GE273.out) | exact HB.out)⟩
           (try clear HO271)
           (try clear BK265)
           (try clear BK273)
           (try clear HB)
           generalize ((w72.setCell ⟨gb273, 0, none⟩ (.slice Ao71 t268.length co71)).setCell ⟨gb273, 1, none⟩ (.int .i64 (wrap64 (a0_1 + a2)))) = w75 at n0_ n1_ n2_ n3_ ⊢
           have HO271 := n0_
           have BK265 := n1_
           have BK273 := n2_
           have HB := n3_
           clear n0_ n1_ n2_ n3_
           have n0_ := A0_ (Kd.R_drew HO271.out)
           have n1_ := A0_ (blk_drew BK265.out)
           have n2_ := A0_ (blk_drew BK273.out)
           have n3_ := A0_ (below_drew1 HB.out)
           clear HO271
           clear BK265
           clear BK273
           clear HB
           have HO271 := n0_
           have BK265 := n1_
           have BK273 := n2_
           have HB := n3_
           clear n0_ n1_ n2_ n3_
           refine start_ (n := 39) (S := fun w' => w'.cell? ⟨gb273, 0, none⟩ = some (.slice Ao71 t268.length co71) ∧ w'.cell? ⟨gb273, 1, none⟩ = some (.int .i64 (wrap64 (a0_1 + a2))) ∧ w'.cell? ⟨gb265, 0, none⟩ = some (.slice A0_0 l0_0.length c0_0) ∧ w'.cell? ⟨gb265, 1, none⟩ = some (.int .i64 a0_1)) (ds := []) mk0_ (by kernel_rfl) rfl rfl ⟨(blk_cell BK273.out 0).trans rfl, (blk_cell BK273.out 1).trans rfl, (blk_cell BK265.out 0).trans rfl, (blk_cell BK265.out 1).trans rfl⟩ (fun hHeld => ?_); refine with_tabW counterfoillaw11_LineGoes.tab7 counterfoillaw11_LineGoes.bits7 (fun HT_ HW_ => ?_)
           generalize w75.drew = w76 at HO271 BK265 BK273 HB hHeld ⊢
           refine take_ (i:=0) (N:=some 56) (v:=?_) (a':=?_) mk1_ rfl rfl (take_ofW HT_.out HW_.out (by kernel_rfl)) (fun _ _ _ h => h) (Or.inl ⟨by rfl, ?_⟩) hHeld ?_ ?_
           rotate_left
           ·rintro w' ⟨s0, s1, s2, s3⟩
            go_simp
            with_reducible rfl
           rotate_left
           ·simp only [Act.put, z1_, z2_, z3_, i64_w, i32_w]
            rfl
           refine one_ (i:=1) (N:=some 57) mk2_ rfl rfl (one_of HT_.out (by kernel_rfl)) (by decide) (fun K hK => ?_)
           refine goes_ Try.func23 (by kernel_rfl) rfl #[.agg #[.slice Ao71 t268.length co71, .int .i64 (wrap64 (a0_1 + a2))]] (by rfl) rfl rfl (by (try simp only [List.map_toArray, List.map_cons, List.map_nil]); first | done | rfl | (simp only [List.length_drop, List.length_take]; rfl)) ?_
           with_reducible refine (line_Placed.calls kj3 _ _ t268 (wrap64 (a0_1 + a2)) true _ ?side1 ?side2 A26.out).mono ?_
           (case side1 => repeat (first | exact (Kd.R_reads' HO271.out).2.2 | (with_reducible refine Kd.C_alloc ?_ _) | (with_reducible refine Kd.C_drewN ?_ _) | (with_reducible refine Kd.C_drew ?_)))
           (case side2 => exact (Kd.R_reads' HO271.out).2.1)
           rintro e w77 ⟨rfl, hb⟩
           refine ⟨_, rfl, ?_⟩
           have n0_ := A0_ (Kd.R_below (by (with_reducible repeat (first | apply Kd.R_alloc | apply Kd.R_drewN | apply Kd.R_drew)); exact HO271.out) hb)
           have n1_ := A0_ (blk_below (g:=gb265) (o:=.cells #[.slice A0_0 l0_0.length c0_0, .int .i64 a0_1] 39 (0, 0)) (by (with_reducible repeat (first | refine blk_drewN ?_ _ | refine blk_drew ?_ | refine blk_alloc ?_ _)); exact BK265.out) hb)
           have n2_ := A0_ (blk_below (g:=gb273) (o:=.cells #[.slice Ao71 t268.length co71, .int .i64 (wrap64 (a0_1 + a2))] 39 (0, 0)) (by (with_reducible repeat (first | refine blk_drewN ?_ _ | refine blk_drew ?_ | refine blk_alloc ?_ _)); exact BK273.out) hb)
           have n3_ := A0_ (below_step (by repeat (first | (with_reducible first | exact HB.out | apply below_alloc | apply pw_below_drewN | apply below_drew1 | refine below_set ?_ GE265.out | refine below_set ?_ GE273.out) | exact HB.out)) hb)
           clear HO271
           clear BK265
           clear BK273
           clear HB
           have HO271 := n0_
           have BK265 := n1_
           have BK273 := n2_
           have HB := n3_
           clear n0_ n1_ n2_ n3_
           (try clear hb)
           (try clear hb2)
           (try clear hk)
           (try clear hi)
           refine hK.out _ _ ⟨(blk_cell BK273.out 0).trans rfl, (blk_cell BK273.out 1).trans rfl, (blk_cell BK265.out 0).trans rfl, (blk_cell BK265.out 1).trans rfl⟩ (fun hHeld => ?_)
           clear hK K
           refine norm_ (a' := ?_) ?_ ?_
           rotate_left
           ·show Act.put _ (some 57) _ = _
            simp only [Act.put, z1_, z2_, z3_, i64_w, i32_w]
            rfl
           refine pure_ (i:=2) (N:=some 58) (v:=?_) (a':=?_) mk3_ rfl rfl (any_of HT_.out (by kernel_rfl)) (fun _ _ _ h => h) (Or.inl ⟨by rfl, ?_⟩) ?_ ?_
           rotate_left
           ·intro w'
            go_simp
            with_reducible rfl
           rotate_left
           ·simp only [Act.put, z1_, z2_, z3_, i64_w, i32_w]
            rfl
           refine take_ (i:=3) (N:=some 59) (v:=?_) (a':=?_) mk4_ rfl rfl (take_ofW HT_.out HW_.out (by kernel_rfl)) (fun _ _ _ h => h) (Or.inl ⟨by rfl, ?_⟩) hHeld ?_ ?_
           rotate_left
           ·rintro w' ⟨s0, s1, s2, s3⟩
            go_simp
            with_reducible rfl
           rotate_left
           ·simp only [Act.put, z1_, z2_, z3_, i64_w, i32_w]
            rfl
           refine take_ (i:=4) (N:=some 60) (v:=?_) (a':=?_) mk5_ rfl rfl (take_ofW HT_.out HW_.out (by kernel_rfl)) (fun _ _ _ h => h) (Or.inl ⟨by rfl, ?_⟩) hHeld ?_ ?_
           rotate_left
           ·rintro w' ⟨s0, s1, s2, s3⟩
            go_simp
            with_reducible rfl
           rotate_left
           ·simp only [Act.put, z1_, z2_, z3_, i64_w, i32_w]
            rfl
           refine one_ (i:=5) (N:=some 61) mk6_ rfl rfl (one_of HT_.out (by kernel_rfl)) (by decide) (fun K hK => ?_)
           refine goes_ Try.func29 (by kernel_rfl) rfl #[.agg #[.slice A0_0 l0_0.length c0_0, .int .i64 a0_1], .agg #[.slice Ao71 t268.length co71, .int .i64 (wrap64 (a0_1 + a2))]] (by rfl) rfl rfl (by (try simp only [List.map_toArray, List.map_cons, List.map_nil]); first | done | rfl | (simp only [List.length_drop, List.length_take]; rfl)) ?_
           with_reducible refine (line_Ahead.calls kj3 _ _ l0_0 a0_1 _ _ t268 (wrap64 (a0_1 + a2)) true _ ?side1 ?side2 ?side3 ?side4 A28.out).mono ?_
           (case side1 => repeat (first | exact (Kd.C_below HR0_0.out HB.out) | (with_reducible refine Kd.C_alloc ?_ _) | (with_reducible refine Kd.C_drewN ?_ _) | (with_reducible refine Kd.C_drew ?_)))
           (case side2 => exact HC0_0.out)
           (case side3 => repeat (first | exact (Kd.R_reads' HO271.out).2.2 | (with_reducible refine Kd.C_alloc ?_ _) | (with_reducible refine Kd.C_drewN ?_ _) | (with_reducible refine Kd.C_drew ?_)))
           (case side4 => exact (Kd.R_reads' HO271.out).2.1)
           rintro e w78 ⟨rfl, hb⟩
           refine ⟨_, rfl, ?_⟩
           have n0_ := A0_ (Kd.R_below (by (with_reducible repeat (first | apply Kd.R_alloc | apply Kd.R_drewN | apply Kd.R_drew)); exact HO271.out) hb)
           have n1_ := A0_ (blk_below (g:=gb265) (o:=.cells #[.slice A0_0 l0_0.length c0_0, .int .i64 a0_1] 39 (0, 0)) (by (with_reducible repeat (first | refine blk_drewN ?_ _ | refine blk_drew ?_ | refine blk_alloc ?_ _)); exact BK265.out) hb)
           have n2_ := A0_ (blk_below (g:=gb273) (o:=.cells #[.slice Ao71 t268.length co71, .int .i64 (wrap64 (a0_1 + a2))] 39 (0, 0)) (by (with_reducible repeat (first | refine blk_drewN ?_ _ | refine blk_drew ?_ | refine blk_alloc ?_ _)); exact BK273.out) hb)
           have n3_ := A0_ (below_step (by repeat (first | (with_reducible first | exact HB.out | apply below_alloc | apply pw_below_drewN | apply below_drew1 | refine below_set ?_ GE265.out | refine below_set ?_ GE273.out) | exact HB.out)) hb)
           clear HO271
           clear BK265
           clear BK273
           clear HB
           have HO271 := n0_
           have BK265 := n1_
           have BK273 := n2_
           have HB := n3_
           clear n0_ n1_ n2_ n3_
           (try clear hb)
           (try clear hb2)
           (try clear hk)
           (try clear hi)
           refine hK.out _ _ ⟨(blk_cell BK273.out 0).trans rfl, (blk_cell BK273.out 1).trans rfl, (blk_cell BK265.out 0).trans rfl, (blk_cell BK265.out 1).trans rfl⟩ (fun hHeld => ?_)
           clear hK K
           refine norm_ (a' := ?_) ?_ ?_
           rotate_left
           ·show Act.put _ (some 61) _ = _
            simp only [Act.put, z1_, z2_, z3_, i64_w, i32_w]
            rfl
           refine pure_ (i:=6) (N:=some 62) (v:=?_) (a':=?_) mk7_ rfl rfl (any_of HT_.out (by kernel_rfl)) (fun _ _ _ h => h) (Or.inl ⟨by rfl, ?_⟩) ?_ ?_
           rotate_left
           ·intro w'
            go_simp
            with_reducible rfl
           rotate_left
           ·simp only [Act.put, z1_, z2_, z3_, i64_w, i32_w]
            rfl
           refine pure_ (i:=7) (N:=some 63) (v:=?_) (a':=?_) mk8_ rfl rfl (any_of HT_.out (by kernel_rfl)) (fun _ _ _ h => h) (Or.inl ⟨by rfl, ?_⟩) ?_ ?_
           rotate_left
           ·intro w'
            go_simp
            with_reducible rfl
           rotate_left
           ·simp only [Act.put, z1_, z2_, z3_, i64_w, i32_w]
            rfl
           refine pure_ (i:=11) (N:=some 67) (v:=?_) (a':=?_) mk9_ rfl rfl (any_of HT_.out (by kernel_rfl)) (fun _ _ _ h => h) (Or.inl ⟨by rfl, ?_⟩) ?_ ?_
           rotate_left
           ·intro w'
            go_simp
            with_reducible rfl
           rotate_left
           ·simp only [Act.put, z1_, z2_, z3_, i64_w, i32_w]
            rfl
           refine take_ (i:=8) (N:=some 64) (v:=?_) (a':=?_) mk10_ rfl rfl (take_ofW HT_.out HW_.out (by kernel_rfl)) (fun _ _ _ h => h) (Or.inl ⟨by rfl, ?_⟩) hHeld ?_ ?_
           rotate_left
           ·rintro w' ⟨s0, s1, s2, s3⟩
            go_simp
            with_reducible rfl
           rotate_left
           ·simp only [Act.put, z1_, z2_, z3_, i64_w, i32_w]
            rfl
           refine take_ (i:=9) (N:=some 65) (v:=?_) (a':=?_) mk11_ rfl rfl (take_ofW HT_.out HW_.out (by kernel_rfl)) (fun _ _ _ h => h) (Or.inl ⟨by rfl, ?_⟩) hHeld ?_ ?_
           rotate_left
           ·rintro w' ⟨s0, s1, s2, s3⟩
            go_simp
            with_reducible rfl
           rotate_left
           ·simp only [Act.put, z1_, z2_, z3_, i64_w, i32_w]
            rfl
           refine take_ (i:=12) (N:=some 68) (v:=?_) (a':=?_) mk12_ rfl rfl (take_ofW HT_.out HW_.out (by kernel_rfl)) (fun _ _ _ h => h) (Or.inl ⟨by rfl, ?_⟩) hHeld ?_ ?_
           rotate_left
           ·rintro w' ⟨s0, s1, s2, s3⟩
            go_simp
            with_reducible rfl
           rotate_left
           ·simp only [Act.put, z1_, z2_, z3_, i64_w, i32_w]
            rfl
           refine one_ (i:=10) (N:=some 66) mk13_ rfl rfl (one_of HT_.out (by kernel_rfl)) (by decide) (fun K hK => ?_)
           refine goes_ Try.func27 (by kernel_rfl) rfl #[.agg #[.slice A0_0 l0_0.length c0_0, .int .i64 a0_1], .agg #[.slice Ao71 t268.length co71, .int .i64 (wrap64 (a0_1 + a2))]] (by rfl) rfl rfl (by (try simp only [List.map_toArray, List.map_cons, List.map_nil]); first | done | rfl | (simp only [List.length_drop, List.length_take]; rfl)) ?_
           with_reducible refine (line_Common.calls kj3 _ _ l0_0 a0_1 _ _ t268 (wrap64 (a0_1 + a2)) t276 _ ?side1 ?side2 ?side3 ?side4 A30.out).mono ?_
           (case side1 => repeat (first | exact (Kd.C_below HR0_0.out HB.out) | (with_reducible refine Kd.C_alloc ?_ _) | (with_reducible refine Kd.C_drewN ?_ _) | (with_reducible refine Kd.C_drew ?_)))
           (case side2 => exact HC0_0.out)
           (case side3 => repeat (first | exact (Kd.R_reads' HO271.out).2.2 | (with_reducible refine Kd.C_alloc ?_ _) | (with_reducible refine Kd.C_drewN ?_ _) | (with_reducible refine Kd.C_drew ?_)))
           (case side4 => exact (Kd.R_reads' HO271.out).2.1)
           rintro e w79 ⟨rfl, hb⟩
           refine ⟨_, rfl, ?_⟩
           have n0_ := A0_ (Kd.R_below (by (with_reducible repeat (first | apply Kd.R_alloc | apply Kd.R_drewN | apply Kd.R_drew)); exact HO271.out) hb)
           have n1_ := A0_ (blk_below (g:=gb265) (o:=.cells #[.slice A0_0 l0_0.length c0_0, .int .i64 a0_1] 39 (0, 0)) (by (with_reducible repeat (first | refine blk_drewN ?_ _ | refine blk_drew ?_ | refine blk_alloc ?_ _)); exact BK265.out) hb)
           have n2_ := A0_ (blk_below (g:=gb273) (o:=.cells #[.slice Ao71 t268.length co71, .int .i64 (wrap64 (a0_1 + a2))] 39 (0, 0)) (by (with_reducible repeat (first | refine blk_drewN ?_ _ | refine blk_drew ?_ | refine blk_alloc ?_ _)); exact BK273.out) hb)
           have n3_ := A0_ (below_step (by repeat (first | (with_reducible first | exact HB.out | apply below_alloc | apply pw_below_drewN | apply below_drew1 | refine below_set ?_ GE265.out | refine below_set ?_ GE273.out) | exact HB.out)) hb)
           clear HO271
           clear BK265
           clear BK273
           clear HB
           have HO271 := n0_
           have BK265 := n1_
           have BK273 := n2_
           have HB := n3_
           clear n0_ n1_ n2_ n3_
           (try clear hb)
           (try clear hb2)
           (try clear hk)
           (try clear hi)
           refine hK.out _ _ ⟨(blk_cell BK273.out 0).trans rfl, (blk_cell BK273.out 1).trans rfl, (blk_cell BK265.out 0).trans rfl, (blk_cell BK265.out 1).trans rfl⟩ (fun hHeld => ?_)
           clear hK K
           refine norm_ (a' := ?_) ?_ ?_
           rotate_left
           ·show Act.put _ (some 66) _ = _
            simp only [Act.put, z1_, z2_, z3_, i64_w, i32_w]
            rfl
           refine pure_ (i:=13) (N:=some 69) (v:=?_) (a':=?_) mk14_ rfl rfl (any_of HT_.out (by kernel_rfl)) (fun _ _ _ h => h) (Or.inl ⟨by rfl, ?_⟩) ?_ ?_
           rotate_left
           ·intro w'
            go_simp
            with_reducible rfl
           rotate_left
           ·simp only [Act.put, z1_, z2_, z3_, i64_w, i32_w]
            rfl
           refine pure_ (i:=14) (N:=some 70) (v:=?_) (a':=?_) mk15_ rfl rfl (any_of HT_.out (by kernel_rfl)) (fun _ _ _ h => h) (Or.inl ⟨by rfl, ?_⟩) ?_ ?_
           rotate_left
           ·intro w'
            go_simp
            with_reducible rfl
           rotate_left
           ·simp only [Act.put, z1_, z2_, z3_, i64_w, i32_w]
            rfl
           refine pure_ (i:=15) (N:=some 71) (v:=?_) (a':=?_) mk16_ rfl rfl (any_of HT_.out (by kernel_rfl)) (fun _ _ _ h => h) (Or.inl ⟨by rfl, ?_⟩) ?_ ?_
           rotate_left
           ·intro w'
            go_simp
            with_reducible rfl
           rotate_left
           ·simp only [Act.put, z1_, z2_, z3_, i64_w, i32_w]
            rfl
           refine pure_ (i:=16) (N:=some 72) (v:=?_) (a':=?_) mk17_ rfl rfl (any_of HT_.out (by kernel_rfl)) (fun _ _ _ h => h) (Or.inl ⟨by rfl, ?_⟩) ?_ ?_
           rotate_left
           ·intro w'
            go_simp
            with_reducible rfl
           rotate_left
           ·simp only [Act.put, z1_, z2_, z3_, i64_w, i32_w]
            rfl
           refine pure_ (i:=17) (N:=some 73) (v:=?_) (a':=?_) mk18_ rfl rfl (any_of HT_.out (by kernel_rfl)) (fun _ _ _ h => h) (Or.inl ⟨by rfl, ?_⟩) ?_ ?_
           rotate_left
           ·intro w'
            go_simp
            with_reducible rfl
           rotate_left
           ·simp only [Act.put, z1_, z2_, z3_, i64_w, i32_w]
            rfl
           refine pure_ (i:=18) (N:=some 74) (v:=?_) (a':=?_) mk19_ rfl rfl (any_of HT_.out (by kernel_rfl)) (fun _ _ _ h => h) (Or.inl ⟨by rfl, ?_⟩) ?_ ?_
           rotate_left
           ·intro w'
            go_simp
            with_reducible rfl
           rotate_left
           ·simp only [Act.put, z1_, z2_, z3_, i64_w, i32_w]
            rfl
           refine pure_ (i:=20) (N:=some 76) (v:=?_) (a':=?_) mk40_ rfl rfl (any_of HT_.out (by kernel_rfl)) (fun _ _ _ h => h) (Or.inl ⟨by rfl, ?_⟩) ?_ ?_
           rotate_left
           ·intro w'
            go_simp
            with_reducible rfl
           rotate_left
           ·simp only [Act.put, z1_, z2_, z3_, i64_w, i32_w]
            rfl
           refine pure_ (i:=22) (N:=some 78) (v:=?_) (a':=?_) mk41_ rfl rfl (any_of HT_.out (by kernel_rfl)) (fun _ _ _ h => h) (Or.inl ⟨by rfl, ?_⟩) ?_ ?_
           rotate_left
           ·intro w'
            go_simp
            with_reducible rfl
           rotate_left
           ·simp only [Act.put, z1_, z2_, z3_, i64_w, i32_w]
            rfl
           refine pure_ (i:=25) (N:=some 81) (v:=?_) (a':=?_) mk42_ rfl rfl (any_of HT_.out (by kernel_rfl)) (fun _ _ _ h => h) (Or.inl ⟨by rfl, ?_⟩) ?_ ?_
           rotate_left
           ·intro w'
            go_simp
            with_reducible rfl
           rotate_left
           ·simp only [Act.put, z1_, z2_, z3_, i64_w, i32_w]
            rfl
           refine take_ (i:=19) (N:=some 75) (v:=?_) (a':=?_) mk43_ rfl rfl (take_ofW HT_.out HW_.out (by kernel_rfl)) (fun _ _ _ h => h) (Or.inl ⟨by rfl, ?_⟩) hHeld ?_ ?_
           rotate_left
           ·rintro w' ⟨s0, s1, s2, s3⟩
            go_simp
            with_reducible rfl
           rotate_left
           ·simp only [Act.put, z1_, z2_, z3_, i64_w, i32_w]
            rfl
           refine take_ (i:=21) (N:=some 77) (v:=?_) (a':=?_) mk44_ rfl rfl (take_ofW HT_.out HW_.out (by kernel_rfl)) (fun _ _ _ h => h) (Or.inl ⟨by rfl, ?_⟩) hHeld ?_ ?_
           rotate_left
           ·rintro w' ⟨s0, s1, s2, s3⟩
            go_simp
            with_reducible rfl
           rotate_left
           ·simp only [Act.put, z1_, z2_, z3_, i64_w, i32_w]
            rfl
           refine pure_ (i:=23) (N:=some 79) (v:=?_) (a':=?_) mk45_ rfl rfl (any_of HT_.out (by kernel_rfl)) (fun _ _ _ h => h) (Or.inl ⟨by rfl, ?_⟩) ?_ ?_
           rotate_left
           ·intro w'
            go_simp
            with_reducible rfl
           rotate_left
           ·simp only [Act.put, z1_, z2_, z3_, i64_w, i32_w]
            rfl
           refine one_ (i:=24) (N:=some 80) mk26_ rfl rfl (one_of HT_.out (by kernel_rfl)) (by decide) (fun K hK => ?_)
           refine goes_ Try.func25 (by kernel_rfl) rfl #[.agg #[.slice Ao71 t268.length co71, .int .i64 (wrap64 (a0_1 + a2))], .int .i64 (wrap64 (a0_1 + a2))] (by rfl) rfl rfl (by (try simp only [List.map_toArray, List.map_cons, List.map_nil]); first | done | rfl | (simp only [List.length_drop, List.length_take]; rfl)) ?_
           with_reducible refine (line_Epoch.calls kj3 _ _ t268 (wrap64 (a0_1 + a2)) (wrap64 (a0_1 + a2)) t279 _ ?side1 ?side2 A63.out).mono ?_
           (case side1 => repeat (first | exact (Kd.R_reads' HO271.out).2.2 | (with_reducible refine Kd.C_alloc ?_ _) | (with_reducible refine Kd.C_drewN ?_ _) | (with_reducible refine Kd.C_drew ?_)))
           (case side2 => exact (Kd.R_reads' HO271.out).2.1)
           rintro e w80 ⟨rfl, hb⟩
           refine ⟨_, rfl, ?_⟩
           have n0_ := A0_ (Kd.R_below (by (with_reducible repeat (first | apply Kd.R_alloc | apply Kd.R_drewN | apply Kd.R_drew)); exact HO271.out) hb)
           have n1_ := A0_ (blk_below (g:=gb265) (o:=.cells #[.slice A0_0 l0_0.length c0_0, .int .i64 a0_1] 39 (0, 0)) (by (with_reducible repeat (first | refine blk_drewN ?_ _ | refine blk_drew ?_ | refine blk_alloc ?_ _)); exact BK265.out) hb)
           have n2_ := A0_ (blk_below (g:=gb273) (o:=.cells #[.slice Ao71 t268.length co71, .int .i64 (wrap64 (a0_1 + a2))] 39 (0, 0)) (by (with_reducible repeat (first | refine blk_drewN ?_ _ | refine blk_drew ?_ | refine blk_alloc ?_ _)); exact BK273.out) hb)
           have n3_ := A0_ (below_step (by repeat (first | (with_reducible first | exact HB.out | apply below_alloc | apply pw_below_drewN | apply below_drew1 | refine below_set ?_ GE265.out | refine below_set ?_ GE273.out) | exact HB.out)) hb)
           clear HO271
           clear BK265
           clear BK273
           clear HB
           have HO271 := n0_
           have BK265 := n1_
           have BK273 := n2_
           have HB := n3_
           clear n0_ n1_ n2_ n3_
           (try clear hb)
           (try clear hb2)
           (try clear hk)
           (try clear hi)
           refine hK.out _ _ ⟨(blk_cell BK273.out 0).trans rfl, (blk_cell BK273.out 1).trans rfl, (blk_cell BK265.out 0).trans rfl, (blk_cell BK265.out 1).trans rfl⟩ (fun hHeld => ?_)
           clear hK K
           refine norm_ (a' := ?_) ?_ ?_
           rotate_left
           ·show Act.put _ (some 80) _ = _
            simp only [Act.put, z1_, z2_, z3_, i64_w, i32_w]
            rfl
           refine pure_ (i:=26) (N:=some 82) (v:=?_) (a':=?_) mk27_ rfl rfl (any_of HT_.out (by kernel_rfl)) (fun _ _ _ h => h) (Or.inl ⟨by rfl, ?_⟩) ?_ ?_
           rotate_left
           ·intro w'
            go_simp
            with_reducible rfl
           rotate_left
           ·simp only [Act.put, z1_, z2_, z3_, i64_w, i32_w]
            rfl
           refine pure_ (i:=27) (N:=some 83) (v:=?_) (a':=?_) mk28_ rfl rfl (any_of HT_.out (by kernel_rfl)) (fun _ _ _ h => h) (Or.inl ⟨by rfl, ?_⟩) ?_ ?_
           rotate_left
           ·intro w'
            go_simp
            with_reducible rfl
           rotate_left
           ·simp only [Act.put, z1_, z2_, z3_, i64_w, i32_w]
            rfl
           refine pure_ (i:=28) (N:=some 84) (v:=?_) (a':=?_) mk29_ rfl rfl (any_of HT_.out (by kernel_rfl)) (fun _ _ _ h => h) (Or.inl ⟨by rfl, ?_⟩) ?_ ?_
           rotate_left
           ·intro w'
            go_simp
            with_reducible rfl
           rotate_left
           ·simp only [Act.put, z1_, z2_, z3_, i64_w, i32_w]
            rfl
           refine pure_ (i:=29) (N:=some 85) (v:=?_) (a':=?_) mk30_ rfl rfl (any_of HT_.out (by kernel_rfl)) (fun _ _ _ h => h) (Or.inl ⟨by rfl, ?_⟩) ?_ ?_
           rotate_left
           ·intro w'
            go_simp
            with_reducible rfl
           rotate_left
           ·simp only [Act.put, z1_, z2_, z3_, i64_w, i32_w]
            rfl
           refine pure_ (i:=30) (N:=some 86) (v:=?_) (a':=?_) mk31_ rfl rfl (any_of HT_.out (by kernel_rfl)) (fun _ _ _ h => h) (Or.inl ⟨by rfl, ?_⟩) ?_ ?_
           rotate_left
           ·intro w'
            go_simp
            with_reducible rfl
           rotate_left
           ·simp only [Act.put, z1_, z2_, z3_, i64_w, i32_w]
            rfl
           refine pure_ (i:=32) (N:=some 88) (v:=?_) (a':=?_) mk32_ rfl rfl (any_of HT_.out (by kernel_rfl)) (fun _ _ _ h => h) (Or.inl ⟨by rfl, ?_⟩) ?_ ?_
           rotate_left
           ·intro w'
            go_simp
            with_reducible rfl
           rotate_left
           ·simp only [Act.put, z1_, z2_, z3_, i64_w, i32_w]
            rfl
           refine one_ (i:=31) (N:=some 87) mk33_ rfl rfl (one_of HT_.out (by kernel_rfl)) (by decide) (fun K hK => ?_)
           refine goes_ Try.func39 (by kernel_rfl) rfl #[.slice Ao71 t268.length co71] (by rfl) rfl rfl (by (try simp only [List.map_toArray, List.map_cons, List.map_nil]); first | done | rfl | (simp only [List.length_drop, List.length_take]; rfl)) ?_
           with_reducible refine (line_Last.calls kj3 _ _ t268 t280 _ ?side1 ?side2 A65.out).mono ?_
           (case side1 => repeat (first | exact (Kd.R_reads' HO271.out).2.2 | (with_reducible refine Kd.C_alloc ?_ _) | (with_reducible refine Kd.C_drewN ?_ _) | (with_reducible refine Kd.C_drew ?_)))
           (case side2 => exact (Kd.R_reads' HO271.out).2.1)
           rintro e w81 ⟨rfl, hb⟩
           refine ⟨_, rfl, ?_⟩
           have n0_ := A0_ (Kd.R_below (by (with_reducible repeat (first | apply Kd.R_alloc | apply Kd.R_drewN | apply Kd.R_drew)); exact HO271.out) hb)
           have n1_ := A0_ (blk_below (g:=gb265) (o:=.cells #[.slice A0_0 l0_0.length c0_0, .int .i64 a0_1] 39 (0, 0)) (by (with_reducible repeat (first | refine blk_drewN ?_ _ | refine blk_drew ?_ | refine blk_alloc ?_ _)); exact BK265.out) hb)
           have n2_ := A0_ (blk_below (g:=gb273) (o:=.cells #[.slice Ao71 t268.length co71, .int .i64 (wrap64 (a0_1 + a2))] 39 (0, 0)) (by (with_reducible repeat (first | refine blk_drewN ?_ _ | refine blk_drew ?_ | refine blk_alloc ?_ _)); exact BK273.out) hb)
           have n3_ := A0_ (below_step (by repeat (first | (with_reducible first | exact HB.out | apply below_alloc | apply pw_below_drewN | apply below_drew1 | refine below_set ?_ GE265.out | refine below_set ?_ GE273.out) | exact HB.out)) hb)
           clear HO271
           clear BK265
           clear BK273
           clear HB
           have HO271 := n0_
           have BK265 := n1_
           have BK273 := n2_
           have HB := n3_
           clear n0_ n1_ n2_ n3_
           (try clear hb)
           (try clear hb2)
           (try clear hk)
           (try clear hi)
           refine hK.out _ _ ⟨(blk_cell BK273.out 0).trans rfl, (blk_cell BK273.out 1).trans rfl, (blk_cell BK265.out 0).trans rfl, (blk_cell BK265.out 1).trans rfl⟩ (fun hHeld => ?_)
           clear hK K
           refine norm_ (a' := ?_) ?_ ?_
           rotate_left
           ·show Act.put _ (some 87) _ = _
            simp only [Act.put, z1_, z2_, z3_, i64_w, i32_w]
            rfl
           refine pure_ (i:=33) (N:=some 89) (v:=?_) (a':=?_) mk34_ rfl rfl (any_of HT_.out (by kernel_rfl)) (fun _ _ _ h => h) (Or.inl ⟨by rfl, ?_⟩) ?_ ?_
           rotate_left
           ·intro w'
            go_simp
            with_reducible rfl
           rotate_left
           ·simp only [Act.put, z1_, z2_, z3_, i64_w, i32_w]
            rfl
           refine pure_ (i:=34) (N:=some 90) (v:=?_) (a':=?_) mk35_ rfl rfl (any_of HT_.out (by kernel_rfl)) (fun _ _ _ h => h) (Or.inl ⟨by rfl, ?_⟩) ?_ ?_
           rotate_left
           ·intro w'
            go_simp
            with_reducible rfl
           rotate_left
           ·simp only [Act.put, z1_, z2_, z3_, i64_w, i32_w]
            rfl
           refine pure_ (i:=35) (N:=some 91) (v:=?_) (a':=?_) mk36_ rfl rfl (any_of HT_.out (by kernel_rfl)) (fun _ _ _ h => h) (Or.inl ⟨by rfl, ?_⟩) ?_ ?_
           rotate_left
           ·intro w'
            go_simp
            with_reducible rfl
           rotate_left
           ·simp only [Act.put, z1_, z2_, z3_, i64_w, i32_w]
            rfl
           refine one_ (i:=36) (N:=some 92) mk37_ rfl rfl (one_of HT_.out (by kernel_rfl)) (by decide) (fun K hK => ?_)
           refine goes_ Try.func22 (by kernel_rfl) rfl #[] (by rfl) rfl rfl (by (try simp only [List.map_toArray, List.map_cons, List.map_nil]); first | done | rfl | (simp only [List.length_drop, List.length_take]; rfl)) ?_
           with_reducible refine (counterfoillaw11_awake.calls kj3  t281 _ A67.out).mono ?_
           rintro e w82 ⟨rfl, hb⟩
           refine ⟨_, rfl, ?_⟩
           have n0_ := A0_ (Kd.R_below (by (with_reducible repeat (first | apply Kd.R_alloc | apply Kd.R_drewN | apply Kd.R_drew)); exact HO271.out) hb)
           have n1_ := A0_ (blk_below (g:=gb265) (o:=.cells #[.slice A0_0 l0_0.length c0_0, .int .i64 a0_1] 39 (0, 0)) (by (with_reducible repeat (first | refine blk_drewN ?_ _ | refine blk_drew ?_ | refine blk_alloc ?_ _)); exact BK265.out) hb)
           have n2_ := A0_ (blk_below (g:=gb273) (o:=.cells #[.slice Ao71 t268.length co71, .int .i64 (wrap64 (a0_1 + a2))] 39 (0, 0)) (by (with_reducible repeat (first | refine blk_drewN ?_ _ | refine blk_drew ?_ | refine blk_alloc ?_ _)); exact BK273.out) hb)
           have n3_ := A0_ (below_step (by repeat (first | (with_reducible first | exact HB.out | apply below_alloc | apply pw_below_drewN | apply below_drew1 | refine below_set ?_ GE265.out | refine below_set ?_ GE273.out) | exact HB.out)) hb)
           clear HO271
           clear BK265
           clear BK273
           clear HB
           have HO271 := n0_
           have BK265 := n1_
           have BK273 := n2_
           have HB := n3_
           clear n0_ n1_ n2_ n3_
           (try clear hb)
           (try clear hb2)
           (try clear hk)
           (try clear hi)
           refine hK.out _ _ ⟨(blk_cell BK273.out 0).trans rfl, (blk_cell BK273.out 1).trans rfl, (blk_cell BK265.out 0).trans rfl, (blk_cell BK265.out 1).trans rfl⟩ (fun hHeld => ?_)
           clear hK K
           refine norm_ (a' := ?_) ?_ ?_
           rotate_left
           ·show Act.put _ (some 92) _ = _
            simp only [Act.put, z1_, z2_, z3_, i64_w, i32_w]
            rfl
           refine pure_ (i:=37) (N:=some 93) (v:=?_) (a':=?_) mk38_ rfl rfl (any_of HT_.out (by kernel_rfl)) (fun _ _ _ h => h) (Or.inl ⟨by rfl, ?_⟩) ?_ ?_
           rotate_left
           ·intro w'
            go_simp
            with_reducible rfl
           rotate_left
           ·simp only [Act.put, z1_, z2_, z3_, i64_w, i32_w]
            rfl
           refine pure_ (i:=38) (N:=some 6) (v:=?_) (a':=?_) mk39_ rfl rfl (any_of HT_.out (by kernel_rfl)) (fun _ _ _ h => h) (Or.inl ⟨by rfl, ?_⟩) ?_ ?_
           rotate_left
           ·intro w'
            go_simp
            with_reducible rfl
           rotate_left
           ·simp only [Act.put, z1_, z2_, z3_, i64_w, i32_w]
            rfl
           refine done_ (done_of HT_.out (by kernel_rfl)) ?_
           try go_wp2
           go_ret
           exact ⟨by first | rfl | (simp [errW_none, errW_some] <;> rfl) | (simp [*, errW_none, errW_some] <;> rfl), by repeat (first | (with_reducible first | exact HB.out | apply below_alloc | apply pw_below_drewN | apply below_drew1 | refine below_set ?_ GE265.out | refine below_set ?_ GE273.out) | exact HB.out)⟩
          ·rw [if_neg c66] at H
           have c66b0 : (t280 == a1) = false := beq_eq_false_iff_ne.mpr c66
           have c66b1 : (t280 != a1) = true := bne_iff_ne.mpr c66
           obtain rfl := Option.some.inj H
           have hcz83_0 : wc.cell? ⟨gb265, 0, none⟩ = some (.slice A0_0 l0_0.length c0_0) := (blk_cell BK265.out 0).trans rfl
           have hcz83_1 : wc.cell? ⟨gb265, 1, none⟩ = some (.int .i64 a0_1) := (blk_cell BK265.out 1).trans rfl
           have hfz83_0 := blk_frozen BK265.out 0
           have hfz83_1 := blk_frozen BK265.out 1
           try go_wp2_with (first | ((with_reducible refine gate_callee (f := 35) rfl ?_); refine goesL_ (some 39) rfl rfl Try.func35 (by kernel_rfl) rfl #[.slice A0_0 l0_0.length c0_0, .int .i64 a1, .int .i64 a0_1] rfl (by (try simp only [List.map_toArray, List.map_cons, List.map_nil]); first | done | rfl | (simp only [List.length_drop, List.length_take]; rfl)) ?_; (with_reducible refine (line_Grow.calls kj3 _ _ l0_0 a1 a0_1 t268 t269 _ ?side1 ?side2 A24.out).mono ?_); (case side1 => repeat (first | exact (Kd.C_below HR0_0.out HB.out) | (with_reducible refine Kd.C_alloc ?_ _) | (with_reducible refine Kd.C_drewN ?_ _) | (with_reducible refine Kd.C_drew ?_))); (case side2 => exact HC0_0.out); rintro e w84 ⟨v270, rfl, ho0, hb⟩; refine ⟨_, rfl, ?_⟩; have n0_ := A0_ (Kd.R_lower ho0 (below_size (by repeat (first | (with_reducible first | exact HB.out | apply below_alloc | apply pw_below_drewN | apply below_drew1 | refine below_set ?_ GE265.out) | exact HB.out)))); have n1_ := A0_ (blk_below (g:=gb265) (o:=.cells #[.slice A0_0 l0_0.length c0_0, .int .i64 a0_1] 39 (0, 0)) (by (with_reducible repeat (first | refine blk_drewN ?_ _ | refine blk_drew ?_ | refine blk_alloc ?_ _)); exact BK265.out) hb); have n2_ := A0_ (below_step (by repeat (first | (with_reducible first | exact HB.out | apply below_alloc | apply pw_below_drewN | apply below_drew1 | refine below_set ?_ GE265.out) | exact HB.out)) hb); clear BK265; clear HB; have HO271 := n0_; have BK265 := n1_; have HB := n2_; clear n0_ n1_ n2_; (try clear hb); (try clear hb2); (try clear hk); (try clear hi); (try clear ho0); have hcz85_0 : w84.cell? ⟨gb265, 0, none⟩ = some (.slice A0_0 l0_0.length c0_0) := (blk_cell BK265.out 0).trans rfl; have hcz85_1 : w84.cell? ⟨gb265, 1, none⟩ = some (.int .i64 a0_1) := (blk_cell BK265.out 1).trans rfl; have hfz85_0 := blk_frozen BK265.out 0; have hfz85_1 := blk_frozen BK265.out 1; obtain ⟨Ao86, co86, eo86⟩ := Kd.R_slice HO271.out; subst eo86) | ((with_reducible refine gate_dst (N:=9) rfl ?_); refine box_event ?hg (N:=9) ?hd (cs := #[.slice none 0 0, .int .i64 0]) (t := 39) ?hr ?_; (case hd => rfl); (case hg => rfl); (case hr => first | (go_simp; done) | (go_simp; rfl)); intro gb273 hg w87 hbox hb; have n0_ := A0_ (Kd.R_below (by (with_reducible repeat (first | apply Kd.R_alloc | apply Kd.R_drewN | apply Kd.R_drew)); exact HO271.out) hb); have n1_ := A0_ (blk_below (g:=gb265) (o:=.cells #[.slice A0_0 l0_0.length c0_0, .int .i64 a0_1] 39 (0, 0)) (by (with_reducible repeat (first | refine blk_drewN ?_ _ | refine blk_drew ?_ | refine blk_alloc ?_ _)); exact BK265.out) hb); have n2_ := A0_ (below_step (by repeat (first | (with_reducible first | exact HB.out | apply below_alloc | apply pw_below_drewN | apply below_drew1 | refine below_set ?_ GE265.out) | exact HB.out)) hb); have n3_ := A0_ (hbox); have n4_ := A0_ ((by rw [hg]; exact (below_size (by repeat (first | (with_reducible first | exact HB.out | apply below_alloc | apply pw_below_drewN | apply below_drew1 | refine below_set ?_ GE265.out) | exact HB.out))) : w.heap.size ≤ gb273)); have n5_ := A0_ ((by rw [hg]; exact (below_size (by repeat (first | (with_reducible first | exact HB.out | apply below_alloc | apply pw_below_drewN | apply below_drew1 | refine below_set ?_ GE265.out) | exact HB.out))) : w.heap.size ≤ gb273)); have n6_ := A0_ ((by rw [hg]; exact Nat.ne_of_lt (blk_lt (g:=gb265) (o:=.cells #[.slice A0_0 l0_0.length c0_0, .int .i64 a0_1] 39 (0, 0)) (by (with_reducible repeat (first | refine blk_drewN ?_ _ | refine blk_drew ?_ | refine blk_alloc ?_ _)); exact BK265.out)) : gb265 ≠ gb273)); have n7_ := A0_ ((by rw [hg]; exact Nat.ne_of_gt (blk_lt (g:=gb265) (o:=.cells #[.slice A0_0 l0_0.length c0_0, .int .i64 a0_1] 39 (0, 0)) (by (with_reducible repeat (first | refine blk_drewN ?_ _ | refine blk_drew ?_ | refine blk_alloc ?_ _)); exact BK265.out)) : gb273 ≠ gb265)); clear HO271; clear BK265; clear HB; have HO271 := n0_; have BK265 := n1_; have HB := n2_; have BK273 := n3_; have GW273 := n4_; have GE273 := n5_; have NB265_273 := n6_; have NB273_265 := n7_; clear n0_ n1_ n2_ n3_ n4_ n5_ n6_ n7_; clear hb hbox hg; have hnb88 := NB273_265.out; have hnc88 := NB265_273.out; have hcz89_0 : w87.cell? ⟨gb273, 0, none⟩ = some (.slice none 0 0) := (blk_cell BK273.out 0).trans rfl; have hcz89_1 : w87.cell? ⟨gb273, 1, none⟩ = some (.int .i64 0) := (blk_cell BK273.out 1).trans rfl; have hfz89_0 := blk_frozen BK273.out 0; have hfz89_1 := blk_frozen BK273.out 1))
           have n0_ : Aside0 (Kd.R k61 61 ((w87.setCell ⟨gb273, 0, none⟩ (.slice Ao86 t268.length co86)).setCell ⟨gb273, 1, none⟩ (.int .i64 (wrap64 (a0_1 + a2)))) w.heap.size (fun _ => True) (.slice Ao86 t268.length co86) t268) := ⟨by (with_reducible repeat (first | apply Kd.R_alloc | apply Kd.R_drewN | apply Kd.R_drew)); exact Kd.R_mono (Kd.R_far (p := ⟨gb273, 1, none⟩) (Kd.R_far (p := ⟨gb273, 0, none⟩) (Kd.R_types HO271.out BK273.out (by decide)) (fun _ hk => hk.2) (.slice Ao86 t268.length co86)) (fun _ hk => hk.2) (.int .i64 (wrap64 (a0_1 + a2)))) (fun _ hk => trivial)⟩
           have n1_ : Aside0 (((w87.setCell ⟨gb273, 0, none⟩ (.slice Ao86 t268.length co86)).setCell ⟨gb273, 1, none⟩ (.int .i64 (wrap64 (a0_1 + a2)))).heap[gb265]? = some (.cells #[.slice A0_0 l0_0.length c0_0, .int .i64 a0_1] 39 (0, 0))) := ⟨by (with_reducible repeat (first | refine blk_drewN ?_ _ | refine blk_drew ?_ | refine blk_alloc ?_ _)); refine blk_far ?_ NB265_273.out _; (with_reducible repeat (first | refine blk_drewN ?_ _ | refine blk_drew ?_ | refine blk_alloc ?_ _)); refine blk_far ?_ NB265_273.out _; (with_reducible repeat (first | refine blk_drewN ?_ _ | refine blk_drew ?_ | refine blk_alloc ?_ _)); exact BK265.out⟩
           have n2_ : Aside0 (((w87.setCell ⟨gb273, 0, none⟩ (.slice Ao86 t268.length co86)).setCell ⟨gb273, 1, none⟩ (.int .i64 (wrap64 (a0_1 + a2)))).heap[gb273]? = some (.cells #[.slice Ao86 t268.length co86, .int .i64 (wrap64 (a0_1 + a2))] 39 (0, 0))) := ⟨by (with_reducible repeat (first | refine blk_drewN ?_ _ | refine blk_drew ?_ | refine blk_alloc ?_ _)); refine blk_put (cs := #[.slice Ao86 t268.length co86, .int .i64 0]) ?_ 1 _ rfl; (with_reducible repeat (first | refine blk_drewN ?_ _ | refine blk_drew ?_ | refine blk_alloc ?_ _)); refine blk_put (cs := #[.slice none 0 0, .int .i64 0]) ?_ 0 _ rfl; (with_reducible repeat (first | refine blk_drewN ?_ _ | refine blk_drew ?_ | refine blk_alloc ?_ _)); exact BK273.out⟩
           have n3_ : Aside0 (Below w.heap.size w ((w87.setCell ⟨gb273, 0, none⟩ (.slice Ao86 t268.length co86)).setCell ⟨gb273, 1, none⟩ (.int .i64 (wrap64 (a0_1 + a2))))) := ⟨by repeat (first | (with_reducible first | exact HB.out | apply below_alloc | apply pw_below_drewN | apply below_drew1 | refine below_set ?_ GE265.out | refine below_set ?_ GE273.out) | exact HB.out)⟩
           (try clear HO271)
           (try clear BK265)
           (try clear BK273)
           (try clear HB)
           generalize ((w87.setCell ⟨gb273, 0, none⟩ (.slice Ao86 t268.length co86)).setCell ⟨gb273, 1, none⟩ (.int .i64 (wrap64 (a0_1 + a2)))) = w90 at n0_ n1_ n2_ n3_ ⊢
           have HO271 := n0_
           have BK265 := n1_
           have BK273 := n2_
           have HB := n3_
           clear n0_ n1_ n2_ n3_
           have n0_ := A0_ (Kd.R_drew HO271.out)
           have n1_ := A0_ (blk_drew BK265.out)
           have n2_ := A0_ (blk_drew BK273.out)
           have n3_ := A0_ (below_drew1 HB.out)
           clear HO271
           clear BK265
           clear BK273
           clear HB
           have HO271 := n0_
           have BK265 := n1_
           have BK273 := n2_
           have HB := n3_
           clear n0_ n1_ n2_ n3_
           refine start_ (n := 39) (S := fun w' => w'.cell? ⟨gb273, 0, none⟩ = some (.slice Ao86 t268.length co86) ∧ w'.cell? ⟨gb273, 1, none⟩ = some (.int .i64 (wrap64 (a0_1 + a2))) ∧ w'.cell? ⟨gb265, 0, none⟩ = some (.slice A0_0 l0_0.length c0_0) ∧ w'.cell? ⟨gb265, 1, none⟩ = some (.int .i64 a0_1)) (ds := []) mk0_ (by kernel_rfl) rfl rfl ⟨(blk_cell BK273.out 0).trans rfl, (blk_cell BK273.out 1).trans rfl, (blk_cell BK265.out 0).trans rfl, (blk_cell BK265.out 1).trans rfl⟩ (fun hHeld => ?_); refine with_tabW counterfoillaw11_LineGoes.tab7 counterfoillaw11_LineGoes.bits7 (fun HT_ HW_ => ?_)
           generalize w90.drew = w91 at HO271 BK265 BK273 HB hHeld ⊢
           refine take_ (i:=0) (N:=some 56) (v:=?_) (a':=?_) mk1_ rfl rfl (take_ofW HT_.out HW_.out (by kernel_rfl)) (fun _ _ _ h => h) (Or.inl ⟨by rfl, ?_⟩) hHeld ?_ ?_
           rotate_left
           ·rintro w' ⟨s0, s1, s2, s3⟩
            go_simp
            with_reducible rfl
           rotate_left
           ·simp only [Act.put, z1_, z2_, z3_, i64_w, i32_w]
            rfl
           refine one_ (i:=1) (N:=some 57) mk2_ rfl rfl (one_of HT_.out (by kernel_rfl)) (by decide) (fun K hK => ?_)
           refine goes_ Try.func23 (by kernel_rfl) rfl #[.agg #[.slice Ao86 t268.length co86, .int .i64 (wrap64 (a0_1 + a2))]] (by rfl) rfl rfl (by (try simp only [List.map_toArray, List.map_cons, List.map_nil]); first | done | rfl | (simp only [List.length_drop, List.length_take]; rfl)) ?_
           with_reducible refine (line_Placed.calls kj3 _ _ t268 (wrap64 (a0_1 + a2)) true _ ?side1 ?side2 A26.out).mono ?_
           (case side1 => repeat (first | exact (Kd.R_reads' HO271.out).2.2 | (with_reducible refine Kd.C_alloc ?_ _) | (with_reducible refine Kd.C_drewN ?_ _) | (with_reducible refine Kd.C_drew ?_)))
           (case side2 => exact (Kd.R_reads' HO271.out).2.1)
           rintro e w92 ⟨rfl, hb⟩
           refine ⟨_, rfl, ?_⟩
           have n0_ := A0_ (Kd.R_below (by (with_reducible repeat (first | apply Kd.R_alloc | apply Kd.R_drewN | apply Kd.R_drew)); exact HO271.out) hb)
           have n1_ := A0_ (blk_below (g:=gb265) (o:=.cells #[.slice A0_0 l0_0.length c0_0, .int .i64 a0_1] 39 (0, 0)) (by (with_reducible repeat (first | refine blk_drewN ?_ _ | refine blk_drew ?_ | refine blk_alloc ?_ _)); exact BK265.out) hb)
           have n2_ := A0_ (blk_below (g:=gb273) (o:=.cells #[.slice Ao86 t268.length co86, .int .i64 (wrap64 (a0_1 + a2))] 39 (0, 0)) (by (with_reducible repeat (first | refine blk_drewN ?_ _ | refine blk_drew ?_ | refine blk_alloc ?_ _)); exact BK273.out) hb)
           have n3_ := A0_ (below_step (by repeat (first | (with_reducible first | exact HB.out | apply below_alloc | apply pw_below_drewN | apply below_drew1 | refine below_set ?_ GE265.out | refine below_set ?_ GE273.out) | exact HB.out)) hb)
           clear HO271
           clear BK265
           clear BK273
           clear HB
           have HO271 := n0_
           have BK265 := n1_
           have BK273 := n2_
           have HB := n3_
           clear n0_ n1_ n2_ n3_
           (try clear hb)
           (try clear hb2)
           (try clear hk)
           (try clear hi)
           refine hK.out _ _ ⟨(blk_cell BK273.out 0).trans rfl, (blk_cell BK273.out 1).trans rfl, (blk_cell BK265.out 0).trans rfl, (blk_cell BK265.out 1).trans rfl⟩ (fun hHeld => ?_)
           clear hK K
           refine norm_ (a' := ?_) ?_ ?_
           rotate_left
           ·show Act.put _ (some 57) _ = _
            simp only [Act.put, z1_, z2_, z3_, i64_w, i32_w]
            rfl
           refine pure_ (i:=2) (N:=some 58) (v:=?_) (a':=?_) mk3_ rfl rfl (any_of HT_.out (by kernel_rfl)) (fun _ _ _ h => h) (Or.inl ⟨by rfl, ?_⟩) ?_ ?_
           rotate_left
           ·intro w'
            go_simp
            with_reducible rfl
           rotate_left
           ·simp only [Act.put, z1_, z2_, z3_, i64_w, i32_w]
            rfl
           refine take_ (i:=3) (N:=some 59) (v:=?_) (a':=?_) mk4_ rfl rfl (take_ofW HT_.out HW_.out (by kernel_rfl)) (fun _ _ _ h => h) (Or.inl ⟨by rfl, ?_⟩) hHeld ?_ ?_
           rotate_left
           ·rintro w' ⟨s0, s1, s2, s3⟩
            go_simp
            with_reducible rfl
           rotate_left
           ·simp only [Act.put, z1_, z2_, z3_, i64_w, i32_w]
            rfl
           refine take_ (i:=4) (N:=some 60) (v:=?_) (a':=?_) mk5_ rfl rfl (take_ofW HT_.out HW_.out (by kernel_rfl)) (fun _ _ _ h => h) (Or.inl ⟨by rfl, ?_⟩) hHeld ?_ ?_
           rotate_left
           ·rintro w' ⟨s0, s1, s2, s3⟩
            go_simp
            with_reducible rfl
           rotate_left
           ·simp only [Act.put, z1_, z2_, z3_, i64_w, i32_w]
            rfl
           refine one_ (i:=5) (N:=some 61) mk6_ rfl rfl (one_of HT_.out (by kernel_rfl)) (by decide) (fun K hK => ?_)
           refine goes_ Try.func29 (by kernel_rfl) rfl #[.agg #[.slice A0_0 l0_0.length c0_0, .int .i64 a0_1], .agg #[.slice Ao86 t268.length co86, .int .i64 (wrap64 (a0_1 + a2))]] (by rfl) rfl rfl (by (try simp only [List.map_toArray, List.map_cons, List.map_nil]); first | done | rfl | (simp only [List.length_drop, List.length_take]; rfl)) ?_
           with_reducible refine (line_Ahead.calls kj3 _ _ l0_0 a0_1 _ _ t268 (wrap64 (a0_1 + a2)) true _ ?side1 ?side2 ?side3 ?side4 A28.out).mono ?_
           (case side1 => repeat (first | exact (Kd.C_below HR0_0.out HB.out) | (with_reducible refine Kd.C_alloc ?_ _) | (with_reducible refine Kd.C_drewN ?_ _) | (with_reducible refine Kd.C_drew ?_)))
           (case side2 => exact HC0_0.out)
           (case side3 => repeat (first | exact (Kd.R_reads' HO271.out).2.2 | (with_reducible refine Kd.C_alloc ?_ _) | (with_reducible refine Kd.C_drewN ?_ _) | (with_reducible refine Kd.C_drew ?_)))
           (case side4 => exact (Kd.R_reads' HO271.out).2.1)
           rintro e w93 ⟨rfl, hb⟩
           refine ⟨_, rfl, ?_⟩
           have n0_ := A0_ (Kd.R_below (by (with_reducible repeat (first | apply Kd.R_alloc | apply Kd.R_drewN | apply Kd.R_drew)); exact HO271.out) hb)
           have n1_ := A0_ (blk_below (g:=gb265) (o:=.cells #[.slice A0_0 l0_0.length c0_0, .int .i64 a0_1] 39 (0, 0)) (by (with_reducible repeat (first | refine blk_drewN ?_ _ | refine blk_drew ?_ | refine blk_alloc ?_ _)); exact BK265.out) hb)
           have n2_ := A0_ (blk_below (g:=gb273) (o:=.cells #[.slice Ao86 t268.length co86, .int .i64 (wrap64 (a0_1 + a2))] 39 (0, 0)) (by (with_reducible repeat (first | refine blk_drewN ?_ _ | refine blk_drew ?_ | refine blk_alloc ?_ _)); exact BK273.out) hb)
           have n3_ := A0_ (below_step (by repeat (first | (with_reducible first | exact HB.out | apply below_alloc | apply pw_below_drewN | apply below_drew1 | refine below_set ?_ GE265.out | refine below_set ?_ GE273.out) | exact HB.out)) hb)
           clear HO271
           clear BK265
           clear BK273
           clear HB
           have HO271 := n0_
           have BK265 := n1_
           have BK273 := n2_
           have HB := n3_
           clear n0_ n1_ n2_ n3_
           (try clear hb)
           (try clear hb2)
           (try clear hk)
           (try clear hi)
           refine hK.out _ _ ⟨(blk_cell BK273.out 0).trans rfl, (blk_cell BK273.out 1).trans rfl, (blk_cell BK265.out 0).trans rfl, (blk_cell BK265.out 1).trans rfl⟩ (fun hHeld => ?_)
           clear hK K
           refine norm_ (a' := ?_) ?_ ?_
           rotate_left
           ·show Act.put _ (some 61) _ = _
            simp only [Act.put, z1_, z2_, z3_, i64_w, i32_w]
            rfl
           refine pure_ (i:=6) (N:=some 62) (v:=?_) (a':=?_) mk7_ rfl rfl (any_of HT_.out (by kernel_rfl)) (fun _ _ _ h => h) (Or.inl ⟨by rfl, ?_⟩) ?_ ?_
           rotate_left
           ·intro w'
            go_simp
            with_reducible rfl
           rotate_left
           ·simp only [Act.put, z1_, z2_, z3_, i64_w, i32_w]
            rfl
           refine pure_ (i:=7) (N:=some 63) (v:=?_) (a':=?_) mk8_ rfl rfl (any_of HT_.out (by kernel_rfl)) (fun _ _ _ h => h) (Or.inl ⟨by rfl, ?_⟩) ?_ ?_
           rotate_left
           ·intro w'
            go_simp
            with_reducible rfl
           rotate_left
           ·simp only [Act.put, z1_, z2_, z3_, i64_w, i32_w]
            rfl
           refine pure_ (i:=11) (N:=some 67) (v:=?_) (a':=?_) mk9_ rfl rfl (any_of HT_.out (by kernel_rfl)) (fun _ _ _ h => h) (Or.inl ⟨by rfl, ?_⟩) ?_ ?_
           rotate_left
           ·intro w'
            go_simp
            with_reducible rfl
           rotate_left
           ·simp only [Act.put, z1_, z2_, z3_, i64_w, i32_w]
            rfl
           refine take_ (i:=8) (N:=some 64) (v:=?_) (a':=?_) mk10_ rfl rfl (take_ofW HT_.out HW_.out (by kernel_rfl)) (fun _ _ _ h => h) (Or.inl ⟨by rfl, ?_⟩) hHeld ?_ ?_
           rotate_left
           ·rintro w' ⟨s0, s1, s2, s3⟩
            go_simp
            with_reducible rfl
           rotate_left
           ·simp only [Act.put, z1_, z2_, z3_, i64_w, i32_w]
            rfl
           refine take_ (i:=9) (N:=some 65) (v:=?_) (a':=?_) mk11_ rfl rfl (take_ofW HT_.out HW_.out (by kernel_rfl)) (fun _ _ _ h => h) (Or.inl ⟨by rfl, ?_⟩) hHeld ?_ ?_
           rotate_left
           ·rintro w' ⟨s0, s1, s2, s3⟩
            go_simp
            with_reducible rfl
           rotate_left
           ·simp only [Act.put, z1_, z2_, z3_, i64_w, i32_w]
            rfl
           refine take_ (i:=12) (N:=some 68) (v:=?_) (a':=?_) mk12_ rfl rfl (take_ofW HT_.out HW_.out (by kernel_rfl)) (fun _ _ _ h => h) (Or.inl ⟨by rfl, ?_⟩) hHeld ?_ ?_
           rotate_left
           ·rintro w' ⟨s0, s1, s2, s3⟩
            go_simp
            with_reducible rfl
           rotate_left
           ·simp only [Act.put, z1_, z2_, z3_, i64_w, i32_w]
            rfl
           refine one_ (i:=10) (N:=some 66) mk13_ rfl rfl (one_of HT_.out (by kernel_rfl)) (by decide) (fun K hK => ?_)
           refine goes_ Try.func27 (by kernel_rfl) rfl #[.agg #[.slice A0_0 l0_0.length c0_0, .int .i64 a0_1], .agg #[.slice Ao86 t268.length co86, .int .i64 (wrap64 (a0_1 + a2))]] (by rfl) rfl rfl (by (try simp only [List.map_toArray, List.map_cons, List.map_nil]); first | done | rfl | (simp only [List.length_drop, List.length_take]; rfl)) ?_
           with_reducible refine (line_Common.calls kj3 _ _ l0_0 a0_1 _ _ t268 (wrap64 (a0_1 + a2)) t276 _ ?side1 ?side2 ?side3 ?side4 A30.out).mono ?_
           (case side1 => repeat (first | exact (Kd.C_below HR0_0.out HB.out) | (with_reducible refine Kd.C_alloc ?_ _) | (with_reducible refine Kd.C_drewN ?_ _) | (with_reducible refine Kd.C_drew ?_)))
           (case side2 => exact HC0_0.out)
           (case side3 => repeat (first | exact (Kd.R_reads' HO271.out).2.2 | (with_reducible refine Kd.C_alloc ?_ _) | (with_reducible refine Kd.C_drewN ?_ _) | (with_reducible refine Kd.C_drew ?_)))
           (case side4 => exact (Kd.R_reads' HO271.out).2.1)
           rintro e w94 ⟨rfl, hb⟩
           refine ⟨_, rfl, ?_⟩
           have n0_ := A0_ (Kd.R_below (by (with_reducible repeat (first | apply Kd.R_alloc | apply Kd.R_drewN | apply Kd.R_drew)); exact HO271.out) hb)
           have n1_ := A0_ (blk_below (g:=gb265) (o:=.cells #[.slice A0_0 l0_0.length c0_0, .int .i64 a0_1] 39 (0, 0)) (by (with_reducible repeat (first | refine blk_drewN ?_ _ | refine blk_drew ?_ | refine blk_alloc ?_ _)); exact BK265.out) hb)
           have n2_ := A0_ (blk_below (g:=gb273) (o:=.cells #[.slice Ao86 t268.length co86, .int .i64 (wrap64 (a0_1 + a2))] 39 (0, 0)) (by (with_reducible repeat (first | refine blk_drewN ?_ _ | refine blk_drew ?_ | refine blk_alloc ?_ _)); exact BK273.out) hb)
           have n3_ := A0_ (below_step (by repeat (first | (with_reducible first | exact HB.out | apply below_alloc | apply pw_below_drewN | apply below_drew1 | refine below_set ?_ GE265.out | refine below_set ?_ GE273.out) | exact HB.out)) hb)
           clear HO271
           clear BK265
           clear BK273
           clear HB
           have HO271 := n0_
           have BK265 := n1_
           have BK273 := n2_
           have HB := n3_
           clear n0_ n1_ n2_ n3_
           (try clear hb)
           (try clear hb2)
           (try clear hk)
           (try clear hi)
           refine hK.out _ _ ⟨(blk_cell BK273.out 0).trans rfl, (blk_cell BK273.out 1).trans rfl, (blk_cell BK265.out 0).trans rfl, (blk_cell BK265.out 1).trans rfl⟩ (fun hHeld => ?_)
           clear hK K
           refine norm_ (a' := ?_) ?_ ?_
           rotate_left
           ·show Act.put _ (some 66) _ = _
            simp only [Act.put, z1_, z2_, z3_, i64_w, i32_w]
            rfl
           refine pure_ (i:=13) (N:=some 69) (v:=?_) (a':=?_) mk14_ rfl rfl (any_of HT_.out (by kernel_rfl)) (fun _ _ _ h => h) (Or.inl ⟨by rfl, ?_⟩) ?_ ?_
           rotate_left
           ·intro w'
            go_simp
            with_reducible rfl
           rotate_left
           ·simp only [Act.put, z1_, z2_, z3_, i64_w, i32_w]
            rfl
           refine pure_ (i:=14) (N:=some 70) (v:=?_) (a':=?_) mk15_ rfl rfl (any_of HT_.out (by kernel_rfl)) (fun _ _ _ h => h) (Or.inl ⟨by rfl, ?_⟩) ?_ ?_
           rotate_left
           ·intro w'
            go_simp
            with_reducible rfl
           rotate_left
           ·simp only [Act.put, z1_, z2_, z3_, i64_w, i32_w]
            rfl
           refine pure_ (i:=15) (N:=some 71) (v:=?_) (a':=?_) mk16_ rfl rfl (any_of HT_.out (by kernel_rfl)) (fun _ _ _ h => h) (Or.inl ⟨by rfl, ?_⟩) ?_ ?_
           rotate_left
           ·intro w'
            go_simp
            with_reducible rfl
           rotate_left
           ·simp only [Act.put, z1_, z2_, z3_, i64_w, i32_w]
            rfl
           refine pure_ (i:=16) (N:=some 72) (v:=?_) (a':=?_) mk17_ rfl rfl (any_of HT_.out (by kernel_rfl)) (fun _ _ _ h => h) (Or.inl ⟨by rfl, ?_⟩) ?_ ?_
           rotate_left
           ·intro w'
            go_simp
            with_reducible rfl
           rotate_left
           ·simp only [Act.put, z1_, z2_, z3_, i64_w, i32_w]
            rfl
           refine pure_ (i:=17) (N:=some 73) (v:=?_) (a':=?_) mk18_ rfl rfl (any_of HT_.out (by kernel_rfl)) (fun _ _ _ h => h) (Or.inl ⟨by rfl, ?_⟩) ?_ ?_
           rotate_left
           ·intro w'
            go_simp
            with_reducible rfl
           rotate_left
           ·simp only [Act.put, z1_, z2_, z3_, i64_w, i32_w]
            rfl
           refine pure_ (i:=18) (N:=some 74) (v:=?_) (a':=?_) mk19_ rfl rfl (any_of HT_.out (by kernel_rfl)) (fun _ _ _ h => h) (Or.inl ⟨by rfl, ?_⟩) ?_ ?_
           rotate_left
           ·intro w'
            go_simp
            with_reducible rfl
           rotate_left
           ·simp only [Act.put, z1_, z2_, z3_, i64_w, i32_w]
            rfl
           refine pure_ (i:=20) (N:=some 76) (v:=?_) (a':=?_) mk40_ rfl rfl (any_of HT_.out (by kernel_rfl)) (fun _ _ _ h => h) (Or.inl ⟨by rfl, ?_⟩) ?_ ?_
           rotate_left
           ·intro w'
            go_simp
            with_reducible rfl
           rotate_left
           ·simp only [Act.put, z1_, z2_, z3_, i64_w, i32_w]
            rfl
           refine pure_ (i:=22) (N:=some 78) (v:=?_) (a':=?_) mk41_ rfl rfl (any_of HT_.out (by kernel_rfl)) (fun _ _ _ h => h) (Or.inl ⟨by rfl, ?_⟩) ?_ ?_
           rotate_left
           ·intro w'
            go_simp
            with_reducible rfl
           rotate_left
           ·simp only [Act.put, z1_, z2_, z3_, i64_w, i32_w]
            rfl
           refine pure_ (i:=25) (N:=some 81) (v:=?_) (a':=?_) mk42_ rfl rfl (any_of HT_.out (by kernel_rfl)) (fun _ _ _ h => h) (Or.inl ⟨by rfl, ?_⟩) ?_ ?_
           rotate_left
           ·intro w'
            go_simp
            with_reducible rfl
           rotate_left
           ·simp only [Act.put, z1_, z2_, z3_, i64_w, i32_w]
            rfl
           refine take_ (i:=19) (N:=some 75) (v:=?_) (a':=?_) mk43_ rfl rfl (take_ofW HT_.out HW_.out (by kernel_rfl)) (fun _ _ _ h => h) (Or.inl ⟨by rfl, ?_⟩) hHeld ?_ ?_
           rotate_left
           ·rintro w' ⟨s0, s1, s2, s3⟩
            go_simp
            with_reducible rfl
           rotate_left
           ·simp only [Act.put, z1_, z2_, z3_, i64_w, i32_w]
            rfl
           refine take_ (i:=21) (N:=some 77) (v:=?_) (a':=?_) mk44_ rfl rfl (take_ofW HT_.out HW_.out (by kernel_rfl)) (fun _ _ _ h => h) (Or.inl ⟨by rfl, ?_⟩) hHeld ?_ ?_
           rotate_left
           ·rintro w' ⟨s0, s1, s2, s3⟩
            go_simp
            with_reducible rfl
           rotate_left
           ·simp only [Act.put, z1_, z2_, z3_, i64_w, i32_w]
            rfl
           refine pure_ (i:=23) (N:=some 79) (v:=?_) (a':=?_) mk45_ rfl rfl (any_of HT_.out (by kernel_rfl)) (fun _ _ _ h => h) (Or.inl ⟨by rfl, ?_⟩) ?_ ?_
           rotate_left
           ·intro w'
            go_simp
            with_reducible rfl
           rotate_left
           ·simp only [Act.put, z1_, z2_, z3_, i64_w, i32_w]
            rfl
           refine one_ (i:=24) (N:=some 80) mk26_ rfl rfl (one_of HT_.out (by kernel_rfl)) (by decide) (fun K hK => ?_)
           refine goes_ Try.func25 (by kernel_rfl) rfl #[.agg #[.slice Ao86 t268.length co86, .int .i64 (wrap64 (a0_1 + a2))], .int .i64 (wrap64 (a0_1 + a2))] (by rfl) rfl rfl (by (try simp only [List.map_toArray, List.map_cons, List.map_nil]); first | done | rfl | (simp only [List.length_drop, List.length_take]; rfl)) ?_
           with_reducible refine (line_Epoch.calls kj3 _ _ t268 (wrap64 (a0_1 + a2)) (wrap64 (a0_1 + a2)) t279 _ ?side1 ?side2 A63.out).mono ?_
           (case side1 => repeat (first | exact (Kd.R_reads' HO271.out).2.2 | (with_reducible refine Kd.C_alloc ?_ _) | (with_reducible refine Kd.C_drewN ?_ _) | (with_reducible refine Kd.C_drew ?_)))
           (case side2 => exact (Kd.R_reads' HO271.out).2.1)
           rintro e w95 ⟨rfl, hb⟩
           refine ⟨_, rfl, ?_⟩
           have n0_ := A0_ (Kd.R_below (by (with_reducible repeat (first | apply Kd.R_alloc | apply Kd.R_drewN | apply Kd.R_drew)); exact HO271.out) hb)
           have n1_ := A0_ (blk_below (g:=gb265) (o:=.cells #[.slice A0_0 l0_0.length c0_0, .int .i64 a0_1] 39 (0, 0)) (by (with_reducible repeat (first | refine blk_drewN ?_ _ | refine blk_drew ?_ | refine blk_alloc ?_ _)); exact BK265.out) hb)
           have n2_ := A0_ (blk_below (g:=gb273) (o:=.cells #[.slice Ao86 t268.length co86, .int .i64 (wrap64 (a0_1 + a2))] 39 (0, 0)) (by (with_reducible repeat (first | refine blk_drewN ?_ _ | refine blk_drew ?_ | refine blk_alloc ?_ _)); exact BK273.out) hb)
           have n3_ := A0_ (below_step (by repeat (first | (with_reducible first | exact HB.out | apply below_alloc | apply pw_below_drewN | apply below_drew1 | refine below_set ?_ GE265.out | refine below_set ?_ GE273.out) | exact HB.out)) hb)
           clear HO271
           clear BK265
           clear BK273
           clear HB
           have HO271 := n0_
           have BK265 := n1_
           have BK273 := n2_
           have HB := n3_
           clear n0_ n1_ n2_ n3_
           (try clear hb)
           (try clear hb2)
           (try clear hk)
           (try clear hi)
           refine hK.out _ _ ⟨(blk_cell BK273.out 0).trans rfl, (blk_cell BK273.out 1).trans rfl, (blk_cell BK265.out 0).trans rfl, (blk_cell BK265.out 1).trans rfl⟩ (fun hHeld => ?_)
           clear hK K
           refine norm_ (a' := ?_) ?_ ?_
           rotate_left
           ·show Act.put _ (some 80) _ = _
            simp only [Act.put, z1_, z2_, z3_, i64_w, i32_w]
            rfl
           refine pure_ (i:=26) (N:=some 82) (v:=?_) (a':=?_) mk27_ rfl rfl (any_of HT_.out (by kernel_rfl)) (fun _ _ _ h => h) (Or.inl ⟨by rfl, ?_⟩) ?_ ?_
           rotate_left
           ·intro w'
            go_simp
            with_reducible rfl
           rotate_left
           ·simp only [Act.put, z1_, z2_, z3_, i64_w, i32_w]
            rfl
           refine pure_ (i:=27) (N:=some 83) (v:=?_) (a':=?_) mk28_ rfl rfl (any_of HT_.out (by kernel_rfl)) (fun _ _ _ h => h) (Or.inl ⟨by rfl, ?_⟩) ?_ ?_
           rotate_left
           ·intro w'
            go_simp
            with_reducible rfl
           rotate_left
           ·simp only [Act.put, z1_, z2_, z3_, i64_w, i32_w]
            rfl
           refine pure_ (i:=28) (N:=some 84) (v:=?_) (a':=?_) mk29_ rfl rfl (any_of HT_.out (by kernel_rfl)) (fun _ _ _ h => h) (Or.inl ⟨by rfl, ?_⟩) ?_ ?_
           rotate_left
           ·intro w'
            go_simp
            with_reducible rfl
           rotate_left
           ·simp only [Act.put, z1_, z2_, z3_, i64_w, i32_w]
            rfl
           refine pure_ (i:=29) (N:=some 85) (v:=?_) (a':=?_) mk30_ rfl rfl (any_of HT_.out (by kernel_rfl)) (fun _ _ _ h => h) (Or.inl ⟨by rfl, ?_⟩) ?_ ?_
           rotate_left
           ·intro w'
            go_simp
            with_reducible rfl
           rotate_left
           ·simp only [Act.put, z1_, z2_, z3_, i64_w, i32_w]
            rfl
           refine pure_ (i:=30) (N:=some 86) (v:=?_) (a':=?_) mk31_ rfl rfl (any_of HT_.out (by kernel_rfl)) (fun _ _ _ h => h) (Or.inl ⟨by rfl, ?_⟩) ?_ ?_
           rotate_left
           ·intro w'
            go_simp
            with_reducible rfl
           rotate_left
           ·simp only [Act.put, z1_, z2_, z3_, i64_w, i32_w]
            rfl
           refine pure_ (i:=32) (N:=some 88) (v:=?_) (a':=?_) mk32_ rfl rfl (any_of HT_.out (by kernel_rfl)) (fun _ _ _ h => h) (Or.inl ⟨by rfl, ?_⟩) ?_ ?_
           rotate_left
           ·intro w'
            go_simp
            with_reducible rfl
           rotate_left
           ·simp only [Act.put, z1_, z2_, z3_, i64_w, i32_w]
            rfl
           refine one_ (i:=31) (N:=some 87) mk33_ rfl rfl (one_of HT_.out (by kernel_rfl)) (by decide) (fun K hK => ?_)
           refine goes_ Try.func39 (by kernel_rfl) rfl #[.slice Ao86 t268.length co86] (by rfl) rfl rfl (by (try simp only [List.map_toArray, List.map_cons, List.map_nil]); first | done | rfl | (simp only [List.length_drop, List.length_take]; rfl)) ?_
           with_reducible refine (line_Last.calls kj3 _ _ t268 t280 _ ?side1 ?side2 A65.out).mono ?_
           (case side1 => repeat (first | exact (Kd.R_reads' HO271.out).2.2 | (with_reducible refine Kd.C_alloc ?_ _) | (with_reducible refine Kd.C_drewN ?_ _) | (with_reducible refine Kd.C_drew ?_)))
           (case side2 => exact (Kd.R_reads' HO271.out).2.1)
           rintro e w96 ⟨rfl, hb⟩
           refine ⟨_, rfl, ?_⟩
           have n0_ := A0_ (Kd.R_below (by (with_reducible repeat (first | apply Kd.R_alloc | apply Kd.R_drewN | apply Kd.R_drew)); exact HO271.out) hb)
           have n1_ := A0_ (blk_below (g:=gb265) (o:=.cells #[.slice A0_0 l0_0.length c0_0, .int .i64 a0_1] 39 (0, 0)) (by (with_reducible repeat (first | refine blk_drewN ?_ _ | refine blk_drew ?_ | refine blk_alloc ?_ _)); exact BK265.out) hb)
           have n2_ := A0_ (blk_below (g:=gb273) (o:=.cells #[.slice Ao86 t268.length co86, .int .i64 (wrap64 (a0_1 + a2))] 39 (0, 0)) (by (with_reducible repeat (first | refine blk_drewN ?_ _ | refine blk_drew ?_ | refine blk_alloc ?_ _)); exact BK273.out) hb)
           have n3_ := A0_ (below_step (by repeat (first | (with_reducible first | exact HB.out | apply below_alloc | apply pw_below_drewN | apply below_drew1 | refine below_set ?_ GE265.out | refine below_set ?_ GE273.out) | exact HB.out)) hb)
           clear HO271
           clear BK265
           clear BK273
           clear HB
           have HO271 := n0_
           have BK265 := n1_
           have BK273 := n2_
           have HB := n3_
           clear n0_ n1_ n2_ n3_
           (try clear hb)
           (try clear hb2)
           (try clear hk)
           (try clear hi)
           refine hK.out _ _ ⟨(blk_cell BK273.out 0).trans rfl, (blk_cell BK273.out 1).trans rfl, (blk_cell BK265.out 0).trans rfl, (blk_cell BK265.out 1).trans rfl⟩ (fun hHeld => ?_)
           clear hK K
           refine norm_ (a' := ?_) ?_ ?_
           rotate_left
           ·show Act.put _ (some 87) _ = _
            simp only [Act.put, z1_, z2_, z3_, i64_w, i32_w]
            rfl
           refine pure_ (i:=33) (N:=some 89) (v:=?_) (a':=?_) mk34_ rfl rfl (any_of HT_.out (by kernel_rfl)) (fun _ _ _ h => h) (Or.inl ⟨by rfl, ?_⟩) ?_ ?_
           rotate_left
           ·intro w'
            go_simp
            with_reducible rfl
           rotate_left
           ·simp only [Act.put, z1_, z2_, z3_, i64_w, i32_w]
            rfl
           refine pure_ (i:=34) (N:=some 90) (v:=?_) (a':=?_) mk35_ rfl rfl (any_of HT_.out (by kernel_rfl)) (fun _ _ _ h => h) (Or.inl ⟨by rfl, ?_⟩) ?_ ?_
           rotate_left
           ·intro w'
            go_simp
            with_reducible rfl
           rotate_left
           ·simp only [Act.put, z1_, z2_, z3_, i64_w, i32_w]
            rfl
           refine pure_ (i:=35) (N:=some 91) (v:=?_) (a':=?_) mk36_ rfl rfl (any_of HT_.out (by kernel_rfl)) (fun _ _ _ h => h) (Or.inl ⟨by rfl, ?_⟩) ?_ ?_
           rotate_left
           ·intro w'
            go_simp
            with_reducible rfl
           rotate_left
           ·simp only [Act.put, z1_, z2_, z3_, i64_w, i32_w]
            rfl
           refine pure_ (i:=36) (N:=some 92) (v := undef) (a' := ?_) mk37_ rfl rfl (any_of HT_.out (by kernel_rfl)) (fun _ _ _ h => h) (Or.inr ⟨by rfl, rfl⟩) ?_ ?_
           rotate_left
           ·simp only [Act.put, z1_, z2_, z3_, i64_w, i32_w]
            rfl
           refine pure_ (i:=37) (N:=some 93) (v:=?_) (a':=?_) mk38_ rfl rfl (any_of HT_.out (by kernel_rfl)) (fun _ _ _ h => h) (Or.inl ⟨by rfl, ?_⟩) ?_ ?_
           rotate_left
           ·intro w'
            go_simp
            with_reducible rfl
           rotate_left
           ·simp only [Act.put, z1_, z2_, z3_, i64_w, i32_w]
            rfl
           refine pure_ (i:=38) (N:=some 6) (v:=?_) (a':=?_) mk39_ rfl rfl (any_of HT_.out (by kernel_rfl)) (fun _ _ _ h => h) (Or.inl ⟨by rfl, ?_⟩) ?_ ?_
           rotate_left
           ·intro w'
            go_simp
            with_reducible rfl
           rotate_left
           ·simp only [Act.put, z1_, z2_, z3_, i64_w, i32_w]
            rfl
           refine done_ (done_of HT_.out (by kernel_rfl)) ?_
           try go_wp2
           go_ret
           exact ⟨by first | rfl | (simp [errW_none, errW_some] <;> rfl) | (simp [*, errW_none, errW_some] <;> rfl), by repeat (first | (with_reducible first | exact HB.out | apply below_alloc | apply pw_below_drewN | apply below_drew1 | refine below_set ?_ GE265.out | refine below_set ?_ GE273.out) | exact HB.out)⟩
         ·rw [if_neg c64] at H
          have c64b0 : (t279 == a1) = false := beq_eq_false_iff_ne.mpr c64
          have c64b1 : (t279 != a1) = true := bne_iff_ne.mpr c64
          obtain rfl := Option.some.inj H
          have hcz97_0 : wc.cell? ⟨gb265, 0, none⟩ = some (.slice A0_0 l0_0.length c0_0) := (blk_cell BK265.out 0).trans rfl
          have hcz97_1 : wc.cell? ⟨gb265, 1, none⟩ = some (.int .i64 a0_1) := (blk_cell BK265.out 1).trans rfl
          have hfz97_0 := blk_frozen BK265.out 0
          have hfz97_1 := blk_frozen BK265.out 1
          try go_wp2_with (first | ((with_reducible refine gate_callee (f := 35) rfl ?_); refine goesL_ (some 39) rfl rfl Try.func35 (by kernel_rfl) rfl #[.slice A0_0 l0_0.length c0_0, .int .i64 a1, .int .i64 a0_1] rfl (by (try simp only [List.map_toArray, List.map_cons, List.map_nil]); first | done | rfl | (simp only [List.length_drop, List.length_take]; rfl)) ?_; (with_reducible refine (line_Grow.calls kj3 _ _ l0_0 a1 a0_1 t268 t269 _ ?side1 ?side2 A24.out).mono ?_); (case side1 => repeat (first | exact (Kd.C_below HR0_0.out HB.out) | (with_reducible refine Kd.C_alloc ?_ _) | (with_reducible refine Kd.C_drewN ?_ _) | (with_reducible refine Kd.C_drew ?_))); (case side2 => exact HC0_0.out); rintro e w98 ⟨v270, rfl, ho0, hb⟩; refine ⟨_, rfl, ?_⟩; have n0_ := A0_ (Kd.R_lower ho0 (below_size (by repeat (first | (with_reducible first | exact HB.out | apply below_alloc | apply pw_below_drewN | apply below_drew1 | refine below_set ?_ GE265.out) | exact HB.out)))); have n1_ := A0_ (blk_below (g:=gb265) (o:=.cells #[.slice A0_0 l0_0.length c0_0, .int .i64 a0_1] 39 (0, 0)) (by (with_reducible repeat (first | refine blk_drewN ?_ _ | refine blk_drew ?_ | refine blk_alloc ?_ _)); exact BK265.out) hb); have n2_ := A0_ (below_step (by repeat (first | (with_reducible first | exact HB.out | apply below_alloc | apply pw_below_drewN | apply below_drew1 | refine below_set ?_ GE265.out) | exact HB.out)) hb); clear BK265; clear HB; have HO271 := n0_; have BK265 := n1_; have HB := n2_; clear n0_ n1_ n2_; (try clear hb); (try clear hb2); (try clear hk); (try clear hi); (try clear ho0); have hcz99_0 : w98.cell? ⟨gb265, 0, none⟩ = some (.slice A0_0 l0_0.length c0_0) := (blk_cell BK265.out 0).trans rfl; have hcz99_1 : w98.cell? ⟨gb265, 1, none⟩ = some (.int .i64 a0_1) := (blk_cell BK265.out 1).trans rfl; have hfz99_0 := blk_frozen BK265.out 0; have hfz99_1 := blk_frozen BK265.out 1; obtain ⟨Ao100, co100, eo100⟩ := Kd.R_slice HO271.out; subst eo100) | ((with_reducible refine gate_dst (N:=9) rfl ?_); refine box_event ?hg (N:=9) ?hd (cs := #[.slice none 0 0, .int .i64 0]) (t := 39) ?hr ?_; (case hd => rfl); (case hg => rfl); (case hr => first | (go_simp; done) | (go_simp; rfl)); intro gb273 hg w101 hbox hb; have n0_ := A0_ (Kd.R_below (by (with_reducible repeat (first | apply Kd.R_alloc | apply Kd.R_drewN | apply Kd.R_drew)); exact HO271.out) hb); have n1_ := A0_ (blk_below (g:=gb265) (o:=.cells #[.slice A0_0 l0_0.length c0_0, .int .i64 a0_1] 39 (0, 0)) (by (with_reducible repeat (first | refine blk_drewN ?_ _ | refine blk_drew ?_ | refine blk_alloc ?_ _)); exact BK265.out) hb); have n2_ := A0_ (below_step (by repeat (first | (with_reducible first | exact HB.out | apply below_alloc | apply pw_below_drewN | apply below_drew1 | refine below_set ?_ GE265.out) | exact HB.out)) hb); have n3_ := A0_ (hbox); have n4_ := A0_ ((by rw [hg]; exact (below_size (by repeat (first | (with_reducible first | exact HB.out | apply below_alloc | apply pw_below_drewN | apply below_drew1 | refine below_set ?_ GE265.out) | exact HB.out))) : w.heap.size ≤ gb273)); have n5_ := A0_ ((by rw [hg]; exact (below_size (by repeat (first | (with_reducible first | exact HB.out | apply below_alloc | apply pw_below_drewN | apply below_drew1 | refine below_set ?_ GE265.out) | exact HB.out))) : w.heap.size ≤ gb273)); have n6_ := A0_ ((by rw [hg]; exact Nat.ne_of_lt (blk_lt (g:=gb265) (o:=.cells #[.slice A0_0 l0_0.length c0_0, .int .i64 a0_1] 39 (0, 0)) (by (with_reducible repeat (first | refine blk_drewN ?_ _ | refine blk_drew ?_ | refine blk_alloc ?_ _)); exact BK265.out)) : gb265 ≠ gb273)); have n7_ := A0_ ((by rw [hg]; exact Nat.ne_of_gt (blk_lt (g:=gb265) (o:=.cells #[.slice A0_0 l0_0.length c0_0, .int .i64 a0_1] 39 (0, 0)) (by (with_reducible repeat (first | refine blk_drewN ?_ _ | refine blk_drew ?_ | refine blk_alloc ?_ _)); exact BK265.out)) : gb273 ≠ gb265)); clear HO271; clear BK265; clear HB; have HO271 := n0_; have BK265 := n1_; have HB := n2_; have BK273 := n3_; have GW273 := n4_; have GE273 := n5_; have NB265_273 := n6_; have NB273_265 := n7_; clear n0_ n1_ n2_ n3_ n4_ n5_ n6_ n7_; clear hb hbox hg; have hnb102 := NB273_265.out; have hnc102 := NB265_273.out; have hcz103_0 : w101.cell? ⟨gb273, 0, none⟩ = some (.slice none 0 0) := (blk_cell BK273.out 0).trans rfl; have hcz103_1 : w101.cell? ⟨gb273, 1, none⟩ = some (.int .i64 0) := (blk_cell BK273.out 1).trans rfl; have hfz103_0 := blk_frozen BK273.out 0; have hfz103_1 := blk_frozen BK273.out 1))
          have n0_ : Aside0 (Kd.R k61 61 ((w101.setCell ⟨gb273, 0, none⟩ (.slice Ao100 t268.length co100)).setCell ⟨gb273, 1, none⟩ (.int .i64 (wrap64 (a0_1 + a2)))) w.heap.size (fun _ => True) (.slice Ao100 t268.length co100) t268) := ⟨by (with_reducible repeat (first | apply Kd.R_alloc | apply Kd.R_drewN | apply Kd.R_drew)); exact Kd.R_mono (Kd.R_far (p := ⟨gb273, 1, none⟩) (Kd.R_far (p := ⟨gb273, 0, none⟩) (Kd.R_types HO271.out BK273.out (by decide)) (fun _ hk => hk.2) (.slice Ao100 t268.length co100)) (fun _ hk => hk.2) (.int .i64 (wrap64 (a0_1 + a2)))) (fun _ hk => trivial)⟩
          have n1_ : Aside0 (((w101.setCell ⟨gb273, 0, none⟩ (.slice Ao100 t268.length co100)).setCell ⟨gb273, 1, none⟩ (.int .i64 (wrap64 (a0_1 + a2)))).heap[gb265]? = some (.cells #[.slice A0_0 l0_0.length c0_0, .int .i64 a0_1] 39 (0, 0))) := ⟨by (with_reducible repeat (first | refine blk_drewN ?_ _ | refine blk_drew ?_ | refine blk_alloc ?_ _)); refine blk_far ?_ NB265_273.out _; (with_reducible repeat (first | refine blk_drewN ?_ _ | refine blk_drew ?_ | refine blk_alloc ?_ _)); refine blk_far ?_ NB265_273.out _; (with_reducible repeat (first | refine blk_drewN ?_ _ | refine blk_drew ?_ | refine blk_alloc ?_ _)); exact BK265.out⟩
          have n2_ : Aside0 (((w101.setCell ⟨gb273, 0, none⟩ (.slice Ao100 t268.length co100)).setCell ⟨gb273, 1, none⟩ (.int .i64 (wrap64 (a0_1 + a2)))).heap[gb273]? = some (.cells #[.slice Ao100 t268.length co100, .int .i64 (wrap64 (a0_1 + a2))] 39 (0, 0))) := ⟨by (with_reducible repeat (first | refine blk_drewN ?_ _ | refine blk_drew ?_ | refine blk_alloc ?_ _)); refine blk_put (cs := #[.slice Ao100 t268.length co100, .int .i64 0]) ?_ 1 _ rfl; (with_reducible repeat (first | refine blk_drewN ?_ _ | refine blk_drew ?_ | refine blk_alloc ?_ _)); refine blk_put (cs := #[.slice none 0 0, .int .i64 0]) ?_ 0 _ rfl; (with_reducible repeat (first | refine blk_drewN ?_ _ | refine blk_drew ?_ | refine blk_alloc ?_ _)); exact BK273.out⟩
          have n3_ : Aside0 (Below w.heap.size w ((w101.setCell ⟨gb273, 0, none⟩ (.slice Ao100 t268.length co100)).setCell ⟨gb273, 1, none⟩ (.int .i64 (wrap64 (a0_1 + a2))))) := ⟨by repeat (first | (with_reducible first | exact HB.out | apply below_alloc | apply pw_below_drewN | apply below_drew1 | refine below_set ?_ GE265.out | refine below_set ?_ GE273.out) | exact HB.out)⟩
          (try clear HO271)
          (try clear BK265)
          (try clear BK273)
          (try clear HB)
          generalize ((w101.setCell ⟨gb273, 0, none⟩ (.slice Ao100 t268.length co100)).setCell ⟨gb273, 1, none⟩ (.int .i64 (wrap64 (a0_1 + a2)))) = w104 at n0_ n1_ n2_ n3_ ⊢
          have HO271 := n0_
          have BK265 := n1_
          have BK273 := n2_
          have HB := n3_
          clear n0_ n1_ n2_ n3_
          have n0_ := A0_ (Kd.R_drew HO271.out)
          have n1_ := A0_ (blk_drew BK265.out)
          have n2_ := A0_ (blk_drew BK273.out)
          have n3_ := A0_ (below_drew1 HB.out)
          clear HO271
          clear BK265
          clear BK273
          clear HB
          have HO271 := n0_
          have BK265 := n1_
          have BK273 := n2_
          have HB := n3_
          clear n0_ n1_ n2_ n3_
          refine start_ (n := 39) (S := fun w' => w'.cell? ⟨gb273, 0, none⟩ = some (.slice Ao100 t268.length co100) ∧ w'.cell? ⟨gb273, 1, none⟩ = some (.int .i64 (wrap64 (a0_1 + a2))) ∧ w'.cell? ⟨gb265, 0, none⟩ = some (.slice A0_0 l0_0.length c0_0) ∧ w'.cell? ⟨gb265, 1, none⟩ = some (.int .i64 a0_1)) (ds := []) mk0_ (by kernel_rfl) rfl rfl ⟨(blk_cell BK273.out 0).trans rfl, (blk_cell BK273.out 1).trans rfl, (blk_cell BK265.out 0).trans rfl, (blk_cell BK265.out 1).trans rfl⟩ (fun hHeld => ?_); refine with_tabW counterfoillaw11_LineGoes.tab7 counterfoillaw11_LineGoes.bits7 (fun HT_ HW_ => ?_)
          generalize w104.drew = w105 at HO271 BK265 BK273 HB hHeld ⊢
          refine take_ (i:=0) (N:=some 56) (v:=?_) (a':=?_) mk1_ rfl rfl (take_ofW HT_.out HW_.out (by kernel_rfl)) (fun _ _ _ h => h) (Or.inl ⟨by rfl, ?_⟩) hHeld ?_ ?_
          rotate_left
          ·rintro w' ⟨s0, s1, s2, s3⟩
           go_simp
           with_reducible rfl
          rotate_left
          ·simp only [Act.put, z1_, z2_, z3_, i64_w, i32_w]
           rfl
          refine one_ (i:=1) (N:=some 57) mk2_ rfl rfl (one_of HT_.out (by kernel_rfl)) (by decide) (fun K hK => ?_)
          refine goes_ Try.func23 (by kernel_rfl) rfl #[.agg #[.slice Ao100 t268.length co100, .int .i64 (wrap64 (a0_1 + a2))]] (by rfl) rfl rfl (by (try simp only [List.map_toArray, List.map_cons, List.map_nil]); first | done | rfl | (simp only [List.length_drop, List.length_take]; rfl)) ?_
          with_reducible refine (line_Placed.calls kj3 _ _ t268 (wrap64 (a0_1 + a2)) true _ ?side1 ?side2 A26.out).mono ?_
          (case side1 => repeat (first | exact (Kd.R_reads' HO271.out).2.2 | (with_reducible refine Kd.C_alloc ?_ _) | (with_reducible refine Kd.C_drewN ?_ _) | (with_reducible refine Kd.C_drew ?_)))
          (case side2 => exact (Kd.R_reads' HO271.out).2.1)
          rintro e w106 ⟨rfl, hb⟩
          refine ⟨_, rfl, ?_⟩
          have n0_ := A0_ (Kd.R_below (by (with_reducible repeat (first | apply Kd.R_alloc | apply Kd.R_drewN | apply Kd.R_drew)); exact HO271.out) hb)
          have n1_ := A0_ (blk_below (g:=gb265) (o:=.cells #[.slice A0_0 l0_0.length c0_0, .int .i64 a0_1] 39 (0, 0)) (by (with_reducible repeat (first | refine blk_drewN ?_ _ | refine blk_drew ?_ | refine blk_alloc ?_ _)); exact BK265.out) hb)
          have n2_ := A0_ (blk_below (g:=gb273) (o:=.cells #[.slice Ao100 t268.length co100, .int .i64 (wrap64 (a0_1 + a2))] 39 (0, 0)) (by (with_reducible repeat (first | refine blk_drewN ?_ _ | refine blk_drew ?_ | refine blk_alloc ?_ _)); exact BK273.out) hb)
          have n3_ := A0_ (below_step (by repeat (first | (with_reducible first | exact HB.out | apply below_alloc | apply pw_below_drewN | apply below_drew1 | refine below_set ?_ GE265.out | refine below_set ?_ GE273.out) | exact HB.out)) hb)
          clear HO271
          clear BK265
          clear BK273
          clear HB
          have HO271 := n0_
          have BK265 := n1_
          have BK273 := n2_
          have HB := n3_
          clear n0_ n1_ n2_ n3_
          (try clear hb)
          (try clear hb2)
          (try clear hk)
          (try clear hi)
          refine hK.out _ _ ⟨(blk_cell BK273.out 0).trans rfl, (blk_cell BK273.out 1).trans rfl, (blk_cell BK265.out 0).trans rfl, (blk_cell BK265.out 1).trans rfl⟩ (fun hHeld => ?_)
          clear hK K
          refine norm_ (a' := ?_) ?_ ?_
          rotate_left
          ·show Act.put _ (some 57) _ = _
           simp only [Act.put, z1_, z2_, z3_, i64_w, i32_w]
           rfl
          refine pure_ (i:=2) (N:=some 58) (v:=?_) (a':=?_) mk3_ rfl rfl (any_of HT_.out (by kernel_rfl)) (fun _ _ _ h => h) (Or.inl ⟨by rfl, ?_⟩) ?_ ?_
          rotate_left
          ·intro w'
           go_simp
           with_reducible rfl
          rotate_left
          ·simp only [Act.put, z1_, z2_, z3_, i64_w, i32_w]
           rfl
          refine take_ (i:=3) (N:=some 59) (v:=?_) (a':=?_) mk4_ rfl rfl (take_ofW HT_.out HW_.out (by kernel_rfl)) (fun _ _ _ h => h) (Or.inl ⟨by rfl, ?_⟩) hHeld ?_ ?_
          rotate_left
          ·rintro w' ⟨s0, s1, s2, s3⟩
           go_simp
           with_reducible rfl
          rotate_left
          ·simp only [Act.put, z1_, z2_, z3_, i64_w, i32_w]
           rfl
          refine take_ (i:=4) (N:=some 60) (v:=?_) (a':=?_) mk5_ rfl rfl (take_ofW HT_.out HW_.out (by kernel_rfl)) (fun _ _ _ h => h) (Or.inl ⟨by rfl, ?_⟩) hHeld ?_ ?_
          rotate_left
          ·rintro w' ⟨s0, s1, s2, s3⟩
           go_simp
           with_reducible rfl
          rotate_left
          ·simp only [Act.put, z1_, z2_, z3_, i64_w, i32_w]
           rfl
          refine one_ (i:=5) (N:=some 61) mk6_ rfl rfl (one_of HT_.out (by kernel_rfl)) (by decide) (fun K hK => ?_)
          refine goes_ Try.func29 (by kernel_rfl) rfl #[.agg #[.slice A0_0 l0_0.length c0_0, .int .i64 a0_1], .agg #[.slice Ao100 t268.length co100, .int .i64 (wrap64 (a0_1 + a2))]] (by rfl) rfl rfl (by (try simp only [List.map_toArray, List.map_cons, List.map_nil]); first | done | rfl | (simp only [List.length_drop, List.length_take]; rfl)) ?_
          with_reducible refine (line_Ahead.calls kj3 _ _ l0_0 a0_1 _ _ t268 (wrap64 (a0_1 + a2)) true _ ?side1 ?side2 ?side3 ?side4 A28.out).mono ?_
          (case side1 => repeat (first | exact (Kd.C_below HR0_0.out HB.out) | (with_reducible refine Kd.C_alloc ?_ _) | (with_reducible refine Kd.C_drewN ?_ _) | (with_reducible refine Kd.C_drew ?_)))
          (case side2 => exact HC0_0.out)
          (case side3 => repeat (first | exact (Kd.R_reads' HO271.out).2.2 | (with_reducible refine Kd.C_alloc ?_ _) | (with_reducible refine Kd.C_drewN ?_ _) | (with_reducible refine Kd.C_drew ?_)))
          (case side4 => exact (Kd.R_reads' HO271.out).2.1)
          rintro e w107 ⟨rfl, hb⟩
          refine ⟨_, rfl, ?_⟩
          have n0_ := A0_ (Kd.R_below (by (with_reducible repeat (first | apply Kd.R_alloc | apply Kd.R_drewN | apply Kd.R_drew)); exact HO271.out) hb)
          have n1_ := A0_ (blk_below (g:=gb265) (o:=.cells #[.slice A0_0 l0_0.length c0_0, .int .i64 a0_1] 39 (0, 0)) (by (with_reducible repeat (first | refine blk_drewN ?_ _ | refine blk_drew ?_ | refine blk_alloc ?_ _)); exact BK265.out) hb)
          have n2_ := A0_ (blk_below (g:=gb273) (o:=.cells #[.slice Ao100 t268.length co100, .int .i64 (wrap64 (a0_1 + a2))] 39 (0, 0)) (by (with_reducible repeat (first | refine blk_drewN ?_ _ | refine blk_drew ?_ | refine blk_alloc ?_ _)); exact BK273.out) hb)
          have n3_ := A0_ (below_step (by repeat (first | (with_reducible first | exact HB.out | apply below_alloc | apply pw_below_drewN | apply below_drew1 | refine below_set ?_ GE265.out | refine below_set ?_ GE273.out) | exact HB.out)) hb)
          clear HO271
          clear BK265
          clear BK273
          clear HB
          have HO271 := n0_
          have BK265 := n1_
          have BK273 := n2_
          have HB := n3_
          clear n0_ n1_ n2_ n3_
          (try clear hb)
          (try clear hb2)
          (try clear hk)
          (try clear hi)
          refine hK.out _ _ ⟨(blk_cell BK273.out 0).trans rfl, (blk_cell BK273.out 1).trans rfl, (blk_cell BK265.out 0).trans rfl, (blk_cell BK265.out 1).trans rfl⟩ (fun hHeld => ?_)
          clear hK K
          refine norm_ (a' := ?_) ?_ ?_
          rotate_left
          ·show Act.put _ (some 61) _ = _
           simp only [Act.put, z1_, z2_, z3_, i64_w, i32_w]
           rfl
          refine pure_ (i:=6) (N:=some 62) (v:=?_) (a':=?_) mk7_ rfl rfl (any_of HT_.out (by kernel_rfl)) (fun _ _ _ h => h) (Or.inl ⟨by rfl, ?_⟩) ?_ ?_
          rotate_left
          ·intro w'
           go_simp
           with_reducible rfl
          rotate_left
          ·simp only [Act.put, z1_, z2_, z3_, i64_w, i32_w]
           rfl
          refine pure_ (i:=7) (N:=some 63) (v:=?_) (a':=?_) mk8_ rfl rfl (any_of HT_.out (by kernel_rfl)) (fun _ _ _ h => h) (Or.inl ⟨by rfl, ?_⟩) ?_ ?_
          rotate_left
          ·intro w'
           go_simp
           with_reducible rfl
          rotate_left
          ·simp only [Act.put, z1_, z2_, z3_, i64_w, i32_w]
           rfl
          refine pure_ (i:=11) (N:=some 67) (v:=?_) (a':=?_) mk9_ rfl rfl (any_of HT_.out (by kernel_rfl)) (fun _ _ _ h => h) (Or.inl ⟨by rfl, ?_⟩) ?_ ?_
          rotate_left
          ·intro w'
           go_simp
           with_reducible rfl
          rotate_left
          ·simp only [Act.put, z1_, z2_, z3_, i64_w, i32_w]
           rfl
          refine take_ (i:=8) (N:=some 64) (v:=?_) (a':=?_) mk10_ rfl rfl (take_ofW HT_.out HW_.out (by kernel_rfl)) (fun _ _ _ h => h) (Or.inl ⟨by rfl, ?_⟩) hHeld ?_ ?_
          rotate_left
          ·rintro w' ⟨s0, s1, s2, s3⟩
           go_simp
           with_reducible rfl
          rotate_left
          ·simp only [Act.put, z1_, z2_, z3_, i64_w, i32_w]
           rfl
          refine take_ (i:=9) (N:=some 65) (v:=?_) (a':=?_) mk11_ rfl rfl (take_ofW HT_.out HW_.out (by kernel_rfl)) (fun _ _ _ h => h) (Or.inl ⟨by rfl, ?_⟩) hHeld ?_ ?_
          rotate_left
          ·rintro w' ⟨s0, s1, s2, s3⟩
           go_simp
           with_reducible rfl
          rotate_left
          ·simp only [Act.put, z1_, z2_, z3_, i64_w, i32_w]
           rfl
          refine take_ (i:=12) (N:=some 68) (v:=?_) (a':=?_) mk12_ rfl rfl (take_ofW HT_.out HW_.out (by kernel_rfl)) (fun _ _ _ h => h) (Or.inl ⟨by rfl, ?_⟩) hHeld ?_ ?_
          rotate_left
          ·rintro w' ⟨s0, s1, s2, s3⟩
           go_simp
           with_reducible rfl
          rotate_left
          ·simp only [Act.put, z1_, z2_, z3_, i64_w, i32_w]
           rfl
          refine one_ (i:=10) (N:=some 66) mk13_ rfl rfl (one_of HT_.out (by kernel_rfl)) (by decide) (fun K hK => ?_)
          refine goes_ Try.func27 (by kernel_rfl) rfl #[.agg #[.slice A0_0 l0_0.length c0_0, .int .i64 a0_1], .agg #[.slice Ao100 t268.length co100, .int .i64 (wrap64 (a0_1 + a2))]] (by rfl) rfl rfl (by (try simp only [List.map_toArray, List.map_cons, List.map_nil]); first | done | rfl | (simp only [List.length_drop, List.length_take]; rfl)) ?_
          with_reducible refine (line_Common.calls kj3 _ _ l0_0 a0_1 _ _ t268 (wrap64 (a0_1 + a2)) t276 _ ?side1 ?side2 ?side3 ?side4 A30.out).mono ?_
          (case side1 => repeat (first | exact (Kd.C_below HR0_0.out HB.out) | (with_reducible refine Kd.C_alloc ?_ _) | (with_reducible refine Kd.C_drewN ?_ _) | (with_reducible refine Kd.C_drew ?_)))
          (case side2 => exact HC0_0.out)
          (case side3 => repeat (first | exact (Kd.R_reads' HO271.out).2.2 | (with_reducible refine Kd.C_alloc ?_ _) | (with_reducible refine Kd.C_drewN ?_ _) | (with_reducible refine Kd.C_drew ?_)))
          (case side4 => exact (Kd.R_reads' HO271.out).2.1)
          rintro e w108 ⟨rfl, hb⟩
          refine ⟨_, rfl, ?_⟩
          have n0_ := A0_ (Kd.R_below (by (with_reducible repeat (first | apply Kd.R_alloc | apply Kd.R_drewN | apply Kd.R_drew)); exact HO271.out) hb)
          have n1_ := A0_ (blk_below (g:=gb265) (o:=.cells #[.slice A0_0 l0_0.length c0_0, .int .i64 a0_1] 39 (0, 0)) (by (with_reducible repeat (first | refine blk_drewN ?_ _ | refine blk_drew ?_ | refine blk_alloc ?_ _)); exact BK265.out) hb)
          have n2_ := A0_ (blk_below (g:=gb273) (o:=.cells #[.slice Ao100 t268.length co100, .int .i64 (wrap64 (a0_1 + a2))] 39 (0, 0)) (by (with_reducible repeat (first | refine blk_drewN ?_ _ | refine blk_drew ?_ | refine blk_alloc ?_ _)); exact BK273.out) hb)
          have n3_ := A0_ (below_step (by repeat (first | (with_reducible first | exact HB.out | apply below_alloc | apply pw_below_drewN | apply below_drew1 | refine below_set ?_ GE265.out | refine below_set ?_ GE273.out) | exact HB.out)) hb)
          clear HO271
          clear BK265
          clear BK273
          clear HB
          have HO271 := n0_
          have BK265 := n1_
          have BK273 := n2_
          have HB := n3_
          clear n0_ n1_ n2_ n3_
          (try clear hb)
          (try clear hb2)
          (try clear hk)
          (try clear hi)
          refine hK.out _ _ ⟨(blk_cell BK273.out 0).trans rfl, (blk_cell BK273.out 1).trans rfl, (blk_cell BK265.out 0).trans rfl, (blk_cell BK265.out 1).trans rfl⟩ (fun hHeld => ?_)
          clear hK K
          refine norm_ (a' := ?_) ?_ ?_
          rotate_left
          ·show Act.put _ (some 66) _ = _
           simp only [Act.put, z1_, z2_, z3_, i64_w, i32_w]
           rfl
          refine pure_ (i:=13) (N:=some 69) (v:=?_) (a':=?_) mk14_ rfl rfl (any_of HT_.out (by kernel_rfl)) (fun _ _ _ h => h) (Or.inl ⟨by rfl, ?_⟩) ?_ ?_
          rotate_left
          ·intro w'
           go_simp
           with_reducible rfl
          rotate_left
          ·simp only [Act.put, z1_, z2_, z3_, i64_w, i32_w]
           rfl
          refine pure_ (i:=14) (N:=some 70) (v:=?_) (a':=?_) mk15_ rfl rfl (any_of HT_.out (by kernel_rfl)) (fun _ _ _ h => h) (Or.inl ⟨by rfl, ?_⟩) ?_ ?_
          rotate_left
          ·intro w'
           go_simp
           with_reducible rfl
          rotate_left
          ·simp only [Act.put, z1_, z2_, z3_, i64_w, i32_w]
           rfl
          refine pure_ (i:=15) (N:=some 71) (v:=?_) (a':=?_) mk16_ rfl rfl (any_of HT_.out (by kernel_rfl)) (fun _ _ _ h => h) (Or.inl ⟨by rfl, ?_⟩) ?_ ?_
          rotate_left
          ·intro w'
           go_simp
           with_reducible rfl
          rotate_left
          ·simp only [Act.put, z1_, z2_, z3_, i64_w, i32_w]
           rfl
          refine pure_ (i:=16) (N:=some 72) (v:=?_) (a':=?_) mk17_ rfl rfl (any_of HT_.out (by kernel_rfl)) (fun _ _ _ h => h) (Or.inl ⟨by rfl, ?_⟩) ?_ ?_
          rotate_left
          ·intro w'
           go_simp
           with_reducible rfl
          rotate_left
          ·simp only [Act.put, z1_, z2_, z3_, i64_w, i32_w]
           rfl
          refine pure_ (i:=17) (N:=some 73) (v:=?_) (a':=?_) mk18_ rfl rfl (any_of HT_.out (by kernel_rfl)) (fun _ _ _ h => h) (Or.inl ⟨by rfl, ?_⟩) ?_ ?_
          rotate_left
          ·intro w'
           go_simp
           with_reducible rfl
          rotate_left
          ·simp only [Act.put, z1_, z2_, z3_, i64_w, i32_w]
           rfl
          refine pure_ (i:=18) (N:=some 74) (v:=?_) (a':=?_) mk19_ rfl rfl (any_of HT_.out (by kernel_rfl)) (fun _ _ _ h => h) (Or.inl ⟨by rfl, ?_⟩) ?_ ?_
          rotate_left
          ·intro w'
           go_simp
           with_reducible rfl
          rotate_left
          ·simp only [Act.put, z1_, z2_, z3_, i64_w, i32_w]
           rfl
          refine pure_ (i:=20) (N:=some 76) (v:=?_) (a':=?_) mk40_ rfl rfl (any_of HT_.out (by kernel_rfl)) (fun _ _ _ h => h) (Or.inl ⟨by rfl, ?_⟩) ?_ ?_
          rotate_left
          ·intro w'
           go_simp
           with_reducible rfl
          rotate_left
          ·simp only [Act.put, z1_, z2_, z3_, i64_w, i32_w]
           rfl
          refine pure_ (i:=22) (N:=some 78) (v:=?_) (a':=?_) mk41_ rfl rfl (any_of HT_.out (by kernel_rfl)) (fun _ _ _ h => h) (Or.inl ⟨by rfl, ?_⟩) ?_ ?_
          rotate_left
          ·intro w'
           go_simp
           with_reducible rfl
          rotate_left
          ·simp only [Act.put, z1_, z2_, z3_, i64_w, i32_w]
           rfl
          refine pure_ (i:=25) (N:=some 81) (v:=?_) (a':=?_) mk42_ rfl rfl (any_of HT_.out (by kernel_rfl)) (fun _ _ _ h => h) (Or.inl ⟨by rfl, ?_⟩) ?_ ?_
          rotate_left
          ·intro w'
           go_simp
           with_reducible rfl
          rotate_left
          ·simp only [Act.put, z1_, z2_, z3_, i64_w, i32_w]
           rfl
          refine take_ (i:=19) (N:=some 75) (v:=?_) (a':=?_) mk43_ rfl rfl (take_ofW HT_.out HW_.out (by kernel_rfl)) (fun _ _ _ h => h) (Or.inl ⟨by rfl, ?_⟩) hHeld ?_ ?_
          rotate_left
          ·rintro w' ⟨s0, s1, s2, s3⟩
           go_simp
           with_reducible rfl
          rotate_left
          ·simp only [Act.put, z1_, z2_, z3_, i64_w, i32_w]
           rfl
          refine take_ (i:=21) (N:=some 77) (v:=?_) (a':=?_) mk44_ rfl rfl (take_ofW HT_.out HW_.out (by kernel_rfl)) (fun _ _ _ h => h) (Or.inl ⟨by rfl, ?_⟩) hHeld ?_ ?_
          rotate_left
          ·rintro w' ⟨s0, s1, s2, s3⟩
           go_simp
           with_reducible rfl
          rotate_left
          ·simp only [Act.put, z1_, z2_, z3_, i64_w, i32_w]
           rfl
          refine pure_ (i:=23) (N:=some 79) (v:=?_) (a':=?_) mk45_ rfl rfl (any_of HT_.out (by kernel_rfl)) (fun _ _ _ h => h) (Or.inl ⟨by rfl, ?_⟩) ?_ ?_
          rotate_left
          ·intro w'
           go_simp
           with_reducible rfl
          rotate_left
          ·simp only [Act.put, z1_, z2_, z3_, i64_w, i32_w]
           rfl
          refine one_ (i:=24) (N:=some 80) mk26_ rfl rfl (one_of HT_.out (by kernel_rfl)) (by decide) (fun K hK => ?_)
          refine goes_ Try.func25 (by kernel_rfl) rfl #[.agg #[.slice Ao100 t268.length co100, .int .i64 (wrap64 (a0_1 + a2))], .int .i64 (wrap64 (a0_1 + a2))] (by rfl) rfl rfl (by (try simp only [List.map_toArray, List.map_cons, List.map_nil]); first | done | rfl | (simp only [List.length_drop, List.length_take]; rfl)) ?_
          with_reducible refine (line_Epoch.calls kj3 _ _ t268 (wrap64 (a0_1 + a2)) (wrap64 (a0_1 + a2)) t279 _ ?side1 ?side2 A63.out).mono ?_
          (case side1 => repeat (first | exact (Kd.R_reads' HO271.out).2.2 | (with_reducible refine Kd.C_alloc ?_ _) | (with_reducible refine Kd.C_drewN ?_ _) | (with_reducible refine Kd.C_drew ?_)))
          (case side2 => exact (Kd.R_reads' HO271.out).2.1)
          rintro e w109 ⟨rfl, hb⟩
          refine ⟨_, rfl, ?_⟩
          have n0_ := A0_ (Kd.R_below (by (with_reducible repeat (first | apply Kd.R_alloc | apply Kd.R_drewN | apply Kd.R_drew)); exact HO271.out) hb)
          have n1_ := A0_ (blk_below (g:=gb265) (o:=.cells #[.slice A0_0 l0_0.length c0_0, .int .i64 a0_1] 39 (0, 0)) (by (with_reducible repeat (first | refine blk_drewN ?_ _ | refine blk_drew ?_ | refine blk_alloc ?_ _)); exact BK265.out) hb)
          have n2_ := A0_ (blk_below (g:=gb273) (o:=.cells #[.slice Ao100 t268.length co100, .int .i64 (wrap64 (a0_1 + a2))] 39 (0, 0)) (by (with_reducible repeat (first | refine blk_drewN ?_ _ | refine blk_drew ?_ | refine blk_alloc ?_ _)); exact BK273.out) hb)
          have n3_ := A0_ (below_step (by repeat (first | (with_reducible first | exact HB.out | apply below_alloc | apply pw_below_drewN | apply below_drew1 | refine below_set ?_ GE265.out | refine below_set ?_ GE273.out) | exact HB.out)) hb)
          clear HO271
          clear BK265
          clear BK273
          clear HB
          have HO271 := n0_
          have BK265 := n1_
          have BK273 := n2_
          have HB := n3_
          clear n0_ n1_ n2_ n3_
          (try clear hb)
          (try clear hb2)
          (try clear hk)
          (try clear hi)
          refine hK.out _ _ ⟨(blk_cell BK273.out 0).trans rfl, (blk_cell BK273.out 1).trans rfl, (blk_cell BK265.out 0).trans rfl, (blk_cell BK265.out 1).trans rfl⟩ (fun hHeld => ?_)
          clear hK K
          refine norm_ (a' := ?_) ?_ ?_
          rotate_left
          ·show Act.put _ (some 80) _ = _
           simp only [Act.put, z1_, z2_, z3_, i64_w, i32_w]
           rfl
          refine pure_ (i:=26) (N:=some 82) (v:=?_) (a':=?_) mk27_ rfl rfl (any_of HT_.out (by kernel_rfl)) (fun _ _ _ h => h) (Or.inl ⟨by rfl, ?_⟩) ?_ ?_
          rotate_left
          ·intro w'
           go_simp
           with_reducible rfl
          rotate_left
          ·simp only [Act.put, z1_, z2_, z3_, i64_w, i32_w]
           rfl
          refine pure_ (i:=27) (N:=some 83) (v:=?_) (a':=?_) mk28_ rfl rfl (any_of HT_.out (by kernel_rfl)) (fun _ _ _ h => h) (Or.inl ⟨by rfl, ?_⟩) ?_ ?_
          rotate_left
          ·intro w'
           go_simp
           with_reducible rfl
          rotate_left
          ·simp only [Act.put, z1_, z2_, z3_, i64_w, i32_w]
           rfl
          refine pure_ (i:=28) (N:=some 84) (v:=?_) (a':=?_) mk29_ rfl rfl (any_of HT_.out (by kernel_rfl)) (fun _ _ _ h => h) (Or.inl ⟨by rfl, ?_⟩) ?_ ?_
          rotate_left
          ·intro w'
           go_simp
           with_reducible rfl
          rotate_left
          ·simp only [Act.put, z1_, z2_, z3_, i64_w, i32_w]
           rfl
          refine pure_ (i:=29) (N:=some 85) (v:=?_) (a':=?_) mk30_ rfl rfl (any_of HT_.out (by kernel_rfl)) (fun _ _ _ h => h) (Or.inl ⟨by rfl, ?_⟩) ?_ ?_
          rotate_left
          ·intro w'
           go_simp
           with_reducible rfl
          rotate_left
          ·simp only [Act.put, z1_, z2_, z3_, i64_w, i32_w]
           rfl
          refine pure_ (i:=30) (N:=some 86) (v := undef) (a' := ?_) mk31_ rfl rfl (any_of HT_.out (by kernel_rfl)) (fun _ _ _ h => h) (Or.inr ⟨by rfl, rfl⟩) ?_ ?_
          rotate_left
          ·simp only [Act.put, z1_, z2_, z3_, i64_w, i32_w]
           rfl
          refine pure_ (i:=31) (N:=some 87) (v := undef) (a' := ?_) mk46_ rfl rfl (any_of HT_.out (by kernel_rfl)) (fun _ _ _ h => h) (Or.inr ⟨by rfl, rfl⟩) ?_ ?_
          rotate_left
          ·simp only [Act.put, z1_, z2_, z3_, i64_w, i32_w]
           rfl
          refine pure_ (i:=32) (N:=some 88) (v := undef) (a' := ?_) mk33_ rfl rfl (any_of HT_.out (by kernel_rfl)) (fun _ _ _ h => h) (Or.inr ⟨by rfl, rfl⟩) ?_ ?_
          rotate_left
          ·simp only [Act.put, z1_, z2_, z3_, i64_w, i32_w]
           rfl
          refine pure_ (i:=33) (N:=some 89) (v := undef) (a' := ?_) mk34_ rfl rfl (any_of HT_.out (by kernel_rfl)) (fun _ _ _ h => h) (Or.inr ⟨by rfl, rfl⟩) ?_ ?_
          rotate_left
          ·simp only [Act.put, z1_, z2_, z3_, i64_w, i32_w]
           rfl
          refine pure_ (i:=34) (N:=some 90) (v:=?_) (a':=?_) mk35_ rfl rfl (any_of HT_.out (by kernel_rfl)) (fun _ _ _ h => h) (Or.inl ⟨by rfl, ?_⟩) ?_ ?_
          rotate_left
          ·intro w'
           go_simp
           with_reducible rfl
          rotate_left
          ·simp only [Act.put, z1_, z2_, z3_, i64_w, i32_w]
           rfl
          refine pure_ (i:=35) (N:=some 91) (v:=?_) (a':=?_) mk36_ rfl rfl (any_of HT_.out (by kernel_rfl)) (fun _ _ _ h => h) (Or.inl ⟨by rfl, ?_⟩) ?_ ?_
          rotate_left
          ·intro w'
           go_simp
           with_reducible rfl
          rotate_left
          ·simp only [Act.put, z1_, z2_, z3_, i64_w, i32_w]
           rfl
          refine pure_ (i:=36) (N:=some 92) (v := undef) (a' := ?_) mk37_ rfl rfl (any_of HT_.out (by kernel_rfl)) (fun _ _ _ h => h) (Or.inr ⟨by rfl, rfl⟩) ?_ ?_
          rotate_left
          ·simp only [Act.put, z1_, z2_, z3_, i64_w, i32_w]
           rfl
          refine pure_ (i:=37) (N:=some 93) (v:=?_) (a':=?_) mk38_ rfl rfl (any_of HT_.out (by kernel_rfl)) (fun _ _ _ h => h) (Or.inl ⟨by rfl, ?_⟩) ?_ ?_
          rotate_left
          ·intro w'
           go_simp
           with_reducible rfl
          rotate_left
          ·simp only [Act.put, z1_, z2_, z3_, i64_w, i32_w]
           rfl
          refine pure_ (i:=38) (N:=some 6) (v:=?_) (a':=?_) mk39_ rfl rfl (any_of HT_.out (by kernel_rfl)) (fun _ _ _ h => h) (Or.inl ⟨by rfl, ?_⟩) ?_ ?_
          rotate_left
          ·intro w'
           go_simp
           with_reducible rfl
          rotate_left
          ·simp only [Act.put, z1_, z2_, z3_, i64_w, i32_w]
           rfl
          refine done_ (done_of HT_.out (by kernel_rfl)) ?_
          try go_wp2
          go_ret
          exact ⟨by first | rfl | (simp [errW_none, errW_some] <;> rfl) | (simp [*, errW_none, errW_some] <;> rfl), by repeat (first | (with_reducible first | exact HB.out | apply below_alloc | apply pw_below_drewN | apply below_drew1 | refine below_set ?_ GE265.out | refine below_set ?_ GE273.out) | exact HB.out)⟩
       ·rw [if_neg c31] at H
        have c31b0 : (t276 == a0_1) = false := beq_eq_false_iff_ne.mpr c31
        have c31b1 : (t276 != a0_1) = true := bne_iff_ne.mpr c31
        obtain rfl := Option.some.inj H
        have hcz110_0 : wc.cell? ⟨gb265, 0, none⟩ = some (.slice A0_0 l0_0.length c0_0) := (blk_cell BK265.out 0).trans rfl
        have hcz110_1 : wc.cell? ⟨gb265, 1, none⟩ = some (.int .i64 a0_1) := (blk_cell BK265.out 1).trans rfl
        have hfz110_0 := blk_frozen BK265.out 0
        have hfz110_1 := blk_frozen BK265.out 1
        try go_wp2_with (first | ((with_reducible refine gate_callee (f := 35) rfl ?_); refine goesL_ (some 39) rfl rfl Try.func35 (by kernel_rfl) rfl #[.slice A0_0 l0_0.length c0_0, .int .i64 a1, .int .i64 a0_1] rfl (by (try simp only [List.map_toArray, List.map_cons, List.map_nil]); first | done | rfl | (simp only [List.length_drop, List.length_take]; rfl)) ?_; (with_reducible refine (line_Grow.calls kj3 _ _ l0_0 a1 a0_1 t268 t269 _ ?side1 ?side2 A24.out).mono ?_); (case side1 => repeat (first | exact (Kd.C_below HR0_0.out HB.out) | (with_reducible refine Kd.C_alloc ?_ _) | (with_reducible refine Kd.C_drewN ?_ _) | (with_reducible refine Kd.C_drew ?_))); (case side2 => exact HC0_0.out); rintro e w111 ⟨v270, rfl, ho0, hb⟩; refine ⟨_, rfl, ?_⟩; have n0_ := A0_ (Kd.R_lower ho0 (below_size (by repeat (first | (with_reducible first | exact HB.out | apply below_alloc | apply pw_below_drewN | apply below_drew1 | refine below_set ?_ GE265.out) | exact HB.out)))); have n1_ := A0_ (blk_below (g:=gb265) (o:=.cells #[.slice A0_0 l0_0.length c0_0, .int .i64 a0_1] 39 (0, 0)) (by (with_reducible repeat (first | refine blk_drewN ?_ _ | refine blk_drew ?_ | refine blk_alloc ?_ _)); exact BK265.out) hb); have n2_ := A0_ (below_step (by repeat (first | (with_reducible first | exact HB.out | apply below_alloc | apply pw_below_drewN | apply below_drew1 | refine below_set ?_ GE265.out) | exact HB.out)) hb); clear BK265; clear HB; have HO271 := n0_; have BK265 := n1_; have HB := n2_; clear n0_ n1_ n2_; (try clear hb); (try clear hb2); (try clear hk); (try clear hi); (try clear ho0); have hcz112_0 : w111.cell? ⟨gb265, 0, none⟩ = some (.slice A0_0 l0_0.length c0_0) := (blk_cell BK265.out 0).trans rfl; have hcz112_1 : w111.cell? ⟨gb265, 1, none⟩ = some (.int .i64 a0_1) := (blk_cell BK265.out 1).trans rfl; have hfz112_0 := blk_frozen BK265.out 0; have hfz112_1 := blk_frozen BK265.out 1; obtain ⟨Ao113, co113, eo113⟩ := Kd.R_slice HO271.out; subst eo113) | ((with_reducible refine gate_dst (N:=9) rfl ?_); refine box_event ?hg (N:=9) ?hd (cs := #[.slice none 0 0, .int .i64 0]) (t := 39) ?hr ?_; (case hd => rfl); (case hg => rfl); (case hr => first | (go_simp; done) | (go_simp; rfl)); intro gb273 hg w114 hbox hb; have n0_ := A0_ (Kd.R_below (by (with_reducible repeat (first | apply Kd.R_alloc | apply Kd.R_drewN | apply Kd.R_drew)); exact HO271.out) hb); have n1_ := A0_ (blk_below (g:=gb265) (o:=.cells #[.slice A0_0 l0_0.length c0_0, .int .i64 a0_1] 39 (0, 0)) (by (with_reducible repeat (first | refine blk_drewN ?_ _ | refine blk_drew ?_ | refine blk_alloc ?_ _)); exact BK265.out) hb); have n2_ := A0_ (below_step (by repeat (first | (with_reducible first | exact HB.out | apply below_alloc | apply pw_below_drewN | apply below_drew1 | refine below_set ?_ GE265.out) | exact HB.out)) hb); have n3_ := A0_ (hbox); have n4_ := A0_ ((by rw [hg]; exact (below_size (by repeat (first | (with_reducible first | exact HB.out | apply below_alloc | apply pw_below_drewN | apply below_drew1 | refine below_set ?_ GE265.out) | exact HB.out))) : w.heap.size ≤ gb273)); have n5_ := A0_ ((by rw [hg]; exact (below_size (by repeat (first | (with_reducible first | exact HB.out | apply below_alloc | apply pw_below_drewN | apply below_drew1 | refine below_set ?_ GE265.out) | exact HB.out))) : w.heap.size ≤ gb273)); have n6_ := A0_ ((by rw [hg]; exact Nat.ne_of_lt (blk_lt (g:=gb265) (o:=.cells #[.slice A0_0 l0_0.length c0_0, .int .i64 a0_1] 39 (0, 0)) (by (with_reducible repeat (first | refine blk_drewN ?_ _ | refine blk_drew ?_ | refine blk_alloc ?_ _)); exact BK265.out)) : gb265 ≠ gb273)); have n7_ := A0_ ((by rw [hg]; exact Nat.ne_of_gt (blk_lt (g:=gb265) (o:=.cells #[.slice A0_0 l0_0.length c0_0, .int .i64 a0_1] 39 (0, 0)) (by (with_reducible repeat (first | refine blk_drewN ?_ _ | refine blk_drew ?_ | refine blk_alloc ?_ _)); exact BK265.out)) : gb273 ≠ gb265)); clear HO271; clear BK265; clear HB; have HO271 := n0_; have BK265 := n1_; have HB := n2_; have BK273 := n3_; have GW273 := n4_; have GE273 := n5_; have NB265_273 := n6_; have NB273_265 := n7_; clear n0_ n1_ n2_ n3_ n4_ n5_ n6_ n7_; clear hb hbox hg; have hnb115 := NB273_265.out; have hnc115 := NB265_273.out; have hcz116_0 : w114.cell? ⟨gb273, 0, none⟩ = some (.slice none 0 0) := (blk_cell BK273.out 0).trans rfl; have hcz116_1 : w114.cell? ⟨gb273, 1, none⟩ = some (.int .i64 0) := (blk_cell BK273.out 1).trans rfl; have hfz116_0 := blk_frozen BK273.out 0; have hfz116_1 := blk_frozen BK273.out 1))
        have n0_ : Aside0 (Kd.R k61 61 ((w114.setCell ⟨gb273, 0, none⟩ (.slice Ao113 t268.length co113)).setCell ⟨gb273, 1, none⟩ (.int .i64 (wrap64 (a0_1 + a2)))) w.heap.size (fun _ => True) (.slice Ao113 t268.length co113) t268) := ⟨by (with_reducible repeat (first | apply Kd.R_alloc | apply Kd.R_drewN | apply Kd.R_drew)); exact Kd.R_mono (Kd.R_far (p := ⟨gb273, 1, none⟩) (Kd.R_far (p := ⟨gb273, 0, none⟩) (Kd.R_types HO271.out BK273.out (by decide)) (fun _ hk => hk.2) (.slice Ao113 t268.length co113)) (fun _ hk => hk.2) (.int .i64 (wrap64 (a0_1 + a2)))) (fun _ hk => trivial)⟩
        have n1_ : Aside0 (((w114.setCell ⟨gb273, 0, none⟩ (.slice Ao113 t268.length co113)).setCell ⟨gb273, 1, none⟩ (.int .i64 (wrap64 (a0_1 + a2)))).heap[gb265]? = some (.cells #[.slice A0_0 l0_0.length c0_0, .int .i64 a0_1] 39 (0, 0))) := ⟨by (with_reducible repeat (first | refine blk_drewN ?_ _ | refine blk_drew ?_ | refine blk_alloc ?_ _)); refine blk_far ?_ NB265_273.out _; (with_reducible repeat (first | refine blk_drewN ?_ _ | refine blk_drew ?_ | refine blk_alloc ?_ _)); refine blk_far ?_ NB265_273.out _; (with_reducible repeat (first | refine blk_drewN ?_ _ | refine blk_drew ?_ | refine blk_alloc ?_ _)); exact BK265.out⟩
        have n2_ : Aside0 (((w114.setCell ⟨gb273, 0, none⟩ (.slice Ao113 t268.length co113)).setCell ⟨gb273, 1, none⟩ (.int .i64 (wrap64 (a0_1 + a2)))).heap[gb273]? = some (.cells #[.slice Ao113 t268.length co113, .int .i64 (wrap64 (a0_1 + a2))] 39 (0, 0))) := ⟨by (with_reducible repeat (first | refine blk_drewN ?_ _ | refine blk_drew ?_ | refine blk_alloc ?_ _)); refine blk_put (cs := #[.slice Ao113 t268.length co113, .int .i64 0]) ?_ 1 _ rfl; (with_reducible repeat (first | refine blk_drewN ?_ _ | refine blk_drew ?_ | refine blk_alloc ?_ _)); refine blk_put (cs := #[.slice none 0 0, .int .i64 0]) ?_ 0 _ rfl; (with_reducible repeat (first | refine blk_drewN ?_ _ | refine blk_drew ?_ | refine blk_alloc ?_ _)); exact BK273.out⟩
        have n3_ : Aside0 (Below w.heap.size w ((w114.setCell ⟨gb273, 0, none⟩ (.slice Ao113 t268.length co113)).setCell ⟨gb273, 1, none⟩ (.int .i64 (wrap64 (a0_1 + a2))))) := ⟨by repeat (first | (with_reducible first | exact HB.out | apply below_alloc | apply pw_below_drewN | apply below_drew1 | refine below_set ?_ GE265.out | refine below_set ?_ GE273.out) | exact HB.out)⟩
        (try clear HO271)
        (try clear BK265)
        (try clear BK273)
        (try clear HB)
        generalize ((w114.setCell ⟨gb273, 0, none⟩ (.slice Ao113 t268.length co113)).setCell ⟨gb273, 1, none⟩ (.int .i64 (wrap64 (a0_1 + a2)))) = w117 at n0_ n1_ n2_ n3_ ⊢
        have HO271 := n0_
        have BK265 := n1_
        have BK273 := n2_
        have HB := n3_
        clear n0_ n1_ n2_ n3_
        have n0_ := A0_ (Kd.R_drew HO271.out)
        have n1_ := A0_ (blk_drew BK265.out)
        have n2_ := A0_ (blk_drew BK273.out)
        have n3_ := A0_ (below_drew1 HB.out)
        clear HO271
        clear BK265
        clear BK273
        clear HB
        have HO271 := n0_
        have BK265 := n1_
        have BK273 := n2_
        have HB := n3_
        clear n0_ n1_ n2_ n3_
        refine start_ (n := 39) (S := fun w' => w'.cell? ⟨gb273, 0, none⟩ = some (.slice Ao113 t268.length co113) ∧ w'.cell? ⟨gb273, 1, none⟩ = some (.int .i64 (wrap64 (a0_1 + a2))) ∧ w'.cell? ⟨gb265, 0, none⟩ = some (.slice A0_0 l0_0.length c0_0) ∧ w'.cell? ⟨gb265, 1, none⟩ = some (.int .i64 a0_1)) (ds := []) mk0_ (by kernel_rfl) rfl rfl ⟨(blk_cell BK273.out 0).trans rfl, (blk_cell BK273.out 1).trans rfl, (blk_cell BK265.out 0).trans rfl, (blk_cell BK265.out 1).trans rfl⟩ (fun hHeld => ?_); refine with_tabW counterfoillaw11_LineGoes.tab7 counterfoillaw11_LineGoes.bits7 (fun HT_ HW_ => ?_)
        generalize w117.drew = w118 at HO271 BK265 BK273 HB hHeld ⊢
        refine take_ (i:=0) (N:=some 56) (v:=?_) (a':=?_) mk1_ rfl rfl (take_ofW HT_.out HW_.out (by kernel_rfl)) (fun _ _ _ h => h) (Or.inl ⟨by rfl, ?_⟩) hHeld ?_ ?_
        rotate_left
        ·rintro w' ⟨s0, s1, s2, s3⟩
         go_simp
         with_reducible rfl
        rotate_left
        ·simp only [Act.put, z1_, z2_, z3_, i64_w, i32_w]
         rfl
        refine one_ (i:=1) (N:=some 57) mk2_ rfl rfl (one_of HT_.out (by kernel_rfl)) (by decide) (fun K hK => ?_)
        refine goes_ Try.func23 (by kernel_rfl) rfl #[.agg #[.slice Ao113 t268.length co113, .int .i64 (wrap64 (a0_1 + a2))]] (by rfl) rfl rfl (by (try simp only [List.map_toArray, List.map_cons, List.map_nil]); first | done | rfl | (simp only [List.length_drop, List.length_take]; rfl)) ?_
        with_reducible refine (line_Placed.calls kj3 _ _ t268 (wrap64 (a0_1 + a2)) true _ ?side1 ?side2 A26.out).mono ?_
        (case side1 => repeat (first | exact (Kd.R_reads' HO271.out).2.2 | (with_reducible refine Kd.C_alloc ?_ _) | (with_reducible refine Kd.C_drewN ?_ _) | (with_reducible refine Kd.C_drew ?_)))
        (case side2 => exact (Kd.R_reads' HO271.out).2.1)
        rintro e w119 ⟨rfl, hb⟩
        refine ⟨_, rfl, ?_⟩
        have n0_ := A0_ (Kd.R_below (by (with_reducible repeat (first | apply Kd.R_alloc | apply Kd.R_drewN | apply Kd.R_drew)); exact HO271.out) hb)
        have n1_ := A0_ (blk_below (g:=gb265) (o:=.cells #[.slice A0_0 l0_0.length c0_0, .int .i64 a0_1] 39 (0, 0)) (by (with_reducible repeat (first | refine blk_drewN ?_ _ | refine blk_drew ?_ | refine blk_alloc ?_ _)); exact BK265.out) hb)
        have n2_ := A0_ (blk_below (g:=gb273) (o:=.cells #[.slice Ao113 t268.length co113, .int .i64 (wrap64 (a0_1 + a2))] 39 (0, 0)) (by (with_reducible repeat (first | refine blk_drewN ?_ _ | refine blk_drew ?_ | refine blk_alloc ?_ _)); exact BK273.out) hb)
        have n3_ := A0_ (below_step (by repeat (first | (with_reducible first | exact HB.out | apply below_alloc | apply pw_below_drewN | apply below_drew1 | refine below_set ?_ GE265.out | refine below_set ?_ GE273.out) | exact HB.out)) hb)
        clear HO271
        clear BK265
        clear BK273
        clear HB
        have HO271 := n0_
        have BK265 := n1_
        have BK273 := n2_
        have HB := n3_
        clear n0_ n1_ n2_ n3_
        (try clear hb)
        (try clear hb2)
        (try clear hk)
        (try clear hi)
        refine hK.out _ _ ⟨(blk_cell BK273.out 0).trans rfl, (blk_cell BK273.out 1).trans rfl, (blk_cell BK265.out 0).trans rfl, (blk_cell BK265.out 1).trans rfl⟩ (fun hHeld => ?_)
        clear hK K
        refine norm_ (a' := ?_) ?_ ?_
        rotate_left
        ·show Act.put _ (some 57) _ = _
         simp only [Act.put, z1_, z2_, z3_, i64_w, i32_w]
         rfl
        refine pure_ (i:=2) (N:=some 58) (v:=?_) (a':=?_) mk3_ rfl rfl (any_of HT_.out (by kernel_rfl)) (fun _ _ _ h => h) (Or.inl ⟨by rfl, ?_⟩) ?_ ?_
        rotate_left
        ·intro w'
         go_simp
         with_reducible rfl
        rotate_left
        ·simp only [Act.put, z1_, z2_, z3_, i64_w, i32_w]
         rfl
        refine take_ (i:=3) (N:=some 59) (v:=?_) (a':=?_) mk4_ rfl rfl (take_ofW HT_.out HW_.out (by kernel_rfl)) (fun _ _ _ h => h) (Or.inl ⟨by rfl, ?_⟩) hHeld ?_ ?_
        rotate_left
        ·rintro w' ⟨s0, s1, s2, s3⟩
         go_simp
         with_reducible rfl
        rotate_left
        ·simp only [Act.put, z1_, z2_, z3_, i64_w, i32_w]
         rfl
        refine take_ (i:=4) (N:=some 60) (v:=?_) (a':=?_) mk5_ rfl rfl (take_ofW HT_.out HW_.out (by kernel_rfl)) (fun _ _ _ h => h) (Or.inl ⟨by rfl, ?_⟩) hHeld ?_ ?_
        rotate_left
        ·rintro w' ⟨s0, s1, s2, s3⟩
         go_simp
         with_reducible rfl
        rotate_left
        ·simp only [Act.put, z1_, z2_, z3_, i64_w, i32_w]
         rfl
        refine one_ (i:=5) (N:=some 61) mk6_ rfl rfl (one_of HT_.out (by kernel_rfl)) (by decide) (fun K hK => ?_)
        refine goes_ Try.func29 (by kernel_rfl) rfl #[.agg #[.slice A0_0 l0_0.length c0_0, .int .i64 a0_1], .agg #[.slice Ao113 t268.length co113, .int .i64 (wrap64 (a0_1 + a2))]] (by rfl) rfl rfl (by (try simp only [List.map_toArray, List.map_cons, List.map_nil]); first | done | rfl | (simp only [List.length_drop, List.length_take]; rfl)) ?_
        with_reducible refine (line_Ahead.calls kj3 _ _ l0_0 a0_1 _ _ t268 (wrap64 (a0_1 + a2)) true _ ?side1 ?side2 ?side3 ?side4 A28.out).mono ?_
        (case side1 => repeat (first | exact (Kd.C_below HR0_0.out HB.out) | (with_reducible refine Kd.C_alloc ?_ _) | (with_reducible refine Kd.C_drewN ?_ _) | (with_reducible refine Kd.C_drew ?_)))
        (case side2 => exact HC0_0.out)
        (case side3 => repeat (first | exact (Kd.R_reads' HO271.out).2.2 | (with_reducible refine Kd.C_alloc ?_ _) | (with_reducible refine Kd.C_drewN ?_ _) | (with_reducible refine Kd.C_drew ?_)))
        (case side4 => exact (Kd.R_reads' HO271.out).2.1)
        rintro e w120 ⟨rfl, hb⟩
        refine ⟨_, rfl, ?_⟩
        have n0_ := A0_ (Kd.R_below (by (with_reducible repeat (first | apply Kd.R_alloc | apply Kd.R_drewN | apply Kd.R_drew)); exact HO271.out) hb)
        have n1_ := A0_ (blk_below (g:=gb265) (o:=.cells #[.slice A0_0 l0_0.length c0_0, .int .i64 a0_1] 39 (0, 0)) (by (with_reducible repeat (first | refine blk_drewN ?_ _ | refine blk_drew ?_ | refine blk_alloc ?_ _)); exact BK265.out) hb)
        have n2_ := A0_ (blk_below (g:=gb273) (o:=.cells #[.slice Ao113 t268.length co113, .int .i64 (wrap64 (a0_1 + a2))] 39 (0, 0)) (by (with_reducible repeat (first | refine blk_drewN ?_ _ | refine blk_drew ?_ | refine blk_alloc ?_ _)); exact BK273.out) hb)
        have n3_ := A0_ (below_step (by repeat (first | (with_reducible first | exact HB.out | apply below_alloc | apply pw_below_drewN | apply below_drew1 | refine below_set ?_ GE265.out | refine below_set ?_ GE273.out) | exact HB.out)) hb)
        clear HO271
        clear BK265
        clear BK273
        clear HB
        have HO271 := n0_
        have BK265 := n1_
        have BK273 := n2_
        have HB := n3_
        clear n0_ n1_ n2_ n3_
        (try clear hb)
        (try clear hb2)
        (try clear hk)
        (try clear hi)
        refine hK.out _ _ ⟨(blk_cell BK273.out 0).trans rfl, (blk_cell BK273.out 1).trans rfl, (blk_cell BK265.out 0).trans rfl, (blk_cell BK265.out 1).trans rfl⟩ (fun hHeld => ?_)
        clear hK K
        refine norm_ (a' := ?_) ?_ ?_
        rotate_left
        ·show Act.put _ (some 61) _ = _
         simp only [Act.put, z1_, z2_, z3_, i64_w, i32_w]
         rfl
        refine pure_ (i:=6) (N:=some 62) (v:=?_) (a':=?_) mk7_ rfl rfl (any_of HT_.out (by kernel_rfl)) (fun _ _ _ h => h) (Or.inl ⟨by rfl, ?_⟩) ?_ ?_
        rotate_left
        ·intro w'
         go_simp
         with_reducible rfl
        rotate_left
        ·simp only [Act.put, z1_, z2_, z3_, i64_w, i32_w]
         rfl
        refine pure_ (i:=7) (N:=some 63) (v:=?_) (a':=?_) mk8_ rfl rfl (any_of HT_.out (by kernel_rfl)) (fun _ _ _ h => h) (Or.inl ⟨by rfl, ?_⟩) ?_ ?_
        rotate_left
        ·intro w'
         go_simp
         with_reducible rfl
        rotate_left
        ·simp only [Act.put, z1_, z2_, z3_, i64_w, i32_w]
         rfl
        refine pure_ (i:=11) (N:=some 67) (v:=?_) (a':=?_) mk9_ rfl rfl (any_of HT_.out (by kernel_rfl)) (fun _ _ _ h => h) (Or.inl ⟨by rfl, ?_⟩) ?_ ?_
        rotate_left
        ·intro w'
         go_simp
         with_reducible rfl
        rotate_left
        ·simp only [Act.put, z1_, z2_, z3_, i64_w, i32_w]
         rfl
        refine take_ (i:=8) (N:=some 64) (v:=?_) (a':=?_) mk10_ rfl rfl (take_ofW HT_.out HW_.out (by kernel_rfl)) (fun _ _ _ h => h) (Or.inl ⟨by rfl, ?_⟩) hHeld ?_ ?_
        rotate_left
        ·rintro w' ⟨s0, s1, s2, s3⟩
         go_simp
         with_reducible rfl
        rotate_left
        ·simp only [Act.put, z1_, z2_, z3_, i64_w, i32_w]
         rfl
        refine take_ (i:=9) (N:=some 65) (v:=?_) (a':=?_) mk11_ rfl rfl (take_ofW HT_.out HW_.out (by kernel_rfl)) (fun _ _ _ h => h) (Or.inl ⟨by rfl, ?_⟩) hHeld ?_ ?_
        rotate_left
        ·rintro w' ⟨s0, s1, s2, s3⟩
         go_simp
         with_reducible rfl
        rotate_left
        ·simp only [Act.put, z1_, z2_, z3_, i64_w, i32_w]
         rfl
        refine take_ (i:=12) (N:=some 68) (v:=?_) (a':=?_) mk12_ rfl rfl (take_ofW HT_.out HW_.out (by kernel_rfl)) (fun _ _ _ h => h) (Or.inl ⟨by rfl, ?_⟩) hHeld ?_ ?_
        rotate_left
        ·rintro w' ⟨s0, s1, s2, s3⟩
         go_simp
         with_reducible rfl
        rotate_left
        ·simp only [Act.put, z1_, z2_, z3_, i64_w, i32_w]
         rfl
        refine one_ (i:=10) (N:=some 66) mk13_ rfl rfl (one_of HT_.out (by kernel_rfl)) (by decide) (fun K hK => ?_)
        refine goes_ Try.func27 (by kernel_rfl) rfl #[.agg #[.slice A0_0 l0_0.length c0_0, .int .i64 a0_1], .agg #[.slice Ao113 t268.length co113, .int .i64 (wrap64 (a0_1 + a2))]] (by rfl) rfl rfl (by (try simp only [List.map_toArray, List.map_cons, List.map_nil]); first | done | rfl | (simp only [List.length_drop, List.length_take]; rfl)) ?_
        with_reducible refine (line_Common.calls kj3 _ _ l0_0 a0_1 _ _ t268 (wrap64 (a0_1 + a2)) t276 _ ?side1 ?side2 ?side3 ?side4 A30.out).mono ?_
        (case side1 => repeat (first | exact (Kd.C_below HR0_0.out HB.out) | (with_reducible refine Kd.C_alloc ?_ _) | (with_reducible refine Kd.C_drewN ?_ _) | (with_reducible refine Kd.C_drew ?_)))
        (case side2 => exact HC0_0.out)
        (case side3 => repeat (first | exact (Kd.R_reads' HO271.out).2.2 | (with_reducible refine Kd.C_alloc ?_ _) | (with_reducible refine Kd.C_drewN ?_ _) | (with_reducible refine Kd.C_drew ?_)))
        (case side4 => exact (Kd.R_reads' HO271.out).2.1)
        rintro e w121 ⟨rfl, hb⟩
        refine ⟨_, rfl, ?_⟩
        have n0_ := A0_ (Kd.R_below (by (with_reducible repeat (first | apply Kd.R_alloc | apply Kd.R_drewN | apply Kd.R_drew)); exact HO271.out) hb)
        have n1_ := A0_ (blk_below (g:=gb265) (o:=.cells #[.slice A0_0 l0_0.length c0_0, .int .i64 a0_1] 39 (0, 0)) (by (with_reducible repeat (first | refine blk_drewN ?_ _ | refine blk_drew ?_ | refine blk_alloc ?_ _)); exact BK265.out) hb)
        have n2_ := A0_ (blk_below (g:=gb273) (o:=.cells #[.slice Ao113 t268.length co113, .int .i64 (wrap64 (a0_1 + a2))] 39 (0, 0)) (by (with_reducible repeat (first | refine blk_drewN ?_ _ | refine blk_drew ?_ | refine blk_alloc ?_ _)); exact BK273.out) hb)
        have n3_ := A0_ (below_step (by repeat (first | (with_reducible first | exact HB.out | apply below_alloc | apply pw_below_drewN | apply below_drew1 | refine below_set ?_ GE265.out | refine below_set ?_ GE273.out) | exact HB.out)) hb)
        clear HO271
        clear BK265
        clear BK273
        clear HB
        have HO271 := n0_
        have BK265 := n1_
        have BK273 := n2_
        have HB := n3_
        clear n0_ n1_ n2_ n3_
        (try clear hb)
        (try clear hb2)
        (try clear hk)
        (try clear hi)
        refine hK.out _ _ ⟨(blk_cell BK273.out 0).trans rfl, (blk_cell BK273.out 1).trans rfl, (blk_cell BK265.out 0).trans rfl, (blk_cell BK265.out 1).trans rfl⟩ (fun hHeld => ?_)
        clear hK K
        refine norm_ (a' := ?_) ?_ ?_
        rotate_left
        ·show Act.put _ (some 66) _ = _
         simp only [Act.put, z1_, z2_, z3_, i64_w, i32_w]
         rfl
        refine pure_ (i:=13) (N:=some 69) (v:=?_) (a':=?_) mk14_ rfl rfl (any_of HT_.out (by kernel_rfl)) (fun _ _ _ h => h) (Or.inl ⟨by rfl, ?_⟩) ?_ ?_
        rotate_left
        ·intro w'
         go_simp
         with_reducible rfl
        rotate_left
        ·simp only [Act.put, z1_, z2_, z3_, i64_w, i32_w]
         rfl
        refine pure_ (i:=14) (N:=some 70) (v:=?_) (a':=?_) mk15_ rfl rfl (any_of HT_.out (by kernel_rfl)) (fun _ _ _ h => h) (Or.inl ⟨by rfl, ?_⟩) ?_ ?_
        rotate_left
        ·intro w'
         go_simp
         with_reducible rfl
        rotate_left
        ·simp only [Act.put, z1_, z2_, z3_, i64_w, i32_w]
         rfl
        refine pure_ (i:=15) (N:=some 71) (v:=?_) (a':=?_) mk16_ rfl rfl (any_of HT_.out (by kernel_rfl)) (fun _ _ _ h => h) (Or.inl ⟨by rfl, ?_⟩) ?_ ?_
        rotate_left
        ·intro w'
         go_simp
         with_reducible rfl
        rotate_left
        ·simp only [Act.put, z1_, z2_, z3_, i64_w, i32_w]
         rfl
        refine pure_ (i:=16) (N:=some 72) (v := undef) (a' := ?_) mk17_ rfl rfl (any_of HT_.out (by kernel_rfl)) (fun _ _ _ h => h) (Or.inr ⟨by rfl, rfl⟩) ?_ ?_
        rotate_left
        ·simp only [Act.put, z1_, z2_, z3_, i64_w, i32_w]
         rfl
        refine pure_ (i:=17) (N:=some 73) (v := undef) (a' := ?_) mk18_ rfl rfl (any_of HT_.out (by kernel_rfl)) (fun _ _ _ h => h) (Or.inr ⟨by rfl, rfl⟩) ?_ ?_
        rotate_left
        ·simp only [Act.put, z1_, z2_, z3_, i64_w, i32_w]
         rfl
        refine pure_ (i:=18) (N:=some 74) (v := undef) (a' := ?_) mk19_ rfl rfl (any_of HT_.out (by kernel_rfl)) (fun _ _ _ h => h) (Or.inr ⟨by rfl, rfl⟩) ?_ ?_
        rotate_left
        ·simp only [Act.put, z1_, z2_, z3_, i64_w, i32_w]
         rfl
        refine pure_ (i:=19) (N:=some 75) (v := undef) (a' := ?_) mk20_ rfl rfl (any_of HT_.out (by kernel_rfl)) (fun _ _ _ h => h) (Or.inr ⟨by rfl, rfl⟩) ?_ ?_
        rotate_left
        ·simp only [Act.put, z1_, z2_, z3_, i64_w, i32_w]
         rfl
        refine pure_ (i:=20) (N:=some 76) (v := undef) (a' := ?_) mk21_ rfl rfl (any_of HT_.out (by kernel_rfl)) (fun _ _ _ h => h) (Or.inr ⟨by rfl, rfl⟩) ?_ ?_
        rotate_left
        ·simp only [Act.put, z1_, z2_, z3_, i64_w, i32_w]
         rfl
        refine pure_ (i:=21) (N:=some 77) (v := undef) (a' := ?_) mk22_ rfl rfl (any_of HT_.out (by kernel_rfl)) (fun _ _ _ h => h) (Or.inr ⟨by rfl, rfl⟩) ?_ ?_
        rotate_left
        ·simp only [Act.put, z1_, z2_, z3_, i64_w, i32_w]
         rfl
        refine pure_ (i:=22) (N:=some 78) (v := undef) (a' := ?_) mk23_ rfl rfl (any_of HT_.out (by kernel_rfl)) (fun _ _ _ h => h) (Or.inr ⟨by rfl, rfl⟩) ?_ ?_
        rotate_left
        ·simp only [Act.put, z1_, z2_, z3_, i64_w, i32_w]
         rfl
        refine pure_ (i:=23) (N:=some 79) (v := undef) (a' := ?_) mk24_ rfl rfl (any_of HT_.out (by kernel_rfl)) (fun _ _ _ h => h) (Or.inr ⟨by rfl, rfl⟩) ?_ ?_
        rotate_left
        ·simp only [Act.put, z1_, z2_, z3_, i64_w, i32_w]
         rfl
        refine pure_ (i:=24) (N:=some 80) (v := undef) (a' := ?_) mk25_ rfl rfl (any_of HT_.out (by kernel_rfl)) (fun _ _ _ h => h) (Or.inr ⟨by rfl, rfl⟩) ?_ ?_
        rotate_left
        ·simp only [Act.put, z1_, z2_, z3_, i64_w, i32_w]
         rfl
        refine pure_ (i:=25) (N:=some 81) (v := undef) (a' := ?_) mk26_ rfl rfl (any_of HT_.out (by kernel_rfl)) (fun _ _ _ h => h) (Or.inr ⟨by rfl, rfl⟩) ?_ ?_
        rotate_left
        ·simp only [Act.put, z1_, z2_, z3_, i64_w, i32_w]
         rfl
        refine pure_ (i:=26) (N:=some 82) (v := undef) (a' := ?_) mk27_ rfl rfl (any_of HT_.out (by kernel_rfl)) (fun _ _ _ h => h) (Or.inr ⟨by rfl, rfl⟩) ?_ ?_
        rotate_left
        ·simp only [Act.put, z1_, z2_, z3_, i64_w, i32_w]
         rfl
        refine pure_ (i:=27) (N:=some 83) (v := undef) (a' := ?_) mk28_ rfl rfl (any_of HT_.out (by kernel_rfl)) (fun _ _ _ h => h) (Or.inr ⟨by rfl, rfl⟩) ?_ ?_
        rotate_left
        ·simp only [Act.put, z1_, z2_, z3_, i64_w, i32_w]
         rfl
        refine pure_ (i:=28) (N:=some 84) (v:=?_) (a':=?_) mk29_ rfl rfl (any_of HT_.out (by kernel_rfl)) (fun _ _ _ h => h) (Or.inl ⟨by rfl, ?_⟩) ?_ ?_
        rotate_left
        ·intro w'
         go_simp
         with_reducible rfl
        rotate_left
        ·simp only [Act.put, z1_, z2_, z3_, i64_w, i32_w]
         rfl
        refine pure_ (i:=29) (N:=some 85) (v:=?_) (a':=?_) mk30_ rfl rfl (any_of HT_.out (by kernel_rfl)) (fun _ _ _ h => h) (Or.inl ⟨by rfl, ?_⟩) ?_ ?_
        rotate_left
        ·intro w'
         go_simp
         with_reducible rfl
        rotate_left
        ·simp only [Act.put, z1_, z2_, z3_, i64_w, i32_w]
         rfl
        refine pure_ (i:=30) (N:=some 86) (v := undef) (a' := ?_) mk31_ rfl rfl (any_of HT_.out (by kernel_rfl)) (fun _ _ _ h => h) (Or.inr ⟨by rfl, rfl⟩) ?_ ?_
        rotate_left
        ·simp only [Act.put, z1_, z2_, z3_, i64_w, i32_w]
         rfl
        refine pure_ (i:=31) (N:=some 87) (v := undef) (a' := ?_) mk46_ rfl rfl (any_of HT_.out (by kernel_rfl)) (fun _ _ _ h => h) (Or.inr ⟨by rfl, rfl⟩) ?_ ?_
        rotate_left
        ·simp only [Act.put, z1_, z2_, z3_, i64_w, i32_w]
         rfl
        refine pure_ (i:=32) (N:=some 88) (v := undef) (a' := ?_) mk33_ rfl rfl (any_of HT_.out (by kernel_rfl)) (fun _ _ _ h => h) (Or.inr ⟨by rfl, rfl⟩) ?_ ?_
        rotate_left
        ·simp only [Act.put, z1_, z2_, z3_, i64_w, i32_w]
         rfl
        refine pure_ (i:=33) (N:=some 89) (v := undef) (a' := ?_) mk34_ rfl rfl (any_of HT_.out (by kernel_rfl)) (fun _ _ _ h => h) (Or.inr ⟨by rfl, rfl⟩) ?_ ?_
        rotate_left
        ·simp only [Act.put, z1_, z2_, z3_, i64_w, i32_w]
         rfl
        refine pure_ (i:=34) (N:=some 90) (v:=?_) (a':=?_) mk35_ rfl rfl (any_of HT_.out (by kernel_rfl)) (fun _ _ _ h => h) (Or.inl ⟨by rfl, ?_⟩) ?_ ?_
        rotate_left
        ·intro w'
         go_simp
         with_reducible rfl
        rotate_left
        ·simp only [Act.put, z1_, z2_, z3_, i64_w, i32_w]
         rfl
        refine pure_ (i:=35) (N:=some 91) (v:=?_) (a':=?_) mk36_ rfl rfl (any_of HT_.out (by kernel_rfl)) (fun _ _ _ h => h) (Or.inl ⟨by rfl, ?_⟩) ?_ ?_
        rotate_left
        ·intro w'
         go_simp
         with_reducible rfl
        rotate_left
        ·simp only [Act.put, z1_, z2_, z3_, i64_w, i32_w]
         rfl
        refine pure_ (i:=36) (N:=some 92) (v := undef) (a' := ?_) mk37_ rfl rfl (any_of HT_.out (by kernel_rfl)) (fun _ _ _ h => h) (Or.inr ⟨by rfl, rfl⟩) ?_ ?_
        rotate_left
        ·simp only [Act.put, z1_, z2_, z3_, i64_w, i32_w]
         rfl
        refine pure_ (i:=37) (N:=some 93) (v:=?_) (a':=?_) mk38_ rfl rfl (any_of HT_.out (by kernel_rfl)) (fun _ _ _ h => h) (Or.inl ⟨by rfl, ?_⟩) ?_ ?_
        rotate_left
        ·intro w'
         go_simp
         with_reducible rfl
        rotate_left
        ·simp only [Act.put, z1_, z2_, z3_, i64_w, i32_w]
         rfl
        refine pure_ (i:=38) (N:=some 6) (v:=?_) (a':=?_) mk39_ rfl rfl (any_of HT_.out (by kernel_rfl)) (fun _ _ _ h => h) (Or.inl ⟨by rfl, ?_⟩) ?_ ?_
        rotate_left
        ·intro w'
         go_simp
         with_reducible rfl
        rotate_left
        ·simp only [Act.put, z1_, z2_, z3_, i64_w, i32_w]
         rfl
        refine done_ (done_of HT_.out (by kernel_rfl)) ?_
        try go_wp2
        go_ret
        exact ⟨by first | rfl | (simp [errW_none, errW_some] <;> rfl) | (simp [*, errW_none, errW_some] <;> rfl), by repeat (first | (with_reducible first | exact HB.out | apply below_alloc | apply pw_below_drewN | apply below_drew1 | refine below_set ?_ GE265.out | refine below_set ?_ GE273.out) | exact HB.out)⟩
      ·replace c29 := Bool.eq_false_iff.mpr c29
       subst c29
       have H1 : (some false) = some r := by rw [if_neg (show ¬ (false = true) by decide)] at H; exact H
       clear H
       have H := H1
       clear H1
       obtain rfl := Option.some.inj H
       have hcz122_0 : wc.cell? ⟨gb265, 0, none⟩ = some (.slice A0_0 l0_0.length c0_0) := (blk_cell BK265.out 0).trans rfl
       have hcz122_1 : wc.cell? ⟨gb265, 1, none⟩ = some (.int .i64 a0_1) := (blk_cell BK265.out 1).trans rfl
       have hfz122_0 := blk_frozen BK265.out 0
       have hfz122_1 := blk_frozen BK265.out 1
       try go_wp2_with (first | ((with_reducible refine gate_callee (f := 35) rfl ?_); refine goesL_ (some 39) rfl rfl Try.func35 (by kernel_rfl) rfl #[.slice A0_0 l0_0.length c0_0, .int .i64 a1, .int .i64 a0_1] rfl (by (try simp only [List.map_toArray, List.map_cons, List.map_nil]); first | done | rfl | (simp only [List.length_drop, List.length_take]; rfl)) ?_; (with_reducible refine (line_Grow.calls kj3 _ _ l0_0 a1 a0_1 t268 t269 _ ?side1 ?side2 A24.out).mono ?_); (case side1 => repeat (first | exact (Kd.C_below HR0_0.out HB.out) | (with_reducible refine Kd.C_alloc ?_ _) | (with_reducible refine Kd.C_drewN ?_ _) | (with_reducible refine Kd.C_drew ?_))); (case side2 => exact HC0_0.out); rintro e w123 ⟨v270, rfl, ho0, hb⟩; refine ⟨_, rfl, ?_⟩; have n0_ := A0_ (Kd.R_lower ho0 (below_size (by repeat (first | (with_reducible first | exact HB.out | apply below_alloc | apply pw_below_drewN | apply below_drew1 | refine below_set ?_ GE265.out) | exact HB.out)))); have n1_ := A0_ (blk_below (g:=gb265) (o:=.cells #[.slice A0_0 l0_0.length c0_0, .int .i64 a0_1] 39 (0, 0)) (by (with_reducible repeat (first | refine blk_drewN ?_ _ | refine blk_drew ?_ | refine blk_alloc ?_ _)); exact BK265.out) hb); have n2_ := A0_ (below_step (by repeat (first | (with_reducible first | exact HB.out | apply below_alloc | apply pw_below_drewN | apply below_drew1 | refine below_set ?_ GE265.out) | exact HB.out)) hb); clear BK265; clear HB; have HO271 := n0_; have BK265 := n1_; have HB := n2_; clear n0_ n1_ n2_; (try clear hb); (try clear hb2); (try clear hk); (try clear hi); (try clear ho0); have hcz124_0 : w123.cell? ⟨gb265, 0, none⟩ = some (.slice A0_0 l0_0.length c0_0) := (blk_cell BK265.out 0).trans rfl; have hcz124_1 : w123.cell? ⟨gb265, 1, none⟩ = some (.int .i64 a0_1) := (blk_cell BK265.out 1).trans rfl; have hfz124_0 := blk_frozen BK265.out 0; have hfz124_1 := blk_frozen BK265.out 1; obtain ⟨Ao125, co125, eo125⟩ := Kd.R_slice HO271.out; subst eo125) | ((with_reducible refine gate_dst (N:=9) rfl ?_); refine box_event ?hg (N:=9) ?hd (cs := #[.slice none 0 0, .int .i64 0]) (t := 39) ?hr ?_; (case hd => rfl); (case hg => rfl); (case hr => first | (go_simp; done) | (go_simp; rfl)); intro gb273 hg w126 hbox hb; have n0_ := A0_ (Kd.R_below (by (with_reducible repeat (first | apply Kd.R_alloc | apply Kd.R_drewN | apply Kd.R_drew)); exact HO271.out) hb); have n1_ := A0_ (blk_below (g:=gb265) (o:=.cells #[.slice A0_0 l0_0.length c0_0, .int .i64 a0_1] 39 (0, 0)) (by (with_reducible repeat (first | refine blk_drewN ?_ _ | refine blk_drew ?_ | refine blk_alloc ?_ _)); exact BK265.out) hb); have n2_ := A0_ (below_step (by repeat (first | (with_reducible first | exact HB.out | apply below_alloc | apply pw_below_drewN | apply below_drew1 | refine below_set ?_ GE265.out) | exact HB.out)) hb); have n3_ := A0_ (hbox); have n4_ := A0_ ((by rw [hg]; exact (below_size (by repeat (first | (with_reducible first | exact HB.out | apply below_alloc | apply pw_below_drewN | apply below_drew1 | refine below_set ?_ GE265.out) | exact HB.out))) : w.heap.size ≤ gb273)); have n5_ := A0_ ((by rw [hg]; exact (below_size (by repeat (first | (with_reducible first | exact HB.out | apply below_alloc | apply pw_below_drewN | apply below_drew1 | refine below_set ?_ GE265.out) | exact HB.out))) : w.heap.size ≤ gb273)); have n6_ := A0_ ((by rw [hg]; exact Nat.ne_of_lt (blk_lt (g:=gb265) (o:=.cells #[.slice A0_0 l0_0.length c0_0, .int .i64 a0_1] 39 (0, 0)) (by (with_reducible repeat (first | refine blk_drewN ?_ _ | refine blk_drew ?_ | refine blk_alloc ?_ _)); exact BK265.out)) : gb265 ≠ gb273)); have n7_ := A0_ ((by rw [hg]; exact Nat.ne_of_gt (blk_lt (g:=gb265) (o:=.cells #[.slice A0_0 l0_0.length c0_0, .int .i64 a0_1] 39 (0, 0)) (by (with_reducible repeat (first | refine blk_drewN ?_ _ | refine blk_drew ?_ | refine blk_alloc ?_ _)); exact BK265.out)) : gb273 ≠ gb265)); clear HO271; clear BK265; clear HB; have HO271 := n0_; have BK265 := n1_; have HB := n2_; have BK273 := n3_; have GW273 := n4_; have GE273 := n5_; have NB265_273 := n6_; have NB273_265 := n7_; clear n0_ n1_ n2_ n3_ n4_ n5_ n6_ n7_; clear hb hbox hg; have hnb127 := NB273_265.out; have hnc127 := NB265_273.out; have hcz128_0 : w126.cell? ⟨gb273, 0, none⟩ = some (.slice none 0 0) := (blk_cell BK273.out 0).trans rfl; have hcz128_1 : w126.cell? ⟨gb273, 1, none⟩ = some (.int .i64 0) := (blk_cell BK273.out 1).trans rfl; have hfz128_0 := blk_frozen BK273.out 0; have hfz128_1 := blk_frozen BK273.out 1))
       have n0_ : Aside0 (Kd.R k61 61 ((w126.setCell ⟨gb273, 0, none⟩ (.slice Ao125 t268.length co125)).setCell ⟨gb273, 1, none⟩ (.int .i64 (wrap64 (a0_1 + a2)))) w.heap.size (fun _ => True) (.slice Ao125 t268.length co125) t268) := ⟨by (with_reducible repeat (first | apply Kd.R_alloc | apply Kd.R_drewN | apply Kd.R_drew)); exact Kd.R_mono (Kd.R_far (p := ⟨gb273, 1, none⟩) (Kd.R_far (p := ⟨gb273, 0, none⟩) (Kd.R_types HO271.out BK273.out (by decide)) (fun _ hk => hk.2) (.slice Ao125 t268.length co125)) (fun _ hk => hk.2) (.int .i64 (wrap64 (a0_1 + a2)))) (fun _ hk => trivial)⟩
       have n1_ : Aside0 (((w126.setCell ⟨gb273, 0, none⟩ (.slice Ao125 t268.length co125)).setCell ⟨gb273, 1, none⟩ (.int .i64 (wrap64 (a0_1 + a2)))).heap[gb265]? = some (.cells #[.slice A0_0 l0_0.length c0_0, .int .i64 a0_1] 39 (0, 0))) := ⟨by (with_reducible repeat (first | refine blk_drewN ?_ _ | refine blk_drew ?_ | refine blk_alloc ?_ _)); refine blk_far ?_ NB265_273.out _; (with_reducible repeat (first | refine blk_drewN ?_ _ | refine blk_drew ?_ | refine blk_alloc ?_ _)); refine blk_far ?_ NB265_273.out _; (with_reducible repeat (first | refine blk_drewN ?_ _ | refine blk_drew ?_ | refine blk_alloc ?_ _)); exact BK265.out⟩
       have n2_ : Aside0 (((w126.setCell ⟨gb273, 0, none⟩ (.slice Ao125 t268.length co125)).setCell ⟨gb273, 1, none⟩ (.int .i64 (wrap64 (a0_1 + a2)))).heap[gb273]? = some (.cells #[.slice Ao125 t268.length co125, .int .i64 (wrap64 (a0_1 + a2))] 39 (0, 0))) := ⟨by (with_reducible repeat (first | refine blk_drewN ?_ _ | refine blk_drew ?_ | refine blk_alloc ?_ _)); refine blk_put (cs := #[.slice Ao125 t268.length co125, .int .i64 0]) ?_ 1 _ rfl; (with_reducible repeat (first | refine blk_drewN ?_ _ | refine blk_drew ?_ | refine blk_alloc ?_ _)); refine blk_put (cs := #[.slice none 0 0, .int .i64 0]) ?_ 0 _ rfl; (with_reducible repeat (first | refine blk_drewN ?_ _ | refine blk_drew ?_ | refine blk_alloc ?_ _)); exact BK273.out⟩
       have n3_ : Aside0 (Below w.heap.size w ((w126.setCell ⟨gb273, 0, none⟩ (.slice Ao125 t268.length co125)).setCell ⟨gb273, 1, none⟩ (.int .i64 (wrap64 (a0_1 + a2))))) := ⟨by repeat (first | (with_reducible first | exact HB.out | apply below_alloc | apply pw_below_drewN | apply below_drew1 | refine below_set ?_ GE265.out | refine below_set ?_ GE273.out) | exact HB.out)⟩
       (try clear HO271)
       (try clear BK265)
       (try clear BK273)
       (try clear HB)
       generalize ((w126.setCell ⟨gb273, 0, none⟩ (.slice Ao125 t268.length co125)).setCell ⟨gb273, 1, none⟩ (.int .i64 (wrap64 (a0_1 + a2)))) = w129 at n0_ n1_ n2_ n3_ ⊢
       have HO271 := n0_
       have BK265 := n1_
       have BK273 := n2_
       have HB := n3_
       clear n0_ n1_ n2_ n3_
       have n0_ := A0_ (Kd.R_drew HO271.out)
       have n1_ := A0_ (blk_drew BK265.out)
       have n2_ := A0_ (blk_drew BK273.out)
       have n3_ := A0_ (below_drew1 HB.out)
       clear HO271
       clear BK265
       clear BK273
       clear HB
       have HO271 := n0_
       have BK265 := n1_
       have BK273 := n2_
       have HB := n3_
       clear n0_ n1_ n2_ n3_
       refine start_ (n := 39) (S := fun w' => w'.cell? ⟨gb273, 0, none⟩ = some (.slice Ao125 t268.length co125) ∧ w'.cell? ⟨gb273, 1, none⟩ = some (.int .i64 (wrap64 (a0_1 + a2))) ∧ w'.cell? ⟨gb265, 0, none⟩ = some (.slice A0_0 l0_0.length c0_0) ∧ w'.cell? ⟨gb265, 1, none⟩ = some (.int .i64 a0_1)) (ds := []) mk0_ (by kernel_rfl) rfl rfl ⟨(blk_cell BK273.out 0).trans rfl, (blk_cell BK273.out 1).trans rfl, (blk_cell BK265.out 0).trans rfl, (blk_cell BK265.out 1).trans rfl⟩ (fun hHeld => ?_); refine with_tabW counterfoillaw11_LineGoes.tab7 counterfoillaw11_LineGoes.bits7 (fun HT_ HW_ => ?_)
       generalize w129.drew = w130 at HO271 BK265 BK273 HB hHeld ⊢
       refine take_ (i:=0) (N:=some 56) (v:=?_) (a':=?_) mk1_ rfl rfl (take_ofW HT_.out HW_.out (by kernel_rfl)) (fun _ _ _ h => h) (Or.inl ⟨by rfl, ?_⟩) hHeld ?_ ?_
       rotate_left
       ·rintro w' ⟨s0, s1, s2, s3⟩
        go_simp
        with_reducible rfl
       rotate_left
       ·simp only [Act.put, z1_, z2_, z3_, i64_w, i32_w]
        rfl
       refine one_ (i:=1) (N:=some 57) mk2_ rfl rfl (one_of HT_.out (by kernel_rfl)) (by decide) (fun K hK => ?_)
       refine goes_ Try.func23 (by kernel_rfl) rfl #[.agg #[.slice Ao125 t268.length co125, .int .i64 (wrap64 (a0_1 + a2))]] (by rfl) rfl rfl (by (try simp only [List.map_toArray, List.map_cons, List.map_nil]); first | done | rfl | (simp only [List.length_drop, List.length_take]; rfl)) ?_
       with_reducible refine (line_Placed.calls kj3 _ _ t268 (wrap64 (a0_1 + a2)) true _ ?side1 ?side2 A26.out).mono ?_
       (case side1 => repeat (first | exact (Kd.R_reads' HO271.out).2.2 | (with_reducible refine Kd.C_alloc ?_ _) | (with_reducible refine Kd.C_drewN ?_ _) | (with_reducible refine Kd.C_drew ?_)))
       (case side2 => exact (Kd.R_reads' HO271.out).2.1)
       rintro e w131 ⟨rfl, hb⟩
       refine ⟨_, rfl, ?_⟩
       have n0_ := A0_ (Kd.R_below (by (with_reducible repeat (first | apply Kd.R_alloc | apply Kd.R_drewN | apply Kd.R_drew)); exact HO271.out) hb)
       have n1_ := A0_ (blk_below (g:=gb265) (o:=.cells #[.slice A0_0 l0_0.length c0_0, .int .i64 a0_1] 39 (0, 0)) (by (with_reducible repeat (first | refine blk_drewN ?_ _ | refine blk_drew ?_ | refine blk_alloc ?_ _)); exact BK265.out) hb)
       have n2_ := A0_ (blk_below (g:=gb273) (o:=.cells #[.slice Ao125 t268.length co125, .int .i64 (wrap64 (a0_1 + a2))] 39 (0, 0)) (by (with_reducible repeat (first | refine blk_drewN ?_ _ | refine blk_drew ?_ | refine blk_alloc ?_ _)); exact BK273.out) hb)
       have n3_ := A0_ (below_step (by repeat (first | (with_reducible first | exact HB.out | apply below_alloc | apply pw_below_drewN | apply below_drew1 | refine below_set ?_ GE265.out | refine below_set ?_ GE273.out) | exact HB.out)) hb)
       clear HO271
       clear BK265
       clear BK273
       clear HB
       have HO271 := n0_
       have BK265 := n1_
       have BK273 := n2_
       have HB := n3_
       clear n0_ n1_ n2_ n3_
       (try clear hb)
       (try clear hb2)
       (try clear hk)
       (try clear hi)
       refine hK.out _ _ ⟨(blk_cell BK273.out 0).trans rfl, (blk_cell BK273.out 1).trans rfl, (blk_cell BK265.out 0).trans rfl, (blk_cell BK265.out 1).trans rfl⟩ (fun hHeld => ?_)
       clear hK K
       refine norm_ (a' := ?_) ?_ ?_
       rotate_left
       ·show Act.put _ (some 57) _ = _
        simp only [Act.put, z1_, z2_, z3_, i64_w, i32_w]
        rfl
       refine pure_ (i:=2) (N:=some 58) (v:=?_) (a':=?_) mk3_ rfl rfl (any_of HT_.out (by kernel_rfl)) (fun _ _ _ h => h) (Or.inl ⟨by rfl, ?_⟩) ?_ ?_
       rotate_left
       ·intro w'
        go_simp
        with_reducible rfl
       rotate_left
       ·simp only [Act.put, z1_, z2_, z3_, i64_w, i32_w]
        rfl
       refine take_ (i:=3) (N:=some 59) (v:=?_) (a':=?_) mk4_ rfl rfl (take_ofW HT_.out HW_.out (by kernel_rfl)) (fun _ _ _ h => h) (Or.inl ⟨by rfl, ?_⟩) hHeld ?_ ?_
       rotate_left
       ·rintro w' ⟨s0, s1, s2, s3⟩
        go_simp
        with_reducible rfl
       rotate_left
       ·simp only [Act.put, z1_, z2_, z3_, i64_w, i32_w]
        rfl
       refine take_ (i:=4) (N:=some 60) (v:=?_) (a':=?_) mk5_ rfl rfl (take_ofW HT_.out HW_.out (by kernel_rfl)) (fun _ _ _ h => h) (Or.inl ⟨by rfl, ?_⟩) hHeld ?_ ?_
       rotate_left
       ·rintro w' ⟨s0, s1, s2, s3⟩
        go_simp
        with_reducible rfl
       rotate_left
       ·simp only [Act.put, z1_, z2_, z3_, i64_w, i32_w]
        rfl
       refine one_ (i:=5) (N:=some 61) mk6_ rfl rfl (one_of HT_.out (by kernel_rfl)) (by decide) (fun K hK => ?_)
       refine goes_ Try.func29 (by kernel_rfl) rfl #[.agg #[.slice A0_0 l0_0.length c0_0, .int .i64 a0_1], .agg #[.slice Ao125 t268.length co125, .int .i64 (wrap64 (a0_1 + a2))]] (by rfl) rfl rfl (by (try simp only [List.map_toArray, List.map_cons, List.map_nil]); first | done | rfl | (simp only [List.length_drop, List.length_take]; rfl)) ?_
       with_reducible refine (line_Ahead.calls kj3 _ _ l0_0 a0_1 _ _ t268 (wrap64 (a0_1 + a2)) false _ ?side1 ?side2 ?side3 ?side4 A28.out).mono ?_
       (case side1 => repeat (first | exact (Kd.C_below HR0_0.out HB.out) | (with_reducible refine Kd.C_alloc ?_ _) | (with_reducible refine Kd.C_drewN ?_ _) | (with_reducible refine Kd.C_drew ?_)))
       (case side2 => exact HC0_0.out)
       (case side3 => repeat (first | exact (Kd.R_reads' HO271.out).2.2 | (with_reducible refine Kd.C_alloc ?_ _) | (with_reducible refine Kd.C_drewN ?_ _) | (with_reducible refine Kd.C_drew ?_)))
       (case side4 => exact (Kd.R_reads' HO271.out).2.1)
       rintro e w132 ⟨rfl, hb⟩
       refine ⟨_, rfl, ?_⟩
       have n0_ := A0_ (Kd.R_below (by (with_reducible repeat (first | apply Kd.R_alloc | apply Kd.R_drewN | apply Kd.R_drew)); exact HO271.out) hb)
       have n1_ := A0_ (blk_below (g:=gb265) (o:=.cells #[.slice A0_0 l0_0.length c0_0, .int .i64 a0_1] 39 (0, 0)) (by (with_reducible repeat (first | refine blk_drewN ?_ _ | refine blk_drew ?_ | refine blk_alloc ?_ _)); exact BK265.out) hb)
       have n2_ := A0_ (blk_below (g:=gb273) (o:=.cells #[.slice Ao125 t268.length co125, .int .i64 (wrap64 (a0_1 + a2))] 39 (0, 0)) (by (with_reducible repeat (first | refine blk_drewN ?_ _ | refine blk_drew ?_ | refine blk_alloc ?_ _)); exact BK273.out) hb)
       have n3_ := A0_ (below_step (by repeat (first | (with_reducible first | exact HB.out | apply below_alloc | apply pw_below_drewN | apply below_drew1 | refine below_set ?_ GE265.out | refine below_set ?_ GE273.out) | exact HB.out)) hb)
       clear HO271
       clear BK265
       clear BK273
       clear HB
       have HO271 := n0_
       have BK265 := n1_
       have BK273 := n2_
       have HB := n3_
       clear n0_ n1_ n2_ n3_
       (try clear hb)
       (try clear hb2)
       (try clear hk)
       (try clear hi)
       refine hK.out _ _ ⟨(blk_cell BK273.out 0).trans rfl, (blk_cell BK273.out 1).trans rfl, (blk_cell BK265.out 0).trans rfl, (blk_cell BK265.out 1).trans rfl⟩ (fun hHeld => ?_)
       clear hK K
       refine norm_ (a' := ?_) ?_ ?_
       rotate_left
       ·show Act.put _ (some 61) _ = _
        simp only [Act.put, z1_, z2_, z3_, i64_w, i32_w]
        rfl
       refine pure_ (i:=6) (N:=some 62) (v:=?_) (a':=?_) mk7_ rfl rfl (any_of HT_.out (by kernel_rfl)) (fun _ _ _ h => h) (Or.inl ⟨by rfl, ?_⟩) ?_ ?_
       rotate_left
       ·intro w'
        go_simp
        with_reducible rfl
       rotate_left
       ·simp only [Act.put, z1_, z2_, z3_, i64_w, i32_w]
        rfl
       refine pure_ (i:=7) (N:=some 63) (v:=?_) (a':=?_) mk8_ rfl rfl (any_of HT_.out (by kernel_rfl)) (fun _ _ _ h => h) (Or.inl ⟨by rfl, ?_⟩) ?_ ?_
       rotate_left
       ·intro w'
        go_simp
        with_reducible rfl
       rotate_left
       ·simp only [Act.put, z1_, z2_, z3_, i64_w, i32_w]
        rfl
       refine pure_ (i:=8) (N:=some 64) (v := undef) (a' := ?_) mk47_ rfl rfl (any_of HT_.out (by kernel_rfl)) (fun _ _ _ h => h) (Or.inr ⟨by rfl, rfl⟩) ?_ ?_
       rotate_left
       ·simp only [Act.put, z1_, z2_, z3_, i64_w, i32_w]
        rfl
       refine pure_ (i:=9) (N:=some 65) (v := undef) (a' := ?_) mk48_ rfl rfl (any_of HT_.out (by kernel_rfl)) (fun _ _ _ h => h) (Or.inr ⟨by rfl, rfl⟩) ?_ ?_
       rotate_left
       ·simp only [Act.put, z1_, z2_, z3_, i64_w, i32_w]
        rfl
       refine pure_ (i:=10) (N:=some 66) (v := undef) (a' := ?_) mk49_ rfl rfl (any_of HT_.out (by kernel_rfl)) (fun _ _ _ h => h) (Or.inr ⟨by rfl, rfl⟩) ?_ ?_
       rotate_left
       ·simp only [Act.put, z1_, z2_, z3_, i64_w, i32_w]
        rfl
       refine pure_ (i:=11) (N:=some 67) (v := undef) (a' := ?_) mk50_ rfl rfl (any_of HT_.out (by kernel_rfl)) (fun _ _ _ h => h) (Or.inr ⟨by rfl, rfl⟩) ?_ ?_
       rotate_left
       ·simp only [Act.put, z1_, z2_, z3_, i64_w, i32_w]
        rfl
       refine pure_ (i:=12) (N:=some 68) (v := undef) (a' := ?_) mk13_ rfl rfl (any_of HT_.out (by kernel_rfl)) (fun _ _ _ h => h) (Or.inr ⟨by rfl, rfl⟩) ?_ ?_
       rotate_left
       ·simp only [Act.put, z1_, z2_, z3_, i64_w, i32_w]
        rfl
       refine pure_ (i:=13) (N:=some 69) (v := undef) (a' := ?_) mk14_ rfl rfl (any_of HT_.out (by kernel_rfl)) (fun _ _ _ h => h) (Or.inr ⟨by rfl, rfl⟩) ?_ ?_
       rotate_left
       ·simp only [Act.put, z1_, z2_, z3_, i64_w, i32_w]
        rfl
       refine pure_ (i:=14) (N:=some 70) (v:=?_) (a':=?_) mk15_ rfl rfl (any_of HT_.out (by kernel_rfl)) (fun _ _ _ h => h) (Or.inl ⟨by rfl, ?_⟩) ?_ ?_
       rotate_left
       ·intro w'
        go_simp
        with_reducible rfl
       rotate_left
       ·simp only [Act.put, z1_, z2_, z3_, i64_w, i32_w]
        rfl
       refine pure_ (i:=15) (N:=some 71) (v:=?_) (a':=?_) mk16_ rfl rfl (any_of HT_.out (by kernel_rfl)) (fun _ _ _ h => h) (Or.inl ⟨by rfl, ?_⟩) ?_ ?_
       rotate_left
       ·intro w'
        go_simp
        with_reducible rfl
       rotate_left
       ·simp only [Act.put, z1_, z2_, z3_, i64_w, i32_w]
        rfl
       refine pure_ (i:=16) (N:=some 72) (v := undef) (a' := ?_) mk17_ rfl rfl (any_of HT_.out (by kernel_rfl)) (fun _ _ _ h => h) (Or.inr ⟨by rfl, rfl⟩) ?_ ?_
       rotate_left
       ·simp only [Act.put, z1_, z2_, z3_, i64_w, i32_w]
        rfl
       refine pure_ (i:=17) (N:=some 73) (v := undef) (a' := ?_) mk18_ rfl rfl (any_of HT_.out (by kernel_rfl)) (fun _ _ _ h => h) (Or.inr ⟨by rfl, rfl⟩) ?_ ?_
       rotate_left
       ·simp only [Act.put, z1_, z2_, z3_, i64_w, i32_w]
        rfl
       refine pure_ (i:=18) (N:=some 74) (v := undef) (a' := ?_) mk19_ rfl rfl (any_of HT_.out (by kernel_rfl)) (fun _ _ _ h => h) (Or.inr ⟨by rfl, rfl⟩) ?_ ?_
       rotate_left
       ·simp only [Act.put, z1_, z2_, z3_, i64_w, i32_w]
        rfl
       refine pure_ (i:=19) (N:=some 75) (v := undef) (a' := ?_) mk20_ rfl rfl (any_of HT_.out (by kernel_rfl)) (fun _ _ _ h => h) (Or.inr ⟨by rfl, rfl⟩) ?_ ?_
       rotate_left
       ·simp only [Act.put, z1_, z2_, z3_, i64_w, i32_w]
        rfl
       refine pure_ (i:=20) (N:=some 76) (v := undef) (a' := ?_) mk21_ rfl rfl (any_of HT_.out (by kernel_rfl)) (fun _ _ _ h => h) (Or.inr ⟨by rfl, rfl⟩) ?_ ?_
       rotate_left
       ·simp only [Act.put, z1_, z2_, z3_, i64_w, i32_w]
        rfl
       refine pure_ (i:=21) (N:=some 77) (v := undef) (a' := ?_) mk22_ rfl rfl (any_of HT_.out (by kernel_rfl)) (fun _ _ _ h => h) (Or.inr ⟨by rfl, rfl⟩) ?_ ?_
       rotate_left
       ·simp only [Act.put, z1_, z2_, z3_, i64_w, i32_w]
        rfl
       refine pure_ (i:=22) (N:=some 78) (v := undef) (a' := ?_) mk23_ rfl rfl (any_of HT_.out (by kernel_rfl)) (fun _ _ _ h => h) (Or.inr ⟨by rfl, rfl⟩) ?_ ?_
       rotate_left
       ·simp only [Act.put, z1_, z2_, z3_, i64_w, i32_w]
        rfl
       refine pure_ (i:=23) (N:=some 79) (v := undef) (a' := ?_) mk24_ rfl rfl (any_of HT_.out (by kernel_rfl)) (fun _ _ _ h => h) (Or.inr ⟨by rfl, rfl⟩) ?_ ?_
       rotate_left
       ·simp only [Act.put, z1_, z2_, z3_, i64_w, i32_w]
        rfl
       refine pure_ (i:=24) (N:=some 80) (v := undef) (a' := ?_) mk25_ rfl rfl (any_of HT_.out (by kernel_rfl)) (fun _ _ _ h => h) (Or.inr ⟨by rfl, rfl⟩) ?_ ?_
       rotate_left
       ·simp only [Act.put, z1_, z2_, z3_, i64_w, i32_w]
        rfl
       refine pure_ (i:=25) (N:=some 81) (v := undef) (a' := ?_) mk26_ rfl rfl (any_of HT_.out (by kernel_rfl)) (fun _ _ _ h => h) (Or.inr ⟨by rfl, rfl⟩) ?_ ?_
       rotate_left
       ·simp only [Act.put, z1_, z2_, z3_, i64_w, i32_w]
        rfl
       refine pure_ (i:=26) (N:=some 82) (v := undef) (a' := ?_) mk27_ rfl rfl (any_of HT_.out (by kernel_rfl)) (fun _ _ _ h => h) (Or.inr ⟨by rfl, rfl⟩) ?_ ?_
       rotate_left
       ·simp only [Act.put, z1_, z2_, z3_, i64_w, i32_w]
        rfl
       refine pure_ (i:=27) (N:=some 83) (v := undef) (a' := ?_) mk28_ rfl rfl (any_of HT_.out (by kernel_rfl)) (fun _ _ _ h => h) (Or.inr ⟨by rfl, rfl⟩) ?_ ?_
       rotate_left
       ·simp only [Act.put, z1_, z2_, z3_, i64_w, i32_w]
        rfl
       refine pure_ (i:=28) (N:=some 84) (v:=?_) (a':=?_) mk29_ rfl rfl (any_of HT_.out (by kernel_rfl)) (fun _ _ _ h => h) (Or.inl ⟨by rfl, ?_⟩) ?_ ?_
       rotate_left
       ·intro w'
        go_simp
        with_reducible rfl
       rotate_left
       ·simp only [Act.put, z1_, z2_, z3_, i64_w, i32_w]
        rfl
       refine pure_ (i:=29) (N:=some 85) (v:=?_) (a':=?_) mk30_ rfl rfl (any_of HT_.out (by kernel_rfl)) (fun _ _ _ h => h) (Or.inl ⟨by rfl, ?_⟩) ?_ ?_
       rotate_left
       ·intro w'
        go_simp
        with_reducible rfl
       rotate_left
       ·simp only [Act.put, z1_, z2_, z3_, i64_w, i32_w]
        rfl
       refine pure_ (i:=30) (N:=some 86) (v := undef) (a' := ?_) mk31_ rfl rfl (any_of HT_.out (by kernel_rfl)) (fun _ _ _ h => h) (Or.inr ⟨by rfl, rfl⟩) ?_ ?_
       rotate_left
       ·simp only [Act.put, z1_, z2_, z3_, i64_w, i32_w]
        rfl
       refine pure_ (i:=31) (N:=some 87) (v := undef) (a' := ?_) mk46_ rfl rfl (any_of HT_.out (by kernel_rfl)) (fun _ _ _ h => h) (Or.inr ⟨by rfl, rfl⟩) ?_ ?_
       rotate_left
       ·simp only [Act.put, z1_, z2_, z3_, i64_w, i32_w]
        rfl
       refine pure_ (i:=32) (N:=some 88) (v := undef) (a' := ?_) mk33_ rfl rfl (any_of HT_.out (by kernel_rfl)) (fun _ _ _ h => h) (Or.inr ⟨by rfl, rfl⟩) ?_ ?_
       rotate_left
       ·simp only [Act.put, z1_, z2_, z3_, i64_w, i32_w]
        rfl
       refine pure_ (i:=33) (N:=some 89) (v := undef) (a' := ?_) mk34_ rfl rfl (any_of HT_.out (by kernel_rfl)) (fun _ _ _ h => h) (Or.inr ⟨by rfl, rfl⟩) ?_ ?_
       rotate_left
       ·simp only [Act.put, z1_, z2_, z3_, i64_w, i32_w]
        rfl
       refine pure_ (i:=34) (N:=some 90) (v:=?_) (a':=?_) mk35_ rfl rfl (any_of HT_.out (by kernel_rfl)) (fun _ _ _ h => h) (Or.inl ⟨by rfl, ?_⟩) ?_ ?_
       rotate_left
       ·intro w'
        go_simp
        with_reducible rfl
       rotate_left
       ·simp only [Act.put, z1_, z2_, z3_, i64_w, i32_w]
        rfl
       refine pure_ (i:=35) (N:=some 91) (v:=?_) (a':=?_) mk36_ rfl rfl (any_of HT_.out (by kernel_rfl)) (fun _ _ _ h => h) (Or.inl ⟨by rfl, ?_⟩) ?_ ?_
       rotate_left
       ·intro w'
        go_simp
        with_reducible rfl
       rotate_left
       ·simp only [Act.put, z1_, z2_, z3_, i64_w, i32_w]
        rfl
       refine pure_ (i:=36) (N:=some 92) (v := undef) (a' := ?_) mk37_ rfl rfl (any_of HT_.out (by kernel_rfl)) (fun _ _ _ h => h) (Or.inr ⟨by rfl, rfl⟩) ?_ ?_
       rotate_left
       ·simp only [Act.put, z1_, z2_, z3_, i64_w, i32_w]
        rfl
       refine pure_ (i:=37) (N:=some 93) (v:=?_) (a':=?_) mk38_ rfl rfl (any_of HT_.out (by kernel_rfl)) (fun _ _ _ h => h) (Or.inl ⟨by rfl, ?_⟩) ?_ ?_
       rotate_left
       ·intro w'
        go_simp
        with_reducible rfl
       rotate_left
       ·simp only [Act.put, z1_, z2_, z3_, i64_w, i32_w]
        rfl
       refine pure_ (i:=38) (N:=some 6) (v:=?_) (a':=?_) mk39_ rfl rfl (any_of HT_.out (by kernel_rfl)) (fun _ _ _ h => h) (Or.inl ⟨by rfl, ?_⟩) ?_ ?_
       rotate_left
       ·intro w'
        go_simp
        with_reducible rfl
       rotate_left
       ·simp only [Act.put, z1_, z2_, z3_, i64_w, i32_w]
        rfl
       refine done_ (done_of HT_.out (by kernel_rfl)) ?_
       try go_wp2
       go_ret
       exact ⟨by first | rfl | (simp [errW_none, errW_some] <;> rfl) | (simp [*, errW_none, errW_some] <;> rfl), by repeat (first | (with_reducible first | exact HB.out | apply below_alloc | apply pw_below_drewN | apply below_drew1 | refine below_set ?_ GE265.out | refine below_set ?_ GE273.out) | exact HB.out)⟩
     ·replace c27 := Bool.eq_false_iff.mpr c27
      subst c27
      have H1 : (some false) = some r := by rw [if_neg (show ¬ (false = true) by decide)] at H; exact H
      clear H
      have H := H1
      clear H1
      obtain rfl := Option.some.inj H
      have hcz133_0 : wc.cell? ⟨gb265, 0, none⟩ = some (.slice A0_0 l0_0.length c0_0) := (blk_cell BK265.out 0).trans rfl
      have hcz133_1 : wc.cell? ⟨gb265, 1, none⟩ = some (.int .i64 a0_1) := (blk_cell BK265.out 1).trans rfl
      have hfz133_0 := blk_frozen BK265.out 0
      have hfz133_1 := blk_frozen BK265.out 1
      try go_wp2_with (first | ((with_reducible refine gate_callee (f := 35) rfl ?_); refine goesL_ (some 39) rfl rfl Try.func35 (by kernel_rfl) rfl #[.slice A0_0 l0_0.length c0_0, .int .i64 a1, .int .i64 a0_1] rfl (by (try simp only [List.map_toArray, List.map_cons, List.map_nil]); first | done | rfl | (simp only [List.length_drop, List.length_take]; rfl)) ?_; (with_reducible refine (line_Grow.calls kj3 _ _ l0_0 a1 a0_1 t268 t269 _ ?side1 ?side2 A24.out).mono ?_); (case side1 => repeat (first | exact (Kd.C_below HR0_0.out HB.out) | (with_reducible refine Kd.C_alloc ?_ _) | (with_reducible refine Kd.C_drewN ?_ _) | (with_reducible refine Kd.C_drew ?_))); (case side2 => exact HC0_0.out); rintro e w134 ⟨v270, rfl, ho0, hb⟩; refine ⟨_, rfl, ?_⟩; have n0_ := A0_ (Kd.R_lower ho0 (below_size (by repeat (first | (with_reducible first | exact HB.out | apply below_alloc | apply pw_below_drewN | apply below_drew1 | refine below_set ?_ GE265.out) | exact HB.out)))); have n1_ := A0_ (blk_below (g:=gb265) (o:=.cells #[.slice A0_0 l0_0.length c0_0, .int .i64 a0_1] 39 (0, 0)) (by (with_reducible repeat (first | refine blk_drewN ?_ _ | refine blk_drew ?_ | refine blk_alloc ?_ _)); exact BK265.out) hb); have n2_ := A0_ (below_step (by repeat (first | (with_reducible first | exact HB.out | apply below_alloc | apply pw_below_drewN | apply below_drew1 | refine below_set ?_ GE265.out) | exact HB.out)) hb); clear BK265; clear HB; have HO271 := n0_; have BK265 := n1_; have HB := n2_; clear n0_ n1_ n2_; (try clear hb); (try clear hb2); (try clear hk); (try clear hi); (try clear ho0); have hcz135_0 : w134.cell? ⟨gb265, 0, none⟩ = some (.slice A0_0 l0_0.length c0_0) := (blk_cell BK265.out 0).trans rfl; have hcz135_1 : w134.cell? ⟨gb265, 1, none⟩ = some (.int .i64 a0_1) := (blk_cell BK265.out 1).trans rfl; have hfz135_0 := blk_frozen BK265.out 0; have hfz135_1 := blk_frozen BK265.out 1; obtain ⟨Ao136, co136, eo136⟩ := Kd.R_slice HO271.out; subst eo136) | ((with_reducible refine gate_dst (N:=9) rfl ?_); refine box_event ?hg (N:=9) ?hd (cs := #[.slice none 0 0, .int .i64 0]) (t := 39) ?hr ?_; (case hd => rfl); (case hg => rfl); (case hr => first | (go_simp; done) | (go_simp; rfl)); intro gb273 hg w137 hbox hb; have n0_ := A0_ (Kd.R_below (by (with_reducible repeat (first | apply Kd.R_alloc | apply Kd.R_drewN | apply Kd.R_drew)); exact HO271.out) hb); have n1_ := A0_ (blk_below (g:=gb265) (o:=.cells #[.slice A0_0 l0_0.length c0_0, .int .i64 a0_1] 39 (0, 0)) (by (with_reducible repeat (first | refine blk_drewN ?_ _ | refine blk_drew ?_ | refine blk_alloc ?_ _)); exact BK265.out) hb); have n2_ := A0_ (below_step (by repeat (first | (with_reducible first | exact HB.out | apply below_alloc | apply pw_below_drewN | apply below_drew1 | refine below_set ?_ GE265.out) | exact HB.out)) hb); have n3_ := A0_ (hbox); have n4_ := A0_ ((by rw [hg]; exact (below_size (by repeat (first | (with_reducible first | exact HB.out | apply below_alloc | apply pw_below_drewN | apply below_drew1 | refine below_set ?_ GE265.out) | exact HB.out))) : w.heap.size ≤ gb273)); have n5_ := A0_ ((by rw [hg]; exact (below_size (by repeat (first | (with_reducible first | exact HB.out | apply below_alloc | apply pw_below_drewN | apply below_drew1 | refine below_set ?_ GE265.out) | exact HB.out))) : w.heap.size ≤ gb273)); have n6_ := A0_ ((by rw [hg]; exact Nat.ne_of_lt (blk_lt (g:=gb265) (o:=.cells #[.slice A0_0 l0_0.length c0_0, .int .i64 a0_1] 39 (0, 0)) (by (with_reducible repeat (first | refine blk_drewN ?_ _ | refine blk_drew ?_ | refine blk_alloc ?_ _)); exact BK265.out)) : gb265 ≠ gb273)); have n7_ := A0_ ((by rw [hg]; exact Nat.ne_of_gt (blk_lt (g:=gb265) (o:=.cells #[.slice A0_0 l0_0.length c0_0, .int .i64 a0_1] 39 (0, 0)) (by (with_reducible repeat (first | refine blk_drewN ?_ _ | refine blk_drew ?_ | refine blk_alloc ?_ _)); exact BK265.out)) : gb273 ≠ gb265)); clear HO271; clear BK265; clear HB; have HO271 := n0_; have BK265 := n1_; have HB := n2_; have BK273 := n3_; have GW273 := n4_; have GE273 := n5_; have NB265_273 := n6_; have NB273_265 := n7_; clear n0_ n1_ n2_ n3_ n4_ n5_ n6_ n7_; clear hb hbox hg; have hnb138 := NB273_265.out; have hnc138 := NB265_273.out; have hcz139_0 : w137.cell? ⟨gb273, 0, none⟩ = some (.slice none 0 0) := (blk_cell BK273.out 0).trans rfl; have hcz139_1 : w137.cell? ⟨gb273, 1, none⟩ = some (.int .i64 0) := (blk_cell BK273.out 1).trans rfl; have hfz139_0 := blk_frozen BK273.out 0; have hfz139_1 := blk_frozen BK273.out 1))
      have n0_ : Aside0 (Kd.R k61 61 ((w137.setCell ⟨gb273, 0, none⟩ (.slice Ao136 t268.length co136)).setCell ⟨gb273, 1, none⟩ (.int .i64 (wrap64 (a0_1 + a2)))) w.heap.size (fun _ => True) (.slice Ao136 t268.length co136) t268) := ⟨by (with_reducible repeat (first | apply Kd.R_alloc | apply Kd.R_drewN | apply Kd.R_drew)); exact Kd.R_mono (Kd.R_far (p := ⟨gb273, 1, none⟩) (Kd.R_far (p := ⟨gb273, 0, none⟩) (Kd.R_types HO271.out BK273.out (by decide)) (fun _ hk => hk.2) (.slice Ao136 t268.length co136)) (fun _ hk => hk.2) (.int .i64 (wrap64 (a0_1 + a2)))) (fun _ hk => trivial)⟩
      have n1_ : Aside0 (((w137.setCell ⟨gb273, 0, none⟩ (.slice Ao136 t268.length co136)).setCell ⟨gb273, 1, none⟩ (.int .i64 (wrap64 (a0_1 + a2)))).heap[gb265]? = some (.cells #[.slice A0_0 l0_0.length c0_0, .int .i64 a0_1] 39 (0, 0))) := ⟨by (with_reducible repeat (first | refine blk_drewN ?_ _ | refine blk_drew ?_ | refine blk_alloc ?_ _)); refine blk_far ?_ NB265_273.out _; (with_reducible repeat (first | refine blk_drewN ?_ _ | refine blk_drew ?_ | refine blk_alloc ?_ _)); refine blk_far ?_ NB265_273.out _; (with_reducible repeat (first | refine blk_drewN ?_ _ | refine blk_drew ?_ | refine blk_alloc ?_ _)); exact BK265.out⟩
      have n2_ : Aside0 (((w137.setCell ⟨gb273, 0, none⟩ (.slice Ao136 t268.length co136)).setCell ⟨gb273, 1, none⟩ (.int .i64 (wrap64 (a0_1 + a2)))).heap[gb273]? = some (.cells #[.slice Ao136 t268.length co136, .int .i64 (wrap64 (a0_1 + a2))] 39 (0, 0))) := ⟨by (with_reducible repeat (first | refine blk_drewN ?_ _ | refine blk_drew ?_ | refine blk_alloc ?_ _)); refine blk_put (cs := #[.slice Ao136 t268.length co136, .int .i64 0]) ?_ 1 _ rfl; (with_reducible repeat (first | refine blk_drewN ?_ _ | refine blk_drew ?_ | refine blk_alloc ?_ _)); refine blk_put (cs := #[.slice none 0 0, .int .i64 0]) ?_ 0 _ rfl; (with_reducible repeat (first | refine blk_drewN ?_ _ | refine blk_drew ?_ | refine blk_alloc ?_ _)); exact BK273.out⟩
      have n3_ : Aside0 (Below w.heap.size w ((w137.setCell ⟨gb273, 0, none⟩ (.slice Ao136 t268.length co136)).setCell ⟨gb273, 1, none⟩ (.int .i64 (wrap64 (a0_1 + a2))))) := ⟨by repeat (first | (with_reducible first | exact HB.out | apply below_alloc | apply pw_below_drewN | apply below_drew1 | refine below_set ?_ GE265.out | refine below_set ?_ GE273.out) | exact HB.out)⟩
      (try clear HO271)
      (try clear BK265)
      (try clear BK273)
      (try clear HB)
      generalize ((w137.setCell ⟨gb273, 0, none⟩ (.slice Ao136 t268.length co136)).setCell ⟨gb273, 1, none⟩ (.int .i64 (wrap64 (a0_1 + a2)))) = w140 at n0_ n1_ n2_ n3_ ⊢
      have HO271 := n0_
      have BK265 := n1_
      have BK273 := n2_
      have HB := n3_
      clear n0_ n1_ n2_ n3_
      have n0_ := A0_ (Kd.R_drew HO271.out)
      have n1_ := A0_ (blk_drew BK265.out)
      have n2_ := A0_ (blk_drew BK273.out)
      have n3_ := A0_ (below_drew1 HB.out)
      clear HO271
      clear BK265
      clear BK273
      clear HB
      have HO271 := n0_
      have BK265 := n1_
      have BK273 := n2_
      have HB := n3_
      clear n0_ n1_ n2_ n3_
      refine start_ (n := 39) (S := fun w' => w'.cell? ⟨gb273, 0, none⟩ = some (.slice Ao136 t268.length co136) ∧ w'.cell? ⟨gb273, 1, none⟩ = some (.int .i64 (wrap64 (a0_1 + a2)))) (ds := []) mk0_ (by kernel_rfl) rfl rfl ⟨(blk_cell BK273.out 0).trans rfl, (blk_cell BK273.out 1).trans rfl⟩ (fun hHeld => ?_); refine with_tabW counterfoillaw11_LineGoes.tab7 counterfoillaw11_LineGoes.bits7 (fun HT_ HW_ => ?_)
      generalize w140.drew = w141 at HO271 BK265 BK273 HB hHeld ⊢
      refine take_ (i:=0) (N:=some 56) (v:=?_) (a':=?_) mk1_ rfl rfl (take_ofW HT_.out HW_.out (by kernel_rfl)) (fun _ _ _ h => h) (Or.inl ⟨by rfl, ?_⟩) hHeld ?_ ?_
      rotate_left
      ·rintro w' ⟨s0, s1⟩
       go_simp
       with_reducible rfl
      rotate_left
      ·simp only [Act.put, z1_, z2_, z3_, i64_w, i32_w]
       rfl
      refine one_ (i:=1) (N:=some 57) mk2_ rfl rfl (one_of HT_.out (by kernel_rfl)) (by decide) (fun K hK => ?_)
      refine goes_ Try.func23 (by kernel_rfl) rfl #[.agg #[.slice Ao136 t268.length co136, .int .i64 (wrap64 (a0_1 + a2))]] (by rfl) rfl rfl (by (try simp only [List.map_toArray, List.map_cons, List.map_nil]); first | done | rfl | (simp only [List.length_drop, List.length_take]; rfl)) ?_
      with_reducible refine (line_Placed.calls kj3 _ _ t268 (wrap64 (a0_1 + a2)) false _ ?side1 ?side2 A26.out).mono ?_
      (case side1 => repeat (first | exact (Kd.R_reads' HO271.out).2.2 | (with_reducible refine Kd.C_alloc ?_ _) | (with_reducible refine Kd.C_drewN ?_ _) | (with_reducible refine Kd.C_drew ?_)))
      (case side2 => exact (Kd.R_reads' HO271.out).2.1)
      rintro e w142 ⟨rfl, hb⟩
      refine ⟨_, rfl, ?_⟩
      have n0_ := A0_ (Kd.R_below (by (with_reducible repeat (first | apply Kd.R_alloc | apply Kd.R_drewN | apply Kd.R_drew)); exact HO271.out) hb)
      have n1_ := A0_ (blk_below (g:=gb265) (o:=.cells #[.slice A0_0 l0_0.length c0_0, .int .i64 a0_1] 39 (0, 0)) (by (with_reducible repeat (first | refine blk_drewN ?_ _ | refine blk_drew ?_ | refine blk_alloc ?_ _)); exact BK265.out) hb)
      have n2_ := A0_ (blk_below (g:=gb273) (o:=.cells #[.slice Ao136 t268.length co136, .int .i64 (wrap64 (a0_1 + a2))] 39 (0, 0)) (by (with_reducible repeat (first | refine blk_drewN ?_ _ | refine blk_drew ?_ | refine blk_alloc ?_ _)); exact BK273.out) hb)
      have n3_ := A0_ (below_step (by repeat (first | (with_reducible first | exact HB.out | apply below_alloc | apply pw_below_drewN | apply below_drew1 | refine below_set ?_ GE265.out | refine below_set ?_ GE273.out) | exact HB.out)) hb)
      clear HO271
      clear BK265
      clear BK273
      clear HB
      have HO271 := n0_
      have BK265 := n1_
      have BK273 := n2_
      have HB := n3_
      clear n0_ n1_ n2_ n3_
      (try clear hb)
      (try clear hb2)
      (try clear hk)
      (try clear hi)
      refine hK.out _ _ ⟨(blk_cell BK273.out 0).trans rfl, (blk_cell BK273.out 1).trans rfl⟩ (fun hHeld => ?_)
      clear hK K
      refine norm_ (a' := ?_) ?_ ?_
      rotate_left
      ·show Act.put _ (some 57) _ = _
       simp only [Act.put, z1_, z2_, z3_, i64_w, i32_w]
       rfl
      refine pure_ (i:=2) (N:=some 58) (v:=?_) (a':=?_) mk3_ rfl rfl (any_of HT_.out (by kernel_rfl)) (fun _ _ _ h => h) (Or.inl ⟨by rfl, ?_⟩) ?_ ?_
      rotate_left
      ·intro w'
       go_simp
       with_reducible rfl
      rotate_left
      ·simp only [Act.put, z1_, z2_, z3_, i64_w, i32_w]
       rfl
      refine pure_ (i:=3) (N:=some 59) (v := undef) (a' := ?_) mk4_ rfl rfl (any_of HT_.out (by kernel_rfl)) (fun _ _ _ h => h) (Or.inr ⟨by rfl, rfl⟩) ?_ ?_
      rotate_left
      ·simp only [Act.put, z1_, z2_, z3_, i64_w, i32_w]
       rfl
      refine pure_ (i:=4) (N:=some 60) (v := undef) (a' := ?_) mk5_ rfl rfl (any_of HT_.out (by kernel_rfl)) (fun _ _ _ h => h) (Or.inr ⟨by rfl, rfl⟩) ?_ ?_
      rotate_left
      ·simp only [Act.put, z1_, z2_, z3_, i64_w, i32_w]
       rfl
      refine pure_ (i:=5) (N:=some 61) (v := undef) (a' := ?_) mk6_ rfl rfl (any_of HT_.out (by kernel_rfl)) (fun _ _ _ h => h) (Or.inr ⟨by rfl, rfl⟩) ?_ ?_
      rotate_left
      ·simp only [Act.put, z1_, z2_, z3_, i64_w, i32_w]
       rfl
      refine pure_ (i:=6) (N:=some 62) (v:=?_) (a':=?_) mk7_ rfl rfl (any_of HT_.out (by kernel_rfl)) (fun _ _ _ h => h) (Or.inl ⟨by rfl, ?_⟩) ?_ ?_
      rotate_left
      ·intro w'
       go_simp
       with_reducible rfl
      rotate_left
      ·simp only [Act.put, z1_, z2_, z3_, i64_w, i32_w]
       rfl
      refine pure_ (i:=7) (N:=some 63) (v:=?_) (a':=?_) mk8_ rfl rfl (any_of HT_.out (by kernel_rfl)) (fun _ _ _ h => h) (Or.inl ⟨by rfl, ?_⟩) ?_ ?_
      rotate_left
      ·intro w'
       go_simp
       with_reducible rfl
      rotate_left
      ·simp only [Act.put, z1_, z2_, z3_, i64_w, i32_w]
       rfl
      refine pure_ (i:=8) (N:=some 64) (v := undef) (a' := ?_) mk47_ rfl rfl (any_of HT_.out (by kernel_rfl)) (fun _ _ _ h => h) (Or.inr ⟨by rfl, rfl⟩) ?_ ?_
      rotate_left
      ·simp only [Act.put, z1_, z2_, z3_, i64_w, i32_w]
       rfl
      refine pure_ (i:=9) (N:=some 65) (v := undef) (a' := ?_) mk48_ rfl rfl (any_of HT_.out (by kernel_rfl)) (fun _ _ _ h => h) (Or.inr ⟨by rfl, rfl⟩) ?_ ?_
      rotate_left
      ·simp only [Act.put, z1_, z2_, z3_, i64_w, i32_w]
       rfl
      refine pure_ (i:=10) (N:=some 66) (v := undef) (a' := ?_) mk49_ rfl rfl (any_of HT_.out (by kernel_rfl)) (fun _ _ _ h => h) (Or.inr ⟨by rfl, rfl⟩) ?_ ?_
      rotate_left
      ·simp only [Act.put, z1_, z2_, z3_, i64_w, i32_w]
       rfl
      refine pure_ (i:=11) (N:=some 67) (v := undef) (a' := ?_) mk50_ rfl rfl (any_of HT_.out (by kernel_rfl)) (fun _ _ _ h => h) (Or.inr ⟨by rfl, rfl⟩) ?_ ?_
      rotate_left
      ·simp only [Act.put, z1_, z2_, z3_, i64_w, i32_w]
       rfl
      refine pure_ (i:=12) (N:=some 68) (v := undef) (a' := ?_) mk13_ rfl rfl (any_of HT_.out (by kernel_rfl)) (fun _ _ _ h => h) (Or.inr ⟨by rfl, rfl⟩) ?_ ?_
      rotate_left
      ·simp only [Act.put, z1_, z2_, z3_, i64_w, i32_w]
       rfl
      refine pure_ (i:=13) (N:=some 69) (v := undef) (a' := ?_) mk14_ rfl rfl (any_of HT_.out (by kernel_rfl)) (fun _ _ _ h => h) (Or.inr ⟨by rfl, rfl⟩) ?_ ?_
      rotate_left
      ·simp only [Act.put, z1_, z2_, z3_, i64_w, i32_w]
       rfl
      refine pure_ (i:=14) (N:=some 70) (v:=?_) (a':=?_) mk15_ rfl rfl (any_of HT_.out (by kernel_rfl)) (fun _ _ _ h => h) (Or.inl ⟨by rfl, ?_⟩) ?_ ?_
      rotate_left
      ·intro w'
       go_simp
       with_reducible rfl
      rotate_left
      ·simp only [Act.put, z1_, z2_, z3_, i64_w, i32_w]
       rfl
      refine pure_ (i:=15) (N:=some 71) (v:=?_) (a':=?_) mk16_ rfl rfl (any_of HT_.out (by kernel_rfl)) (fun _ _ _ h => h) (Or.inl ⟨by rfl, ?_⟩) ?_ ?_
      rotate_left
      ·intro w'
       go_simp
       with_reducible rfl
      rotate_left
      ·simp only [Act.put, z1_, z2_, z3_, i64_w, i32_w]
       rfl
      refine pure_ (i:=16) (N:=some 72) (v := undef) (a' := ?_) mk17_ rfl rfl (any_of HT_.out (by kernel_rfl)) (fun _ _ _ h => h) (Or.inr ⟨by rfl, rfl⟩) ?_ ?_
      rotate_left
      ·simp only [Act.put, z1_, z2_, z3_, i64_w, i32_w]
       rfl
      refine pure_ (i:=17) (N:=some 73) (v := undef) (a' := ?_) mk18_ rfl rfl (any_of HT_.out (by kernel_rfl)) (fun _ _ _ h => h) (Or.inr ⟨by rfl, rfl⟩) ?_ ?_
      rotate_left
      ·simp only [Act.put, z1_, z2_, z3_, i64_w, i32_w]
       rfl
      refine pure_ (i:=18) (N:=some 74) (v := undef) (a' := ?_) mk19_ rfl rfl (any_of HT_.out (by kernel_rfl)) (fun _ _ _ h => h) (Or.inr ⟨by rfl, rfl⟩) ?_ ?_
      rotate_left
      ·simp only [Act.put, z1_, z2_, z3_, i64_w, i32_w]
       rfl
      refine pure_ (i:=19) (N:=some 75) (v := undef) (a' := ?_) mk20_ rfl rfl (any_of HT_.out (by kernel_rfl)) (fun _ _ _ h => h) (Or.inr ⟨by rfl, rfl⟩) ?_ ?_
      rotate_left
      ·simp only [Act.put, z1_, z2_, z3_, i64_w, i32_w]
       rfl
      refine pure_ (i:=20) (N:=some 76) (v := undef) (a' := ?_) mk21_ rfl rfl (any_of HT_.out (by kernel_rfl)) (fun _ _ _ h => h) (Or.inr ⟨by rfl, rfl⟩) ?_ ?_
      rotate_left
      ·simp only [Act.put, z1_, z2_, z3_, i64_w, i32_w]
       rfl
      refine pure_ (i:=21) (N:=some 77) (v := undef) (a' := ?_) mk22_ rfl rfl (any_of HT_.out (by kernel_rfl)) (fun _ _ _ h => h) (Or.inr ⟨by rfl, rfl⟩) ?_ ?_
      rotate_left
      ·simp only [Act.put, z1_, z2_, z3_, i64_w, i32_w]
       rfl
      refine pure_ (i:=22) (N:=some 78) (v := undef) (a' := ?_) mk23_ rfl rfl (any_of HT_.out (by kernel_rfl)) (fun _ _ _ h => h) (Or.inr ⟨by rfl, rfl⟩) ?_ ?_
      rotate_left
      ·simp only [Act.put, z1_, z2_, z3_, i64_w, i32_w]
       rfl
      refine pure_ (i:=23) (N:=some 79) (v := undef) (a' := ?_) mk24_ rfl rfl (any_of HT_.out (by kernel_rfl)) (fun _ _ _ h => h) (Or.inr ⟨by rfl, rfl⟩) ?_ ?_
      rotate_left
      ·simp only [Act.put, z1_, z2_, z3_, i64_w, i32_w]
       rfl
      refine pure_ (i:=24) (N:=some 80) (v := undef) (a' := ?_) mk25_ rfl rfl (any_of HT_.out (by kernel_rfl)) (fun _ _ _ h => h) (Or.inr ⟨by rfl, rfl⟩) ?_ ?_
      rotate_left
      ·simp only [Act.put, z1_, z2_, z3_, i64_w, i32_w]
       rfl
      refine pure_ (i:=25) (N:=some 81) (v := undef) (a' := ?_) mk26_ rfl rfl (any_of HT_.out (by kernel_rfl)) (fun _ _ _ h => h) (Or.inr ⟨by rfl, rfl⟩) ?_ ?_
      rotate_left
      ·simp only [Act.put, z1_, z2_, z3_, i64_w, i32_w]
       rfl
      refine pure_ (i:=26) (N:=some 82) (v := undef) (a' := ?_) mk27_ rfl rfl (any_of HT_.out (by kernel_rfl)) (fun _ _ _ h => h) (Or.inr ⟨by rfl, rfl⟩) ?_ ?_
      rotate_left
      ·simp only [Act.put, z1_, z2_, z3_, i64_w, i32_w]
       rfl
      refine pure_ (i:=27) (N:=some 83) (v := undef) (a' := ?_) mk28_ rfl rfl (any_of HT_.out (by kernel_rfl)) (fun _ _ _ h => h) (Or.inr ⟨by rfl, rfl⟩) ?_ ?_
      rotate_left
      ·simp only [Act.put, z1_, z2_, z3_, i64_w, i32_w]
       rfl
      refine pure_ (i:=28) (N:=some 84) (v:=?_) (a':=?_) mk29_ rfl rfl (any_of HT_.out (by kernel_rfl)) (fun _ _ _ h => h) (Or.inl ⟨by rfl, ?_⟩) ?_ ?_
      rotate_left
      ·intro w'
       go_simp
       with_reducible rfl
      rotate_left
      ·simp only [Act.put, z1_, z2_, z3_, i64_w, i32_w]
       rfl
      refine pure_ (i:=29) (N:=some 85) (v:=?_) (a':=?_) mk30_ rfl rfl (any_of HT_.out (by kernel_rfl)) (fun _ _ _ h => h) (Or.inl ⟨by rfl, ?_⟩) ?_ ?_
      rotate_left
      ·intro w'
       go_simp
       with_reducible rfl
      rotate_left
      ·simp only [Act.put, z1_, z2_, z3_, i64_w, i32_w]
       rfl
      refine pure_ (i:=30) (N:=some 86) (v := undef) (a' := ?_) mk31_ rfl rfl (any_of HT_.out (by kernel_rfl)) (fun _ _ _ h => h) (Or.inr ⟨by rfl, rfl⟩) ?_ ?_
      rotate_left
      ·simp only [Act.put, z1_, z2_, z3_, i64_w, i32_w]
       rfl
      refine pure_ (i:=31) (N:=some 87) (v := undef) (a' := ?_) mk46_ rfl rfl (any_of HT_.out (by kernel_rfl)) (fun _ _ _ h => h) (Or.inr ⟨by rfl, rfl⟩) ?_ ?_
      rotate_left
      ·simp only [Act.put, z1_, z2_, z3_, i64_w, i32_w]
       rfl
      refine pure_ (i:=32) (N:=some 88) (v := undef) (a' := ?_) mk33_ rfl rfl (any_of HT_.out (by kernel_rfl)) (fun _ _ _ h => h) (Or.inr ⟨by rfl, rfl⟩) ?_ ?_
      rotate_left
      ·simp only [Act.put, z1_, z2_, z3_, i64_w, i32_w]
       rfl
      refine pure_ (i:=33) (N:=some 89) (v := undef) (a' := ?_) mk34_ rfl rfl (any_of HT_.out (by kernel_rfl)) (fun _ _ _ h => h) (Or.inr ⟨by rfl, rfl⟩) ?_ ?_
      rotate_left
      ·simp only [Act.put, z1_, z2_, z3_, i64_w, i32_w]
       rfl
      refine pure_ (i:=34) (N:=some 90) (v:=?_) (a':=?_) mk35_ rfl rfl (any_of HT_.out (by kernel_rfl)) (fun _ _ _ h => h) (Or.inl ⟨by rfl, ?_⟩) ?_ ?_
      rotate_left
      ·intro w'
       go_simp
       with_reducible rfl
      rotate_left
      ·simp only [Act.put, z1_, z2_, z3_, i64_w, i32_w]
       rfl
      refine pure_ (i:=35) (N:=some 91) (v:=?_) (a':=?_) mk36_ rfl rfl (any_of HT_.out (by kernel_rfl)) (fun _ _ _ h => h) (Or.inl ⟨by rfl, ?_⟩) ?_ ?_
      rotate_left
      ·intro w'
       go_simp
       with_reducible rfl
      rotate_left
      ·simp only [Act.put, z1_, z2_, z3_, i64_w, i32_w]
       rfl
      refine pure_ (i:=36) (N:=some 92) (v := undef) (a' := ?_) mk37_ rfl rfl (any_of HT_.out (by kernel_rfl)) (fun _ _ _ h => h) (Or.inr ⟨by rfl, rfl⟩) ?_ ?_
      rotate_left
      ·simp only [Act.put, z1_, z2_, z3_, i64_w, i32_w]
       rfl
      refine pure_ (i:=37) (N:=some 93) (v:=?_) (a':=?_) mk38_ rfl rfl (any_of HT_.out (by kernel_rfl)) (fun _ _ _ h => h) (Or.inl ⟨by rfl, ?_⟩) ?_ ?_
      rotate_left
      ·intro w'
       go_simp
       with_reducible rfl
      rotate_left
      ·simp only [Act.put, z1_, z2_, z3_, i64_w, i32_w]
       rfl
      refine pure_ (i:=38) (N:=some 6) (v:=?_) (a':=?_) mk39_ rfl rfl (any_of HT_.out (by kernel_rfl)) (fun _ _ _ h => h) (Or.inl ⟨by rfl, ?_⟩) ?_ ?_
      rotate_left
      ·intro w'
       go_simp
       with_reducible rfl
      rotate_left
      ·simp only [Act.put, z1_, z2_, z3_, i64_w, i32_w]
       rfl
      refine done_ (done_of HT_.out (by kernel_rfl)) ?_
      try go_wp2
      go_ret
      exact ⟨by first | rfl | (simp [errW_none, errW_some] <;> rfl) | (simp [*, errW_none, errW_some] <;> rfl), by repeat (first | (with_reducible first | exact HB.out | apply below_alloc | apply pw_below_drewN | apply below_drew1 | refine below_set ?_ GE265.out | refine below_set ?_ GE273.out) | exact HB.out)⟩
    ·rw [if_neg c25] at H
     have c25b0 : (t269 == 0) = false := beq_eq_false_iff_ne.mpr c25
     have c25b1 : (t269 != 0) = true := bne_iff_ne.mpr c25
     by_cases c143 : (t268.length : Int) = 0
     ·rw [if_pos c143] at H
      have c143b0 : ((t268.length : Int) == 0) = true := beq_iff_eq.mpr c143
      have c143b1 : ((t268.length : Int) != 0) = false := bne_eq_false_iff_eq.mpr c143
      clear c143
      replace H := Option.bind_eq_some_iff.mp H
      obtain ⟨t272, A1440, H⟩ := H
      replace H : (some t272) = some r := H
      have A144 := A0_ A1440
      clear A1440
      obtain rfl := Option.some.inj H
      have hcz145_0 : wc.cell? ⟨gb265, 0, none⟩ = some (.slice A0_0 l0_0.length c0_0) := (blk_cell BK265.out 0).trans rfl
      have hcz145_1 : wc.cell? ⟨gb265, 1, none⟩ = some (.int .i64 a0_1) := (blk_cell BK265.out 1).trans rfl
      have hfz145_0 := blk_frozen BK265.out 0
      have hfz145_1 := blk_frozen BK265.out 1
      go_wp2_with (first | ((with_reducible refine gate_callee (f := 35) rfl ?_); refine goesL_ (some 39) rfl rfl Try.func35 (by kernel_rfl) rfl #[.slice A0_0 l0_0.length c0_0, .int .i64 a1, .int .i64 a0_1] rfl (by (try simp only [List.map_toArray, List.map_cons, List.map_nil]); first | done | rfl | (simp only [List.length_drop, List.length_take]; rfl)) ?_; (with_reducible refine (line_Grow.calls kj3 _ _ l0_0 a1 a0_1 t268 t269 _ ?side1 ?side2 A24.out).mono ?_); (case side1 => repeat (first | exact (Kd.C_below HR0_0.out HB.out) | (with_reducible refine Kd.C_alloc ?_ _) | (with_reducible refine Kd.C_drewN ?_ _) | (with_reducible refine Kd.C_drew ?_))); (case side2 => exact HC0_0.out); rintro e w146 ⟨v270, rfl, ho0, hb⟩; refine ⟨_, rfl, ?_⟩; have n0_ := A0_ (Kd.R_lower ho0 (below_size (by repeat (first | (with_reducible first | exact HB.out | apply below_alloc | apply pw_below_drewN | apply below_drew1 | refine below_set ?_ GE265.out) | exact HB.out)))); have n1_ := A0_ (blk_below (g:=gb265) (o:=.cells #[.slice A0_0 l0_0.length c0_0, .int .i64 a0_1] 39 (0, 0)) (by (with_reducible repeat (first | refine blk_drewN ?_ _ | refine blk_drew ?_ | refine blk_alloc ?_ _)); exact BK265.out) hb); have n2_ := A0_ (below_step (by repeat (first | (with_reducible first | exact HB.out | apply below_alloc | apply pw_below_drewN | apply below_drew1 | refine below_set ?_ GE265.out) | exact HB.out)) hb); clear BK265; clear HB; have HO271 := n0_; have BK265 := n1_; have HB := n2_; clear n0_ n1_ n2_; (try clear hb); (try clear hb2); (try clear hk); (try clear hi); (try clear ho0); obtain ⟨Ao147, co147, eo147⟩ := Kd.R_slice HO271.out; subst eo147) | (go_at_call 22; (with_reducible refine (counterfoillaw11_awake.calls kj3  t272 _ A144.out).mono ?_); rintro e w148 ⟨rfl, hb⟩; have n0_ := A0_ (Kd.R_below (by (with_reducible repeat (first | apply Kd.R_alloc | apply Kd.R_drewN | apply Kd.R_drew)); exact HO271.out) hb); have n1_ := A0_ (blk_below (g:=gb265) (o:=.cells #[.slice A0_0 l0_0.length c0_0, .int .i64 a0_1] 39 (0, 0)) (by (with_reducible repeat (first | refine blk_drewN ?_ _ | refine blk_drew ?_ | refine blk_alloc ?_ _)); exact BK265.out) hb); have n2_ := A0_ (below_step (by repeat (first | (with_reducible first | exact HB.out | apply below_alloc | apply pw_below_drewN | apply below_drew1 | refine below_set ?_ GE265.out) | exact HB.out)) hb); clear HO271; clear BK265; clear HB; have HO271 := n0_; have BK265 := n1_; have HB := n2_; clear n0_ n1_ n2_; (try clear hb); (try clear hb2); (try clear hk); (try clear hi)))
      go_ret
      exact ⟨by first | rfl | (simp [errW_none, errW_some] <;> rfl) | (simp [*, errW_none, errW_some] <;> rfl), by repeat (first | (with_reducible first | exact HB.out | apply below_alloc | apply pw_below_drewN | apply below_drew1 | refine below_set ?_ GE265.out) | exact HB.out)⟩
     ·rw [if_neg c143] at H
      have c143b0 : ((t268.length : Int) == 0) = false := beq_eq_false_iff_ne.mpr c143
      have c143b1 : ((t268.length : Int) != 0) = true := bne_iff_ne.mpr c143
      have c143b2 : ¬ (t268 = []) := fun h_ => c143 (by rw [h_]; rfl)
      obtain rfl := Option.some.inj H
      have hcz149_0 : wc.cell? ⟨gb265, 0, none⟩ = some (.slice A0_0 l0_0.length c0_0) := (blk_cell BK265.out 0).trans rfl
      have hcz149_1 : wc.cell? ⟨gb265, 1, none⟩ = some (.int .i64 a0_1) := (blk_cell BK265.out 1).trans rfl
      have hfz149_0 := blk_frozen BK265.out 0
      have hfz149_1 := blk_frozen BK265.out 1
      go_wp2_with (first | ((with_reducible refine gate_callee (f := 35) rfl ?_); refine goesL_ (some 39) rfl rfl Try.func35 (by kernel_rfl) rfl #[.slice A0_0 l0_0.length c0_0, .int .i64 a1, .int .i64 a0_1] rfl (by (try simp only [List.map_toArray, List.map_cons, List.map_nil]); first | done | rfl | (simp only [List.length_drop, List.length_take]; rfl)) ?_; (with_reducible refine (line_Grow.calls kj3 _ _ l0_0 a1 a0_1 t268 t269 _ ?side1 ?side2 A24.out).mono ?_); (case side1 => repeat (first | exact (Kd.C_below HR0_0.out HB.out) | (with_reducible refine Kd.C_alloc ?_ _) | (with_reducible refine Kd.C_drewN ?_ _) | (with_reducible refine Kd.C_drew ?_))); (case side2 => exact HC0_0.out); rintro e w150 ⟨v270, rfl, ho0, hb⟩; refine ⟨_, rfl, ?_⟩; have n0_ := A0_ (Kd.R_lower ho0 (below_size (by repeat (first | (with_reducible first | exact HB.out | apply below_alloc | apply pw_below_drewN | apply below_drew1 | refine below_set ?_ GE265.out) | exact HB.out)))); have n1_ := A0_ (blk_below (g:=gb265) (o:=.cells #[.slice A0_0 l0_0.length c0_0, .int .i64 a0_1] 39 (0, 0)) (by (with_reducible repeat (first | refine blk_drewN ?_ _ | refine blk_drew ?_ | refine blk_alloc ?_ _)); exact BK265.out) hb); have n2_ := A0_ (below_step (by repeat (first | (with_reducible first | exact HB.out | apply below_alloc | apply pw_below_drewN | apply below_drew1 | refine below_set ?_ GE265.out) | exact HB.out)) hb); clear BK265; clear HB; have HO271 := n0_; have BK265 := n1_; have HB := n2_; clear n0_ n1_ n2_; (try clear hb); (try clear hb2); (try clear hk); (try clear hi); (try clear ho0); obtain ⟨Ao151, co151, eo151⟩ := Kd.R_slice HO271.out; subst eo151))
      go_ret
      exact ⟨by first | rfl | (simp [errW_none, errW_some] <;> rfl) | (simp [*, errW_none, errW_some] <;> rfl), by repeat (first | (with_reducible first | exact HB.out | apply below_alloc | apply pw_below_drewN | apply below_drew1 | refine below_set ?_ GE265.out) | exact HB.out)⟩

/-- THE ONE PURE STATEMENT of counterfoillaw11_LineGoes. -/
def counterfoillaw11_LineGoes.Pure : Prop := ∀ (l0_0 : List (S61)) (a0_1 : Int) (a1 : Int) (a2 : Int), (l0_0.length * 16 ≤ 140737488351232 ∧ l0_0.length ≤ maxLen ∧ ∀ x ∈ l0_0, good61 x) → (Lit.int .i64 a0_1).wf = true → (Lit.int .i64 a1).wf = true → (Lit.int .i64 a2).wf = true → ∃ k, counterfoillaw11_LineGoes.f k l0_0 a0_1 a1 a2 = some true

end Go.Proofs.Ytlkfmmjoiadoiaa.P
