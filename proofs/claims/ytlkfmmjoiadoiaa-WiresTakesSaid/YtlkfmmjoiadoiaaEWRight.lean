/- The contract of wires.Right: slices.ContainsFunc with a function literal that takes a packet. -/
import Derived.Shelf.Abstract
import Derived.WalkKit
import Derived.TacticsInMore
import Derived.LoopNIn
import Derived.Test.YtlkfmmjoiadoiaaPx0
import Derived.Test.YtlkfmmjoiadoiaaPx35
namespace Go.Proofs.Ytlkfmmjoiadoiaa.P
open Go.RowKit Go.Proofs.YtlkfmmjoiadoiaaW.PrintWords Go.Proofs.YtlkfmmjoiadoiaaW.PrintLast
attribute [local go_sem] Oper.semAt_some
set_option linter.unusedVariables false

def siteB (a : Int) : Bool := if a = 0 then true else (a == 1)
theorem site_f (a : Int) : wires_site.f a = some (siteB a) := by unfold wires_site.f siteB; split <;> rfl
/-- Is this packet wrong? -/
def bad24 (x : S24) : Bool := !(siteB x.f0) || decide (4103 < (x.f1.size : Int))
def wires_Right.f (l : List S24) : Option Bool := some (decide ((l.length : Int) ≤ 256) && !(l.any bad24))

set_option maxRecDepth 100000 in
set_option maxHeartbeats 2000000 in
theorem right1_calls (x : S24) (w : World) : Calls Try.prog 45 #[.agg #[.int .i64 x.f0, .string x.f1]] w fun e w' => e = .returned (.bool (bad24 x)) ∧ Below w.heap.size w w' := by
  have hs := site_f x.f0
  unfold bad24
  have hu24 := Try.underlying24
  generalize siteB x.f0 = t at hs
  cases t with
  | false =>
    go_enter Try.func45, Try.ntmps45
    go_wp2_with (go_at_call 42; refine (wires_site.calls _ _ _ hs).mono ?_; rintro e w2 ⟨rfl, ⟨m, rfl⟩⟩)
    go_ret
    exact ⟨by simp, by apply pw_below_drewN; exact (Below.refl _ w).alloc (Nat.le_refl _) _⟩
  | true =>
    go_enter Try.func45, Try.ntmps45
    go_wp2_with (go_at_call 42; refine (wires_site.calls _ _ _ hs).mono ?_; rintro e w2 ⟨rfl, ⟨m, rfl⟩⟩)
    go_ret
    exact ⟨by simp, by apply pw_below_drewN; exact (Below.refl _ w).alloc (Nat.le_refl _) _⟩

theorem rd_get (l : List S24) (kk : Nat) (h : kk < l.length) : rd_T24 l (kk : Int) = l[kk] := by
  unfold rd_T24; rw [Int.toNat_natCast, List.getD_eq_getElem?_getD, List.getElem?_eq_getElem h, Option.getD_some]

set_option maxRecDepth 100000 in
set_option maxHeartbeats 2000000 in
theorem index24 (A : Option Addr) (c : Nat) (l : List S24) (w : World) (hr : Kd.C k24 w A l.length l) (hc : l.length ≤ c) :
    Calls Try.prog 52 #[.slice A l.length c, .func (.func 45) #[] #[]] w fun e w' => (∃ r : Int, e = .returned (.int .i64 r) ∧ decide (0 ≤ r) = l.any bad24) ∧ Below w.heap.size w w' := by
  have hu24 := Try.underlying24
  have hmx := hr.2.1
  have HR := Aside0.mk hr
  clear hr
  go_enter Try.func52, Try.ntmps52
  go_wp2
  go_loopg [5, 8] l.length (fun gg _ s8 wr => ∃ kk : Nat, kk ≤ l.length ∧ l.length - kk ≤ gg ∧ s8 = .int .i64 kk ∧ Aside0 (Below w.heap.size w wr) ∧ Aside0 (∀ j, (h : j < l.length) → j < kk → bad24 l[j] = false))
  case atStart => exact ⟨0, Nat.zero_le _, by omega, rfl, ⟨Below.refl _ w⟩, ⟨fun j _ hj => absurd hj (Nat.not_lt_zero _)⟩⟩
  case round =>
    obtain ⟨kk, hkk, hg, rfl, BW, AA⟩ := hrel
    by_cases hlt : kk < l.length
    · have hltz : (kk : Int) < (l.length : Int) := by omega
      obtain ⟨ad, rfl, c0, c1⟩ := at_T24 (Kd.C_below HR.out BW.out) (kk : Int) (by omega) (by omega)
      rw [Int.toNat_natCast] at c0 c1
      have hcall := right1_calls (rd_T24 l (kk : Int)) wr
      have EY := Aside0.mk (rd_get l kk hlt)
      generalize rd_T24 l (kk : Int) = y at c0 c1 hcall EY
      cases hq : bad24 y with
      | true =>
        rw [hq] at hcall
        go_wp2_with (go_at_call 45; refine hcall.mono ?_; rintro e w' ⟨rfl, hb'⟩)
        go_ret
        refine ⟨⟨_, rfl, ?_⟩, BW.out.trans (hb'.mono BW.out.size)⟩
        rw [decide_eq_true (by omega), eq_comm, List.any_eq_true]
        exact ⟨l[kk], List.getElem_mem hlt, by rw [← EY.out]; exact hq⟩
      | false =>
        rw [hq] at hcall
        go_wp2_with (go_at_call 45; refine hcall.mono ?_; rintro e w' ⟨rfl, hb'⟩)
        go_roundg (l.length - (kk + 1))
        case measure => omega
        case rel =>
          refine ⟨kk + 1, by omega, by omega, by go_num, ⟨BW.out.trans (hb'.mono BW.out.size)⟩, ⟨fun j hj1 hj => ?_⟩⟩
          by_cases e : j = kk
          · subst e
            rw [← EY.out]; exact hq
          · exact AA.out j hj1 (by omega)
    · have hltz : ¬ (kk : Int) < (l.length : Int) := by omega
      go_wp2
      go_ret
      refine ⟨⟨_, rfl, ?_⟩, BW.out⟩
      rw [decide_eq_false (by omega), eq_comm, List.any_eq_false]
      intro x hx
      obtain ⟨j, hj, rfl⟩ := List.getElem_of_mem hx
      rw [AA.out j hj (by omega)]
      simp

set_option maxRecDepth 100000 in
set_option maxHeartbeats 2000000 in
theorem contains24 (A : Option Addr) (c : Nat) (l : List S24) (w : World) (hr : Kd.C k24 w A l.length l) (hc : l.length ≤ c) :
    Calls Try.prog 44 #[.slice A l.length c, .func (.func 45) #[] #[]] w fun e w' => e = .returned (.bool (l.any bad24)) ∧ Below w.heap.size w w' := by
  have hi := index24 A c l w hr hc
  clear hr
  go_enter Try.func44, Try.ntmps44
  go_wp2_with (go_at_call 52; refine hi.mono ?_; rintro e w' ⟨⟨r, rfl, hr⟩, hb'⟩)
  go_ret
  exact ⟨by rw [← hr]; rfl, hb'⟩

set_option maxRecDepth 100000 in
set_option maxHeartbeats 2000000 in
theorem wires_Right.calls (A0 : Option Addr) (c0 : Nat) (l0 : List S24) (r : Bool) (w : World) (hr0 : Kd.C k24 w A0 l0.length l0) (hc0 : l0.length ≤ c0) (h : wires_Right.f l0 = some r) :
    Calls Try.prog 19 #[.slice A0 l0.length c0] w fun e w' => e = .returned (.bool r) ∧ Below w.heap.size w w' := by
  obtain rfl := Option.some.inj h
  clear h
  have hi := contains24 A0 c0 l0 w hr0 hc0
  clear hr0
  by_cases hl : (l0.length : Int) ≤ 256
  · rw [decide_eq_true hl]
    go_enter Try.func19, Try.ntmps19
    go_wp2_with (go_at_call 44; refine hi.mono ?_; rintro e w' ⟨rfl, hb'⟩)
    go_ret
    exact ⟨by simp, hb'⟩
  · rw [decide_eq_false hl]
    go_enter Try.func19, Try.ntmps19
    go_wp2
    go_ret
    exact ⟨by simp, Below.refl _ _⟩
end Go.Proofs.Ytlkfmmjoiadoiaa.P
