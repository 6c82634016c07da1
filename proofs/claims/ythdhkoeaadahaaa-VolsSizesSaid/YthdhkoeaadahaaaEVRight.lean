/- The contract of vols.Right: a loop over volumes, slices.ContainsFunc with a function literal that takes a text. -/
import Derived.Shelf.Abstract
import Derived.WalkKit
import Derived.TacticsInMore
import Derived.LoopNIn
import Derived.Test.YthdhkoeaadahaaaPx0
import Derived.Test.YthdhkoeaadahaaaPx38
namespace Go.Proofs.Ythdhkoeaadahaaa.P
open Go.RowKit Go.Proofs.YthdhkoeaadahaaaW.PrintWords Go.Proofs.YthdhkoeaadahaaaW.PrintLast
attribute [local go_sem] Oper.semAt_some
set_option linter.unusedVariables false
set_option linter.unusedSimpArgs false

/-- Is a text too long? -/
def longS (s : ByteArray) : Bool := decide ((s.size : Int) > 8)
/-- May a volume have so many blocks? -/
def sizeB (n : Int) : Bool := if n ≥ 1 then decide (n ≤ 32) else false
theorem size_f (n : Int) : vols_size.f n = some (sizeB n) := by unfold vols_size.f sizeB; split <;> rfl
/-- Is a volume wrong behind this ID? -/
def badV (last : Int) (v : S49) : Bool := decide (v.f0 ≤ last) || decide (v.f0 > 255) || !(sizeB (v.f1.length : Int)) || v.f1.any longS
def rightFrom : Int → List S49 → Bool
  | _, [] => true
  | last, v :: r => !(badV last v) && rightFrom v.f0 r
def rightV (l : List S49) : Bool := rightFrom 0 l && decide ((l.length : Int) ≤ 4)
def vols_Right.f (l : List S49) : Option Bool := some (rightV l)

set_option maxRecDepth 100000 in
set_option maxHeartbeats 2000000 in
theorem right1_calls (x : ByteArray) (w : World) : Calls Try.prog 114 #[.string x] w fun e w' => e = .returned (.bool (longS x)) ∧ Below w.heap.size w w' := by
  unfold longS
  go_enter Try.func114, Try.ntmps114
  go_wp2
  go_ret
  exact ⟨rfl, Below.refl _ _⟩

def gets9 (l : List ByteArray) (i : Nat) : ByteArray := l.getD i ⟨#[]⟩
theorem gets9_at (l : List ByteArray) (i : Nat) (h : i < l.length) : gets9 l i = l[i] := by
  unfold gets9; rw [List.getD_eq_getElem?_getD, List.getElem?_eq_getElem h, Option.getD_some]
/-- A text of a row that is read. -/
theorem at9 {w : World} {A : Option Addr} {n : Nat} {l : List ByteArray} (h : Kd.C Kd.string w A n l) (i : Nat) (h1 : i < n) : ∃ ad, A = some ad ∧ w.cell? (ad.add i) = some (.string (gets9 l i)) := by
  obtain ⟨ad, c, e, _, hK, hc⟩ := Kd.C_get h (⟨#[]⟩ : ByteArray) (i : Int) (by omega) (by omega)
  have hK' : c = [.string (gets9 l i)] := hK
  subst hK'
  refine ⟨ad, e, ?_⟩
  have := hc 0 _ rfl
  rw [Int.toNat_natCast] at this
  have e1 : i * Kd.string.sz + 0 = i := by show i * 1 + 0 = i; omega
  rw [e1] at this
  exact this

set_option maxRecDepth 100000 in
set_option maxHeartbeats 2000000 in
theorem index9 (A : Option Addr) (c : Nat) (l : List ByteArray) (w : World) (hr : Kd.C Kd.string w A l.length l) (hc : l.length ≤ c) :
    Calls Try.prog 133 #[.slice A l.length c, .func (.func 114) #[] #[]] w fun e w' => (∃ r : Int, e = .returned (.int .i64 r) ∧ decide (0 ≤ r) = l.any longS) ∧ Below w.heap.size w w' := by
  have hmx := hr.2.1
  have HR := Aside0.mk hr
  clear hr
  go_enter Try.func133, Try.ntmps133
  go_wp2
  go_loopg [5, 8] l.length (fun gg _ s8 wr => ∃ kk : Nat, kk ≤ l.length ∧ l.length - kk ≤ gg ∧ s8 = .int .i64 kk ∧ Aside0 (Below w.heap.size w wr) ∧ Aside0 (∀ j, (h : j < l.length) → j < kk → longS l[j] = false))
  case atStart => exact ⟨0, by omega, by omega, rfl, ⟨Below.refl _ _⟩, ⟨fun j _ hj => absurd hj (by omega)⟩⟩
  case round =>
    obtain ⟨kk, hkk, hg, rfl, BW, AA⟩ := hrel
    by_cases hlt : kk < l.length
    · have hltz : (kk : Int) < (l.length : Int) := by omega
      have e0 : decide ((kk : Int) < (l.length : Int)) = true := decide_eq_true hltz
      obtain ⟨ad, rfl, c0⟩ := at9 (Kd.C_below HR.out BW.out) kk hlt
      have hcall := right1_calls (gets9 l kk) wr
      have EY := Aside0.mk (gets9_at l kk hlt)
      generalize gets9 l kk = y at c0 hcall EY
      cases hq : longS y with
      | true =>
        rw [hq] at hcall
        go_wp2_with (go_at_call 114; refine hcall.mono ?_; rintro e w' ⟨rfl, hb'⟩)
        go_ret
        refine ⟨⟨_, rfl, ?_⟩, BW.out.trans (hb'.mono BW.out.size)⟩
        rw [decide_eq_true (by omega), eq_comm, List.any_eq_true]
        exact ⟨l[kk], List.getElem_mem hlt, by rw [← EY.out]; exact hq⟩
      | false =>
        rw [hq] at hcall
        go_wp2_with (go_at_call 114; refine hcall.mono ?_; rintro e w' ⟨rfl, hb'⟩)
        go_roundg (l.length - (kk + 1))
        case measure => omega
        case rel =>
          refine ⟨kk + 1, by omega, by omega, by go_num, ⟨BW.out.trans (hb'.mono BW.out.size)⟩, ⟨fun j hj1 hj => ?_⟩⟩
          by_cases e : j = kk
          · subst e
            rw [← EY.out]; exact hq
          · exact AA.out j hj1 (by omega)
    · have hltz : ¬ (kk : Int) < (l.length : Int) := by omega
      go_wp2
      go_ret
      refine ⟨⟨_, rfl, ?_⟩, BW.out⟩
      rw [decide_eq_false (by omega), eq_comm, List.any_eq_false]
      intro x hx
      obtain ⟨j, hj, rfl⟩ := List.getElem_of_mem hx
      rw [AA.out j hj (by omega)]
      simp

set_option maxRecDepth 100000 in
set_option maxHeartbeats 2000000 in
theorem contains9 (A : Option Addr) (c : Nat) (l : List ByteArray) (w : World) (hr : Kd.C Kd.string w A l.length l) (hc : l.length ≤ c) :
    Calls Try.prog 113 #[.slice A l.length c, .func (.func 114) #[] #[]] w fun e w' => e = .returned (.bool (l.any longS)) ∧ Below w.heap.size w w' := by
  have hi := index9 A c l w hr hc
  clear hr
  go_enter Try.func113, Try.ntmps113
  go_wp2_with (go_at_call 133; refine hi.mono ?_; rintro e w' ⟨⟨r, rfl, hr⟩, hb'⟩)
  go_ret
  exact ⟨by rw [← hr]; rfl, hb'⟩

theorem rd49 (l : List S49) (kk : Nat) (h : kk < l.length) : rd_T49 l (kk : Int) = l[kk] := by
  unfold rd_T49; rw [Int.toNat_natCast, List.getD_eq_getElem?_getD, List.getElem?_eq_getElem h, Option.getD_some]
theorem drop49 (l : List S49) {i : Nat} (h : i < l.length) : l.drop i = rd_T49 l (i : Int) :: l.drop (i + 1) := by
  rw [List.drop_eq_getElem_cons h, rd49 l i h]

set_option maxRecDepth 100000 in
set_option maxHeartbeats 4000000 in
theorem vols_Right.calls (A0 : Option Addr) (c0 : Nat) (l0 : List S49) (r : Bool) (w : World) (hr0 : Kd.C k49 w A0 l0.length l0) (hc0 : l0.length ≤ c0) (h : vols_Right.f l0 = some r) :
    Calls Try.prog 66 #[.slice A0 l0.length c0] w fun e w' => e = .returned (.bool r) ∧ Below w.heap.size w w' := by
  obtain rfl := Option.some.inj h
  clear h
  have hu49 := Try.underlying49
  have hmx := hr0.2.1
  have HR := Aside0.mk hr0
  have HC := Aside0.mk hc0
  clear hr0 hc0
  go_enter Try.func66, Try.ntmps66
  go_wp2
  go_loopg [3, 8] l0.length (fun gg s3 s8 wr => ∃ (kk : Nat) (last : Int), kk ≤ l0.length ∧ l0.length - kk ≤ gg ∧ s3 = .int .i64 last ∧ s8 = .int .i64 kk ∧ Aside0 (Below w.heap.size w wr) ∧ Aside0 (rightFrom 0 l0 = rightFrom last (l0.drop kk)))
  case atStart => exact ⟨0, 0, by omega, by omega, rfl, rfl, ⟨Below.refl _ _⟩, ⟨rfl⟩⟩
  case round =>
    obtain ⟨kk, last, hkk, hg, rfl, rfl, BW, AA⟩ := hrel
    by_cases hlt : kk < l0.length
    · have e0 : decide ((kk : Int) < (l0.length : Int)) = true := decide_eq_true (by omega)
      obtain ⟨ad, A1, c1, rfl, d0, d1, hl1, hC1⟩ := at_T49 (Kd.C_below HR.out BW.out) (kk : Int) (by omega) (by omega)
      rw [Int.toNat_natCast] at d0 d1
      have hA := AA.out
      rw [drop49 l0 hlt] at hA
      have hA' := Aside0.mk hA
      clear hA
      generalize rd_T49 l0 (kk : Int) = y at d0 d1 hl1 hC1 hA'
      have hbelow := Aside0.mk (BW.out)
      have hsz : ∀ W : World, Calls Try.prog 98 #[.int .i64 (y.f1.length : Int)] W fun e w' => e = .returned (.bool (sizeB (y.f1.length : Int))) ∧ Drawn0 W w' := fun W => vols_size.calls _ _ W (size_f _)
      have wrong : badV last y = true → rightV l0 = false := fun hb => by
        unfold rightV
        rw [hA'.out, rightFrom, hb]
        rfl
      have HCT := Aside0.mk (fun (W : World) (hW : Below wr.heap.size wr W) => contains9 A1 c1 y.f1 W (Kd.C_below hC1 hW) hl1)
      clear hC1
      by_cases h1 : y.f0 ≤ last
      · have e1 : decide (y.f0 ≤ last) = true := decide_eq_true h1
        go_wp2
        go_ret
        refine ⟨by rw [wrong (by unfold badV; rw [e1]; rfl)]; rfl, ?_⟩
        exact below_alloc BW.out _
      have e1 : decide (y.f0 ≤ last) = false := decide_eq_false h1
      by_cases h2 : y.f0 > 255
      · have e2 : decide (y.f0 > 255) = true := decide_eq_true h2
        go_wp2
        go_ret
        refine ⟨by rw [wrong (by unfold badV; rw [e1, e2]; rfl)]; rfl, ?_⟩
        exact below_alloc BW.out _
      have e2 : decide (y.f0 > 255) = false := decide_eq_false h2
      cases hs : sizeB (y.f1.length : Int) with
      | false =>
        rw [hs] at hsz
        go_wp2_with (go_at_call 98; refine (hsz _).mono ?_; rintro e w2 ⟨rfl, ⟨m, rfl⟩⟩)
        go_ret
        refine ⟨by rw [wrong (by unfold badV; rw [e1, e2, hs]; rfl)]; rfl, ?_⟩
        exact pw_below_drewN (below_alloc BW.out _) _
      | true =>
        rw [hs] at hsz
        cases hct : y.f1.any longS with
        | true =>
          rw [hct] at HCT
          go_wp2_with (first | (go_at_call 98; refine (hsz _).mono ?_; rintro e w2 ⟨rfl, ⟨m, rfl⟩⟩) | (go_at_call 113; refine (HCT.out _ (pw_below_drewN (below_alloc (Below.refl _ _) _) _)).mono ?_; rintro e w3 ⟨rfl, hb3⟩; have HB3 := Aside0.mk ((pw_below_drewN (below_alloc BW.out (.cells #[Value.int IntKind.i64 y.f0, Value.slice A1 y.f1.length c1] 49)) m).trans (hb3.mono (by have := BW.out.size; simp; omega))); have f0 : w3.cell? ⟨wr.heap.size, 0, none⟩ = some (.int .i64 y.f0) := (hb3.cell (p := ⟨wr.heap.size, 0, none⟩) (by simp)).trans (by show ((wr.alloc _).cell? _) = _; simp); clear hb3))
          go_ret
          refine ⟨by rw [wrong (by unfold badV; rw [e1, e2, hs, hct]; rfl)]; rfl, ?_⟩
          exact HB3.out
        | false =>
          rw [hct] at HCT
          have fine : rightFrom 0 l0 = rightFrom y.f0 (l0.drop (kk + 1)) := by
            rw [hA'.out, rightFrom]
            unfold badV
            rw [e1, e2, hs, hct]
            rfl
          have HF := Aside0.mk fine
          clear fine
          go_wp2_with (first | (go_at_call 98; refine (hsz _).mono ?_; rintro e w2 ⟨rfl, ⟨m, rfl⟩⟩) | (go_at_call 113; refine (HCT.out _ (pw_below_drewN (below_alloc (Below.refl _ _) _) _)).mono ?_; rintro e w3 ⟨rfl, hb3⟩; have HB3 := Aside0.mk ((pw_below_drewN (below_alloc BW.out (.cells #[Value.int IntKind.i64 y.f0, Value.slice A1 y.f1.length c1] 49)) m).trans (hb3.mono (by have := BW.out.size; simp; omega))); have f0 : w3.cell? ⟨wr.heap.size, 0, none⟩ = some (.int .i64 y.f0) := (hb3.cell (p := ⟨wr.heap.size, 0, none⟩) (by simp)).trans (by show ((wr.alloc _).cell? _) = _; simp); clear hb3))
          go_roundg (l0.length - (kk + 1))
          case measure => omega
          case rel => exact ⟨kk + 1, y.f0, by omega, by omega, rfl, by go_num, HB3, HF⟩
    · have hltz : ¬ (kk : Int) < (l0.length : Int) := by omega
      have hA := AA.out
      rw [List.drop_eq_nil_of_le (by omega)] at hA
      have er : rightV l0 = decide ((l0.length : Int) ≤ 4) := by unfold rightV; rw [hA]; rfl
      go_wp2
      go_ret
      exact ⟨rfl, BW.out⟩
end Go.Proofs.Ythdhkoeaadahaaa.P
