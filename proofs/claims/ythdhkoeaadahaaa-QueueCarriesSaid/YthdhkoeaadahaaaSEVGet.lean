-- PACKED by wip/kit/pack.py: what the law's proof uses of EVGet (printed words and texts of this seat)
import Derived.Shelf.Abstract
import Derived.WalkKit
import Derived.TacticsInMore
import Derived.LoopNIn
import Derived.Test.YthdhkoeaadahaaaSPx0
import Derived.Test.YthdhkoeaadahaaaSPx24
namespace Go.Proofs.Ythdhkoeaadahaaa.P
open Go.RowKit Go.Proofs.YthdhkoeaadahaaaW.PrintWords Go.Proofs.YthdhkoeaadahaaaW.PrintLast
attribute [local go_sem] Oper.semAt_some
set_option linter.unusedVariables false
set_option linter.unusedSimpArgs false
def longS (s : ByteArray) : Bool := decide ((s.size : Int) > 8)
def sizeB (n : Int) : Bool := if n ≥ 1 then decide (n ≤ 32) else false
theorem size_f (n : Int) : vols_size.f n = some (sizeB n) := by unfold vols_size.f sizeB; split <;> rfl
def badV (last : Int) (v : S49) : Bool := decide (v.f0 ≤ last) || decide (v.f0 > 255) || !(sizeB (v.f1.length : Int)) || v.f1.any longS
def rightFrom : Int → List S49 → Bool
 | _, [] => true
 | last, v :: r => !(badV last v) && rightFrom v.f0 r
def rightV (l : List S49) : Bool := rightFrom 0 l && decide ((l.length : Int) ≤ 4)
def vols_Right.f (l : List S49) : Option Bool := some (rightV l)
theorem A0qvg_ {p : Prop} (h : p) : Aside0 p := ⟨h⟩
theorem z1qvg_ {α : Type} (l : List α) (i : Nat) (a : α) : l.toArray.setIfInBounds i a = (l.set i a).toArray := List.setIfInBounds_toArray l i a
theorem z2qvg_ {α : Type} {x : α} {xs : List α} {a : α} : (x :: xs).set 0 a = a :: xs := List.set_cons_zero
theorem z3qvg_ {α : Type} {x : α} {xs : List α} {n : Nat} {a : α} : (x :: xs).set (n + 1) a = x :: xs.set n a := List.set_cons_succ
set_option maxRecDepth 100000 in
set_option maxHeartbeats 2000000 in
theorem right1_calls (x : ByteArray) (w : World) : Calls Try.prog 114 #[.string x] w fun e w' => e = .returned (.bool (longS x)) ∧ Below w.heap.size w w' := by
 unfold longS
 go_enter Try.func114, Try.ntmps114
 go_wp2
 go_ret
 exact ⟨rfl, Below.refl _ _⟩
def gets9 (l : List ByteArray) (i : Nat) : ByteArray := l.getD i ⟨#[]⟩
theorem gets9_at (l : List ByteArray) (i : Nat) (h : i < l.length) : gets9 l i = l[i] := by
 unfold gets9; rw [List.getD_eq_getElem?_getD, List.getElem?_eq_getElem h, Option.getD_some]
theorem at9 {w : World} {A : Option Addr} {n : Nat} {l : List ByteArray} (h : Kd.C Kd.string w A n l) (i : Nat) (h1 : i < n) : ∃ ad, A = some ad ∧ w.cell? (ad.add i) = some (.string (gets9 l i)) := by
 obtain ⟨ad, c, e, _, hK, hc⟩ := Kd.C_get h (⟨#[]⟩ : ByteArray) (i : Int) (by omega) (by omega)
 have hK' : c = [.string (gets9 l i)] := hK
 subst hK'
 refine ⟨ad, e, ?_⟩
 have := hc 0 _ rfl
 rw [Int.toNat_natCast] at this
 have e1 : i * Kd.string.sz + 0 = i := by show i * 1 + 0 = i; omega
 rw [e1] at this
 exact this
set_option maxRecDepth 100000 in
set_option maxHeartbeats 2000000 in
theorem index9 (A : Option Addr) (c : Nat) (l : List ByteArray) (w : World) (hr : Kd.C Kd.string w A l.length l) (hc : l.length ≤ c) :
  Calls Try.prog 133 #[.slice A l.length c, .func (.func 114) #[] #[]] w fun e w' => (∃ r : Int, e = .returned (.int .i64 r) ∧ decide (0 ≤ r) = l.any longS) ∧ Below w.heap.size w w' := by
 have hmx := hr.2.1
 have HR := A0qvg_ hr
 clear hr
 go_enter Try.func133, Try.ntmps133
 go_wp2
 go_loopg [5, 8] l.length (fun gg _ s8 wr => ∃ kk : Nat, kk ≤ l.length ∧ l.length - kk ≤ gg ∧ s8 = .int .i64 kk ∧ Aside0 (Below w.heap.size w wr) ∧ Aside0 (∀ j, (h : j < l.length) → j < kk → longS l[j] = false))
 case atStart => exact ⟨0, by omega, by omega, rfl, ⟨Below.refl _ _⟩, ⟨fun j _ hj => absurd hj (by omega)⟩⟩
 case round =>
  obtain ⟨kk, hkk, hg, rfl, BW, AA⟩ := hrel
  by_cases hlt : kk < l.length
  ·have hltz : (kk : Int) < (l.length : Int) := by omega
   have e0 : decide ((kk : Int) < (l.length : Int)) = true := decide_eq_true hltz
   obtain ⟨ad, rfl, c0⟩ := at9 (Kd.C_below HR.out BW.out) kk hlt
   have hcall := right1_calls (gets9 l kk) wr
   have EY := A0qvg_ (gets9_at l kk hlt)
   generalize gets9 l kk = y at c0 hcall EY
   cases hq : longS y with
   | true =>
    rw [hq] at hcall
    go_wp2_with (go_at_call 114; refine hcall.mono ?_; rintro e w' ⟨rfl, hb'⟩)
    go_ret
    refine ⟨⟨_, rfl, ?_⟩, BW.out.trans (hb'.mono BW.out.size)⟩
    rw [decide_eq_true (by omega), eq_comm, List.any_eq_true]
    exact ⟨l[kk], List.getElem_mem hlt, by rw [← EY.out]; exact hq⟩
   | false =>
    rw [hq] at hcall
    go_wp2_with (go_at_call 114; refine hcall.mono ?_; rintro e w' ⟨rfl, hb'⟩)
    go_roundg (l.length - (kk + 1))
    case measure => omega
    case rel =>
     refine ⟨kk + 1, by omega, by omega, by go_num, ⟨BW.out.trans (hb'.mono BW.out.size)⟩, ⟨fun j hj1 hj => ?_⟩⟩
     by_cases e : j = kk
     ·subst e
      rw [← EY.out]; exact hq
     ·exact AA.out j hj1 (by omega)
  ·have hltz : ¬ (kk : Int) < (l.length : Int) := by omega
   go_wp2
   go_ret
   refine ⟨⟨_, rfl, ?_⟩, BW.out⟩
   rw [decide_eq_false (by omega), eq_comm, List.any_eq_false]
   intro x hx
   obtain ⟨j, hj, rfl⟩ := List.getElem_of_mem hx
   rw [AA.out j hj (by omega)]
   simp
set_option maxRecDepth 100000 in
set_option maxHeartbeats 2000000 in
theorem contains9 (A : Option Addr) (c : Nat) (l : List ByteArray) (w : World) (hr : Kd.C Kd.string w A l.length l) (hc : l.length ≤ c) :
  Calls Try.prog 113 #[.slice A l.length c, .func (.func 114) #[] #[]] w fun e w' => e = .returned (.bool (l.any longS)) ∧ Below w.heap.size w w' := by
 have hi := index9 A c l w hr hc
 clear hr
 go_enter Try.func113, Try.ntmps113
 go_wp2_with (go_at_call 133; refine hi.mono ?_; rintro e w' ⟨⟨r, rfl, hr⟩, hb'⟩)
 go_ret
 exact ⟨by rw [← hr]; rfl, hb'⟩
theorem rd49 (l : List S49) (kk : Nat) (h : kk < l.length) : rd_T49 l (kk : Int) = l[kk] := by
 unfold rd_T49; rw [Int.toNat_natCast, List.getD_eq_getElem?_getD, List.getElem?_eq_getElem h, Option.getD_some]
theorem drop49 (l : List S49) {i : Nat} (h : i < l.length) : l.drop i = rd_T49 l (i : Int) :: l.drop (i + 1) := by
 rw [List.drop_eq_getElem_cons h, rd49 l i h]
set_option maxRecDepth 100000 in
set_option maxHeartbeats 4000000 in
theorem vols_Right.calls (A0 : Option Addr) (c0 : Nat) (l0 : List S49) (r : Bool) (w : World) (hr0 : Kd.C k49 w A0 l0.length l0) (hc0 : l0.length ≤ c0) (h : vols_Right.f l0 = some r) :
  Calls Try.prog 66 #[.slice A0 l0.length c0] w fun e w' => e = .returned (.bool r) ∧ Below w.heap.size w w' := by
 obtain rfl := Option.some.inj h
 clear h
 have hu49 := Try.underlying49
 have hmx := hr0.2.1
 have HR := A0qvg_ hr0
 have HC := A0qvg_ hc0
 clear hr0 hc0
 go_enter Try.func66, Try.ntmps66
 go_wp2
 go_loopg [3, 8] l0.length (fun gg s3 s8 wr => ∃ (kk : Nat) (last : Int), kk ≤ l0.length ∧ l0.length - kk ≤ gg ∧ s3 = .int .i64 last ∧ s8 = .int .i64 kk ∧ Aside0 (Below w.heap.size w wr) ∧ Aside0 (rightFrom 0 l0 = rightFrom last (l0.drop kk)))
 case atStart => exact ⟨0, 0, by omega, by omega, rfl, rfl, ⟨Below.refl _ _⟩, ⟨rfl⟩⟩
 case round =>
  obtain ⟨kk, last, hkk, hg, rfl, rfl, BW, AA⟩ := hrel
  by_cases hlt : kk < l0.length
  ·have e0 : decide ((kk : Int) < (l0.length : Int)) = true := decide_eq_true (by omega)
   obtain ⟨ad, A1, c1, rfl, d0, d1, hl1, hC1⟩ := at_T49 (Kd.C_below HR.out BW.out) (kk : Int) (by omega) (by omega)
   rw [Int.toNat_natCast] at d0 d1
   have hA := AA.out
   rw [drop49 l0 hlt] at hA
   have hA' := A0qvg_ hA
   clear hA
   generalize rd_T49 l0 (kk : Int) = y at d0 d1 hl1 hC1 hA'
   have hbelow := A0qvg_ (BW.out)
   have hsz : ∀ W : World, Calls Try.prog 98 #[.int .i64 (y.f1.length : Int)] W fun e w' => e = .returned (.bool (sizeB (y.f1.length : Int))) ∧ Drawn0 W w' := fun W => vols_size.calls _ _ W (size_f _)
   have wrong : badV last y = true → rightV l0 = false := fun hb => by
    unfold rightV
    rw [hA'.out, rightFrom, hb]
    rfl
   have HCT := A0qvg_ (fun (W : World) (hW : Below wr.heap.size wr W) => contains9 A1 c1 y.f1 W (Kd.C_below hC1 hW) hl1)
   clear hC1
   by_cases h1 : y.f0 ≤ last
   ·have e1 : decide (y.f0 ≤ last) = true := decide_eq_true h1
    go_wp2
    go_ret
    refine ⟨by rw [wrong (by unfold badV; rw [e1]; rfl)]; rfl, ?_⟩
    exact below_alloc BW.out _
   have e1 : decide (y.f0 ≤ last) = false := decide_eq_false h1
   by_cases h2 : y.f0 > 255
   ·have e2 : decide (y.f0 > 255) = true := decide_eq_true h2
    go_wp2
    go_ret
    refine ⟨by rw [wrong (by unfold badV; rw [e1, e2]; rfl)]; rfl, ?_⟩
    exact below_alloc BW.out _
   have e2 : decide (y.f0 > 255) = false := decide_eq_false h2
   cases hs : sizeB (y.f1.length : Int) with
   | false =>
    rw [hs] at hsz
    go_wp2_with (go_at_call 98; refine (hsz _).mono ?_; rintro e w2 ⟨rfl, ⟨m, rfl⟩⟩)
    go_ret
    refine ⟨by rw [wrong (by unfold badV; rw [e1, e2, hs]; rfl)]; rfl, ?_⟩
    exact pw_below_drewN (below_alloc BW.out _) _
   | true =>
    rw [hs] at hsz
    cases hct : y.f1.any longS with
    | true =>
     rw [hct] at HCT
     go_wp2_with (first | (go_at_call 98; refine (hsz _).mono ?_; rintro e w2 ⟨rfl, ⟨m, rfl⟩⟩) | (go_at_call 113; refine (HCT.out _ (pw_below_drewN (below_alloc (Below.refl _ _) _) _)).mono ?_; rintro e w3 ⟨rfl, hb3⟩; have HB3 := A0qvg_ ((pw_below_drewN (below_alloc BW.out (.cells #[Value.int IntKind.i64 y.f0, Value.slice A1 y.f1.length c1] 49)) m).trans (hb3.mono (by have := BW.out.size; simp; omega))); have f0 : w3.cell? ⟨wr.heap.size, 0, none⟩ = some (.int .i64 y.f0) := (hb3.cell (p := ⟨wr.heap.size, 0, none⟩) (by simp)).trans (by show ((wr.alloc _).cell? _) = _; simp); clear hb3))
     go_ret
     refine ⟨by rw [wrong (by unfold badV; rw [e1, e2, hs, hct]; rfl)]; rfl, ?_⟩
     exact HB3.out
    | false =>
     rw [hct] at HCT
     have fine : rightFrom 0 l0 = rightFrom y.f0 (l0.drop (kk + 1)) := by
      rw [hA'.out, rightFrom]
      unfold badV
      rw [e1, e2, hs, hct]
      rfl
     have HF := A0qvg_ fine
     clear fine
     go_wp2_with (first | (go_at_call 98; refine (hsz _).mono ?_; rintro e w2 ⟨rfl, ⟨m, rfl⟩⟩) | (go_at_call 113; refine (HCT.out _ (pw_below_drewN (below_alloc (Below.refl _ _) _) _)).mono ?_; rintro e w3 ⟨rfl, hb3⟩; have HB3 := A0qvg_ ((pw_below_drewN (below_alloc BW.out (.cells #[Value.int IntKind.i64 y.f0, Value.slice A1 y.f1.length c1] 49)) m).trans (hb3.mono (by have := BW.out.size; simp; omega))); have f0 : w3.cell? ⟨wr.heap.size, 0, none⟩ = some (.int .i64 y.f0) := (hb3.cell (p := ⟨wr.heap.size, 0, none⟩) (by simp)).trans (by show ((wr.alloc _).cell? _) = _; simp); clear hb3))
     go_roundg (l0.length - (kk + 1))
     case measure => omega
     case rel => exact ⟨kk + 1, y.f0, by omega, by omega, rfl, by go_num, HB3, HF⟩
  ·have hltz : ¬ (kk : Int) < (l0.length : Int) := by omega
   have hA := AA.out
   rw [List.drop_eq_nil_of_le (by omega)] at hA
   have er : rightV l0 = decide ((l0.length : Int) ≤ 4) := by unfold rightV; rw [hA]; rfl
   go_wp2
   go_ret
   exact ⟨rfl, BW.out⟩
end Go.Proofs.Ythdhkoeaadahaaa.P
namespace Go.Proofs.Ythdhkoeaadahaaa.P
open Go.RowKit Go.Proofs.YthdhkoeaadahaaaW.PrintWords Go.Proofs.YthdhkoeaadahaaaW.PrintLast Go.Proofs.YthdhkoeaadahaaaW.PrintMore
attribute [local go_sem] Oper.semAt_some
set_option linter.unusedVariables false
set_option linter.unusedSimpArgs false
def FirstV (l : List S49) (v : Int) (kk : Nat) : Prop := kk < l.length ∧ (∀ j, (h : j < l.length) → j < kk → l[j].f0 ≠ v) ∧ (rd_T49 l (kk : Int)).f0 = v
def AtV (w : World) (A : Option Addr) (l : List S49) (v b : Int) (e : Ending) : Prop :=
 (∃ kk, FirstV l v kk ∧ ((b < 0 ∨ b ≥ ((rd_T49 l (kk : Int)).f1.length : Int)) ∧ e = .returned (.tuple #[.pointer none, .int .i64 10]) ∨
  (0 ≤ b ∧ b < ((rd_T49 l (kk : Int)).f1.length : Int)) ∧ ∃ ad Ad1 c1, A = some ad ∧ w.cell? ⟨(ad.add (kk * 2)).block, (ad.add (kk * 2)).off + 1, none⟩ = some (.slice (some Ad1) (rd_T49 l (kk : Int)).f1.length c1) ∧ e = .returned (.tuple #[.pointer (some (Ad1.add b.toNat)), .int .i64 0])))
 ∨ ((∀ j, (h : j < l.length) → l[j].f0 ≠ v) ∧ e = .returned (.tuple #[.pointer none, .int .i64 8]))
set_option maxRecDepth 100000 in
set_option maxHeartbeats 4000000 in
theorem at_calls (A : Option Addr) (c : Nat) (l : List S49) (v b : Int) (w : World) (hr : Kd.C k49 w A l.length l) (hc : l.length ≤ c) :
  Calls Try.prog 97 #[.slice A l.length c, .int .i64 v, .int .i64 b] w fun e w' => w' = w ∧ AtV w A l v b e := by
 have hu49 := Try.underlying49
 have hu9 := Try.underlying9
 obtain ⟨i9, hi9, _, hsz9, _⟩ := info_parts info9
 have hmx := hr.2.1
 have HR := A0qvg_ hr
 clear hr
 go_enter Try.func97, Try.ntmps97
 go_wp2
 go_loopg [8, 11] l.length (fun gg s8 s11 wr => ∃ kk : Nat, kk ≤ l.length ∧ l.length - kk ≤ gg ∧ s11 = .int .i64 kk ∧ wr = w ∧ Aside0 (∀ j, (h : j < l.length) → j < kk → l[j].f0 ≠ v))
 case atStart => exact ⟨0, by omega, by omega, rfl, rfl, ⟨fun j _ hj => absurd hj (by omega)⟩⟩
 case round =>
  obtain ⟨kk, hkk, hg, rfl, rfl, AA⟩ := hrel
  by_cases hlt : kk < l.length
  ·have e0 : decide ((kk : Int) < (l.length : Int)) = true := decide_eq_true (by omega)
   obtain ⟨ad, A1, c1, rfl, d0, d1, hl1, hC1⟩ := at_T49 HR.out (kk : Int) (by omega) (by omega)
   rw [Int.toNat_natCast] at d0 d1
   by_cases hv : (rd_T49 l (kk : Int)).f0 = v
   ·have hF := A0qvg_ (show FirstV l v kk from ⟨hlt, AA.out, hv⟩)
    have e1 : ((rd_T49 l (kk : Int)).f0 != v) = false := bne_eq_false_iff_eq.mpr hv
    by_cases h1 : b < 0
    ·have e2 : decide (b < 0) = true := decide_eq_true h1
     go_wp2
     refine bodyPost_ret (v := .tuple #[.pointer none, .int .i64 10]) ?_ rfl ⟨rfl, .inl ⟨kk, hF.out, .inl ⟨.inl h1, rfl⟩⟩⟩
     simp [results, Try.results97, go_sem]
    have e2 : decide (b < 0) = false := decide_eq_false h1
    by_cases h2 : b ≥ ((rd_T49 l (kk : Int)).f1.length : Int)
    ·have e3 : decide (b ≥ ((rd_T49 l (kk : Int)).f1.length : Int)) = true := decide_eq_true h2
     go_wp2
     refine bodyPost_ret (v := .tuple #[.pointer none, .int .i64 10]) ?_ rfl ⟨rfl, .inl ⟨kk, hF.out, .inl ⟨.inr h2, rfl⟩⟩⟩
     simp [results, Try.results97, go_sem]
    ·have e3 : decide (b ≥ ((rd_T49 l (kk : Int)).f1.length : Int)) = false := decide_eq_false h2
     obtain ⟨ad1, rfl, _⟩ := at9 hC1 b.toNat (by omega)
     have hb0 : 0 ≤ b := by omega
     have hb1 : b < ((rd_T49 l (kk : Int)).f1.length : Int) := by omega
     go_wp2
     refine bodyPost_ret (v := .tuple #[.pointer (some (ad1.add b.toNat)), .int .i64 0]) ?_ rfl ⟨rfl, .inl ⟨kk, hF.out, .inr ⟨⟨by omega, by omega⟩, ad, ad1, c1, rfl, d1, rfl⟩⟩⟩
     simp [results, Try.results97, go_sem]
   ·have e1 : ((rd_T49 l (kk : Int)).f0 != v) = true := bne_iff_ne.mpr hv
    have hv' := A0qvg_ hv
    clear hv
    go_wp2
    go_roundg (l.length - (kk + 1))
    case measure => omega
    case rel =>
     refine ⟨kk + 1, by omega, by omega, by go_num, rfl, ⟨fun j hj1 hj => ?_⟩⟩
     by_cases e : j = kk
     ·subst e
      rw [← rd49 l j hj1]; exact hv'.out
     ·exact AA.out j hj1 (by omega)
  ·have e0 : decide ((kk : Int) < (l.length : Int)) = false := decide_eq_false (by omega)
   go_wp2
   refine bodyPost_ret (v := .tuple #[.pointer none, .int .i64 8]) ?_ rfl ⟨rfl, .inr ⟨fun j h => AA.out j h (by omega), rfl⟩⟩
   simp [results, Try.results97, go_sem]
def getV (l : List S49) (v b : Int) : ByteArray × Int :=
 match l.find? (fun x => x.f0 == v) with
 | none => (⟨#[]⟩, 8)
 | some x => if b < 0 ∨ b ≥ (x.f1.length : Int) then (⟨#[]⟩, 10) else (gets9 x.f1 b.toNat, 0)
def vols_Get.f (l : List S49) (v b : Int) : Option (ByteArray × Int) := some (if rightV l = true then getV l v b else (⟨#[]⟩, 1))
theorem first_find {l : List S49} {v : Int} {kk : Nat} (h : FirstV l v kk) : l.find? (fun x => x.f0 == v) = some (rd_T49 l (kk : Int)) := by
 obtain ⟨h1, h2, h3⟩ := h
 rw [List.find?_eq_some_iff_getElem]
 refine ⟨by simp [h3], kk, h1, (rd49 l kk h1).symm, fun j hj => ?_⟩
 have := h2 j (by omega) hj
 simp [this]
theorem none_find {l : List S49} {v : Int} (h : ∀ j, (h : j < l.length) → l[j].f0 ≠ v) : l.find? (fun x => x.f0 == v) = none := by
 rw [List.find?_eq_none]
 intro x hx
 obtain ⟨j, hj, rfl⟩ := List.getElem_of_mem hx
 simp [h j hj]
theorem at_reads {w : World} {A : Option Addr} {l : List S49} {v b : Int} {e : Ending} (hr : Kd.C k49 w A l.length l) (h : AtV w A l v b e) :
  (∃ p, e = .returned (.tuple #[.pointer (some p), .int .i64 0]) ∧ w.cell? p = some (.string (getV l v b).1) ∧ (getV l v b).2 = 0) ∨
  (e = .returned (.tuple #[.pointer none, .int .i64 (getV l v b).2]) ∧ (getV l v b).2 ≠ 0 ∧ (getV l v b).1 = ⟨#[]⟩) := by
 rcases h with ⟨kk, hF, h⟩ | ⟨h, rfl⟩
 ·have hg : getV l v b = if b < 0 ∨ b ≥ ((rd_T49 l (kk : Int)).f1.length : Int) then (⟨#[]⟩, 10) else (gets9 (rd_T49 l (kk : Int)).f1 b.toNat, 0) := by unfold getV; rw [first_find hF]
  rcases h with ⟨hb, rfl⟩ | ⟨hb, ad, Ad1, c1, rfl, hcell, rfl⟩
  ·right
   rw [if_pos hb] at hg
   rw [hg]
   exact ⟨rfl, by simp, rfl⟩
  ·left
   rw [if_neg (by omega)] at hg
   rw [hg]
   refine ⟨_, rfl, ?_, rfl⟩
   obtain ⟨ad', A1, c1', e1, _, d1, hl1, hC1⟩ := at_T49 hr (kk : Int) (by omega) (by have := hF.1; omega)
   injection e1 with e1
   subst e1
   rw [Int.toNat_natCast, hcell] at d1
   injection d1 with d1
   injection d1 with d1 _ _
   subst d1
   obtain ⟨ad1, e2, hc⟩ := at9 hC1 b.toNat (by omega)
   injection e2 with e2
   subst e2
   exact hc
 ·right
  have hg : getV l v b = (⟨#[]⟩, 8) := by unfold getV; rw [none_find h]
  rw [hg]
  exact ⟨rfl, by simp, rfl⟩
set_option maxRecDepth 100000 in
set_option maxHeartbeats 4000000 in
theorem vols_Get.calls (A0 : Option Addr) (c0 : Nat) (l0 : List S49) (a1 a2 : Int) (r1 : ByteArray) (r2 : Int) (w : World) (hr0 : Kd.C k49 w A0 l0.length l0) (hc0 : l0.length ≤ c0) (h : vols_Get.f l0 a1 a2 = some (r1, r2)) :
  Calls Try.prog 39 #[.slice A0 l0.length c0, .int .i64 a1, .int .i64 a2] w fun e w' => e = .returned (.tuple #[.string r1, .int .i64 r2]) ∧ Below w.heap.size w w' := by
 unfold vols_Get.f at h
 injection h with h
 have hR := vols_Right.calls A0 c0 l0 _ w hr0 hc0 rfl
 cases hb : rightV l0 with
 | false =>
  rw [hb] at h hR
  simp at h
  obtain ⟨rfl, rfl⟩ := h
  clear hr0
  go_enter Try.func39, Try.ntmps39
  go_wp2_with (go_at_call 66; refine hR.mono ?_; rintro e w2 ⟨rfl, hb⟩)
  refine bodyPost_ret (v := .tuple #[.string ⟨#[]⟩, .int .i64 1]) ?_ rfl ⟨rfl, hb⟩
  simp [results, Try.results39, go_sem]
 | true =>
  rw [hb] at h hR
  rw [if_pos rfl] at h
  have HAT := A0qvg_ (fun (W : World) (hW : Below w.heap.size w W) => (at_calls A0 c0 l0 a1 a2 W (Kd.C_below hr0 hW) hc0).mono (fun e w' hh => show w' = W ∧ _ from ⟨hh.1, at_reads (Kd.C_below hr0 hW) hh.2⟩))
  rw [h] at HAT
  clear hr0 h hb
  have h33 := Try.underlying33
  go_enter Try.func39, Try.ntmps39
  by_cases hz : r2 = 0
  ·subst hz
   go_wp2_with (first
    | (go_at_call 66; refine hR.mono ?_; rintro e w2 ⟨rfl, hb⟩; have HB := A0qvg_ hb; clear hb)
    | (go_at_call 97; refine (HAT.out _ HB.out).mono ?_; rintro e w3 ⟨rfl, ⟨p, rfl, hcell, _⟩ | ⟨_, h2, _⟩⟩; rotate_left; exact absurd rfl h2))
   refine bodyPost_ret (v := .tuple #[.string r1, .int .i64 0]) ?_ rfl ⟨rfl, HB.out⟩
   simp [results, Try.results39, go_sem]
  ·have e1 : (r2 != 0) = true := bne_iff_ne.mpr hz
   go_wp2_with (first
    | (go_at_call 66; refine hR.mono ?_; rintro e w2 ⟨rfl, hb⟩; have HB := A0qvg_ hb; clear hb)
    | (go_at_call 97; refine (HAT.out _ HB.out).mono ?_; rintro e w3 ⟨rfl, ⟨p, rfl, hcell, h2⟩ | ⟨rfl, h2, h3⟩⟩; exact absurd h2 hz))
   refine bodyPost_ret (v := .tuple #[.string r1, .int .i64 r2]) ?_ rfl ⟨rfl, HB.out⟩
   simp [results, Try.results39, go_sem, ← h3]
end Go.Proofs.Ythdhkoeaadahaaa.P
namespace Go.Proofs.Ythdhkoeaadahaaa.P
open Go.RowKit Go.Proofs.YthdhkoeaadahaaaW.PrintWords Go.Proofs.YthdhkoeaadahaaaW.PrintLast Go.Proofs.YthdhkoeaadahaaaW.PrintMore
attribute [local go_sem] Oper.semAt_some
set_option linter.unusedVariables false
set_option linter.unusedSimpArgs false
def checkW (l : List S49) (x : S74) : Int := if (getV l x.f0 x.f1).2 ≠ 0 then (getV l x.f0 x.f1).2 else if (x.f2.size : Int) > 8 then 5 else 0
def checkL (l : List S49) : List S74 → Int
 | [] => 0
 | x :: r => if checkW l x ≠ 0 then checkW l x else checkL l r
def vols_Check.f (l : List S49) (ws : List S74) : Option Int := some (if rightV l = true then checkL l ws else 1)
theorem rd74 (l : List S74) (kk : Nat) (h : kk < l.length) : rd_T74 l (kk : Int) = l[kk] := by
 unfold rd_T74; rw [Int.toNat_natCast, List.getD_eq_getElem?_getD, List.getElem?_eq_getElem h, Option.getD_some]
theorem drop74 (l : List S74) {i : Nat} (h : i < l.length) : l.drop i = rd_T74 l (i : Int) :: l.drop (i + 1) := by
 rw [List.drop_eq_getElem_cons h, rd74 l i h]
set_option maxRecDepth 100000 in
set_option maxHeartbeats 4000000 in
theorem vols_Check.calls (A0 : Option Addr) (c0 : Nat) (l0 : List S49) (A1 : Option Addr) (c1 : Nat) (l1 : List S74) (r : Int) (w : World) (hr0 : Kd.C k49 w A0 l0.length l0) (hc0 : l0.length ≤ c0) (hr1 : Kd.C k74 w A1 l1.length l1) (hc1 : l1.length ≤ c1) (h : vols_Check.f l0 l1 = some r) :
  Calls Try.prog 59 #[.slice A0 l0.length c0, .slice A1 l1.length c1] w fun e w' => e = .returned (.int .i64 r) ∧ Below w.heap.size w w' := by
 unfold vols_Check.f at h
 injection h with h
 have hR := vols_Right.calls A0 c0 l0 _ w hr0 hc0 rfl
 cases hb : rightV l0 with
 | false =>
  rw [hb] at h hR
  simp at h
  subst h
  clear hr0 hr1
  go_enter Try.func59, Try.ntmps59
  go_wp2_with (go_at_call 66; refine hR.mono ?_; rintro e w2 ⟨rfl, hb⟩)
  go_ret
  exact ⟨rfl, hb⟩
 | true =>
  rw [hb] at h hR
  rw [if_pos rfl] at h
  have hu74 := Try.underlying74
  have hmx := hr1.2.1
  have HAT := A0qvg_ (fun (a1 a2 : Int) (W : World) (hW : Below w.heap.size w W) => (at_calls A0 c0 l0 a1 a2 W (Kd.C_below hr0 hW) hc0).mono (fun e w' hh => show w' = W ∧ _ from ⟨hh.1, at_reads (Kd.C_below hr0 hW) hh.2⟩))
  have HR1 := A0qvg_ hr1
  have HH := A0qvg_ h
  clear hr0 hr1 h hb
  go_enter Try.func59, Try.ntmps59
  go_wp2_with (go_at_call 66; refine hR.mono ?_; rintro e w2 ⟨rfl, hb⟩; have HB := A0qvg_ hb; clear hb)
  go_loopg [14] l1.length (fun gg s14 wr => ∃ kk : Nat, kk ≤ l1.length ∧ l1.length - kk ≤ gg ∧ s14 = .int .i64 kk ∧ Aside0 (Below w.heap.size w wr) ∧ Aside0 (checkL l0 (l1.drop kk) = r))
  case atStart => exact ⟨0, by omega, by omega, rfl, HB, HH⟩
  case round =>
   clear HB
   obtain ⟨kk, hkk, hg, rfl, BW, AA⟩ := hrel
   by_cases hlt : kk < l1.length
   ·have e0 : decide ((kk : Int) < (l1.length : Int)) = true := decide_eq_true (by omega)
    obtain ⟨ad, rfl, d0, d1, d2⟩ := at_T74 (Kd.C_below HR1.out BW.out) (kk : Int) (by omega) (by omega)
    rw [Int.toNat_natCast] at d0 d1 d2
    have hA := AA.out
    rw [drop74 l1 hlt, checkL] at hA
    have HA := A0qvg_ hA
    clear hA
    generalize rd_T74 l1 (kk : Int) = y at d0 d1 d2 HA
    have HY := A0qvg_ (HAT.out y.f0 y.f1)
    have hA := HA.out
    clear HA
    unfold checkW at hA
    generalize getV l0 y.f0 y.f1 = q at HY hA
    by_cases hz : q.2 = 0
    ·have hA2 : (if (y.f2.size : Int) > 8 then (5 : Int) else checkL l0 (l1.drop (kk + 1))) = r := by
      rw [← hA, hz]
      by_cases h8 : (y.f2.size : Int) > 8
      ·simp [h8]
      ·simp [h8]
     clear hA
     by_cases h8 : (y.f2.size : Int) > 8
     ·rw [if_pos h8] at hA2
      have er : r = 5 := hA2.symm
      subst er
      have e8 : decide ((y.f2.size : Int) > 8) = true := decide_eq_true h8
      go_wp2_with (go_at_call 97; refine (HY.out _ (below_alloc BW.out _)).mono ?_; rintro e w3 ⟨rfl, ⟨p, rfl, hcell, _⟩ | ⟨_, h2, _⟩⟩; rotate_left; exact absurd hz h2)
      go_ret
      exact ⟨rfl, below_alloc BW.out _⟩
     ·rw [if_neg h8] at hA2
      have e8 : decide ((y.f2.size : Int) > 8) = false := decide_eq_false h8
      have HN := A0qvg_ hA2
      clear hA2
      go_wp2_with (go_at_call 97; refine (HY.out _ (below_alloc BW.out _)).mono ?_; rintro e w3 ⟨rfl, ⟨p, rfl, hcell, _⟩ | ⟨_, h2, _⟩⟩; rotate_left; exact absurd hz h2)
      go_roundg (l1.length - (kk + 1))
      case measure => omega
      case rel => exact ⟨kk + 1, by omega, by omega, by go_num, ⟨below_alloc BW.out _⟩, HN⟩
    ·have e1 : (q.2 != 0) = true := bne_iff_ne.mpr hz
     rw [if_pos hz, if_pos hz] at hA
     obtain ⟨q1, q2⟩ := q
     have er : q2 = r := hA
     subst er
     clear hA
     go_wp2_with (go_at_call 97; refine (HY.out _ (below_alloc BW.out _)).mono ?_; rintro e w3 ⟨rfl, ⟨p, rfl, hcell, h2⟩ | ⟨rfl, h2, _⟩⟩; exact absurd h2 hz)
     go_ret
     exact ⟨rfl, below_alloc BW.out _⟩
   ·have e0 : decide ((kk : Int) < (l1.length : Int)) = false := decide_eq_false (by omega)
    have hA := AA.out
    rw [List.drop_eq_nil_of_le (by omega)] at hA
    have er : r = 0 := hA.symm
    subst er
    go_wp2
    go_ret
    exact ⟨rfl, BW.out⟩
end Go.Proofs.Ythdhkoeaadahaaa.P
