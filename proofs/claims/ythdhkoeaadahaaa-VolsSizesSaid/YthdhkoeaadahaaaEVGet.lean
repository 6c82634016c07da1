/- What vols.at tells; the contract of vols.Get. -/
import Derived.Test.YthdhkoeaadahaaaEVRight
namespace Go.Proofs.Ythdhkoeaadahaaa.P
open Go.RowKit Go.Proofs.YthdhkoeaadahaaaW.PrintWords Go.Proofs.YthdhkoeaadahaaaW.PrintLast Go.Proofs.YthdhkoeaadahaaaW.PrintMore
attribute [local go_sem] Oper.semAt_some
set_option linter.unusedVariables false
set_option linter.unusedSimpArgs false

/-- Volume kk is the first of that ID. -/
def FirstV (l : List S49) (v : Int) (kk : Nat) : Prop := kk < l.length ∧ (∀ j, (h : j < l.length) → j < kk → l[j].f0 ≠ v) ∧ (rd_T49 l (kk : Int)).f0 = v
/-- What 'at' answers. -/
def AtV (w : World) (A : Option Addr) (l : List S49) (v b : Int) (e : Ending) : Prop :=
  (∃ kk, FirstV l v kk ∧ ((b < 0 ∨ b ≥ ((rd_T49 l (kk : Int)).f1.length : Int)) ∧ e = .returned (.tuple #[.pointer none, .int .i64 10]) ∨
    (0 ≤ b ∧ b < ((rd_T49 l (kk : Int)).f1.length : Int)) ∧ ∃ ad Ad1 c1, A = some ad ∧ w.cell? ⟨(ad.add (kk * 2)).block, (ad.add (kk * 2)).off + 1, none⟩ = some (.slice (some Ad1) (rd_T49 l (kk : Int)).f1.length c1) ∧ e = .returned (.tuple #[.pointer (some (Ad1.add b.toNat)), .int .i64 0])))
  ∨ ((∀ j, (h : j < l.length) → l[j].f0 ≠ v) ∧ e = .returned (.tuple #[.pointer none, .int .i64 8]))

set_option maxRecDepth 100000 in
set_option maxHeartbeats 4000000 in
theorem at_calls (A : Option Addr) (c : Nat) (l : List S49) (v b : Int) (w : World) (hr : Kd.C k49 w A l.length l) (hc : l.length ≤ c) :
    Calls Try.prog 97 #[.slice A l.length c, .int .i64 v, .int .i64 b] w fun e w' => w' = w ∧ AtV w A l v b e := by
  have hu49 := Try.underlying49
  have hu9 := Try.underlying9
  obtain ⟨i9, hi9, _, hsz9, _⟩ := info_parts info9
  have hmx := hr.2.1
  have HR := Aside0.mk hr
  clear hr
  go_enter Try.func97, Try.ntmps97
  go_wp2
  go_loopg [8, 11] l.length (fun gg s8 s11 wr => ∃ kk : Nat, kk ≤ l.length ∧ l.length - kk ≤ gg ∧ s11 = .int .i64 kk ∧ wr = w ∧ Aside0 (∀ j, (h : j < l.length) → j < kk → l[j].f0 ≠ v))
  case atStart => exact ⟨0, by omega, by omega, rfl, rfl, ⟨fun j _ hj => absurd hj (by omega)⟩⟩
  case round =>
    obtain ⟨kk, hkk, hg, rfl, rfl, AA⟩ := hrel
    by_cases hlt : kk < l.length
    · have e0 : decide ((kk : Int) < (l.length : Int)) = true := decide_eq_true (by omega)
      obtain ⟨ad, A1, c1, rfl, d0, d1, hl1, hC1⟩ := at_T49 HR.out (kk : Int) (by omega) (by omega)
      rw [Int.toNat_natCast] at d0 d1
      by_cases hv : (rd_T49 l (kk : Int)).f0 = v
      · have hF := Aside0.mk (show FirstV l v kk from ⟨hlt, AA.out, hv⟩)
        have e1 : ((rd_T49 l (kk : Int)).f0 != v) = false := bne_eq_false_iff_eq.mpr hv
        by_cases h1 : b < 0
        · have e2 : decide (b < 0) = true := decide_eq_true h1
          go_wp2
          refine bodyPost_ret (v := .tuple #[.pointer none, .int .i64 10]) ?_ rfl ⟨rfl, .inl ⟨kk, hF.out, .inl ⟨.inl h1, rfl⟩⟩⟩
          simp [results, Try.results97, go_sem]
        have e2 : decide (b < 0) = false := decide_eq_false h1
        by_cases h2 : b ≥ ((rd_T49 l (kk : Int)).f1.length : Int)
        · have e3 : decide (b ≥ ((rd_T49 l (kk : Int)).f1.length : Int)) = true := decide_eq_true h2
          go_wp2
          refine bodyPost_ret (v := .tuple #[.pointer none, .int .i64 10]) ?_ rfl ⟨rfl, .inl ⟨kk, hF.out, .inl ⟨.inr h2, rfl⟩⟩⟩
          simp [results, Try.results97, go_sem]
        · have e3 : decide (b ≥ ((rd_T49 l (kk : Int)).f1.length : Int)) = false := decide_eq_false h2
          obtain ⟨ad1, rfl, _⟩ := at9 hC1 b.toNat (by omega)
          have hb0 : 0 ≤ b := by omega
          have hb1 : b < ((rd_T49 l (kk : Int)).f1.length : Int) := by omega
          go_wp2
          refine bodyPost_ret (v := .tuple #[.pointer (some (ad1.add b.toNat)), .int .i64 0]) ?_ rfl ⟨rfl, .inl ⟨kk, hF.out, .inr ⟨⟨by omega, by omega⟩, ad, ad1, c1, rfl, d1, rfl⟩⟩⟩
          simp [results, Try.results97, go_sem]
      · have e1 : ((rd_T49 l (kk : Int)).f0 != v) = true := bne_iff_ne.mpr hv
        have hv' := Aside0.mk hv
        clear hv
        go_wp2
        go_roundg (l.length - (kk + 1))
        case measure => omega
        case rel =>
          refine ⟨kk + 1, by omega, by omega, by go_num, rfl, ⟨fun j hj1 hj => ?_⟩⟩
          by_cases e : j = kk
          · subst e
            rw [← rd49 l j hj1]; exact hv'.out
          · exact AA.out j hj1 (by omega)
    · have e0 : decide ((kk : Int) < (l.length : Int)) = false := decide_eq_false (by omega)
      go_wp2
      refine bodyPost_ret (v := .tuple #[.pointer none, .int .i64 8]) ?_ rfl ⟨rfl, .inr ⟨fun j h => AA.out j h (by omega), rfl⟩⟩
      simp [results, Try.results97, go_sem]

/-- What a block holds, told by its volume's ID and its place. -/
def getV (l : List S49) (v b : Int) : ByteArray × Int :=
  match l.find? (fun x => x.f0 == v) with
  | none => (⟨#[]⟩, 8)
  | some x => if b < 0 ∨ b ≥ (x.f1.length : Int) then (⟨#[]⟩, 10) else (gets9 x.f1 b.toNat, 0)
def vols_Get.f (l : List S49) (v b : Int) : Option (ByteArray × Int) := some (if rightV l = true then getV l v b else (⟨#[]⟩, 1))
theorem first_find {l : List S49} {v : Int} {kk : Nat} (h : FirstV l v kk) : l.find? (fun x => x.f0 == v) = some (rd_T49 l (kk : Int)) := by
  obtain ⟨h1, h2, h3⟩ := h
  rw [List.find?_eq_some_iff_getElem]
  refine ⟨by simp [h3], kk, h1, (rd49 l kk h1).symm, fun j hj => ?_⟩
  have := h2 j (by omega) hj
  simp [this]
theorem none_find {l : List S49} {v : Int} (h : ∀ j, (h : j < l.length) → l[j].f0 ≠ v) : l.find? (fun x => x.f0 == v) = none := by
  rw [List.find?_eq_none]
  intro x hx
  obtain ⟨j, hj, rfl⟩ := List.getElem_of_mem hx
  simp [h j hj]
/-- What 'at' answers, where the row is read: a place that holds what the block holds, or a refusal. -/
theorem at_reads {w : World} {A : Option Addr} {l : List S49} {v b : Int} {e : Ending} (hr : Kd.C k49 w A l.length l) (h : AtV w A l v b e) :
    (∃ p, e = .returned (.tuple #[.pointer (some p), .int .i64 0]) ∧ w.cell? p = some (.string (getV l v b).1) ∧ (getV l v b).2 = 0) ∨
    (e = .returned (.tuple #[.pointer none, .int .i64 (getV l v b).2]) ∧ (getV l v b).2 ≠ 0 ∧ (getV l v b).1 = ⟨#[]⟩) := by
  rcases h with ⟨kk, hF, h⟩ | ⟨h, rfl⟩
  · have hg : getV l v b = if b < 0 ∨ b ≥ ((rd_T49 l (kk : Int)).f1.length : Int) then (⟨#[]⟩, 10) else (gets9 (rd_T49 l (kk : Int)).f1 b.toNat, 0) := by unfold getV; rw [first_find hF]
    rcases h with ⟨hb, rfl⟩ | ⟨hb, ad, Ad1, c1, rfl, hcell, rfl⟩
    · right
      rw [if_pos hb] at hg
      rw [hg]
      exact ⟨rfl, by simp, rfl⟩
    · left
      rw [if_neg (by omega)] at hg
      rw [hg]
      refine ⟨_, rfl, ?_, rfl⟩
      obtain ⟨ad', A1, c1', e1, _, d1, hl1, hC1⟩ := at_T49 hr (kk : Int) (by omega) (by have := hF.1; omega)
      injection e1 with e1
      subst e1
      rw [Int.toNat_natCast, hcell] at d1
      injection d1 with d1
      injection d1 with d1 _ _
      subst d1
      obtain ⟨ad1, e2, hc⟩ := at9 hC1 b.toNat (by omega)
      injection e2 with e2
      subst e2
      exact hc
  · right
    have hg : getV l v b = (⟨#[]⟩, 8) := by unfold getV; rw [none_find h]
    rw [hg]
    exact ⟨rfl, by simp, rfl⟩

set_option maxRecDepth 100000 in
set_option maxHeartbeats 4000000 in
theorem vols_Get.calls (A0 : Option Addr) (c0 : Nat) (l0 : List S49) (a1 a2 : Int) (r1 : ByteArray) (r2 : Int) (w : World) (hr0 : Kd.C k49 w A0 l0.length l0) (hc0 : l0.length ≤ c0) (h : vols_Get.f l0 a1 a2 = some (r1, r2)) :
    Calls Try.prog 39 #[.slice A0 l0.length c0, .int .i64 a1, .int .i64 a2] w fun e w' => e = .returned (.tuple #[.string r1, .int .i64 r2]) ∧ Below w.heap.size w w' := by
  unfold vols_Get.f at h
  injection h with h
  have hR := vols_Right.calls A0 c0 l0 _ w hr0 hc0 rfl
  cases hb : rightV l0 with
  | false =>
    rw [hb] at h hR
    simp at h
    obtain ⟨rfl, rfl⟩ := h
    clear hr0
    go_enter Try.func39, Try.ntmps39
    go_wp2_with (go_at_call 66; refine hR.mono ?_; rintro e w2 ⟨rfl, hb⟩)
    refine bodyPost_ret (v := .tuple #[.string ⟨#[]⟩, .int .i64 1]) ?_ rfl ⟨rfl, hb⟩
    simp [results, Try.results39, go_sem]
  | true =>
    rw [hb] at h hR
    rw [if_pos rfl] at h
    have HAT := Aside0.mk (fun (W : World) (hW : Below w.heap.size w W) => (at_calls A0 c0 l0 a1 a2 W (Kd.C_below hr0 hW) hc0).mono (fun e w' hh => show w' = W ∧ _ from ⟨hh.1, at_reads (Kd.C_below hr0 hW) hh.2⟩))
    rw [h] at HAT
    clear hr0 h hb
    have h33 := Try.underlying33
    go_enter Try.func39, Try.ntmps39
    by_cases hz : r2 = 0
    · subst hz
      go_wp2_with (first
        | (go_at_call 66; refine hR.mono ?_; rintro e w2 ⟨rfl, hb⟩; have HB := Aside0.mk hb; clear hb)
        | (go_at_call 97; refine (HAT.out _ HB.out).mono ?_; rintro e w3 ⟨rfl, ⟨p, rfl, hcell, _⟩ | ⟨_, h2, _⟩⟩; rotate_left; exact absurd rfl h2))
      refine bodyPost_ret (v := .tuple #[.string r1, .int .i64 0]) ?_ rfl ⟨rfl, HB.out⟩
      simp [results, Try.results39, go_sem]
    · have e1 : (r2 != 0) = true := bne_iff_ne.mpr hz
      go_wp2_with (first
        | (go_at_call 66; refine hR.mono ?_; rintro e w2 ⟨rfl, hb⟩; have HB := Aside0.mk hb; clear hb)
        | (go_at_call 97; refine (HAT.out _ HB.out).mono ?_; rintro e w3 ⟨rfl, ⟨p, rfl, hcell, h2⟩ | ⟨rfl, h2, h3⟩⟩; exact absurd h2 hz))
      refine bodyPost_ret (v := .tuple #[.string r1, .int .i64 r2]) ?_ rfl ⟨rfl, HB.out⟩
      simp [results, Try.results39, go_sem, ← h3]
end Go.Proofs.Ythdhkoeaadahaaa.P
