-- PACKED by wip/kit/pack.py: what the law's proof uses of VolsCore2 (printed words and texts of this seat)
import Derived.Test.YthdhkoeaadahaaaSEVGet
import Derived.Test.YthdhkoeaadahaaaSPx23
import Derived.Test.YthdhkoeaadahaaaSEVSame
import Derived.Test.YthdhkoeaadahaaaSPx44
namespace Go.Proofs.Ythdhkoeaadahaaa.VolsCore
open Go.RowKit Go.Proofs.Ythdhkoeaadahaaa.P Go.Proofs.YthdhkoeaadahaaaW.PrintWords Go.Proofs.YthdhkoeaadahaaaW.PrintLast
set_option linter.unusedVariables false
section
variable {α β : Type} {A B g : Nat → Option α} {r : α} {c : Prop} [Decidable c]
theorem Ev.pos (h : c) (hA : Ev A r) : Ev (fun k => if c then A k else B k) r := by simpa only [if_pos h] using hA
theorem Ev.neg (h : ¬ c) (hB : Ev B r) : Ev (fun k => if c then A k else B k) r := by simpa only [if_neg h] using hB
theorem Ev.succ (h : Ev (fun k => g (k + 1)) r) : Ev g r := Ev.step (fun _ => rfl) h
theorem Ev.const {a : Option α} (h : a = some r) : Ev (fun _ => a) r := ⟨0, fun _ _ => h⟩
end
theorem wrap_succ {i : Nat} (h : i < 9223372036854775807) : wrap64 ((i : Int) + 1) = ((i + 1 : Nat) : Int) := by unfold wrap64; omega
theorem wrap_pred {i : Nat} (h : i < 9223372036854775807) : wrap64 (((i + 1 : Nat) : Int) - 1) = (i : Int) := by unfold wrap64; omega
theorem rdOf_gets (l : List ByteArray) (i : Int) : rdOf ByteArray.empty l i = gets9 l i.toNat := rfl
theorem drop9 (l : List ByteArray) {i : Nat} (h : i < l.length) : l.drop i = gets9 l i :: l.drop (i + 1) := by
  rw [List.drop_eq_getElem_cons h, gets9_at l i h]
theorem mem49 {l : List S49} {i : Nat} (h : i < l.length) : rd_T49 l (i : Int) ∈ l := by rw [rd49 l i h]; exact List.getElem_mem h
theorem small_ev (l : List S49) (ws : List S74) (hb : l.length < 9223372036854775807) : ∃ t, Ev (fun k => counterfoilref07_Small.f k l ws) t ∧ (t = true → l.length ≤ 10 ∧ ws.length ≤ 200 ∧ ∀ x ∈ l, x.f1.length ≤ 100) := by
  have loop : ∀ (d i : Nat), i + d = l.length → ∃ t, Ev (fun k => counterfoilref07_Small.l0 k l (i : Int)) t ∧ (t = true → ∀ x ∈ l.drop i, x.f1.length ≤ 100) := by
    intro d
    induction d with
    | zero =>
      intro i hi
      refine ⟨true, Ev.succ ?_, fun _ => ?_⟩
      · simp only [counterfoilref07_Small.l0]
        exact Ev.neg (by omega) (Ev.now _)
      · rw [List.drop_eq_nil_of_le (by omega)]
        intro x hx; simp at hx
    | succ d ih =>
      intro i hi
      by_cases h1 : (((rd_T49 l (i : Int)).f1).length : Int) > 100
      · refine ⟨false, Ev.succ ?_, fun h => by simp at h⟩
        simp only [counterfoilref07_Small.l0]
        exact Ev.pos (by omega) (Ev.pos (by omega) (Ev.pos h1 (Ev.now _)))
      · obtain ⟨t, ht, hl⟩ := ih (i + 1) (by omega)
        refine ⟨t, Ev.succ ?_, fun h => ?_⟩
        · simp only [counterfoilref07_Small.l0]
          rw [wrap_succ (by omega)]
          exact Ev.pos (by omega) (Ev.pos (by omega) (Ev.neg h1 ht))
        · rw [drop49 l (i := i) (by omega)]
          intro x hx
          rcases List.mem_cons.1 hx with rfl | hx
          · omega
          · exact hl h x hx
  obtain ⟨t, ht, hl⟩ := loop l.length 0 (by omega)
  unfold counterfoilref07_Small.f
  have no : Ev (fun k => counterfoilref07_Small.j0 k l true) false := by
    refine Ev.succ ?_
    simp only [counterfoilref07_Small.j0]
    exact Ev.pos (by simp) (Ev.now _)
  by_cases h1 : (l.length : Int) > 10
  · exact ⟨false, Ev.pos h1 no, fun h => by simp at h⟩
  · by_cases h2 : (ws.length : Int) > 200
    · refine ⟨false, Ev.neg h1 ?_, fun h => by simp at h⟩
      rw [decide_eq_true h2]; exact no
    · refine ⟨t, Ev.neg h1 ?_, fun h => ⟨by omega, by omega, by simpa using hl h⟩⟩
      rw [decide_eq_false h2]
      refine Ev.succ ?_
      simp only [counterfoilref07_Small.j0]
      exact Ev.neg (by simp) ht
theorem right_ev (l : List S49) (hl : l.length ≤ 1000) (hb : ∀ x ∈ l, x.f1.length ≤ 1000) : Ev (fun k => counterfoilref07_Right.f k l) (rightV l) := by
  have inner : ∀ (R : Bool) (i : Nat), i < l.length → Ev (fun k => counterfoilref07_Right.l0 k l ((i + 1 : Nat) : Int)) R → ∀ d j : Nat, j + d = (rd_T49 l (i : Int)).f1.length →
      Ev (fun k => counterfoilref07_Right.l1 k l (i : Int) (j : Int)) (!(((rd_T49 l (i : Int)).f1.drop j).any longS) && R) := by
    intro R i hi hR d
    have hx := hb _ (mem49 hi)
    induction d with
    | zero =>
      intro j hj
      refine Ev.succ ?_
      simp only [counterfoilref07_Right.l1]
      rw [List.drop_eq_nil_of_le (by omega), wrap_succ (i := i) (by omega)]
      rw [List.any_nil, Bool.not_false, Bool.true_and]
      exact Ev.pos (by omega) (Ev.pos (by omega) (Ev.neg (by omega) hR))
    | succ d ih =>
      intro j hj
      refine Ev.succ ?_
      simp only [counterfoilref07_Right.l1]
      rw [rdOf_gets, Int.toNat_natCast, drop9 _ (i := j) (by omega), List.any_cons]
      refine Ev.pos (by omega) (Ev.pos (by omega) (Ev.pos (by omega) (Ev.pos (by omega) ?_)))
      by_cases h8 : ((gets9 (rd_T49 l (i : Int)).f1 j).size : Int) > 8
      · have e : longS (gets9 (rd_T49 l (i : Int)).f1 j) = true := decide_eq_true h8
        rw [e]
        exact Ev.pos h8 (Ev.now _)
      · have e : longS (gets9 (rd_T49 l (i : Int)).f1 j) = false := decide_eq_false h8
        rw [e, Bool.false_or, wrap_succ (by omega)]
        exact Ev.neg h8 (ih (j + 1) (by omega))
  have outer : ∀ (d i : Nat) (last : Int), i + d = l.length → (i = 0 → last = 0) → (∀ p, i = p + 1 → last = (rd_T49 l (p : Int)).f0 ∧ 1 ≤ last) → Ev (fun k => counterfoilref07_Right.l0 k l (i : Int)) (rightFrom last (l.drop i)) := by
    intro d
    induction d with
    | zero =>
      intro i last hi _ _
      refine Ev.succ ?_
      simp only [counterfoilref07_Right.l0]
      rw [List.drop_eq_nil_of_le (by omega)]
      exact Ev.neg (by omega) (Ev.now _)
    | succ d ih =>
      intro i last hi h0 hp
      have hlt : i < l.length := by omega
      rw [drop49 l hlt, rightFrom]
      have no : Ev (fun k => counterfoilref07_Right.j1 k l (i : Int) true) false := by
        refine Ev.succ ?_
        simp only [counterfoilref07_Right.j1]
        exact Ev.pos (by simp) (Ev.now _)
      have bad : badV last (rd_T49 l (i : Int)) = true → (!(badV last (rd_T49 l (i : Int))) && rightFrom (rd_T49 l (i : Int)).f0 (l.drop (i + 1))) = false := fun h => by rw [h]; rfl
      have hlast : i = 0 ∧ last = 0 ∨ ∃ p, i = p + 1 ∧ last = (rd_T49 l (p : Int)).f0 ∧ 1 ≤ last := by
        rcases Nat.eq_zero_or_pos i with h | h
        · exact .inl ⟨h, h0 h⟩
        · obtain ⟨p, hp'⟩ : ∃ p, i = p + 1 := ⟨i - 1, by omega⟩
          exact .inr ⟨p, hp', hp p hp'⟩
      have hx := hb _ (mem49 hlt)
      have last0 : 0 ≤ last := by rcases hlast with ⟨_, h⟩ | ⟨_, _, _, h⟩ <;> omega
      have ih' : 1 ≤ (rd_T49 l (i : Int)).f0 → Ev (fun k => counterfoilref07_Right.l0 k l ((i + 1 : Nat) : Int)) (rightFrom (rd_T49 l (i : Int)).f0 (l.drop (i + 1))) := fun h => ih (i + 1) _ (by omega) (fun h => by omega) (fun p hp => by
        obtain rfl : p = i := by omega
        exact ⟨rfl, h⟩)
      refine Ev.succ ?_
      simp only [counterfoilref07_Right.l0]
      refine Ev.pos (by omega) (Ev.pos (by omega) ?_)
      by_cases c1 : (rd_T49 l (i : Int)).f0 < 1
      · rw [bad (by unfold badV; rw [decide_eq_true (by omega)]; rfl)]
        exact Ev.pos c1 no
      refine Ev.neg c1 ?_
      by_cases c2 : (rd_T49 l (i : Int)).f0 > 255
      · rw [bad (by unfold badV; rw [decide_eq_true (p := (rd_T49 l (i : Int)).f0 > 255) c2]; simp)]
        exact Ev.pos c2 no
      refine Ev.neg c2 ?_
      have tail : ¬ (rd_T49 l (i : Int)).f0 ≤ last → Ev (fun k => if (((rd_T49 l (i : Int)).f1).length : Int) < 1 then counterfoilref07_Right.j1 k l (i : Int) true else counterfoilref07_Right.j1 k l (i : Int) (decide ((((rd_T49 l (i : Int)).f1).length : Int) > 32))) (!(badV last (rd_T49 l (i : Int))) && rightFrom (rd_T49 l (i : Int)).f0 (l.drop (i + 1))) := by
        intro c3
        by_cases c4 : (((rd_T49 l (i : Int)).f1).length : Int) < 1
        · rw [bad (by unfold badV sizeB; rw [if_neg (by omega)]; simp)]
          exact Ev.pos c4 no
        refine Ev.neg c4 ?_
        by_cases c5 : (((rd_T49 l (i : Int)).f1).length : Int) > 32
        · rw [bad (by unfold badV sizeB; rw [if_pos (by omega), decide_eq_false (p := (((rd_T49 l (i : Int)).f1).length : Int) ≤ 32) (by omega)]; simp)]
          rw [decide_eq_true c5]
          exact no
        · rw [decide_eq_false c5]
          refine Ev.succ ?_
          simp only [counterfoilref07_Right.j1]
          have e : badV last (rd_T49 l (i : Int)) = (rd_T49 l (i : Int)).f1.any longS := by
            unfold badV sizeB
            rw [if_pos (by omega), decide_eq_true (p := (((rd_T49 l (i : Int)).f1).length : Int) ≤ 32) (by omega), decide_eq_false c3, decide_eq_false c2]
            rfl
          rw [e]
          have := inner _ i hlt (ih' (by omega)) _ 0 (Nat.zero_add _)
          rw [List.drop_zero] at this
          exact Ev.neg (by simp) this
      rcases hlast with ⟨hi0, hl0⟩ | ⟨p, hi1, hl1, _⟩
      · exact Ev.neg (by omega) (tail (by omega))
      · have ew : wrap64 ((i : Int) - 1) = (p : Int) := by rw [hi1]; exact wrap_pred (by omega)
        rw [ew]
        refine Ev.pos (by omega) (Ev.pos (by omega) (Ev.pos (by omega) ?_))
        by_cases c3 : (rd_T49 l (p : Int)).f0 ≥ (rd_T49 l (i : Int)).f0
        · rw [bad (by unfold badV; rw [decide_eq_true (by omega)]; rfl)]
          exact Ev.pos c3 no
        · exact Ev.neg c3 (tail (by omega))
  unfold counterfoilref07_Right.f rightV
  by_cases h4 : (l.length : Int) > 4
  · rw [decide_eq_false (by omega), Bool.and_false]
    exact Ev.pos h4 (Ev.now _)
  · rw [decide_eq_true (by omega), Bool.and_true]
    have := outer l.length 0 0 (by omega) (fun _ => rfl) (fun p h => by omega)
    rw [List.drop_zero] at this
    exact Ev.neg h4 this
end Go.Proofs.Ythdhkoeaadahaaa.VolsCore
namespace Go.Proofs.Ythdhkoeaadahaaa.VolsCore
open Go.RowKit Go.Proofs.Ythdhkoeaadahaaa.P Go.Proofs.YthdhkoeaadahaaaW.PrintWords Go.Proofs.YthdhkoeaadahaaaW.PrintLast
set_option linter.unusedVariables false
theorem eqL_iff {a b : List ByteArray} : eqL a b = true ↔ a = b := decide_eq_true_iff
theorem eqV_iff {x y : S49} : eqV x y = true ↔ x = y := by
  unfold eqV
  cases x with
  | mk a b =>
    cases y with
    | mk c d =>
      by_cases h : a = c
      · rw [if_pos h, eqL_iff]
        simp [h]
      · rw [if_neg h]
        simp [h]
theorem eqVs_iff : ∀ {l m : List S49}, eqVs l m = true ↔ l = m
  | [], [] => by simp [eqVs]
  | [], _ :: _ => by simp [eqVs]
  | _ :: _, [] => by simp [eqVs]
  | x :: l, y :: m => by rw [eqVs, Bool.and_eq_true, eqV_iff, eqVs_iff, List.cons.injEq]
theorem eqVs_self (l : List S49) : eqVs l l = true := eqVs_iff.2 rfl
theorem vsame_ev (l m : List S49) : Ev (fun _ => vols_Same.f l m) (rightV l && rightV m && eqVs l m) := Ev.const rfl
theorem vsame_self (l : List S49) : (rightV l && rightV l && eqVs l l) = rightV l := by rw [eqVs_self]; simp
end Go.Proofs.Ythdhkoeaadahaaa.VolsCore
