/- The reference's Equal over volumes; equal volumes are one. -/
import Derived.Test.YthdhkoeaadahaaaVolsCore
import Derived.Test.YthdhkoeaadahaaaEVSame
import Derived.Test.YthdhkoeaadahaaaPx61
namespace Go.Proofs.Ythdhkoeaadahaaa.VolsCore
open Go.RowKit Go.Proofs.Ythdhkoeaadahaaa.P Go.Proofs.YthdhkoeaadahaaaW.PrintWords Go.Proofs.YthdhkoeaadahaaaW.PrintLast
set_option linter.unusedVariables false

theorem eqL_iff {a b : List ByteArray} : eqL a b = true ↔ a = b := decide_eq_true_iff
theorem eqV_iff {x y : S49} : eqV x y = true ↔ x = y := by
  unfold eqV
  cases x with
  | mk a b =>
    cases y with
    | mk c d =>
      by_cases h : a = c
      · rw [if_pos h, eqL_iff]
        simp [h]
      · rw [if_neg h]
        simp [h]
theorem eqVs_iff : ∀ {l m : List S49}, eqVs l m = true ↔ l = m
  | [], [] => by simp [eqVs]
  | [], _ :: _ => by simp [eqVs]
  | _ :: _, [] => by simp [eqVs]
  | x :: l, y :: m => by rw [eqVs, Bool.and_eq_true, eqV_iff, eqVs_iff, List.cons.injEq]
theorem eqVs_self (l : List S49) : eqVs l l = true := eqVs_iff.2 rfl
theorem bytes_eq {s t : ByteArray} (h : s.toList = t.toList) : s = t := by
  refine ByteArray.ext (Array.ext' ?_)
  rw [← ByteArray.toList_eq, ← ByteArray.toList_eq]; exact h

theorem equal_ev (l m : List S49) (hl : l.length ≤ 1000) (hb : ∀ x ∈ l, x.f1.length ≤ 1000) : Ev (fun k => counterfoilref07_Equal.f k l m) (eqVs l m) := by
  have inner : ∀ (R : Bool) (i : Nat), i < l.length → i < m.length → (rd_T49 l (i : Int)).f1.length = (rd_T49 m (i : Int)).f1.length → Ev (fun k => counterfoilref07_Equal.l0 k l m ((i + 1 : Nat) : Int)) R → ∀ d j : Nat, j + d = (rd_T49 l (i : Int)).f1.length →
      Ev (fun k => counterfoilref07_Equal.l1 k l m (i : Int) (j : Int)) (eqL ((rd_T49 l (i : Int)).f1.drop j) ((rd_T49 m (i : Int)).f1.drop j) && R) := by
    intro R i hi hi2 hle hR d
    have hx := hb _ (mem49 hi)
    induction d with
    | zero =>
      intro j hj
      refine Ev.succ ?_
      simp only [counterfoilref07_Equal.l1]
      rw [List.drop_eq_nil_of_le (by omega), List.drop_eq_nil_of_le (by omega), wrap_succ (i := i) (by omega), eqL_iff.2 rfl, Bool.true_and]
      exact Ev.pos (by omega) (Ev.pos (by omega) (Ev.neg (by omega) hR))
    | succ d ih =>
      intro j hj
      refine Ev.succ ?_
      simp only [counterfoilref07_Equal.l1]
      rw [rdOf_gets, rdOf_gets, Int.toNat_natCast, drop9 _ (i := j) (by omega), drop9 (rd_T49 m (i : Int)).f1 (i := j) (by omega)]
      refine Ev.pos (by omega) (Ev.pos (by omega) (Ev.pos (by omega) (Ev.pos (by omega) (Ev.pos (by omega) (Ev.pos (by omega) ?_)))))
      by_cases h : (gets9 (rd_T49 l (i : Int)).f1 j).toList = (gets9 (rd_T49 m (i : Int)).f1 j).toList
      · rw [eqL_cons _ _ _ _ (bytes_eq h), wrap_succ (i := j) (by omega)]
        exact Ev.pos h (ih (j + 1) (by omega))
      · rw [eqL_ne _ _ _ _ (fun e => h (by rw [e])), Bool.false_and]
        exact Ev.neg h (Ev.now _)
  have outer : ∀ (d i : Nat), i + d = l.length → m.length = l.length → Ev (fun k => counterfoilref07_Equal.l0 k l m (i : Int)) (eqVs (l.drop i) (m.drop i)) := by
    intro d
    induction d with
    | zero =>
      intro i hi hm
      refine Ev.succ ?_
      simp only [counterfoilref07_Equal.l0]
      rw [List.drop_eq_nil_of_le (by omega), List.drop_eq_nil_of_le (by omega)]
      exact Ev.neg (by omega) (Ev.now _)
    | succ d ih =>
      intro i hi hm
      have no : Ev (fun k => counterfoilref07_Equal.j1 k l m (i : Int) true) false := by
        refine Ev.succ ?_
        simp only [counterfoilref07_Equal.j1]
        exact Ev.pos (by simp) (Ev.now _)
      rw [drop49 l (i := i) (by omega), drop49 m (i := i) (by omega), eqVs]
      unfold eqV
      refine Ev.succ ?_
      simp only [counterfoilref07_Equal.l0]
      refine Ev.pos (by omega) (Ev.pos (by omega) (Ev.pos (by omega) ?_))
      by_cases h : (rd_T49 l (i : Int)).f0 = (rd_T49 m (i : Int)).f0
      · rw [if_pos h]
        refine Ev.pos h ?_
        by_cases h2 : (rd_T49 l (i : Int)).f1.length = (rd_T49 m (i : Int)).f1.length
        · have e : (((rd_T49 l (i : Int)).f1.length : Int) != ((rd_T49 m (i : Int)).f1.length : Int)) = false := by rw [h2]; simp
          rw [e]
          refine Ev.succ ?_
          simp only [counterfoilref07_Equal.j1]
          have := inner _ i (by omega) (by omega) h2 (ih (i + 1) (by omega) hm) _ 0 (Nat.zero_add _)
          rw [List.drop_zero, List.drop_zero] at this
          exact Ev.neg (by simp) this
        · have e : (((rd_T49 l (i : Int)).f1.length : Int) != ((rd_T49 m (i : Int)).f1.length : Int)) = true := by
            rw [bne_iff_ne]; omega
          rw [e, eqL_len h2, Bool.false_and]
          exact no
      · rw [if_neg h, Bool.false_and]
        exact Ev.neg h no
  unfold counterfoilref07_Equal.f
  by_cases h : (l.length : Int) = (m.length : Int)
  · have := outer l.length 0 (by omega) (by omega)
    rw [List.drop_zero, List.drop_zero] at this
    exact Ev.pos h this
  · rw [eqVs_len (by omega)]
    exact Ev.neg h (Ev.now _)
theorem vsame_ev (l m : List S49) : Ev (fun _ => vols_Same.f l m) (rightV l && rightV m && eqVs l m) := Ev.const rfl
theorem vsame_self (l : List S49) : (rightV l && rightV l && eqVs l l) = rightV l := by rw [eqVs_self]; simp
end Go.Proofs.Ythdhkoeaadahaaa.VolsCore
