/- What blocks hold, picked as writes. -/
import Derived.Test.YthdhkoeaadahaaaVolsCore2
import Derived.Test.YthdhkoeaadahaaaPx77
namespace Go.Proofs.Ythdhkoeaadahaaa.VolsCore
open Go.RowKit Go.Proofs.Ythdhkoeaadahaaa.P Go.Proofs.YthdhkoeaadahaaaW.PrintWords Go.Proofs.YthdhkoeaadahaaaW.PrintLast
set_option linter.unusedVariables false
/-- What marks pick: the first error, or the writes. -/
def pickV (l : List S49) : List S124 → List S74 → List S74 × Int
  | [], o => (o, 0)
  | m :: r, o => if (getV l m.f0 m.f1).2 = 0 then pickV l r (o ++ [⟨m.f0, m.f1, (getV l m.f0 m.f1).1⟩]) else ([], (getV l m.f0 m.f1).2)
def pickR (l : List S49) (ms : List S124) : List S74 × Int := if rightV l = true then pickV l ms [] else ([], 1)
theorem drop124 (l : List S124) {i : Nat} (h : i < l.length) : l.drop i = rd_T124 l (i : Int) :: l.drop (i + 1) := by
  unfold rd_T124
  rw [List.drop_eq_getElem_cons h, Int.toNat_natCast, List.getD_eq_getElem?_getD, List.getElem?_eq_getElem h, Option.getD_some]
theorem pick_ev (l : List S49) (ms : List S124) (h : ms.length ≤ 10000) : Ev (fun k => fold_Pick.f k l ms) (pickR l ms) := by
  have loop : rightV l = true → ∀ (d i : Nat) (o : List S74), i + d = ms.length → o.length ≤ i → Ev (fun k => fold_Pick.l0 k l o ms (ms.length : Int) (i : Int)) (pickV l (ms.drop i) o) := by
    intro hr d
    induction d with
    | zero =>
      intro i o hi ho
      refine Ev.succ ?_
      simp only [fold_Pick.l0]
      rw [List.drop_eq_nil_of_le (by omega)]
      exact Ev.neg (by omega) (Ev.now _)
    | succ d ih =>
      intro i o hi ho
      have hg := vget_ev l (rd_T124 ms (i : Int)).f0 (rd_T124 ms (i : Int)).f1
      rw [if_pos hr] at hg
      refine Ev.succ ?_
      simp only [fold_Pick.l0]
      rw [wrap_succ (by omega), drop124 ms (i := i) (by omega), pickV]
      refine Ev.pos (by omega) (Ev.pos (by omega) (Ev.pos (by omega) (Ev.bind hg ?_)))
      by_cases hz : (getV l (rd_T124 ms (i : Int)).f0 (rd_T124 ms (i : Int)).f1).2 = 0
      · rw [if_pos hz]
        exact Ev.pos hz (Ev.pos (by omega) (ih (i + 1) _ (by omega) (by simp; omega)))
      · rw [if_neg hz]
        exact Ev.neg hz (Ev.now _)
  unfold fold_Pick.f pickR
  refine Ev.bind (Ev.const (show vols_Right.f l = some (rightV l) from rfl)) ?_
  cases hr : rightV l with
  | true =>
    have := loop hr ms.length 0 [] (by omega) (by simp)
    rw [List.drop_zero] at this
    rw [if_pos rfl]
    exact Ev.pos rfl this
  | false =>
    rw [if_neg (by simp)]
    exact Ev.neg (by simp) (Ev.now _)
theorem pickV_length (l : List S49) : ∀ (ms : List S124) (o : List S74), (pickV l ms o).1.length ≤ o.length + ms.length
  | [], o => by simp [pickV]
  | m :: r, o => by
    rw [pickV]
    split
    · have := pickV_length l r (o ++ [⟨m.f0, m.f1, (getV l m.f0 m.f1).1⟩])
      rw [List.length_append, List.length_singleton] at this
      rw [List.length_cons]; omega
    · simp
theorem pickR_length (l : List S49) (ms : List S124) : (pickR l ms).1.length ≤ ms.length := by
  unfold pickR
  split
  · have := pickV_length l ms []
    simpa using this
  · simp
end Go.Proofs.Ythdhkoeaadahaaa.VolsCore
