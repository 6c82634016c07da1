/- Up to where two histories are one, whether one lies ahead of the other, and whether they are the same, is told as the reference tells it; no condition. -/
import Derived.Test.YtlkfmmjoiadoiaaLineCore2
import Derived.Test.YtlkfmmjoiadoiaaLineCore3
import Derived.Test.YtlkfmmjoiadoiaaLineCore4
import Derived.Test.YtlkfmmjoiadoiaaPx22
namespace Go.Proofs.Ytlkfmmjoiadoiaa.Pure
open Go.RowKit Go.Proofs.Ytlkfmmjoiadoiaa.P Go.Proofs.Ytlkfmmjoiadoiaa.LineCore Go.Proofs.YtlkfmmjoiadoiaaW.PrintWords Go.Proofs.YtlkfmmjoiadoiaaW.PrintLast
theorem requal_loop (a b : List S61) (hl : a.length = b.length) (hm : a.length ≤ 9223372036854775806) (d : Nat) : ∀ i : Nat, i + d = a.length → Ev (fun k => counterfoilref11_Equal.l0 k a b (i : Int)) (decide (lcp (a.drop i) (b.drop i) = d)) := by
  induction d with
  | zero =>
    intro i hi
    refine Ev.succ ?_
    simp only [counterfoilref11_Equal.l0]
    rw [List.drop_eq_nil_of_le (by omega), decide_eq_true (by simp [lcp])]
    exact Ev.neg (by omega) (Ev.now _)
  | succ d ih =>
    intro i hi
    refine Ev.succ ?_
    simp only [counterfoilref11_Equal.l0]
    rw [lcp_drop_lt (by omega) (by omega)]
    refine Ev.pos (by omega) (Ev.pos (by omega) (Ev.pos (by omega) ?_))
    rw [neB]
    cases h : eqB (rd_T61 a (i : Int)) (rd_T61 b (i : Int)) with
    | false =>
      rw [if_neg (by simp), decide_eq_false (by omega)]
      exact Ev.pos rfl (Ev.now _)
    | true =>
      rw [if_pos rfl, wrap_succ (by omega), show decide (lcp (a.drop (i + 1)) (b.drop (i + 1)) + 1 = d + 1) = decide (lcp (a.drop (i + 1)) (b.drop (i + 1)) = d) by rw [decide_eq_decide]; omega]
      exact Ev.neg (by simp) (ih (i + 1) (by omega))
theorem requal_ev (a b : List S61) (hm : a.length ≤ 9223372036854775806) : Ev (fun k => counterfoilref11_Equal.f k a b) (equalS a b) := by
  unfold counterfoilref11_Equal.f equalS
  by_cases h : a.length = b.length
  · refine Ev.pos (by omega) ?_
    rw [show decide (a.length = b.length ∧ lcp a b = a.length) = decide (lcp (a.drop 0) (b.drop 0) = a.length) by rw [decide_eq_decide]; simp [h]]
    exact requal_loop a b h hm a.length 0 (by omega)
  · rw [decide_eq_false (fun z => h z.1)]
    exact Ev.neg (by omega) (Ev.now _)
/-- The place of the branch at which a line parts from another; -1: none. -/
def partsS (a b : List S61) : Int := if lcp a b < a.length then (rd_T61 a (lcp a b : Int)).f1 else -1
theorem parts_loop (a b : List S61) (hm : a.length ≤ 9223372036854775806) (d : Nat) : ∀ i : Nat, lcp (a.drop i) (b.drop i) = d → i ≤ a.length →
    Ev (fun k => counterfoilref11_Parts.l0 k a b (i : Int)) (if i + d < a.length then (rd_T61 a ((i + d : Nat) : Int)).f1 else -1) := by
  induction d with
  | zero =>
    intro i hd hi
    refine Ev.succ ?_
    simp only [counterfoilref11_Parts.l0]
    by_cases h1 : i < a.length
    · rw [if_pos (show i + 0 < a.length by omega), Nat.add_zero]
      refine Ev.pos (by omega) ?_
      by_cases h2 : i < b.length
      · rw [lcp_drop_lt h1 h2] at hd
        refine Ev.neg (by omega) (Ev.pos (by omega) (Ev.pos (by omega) ?_))
        rw [neB]
        cases h : eqB (rd_T61 a (i : Int)) (rd_T61 b (i : Int)) with
        | true => rw [if_pos h] at hd; omega
        | false => exact Ev.pos rfl (Ev.now _)
      · exact Ev.pos (by omega) (Ev.pos (by omega) (Ev.now _))
    · rw [if_neg (show ¬ i + 0 < a.length by omega)]
      exact Ev.neg (by omega) (Ev.now _)
  | succ d ih =>
    intro i hd hi
    have h1 : i < a.length := by
      rcases Nat.lt_or_ge i a.length with h | h
      · exact h
      · rw [List.drop_eq_nil_of_le h] at hd
        simp [lcp] at hd
    have h2 : i < b.length := by
      rcases Nat.lt_or_ge i b.length with h | h
      · exact h
      · rw [List.drop_eq_nil_of_le h, drop_cons a h1] at hd
        simp [lcp] at hd
    rw [lcp_drop_lt h1 h2] at hd
    have h3 : eqB (rd_T61 a (i : Int)) (rd_T61 b (i : Int)) = true := by
      by_cases h : eqB (rd_T61 a (i : Int)) (rd_T61 b (i : Int)) = true
      · exact h
      · rw [if_neg h] at hd
        omega
    rw [if_pos h3] at hd
    refine Ev.succ ?_
    simp only [counterfoilref11_Parts.l0]
    rw [neB, h3]
    refine Ev.pos (by omega) (Ev.neg (by omega) (Ev.pos (by omega) (Ev.pos (by omega) (Ev.neg (by simp) ?_))))
    rw [wrap_succ (by omega), show i + (d + 1) = i + 1 + d by omega]
    exact ih (i + 1) (by omega) (by omega)
theorem parts_ev (a b : List S61) (hm : a.length ≤ 9223372036854775806) : Ev (fun k => counterfoilref11_Parts.f k a b) (partsS a b) := by
  unfold counterfoilref11_Parts.f partsS
  have := parts_loop a b hm (lcp a b) 0 (by simp) (by omega)
  rw [Nat.zero_add] at this
  exact this
theorem rcommon_ev (a : List S61) (s : Int) (b : List S61) (t : Int) : Ev (fun k => counterfoilref11_Common.f k a s b t) (commonS a s b t) := by
  have hno : Ev (fun k => counterfoilref11_Common.j0 k true a s b t) (-1) := by
    refine Ev.succ ?_
    simp only [counterfoilref11_Common.j0, if_true]
    exact Ev.now _
  unfold counterfoilref11_Common.f commonS
  refine Ev.bind (rplaced_ev a s) ?_
  cases ha : placedS a s with
  | false => simp only [Bool.false_and]; exact Ev.neg (by simp) hno
  | true =>
    refine Ev.pos rfl (Ev.bind (rplaced_ev b t) ?_)
    cases hb : placedS b t with
    | false => simp only [Bool.and_false, Bool.false_and]; exact Ev.neg (by simp) hno
    | true =>
      have la := right_len (Bool.and_eq_true_iff.1 ha).1
      have lb := right_len (Bool.and_eq_true_iff.1 hb).1
      refine Ev.pos rfl (Ev.pos (by omega) (Ev.pos (by omega) ?_))
      rw [neB]
      cases h : eqB (rd_T61 a 0) (rd_T61 b 0) with
      | false => exact hno
      | true =>
        rw [if_pos (by rfl)]
        have hx : partsS a b = if lcp a b < a.length then (rd_T61 a (lcp a b : Int)).f1 else -1 := rfl
        have hy : partsS b a = if lcp a b < b.length then (rd_T61 b (lcp a b : Int)).f1 else -1 := by unfold partsS; rw [lcp_comm b a]
        have ax : lcp a b < a.length → 0 ≤ (rd_T61 a (lcp a b : Int)).f1 := fun hl => by
          have := (chain_mono la.2.2.2 (lcp a b) (lcp a b) (Nat.le_refl _) hl).2
          rwa [← rd_nat] at this
        have bx : lcp a b < b.length → 0 ≤ (rd_T61 b (lcp a b : Int)).f1 := fun hl => by
          have := (chain_mono lb.2.2.2 (lcp a b) (lcp a b) (Nat.le_refl _) hl).2
          rwa [← rd_nat] at this
        have j2 : ∀ (n x y : Int) (c : Bool), Ev (fun k => counterfoilref11_Common.j2 k n x y c) (if (if c = true then x else n) > y ∧ y ≥ 0 then y else (if c = true then x else n)) := by
          intro n x y c
          refine Ev.succ ?_
          cases c with
          | true =>
            simp only [counterfoilref11_Common.j2, if_true]
            by_cases h1 : y ≥ 0
            · refine Ev.pos h1 ?_
              by_cases h2 : y < x
              · refine Ev.pos h2 ?_
                rw [if_pos (show x > y ∧ y ≥ 0 from ⟨h2, h1⟩)]
                exact Ev.now _
              · refine Ev.neg h2 ?_
                rw [if_neg (show ¬ (x > y ∧ y ≥ 0) from fun z => h2 z.1)]
                exact Ev.now _
            · refine Ev.neg h1 ?_
              rw [if_neg (show ¬ (x > y ∧ y ≥ 0) from fun z => h1 z.2)]
              exact Ev.now _
          | false =>
            simp only [counterfoilref11_Common.j2, Bool.false_eq_true, if_false]
            by_cases h1 : y ≥ 0
            · refine Ev.pos h1 ?_
              by_cases h2 : y < n
              · refine Ev.pos h2 ?_
                rw [if_pos (show n > y ∧ y ≥ 0 from ⟨h2, h1⟩)]
                exact Ev.now _
              · refine Ev.neg h2 ?_
                rw [if_neg (show ¬ (n > y ∧ y ≥ 0) from fun z => h2 z.1)]
                exact Ev.now _
            · refine Ev.neg h1 ?_
              rw [if_neg (show ¬ (n > y ∧ y ≥ 0) from fun z => h1 z.2)]
              exact Ev.now _
        have j1 : Ev (fun k => counterfoilref11_Common.j1 k (mn s t) a s b t) (cutAt (cutAt (mn s t) a (lcp a b)) b (lcp a b)) := by
          refine Ev.succ ?_
          simp only [counterfoilref11_Common.j1]
          refine Ev.bind (parts_ev a b (by omega)) (Ev.bind (parts_ev b a (by omega)) ?_)
          generalize hz : cutAt (cutAt (mn s t) a (lcp a b)) b (lcp a b) = z
          unfold cutAt at hz
          generalize rd_T61 a (lcp a b : Int) = ya at hx ax hz
          generalize rd_T61 b (lcp a b : Int) = yb at hy bx hz
          by_cases h1 : partsS a b ≥ 0
          · refine Ev.pos h1 ?_
            have := j2 (mn s t) (partsS a b) (partsS b a) (decide (partsS a b < mn s t))
            rw [show (if (if decide (partsS a b < mn s t) = true then partsS a b else mn s t) > partsS b a ∧ partsS b a ≥ 0 then partsS b a else (if decide (partsS a b < mn s t) = true then partsS a b else mn s t)) = z by
              rw [← hz]
              simp only [decide_eq_true_eq]
              unfold mn
              rw [hx, hy]
              split <;> split <;> split <;> split <;> split <;> omega] at this
            exact this
          · refine Ev.neg h1 ?_
            have := j2 (mn s t) (partsS a b) (partsS b a) false
            rw [show (if (if false = true then partsS a b else mn s t) > partsS b a ∧ partsS b a ≥ 0 then partsS b a else (if false = true then partsS a b else mn s t)) = z by
              rw [← hz]
              simp only [Bool.false_eq_true, if_false]
              unfold mn
              rw [hx] at h1
              rw [hy]
              split <;> split <;> split <;> omega] at this
            exact this
        refine Ev.succ ?_
        simp only [counterfoilref11_Common.j0]
        refine Ev.neg (by simp) ?_
        by_cases h1 : t < s
        · rw [show mn s t = t by unfold mn; omega] at j1
          rw [show mn s t = t by unfold mn; omega]
          exact Ev.pos h1 j1
        · rw [show mn s t = s by unfold mn; omega] at j1
          rw [show mn s t = s by unfold mn; omega]
          exact Ev.neg h1 j1
theorem cut_comm (n : Int) (a b : List S61) (p : Nat) : cutAt (cutAt n a p) b p = cutAt (cutAt n b p) a p := by
  unfold cutAt mn
  generalize rd_T61 a (p : Int) = x
  generalize rd_T61 b (p : Int) = y
  split <;> split <;> omega
theorem common_comm (a : List S61) (s : Int) (b : List S61) (t : Int) : commonS b t a s = commonS a s b t := by
  unfold commonS
  rw [lcp_comm b a, cut_comm, show mn t s = mn s t by unfold mn; omega]
  have : (placedS b t && placedS a s && eqB (rd_T61 b 0) (rd_T61 a 0)) = (placedS a s && placedS b t && eqB (rd_T61 a 0) (rd_T61 b 0)) := by
    rw [Bool.and_comm (placedS b t), show eqB (rd_T61 b 0) (rd_T61 a 0) = eqB (rd_T61 a 0) (rd_T61 b 0) by
      rw [Bool.eq_iff_iff, eqB_iff, eqB_iff]
      exact ⟨Eq.symm, Eq.symm⟩]
  rw [this]
theorem lcp_full : ∀ (a b : List S61), a.length = b.length → lcp a b = a.length → a = b
  | [], [], _, _ => rfl
  | x :: a, y :: b, h1, h2 => by
    rw [lcp] at h2
    split at h2
    · rename_i he
      rw [eqB_iff.1 he, lcp_full a b (by simpa using h1) (by simpa using h2)]
    · simp at h2
  | [], _ :: _, h, _ => by simp at h
  | _ :: _, [], h, _ => by simp at h
theorem ahead_is (a : List S61) (s : Int) (b : List S61) (t : Int) : aheadS a s b t = (if placedS a s = true then (if placedS b t = true then (commonS a s b t == s) else false) else false) := by
  cases h : aheadS a s b t with
  | true =>
    obtain ⟨h1, h2, _⟩ := ahead_facts h
    rw [h1, h2, if_pos rfl, if_pos rfl]
    unfold aheadS at h
    rw [h1, Bool.true_and] at h
    exact h.symm
  | false =>
    cases h1 : placedS a s with
    | false => rfl
    | true =>
      cases h2 : placedS b t with
      | false => rfl
      | true =>
        unfold aheadS at h
        rw [h1, Bool.true_and] at h
        exact h.symm
theorem same_is (a : List S61) (s : Int) (b : List S61) (t : Int) : sameS a s b t = (if placedS a s = true then (if s = t then equalS a b else false) else false) := by
  unfold sameS
  cases h1 : placedS a s with
  | false => rfl
  | true =>
    rw [if_pos rfl, Bool.true_and]
    by_cases h : s = t
    · rw [if_pos h, decide_eq_true h, Bool.true_and]
      cases he : equalS a b with
      | false => rw [Bool.and_false]
      | true =>
        unfold equalS at he
        rw [decide_eq_true_eq] at he
        obtain rfl := lcp_full a b he.1 he.2
        rw [← h, h1]
        rfl
    · rw [if_neg h, decide_eq_false h, Bool.false_and, Bool.and_false]
theorem LineCommon : counterfoillaw11_LineCommon.Pure := by
  intro a s b t hla _ _ _
  refine Ev.rounds ?_
  have hA := Ev.bind awake_ev (f := fun _ t => some t) (Ev.now true)
  have hm : a.length ≤ 9223372036854775806 := by have := hla.2.1; simp only [maxLen] at this; omega
  have h2 : Ev (fun k => counterfoillaw11_LineCommon.j2 k (commonS a s b t) (aheadS a s b t) (sameS a s b t) a s b t) true := by
    refine Ev.succ ?_
    simp only [counterfoillaw11_LineCommon.j2]
    exact Ev.bind (common_ev a s b t) (Ev.pos rfl (Ev.bind (common_ev b t a s) (Ev.pos (common_comm a s b t) (Ev.bind (ahead_ev a s b t) (Ev.pos (by simp) (Ev.bind (same_ev a s b t) (Ev.pos (by simp) hA)))))))
  have h1 : Ev (fun k => counterfoillaw11_LineCommon.j1 k (commonS a s b t) (aheadS a s b t) a s b t) true := by
    refine Ev.succ ?_
    simp only [counterfoillaw11_LineCommon.j1]
    rw [same_is] at h2
    refine Ev.bind (rplaced_ev a s) ?_
    cases hp : placedS a s with
    | false => rw [hp, if_neg (by simp)] at h2; exact Ev.neg (by simp) h2
    | true =>
      rw [hp, if_pos rfl] at h2
      refine Ev.pos rfl ?_
      by_cases hs : s = t
      · rw [if_pos hs] at h2
        exact Ev.pos hs (Ev.bind (requal_ev a b hm) h2)
      · rw [if_neg hs] at h2
        exact Ev.neg hs h2
  have h0 : ∀ x, Ev (fun k => counterfoillaw11_LineCommon.j0 k x a s b t) true := by
    intro x
    refine Ev.succ ?_
    simp only [counterfoillaw11_LineCommon.j0]
    cases x with
    | true => exact Ev.pos rfl hA
    | false =>
      rw [ahead_is] at h1
      refine Ev.neg (by simp) (Ev.bind (rcommon_ev a s b t) (Ev.bind (rplaced_ev a s) ?_))
      cases hp : placedS a s with
      | false => rw [hp, if_neg (by simp)] at h1; exact Ev.neg (by simp) h1
      | true =>
        rw [hp, if_pos rfl] at h1
        refine Ev.pos rfl (Ev.bind (rplaced_ev b t) ?_)
        cases hq : placedS b t with
        | false => rw [hq, if_neg (by simp)] at h1; exact Ev.neg (by simp) h1
        | true => rw [hq, if_pos rfl] at h1; exact Ev.pos rfl h1
  unfold counterfoillaw11_LineCommon.f
  by_cases g1 : (a.length : Int) > 100
  · exact Ev.pos g1 (h0 _)
  · exact Ev.neg g1 (h0 _)
end Go.Proofs.Ytlkfmmjoiadoiaa.Pure
