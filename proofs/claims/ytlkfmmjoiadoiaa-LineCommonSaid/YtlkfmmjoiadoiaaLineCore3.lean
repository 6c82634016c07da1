/- Two places are the same just if both are right and equal. -/
import Derived.Test.YtlkfmmjoiadoiaaLineCore1
import Derived.Test.YtlkfmmjoiadoiaaPx21
namespace Go.Proofs.Ytlkfmmjoiadoiaa.LineCore
open Go.RowKit Go.Proofs.Ytlkfmmjoiadoiaa.P Go.Proofs.YtlkfmmjoiadoiaaW.PrintWords Go.Proofs.YtlkfmmjoiadoiaaW.PrintLast
/-- The same branches? -/
def equalS (a b : List S61) : Bool := decide (a.length = b.length ∧ lcp a b = a.length)
theorem lcp_drop_lt {a b : List S61} {i : Nat} (h1 : i < a.length) (h2 : i < b.length) : lcp (a.drop i) (b.drop i) = if eqB (rd_T61 a (i : Int)) (rd_T61 b (i : Int)) = true then lcp (a.drop (i + 1)) (b.drop (i + 1)) + 1 else 0 := by
  rw [drop_cons a h1, drop_cons b h2, lcp]
theorem eq_loop (a b : List S61) (hl : a.length = b.length) (hm : a.length ≤ 9223372036854775806) (d : Nat) : ∀ i : Nat, i + d = a.length → Ev (fun k => api_Branch_48.l0 k a b (a.length : Int) (i : Int)) (decide (lcp (a.drop i) (b.drop i) = d)) := by
  induction d with
  | zero =>
    intro i hi
    refine Ev.succ ?_
    simp only [api_Branch_48.l0]
    rw [List.drop_eq_nil_of_le (by omega), decide_eq_true (by simp [lcp])]
    exact Ev.neg (by omega) (Ev.now _)
  | succ d ih =>
    intro i hi
    refine Ev.succ ?_
    simp only [api_Branch_48.l0]
    rw [lcp_drop_lt (by omega) (by omega)]
    refine Ev.pos (by omega) (Ev.pos (by omega) (Ev.pos (by omega) (Ev.pos (by omega) ?_)))
    rw [neB]
    cases h : eqB (rd_T61 a (i : Int)) (rd_T61 b (i : Int)) with
    | false =>
      rw [if_neg (by simp), decide_eq_false (by omega)]
      exact Ev.pos rfl (Ev.now _)
    | true =>
      rw [if_pos rfl, wrap_succ (by omega), show decide (lcp (a.drop (i + 1)) (b.drop (i + 1)) + 1 = d + 1) = decide (lcp (a.drop (i + 1)) (b.drop (i + 1)) = d) by rw [decide_eq_decide]; omega]
      exact Ev.neg (by simp) (ih (i + 1) (by omega))
theorem eq_ev (a b : List S61) (hm : a.length ≤ 9223372036854775806) : Ev (fun k => api_Branch_48.f k a b) (equalS a b) := by
  unfold api_Branch_48.f equalS
  by_cases h : a.length = b.length
  · refine Ev.pos (by omega) ?_
    rw [show decide (a.length = b.length ∧ lcp a b = a.length) = decide (lcp (a.drop 0) (b.drop 0) = a.length) by rw [decide_eq_decide]; simp [h]]
    exact eq_loop a b h hm a.length 0 (by omega)
  · rw [decide_eq_false (fun z => h z.1)]
    exact Ev.neg (by omega) (Ev.now _)
def sameS (a : List S61) (s : Int) (b : List S61) (t : Int) : Bool := placedS a s && (placedS b t && (decide (s = t) && equalS a b))
theorem same_ev (a : List S61) (s : Int) (b : List S61) (t : Int) : Ev (fun k => line_Same.f k a s b t) (sameS a s b t) := by
  unfold line_Same.f sameS
  refine Ev.bind (placed_ev a s) ?_
  cases ha : placedS a s with
  | false => exact Ev.neg (by simp) (Ev.now _)
  | true =>
    have la := right_len (Bool.and_eq_true_iff.1 ha).1
    refine Ev.pos rfl (Ev.bind (placed_ev b t) ?_)
    cases placedS b t with
    | false => exact Ev.neg (by simp) (Ev.now _)
    | true =>
      refine Ev.pos rfl ?_
      by_cases h : s = t
      · rw [decide_eq_true h]
        exact Ev.pos h (Ev.bind (eq_ev a b (by omega)) (Ev.now _))
      · rw [decide_eq_false h]
        exact Ev.neg h (Ev.now _)
theorem lcp_self : ∀ a : List S61, lcp a a = a.length
  | [] => rfl
  | x :: a => by rw [lcp, if_pos (eqB_self x), lcp_self a]; rfl
theorem mn_self (s : Int) : mn s s = s := by unfold mn; omega
theorem common_self {a : List S61} {s : Int} (h : placedS a s = true) : commonS a s a s = s := by
  unfold commonS
  rw [if_pos (by rw [h, eqB_self]; rfl), lcp_self, mn_self]
  unfold cutAt
  rw [if_neg (by omega), if_neg (by omega)]
theorem common_not {a : List S61} {s : Int} (b : List S61) (t : Int) (h : placedS a s = false) : commonS a s b t = -1 := by
  unfold commonS
  rw [if_neg (by rw [h]; simp)]
end Go.Proofs.Ytlkfmmjoiadoiaa.LineCore
