-- PACKED by wip/kit/pack.py: what the law's proof uses of RefApply (printed words and texts of this seat)
import Derived.Test.YthdhkoeaadahaaaZNewCore
import Derived.Test.YthdhkoeaadahaaaZPx62
namespace Go.Proofs.Ythdhkoeaadahaaa.VolsCore
open Go.RowKit Go.Proofs.Ythdhkoeaadahaaa.P Go.Proofs.YthdhkoeaadahaaaW.PrintWords Go.Proofs.YthdhkoeaadahaaaW.PrintLast
set_option linter.unusedVariables false
theorem rcheck_ev (l : List S49) (ws : List S74) (hl : l.length ≤ 1000) (hb : ∀ x ∈ l, x.f1.length ≤ 1000) (hw : ws.length ≤ 1000) : Ev (fun k => counterfoilref07_Check.f k l ws) (checkV l ws) := by
  have loop : ∀ (d i : Nat), i + d = ws.length → Ev (fun k => counterfoilref07_Check.l0 k l ws (i : Int)) (checkL l (ws.drop i)) := by
    intro d
    induction d with
    | zero =>
      intro i hi
      refine Ev.succ ?_
      simp only [counterfoilref07_Check.l0]
      rw [List.drop_eq_nil_of_le (by omega)]
      exact Ev.neg (by omega) (Ev.now _)
    | succ d ih =>
      intro i hi
      refine Ev.succ ?_
      simp only [counterfoilref07_Check.l0]
      rw [drop74 ws (i := i) (by omega), checkL, wrap_succ (by omega)]
      refine Ev.pos (by omega) (Ev.pos (by omega) (Ev.bind (get_ev l _ _ hl) ?_))
      unfold checkW
      by_cases hz : (getV l (rd_T74 ws (i : Int)).f0 (rd_T74 ws (i : Int)).f1).2 = 0
      · rw [if_neg (Decidable.not_not.2 hz)]
        refine Ev.pos hz ?_
        by_cases h8 : ((rd_T74 ws (i : Int)).f2.size : Int) > 8
        · rw [if_pos h8, if_pos (by simp)]
          exact Ev.pos h8 (Ev.now _)
        · rw [if_neg h8, if_neg (by simp)]
          exact Ev.neg h8 (ih (i + 1) (by omega))
      · rw [if_pos hz, if_pos hz]
        exact Ev.neg hz (Ev.now _)
  unfold counterfoilref07_Check.f checkV
  refine Ev.bind (right_ev l hl hb) ?_
  cases hr : rightV l with
  | false =>
    rw [if_neg (by simp)]
    exact Ev.neg (by simp) (Ev.now _)
  | true =>
    have := loop ws.length 0 (by omega)
    rw [List.drop_zero] at this
    rw [if_pos rfl]
    exact Ev.pos rfl this
def lastP (ws : List S74) (v b : Int) : ByteArray × Bool := match lastQ ws v b with
  | some s => (s, true)
  | none => (⟨#[]⟩, false)
theorem last_ev (ws : List S74) (v b : Int) (hw : ws.length ≤ 1000) : Ev (fun k => counterfoilref07_Last.f k ws v b) (lastP ws v b) := by
  have loop : ∀ (i : Nat) (x : Int), i ≤ ws.length → x = (i : Int) - 1 → Ev (fun k => counterfoilref07_Last.l0 k ws v b x) (lastP (ws.take i) v b) := by
    intro i
    induction i with
    | zero =>
      intro x hi hx
      refine Ev.succ ?_
      simp only [counterfoilref07_Last.l0]
      rw [List.take_zero]
      exact Ev.neg (by omega) (Ev.now _)
    | succ i ih =>
      intro x hi hx
      obtain rfl : x = (i : Int) := by omega
      have hlt : i < ws.length := by omega
      have ew : wrap64 ((i : Int) - 1) = (i : Int) - 1 := by unfold wrap64; omega
      have hn := ih ((i : Int) - 1) (by omega) rfl
      refine Ev.succ ?_
      simp only [counterfoilref07_Last.l0]
      rw [ew, List.take_succ_eq_append_getElem hlt, ← rd74 ws i hlt]
      unfold lastP
      rw [lastQ_snoc]
      refine Ev.pos (by omega) (Ev.pos (by omega) (Ev.pos (by omega) ?_))
      by_cases c1 : (rd_T74 ws (i : Int)).f0 = v
      · by_cases c2 : (rd_T74 ws (i : Int)).f1 = b
        · rw [if_pos ⟨c1, c2⟩]
          exact Ev.pos c1 (Ev.pos c2 (Ev.now _))
        · rw [if_neg (fun e => c2 e.2)]
          exact Ev.pos c1 (Ev.neg c2 hn)
      · rw [if_neg (fun e => c1 e.1)]
        exact Ev.neg c1 hn
  unfold counterfoilref07_Last.f
  have ew : wrap64 ((ws.length : Int) - 1) = (ws.length : Int) - 1 := by unfold wrap64; omega
  rw [ew]
  have := loop ws.length _ (Nat.le_refl _) rfl
  rw [List.take_of_length_le (Nat.le_refl _)] at this
  exact this
theorem rapply_ev (l : List S49) (ws : List S74) (hl : l.length ≤ 1000) (hb : ∀ x ∈ l, x.f1.length ≤ 1000) (hw : ws.length ≤ 1000) : Ev (fun k => counterfoilref07_Apply.f k l ws) (applyR l ws) := by
  have inner : ∀ (R : List S49 × Int) (i : Nat) (out : List S49), i < l.length → out.length ≤ 1000 → Ev (fun k => counterfoilref07_Apply.l0 k l ws (out ++ [newV ws (rd_T49 l (i : Int))]) ((i + 1 : Nat) : Int)) R → ∀ (d j : Nat), j + d = (rd_T49 l (i : Int)).f1.length →
      Ev (fun k => counterfoilref07_Apply.l1 k l ws out (i : Int) (j : Int) (rd_T49 l (i : Int)).f0 ((List.range j).map (newB ws (rd_T49 l (i : Int)).f0 (rd_T49 l (i : Int)).f1))) R := by
    intro R i out hi hout hR d
    have hx := hb _ (mem49 hi)
    induction d with
    | zero =>
      intro j hj
      refine Ev.succ ?_
      simp only [counterfoilref07_Apply.l1]
      rw [wrap_succ (i := i) (by omega)]
      refine Ev.pos (by omega) (Ev.pos (by omega) (Ev.neg (by omega) (Ev.pos (by omega) ?_)))
      have e : (⟨(rd_T49 l (i : Int)).f0, (List.range j).map (newB ws (rd_T49 l (i : Int)).f0 (rd_T49 l (i : Int)).f1)⟩ : S49) = newV ws (rd_T49 l (i : Int)) := by
        unfold newV
        rw [show j = (rd_T49 l (i : Int)).f1.length by omega]
      rw [e]
      exact hR
    | succ d ih =>
      intro j hj
      refine Ev.succ ?_
      simp only [counterfoilref07_Apply.l1]
      rw [wrap_succ (i := j) (by omega), rdOf_gets, Int.toNat_natCast]
      refine Ev.pos (by omega) (Ev.pos (by omega) (Ev.pos (by omega) (Ev.bind (last_ev ws _ _ hw) ?_)))
      have hn := ih (j + 1) (by omega)
      rw [List.range_succ, List.map_append, List.map_singleton] at hn
      unfold newB at hn ⊢
      unfold lastP
      cases hq : lastQ ws (rd_T49 l (i : Int)).f0 (j : Int) with
      | some s =>
        rw [hq] at hn
        exact Ev.pos rfl (Ev.pos (by simp; omega) hn)
      | none =>
        rw [hq] at hn
        exact Ev.neg (by simp) (Ev.pos (by omega) (Ev.pos (by simp; omega) hn))
  have outer : ∀ (d i : Nat) (out : List S49), i + d = l.length → out.length = i → Ev (fun k => counterfoilref07_Apply.l0 k l ws out (i : Int)) (out ++ (l.drop i).map (newV ws), 0) := by
    intro d
    induction d with
    | zero =>
      intro i out hi ho
      refine Ev.succ ?_
      simp only [counterfoilref07_Apply.l0]
      rw [List.drop_eq_nil_of_le (by omega), List.map_nil, List.append_nil]
      exact Ev.neg (by omega) (Ev.now _)
    | succ d ih =>
      intro i out hi ho
      refine Ev.succ ?_
      simp only [counterfoilref07_Apply.l0]
      refine Ev.pos (by omega) (Ev.pos (by omega) ?_)
      have hn := ih (i + 1) (out ++ [newV ws (rd_T49 l (i : Int))]) (by omega) (by simp; omega)
      rw [List.append_assoc, List.singleton_append, ← List.map_cons, ← drop49 l (i := i) (by omega)] at hn
      exact inner _ i out (by omega) (by omega) hn _ 0 (Nat.zero_add _)
  unfold counterfoilref07_Apply.f applyR
  refine Ev.bind (rcheck_ev l ws hl hb hw) ?_
  by_cases hz : checkV l ws = 0
  · obtain ⟨hr, hc⟩ := checkV_right hz
    rw [if_pos hz, apply_new l ws (apply_ids hr) (fun x hx => by
      obtain ⟨_, _, h0, _⟩ := getE_some (checkL_all l ws hc x hx).1
      exact h0)]
    have := outer l.length 0 [] (by omega) rfl
    rw [List.drop_zero, List.nil_append] at this
    exact Ev.pos hz this
  · rw [if_neg hz]
    exact Ev.neg hz (Ev.now _)
end Go.Proofs.Ythdhkoeaadahaaa.VolsCore
