/- What lies ahead of a place that lies ahead of a third one lies ahead of that; no condition. -/
import Derived.Test.YtlkfmmjoiadoiaaLineCore1
import Derived.Test.YtlkfmmjoiadoiaaPx16
namespace Go.Proofs.Ytlkfmmjoiadoiaa.Pure
open Go.RowKit Go.Proofs.Ytlkfmmjoiadoiaa.P Go.Proofs.Ytlkfmmjoiadoiaa.LineCore Go.Proofs.YtlkfmmjoiadoiaaW.PrintWords Go.Proofs.YtlkfmmjoiadoiaaW.PrintLast
/-- The places of a right line do not fall. -/
theorem chain_mono : ∀ {l : List S61} {e a : Int}, chain e a l = true → ∀ i j, i ≤ j → j < l.length → (l.getD i z61).f1 ≤ (l.getD j z61).f1 ∧ a ≤ (l.getD i z61).f1
  | [], _, _, _, i, j, _, hj => by simp at hj
  | b :: r, e, a, h, i, j, hij, hj => by
    rw [chain, Bool.and_eq_true, decide_eq_true_eq] at h
    cases j with
    | zero =>
      obtain rfl : i = 0 := by omega
      exact ⟨Int.le_refl _, by simpa using h.1.2.2.1⟩
    | succ j =>
      have hj' : j < r.length := by simpa using hj
      cases i with
      | zero =>
        have := chain_mono h.2 j j (Nat.le_refl _) hj'
        refine ⟨by simpa using this.2, by simpa using h.1.2.2.1⟩
      | succ i =>
        have := chain_mono h.2 i j (by omega) hj'
        refine ⟨by simpa using this.1, ?_⟩
        have h2 := h.1.2.2.1
        have h3 := this.2
        simp only [List.getD_cons_succ]
        omega
theorem lcp_at : ∀ (a b : List S61) (i : Nat), i < lcp a b → a.getD i z61 = b.getD i z61
  | x :: a, y :: b, i, h => by
    rw [lcp] at h
    split at h
    · rename_i he
      cases i with
      | zero => simpa using eqB_iff.1 he
      | succ i => simpa using lcp_at a b i (by omega)
    · omega
  | [], _, i, h => by simp [lcp] at h
  | _ :: _, [], i, h => by simp [lcp] at h
theorem lcp_part : ∀ (a b : List S61), lcp a b < a.length → lcp a b < b.length → a.getD (lcp a b) z61 ≠ b.getD (lcp a b) z61
  | x :: a, y :: b, h1, h2 => by
    rw [lcp] at h1 h2 ⊢
    split at h1
    · rename_i he
      rw [if_pos he] at h2 ⊢
      simpa using lcp_part a b (by simpa using h1) (by simpa using h2)
    · rename_i he
      rw [if_neg he]
      simpa using fun e => he (eqB_iff.2 e)
  | [], _, h, _ => by simp [lcp] at h
  | _ :: _, [], _, h => by simp [lcp] at h
/-- A first difference tells how far. -/
theorem lcp_eq {a b : List S61} {n : Nat} (h : ∀ i, i < n → a.getD i z61 = b.getD i z61) (h1 : n ≤ a.length) (h2 : n ≤ b.length) : n ≤ lcp a b := by
  rcases Nat.lt_or_ge (lcp a b) n with hlt | hge
  · exact absurd (h _ hlt) (lcp_part a b (by omega) (by omega))
  · exact hge
theorem ahead_facts {a b : List S61} {s t : Int} (h : aheadS a s b t = true) : placedS a s = true ∧ placedS b t = true ∧ eqB (rd_T61 a 0) (rd_T61 b 0) = true ∧ s ≤ t ∧
    (lcp a b < a.length → s ≤ (a.getD (lcp a b) z61).f1) ∧ (lcp a b < b.length → s ≤ (b.getD (lcp a b) z61).f1) := by
  unfold aheadS at h
  rw [Bool.and_eq_true, beq_iff_eq] at h
  obtain ⟨hp, hc⟩ := h
  unfold commonS at hc
  split at hc
  · rename_i hh
    rw [Bool.and_eq_true, Bool.and_eq_true] at hh
    unfold cutAt at hc
    rw [rd_nat, rd_nat] at hc
    refine ⟨hp, hh.1.2, hh.2, ?_⟩
    unfold mn at hc
    split at hc <;> split at hc <;> omega
  · exfalso
    unfold placedS rightS at hp
    rw [Bool.and_eq_true, Bool.and_eq_true, decide_eq_true_eq, decide_eq_true_eq] at hp
    have h1 := chain_mono hp.1.2 0 (a.length - 1) (by omega) (by omega)
    have h2 := hp.1.1.2.2
    have h3 := hp.2.1
    have e0 : rd_T61 a 0 = a.getD 0 z61 := rd_nat a 0
    rw [rd_nat] at h3
    rw [e0] at h2
    omega
theorem ahead_mk {a b : List S61} {s t : Int} (hp : placedS a s = true) (hq : placedS b t = true) (he : eqB (rd_T61 a 0) (rd_T61 b 0) = true) (hst : s ≤ t)
    (h1 : lcp a b < a.length → s ≤ (a.getD (lcp a b) z61).f1) (h2 : lcp a b < b.length → s ≤ (b.getD (lcp a b) z61).f1) : aheadS a s b t = true := by
  unfold aheadS commonS
  rw [hp, hq, he]
  simp only [Bool.and_self, if_true, Bool.true_and, beq_iff_eq]
  unfold cutAt
  rw [rd_nat, rd_nat]
  unfold mn
  split <;> split <;> omega
theorem ahead_trans {a b c : List S61} {s t u : Int} (h1 : aheadS a s b t = true) (h2 : aheadS b t c u = true) : aheadS a s c u = true ∧ s ≤ u := by
  obtain ⟨pa, pb, e1, st, f1, f2⟩ := ahead_facts h1
  obtain ⟨_, pc, e2, tu, g1, g2⟩ := ahead_facts h2
  refine ⟨ahead_mk pa pc (eqB_iff.2 ((eqB_iff.1 e1).trans (eqB_iff.1 e2))) (by omega) ?_ ?_, by omega⟩
  all_goals
    have la := lcp_le a b
    have lb := lcp_le b c
    have lc := lcp_le a c
    have ca := (right_len (Bool.and_eq_true_iff.1 pa).1).2.2.2
    have cc := (right_len (Bool.and_eq_true_iff.1 pc).1).2.2.2
    have hr : min (lcp a b) (lcp b c) ≤ lcp a c := lcp_eq (fun i hi => (lcp_at a b i (by omega)).trans (lcp_at b c i (by omega))) (by omega) (by omega)
  · intro h
    rcases Nat.lt_trichotomy (lcp a b) (lcp b c) with hlt | heq | hgt
    · have m := chain_mono ca (lcp a b) (lcp a c) (by omega) h
      have := f1 (by omega)
      omega
    · have m := chain_mono ca (lcp a b) (lcp a c) (by omega) h
      have := f1 (by omega)
      omega
    · have m := chain_mono ca (lcp b c) (lcp a c) (by omega) h
      have e := lcp_at a b (lcp b c) hgt
      have := g1 (by omega)
      rw [← e] at this
      omega
  · intro h
    rcases Nat.lt_trichotomy (lcp a b) (lcp b c) with hlt | heq | hgt
    · have m := chain_mono cc (lcp a b) (lcp a c) (by omega) h
      have e := lcp_at b c (lcp a b) hlt
      have := f2 (by omega)
      rw [e] at this
      omega
    · have m := chain_mono cc (lcp b c) (lcp a c) (by omega) h
      have := g2 (by omega)
      omega
    · have m := chain_mono cc (lcp b c) (lcp a c) (by omega) h
      have := g2 (by omega)
      omega
theorem LineChain : counterfoillaw11_LineChain.Pure := by
  intro a s b t c u _ _ _ _ _ _
  refine Ev.rounds ?_
  have hA := Ev.bind awake_ev (f := fun _ t => some t) (Ev.now true)
  have h1 : ∀ x, (x = true ∨ aheadS a s c u = true ∧ s ≤ u) → Ev (fun k => counterfoillaw11_LineChain.j1 k x a s c u) true := by
    intro x hx
    refine Ev.succ ?_
    simp only [counterfoillaw11_LineChain.j1]
    cases x with
    | true => exact Ev.pos rfl hA
    | false =>
      obtain ⟨g1, g2⟩ := hx.resolve_left (by simp)
      refine Ev.neg (by simp) (Ev.bind (ahead_ev a s c u) ?_)
      rw [g1]
      exact Ev.pos rfl (Ev.pos g2 hA)
  have h0 : ∀ x, Ev (fun k => counterfoillaw11_LineChain.j0 k x a s b t c u) true := by
    intro x
    refine Ev.succ ?_
    simp only [counterfoillaw11_LineChain.j0]
    cases x with
    | true => exact Ev.pos rfl hA
    | false =>
      refine Ev.neg (by simp) (Ev.bind (ahead_ev a s b t) ?_)
      cases e1 : aheadS a s b t with
      | false => exact Ev.neg (by simp) (h1 _ (.inl rfl))
      | true =>
        refine Ev.pos rfl (Ev.bind (ahead_ev b t c u) ?_)
        cases e2 : aheadS b t c u with
        | false => exact h1 _ (.inl rfl)
        | true => exact h1 _ (.inr (ahead_trans e1 e2))
  unfold counterfoillaw11_LineChain.f
  by_cases g1 : (a.length : Int) > 100
  · exact Ev.pos g1 (h0 _)
  refine Ev.neg g1 ?_
  by_cases g2 : (b.length : Int) > 100
  · exact Ev.pos g2 (h0 _)
  · exact Ev.neg g2 (h0 _)
end Go.Proofs.Ytlkfmmjoiadoiaa.Pure
