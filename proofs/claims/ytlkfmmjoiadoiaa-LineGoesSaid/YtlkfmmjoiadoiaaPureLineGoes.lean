/- A line that grew lies behind the one that it was, up to where the branch began; no condition. -/
import Derived.Test.YtlkfmmjoiadoiaaLineCore4
import Derived.Test.YtlkfmmjoiadoiaaLineCore5
import Derived.Test.YtlkfmmjoiadoiaaPx29
namespace Go.Proofs.Ytlkfmmjoiadoiaa.Pure
open Go.RowKit Go.Proofs.Ytlkfmmjoiadoiaa.P Go.Proofs.Ytlkfmmjoiadoiaa.LineCore Go.Proofs.YtlkfmmjoiadoiaaW.PrintWords Go.Proofs.YtlkfmmjoiadoiaaW.PrintLast
theorem chain_snoc (b : S61) : ∀ (l : List S61) (e a : Int), chain e a l = true → 0 < l.length → (l.getD (l.length - 1) z61).f0 < b.f0 → b.f0 ≤ 1099511627776 → (l.getD (l.length - 1) z61).f1 ≤ b.f1 → b.f1 ≤ 1099511627776 → chain e a (l ++ [b]) = true
  | [], _, _, _, h, _, _, _, _ => by simp at h
  | [x], e, a, h, _, h1, h2, h3, h4 => by
    simp only [List.length_cons, List.length_nil, Nat.zero_add, Nat.sub_self, List.getD_cons_zero] at h1 h3
    rw [chain, Bool.and_eq_true, decide_eq_true_eq] at h
    simp only [List.cons_append, List.nil_append, chain, Bool.and_true, Bool.and_eq_true, decide_eq_true_eq]
    exact ⟨h.1, by omega⟩
  | x :: y :: r, e, a, h, _, h1, h2, h3, h4 => by
    rw [chain, Bool.and_eq_true] at h
    rw [List.cons_append, chain, Bool.and_eq_true]
    refine ⟨h.1, chain_snoc b (y :: r) _ _ h.2 (by simp) ?_ h2 ?_ h4⟩
    · simpa using h1
    · simpa using h3
theorem lcp_snoc (b : S61) : ∀ l : List S61, lcp l (l ++ [b]) = l.length
  | [] => by simp [lcp]
  | x :: r => by rw [List.cons_append, lcp, if_pos (eqB_self x), lcp_snoc b r]; rfl
theorem getD_snoc (l : List S61) (b : S61) : (l ++ [b]).getD l.length z61 = b := by
  rw [List.getD_eq_getElem?_getD, List.getElem?_append_right (Nat.le_refl _)]
  simp
theorem LineGoes : counterfoillaw11_LineGoes.Pure := by
  intro l s e m _ _ _ _
  refine Ev.rounds ?_
  have hA := Ev.bind awake_ev (f := fun _ t => some t) (Ev.now true)
  have h0 : ∀ x, (x = true ∨ placedS l s = true ∧ 0 ≤ m ∧ m ≤ 1048576 ∧ s ≤ 549755813888) → Ev (fun k => counterfoillaw11_LineGoes.j0 k e m x l s) true := by
    intro x hx
    refine Ev.succ ?_
    simp only [counterfoillaw11_LineGoes.j0]
    cases x with
    | true => exact Ev.pos rfl hA
    | false =>
      obtain ⟨hp, m0, m1, s1⟩ := hx.resolve_left (by simp)
      refine Ev.neg (by simp) (Ev.bind (grow_ev l e s) ?_)
      have hno : (growS l e s).2 ≠ 0 → (growS l e s).1 = [] := by
        unfold growS
        split
        · split
          · intro _; rfl
          · intro h; exact absurd rfl h
        · intro _; rfl
      by_cases hg : (growS l e s).2 = 0
      · refine Ev.pos hg ?_
        have hm : mayGrow l e s = true ∧ l.length ≠ 64 := by
          unfold growS at hg
          split at hg
          · rename_i h
            split at hg
            · simp at hg
            · exact ⟨h, ‹_›⟩
          · simp at hg
        have hv : (growS l e s).1 = l ++ [⟨e, s⟩] := by unfold growS; rw [hm.1, if_pos rfl, if_neg hm.2]
        rw [hv]
        have hmg := hm.1
        unfold mayGrow at hmg
        rw [Bool.and_eq_true, decide_eq_true_eq] at hmg
        obtain ⟨hr, g1, g2, g3, g4⟩ := hmg
        obtain ⟨l1, l2, l3, l4⟩ := right_len hr
        rw [rd_nat] at g1 g3
        have hf := (chain_mono l4 (l.length - 1) (l.length - 1) (Nat.le_refl _) (by omega)).2
        have ew : wrap64 (s + m) = s + m := by unfold wrap64; omega
        rw [ew]
        have h00 : rd_T61 (l ++ [(⟨e, s⟩ : S61)]) 0 = rd_T61 l 0 := by
          have e0 : rd_T61 l 0 = l.getD 0 z61 := rd_nat l 0
          have e1 : rd_T61 (l ++ [(⟨e, s⟩ : S61)]) 0 = (l ++ [(⟨e, s⟩ : S61)]).getD 0 z61 := rd_nat _ 0
          rw [e0, e1, List.getD_eq_getElem?_getD, List.getD_eq_getElem?_getD, List.getElem?_append_left (by omega)]
        have hr' : rightS (l ++ [(⟨e, s⟩ : S61)]) = true := by
          unfold rightS
          rw [h00, chain_snoc ⟨e, s⟩ l 0 0 l4 (by omega) g1 g2 g3 g4, decide_eq_true (by simp only [List.length_append, List.length_singleton]; omega)]
          rfl
        have hlast : rd_T61 (l ++ [(⟨e, s⟩ : S61)]) (((l ++ [(⟨e, s⟩ : S61)]).length - 1 : Nat) : Int) = ⟨e, s⟩ := by
          rw [rd_nat, List.length_append, List.length_singleton, Nat.add_sub_cancel, getD_snoc]
        have hp' : placedS (l ++ [(⟨e, s⟩ : S61)]) (s + m) = true := by
          unfold placedS
          rw [hr', hlast, decide_eq_true (by simp only; omega)]
          rfl
        have hc : commonS l s (l ++ [(⟨e, s⟩ : S61)]) (s + m) = s := by
          unfold commonS
          rw [hp, hp', h00, eqB_self, lcp_snoc, show mn s (s + m) = s by unfold mn; omega]
          simp only [Bool.and_self, if_true]
          have c1 : cutAt s l l.length = s := by unfold cutAt; rw [if_neg (Nat.lt_irrefl _)]
          have c2 : cutAt s (l ++ [(⟨e, s⟩ : S61)]) l.length = s := by
            unfold cutAt
            rw [if_pos (by simp), rd_nat, getD_snoc]
            unfold mn
            simp only
            omega
          rw [c1, c2]
        have ha : aheadS l s (l ++ [(⟨e, s⟩ : S61)]) (s + m) = true := by unfold aheadS; rw [hp, hc]; simp
        have hl : lastS (l ++ [(⟨e, s⟩ : S61)]) = e := by unfold lastS; rw [hr', if_pos rfl, hlast]
        have hL : Ev (fun k => (line_Last.f k (l ++ [(⟨e, s⟩ : S61)])).bind fun t => if t = e then ((counterfoillaw11_awake.f k).bind fun t => some t) else some false) true := Ev.bind (last_ev _) (Ev.pos hl hA)
        refine Ev.bind (placed_ev _ _) ?_
        rw [hp']
        refine Ev.pos rfl (Ev.bind (ahead_ev _ _ _ _) ?_)
        rw [ha]
        refine Ev.pos rfl (Ev.bind (common_ev _ _ _ _) (Ev.pos hc ?_))
        by_cases hm0 : m = 0
        · exact Ev.pos hm0 hL
        · refine Ev.neg hm0 (Ev.bind (epoch_ev _ _ _) (Ev.pos ?_ hL))
          unfold epochS
          rw [hp', if_pos rfl, if_neg (by omega), if_neg (by omega), backTo_snoc, lastOf, if_pos (by simp only; omega)]
      · refine Ev.neg hg (Ev.pos ?_ hA)
        rw [hno hg]
        rfl
  unfold counterfoillaw11_LineGoes.f
  by_cases g : (l.length : Int) > 100
  · exact Ev.pos g (h0 _ (.inl rfl))
  refine Ev.neg g (Ev.bind (placed_ev l s) ?_)
  cases hp : placedS l s with
  | false => exact Ev.neg (by simp) (h0 _ (.inl rfl))
  | true =>
    refine Ev.pos rfl ?_
    by_cases g1 : m < 0
    · exact Ev.pos g1 (h0 _ (.inl rfl))
    refine Ev.neg g1 ?_
    by_cases g2 : m > 1048576
    · exact Ev.pos g2 (h0 _ (.inl rfl))
    refine Ev.neg g2 (h0 _ ?_)
    by_cases g3 : s > 549755813888
    · exact .inl (decide_eq_true g3)
    · exact .inr ⟨hp, by omega, by omega, by omega⟩
end Go.Proofs.Ytlkfmmjoiadoiaa.Pure
