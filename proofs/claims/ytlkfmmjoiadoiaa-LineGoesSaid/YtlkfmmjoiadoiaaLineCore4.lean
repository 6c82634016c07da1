/- What is known of right lines: their places do not fall; where two lines part; what lies ahead. -/
import Derived.Test.YtlkfmmjoiadoiaaLineCore1
namespace Go.Proofs.Ytlkfmmjoiadoiaa.LineCore
open Go.RowKit Go.Proofs.Ytlkfmmjoiadoiaa.P Go.Proofs.YtlkfmmjoiadoiaaW.PrintWords Go.Proofs.YtlkfmmjoiadoiaaW.PrintLast
/-- The places of a right line do not fall. -/
theorem chain_mono : ∀ {l : List S61} {e a : Int}, chain e a l = true → ∀ i j, i ≤ j → j < l.length → (l.getD i z61).f1 ≤ (l.getD j z61).f1 ∧ a ≤ (l.getD i z61).f1
  | [], _, _, _, i, j, _, hj => by simp at hj
  | b :: r, e, a, h, i, j, hij, hj => by
    rw [chain, Bool.and_eq_true, decide_eq_true_eq] at h
    cases j with
    | zero =>
      obtain rfl : i = 0 := by omega
      exact ⟨Int.le_refl _, by simpa using h.1.2.2.1⟩
    | succ j =>
      have hj' : j < r.length := by simpa using hj
      cases i with
      | zero =>
        have := chain_mono h.2 j j (Nat.le_refl _) hj'
        refine ⟨by simpa using this.2, by simpa using h.1.2.2.1⟩
      | succ i =>
        have := chain_mono h.2 i j (by omega) hj'
        refine ⟨by simpa using this.1, ?_⟩
        have h2 := h.1.2.2.1
        have h3 := this.2
        simp only [List.getD_cons_succ]
        omega
theorem lcp_at : ∀ (a b : List S61) (i : Nat), i < lcp a b → a.getD i z61 = b.getD i z61
  | x :: a, y :: b, i, h => by
    rw [lcp] at h
    split at h
    · rename_i he
      cases i with
      | zero => simpa using eqB_iff.1 he
      | succ i => simpa using lcp_at a b i (by omega)
    · omega
  | [], _, i, h => by simp [lcp] at h
  | _ :: _, [], i, h => by simp [lcp] at h
theorem lcp_part : ∀ (a b : List S61), lcp a b < a.length → lcp a b < b.length → a.getD (lcp a b) z61 ≠ b.getD (lcp a b) z61
  | x :: a, y :: b, h1, h2 => by
    rw [lcp] at h1 h2 ⊢
    split at h1
    · rename_i he
      rw [if_pos he] at h2 ⊢
      simpa using lcp_part a b (by simpa using h1) (by simpa using h2)
    · rename_i he
      rw [if_neg he]
      simpa using fun e => he (eqB_iff.2 e)
  | [], _, h, _ => by simp [lcp] at h
  | _ :: _, [], _, h => by simp [lcp] at h
/-- A first difference tells how far. -/
theorem lcp_eq {a b : List S61} {n : Nat} (h : ∀ i, i < n → a.getD i z61 = b.getD i z61) (h1 : n ≤ a.length) (h2 : n ≤ b.length) : n ≤ lcp a b := by
  rcases Nat.lt_or_ge (lcp a b) n with hlt | hge
  · exact absurd (h _ hlt) (lcp_part a b (by omega) (by omega))
  · exact hge
theorem ahead_facts {a b : List S61} {s t : Int} (h : aheadS a s b t = true) : placedS a s = true ∧ placedS b t = true ∧ eqB (rd_T61 a 0) (rd_T61 b 0) = true ∧ s ≤ t ∧
    (lcp a b < a.length → s ≤ (a.getD (lcp a b) z61).f1) ∧ (lcp a b < b.length → s ≤ (b.getD (lcp a b) z61).f1) := by
  unfold aheadS at h
  rw [Bool.and_eq_true, beq_iff_eq] at h
  obtain ⟨hp, hc⟩ := h
  unfold commonS at hc
  split at hc
  · rename_i hh
    rw [Bool.and_eq_true, Bool.and_eq_true] at hh
    unfold cutAt at hc
    rw [rd_nat, rd_nat] at hc
    refine ⟨hp, hh.1.2, hh.2, ?_⟩
    unfold mn at hc
    split at hc <;> split at hc <;> omega
  · exfalso
    unfold placedS rightS at hp
    rw [Bool.and_eq_true, Bool.and_eq_true, decide_eq_true_eq, decide_eq_true_eq] at hp
    have h1 := chain_mono hp.1.2 0 (a.length - 1) (by omega) (by omega)
    have h2 := hp.1.1.2.2
    have h3 := hp.2.1
    have e0 : rd_T61 a 0 = a.getD 0 z61 := rd_nat a 0
    rw [rd_nat] at h3
    rw [e0] at h2
    omega

theorem chain_epoch : ∀ {l : List S61} {e a : Int}, chain e a l = true → ∀ i, i < l.length → e < (l.getD i z61).f0
  | [], _, _, _, i, hi => by simp at hi
  | b :: r, e, a, h, i, hi => by
    rw [chain, Bool.and_eq_true, decide_eq_true_eq] at h
    cases i with
    | zero => simpa using h.1.1
    | succ i =>
      have := chain_epoch h.2 i (by simpa using hi)
      have h1 := h.1.1
      simp only [List.getD_cons_succ]
      omega
theorem lcp_comm : ∀ (a b : List S61), lcp a b = lcp b a
  | x :: a, y :: b => by
    rw [lcp, lcp, lcp_comm a b]
    by_cases h : eqB x y = true
    · rw [if_pos h, if_pos (eqB_iff.2 (eqB_iff.1 h).symm)]
    · rw [if_neg h, if_neg (fun g => h (eqB_iff.2 (eqB_iff.1 g).symm))]
  | [], [] => rfl
  | [], _ :: _ => rfl
  | _ :: _, [] => rfl
/-- The last branch that began ahead of s, going from the first on. -/
def goS : Int → List S61 → Int → Int
  | e, [], _ => e
  | e, b :: r, s => if b.f1 < s then goS b.f0 r s else e
theorem goS_snoc (s : Int) (x : S61) : ∀ (l : List S61) (e : Int), (∀ y ∈ l, x.f1 < s → y.f1 < s) → goS e (l ++ [x]) s = if x.f1 < s then x.f0 else goS e l s
  | [], e, _ => by simp [goS]
  | b :: r, e, h => by
    rw [List.cons_append, goS, goS]
    have ih := goS_snoc s x r b.f0 (fun y hy => h y (List.mem_cons_of_mem _ hy))
    by_cases hx : x.f1 < s
    · rw [if_pos (h b List.mem_cons_self hx), ih, if_pos hx, if_pos hx]
    · rw [if_neg hx]
      rw [if_neg hx] at ih
      rw [ih]
theorem backTo_snoc (l : List S61) (x : S61) : backTo (l ++ [x]) (l ++ [x]).length = (l.length, x) :: backTo l l.length := by
  unfold backTo
  rw [List.length_append, List.length_singleton, List.range_succ_eq_map, List.map_cons, List.map_map]
  congr 1
  · unfold backOf
    simp only [List.length_append, List.length_singleton, Nat.sub_zero, Nat.add_sub_cancel]
    rw [rd_nat, List.getD_eq_getElem?_getD]
    simp
  · refine List.map_congr_left fun j hj => ?_
    have hj' := List.mem_range.1 hj
    unfold backOf
    simp only [Function.comp, List.length_append, List.length_singleton]
    rw [show l.length + 1 - 1 - Nat.succ j = l.length - 1 - j by omega, rd_nat, rd_nat, List.getD_eq_getElem?_getD, List.getD_eq_getElem?_getD, List.getElem?_append_left (by omega)]
theorem lastOf_goS (s : Int) : ∀ (n : Nat) (l : List S61), l.length = n → (∀ i j, i ≤ j → j < l.length → (l.getD i z61).f1 ≤ (l.getD j z61).f1) → lastOf (backTo l l.length) s = goS 0 l s
  | 0, l, hn, _ => by
    obtain rfl := List.eq_nil_of_length_eq_zero hn
    rfl
  | n + 1, l, hn, hm => by
    rcases List.eq_nil_or_concat l with rfl | ⟨r, x, rfl⟩
    · simp at hn
    · rw [List.concat_eq_append] at hn hm ⊢
      have hr : r.length = n := by simpa using hn
      have ih := lastOf_goS s n r hr (fun i j hij hj => by
        have := hm i j hij (by simp; omega)
        rwa [List.getD_eq_getElem?_getD, List.getD_eq_getElem?_getD, List.getElem?_append_left (by omega), List.getElem?_append_left hj, ← List.getD_eq_getElem?_getD, ← List.getD_eq_getElem?_getD] at this)
      rw [backTo_snoc, lastOf, goS_snoc s x r 0 (fun y hy hx => by
        obtain ⟨i, hi, rfl⟩ := List.getElem_of_mem hy
        have := hm i r.length (by omega) (by simp)
        rw [List.getD_eq_getElem?_getD, List.getD_eq_getElem?_getD, List.getElem?_append_left hi, List.getElem?_eq_getElem hi, List.getElem?_append_right (Nat.le_refl _)] at this
        simp at this
        omega), ih]
end Go.Proofs.Ytlkfmmjoiadoiaa.LineCore
