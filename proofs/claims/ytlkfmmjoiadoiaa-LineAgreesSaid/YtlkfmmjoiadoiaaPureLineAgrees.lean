/- The commits up to where two histories are one are of the same epochs on both; no condition. -/
import Derived.Test.YtlkfmmjoiadoiaaLineCore4
import Derived.Test.YtlkfmmjoiadoiaaPx13
namespace Go.Proofs.Ytlkfmmjoiadoiaa.Pure
open Go.RowKit Go.Proofs.Ytlkfmmjoiadoiaa.P Go.Proofs.Ytlkfmmjoiadoiaa.LineCore Go.Proofs.YtlkfmmjoiadoiaaW.PrintWords Go.Proofs.YtlkfmmjoiadoiaaW.PrintLast
theorem goS_take (s : Int) : ∀ (l : List S61) (e : Int) (n : Nat), (∀ i, n ≤ i → i < l.length → s ≤ (l.getD i z61).f1) → goS e l s = goS e (l.take n) s
  | [], e, n, _ => by simp
  | b :: r, e, 0, h => by
    have := h 0 (Nat.le_refl _) (by simp)
    simp only [List.getD_cons_zero] at this
    rw [goS, if_neg (by omega), List.take_zero, goS]
  | b :: r, e, n + 1, h => by
    rw [List.take_succ_cons, goS, goS]
    rw [goS_take s r b.f0 n (fun i hi hl => by simpa using h (i + 1) (by omega) (by simpa using hl))]
theorem take_lcp : ∀ a b : List S61, a.take (lcp a b) = b.take (lcp a b)
  | x :: a, y :: b => by
    rw [lcp]
    by_cases h : eqB x y = true
    · rw [if_pos h, List.take_succ_cons, List.take_succ_cons, eqB_iff.1 h, take_lcp a b]
    · rw [if_neg h, List.take_zero, List.take_zero]
  | [], _ => by simp [lcp]
  | _ :: _, [] => by simp [lcp]
theorem goS_pos (s : Int) : ∀ (l : List S61) (e a : Int), 0 < e → chain e a l = true → 0 < goS e l s
  | [], e, _, he, _ => he
  | b :: r, e, a, he, h => by
    rw [chain, Bool.and_eq_true, decide_eq_true_eq] at h
    rw [goS]
    split
    · exact goS_pos s r _ _ (by omega) h.2
    · exact he
/-- What two histories have in common is less than each, and than each branch at which they part. -/
theorem common_facts {a b : List S61} {q t c : Int} (h1 : 1 ≤ c) (h2 : c ≤ commonS a q b t) : placedS a q = true ∧ placedS b t = true ∧ c ≤ q ∧ c ≤ t ∧
    (lcp a b < a.length → c ≤ (a.getD (lcp a b) z61).f1) ∧ (lcp a b < b.length → c ≤ (b.getD (lcp a b) z61).f1) := by
  unfold commonS at h2
  split at h2
  · rename_i hh
    rw [Bool.and_eq_true, Bool.and_eq_true] at hh
    unfold cutAt at h2
    rw [rd_nat, rd_nat] at h2
    refine ⟨hh.1.1, hh.1.2, ?_⟩
    unfold mn at h2
    split at h2 <;> split at h2 <;> omega
  · omega
theorem epoch_of {l : List S61} {q c : Int} (hp : placedS l q = true) (h1 : 1 ≤ c) (h2 : c ≤ q) : epochS l q c = goS 0 l c := by
  have hc := (right_len (Bool.and_eq_true_iff.1 hp).1).2.2.2
  unfold epochS
  rw [hp, if_pos rfl, if_neg (by omega), if_neg (by omega)]
  exact lastOf_goS c l.length l rfl (fun i j hij hj => (chain_mono hc i j hij hj).1)
theorem agree {a b : List S61} {q t c : Int} (h1 : 1 ≤ c) (h2 : c ≤ commonS a q b t) : epochS a q c = epochS b t c ∧ 0 < epochS a q c := by
  obtain ⟨pa, pb, cq, ct, f1, f2⟩ := common_facts h1 h2
  have ra := right_len (Bool.and_eq_true_iff.1 pa).1
  have rb := right_len (Bool.and_eq_true_iff.1 pb).1
  rw [epoch_of pa h1 cq, epoch_of pb h1 ct]
  refine ⟨?_, ?_⟩
  · rw [goS_take c a 0 (lcp a b) (fun i hi hl => ?_), goS_take c b 0 (lcp a b) (fun i hi hl => ?_), take_lcp]
    · have m := chain_mono rb.2.2.2 (lcp a b) i hi hl
      have := f2 (by omega)
      omega
    · have m := chain_mono ra.2.2.2 (lcp a b) i hi hl
      have := f1 (by omega)
      omega
  · have hd := drop_cons a (show 0 < a.length by omega)
    rw [List.drop_zero] at hd
    have hc := ra.2.2.2
    rw [hd, chain, Bool.and_eq_true, decide_eq_true_eq] at hc
    have h0 := ra.2.2.1
    rw [hd, goS, if_pos (show (rd_T61 a ((0 : Nat) : Int)).f1 < c by have e : rd_T61 a ((0 : Nat) : Int) = rd_T61 a 0 := rfl; rw [e]; omega)]
    exact goS_pos c _ _ _ (by omega) hc.2
theorem common_le (a b : List S61) (q t : Int) : commonS a q b t ≤ q ∨ commonS a q b t = -1 := by
  unfold commonS
  split
  · left
    unfold cutAt
    rw [rd_nat, rd_nat]
    unfold mn
    split <;> split <;> omega
  · exact .inr rfl
theorem LineAgrees : counterfoillaw11_LineAgrees.Pure := by
  intro a q b t c _ _ _ _ _
  refine Ev.rounds ?_
  have hA := Ev.bind awake_ev (f := fun _ t => some t) (Ev.now true)
  have h1 : ∀ x, (x = true ∨ 1 ≤ c ∧ c ≤ commonS a q b t) → Ev (fun k => counterfoillaw11_LineAgrees.j1 k c (commonS a q b t) x a q b t) true := by
    intro x hx
    refine Ev.succ ?_
    simp only [counterfoillaw11_LineAgrees.j1]
    cases x with
    | true =>
      refine Ev.pos rfl ?_
      by_cases h : commonS a q b t ≤ q
      · exact Ev.pos h (Ev.bind awake_ev (Ev.pos rfl (Ev.now _)))
      · exact Ev.neg h (Ev.pos ((common_le a b q t).resolve_left h) hA)
    | false =>
      obtain ⟨g1, g2⟩ := hx.resolve_left (by simp)
      obtain ⟨e1, e2⟩ := agree g1 g2
      exact Ev.neg (by simp) (Ev.bind (epoch_ev a q c) (Ev.bind (epoch_ev b t c) (Ev.pos e1 (Ev.bind (epoch_ev a q c) (Ev.pos e2 hA)))))
  have h0 : ∀ x, Ev (fun k => counterfoillaw11_LineAgrees.j0 k c x a q b t) true := by
    intro x
    refine Ev.succ ?_
    simp only [counterfoillaw11_LineAgrees.j0]
    cases x with
    | true => exact Ev.pos rfl hA
    | false =>
      refine Ev.neg (by simp) (Ev.bind (common_ev a q b t) ?_)
      by_cases g1 : c < 1
      · exact Ev.pos g1 (h1 _ (.inl rfl))
      · refine Ev.neg g1 (h1 _ ?_)
        by_cases g2 : c > commonS a q b t
        · exact .inl (decide_eq_true g2)
        · exact .inr (by omega)
  unfold counterfoillaw11_LineAgrees.f
  by_cases g1 : (a.length : Int) > 100
  · exact Ev.pos g1 (h0 _)
  · exact Ev.neg g1 (h0 _)
end Go.Proofs.Ytlkfmmjoiadoiaa.Pure
