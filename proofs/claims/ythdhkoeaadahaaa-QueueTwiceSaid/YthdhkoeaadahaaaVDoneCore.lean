-- PACKED by wip/kit/pack.py: what the law's proof uses of DoneCore (printed words and texts of this seat)
import Derived.Test.YthdhkoeaadahaaaVQueueCore
import Derived.Test.YthdhkoeaadahaaaVEQDone
namespace Go.Proofs.Ythdhkoeaadahaaa.DoneCore
open Go.RowKit Go.Proofs.Ythdhkoeaadahaaa.P Go.Proofs.Ythdhkoeaadahaaa.FoldCore Go.Proofs.Ythdhkoeaadahaaa.QueueCore Go.Proofs.YthdhkoeaadahaaaW.PrintWords Go.Proofs.YthdhkoeaadahaaaW.PrintLast
set_option linter.unusedVariables false
theorem qB_at {o : List S74} {a b : Int} : ∀ {l : List S99} {p : Int}, qB o a b l p = true → tailP l a = p
  | [], p, h => by
    simp only [qB, endB, Bool.and_eq_true, decide_eq_true_eq] at h
    exact h.1
  | s :: r, p, h => by
    simp only [qB, Bool.and_eq_true, decide_eq_true_eq] at h
    exact h.2.1
theorem qB_gt {o : List S74} {a b : Int} : ∀ {l : List S99} {p : Int}, qB o a b l p = true → ∀ x ∈ l, p < x.f1
  | [], p, h, x, hx => by simp at hx
  | s :: r, p, h, x, hx => by
    simp only [qB, Bool.and_eq_true, decide_eq_true_eq, Bool.not_eq_true', decide_eq_false_iff_not] at h
    obtain ⟨_, h1, h2, _, _, h3⟩ := h
    rcases List.mem_cons.1 hx with rfl | hx
    · omega
    · have := qB_gt h3 x hx
      omega
theorem done_suffix {o : List S74} {a b : Int} (q : Int) : ∀ {l : List S99} {p : Int}, qB o a b l p = true → ∃ p', qB o a b (l.filter (lateQ q)) p' = true ∧ p ≤ p' ∧ bytesS (allW (l.filter (lateQ q))) ≤ bytesS (allW l)
  | [], p, h => ⟨p, h, Int.le_refl _, Int.le_refl _⟩
  | s :: r, p, h => by
    have h0 := h
    simp only [qB, Bool.and_eq_true, decide_eq_true_eq, Bool.not_eq_true', decide_eq_false_iff_not] at h
    obtain ⟨_, h1, h2, _, _, h3⟩ := h
    by_cases hq : s.f1 ≤ q
    · have e : lateQ q s = false := by unfold lateQ; rw [decide_eq_true hq]; rfl
      rw [List.filter_cons_of_neg (by rw [e]; simp)]
      obtain ⟨p', h4, h5, h6⟩ := done_suffix q h3
      refine ⟨p', h4, by omega, ?_⟩
      rw [allW, bytesS_app]
      have := bytesS_nn s.f2
      omega
    · have e : (s :: r).filter (lateQ q) = s :: r := by
        rw [List.filter_eq_self]
        intro x hx
        have : q < x.f1 := by
          rcases List.mem_cons.1 hx with rfl | hx
          · omega
          · have := qB_gt h3 x hx
            omega
        unfold lateQ
        rw [decide_eq_false (by omega)]
        rfl
      rw [e]
      exact ⟨p, h0, Int.le_refl _, Int.le_refl _⟩
theorem small_filter {l : List S99} (h : smallL l) (f : S99 → Bool) : smallL (l.filter f) := by
  intro i hi
  rw [rd99 _ i hi]
  have hm : (l.filter f)[i] ∈ l := (List.mem_filter.1 (List.getElem_mem hi)).1
  obtain ⟨j, hj, e⟩ := List.getElem_of_mem hm
  rw [← e, ← rd99 l j hj]
  exact h j hj
theorem smallQ_of {l : List S99} {o : List S74} (hl : l.length ≤ 20) (hs : smallL l) (ho : o.length ≤ 60) : smallQ l o := by
  refine ⟨by omega, by omega, fun x hx => ?_⟩
  obtain ⟨j, hj, e⟩ := List.getElem_of_mem hx
  have := hs j hj
  rw [rd99 l j hj, e] at this
  omega
theorem done_ev (l : List S99) (o : List S74) (a b q : Int) (hl : l.length ≤ 20) (hs : smallL l) (ho : o.length ≤ 60) (hq : qB o a b l (tailP l a) = true) : Ev (fun k => queue_Done.f k l o a b q) (l.filter (lateQ q), o, a, b, 0) := by
  unfold queue_Done.f
  refine Ev.bind (right_ev l o a b hl hs ho) (Ev.pos hq ?_)
  rw [if_pos (smallQ_of hl hs ho)]
  exact Ev.now _
theorem done_right {l : List S99} {o : List S74} {a b : Int} (q : Int) (hq : qB o a b l (tailP l a) = true) : qB o a b (l.filter (lateQ q)) (tailP (l.filter (lateQ q)) a) = true ∧ tailP l a ≤ tailP (l.filter (lateQ q)) a ∧ bytesS (allW (l.filter (lateQ q))) ≤ bytesS (allW l) := by
  obtain ⟨p', h1, h2, h3⟩ := done_suffix q hq
  rw [qB_at h1]
  exact ⟨h1, h2, h3⟩
end Go.Proofs.Ythdhkoeaadahaaa.DoneCore
