-- PACKED by wip/kit/pack.py: what the law's proof uses of QueueCore, DoneCore, QBig (printed words and texts of this seat)
import Derived.Test.YthdhkoeaadahaaaSFoldedB
import Derived.Test.YthdhkoeaadahaaaSPx9
import Derived.Test.YthdhkoeaadahaaaSPx12
import Derived.Test.YthdhkoeaadahaaaSPx3
import Derived.Test.YthdhkoeaadahaaaSPx11
import Derived.Test.YthdhkoeaadahaaaSEQDone
import Derived.Test.YthdhkoeaadahaaaSPx82
import Derived.Test.YthdhkoeaadahaaaSPx85
section
namespace Go.Proofs.Ythdhkoeaadahaaa.QueueCore
open Go.RowKit Go.Proofs.Ythdhkoeaadahaaa.P Go.Proofs.Ythdhkoeaadahaaa.FoldCore Go.Proofs.YthdhkoeaadahaaaW.PrintWords Go.Proofs.YthdhkoeaadahaaaW.PrintLast
set_option linter.unusedVariables false
section
variable {g X : Nat → Option Bool} {t s : Bool} {c : Prop} [Decidable c]
theorem Ev.gate (hg : Ev g t) (hX : t = true → Ev X s) : Ev (fun k => (g k).bind fun t => if t = true then X k else some false) (t && s) := by
  refine Ev.bind hg ?_
  cases t with
  | true => exact Ev.pos rfl (hX rfl)
  | false => exact Ev.neg (by simp) (Ev.now _)
theorem Ev.gateP (hX : c → Ev X s) : Ev (fun k => if c then X k else some false) (decide c && s) := by
  by_cases h : c
  · rw [decide_eq_true h]; exact Ev.pos h (hX h)
  · rw [decide_eq_false h]; exact Ev.neg h (Ev.now _)
theorem Ev.gateN (hX : ¬ c → Ev X s) : Ev (fun k => if c then some false else X k) (!decide c && s) := by
  by_cases h : c
  · rw [decide_eq_true h]; exact Ev.pos h (Ev.now _)
  · rw [decide_eq_false h]; exact Ev.neg h (hX h)
end
def fitB (a : Int) : Bool := decide (a ≥ 0) && decide (a ≤ 1099511627776)
theorem fitB_iff (a : Int) : fitB a = true ↔ 0 ≤ a ∧ a ≤ 1099511627776 := by unfold fitB; simp
theorem fits_ev (a : Int) : Ev (fun _ => queue_fits.f a) (fitB a) := by
  unfold queue_fits.f
  exact Ev.gateP (X := fun _ => some (decide (a ≤ 1099511627776))) (fun _ => Ev.now _)
def tailP : List S99 → Int → Int
  | [], a => a
  | s :: _, _ => s.f0
theorem rd99 (l : List S99) (i : Nat) (h : i < l.length) : rd_T99 l (i : Int) = l[i] := by
  unfold rd_T99; rw [Int.toNat_natCast, List.getD_eq_getElem?_getD, List.getElem?_eq_getElem h, Option.getD_some]
theorem drop99 (l : List S99) {i : Nat} (h : i < l.length) : l.drop i = rd_T99 l (i : Int) :: l.drop (i + 1) := by
  rw [List.drop_eq_getElem_cons h, rd99 l i h]
theorem tail_ev (l : List S99) (o : List S74) (a b : Int) : Ev (fun _ => queue_tail.f l o a b) (tailP l a) := by
  unfold queue_tail.f
  cases l with
  | nil => exact Ev.neg (by simp) (Ev.now _)
  | cons s r => exact Ev.pos (by simp) (Ev.pos (by simp) (Ev.now _))
def lastB (o : List S74) (a b : Int) : Bool := if b > a then true else ((o.length : Int) == 0)
noncomputable def endB (o : List S74) (a b p : Int) : Bool := decide (a = p) && (fitB a && (decide (b ≥ a) && (fitB b && (foldB o && lastB o a b))))
noncomputable def qB (o : List S74) (a b : Int) : List S99 → Int → Bool
  | [], p => endB o a b p
  | s :: r, p => fitB s.f0 && (decide (s.f0 = p) && (!decide (s.f1 ≤ s.f0) && (fitB s.f1 && (foldB s.f2 && qB o a b r s.f1))))
theorem qB_end {o : List S74} {a b : Int} : ∀ {l : List S99} {p : Int}, qB o a b l p = true → fitB a = true ∧ fitB b = true
  | [], p, h => by
    simp only [qB, endB, Bool.and_eq_true] at h
    exact ⟨h.2.1, h.2.2.2.1⟩
  | s :: r, p, h => by
    simp only [qB, Bool.and_eq_true] at h
    exact qB_end h.2.2.2.2.2
def smallL (l : List S99) : Prop := ∀ i : Nat, i < l.length → (rd_T99 l (i : Int)).f2.length ≤ 60
theorem right_ev (l : List S99) (o : List S74) (a b : Int) (hl : l.length ≤ 20) (hs : smallL l) (ho : o.length ≤ 60) : Ev (fun k => queue_Right.f k l o a b) (qB o a b l (tailP l a)) := by
  have loop : ∀ (d i : Nat) (p : Int), i + d = l.length → Ev (fun k => queue_Right.l0 k p l (l.length : Int) (i : Int) l o a b) (qB o a b (l.drop i) p) := by
    intro d
    induction d with
    | zero =>
      intro i p hi
      refine Ev.succ ?_
      simp only [queue_Right.l0]
      rw [List.drop_eq_nil_of_le (by omega)]
      refine Ev.neg (by omega) ?_
      simp only [qB, endB]
      refine Ev.gateP (fun _ => Ev.gate (fits_ev a) (fun _ => Ev.gateP (fun _ => Ev.gate (fits_ev b) (fun _ => Ev.gate (folded_ev o (by omega)) (fun _ => ?_)))))
      unfold lastB
      by_cases h : b > a
      · refine Ev.pos h ?_
        rw [if_pos h]; exact Ev.now _
      · refine Ev.neg h ?_
        rw [if_neg h]; exact Ev.now _
    | succ d ih =>
      intro i p hi
      refine Ev.succ ?_
      simp only [queue_Right.l0]
      rw [drop99 l (by omega), wrap_succ (by omega)]
      refine Ev.pos (by omega) (Ev.pos (by omega) (Ev.pos (by omega) ?_))
      simp only [qB]
      have := hs i (by omega)
      exact Ev.gate (fits_ev _) (fun _ => Ev.gateP (fun _ => Ev.gateN (fun _ => Ev.gate (fits_ev _) (fun _ => Ev.gate (folded_ev _ (by omega)) (fun _ => ih (i + 1) _ (by omega))))))
  unfold queue_Right.f
  have := loop l.length 0 (tailP l a) (by omega)
  rw [List.drop_zero] at this
  exact Ev.bind (tail_ev l o a b) this
def allW : List S99 → List S74
  | [] => []
  | s :: r => s.f2 ++ allW r
theorem small_ev (l : List S99) (o : List S74) (a b : Int) : ∃ t, Ev (fun k => counterfoilref12_Small.f k l o a b) t ∧ (t = true → l.length ≤ 20 ∧ o.length ≤ 60 ∧ smallL l) := by
  have no : Ev (fun k => counterfoilref12_Small.j0 k true l o a b) false := by
    refine Ev.succ ?_
    simp only [counterfoilref12_Small.j0]
    exact Ev.pos (by simp) (Ev.now _)
  unfold counterfoilref12_Small.f
  by_cases h1 : (l.length : Int) > 20
  · exact ⟨false, Ev.pos h1 no, fun h => by simp at h⟩
  by_cases h2 : (o.length : Int) > 60
  · refine ⟨false, Ev.neg h1 ?_, fun h => by simp at h⟩
    rw [decide_eq_true h2]; exact no
  have loop : ∀ (d i : Nat), i + d = l.length → ∃ t, Ev (fun k => counterfoilref12_Small.l0 k (i : Int) l o a b) t ∧ (t = true → ∀ j : Nat, i ≤ j → j < l.length → (rd_T99 l (j : Int)).f2.length ≤ 60) := by
    intro d
    induction d with
    | zero =>
      intro i hi
      refine ⟨true, Ev.succ ?_, fun _ j h1 h2 => by omega⟩
      simp only [counterfoilref12_Small.l0]
      exact Ev.neg (by omega) (Ev.now _)
    | succ d ih =>
      intro i hi
      by_cases h : ((rd_T99 l (i : Int)).f2.length : Int) > 60
      · refine ⟨false, Ev.succ ?_, fun h => by simp at h⟩
        simp only [counterfoilref12_Small.l0]
        exact Ev.pos (by omega) (Ev.pos (by omega) (Ev.pos h (Ev.now _)))
      · obtain ⟨t, ht, h'⟩ := ih (i + 1) (by omega)
        refine ⟨t, Ev.succ ?_, fun e j hj hl => ?_⟩
        · simp only [counterfoilref12_Small.l0]
          rw [wrap_succ (by omega)]
          exact Ev.pos (by omega) (Ev.pos (by omega) (Ev.neg h ht))
        · by_cases e2 : j = i
          · subst e2; omega
          · exact h' e j (by omega) hl
  obtain ⟨t, ht, h'⟩ := loop l.length 0 (by omega)
  refine ⟨t, Ev.neg h1 ?_, fun e => ⟨by omega, by omega, fun j hj => h' e j (by omega) hj⟩⟩
  rw [decide_eq_false h2]
  refine Ev.succ ?_
  simp only [counterfoilref12_Small.j0]
  exact Ev.neg (by simp) ht
end Go.Proofs.Ythdhkoeaadahaaa.QueueCore
end
section
namespace Go.Proofs.Ythdhkoeaadahaaa.DoneCore
open Go.RowKit Go.Proofs.Ythdhkoeaadahaaa.P Go.Proofs.Ythdhkoeaadahaaa.FoldCore Go.Proofs.Ythdhkoeaadahaaa.QueueCore Go.Proofs.YthdhkoeaadahaaaW.PrintWords Go.Proofs.YthdhkoeaadahaaaW.PrintLast
set_option linter.unusedVariables false
theorem qB_at {o : List S74} {a b : Int} : ∀ {l : List S99} {p : Int}, qB o a b l p = true → tailP l a = p
  | [], p, h => by
    simp only [qB, endB, Bool.and_eq_true, decide_eq_true_eq] at h
    exact h.1
  | s :: r, p, h => by
    simp only [qB, Bool.and_eq_true, decide_eq_true_eq] at h
    exact h.2.1
theorem qB_gt {o : List S74} {a b : Int} : ∀ {l : List S99} {p : Int}, qB o a b l p = true → ∀ x ∈ l, p < x.f1
  | [], p, h, x, hx => by simp at hx
  | s :: r, p, h, x, hx => by
    simp only [qB, Bool.and_eq_true, decide_eq_true_eq, Bool.not_eq_true', decide_eq_false_iff_not] at h
    obtain ⟨_, h1, h2, _, _, h3⟩ := h
    rcases List.mem_cons.1 hx with rfl | hx
    · omega
    · have := qB_gt h3 x hx
      omega
end Go.Proofs.Ythdhkoeaadahaaa.DoneCore
end
section
namespace Go.Proofs.Ythdhkoeaadahaaa.QBig
open Go.RowKit Go.Proofs.Ythdhkoeaadahaaa.P Go.Proofs.Ythdhkoeaadahaaa.FoldCore Go.Proofs.Ythdhkoeaadahaaa.QueueCore Go.Proofs.Ythdhkoeaadahaaa.DoneCore Go.Proofs.YthdhkoeaadahaaaW.PrintWords Go.Proofs.YthdhkoeaadahaaaW.PrintLast Go.Proofs.Ythdhkoeaadahaaa.SortCore
set_option linter.unusedVariables false
theorem mem99 (l : List S99) (i : Nat) (h : i < l.length) : rd_T99 l (i : Int) ∈ l := by rw [rd99 l i h]; exact List.getElem_mem h
theorem right_big (l : List S99) (o : List S74) (a b : Int) (hq : smallQ l o) : Ev (fun k => queue_Right.f k l o a b) (qB o a b l (tailP l a)) := by
  obtain ⟨hl, ho, hs⟩ := hq
  have loop : ∀ (d i : Nat) (p : Int), i + d = l.length → Ev (fun k => queue_Right.l0 k p l (l.length : Int) (i : Int) l o a b) (qB o a b (l.drop i) p) := by
    intro d
    induction d with
    | zero =>
      intro i p hi
      refine Ev.succ ?_
      simp only [queue_Right.l0]
      rw [List.drop_eq_nil_of_le (by omega)]
      refine Ev.neg (by omega) ?_
      simp only [qB, endB]
      refine Ev.gateP (fun _ => Ev.gate (fits_ev a) (fun _ => Ev.gateP (fun _ => Ev.gate (fits_ev b) (fun _ => Ev.gate (folded_ev o (by omega)) (fun _ => ?_)))))
      unfold lastB
      by_cases h : b > a
      · refine Ev.pos h ?_
        rw [if_pos h]; exact Ev.now _
      · refine Ev.neg h ?_
        rw [if_neg h]; exact Ev.now _
    | succ d ih =>
      intro i p hi
      refine Ev.succ ?_
      simp only [queue_Right.l0]
      rw [drop99 l (by omega), wrap_succ (by omega)]
      refine Ev.pos (by omega) (Ev.pos (by omega) (Ev.pos (by omega) ?_))
      simp only [qB]
      have := hs _ (mem99 l i (by omega))
      exact Ev.gate (fits_ev _) (fun _ => Ev.gateP (fun _ => Ev.gateN (fun _ => Ev.gate (fits_ev _) (fun _ => Ev.gate (folded_ev _ (by omega)) (fun _ => ih (i + 1) _ (by omega))))))
  unfold queue_Right.f
  have := loop l.length 0 (tailP l a) (by omega)
  rw [List.drop_zero] at this
  exact Ev.bind (tail_ev l o a b) this
theorem done_big (l : List S99) (o : List S74) (a b q : Int) (hs : smallQ l o) (hq : qB o a b l (tailP l a) = true) : Ev (fun k => queue_Done.f k l o a b q) (l.filter (lateQ q), o, a, b, 0) := by
  unfold queue_Done.f
  refine Ev.bind (right_big l o a b hs) (Ev.pos hq ?_)
  rw [if_pos hs]
  exact Ev.now _
theorem clone_is (l : List S99) (o : List S74) (a b : Int) (hs : smallQ l o) : Ev (fun _ => queue_clone.f l o a b) (l, o, a, b) := Ev.const (by unfold queue_clone.f; rw [if_pos hs])
theorem add_big (l : List S99) (o ws : List S74) (a b : Int) (hs : smallQ l o) (hw : o.length + ws.length ≤ 10000) (hq : qB o a b l (tailP l a) = true) (hb : b < 1099511627776) : Ev (fun k => queue_Add.f k l o a b ws) (l, foldW (o ++ ws), a, b + 1, 0) := by
  obtain ⟨b1, b2⟩ := (fitB_iff _).1 (qB_end hq).2
  unfold queue_Add.f
  refine Ev.bind (right_big l o a b hs) (Ev.pos hq ?_)
  rw [show (b == 1099511627776) = false from beq_eq_false_iff_ne.2 (by omega)]
  refine Ev.succ ?_
  simp only [queue_Add.j0]
  refine Ev.neg (by simp) (Ev.bind (clone_is l o a b hs) (Ev.bind (merge_ev o ws hw) ?_))
  rw [show wrap64 (b + 1) = b + 1 by unfold wrap64; omega]
  exact Ev.now _
theorem cut_big (l : List S99) (o : List S74) (a b : Int) (hs : smallQ l o) (hq : qB o a b l (tailP l a) = true) (hb : b ≠ a) : Ev (fun k => queue_Cut.f k l o a b) (l ++ [⟨a, b, o⟩], [], b, b, 0) := by
  unfold queue_Cut.f
  refine Ev.bind (right_big l o a b hs) (Ev.pos hq (Ev.neg hb (Ev.bind (clone_is l o a b hs) (Ev.pos (by have := hs.1; simp only; omega) (Ev.now _)))))
theorem foldB_fold (l : List S74) : foldB (foldW l) = true := by
  rw [foldB_eq]
  exact decide_eq_true (fold_lt weakW l)
theorem qB_more {o o' : List S74} {a b : Int} (ho : foldB o' = true) (hb : b < 1099511627776) : ∀ {l : List S99} {p : Int}, qB o a b l p = true → qB o' a (b + 1) l p = true
  | [], p, h => by
    simp only [qB, endB, Bool.and_eq_true, decide_eq_true_eq] at h ⊢
    obtain ⟨h1, h2, h3, h4, _, _⟩ := h
    have h5 := (fitB_iff _).1 h4
    refine ⟨h1, h2, by omega, (fitB_iff _).2 ⟨by omega, by omega⟩, ho, ?_⟩
    unfold lastB
    rw [if_pos (by omega)]
  | s :: r, p, h => by
    simp only [qB, Bool.and_eq_true] at h ⊢
    exact ⟨h.1, h.2.1, h.2.2.1, h.2.2.2.1, h.2.2.2.2.1, qB_more ho hb h.2.2.2.2.2⟩
theorem qB_cut {o : List S74} {a b : Int} (hb : b ≠ a) : ∀ {l : List S99} {p : Int}, qB o a b l p = true → qB [] b b (l ++ [⟨a, b, o⟩]) p = true
  | [], p, h => by
    simp only [qB, endB, Bool.and_eq_true, decide_eq_true_eq] at h
    obtain ⟨h1, h2, h3, h4, h5, _⟩ := h
    have e : foldB [] = true := (foldB_iff []).2 (fun j hj => by simp at hj)
    simp only [List.nil_append, qB, endB, Bool.and_eq_true, decide_eq_true_eq, Bool.not_eq_true', decide_eq_false_iff_not]
    refine ⟨h2, h1, by omega, h4, h5, trivial, h4, by omega, h4, e, ?_⟩
    unfold lastB
    rw [if_neg (by omega)]
    rfl
  | s :: r, p, h => by
    rw [List.cons_append]
    simp only [qB, Bool.and_eq_true] at h ⊢
    exact ⟨h.1, h.2.1, h.2.2.1, h.2.2.2.1, h.2.2.2.2.1, qB_cut hb h.2.2.2.2.2⟩
theorem allW_app : ∀ (l m : List S99), allW (l ++ m) = allW l ++ allW m
  | [], m => rfl
  | s :: r, m => by rw [List.cons_append, allW, allW, allW_app r m, List.append_assoc]
end Go.Proofs.Ythdhkoeaadahaaa.QBig
end
