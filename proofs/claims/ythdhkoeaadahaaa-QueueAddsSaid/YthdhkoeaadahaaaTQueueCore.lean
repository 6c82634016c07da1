-- PACKED by wip/kit/pack.py: what the law's proof uses of QueueCore (printed words and texts of this seat)
import Derived.Test.YthdhkoeaadahaaaTFoldCore
import Derived.Test.YthdhkoeaadahaaaTPx5
import Derived.Test.YthdhkoeaadahaaaTPx9
import Derived.Test.YthdhkoeaadahaaaTPx12
import Derived.Test.YthdhkoeaadahaaaTPx3
import Derived.Test.YthdhkoeaadahaaaTPx11
namespace Go.Proofs.Ythdhkoeaadahaaa.QueueCore
open Go.RowKit Go.Proofs.Ythdhkoeaadahaaa.P Go.Proofs.Ythdhkoeaadahaaa.FoldCore Go.Proofs.YthdhkoeaadahaaaW.PrintWords Go.Proofs.YthdhkoeaadahaaaW.PrintLast
set_option linter.unusedVariables false
section
variable {g X : Nat → Option Bool} {t s : Bool} {c : Prop} [Decidable c]
theorem Ev.gate (hg : Ev g t) (hX : t = true → Ev X s) : Ev (fun k => (g k).bind fun t => if t = true then X k else some false) (t && s) := by
  refine Ev.bind hg ?_
  cases t with
  | true => exact Ev.pos rfl (hX rfl)
  | false => exact Ev.neg (by simp) (Ev.now _)
theorem Ev.gateP (hX : c → Ev X s) : Ev (fun k => if c then X k else some false) (decide c && s) := by
  by_cases h : c
  · rw [decide_eq_true h]; exact Ev.pos h (hX h)
  · rw [decide_eq_false h]; exact Ev.neg h (Ev.now _)
theorem Ev.gateN (hX : ¬ c → Ev X s) : Ev (fun k => if c then some false else X k) (!decide c && s) := by
  by_cases h : c
  · rw [decide_eq_true h]; exact Ev.pos h (Ev.now _)
  · rw [decide_eq_false h]; exact Ev.neg h (hX h)
end
def fitB (a : Int) : Bool := decide (a ≥ 0) && decide (a ≤ 1099511627776)
theorem fitB_iff (a : Int) : fitB a = true ↔ 0 ≤ a ∧ a ≤ 1099511627776 := by unfold fitB; simp
theorem fits_ev (a : Int) : Ev (fun _ => queue_fits.f a) (fitB a) := by
  unfold queue_fits.f
  exact Ev.gateP (X := fun _ => some (decide (a ≤ 1099511627776))) (fun _ => Ev.now _)
theorem rfits_ev (a : Int) : Ev (fun _ => counterfoilref12_fits.f a) (fitB a) := by
  unfold counterfoilref12_fits.f
  exact Ev.gateP (X := fun _ => some (decide (a ≤ 1099511627776))) (fun _ => Ev.now _)
def tailP : List S99 → Int → Int
  | [], a => a
  | s :: _, _ => s.f0
theorem rd99 (l : List S99) (i : Nat) (h : i < l.length) : rd_T99 l (i : Int) = l[i] := by
  unfold rd_T99; rw [Int.toNat_natCast, List.getD_eq_getElem?_getD, List.getElem?_eq_getElem h, Option.getD_some]
theorem drop99 (l : List S99) {i : Nat} (h : i < l.length) : l.drop i = rd_T99 l (i : Int) :: l.drop (i + 1) := by
  rw [List.drop_eq_getElem_cons h, rd99 l i h]
theorem tail_ev (l : List S99) (o : List S74) (a b : Int) : Ev (fun _ => queue_tail.f l o a b) (tailP l a) := by
  unfold queue_tail.f
  cases l with
  | nil => exact Ev.neg (by simp) (Ev.now _)
  | cons s r => exact Ev.pos (by simp) (Ev.pos (by simp) (Ev.now _))
def lastB (o : List S74) (a b : Int) : Bool := if b > a then true else ((o.length : Int) == 0)
noncomputable def endB (o : List S74) (a b p : Int) : Bool := decide (a = p) && (fitB a && (decide (b ≥ a) && (fitB b && (foldB o && lastB o a b))))
noncomputable def qB (o : List S74) (a b : Int) : List S99 → Int → Bool
  | [], p => endB o a b p
  | s :: r, p => fitB s.f0 && (decide (s.f0 = p) && (!decide (s.f1 ≤ s.f0) && (fitB s.f1 && (foldB s.f2 && qB o a b r s.f1))))
theorem qB_end {o : List S74} {a b : Int} : ∀ {l : List S99} {p : Int}, qB o a b l p = true → fitB a = true ∧ fitB b = true
  | [], p, h => by
    simp only [qB, endB, Bool.and_eq_true] at h
    exact ⟨h.2.1, h.2.2.2.1⟩
  | s :: r, p, h => by
    simp only [qB, Bool.and_eq_true] at h
    exact qB_end h.2.2.2.2.2
def smallL (l : List S99) : Prop := ∀ i : Nat, i < l.length → (rd_T99 l (i : Int)).f2.length ≤ 60
theorem right_ev (l : List S99) (o : List S74) (a b : Int) (hl : l.length ≤ 20) (hs : smallL l) (ho : o.length ≤ 60) : Ev (fun k => queue_Right.f k l o a b) (qB o a b l (tailP l a)) := by
  have loop : ∀ (d i : Nat) (p : Int), i + d = l.length → Ev (fun k => queue_Right.l0 k p l (l.length : Int) (i : Int) l o a b) (qB o a b (l.drop i) p) := by
    intro d
    induction d with
    | zero =>
      intro i p hi
      refine Ev.succ ?_
      simp only [queue_Right.l0]
      rw [List.drop_eq_nil_of_le (by omega)]
      refine Ev.neg (by omega) ?_
      simp only [qB, endB]
      refine Ev.gateP (fun _ => Ev.gate (fits_ev a) (fun _ => Ev.gateP (fun _ => Ev.gate (fits_ev b) (fun _ => Ev.gate (folded_ev o (by omega)) (fun _ => ?_)))))
      unfold lastB
      by_cases h : b > a
      · refine Ev.pos h ?_
        rw [if_pos h]; exact Ev.now _
      · refine Ev.neg h ?_
        rw [if_neg h]; exact Ev.now _
    | succ d ih =>
      intro i p hi
      refine Ev.succ ?_
      simp only [queue_Right.l0]
      rw [drop99 l (by omega), wrap_succ (by omega)]
      refine Ev.pos (by omega) (Ev.pos (by omega) (Ev.pos (by omega) ?_))
      simp only [qB]
      have := hs i (by omega)
      exact Ev.gate (fits_ev _) (fun _ => Ev.gateP (fun _ => Ev.gateN (fun _ => Ev.gate (fits_ev _) (fun _ => Ev.gate (folded_ev _ (by omega)) (fun _ => ih (i + 1) _ (by omega))))))
  unfold queue_Right.f
  have := loop l.length 0 (tailP l a) (by omega)
  rw [List.drop_zero] at this
  exact Ev.bind (tail_ev l o a b) this
theorem rend_ev (l : List S99) (o : List S74) (a b p : Int) (ho : o.length ≤ 60) : Ev (fun k => counterfoilref12_Right.j2 k (p != a) l o a b) (endB o a b p) := by
  refine Ev.succ ?_
  simp only [counterfoilref12_Right.j2]
  by_cases hp : a = p
  · have e : endB o a b p = (fitB a && (fitB b && (!decide (a > b) && (foldB o && lastB o a b)))) := by
      unfold endB
      rw [decide_eq_true hp, show (!decide (a > b)) = decide (b ≥ a) by by_cases h : a > b; (rw [decide_eq_true h, decide_eq_false (by omega)]; rfl); (rw [decide_eq_false h, decide_eq_true (by omega)]; rfl)]
      cases fitB a <;> cases fitB b <;> cases decide (b ≥ a) <;> rfl
    rw [e]
    refine Ev.neg (by simp [hp]) (Ev.gate (rfits_ev a) (fun _ => Ev.gate (rfits_ev b) (fun _ => Ev.gateN (fun _ => Ev.gate (rfolded_ev o (by omega)) (fun _ => ?_)))))
    unfold lastB
    by_cases h : a < b
    · refine Ev.pos h ?_
      rw [if_pos (by omega)]; exact Ev.now _
    · refine Ev.neg h ?_
      rw [if_neg (by omega)]; exact Ev.now _
  · have e : endB o a b p = false := by unfold endB; rw [decide_eq_false hp]; rfl
    rw [e]
    exact Ev.pos (by simp; omega) (Ev.now _)
def atOf (l : List S99) (a : Int) (i : Nat) : Int := if i = 0 then tailP l a else (rd_T99 l ((i - 1 : Nat) : Int)).f1
theorem rright_ev (l : List S99) (o : List S74) (a b : Int) (hl : l.length ≤ 20) (hs : smallL l) (ho : o.length ≤ 60) : Ev (fun k => counterfoilref12_Right.f k l o a b) (qB o a b l (tailP l a)) := by
  have loop : ∀ (d i : Nat), i + d = l.length → Ev (fun k => counterfoilref12_Right.l0 k (l.length : Int) (i : Int) l o a b) (qB o a b (l.drop i) (atOf l a i)) := by
    intro d
    induction d with
    | zero =>
      intro i hi
      refine Ev.succ ?_
      simp only [counterfoilref12_Right.l0]
      rw [List.drop_eq_nil_of_le (by omega)]
      refine Ev.neg (by omega) ?_
      simp only [qB]
      by_cases h0 : l.length = 0
      · have e : l = [] := List.eq_nil_of_length_eq_zero h0
        have e2 : atOf l a i = a := by unfold atOf; rw [if_pos (by omega), e]; rfl
        rw [e2]
        have := rend_ev l o a b a ho
        rw [show (a != a) = false by simp] at this
        exact Ev.neg (by omega) this
      · have e2 : atOf l a i = (rd_T99 l ((l.length - 1 : Nat) : Int)).f1 := by unfold atOf; rw [if_neg (by omega), show i = l.length by omega]
        rw [e2, wrap_pred (by omega) (by omega)]
        exact Ev.pos (by omega) (Ev.pos (by omega) (Ev.pos (by omega) (rend_ev l o a b _ ho)))
    | succ d ih =>
      intro i hi
      have hsi := hs i (by omega)
      have nx := ih (i + 1) (by omega)
      rw [show atOf l a (i + 1) = (rd_T99 l (i : Int)).f1 by unfold atOf; rw [if_neg (by omega), Nat.add_sub_cancel]] at nx
      have hp : i = 0 → atOf l a i = (rd_T99 l (i : Int)).f0 := fun h => by
        subst h
        have hd := drop99 l (i := 0) (by omega)
        rw [List.drop_zero] at hd
        unfold atOf
        rw [if_pos rfl]
        conv => lhs; rw [hd]
        rfl
      have hp' : i ≠ 0 → atOf l a i = (rd_T99 l ((i - 1 : Nat) : Int)).f1 := fun h => by unfold atOf; rw [if_neg h]
      rw [drop99 l (by omega)]
      simp only [qB]
      generalize hss : rd_T99 l (i : Int) = s at hsi nx hp ⊢
      have no : ∀ r, r = false → Ev (fun k => counterfoilref12_Right.j1 k (l.length : Int) (i : Int) true l o a b s.f0 s.f1 s.f2) r := fun r e => by
        refine Ev.succ ?_
        simp only [counterfoilref12_Right.j1]
        rw [e]
        exact Ev.pos (by simp) (Ev.now _)
      refine Ev.succ ?_
      simp only [counterfoilref12_Right.l0]
      rw [hss]
      refine Ev.pos (by omega) (Ev.pos (by omega) (Ev.pos (by omega) (Ev.bind (rfits_ev s.f0) ?_)))
      cases h1 : fitB s.f0 with
      | false => exact Ev.neg (by simp) (no _ rfl)
      | true =>
        refine Ev.pos rfl (Ev.bind (rfits_ev s.f1) ?_)
        cases h2 : fitB s.f1 with
        | false => exact Ev.neg (by simp) (no _ (by simp))
        | true =>
          refine Ev.pos rfl ?_
          by_cases h3 : s.f0 ≥ s.f1
          · exact Ev.pos h3 (no _ (by rw [decide_eq_true (show s.f1 ≤ s.f0 from h3)]; simp))
          · refine Ev.neg h3 (Ev.bind (rfolded_ev s.f2 (by omega)) ?_)
            rw [decide_eq_false (show ¬ s.f1 ≤ s.f0 from h3)]
            cases h4 : foldB s.f2 with
            | false => exact no _ (by simp)
            | true =>
              refine Ev.succ ?_
              simp only [counterfoilref12_Right.j1]
              refine Ev.neg (by simp) ?_
              rw [wrap_succ (by omega)]
              by_cases h5 : i = 0
              · rw [hp h5, decide_eq_true rfl]
                refine Ev.neg (by omega) ?_
                simpa using nx
              · rw [wrap_pred (by omega) (by omega), hp' h5]
                refine Ev.pos (by omega) (Ev.pos (by omega) (Ev.pos (by omega) ?_))
                have := Ev.gateP (c := (rd_T99 l ((i - 1 : Nat) : Int)).f1 = s.f0) (fun _ => nx)
                rw [show decide ((rd_T99 l ((i - 1 : Nat) : Int)).f1 = s.f0) = decide (s.f0 = (rd_T99 l ((i - 1 : Nat) : Int)).f1) from decide_eq_decide.2 eq_comm] at this
                simpa using this
  unfold counterfoilref12_Right.f
  have := loop l.length 0 (by omega)
  rw [List.drop_zero, show atOf l a 0 = tailP l a by unfold atOf; rw [if_pos rfl]] at this
  exact this
theorem small_ev (l : List S99) (o : List S74) (a b : Int) : ∃ t, Ev (fun k => counterfoilref12_Small.f k l o a b) t ∧ (t = true → l.length ≤ 20 ∧ o.length ≤ 60 ∧ smallL l) := by
  have no : Ev (fun k => counterfoilref12_Small.j0 k true l o a b) false := by
    refine Ev.succ ?_
    simp only [counterfoilref12_Small.j0]
    exact Ev.pos (by simp) (Ev.now _)
  unfold counterfoilref12_Small.f
  by_cases h1 : (l.length : Int) > 20
  · exact ⟨false, Ev.pos h1 no, fun h => by simp at h⟩
  by_cases h2 : (o.length : Int) > 60
  · refine ⟨false, Ev.neg h1 ?_, fun h => by simp at h⟩
    rw [decide_eq_true h2]; exact no
  have loop : ∀ (d i : Nat), i + d = l.length → ∃ t, Ev (fun k => counterfoilref12_Small.l0 k (i : Int) l o a b) t ∧ (t = true → ∀ j : Nat, i ≤ j → j < l.length → (rd_T99 l (j : Int)).f2.length ≤ 60) := by
    intro d
    induction d with
    | zero =>
      intro i hi
      refine ⟨true, Ev.succ ?_, fun _ j h1 h2 => by omega⟩
      simp only [counterfoilref12_Small.l0]
      exact Ev.neg (by omega) (Ev.now _)
    | succ d ih =>
      intro i hi
      by_cases h : ((rd_T99 l (i : Int)).f2.length : Int) > 60
      · refine ⟨false, Ev.succ ?_, fun h => by simp at h⟩
        simp only [counterfoilref12_Small.l0]
        exact Ev.pos (by omega) (Ev.pos (by omega) (Ev.pos h (Ev.now _)))
      · obtain ⟨t, ht, h'⟩ := ih (i + 1) (by omega)
        refine ⟨t, Ev.succ ?_, fun e j hj hl => ?_⟩
        · simp only [counterfoilref12_Small.l0]
          rw [wrap_succ (by omega)]
          exact Ev.pos (by omega) (Ev.pos (by omega) (Ev.neg h ht))
        · by_cases e2 : j = i
          · subst e2; omega
          · exact h' e j (by omega) hl
  obtain ⟨t, ht, h'⟩ := loop l.length 0 (by omega)
  refine ⟨t, Ev.neg h1 ?_, fun e => ⟨by omega, by omega, fun j hj => h' e j (by omega) hj⟩⟩
  rw [decide_eq_false h2]
  refine Ev.succ ?_
  simp only [counterfoilref12_Small.j0]
  exact Ev.neg (by simp) ht
end Go.Proofs.Ythdhkoeaadahaaa.QueueCore
