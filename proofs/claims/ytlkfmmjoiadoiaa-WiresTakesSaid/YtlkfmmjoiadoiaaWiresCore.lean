/- What the wires' plain functions come to: right, send, the reference's packets, right, put; the gate 'few'. -/
import Derived.Test.YtlkfmmjoiadoiaaEWRight
import Derived.Test.YtlkfmmjoiadoiaaEClone24
import Derived.Test.YtlkfmmjoiadoiaaPx37
import Derived.Test.YtlkfmmjoiadoiaaPx38
import Derived.Test.YtlkfmmjoiadoiaaPx31
import Derived.Test.YtlkfmmjoiadoiaaPx40
import Derived.Test.YtlkfmmjoiadoiaaPx41
import Derived.Test.YtlkfmmjoiadoiaaPx39
import Derived.Test.YtlkfmmjoiadoiaaPx42
namespace Go.Proofs.Ytlkfmmjoiadoiaa.WiresCore
open Go.RowKit Go.Proofs.Ytlkfmmjoiadoiaa.P Go.Proofs.YtlkfmmjoiadoiaaW.PrintWords Go.Proofs.YtlkfmmjoiadoiaaW.PrintLast
set_option linter.unusedVariables false

section
variable {α β : Type} {A B g : Nat → Option α} {r : α} {c : Prop} [Decidable c]
theorem Ev.pos (h : c) (hA : Ev A r) : Ev (fun k => if c then A k else B k) r := by simpa only [if_pos h] using hA
theorem Ev.neg (h : ¬ c) (hB : Ev B r) : Ev (fun k => if c then A k else B k) r := by simpa only [if_neg h] using hB
theorem Ev.succ (h : Ev (fun k => g (k + 1)) r) : Ev g r := Ev.step (fun _ => rfl) h
theorem Ev.const {a : Option α} (h : a = some r) : Ev (fun _ => a) r := ⟨0, fun _ _ => h⟩
end
theorem wrap_succ {i : Nat} (h : i < 9223372036854775807) : wrap64 ((i : Int) + 1) = ((i + 1 : Nat) : Int) := by unfold wrap64; omega

def rightP (l : List S24) : Bool := decide ((l.length : Int) ≤ 256) && !(l.any bad24)
theorem rightP_len {l : List S24} (h : rightP l = true) : l.length ≤ 256 := by
  unfold rightP at h
  have := of_decide_eq_true (Bool.and_eq_true_iff.1 h).1
  omega
theorem right_ev (l : List S24) : Ev (fun _ => wires_Right.f l) (rightP l) := Ev.const rfl
theorem site_ev (a : Int) : Ev (fun _ => wires_site.f a) (siteB a) := Ev.const (site_f a)
theorem siteB_iff (a : Int) : siteB a = true ↔ a = 0 ∨ a = 1 := by
  unfold siteB
  by_cases h : a = 0
  · simp [h]
  · simp [h]
def sendS (l : List S24) (p : S24) : List S24 × Int :=
  if (!rightP l || !siteB p.f0) = true then ([], 1) else if (p.f1.size : Int) > 4103 then ([], 5) else if l.length = 256 then ([], 6) else (l ++ [p], 0)
theorem send_ev (l : List S24) (p : S24) : Ev (fun k => wires_Send.f k l p.f0 p.f1) (sendS l p) := by
  unfold wires_Send.f
  refine Ev.bind (right_ev l) ?_
  cases hr : rightP l with
  | false =>
    have e : sendS l p = ([], 1) := by unfold sendS; rw [hr]; rfl
    rw [e]
    refine Ev.neg (by simp) (Ev.succ ?_)
    simp only [wires_Send.j0]
    exact Ev.pos (by simp) (Ev.now _)
  | true =>
    have hl := rightP_len hr
    refine Ev.pos rfl (Ev.bind (site_ev p.f0) ?_)
    unfold sendS
    rw [hr]
    cases hs : siteB p.f0 with
    | false =>
      refine Ev.succ ?_
      simp only [wires_Send.j0]
      exact Ev.pos (by simp) (Ev.now _)
    | true =>
      refine Ev.succ ?_
      simp only [wires_Send.j0]
      refine Ev.neg (by simp) ?_
      show Ev _ (if (p.f1.size : Int) > 4103 then (([] : List S24), (5 : Int)) else if l.length = 256 then ([], 6) else (l ++ [p], 0))
      have hc : wires_Packet_43.f l = some l := by unfold wires_Packet_43.f; rw [if_pos (by omega)]
      by_cases h1 : (p.f1.size : Int) > 4103
      · refine Ev.pos h1 ?_
        rw [if_pos h1]
        exact Ev.now _
      refine Ev.neg h1 ?_
      rw [if_neg h1]
      by_cases h2 : l.length = 256
      · refine Ev.pos (by omega) ?_
        rw [if_pos h2]
        exact Ev.now _
      refine Ev.neg (by omega) ?_
      rw [if_neg h2]
      refine Ev.bind (Ev.const hc) (Ev.bind (Ev.now _) ?_)
      exact Ev.pos (by simp; omega) (Ev.now _)

def awakeP : S24 := ⟨1, ⟨#[97]⟩⟩
theorem awake_ev : Ev (fun k => counterfoillaw16_awake.f k) true := by
  unfold counterfoillaw16_awake.f
  refine Ev.bind (send_ev [] awakeP) ?_
  have e : sendS [] awakeP = ([awakeP], 0) := by
    unfold sendS
    rw [if_neg (by decide +kernel), if_neg (by decide +kernel), if_neg (by decide +kernel)]
    rfl
  rw [e]
  refine Ev.pos (by simp) (Ev.pos (by simp) (Ev.pos (by decide +kernel) (Ev.now _)))

def toR (x : S24) : S35 := ⟨x.f0, x.f1⟩
theorem rd35 (l : List S35) (i : Nat) (h : i < l.length) : rd_T35 l (i : Int) = l[i] := by
  unfold rd_T35; rw [Int.toNat_natCast, List.getD_eq_getElem?_getD, List.getElem?_eq_getElem h, Option.getD_some]
theorem rd_map (l : List S24) (i : Nat) (h : i < l.length) : rd_T35 (l.map toR) (i : Int) = toR (rd_T24 l (i : Int)) := by
  rw [rd35 _ _ (by simpa using h), rd_get l i h, List.getElem_map]
theorem few_ev (l : List S24) (hb : l.length < 9223372036854775807) : ∃ t, Ev (fun k => counterfoillaw16_few.f k l) t ∧ (t = true → l.length ≤ 301) := by
  have loop : ∀ (d i : Nat) (s : Int), i + d = l.length → ∃ t, Ev (fun k => counterfoillaw16_few.l0 k l s (l.length : Int) (i : Int)) t ∧ (t = true → d = 0 ∨ l.length ≤ 301) := by
    intro d
    induction d with
    | zero =>
      intro i s hi
      refine ⟨true, Ev.succ ?_, fun _ => .inl rfl⟩
      simp only [counterfoillaw16_few.l0]
      exact Ev.neg (by omega) (Ev.now _)
    | succ d ih =>
      intro i s hi
      have no : ∀ s', Ev (fun k => counterfoillaw16_few.j1 k l s' (i : Int) (l.length : Int) (i : Int) true) false := fun s' => by
        refine Ev.succ ?_
        simp only [counterfoillaw16_few.j1]
        exact Ev.pos (by simp) (Ev.now _)
      by_cases h1 : (i : Int) > 300
      · refine ⟨false, Ev.succ ?_, fun h => by simp at h⟩
        simp only [counterfoillaw16_few.l0]
        exact Ev.pos (by omega) (Ev.pos h1 (no s))
      · by_cases h2 : (((rd_T24 l (i : Int)).f1).size : Int) > 5000
        · refine ⟨false, Ev.succ ?_, fun h => by simp at h⟩
          simp only [counterfoillaw16_few.l0]
          refine Ev.pos (by omega) (Ev.neg h1 (Ev.pos (by omega) (Ev.pos (by omega) ?_)))
          rw [decide_eq_true h2]
          exact no s
        · by_cases h3 : wrap64 (s + (((rd_T24 l (i : Int)).f1).size : Int)) > 20000
          · refine ⟨false, Ev.succ ?_, fun h => by simp at h⟩
            simp only [counterfoillaw16_few.l0]
            refine Ev.pos (by omega) (Ev.neg h1 (Ev.pos (by omega) (Ev.pos (by omega) ?_)))
            rw [decide_eq_false h2]
            refine Ev.succ ?_
            simp only [counterfoillaw16_few.j1]
            exact Ev.neg (by simp) (Ev.pos (by omega) (Ev.pos (by omega) (Ev.pos h3 (Ev.now _))))
          · obtain ⟨t, ht, hl⟩ := ih (i + 1) (wrap64 (s + (((rd_T24 l (i : Int)).f1).size : Int))) (by omega)
            refine ⟨t, Ev.succ ?_, fun h => ?_⟩
            · simp only [counterfoillaw16_few.l0]
              refine Ev.pos (by omega) (Ev.neg h1 (Ev.pos (by omega) (Ev.pos (by omega) ?_)))
              rw [decide_eq_false h2]
              refine Ev.succ ?_
              simp only [counterfoillaw16_few.j1]
              rw [wrap_succ (by omega)]
              exact Ev.neg (by simp) (Ev.pos (by omega) (Ev.pos (by omega) (Ev.neg h3 ht)))
            · rcases hl h with h | h
              · right; omega
              · right; exact h
  obtain ⟨t, ht, hl⟩ := loop l.length 0 0 (by omega)
  exact ⟨t, ht, fun h => by rcases hl h with h | h <;> omega⟩
theorem drop24 (l : List S24) {i : Nat} (h : i < l.length) : l.drop i = rd_T24 l (i : Int) :: l.drop (i + 1) := by
  rw [List.drop_eq_getElem_cons h, rd_get l i h]
theorem drop35 (l : List S35) {i : Nat} (h : i < l.length) : l.drop i = rd_T35 l (i : Int) :: l.drop (i + 1) := by
  rw [List.drop_eq_getElem_cons h, rd35 l i h]
theorem ref_ev (l : List S24) (hb : l.length ≤ 301) : Ev (fun k => counterfoillaw16_ref.f k l) (l.map toR) := by
  have loop : ∀ (d i : Nat) (o : List S35), i + d = l.length → o.length = i → Ev (fun k => counterfoillaw16_ref.l0 k o l (l.length : Int) (i : Int)) (o ++ (l.drop i).map toR) := by
    intro d
    induction d with
    | zero =>
      intro i o hi ho
      refine Ev.succ ?_
      simp only [counterfoillaw16_ref.l0]
      rw [List.drop_eq_nil_of_le (by omega), List.map_nil, List.append_nil]
      exact Ev.neg (by omega) (Ev.now _)
    | succ d ih =>
      intro i o hi ho
      refine Ev.succ ?_
      simp only [counterfoillaw16_ref.l0]
      rw [wrap_succ (by omega)]
      refine Ev.pos (by omega) (Ev.pos (by omega) (Ev.pos (by omega) (Ev.pos (by omega) ?_)))
      have := ih (i + 1) (o ++ [toR (rd_T24 l (i : Int))]) (by omega) (by simp; omega)
      rw [List.append_assoc, List.singleton_append, ← List.map_cons, ← drop24 l (by omega)] at this
      exact this
  have := loop l.length 0 [] (by omega) rfl
  unfold counterfoillaw16_ref.f
  simpa using this
def bad35 (y : S35) : Bool := decide (y.f0 < 0) || decide (y.f0 > 1) || decide ((y.f1.size : Int) > 4103)
theorem bad_toR (x : S24) : bad35 (toR x) = bad24 x := by
  unfold bad35 bad24 toR
  have h := siteB_iff x.f0
  cases hs : siteB x.f0 with
  | true =>
    have := h.1 hs
    rw [decide_eq_false (by show ¬ x.f0 < 0; omega), decide_eq_false (by show ¬ x.f0 > 1; omega)]
    rfl
  | false =>
    have : ¬ (x.f0 = 0 ∨ x.f0 = 1) := fun e => by rw [h.2 e] at hs; simp at hs
    by_cases h0 : x.f0 < 0
    · simp [h0]
    · have : x.f0 > 1 := by omega
      simp [this]
theorem rright_ev (m : List S35) (hb : m.length ≤ 1000) : Ev (fun k => counterfoilref16_Right.f k m) (decide ((m.length : Int) ≤ 256) && !(m.any bad35)) := by
  have loop : ∀ (d i : Nat), i + d = m.length → Ev (fun k => counterfoilref16_Right.l0 k m (i : Int)) (!((m.drop i).any bad35)) := by
    intro d
    induction d with
    | zero =>
      intro i hi
      refine Ev.succ ?_
      simp only [counterfoilref16_Right.l0]
      rw [List.drop_eq_nil_of_le (by omega)]
      exact Ev.neg (by omega) (Ev.now _)
    | succ d ih =>
      intro i hi
      refine Ev.succ ?_
      simp only [counterfoilref16_Right.l0]
      rw [wrap_succ (by omega), drop35 m (by omega), List.any_cons]
      refine Ev.pos (by omega) (Ev.pos (by omega) ?_)
      unfold bad35
      by_cases h0 : (rd_T35 m (i : Int)).f0 < 0
      · rw [decide_eq_true h0]
        exact Ev.pos h0 (Ev.now _)
      rw [decide_eq_false h0]
      refine Ev.neg h0 ?_
      by_cases h1 : (rd_T35 m (i : Int)).f0 > 1
      · rw [decide_eq_true h1]
        exact Ev.pos h1 (Ev.now _)
      rw [decide_eq_false h1]
      refine Ev.neg h1 ?_
      by_cases h2 : (((rd_T35 m (i : Int)).f1).size : Int) > 4103
      · rw [decide_eq_true h2]
        exact Ev.pos h2 (Ev.now _)
      rw [decide_eq_false h2]
      exact Ev.neg h2 (ih (i + 1) (by omega))
  unfold counterfoilref16_Right.f
  by_cases h : (m.length : Int) > 256
  · rw [decide_eq_false (by omega)]
    exact Ev.pos h (Ev.now _)
  · rw [decide_eq_true (by omega)]
    exact Ev.neg h (loop m.length 0 (by omega))
theorem rright_map_ev (l : List S24) (hb : l.length ≤ 301) : Ev (fun k => counterfoilref16_Right.f k (l.map toR)) (rightP l) := by
  have := rright_ev (l.map toR) (by simp; omega)
  rw [List.length_map, List.any_map] at this
  have e : (bad35 ∘ toR) = bad24 := funext bad_toR
  rw [e] at this
  exact this
theorem same_ev (l : List S24) (hb : l.length ≤ 1000) : Ev (fun k => counterfoillaw16_same.f k l (l.map toR)) true := by
  have loop : ∀ (d i : Nat), i + d = l.length → Ev (fun k => counterfoillaw16_same.l0 k l (l.map toR) (l.length : Int) (i : Int)) true := by
    intro d
    induction d with
    | zero =>
      intro i hi
      refine Ev.succ ?_
      simp only [counterfoillaw16_same.l0]
      exact Ev.neg (by omega) (Ev.now _)
    | succ d ih =>
      intro i hi
      refine Ev.succ ?_
      simp only [counterfoillaw16_same.l0]
      rw [wrap_succ (by omega), rd_map l i (by omega)]
      exact Ev.pos (by omega) (Ev.pos (by omega) (Ev.pos (by omega) (Ev.pos (by simp; omega) (Ev.pos rfl (Ev.pos rfl (ih (i + 1) (by omega)))))))
  unfold counterfoillaw16_same.f
  exact Ev.pos (by simp) (loop l.length 0 (by omega))
/-- The reference's Put, at a place in the list or just behind it. -/
theorem put_ev (m : List S35) (a : Nat) (ys : List S35) (ha : a ≤ m.length) (hb : m.length + ys.length ≤ 1000) : Ev (fun k => counterfoilref16_Put.f k m (a : Int) ys) (m.take a ++ (ys ++ m.drop (a + 1))) := by
  have after : ∀ (d i : Nat) (o : List S35), i + d = m.length + 1 → a < i → o.length + d ≤ 3000 → Ev (fun k => counterfoilref16_Put.l0 k m (a : Int) ys o (i : Int)) (o ++ m.drop i) := by
    intro d
    induction d with
    | zero =>
      intro i o hi hai ho
      refine Ev.succ ?_
      simp only [counterfoilref16_Put.l0]
      rw [List.drop_eq_nil_of_le (by omega), List.append_nil]
      exact Ev.neg (by omega) (Ev.now _)
    | succ d ih =>
      intro i o hi hai ho
      refine Ev.succ ?_
      simp only [counterfoilref16_Put.l0]
      rw [wrap_succ (by omega)]
      refine Ev.pos (by omega) (Ev.neg (by omega) ?_)
      by_cases h : i < m.length
      · refine Ev.pos (by omega) (Ev.pos (by omega) (Ev.pos (by omega) ?_))
        have := ih (i + 1) (o ++ [rd_T35 m (i : Int)]) (by omega) (by omega) (by simp; omega)
        rw [List.append_assoc, List.singleton_append, ← drop35 m (by omega)] at this
        exact this
      · refine Ev.neg (by omega) ?_
        have := ih (i + 1) o (by omega) (by omega) (by omega)
        rw [List.drop_eq_nil_of_le (by omega)] at this
        rw [List.drop_eq_nil_of_le (by omega)]
        exact this
  have before : ∀ (d i : Nat) (o : List S35), i + d = a → o.length = i → Ev (fun k => counterfoilref16_Put.l0 k m (a : Int) ys o (i : Int)) (o ++ ((m.drop i).take d ++ (ys ++ m.drop (a + 1)))) := by
    intro d
    induction d with
    | zero =>
      intro i o hi ho
      refine Ev.succ ?_
      simp only [counterfoilref16_Put.l0]
      rw [wrap_succ (by omega), List.take_zero, List.nil_append, ← List.append_assoc]
      refine Ev.pos (by omega) (Ev.pos (by omega) (Ev.pos (by omega) ?_))
      rw [show a + 1 = i + 1 by omega]
      exact after (m.length - i) (i + 1) (o ++ ys) (by omega) (by omega) (by simp; omega)
    | succ d ih =>
      intro i o hi ho
      refine Ev.succ ?_
      simp only [counterfoilref16_Put.l0]
      rw [wrap_succ (by omega)]
      refine Ev.pos (by omega) (Ev.neg (by omega) (Ev.pos (by omega) (Ev.pos (by omega) (Ev.pos (by omega) ?_))))
      have := ih (i + 1) (o ++ [rd_T35 m (i : Int)]) (by omega) (by simp; omega)
      rw [List.append_assoc, List.singleton_append] at this
      rw [drop35 m (i := i) (by omega), List.take_succ_cons]
      exact this
  unfold counterfoilref16_Put.f
  have := before a 0 [] (by omega) rfl
  simpa using this
end Go.Proofs.Ytlkfmmjoiadoiaa.WiresCore
