/- Writes that are folded: the package's answer and the reference's (fold, and compare) are one. -/
import Derived.Test.YthdhkoeaadahaaaPx9
import Derived.Test.YthdhkoeaadahaaaPx23
import Derived.Test.YthdhkoeaadahaaaPx13
import Derived.Test.YthdhkoeaadahaaaPx24
import Derived.Test.YthdhkoeaadahaaaPx25
import Derived.Test.YthdhkoeaadahaaaPx26
import Derived.Test.YthdhkoeaadahaaaPx2
import Derived.Test.YthdhkoeaadahaaaPx17
import Derived.Test.YthdhkoeaadahaaaPx18
import Derived.Test.YthdhkoeaadahaaaPx28
import Derived.Test.YthdhkoeaadahaaaGood
namespace Go.Proofs.Ythdhkoeaadahaaa.FoldCore
open Go.RowKit Go.Proofs.Ythdhkoeaadahaaa.P Go.Proofs.YthdhkoeaadahaaaW.PrintWords Go.Proofs.YthdhkoeaadahaaaW.PrintLast
set_option linter.unusedVariables false

section
variable {α β : Type} {A B g : Nat → Option α} {r : α} {c : Prop} [Decidable c]
theorem Ev.pos (h : c) (hA : Ev A r) : Ev (fun k => if c then A k else B k) r := by simpa only [if_pos h] using hA
theorem Ev.neg (h : ¬ c) (hB : Ev B r) : Ev (fun k => if c then A k else B k) r := by simpa only [if_neg h] using hB
theorem Ev.succ (h : Ev (fun k => g (k + 1)) r) : Ev g r := Ev.step (fun _ => rfl) h
theorem Ev.const {a : Option α} (h : a = some r) : Ev (fun _ => a) r := ⟨0, fun _ _ => h⟩
end
theorem wrap_succ {i : Nat} (h : i < 9223372036854775807) : wrap64 ((i : Int) + 1) = ((i + 1 : Nat) : Int) := by unfold wrap64; omega
theorem wrap_pred {i : Nat} (h0 : 1 ≤ i) (h : i < 9223372036854775807) : wrap64 ((i : Int) - 1) = ((i - 1 : Nat) : Int) := by unfold wrap64; omega

/-- Ahead, by volume, then block. -/
def ltK (a b : S74) : Prop := a.f0 < b.f0 ∨ (a.f0 = b.f0 ∧ a.f1 < b.f1)
instance (a b : S74) : Decidable (ltK a b) := by unfold ltK; exact inferInstance
theorem ltK_trans {a b c : S74} (h : ltK a b) (h' : ltK b c) : ltK a c := by unfold ltK at *; omega
theorem ltK_asymm {a b : S74} (h : ltK a b) : ¬ ltK b a := by unfold ltK at *; omega
theorem ltK_irrefl (a : S74) : ¬ ltK a a := by unfold ltK; omega
theorem less_ev (a b : S74) : Ev (fun _ => counterfoilref08_less.f a.f0 a.f1 a.f2 b.f0 b.f1 b.f2) (decide (ltK a b)) := by
  unfold counterfoilref08_less.f
  by_cases h : a.f0 < b.f0
  · rw [decide_eq_true (show ltK a b from .inl h)]
    exact Ev.pos h (Ev.now _)
  refine Ev.neg h ?_
  by_cases h2 : a.f0 = b.f0
  · refine Ev.pos h2 (Ev.const ?_)
    congr 1
    exact decide_eq_decide.2 ⟨fun x => .inr ⟨h2, x⟩, fun x => by unfold ltK at x; omega⟩
  · rw [decide_eq_false (show ¬ ltK a b by unfold ltK; omega)]
    exact Ev.neg h2 (Ev.now _)
def cmpI (a b : Int) : Int := if a < b then -1 else if a > b then 1 else 0
theorem compare_ev (a b : Int) : Ev (fun _ => cmp_Compare_int.f a b) (cmpI a b) := by
  unfold cmp_Compare_int.f cmp_isNaN_int.f cmpI
  refine Ev.bind (Ev.const (r := false) (by simp)) (Ev.bind (Ev.const (r := false) (by simp)) (Ev.neg (by simp) (Ev.neg (by simp) ?_)))
  by_cases h : a < b
  · refine Ev.pos h ?_
    rw [if_pos h]
    exact Ev.now _
  refine Ev.neg h ?_
  rw [if_neg h]
  by_cases h2 : a > b
  · refine Ev.pos h2 ?_
    rw [if_pos h2]
    exact Ev.now _
  · refine Ev.neg h2 ?_
    rw [if_neg h2]
    exact Ev.now _
theorem or_ev (x y : Int) : Ev (fun k => cmp_Or_int.f k [x, y]) (if x = 0 then y else x) := by
  unfold cmp_Or_int.f
  have e0 : rd [x, y] 0 = x := rfl
  have e1 : rd [x, y] 1 = y := rfl
  have w1 : wrap64 (0 + 1) = 1 := by unfold wrap64; omega
  have w2 : wrap64 (1 + 1) = 2 := by unfold wrap64; omega
  refine Ev.succ ?_
  simp only [cmp_Or_int.l0]
  rw [e0, w1]
  refine Ev.pos (by simp) (Ev.pos (by simp) (Ev.pos (by simp) ?_))
  by_cases h : x = 0
  · refine Ev.pos h (Ev.succ ?_)
    rw [if_pos h]
    simp only [cmp_Or_int.l0]
    rw [e1, w2]
    refine Ev.pos (by simp) (Ev.pos (by simp) (Ev.pos (by simp) ?_))
    by_cases h2 : y = 0
    · refine Ev.pos h2 (Ev.succ ?_)
      simp only [cmp_Or_int.l0]
      rw [h2]
      exact Ev.neg (by simp) (Ev.now _)
    · exact Ev.neg h2 (Ev.now _)
  · refine Ev.neg h ?_
    rw [if_neg h]
    exact Ev.now _
theorem order_ev (a b : S74) : ∃ o, Ev (fun k => fold_order.f k a.f0 a.f1 a.f2 b.f0 b.f1 b.f2) o ∧ (o ≥ 0 ↔ ¬ ltK a b) := by
  refine ⟨_, by
    unfold fold_order.f
    exact Ev.bind (compare_ev a.f0 b.f0) (Ev.bind (compare_ev a.f1 b.f1) (Ev.bind (or_ev _ _) (Ev.now _))), ?_⟩
  unfold cmpI ltK
  repeat' split
  all_goals omega

/-- Each write ahead of the next. -/
def Adj (l : List S74) : Prop := ∀ j : Nat, j + 1 < l.length → ltK (rd_T74 l (j : Int)) (rd_T74 l ((j + 1 : Nat) : Int))
theorem Adj.all {l : List S74} (h : Adj l) : ∀ (d i : Nat), i + d + 1 < l.length → ltK (rd_T74 l (i : Int)) (rd_T74 l ((i + d + 1 : Nat) : Int))
  | 0, i, hi => h i hi
  | d + 1, i, hi => ltK_trans (h.all d i (by omega)) (h (i + d + 1) hi)
theorem Adj.lt {l : List S74} (h : Adj l) {i j : Nat} (hij : i < j) (hj : j < l.length) : ltK (rd_T74 l (i : Int)) (rd_T74 l (j : Int)) := by
  have := h.all (j - i - 1) i (by omega)
  rwa [show i + (j - i - 1) + 1 = j by omega] at this
noncomputable def foldB (l : List S74) : Bool := @decide (Adj l) (Classical.propDecidable _)
theorem foldB_iff (l : List S74) : foldB l = true ↔ Adj l := by unfold foldB; simp
theorem foldB_of {l : List S74} {t : Bool} (h : t = true ↔ Adj l) : t = foldB l := by
  have := foldB_iff l
  cases t <;> cases hf : foldB l <;> simp_all
theorem folded_ev (l : List S74) (hb : l.length < 9223372036854775807) : Ev (fun k => fold_Folded.f k l) (foldB l) := by
  have loop : ∀ (d i : Nat), i + d = l.length → 1 ≤ i → ∃ t, Ev (fun k => fold_Folded.l0 k l (l.length : Int) (i : Int)) t ∧ (t = true ↔ ∀ j : Nat, i ≤ j + 1 → j + 1 < l.length → ltK (rd_T74 l (j : Int)) (rd_T74 l ((j + 1 : Nat) : Int))) := by
    intro d
    induction d with
    | zero =>
      intro i hi h1
      refine ⟨true, Ev.succ ?_, ⟨fun _ j _ _ => by omega, fun _ => rfl⟩⟩
      simp only [fold_Folded.l0]
      exact Ev.neg (by omega) (Ev.now _)
    | succ d ih =>
      intro i hi h1
      obtain ⟨o, ho, ho'⟩ := order_ev (rd_T74 l ((i - 1 : Nat) : Int)) (rd_T74 l (i : Int))
      by_cases hlt : ltK (rd_T74 l ((i - 1 : Nat) : Int)) (rd_T74 l (i : Int))
      · obtain ⟨t, ht, ht'⟩ := ih (i + 1) (by omega) (by omega)
        refine ⟨t, Ev.succ ?_, ht'.trans ⟨fun h j hj hl => ?_, fun h j hj hl => h j (by omega) hl⟩⟩
        · simp only [fold_Folded.l0]
          rw [wrap_pred h1 (by omega), wrap_succ (by omega)]
          refine Ev.pos (by omega) (Ev.pos (by omega) (Ev.pos (by omega) (Ev.pos (by omega) (Ev.pos (by omega) (Ev.pos (by omega) (Ev.bind ho (Ev.neg (fun e => ho'.1 e hlt) ht)))))))
        · by_cases e : j + 1 = i
          · have e1 : i - 1 = j := by omega
            rw [e1, ← e] at hlt
            exact hlt
          · exact h j (by omega) hl
      · refine ⟨false, Ev.succ ?_, ⟨fun h => by simp at h, fun h => absurd (by have := h (i - 1) (by omega) (by omega); rwa [show i - 1 + 1 = i by omega] at this) hlt⟩⟩
        simp only [fold_Folded.l0]
        rw [wrap_pred h1 (by omega), wrap_succ (by omega)]
        exact Ev.pos (by omega) (Ev.pos (by omega) (Ev.pos (by omega) (Ev.pos (by omega) (Ev.pos (by omega) (Ev.pos (by omega) (Ev.bind ho (Ev.pos (ho'.2 hlt) (Ev.now _))))))))
  unfold fold_Folded.f
  by_cases h0 : l.length = 0
  · have : foldB l = true := (foldB_iff l).2 (fun j hj => by omega)
    rw [this]
    refine Ev.succ ?_
    simp only [fold_Folded.l0]
    exact Ev.neg (by omega) (Ev.now _)
  · obtain ⟨t, ht, ht'⟩ := loop (l.length - 1) 1 (by omega) (by omega)
    have e : t = foldB l := foldB_of (ht'.trans ⟨fun h j hj => h j (by omega) hj, fun h j _ hj => h j hj⟩)
    rw [← e]
    refine Ev.succ ?_
    simp only [fold_Folded.l0]
    rw [show wrap64 (0 + 1) = ((1 : Nat) : Int) by unfold wrap64; omega]
    refine Ev.pos (by omega) (Ev.neg (by omega) ?_)
    exact ht

/-! ### The reference's fold -/
def candP (out : List S74) (x : S74) : Prop := 0 < out.length → ltK (rd_T74 out ((out.length - 1 : Nat) : Int)) x
instance (out : List S74) (x : S74) : Decidable (candP out x) := by unfold candP; exact inferInstance
def stepB (ws out : List S74) (b : Int) (i : Nat) : Int := if candP out (rd_T74 ws (i : Int)) then (if b < 0 then (i : Int) else if ltK (rd_T74 ws b) (rd_T74 ws (i : Int)) then b else (i : Int)) else b
def runB (ws out : List S74) : Nat → Int → Nat → Int
  | 0, b, _ => b
  | d + 1, b, i => runB ws out d (stepB ws out b i) (i + 1)
theorem stepB_ok {ws out : List S74} {b : Int} {i : Nat} (hi : i < ws.length) (hb : b < 0 ∨ (b < (ws.length : Int) ∧ candP out (rd_T74 ws b))) : stepB ws out b i < 0 ∨ (stepB ws out b i < (ws.length : Int) ∧ candP out (rd_T74 ws (stepB ws out b i))) := by
  unfold stepB
  by_cases hc : candP out (rd_T74 ws (i : Int))
  · rw [if_pos hc]
    by_cases h0 : b < 0
    · rw [if_pos h0]; exact .inr ⟨by omega, hc⟩
    · rw [if_neg h0]
      by_cases h1 : ltK (rd_T74 ws b) (rd_T74 ws (i : Int))
      · rw [if_pos h1]; exact hb
      · rw [if_neg h1]; exact .inr ⟨by omega, hc⟩
  · rw [if_neg hc]; exact hb
theorem runB_ok {ws out : List S74} : ∀ (d : Nat) (b : Int) (i : Nat), i + d = ws.length → (b < 0 ∨ (b < (ws.length : Int) ∧ candP out (rd_T74 ws b))) → runB ws out d b i < 0 ∨ (runB ws out d b i < (ws.length : Int) ∧ candP out (rd_T74 ws (runB ws out d b i)))
  | 0, b, i, _, hb => hb
  | d + 1, b, i, hi, hb => runB_ok d _ (i + 1) (by omega) (stepB_ok (by omega) hb)
theorem l1_ev (ws out : List S74) (hw : ws.length ≤ 100000) (ho : out.length ≤ 100000) (r : List S74) : ∀ (d : Nat) (b : Int) (i : Nat), i + d = ws.length → (b < (ws.length : Int)) →
    ((runB ws out d b i < 0 ∧ r = out) ∨ (0 ≤ runB ws out d b i ∧ runB ws out d b i < (ws.length : Int) ∧ Ev (fun k => counterfoilref08_Fold.l0 k ws (out ++ [rd_T74 ws (runB ws out d b i)])) r)) → Ev (fun k => counterfoilref08_Fold.l1 k ws out b (i : Int)) r := by
  intro d
  induction d with
  | zero =>
    intro b i hi hb h
    refine Ev.succ ?_
    simp only [counterfoilref08_Fold.l1]
    refine Ev.neg (by omega) ?_
    rcases h with ⟨h, rfl⟩ | ⟨h0, h1, h⟩
    · exact Ev.pos h (Ev.now _)
    · exact Ev.neg (by simp only [runB] at h0; omega) (Ev.pos h0 (Ev.pos h1 (Ev.pos (by omega) h)))
  | succ d ih =>
    intro b i hi hb h
    have hnext : stepB ws out b i < (ws.length : Int) := by unfold stepB; repeat' split
                                                            all_goals omega
    have nx := ih (stepB ws out b i) (i + 1) (by omega) hnext h
    have j2 : ∀ c : Bool, (c = false ↔ candP out (rd_T74 ws (i : Int))) → Ev (fun k => counterfoilref08_Fold.j2 k ws out b (i : Int) c) r := by
      intro c hc
      refine Ev.succ ?_
      simp only [counterfoilref08_Fold.j2]
      rw [wrap_succ (by omega)]
      cases c with
      | true =>
        have : stepB ws out b i = b := by unfold stepB; rw [if_neg (fun e => by have := hc.2 e; simp at this)]
        rw [this] at nx
        exact Ev.pos (by simp) nx
      | false =>
        have hcand := hc.1 rfl
        refine Ev.neg (by simp) ?_
        by_cases h0 : b < 0
        · have : stepB ws out b i = (i : Int) := by unfold stepB; rw [if_pos hcand, if_pos h0]
          rw [this] at nx
          exact Ev.pos h0 nx
        · refine Ev.neg h0 (Ev.pos (by omega) (Ev.pos (by omega) (Ev.pos (by omega) (Ev.pos (by omega) (Ev.bind (less_ev _ _) ?_)))))
          by_cases hl : ltK (rd_T74 ws b) (rd_T74 ws (i : Int))
          · have : stepB ws out b i = b := by unfold stepB; rw [if_pos hcand, if_neg h0, if_pos hl]
            rw [this] at nx
            exact Ev.pos (decide_eq_true hl) nx
          · have : stepB ws out b i = (i : Int) := by unfold stepB; rw [if_pos hcand, if_neg h0, if_neg hl]
            rw [this] at nx
            exact Ev.neg (by simpa using hl) nx
    refine Ev.succ ?_
    simp only [counterfoilref08_Fold.l1]
    refine Ev.pos (by omega) ?_
    by_cases h0 : 0 < out.length
    · rw [wrap_pred h0 (by omega)]
      refine Ev.pos (by omega) (Ev.pos (by omega) (Ev.pos (by omega) (Ev.pos (by omega) (Ev.bind (less_ev _ _) (j2 _ ?_)))))
      unfold candP
      simp [h0]
    · exact Ev.neg (by omega) (j2 false (by unfold candP; simp [h0]))
theorem countP_lt {p q : S74 → Bool} (h : ∀ x, q x = true → p x = true) {c : S74} (hp : p c = true) (hq : q c = false) : ∀ {l : List S74}, c ∈ l → l.countP q < l.countP p
  | x :: r, hc => by
    have hm : r.countP q ≤ r.countP p := List.countP_mono_left (fun y _ => h y)
    rw [List.countP_cons, List.countP_cons]
    rcases List.mem_cons.1 hc with rfl | hc
    · rw [hp, hq]; simp; omega
    · have := countP_lt h hp hq hc
      by_cases e : q x = true
      · rw [e, h x e]; simp; omega
      · have e : q x = false := by simpa using e
        rw [e]; simp; omega
theorem rd_mem (ws : List S74) {b : Int} (h0 : 0 ≤ b) (h : b < (ws.length : Int)) : rd_T74 ws b ∈ ws := by
  unfold rd_T74
  rw [List.getD_eq_getElem?_getD, List.getElem?_eq_getElem (by omega), Option.getD_some]
  exact List.getElem_mem _
theorem rd_app_lt (l m : List S74) {j : Nat} (h : j < l.length) : rd_T74 (l ++ m) (j : Int) = rd_T74 l (j : Int) := by
  unfold rd_T74
  rw [Int.toNat_natCast, List.getD_eq_getElem?_getD, List.getD_eq_getElem?_getD, List.getElem?_append_left h]
theorem rd_app_eq (l : List S74) (c : S74) : rd_T74 (l ++ [c]) (l.length : Int) = c := by
  unfold rd_T74
  rw [Int.toNat_natCast, List.getD_eq_getElem?_getD, List.getElem?_append_right (Nat.le_refl _)]
  simp
theorem Adj.snoc {out : List S74} {c : S74} (h : Adj out) (hc : candP out c) : Adj (out ++ [c]) := by
  intro j hj
  rw [List.length_append, List.length_singleton] at hj
  by_cases e : j + 1 < out.length
  · rw [rd_app_lt _ _ (by omega), rd_app_lt _ _ e]; exact h j e
  · have e2 : j + 1 = out.length := by omega
    rw [rd_app_lt _ _ (by omega), e2, rd_app_eq]
    have := hc (by omega)
    rwa [show out.length - 1 = j by omega] at this
theorem fold_ends (ws : List S74) (hw : ws.length ≤ 100000) : ∀ (n : Nat) (out : List S74), ws.countP (fun x => decide (candP out x)) ≤ n → Adj out → out.length + n ≤ 100000 → ∃ r, Ev (fun k => counterfoilref08_Fold.l0 k ws out) r ∧ Adj r := by
  intro n
  induction n with
  | zero =>
    intro out hn ha ho
    refine ⟨out, Ev.succ ?_, ha⟩
    simp only [counterfoilref08_Fold.l0]
    refine l1_ev ws out hw (by omega) out ws.length (-1) 0 (by omega) (by omega) (.inl ⟨?_, rfl⟩)
    rcases runB_ok (ws := ws) (out := out) ws.length (-1) 0 (by omega) (.inl (by omega)) with h | ⟨h1, h2⟩
    · exact h
    · by_cases h0 : runB ws out ws.length (-1) 0 < 0
      · exact h0
      · have := List.countP_pos_iff (p := fun x => decide (candP out x)) |>.2 ⟨_, rd_mem ws (by omega) h1, decide_eq_true h2⟩
        omega
  | succ n ih =>
    intro out hn ha ho
    by_cases h0 : runB ws out ws.length (-1) 0 < 0
    · refine ⟨out, Ev.succ ?_, ha⟩
      simp only [counterfoilref08_Fold.l0]
      exact l1_ev ws out hw (by omega) out ws.length (-1) 0 (by omega) (by omega) (.inl ⟨h0, rfl⟩)
    · rcases runB_ok (ws := ws) (out := out) ws.length (-1) 0 (by omega) (.inl (by omega)) with h | ⟨h1, h2⟩
      · exact absurd h h0
      · have hlast : rd_T74 (out ++ [rd_T74 ws (runB ws out ws.length (-1) 0)]) (((out ++ [rd_T74 ws (runB ws out ws.length (-1) 0)]).length - 1 : Nat) : Int) = rd_T74 ws (runB ws out ws.length (-1) 0) := by
          rw [List.length_append, List.length_singleton, Nat.add_sub_cancel, rd_app_eq]
        have hlt := countP_lt (p := fun x => decide (candP out x)) (q := fun x => decide (candP (out ++ [rd_T74 ws (runB ws out ws.length (-1) 0)]) x)) (fun x hx => by
            have hx := of_decide_eq_true hx
            refine decide_eq_true (fun hl => ?_)
            have := hx (by simp)
            rw [hlast] at this
            exact ltK_trans (h2 hl) this) (decide_eq_true h2) (decide_eq_false (fun hx => by
            have := hx (by simp)
            rw [hlast] at this
            exact ltK_irrefl _ this)) (rd_mem ws (by omega) h1)
        obtain ⟨r, hr, hra⟩ := ih (out ++ [rd_T74 ws (runB ws out ws.length (-1) 0)]) (by omega) (ha.snoc h2) (by simp; omega)
        refine ⟨r, Ev.succ ?_, hra⟩
        simp only [counterfoilref08_Fold.l0]
        exact l1_ev ws out hw (by omega) r ws.length (-1) 0 (by omega) (by omega) (.inr ⟨by omega, h1, hr⟩)
theorem rd_take (l : List S74) {i j : Nat} (h : i < j) : rd_T74 (l.take j) (i : Int) = rd_T74 l (i : Int) := by
  unfold rd_T74
  rw [Int.toNat_natCast, List.getD_eq_getElem?_getD, List.getD_eq_getElem?_getD, List.getElem?_take_of_lt h]
theorem take_snoc (l : List S74) {j : Nat} (h : j < l.length) : l.take j ++ [rd_T74 l (j : Int)] = l.take (j + 1) := by
  unfold rd_T74
  rw [Int.toNat_natCast, List.getD_eq_getElem?_getD, List.getElem?_eq_getElem h, Option.getD_some, List.take_append_getElem h]
theorem cand_take {ws : List S74} (ha : Adj ws) {i j : Nat} (hi : i < ws.length) (hj : j ≤ ws.length) : candP (ws.take j) (rd_T74 ws (i : Int)) ↔ j ≤ i := by
  have hl : (ws.take j).length = j := by rw [List.length_take]; omega
  unfold candP
  rw [hl]
  constructor
  · intro h
    by_cases e : j ≤ i
    · exact e
    · have := h (by omega)
      rw [rd_take ws (by omega)] at this
      by_cases e2 : i = j - 1
      · rw [e2] at this; exact absurd this (ltK_irrefl _)
      · exact absurd this (ltK_asymm (ha.lt (show i < j - 1 by omega) (by omega)))
  · intro h h0
    rw [rd_take ws (by omega)]
    exact ha.lt (by omega) hi
theorem run_after {ws : List S74} (ha : Adj ws) {j : Nat} (hj : j < ws.length) : ∀ (d i : Nat), i + d = ws.length → j < i → runB ws (ws.take j) d (j : Int) i = (j : Int)
  | 0, i, _, _ => rfl
  | d + 1, i, hi, hji => by
    rw [runB]
    have : stepB ws (ws.take j) (j : Int) i = (j : Int) := by
      unfold stepB
      rw [if_pos ((cand_take ha (by omega) (by omega)).2 (by omega)), if_neg (by omega), if_pos (ha.lt hji (by omega))]
    rw [this]
    exact run_after ha hj d (i + 1) (by omega) (by omega)
theorem run_before {ws : List S74} (ha : Adj ws) {j : Nat} (hj : j < ws.length) : ∀ (d i : Nat), i + d = ws.length → i ≤ j → runB ws (ws.take j) d (-1) i = (j : Int)
  | 0, i, h, h' => by omega
  | d + 1, i, hi, hij => by
    rw [runB]
    by_cases e : i = j
    · have : stepB ws (ws.take j) (-1) i = (j : Int) := by
        unfold stepB
        rw [if_pos ((cand_take ha (by omega) (by omega)).2 (by omega)), if_pos (by omega), e]
      rw [this]
      exact run_after ha hj d (i + 1) (by omega) (by omega)
    · have : stepB ws (ws.take j) (-1) i = -1 := by
        unfold stepB
        rw [if_neg (fun h => by have := (cand_take ha (by omega) (by omega)).1 h; omega)]
      rw [this]
      exact run_before ha hj d (i + 1) (by omega) (by omega)
theorem run_none {ws : List S74} (ha : Adj ws) : ∀ (d i : Nat), i + d = ws.length → runB ws (ws.take ws.length) d (-1) i = -1
  | 0, i, h => rfl
  | d + 1, i, hi => by
    rw [runB]
    have : stepB ws (ws.take ws.length) (-1) i = -1 := by
      unfold stepB
      rw [if_neg (fun h => by have := (cand_take ha (by omega) (by omega)).1 h; omega)]
    rw [this]
    exact run_none ha d (i + 1) (by omega)
theorem fold_id {ws : List S74} (hw : ws.length ≤ 10000) (ha : Adj ws) : ∀ (d j : Nat), j + d = ws.length → Ev (fun k => counterfoilref08_Fold.l0 k ws (ws.take j)) ws
  | 0, j, hj => by
    have e : j = ws.length := by omega
    subst e
    refine Ev.succ ?_
    simp only [counterfoilref08_Fold.l0]
    refine l1_ev ws _ (by omega) (by simp; omega) ws ws.length (-1) 0 (by omega) (by omega) (.inl ⟨?_, by rw [List.take_length]⟩)
    rw [run_none ha _ _ (by omega)]
    omega
  | d + 1, j, hj => by
    refine Ev.succ ?_
    simp only [counterfoilref08_Fold.l0]
    refine l1_ev ws _ (by omega) (by simp; omega) ws ws.length (-1) 0 (by omega) (by omega) (.inr ?_)
    rw [run_before ha (by omega) _ _ (by omega) (by omega)]
    refine ⟨by omega, by omega, ?_⟩
    rw [take_snoc ws (by omega)]
    exact fold_id hw ha d (j + 1) (by omega)
theorem equal_ev (l m : List S74) (hb : l.length ≤ 100000) : ∃ t, Ev (fun k => counterfoilref08_Equal.f k l m) t ∧ (l = m → t = true) ∧ (t = true → l.length = m.length ∧ ∀ j : Nat, j < l.length → (rd_T74 l (j : Int)).f0 = (rd_T74 m (j : Int)).f0 ∧ (rd_T74 l (j : Int)).f1 = (rd_T74 m (j : Int)).f1) := by
  unfold counterfoilref08_Equal.f
  by_cases hl : l.length = m.length
  · have loop : ∀ (d i : Nat), i + d = l.length → ∃ t, Ev (fun k => counterfoilref08_Equal.l0 k l m (i : Int)) t ∧ (l = m → t = true) ∧ (t = true → ∀ j : Nat, i ≤ j → j < l.length → (rd_T74 l (j : Int)).f0 = (rd_T74 m (j : Int)).f0 ∧ (rd_T74 l (j : Int)).f1 = (rd_T74 m (j : Int)).f1) := by
      intro d
      induction d with
      | zero =>
        intro i hi
        refine ⟨true, Ev.succ ?_, fun _ => rfl, fun _ j h1 h2 => by omega⟩
        simp only [counterfoilref08_Equal.l0]
        exact Ev.neg (by omega) (Ev.now _)
      | succ d ih =>
        intro i hi
        cases hc : (!(((rd_T74 l (i : Int)).f0) == ((rd_T74 m (i : Int)).f0)) || (!(((rd_T74 l (i : Int)).f1) == ((rd_T74 m (i : Int)).f1)) || (!((((rd_T74 l (i : Int)).f2).toList) == (((rd_T74 m (i : Int)).f2).toList))))) with
        | true =>
          refine ⟨false, Ev.succ ?_, fun e => ?_, fun h => by simp at h⟩
          · simp only [counterfoilref08_Equal.l0]
            exact Ev.pos (by omega) (Ev.pos (by omega) (Ev.pos (by omega) (Ev.pos hc (Ev.now _))))
          · subst e
            simp at hc
        | false =>
          obtain ⟨t, ht, h1, h2⟩ := ih (i + 1) (by omega)
          refine ⟨t, Ev.succ ?_, h1, fun h j hj hjl => ?_⟩
          · simp only [counterfoilref08_Equal.l0]
            rw [wrap_succ (by omega)]
            exact Ev.pos (by omega) (Ev.pos (by omega) (Ev.pos (by omega) (Ev.neg (by rw [hc]; simp) ht)))
          · by_cases e : j = i
            · subst e
              simp at hc
              exact ⟨hc.1, hc.2.1⟩
            · exact h2 h j (by omega) hjl
    obtain ⟨t, ht, h1, h2⟩ := loop l.length 0 (by omega)
    exact ⟨t, Ev.pos (by omega) ht, h1, fun h => ⟨hl, fun j hj => h2 h j (by omega) hj⟩⟩
  · exact ⟨false, Ev.neg (by omega) (Ev.now _), fun e => absurd (by rw [e]) hl, fun h => by simp at h⟩
theorem rfolded_ev (ws : List S74) (hw : ws.length ≤ 10000) : Ev (fun k => counterfoilref12_folded.f k ws) (foldB ws) := by
  unfold counterfoilref12_folded.f counterfoilref08_Fold.f
  by_cases ha : Adj ws
  · have hf := fold_id hw ha ws.length 0 (by omega)
    rw [List.take_zero] at hf
    obtain ⟨t, ht, h1, _⟩ := equal_ev ws ws (by omega)
    have e : t = true := h1 rfl
    subst e
    rw [(foldB_iff ws).2 ha]
    exact Ev.bind hf (Ev.bind ht (Ev.now _))
  · obtain ⟨r, hr, hra⟩ := fold_ends ws (by omega) ws.length [] (List.countP_le_length) (fun j hj => by simp at hj) (by simp; omega)
    obtain ⟨t, ht, _, h2⟩ := equal_ev ws r (by omega)
    have e : t = foldB ws := foldB_of ⟨fun h => by
      obtain ⟨hl, hj⟩ := h2 h
      intro j hjl
      have := hra j (by omega)
      have a1 := hj j (by omega)
      have a2 := hj (j + 1) hjl
      unfold ltK at *
      omega, fun h => absurd h ha⟩
    rw [← e]
    exact Ev.bind hr (Ev.bind ht (Ev.now _))
end Go.Proofs.Ythdhkoeaadahaaa.FoldCore

/- What a right queue is, and what waits in it: the package's answers and the reference's are one. -/
namespace Go.Proofs.Ythdhkoeaadahaaa.QueueCore
open Go.RowKit Go.Proofs.Ythdhkoeaadahaaa.P Go.Proofs.Ythdhkoeaadahaaa.FoldCore Go.Proofs.YthdhkoeaadahaaaW.PrintWords Go.Proofs.YthdhkoeaadahaaaW.PrintLast
set_option linter.unusedVariables false

section
variable {g X : Nat → Option Bool} {t s : Bool} {c : Prop} [Decidable c]
theorem Ev.gate (hg : Ev g t) (hX : t = true → Ev X s) : Ev (fun k => (g k).bind fun t => if t = true then X k else some false) (t && s) := by
  refine Ev.bind hg ?_
  cases t with
  | true => exact Ev.pos rfl (hX rfl)
  | false => exact Ev.neg (by simp) (Ev.now _)
theorem Ev.gateP (hX : c → Ev X s) : Ev (fun k => if c then X k else some false) (decide c && s) := by
  by_cases h : c
  · rw [decide_eq_true h]; exact Ev.pos h (hX h)
  · rw [decide_eq_false h]; exact Ev.neg h (Ev.now _)
theorem Ev.gateN (hX : ¬ c → Ev X s) : Ev (fun k => if c then some false else X k) (!decide c && s) := by
  by_cases h : c
  · rw [decide_eq_true h]; exact Ev.pos h (Ev.now _)
  · rw [decide_eq_false h]; exact Ev.neg h (hX h)
end

def fitB (a : Int) : Bool := decide (a ≥ 0) && decide (a ≤ 1099511627776)
theorem fitB_iff (a : Int) : fitB a = true ↔ 0 ≤ a ∧ a ≤ 1099511627776 := by unfold fitB; simp
theorem fits_ev (a : Int) : Ev (fun _ => queue_fits.f a) (fitB a) := by
  unfold queue_fits.f
  exact Ev.gateP (X := fun _ => some (decide (a ≤ 1099511627776))) (fun _ => Ev.now _)
theorem rfits_ev (a : Int) : Ev (fun _ => counterfoilref12_fits.f a) (fitB a) := by
  unfold counterfoilref12_fits.f
  exact Ev.gateP (X := fun _ => some (decide (a ≤ 1099511627776))) (fun _ => Ev.now _)
def tailP : List S99 → Int → Int
  | [], a => a
  | s :: _, _ => s.f0
theorem rd99 (l : List S99) (i : Nat) (h : i < l.length) : rd_T99 l (i : Int) = l[i] := by
  unfold rd_T99; rw [Int.toNat_natCast, List.getD_eq_getElem?_getD, List.getElem?_eq_getElem h, Option.getD_some]
theorem drop99 (l : List S99) {i : Nat} (h : i < l.length) : l.drop i = rd_T99 l (i : Int) :: l.drop (i + 1) := by
  rw [List.drop_eq_getElem_cons h, rd99 l i h]
theorem tail_ev (l : List S99) (o : List S74) (a b : Int) : Ev (fun _ => queue_tail.f l o a b) (tailP l a) := by
  unfold queue_tail.f
  cases l with
  | nil => exact Ev.neg (by simp) (Ev.now _)
  | cons s r => exact Ev.pos (by simp) (Ev.pos (by simp) (Ev.now _))
theorem rtail_ev (l : List S99) (o : List S74) (a b : Int) : Ev (fun _ => counterfoilref12_Tail.f l o a b) (tailP l a) := by
  unfold counterfoilref12_Tail.f
  cases l with
  | nil => exact Ev.pos (by simp) (Ev.now _)
  | cons s r => exact Ev.neg (by simp; omega) (Ev.pos (by simp) (Ev.now _))
def lastB (o : List S74) (a b : Int) : Bool := if b > a then true else ((o.length : Int) == 0)
noncomputable def endB (o : List S74) (a b p : Int) : Bool := decide (a = p) && (fitB a && (decide (b ≥ a) && (fitB b && (foldB o && lastB o a b))))
/-- Is a queue right, from these sets on, of which the first begins at p? -/
noncomputable def qB (o : List S74) (a b : Int) : List S99 → Int → Bool
  | [], p => endB o a b p
  | s :: r, p => fitB s.f0 && (decide (s.f0 = p) && (!decide (s.f1 ≤ s.f0) && (fitB s.f1 && (foldB s.f2 && qB o a b r s.f1))))
theorem qB_end {o : List S74} {a b : Int} : ∀ {l : List S99} {p : Int}, qB o a b l p = true → fitB a = true ∧ fitB b = true
  | [], p, h => by
    simp only [qB, endB, Bool.and_eq_true] at h
    exact ⟨h.2.1, h.2.2.2.1⟩
  | s :: r, p, h => by
    simp only [qB, Bool.and_eq_true] at h
    exact qB_end h.2.2.2.2.2
theorem qB_tail {o : List S74} {a b : Int} {l : List S99} (h : qB o a b l (tailP l a) = true) : fitB (tailP l a) = true := by
  cases l with
  | nil => exact (qB_end h).1
  | cons s r =>
    simp only [qB, Bool.and_eq_true] at h
    exact h.1
def smallL (l : List S99) : Prop := ∀ i : Nat, i < l.length → (rd_T99 l (i : Int)).f2.length ≤ 60
theorem right_ev (l : List S99) (o : List S74) (a b : Int) (hl : l.length ≤ 20) (hs : smallL l) (ho : o.length ≤ 60) : Ev (fun k => queue_Right.f k l o a b) (qB o a b l (tailP l a)) := by
  have loop : ∀ (d i : Nat) (p : Int), i + d = l.length → Ev (fun k => queue_Right.l0 k p l (l.length : Int) (i : Int) l o a b) (qB o a b (l.drop i) p) := by
    intro d
    induction d with
    | zero =>
      intro i p hi
      refine Ev.succ ?_
      simp only [queue_Right.l0]
      rw [List.drop_eq_nil_of_le (by omega)]
      refine Ev.neg (by omega) ?_
      simp only [qB, endB]
      refine Ev.gateP (fun _ => Ev.gate (fits_ev a) (fun _ => Ev.gateP (fun _ => Ev.gate (fits_ev b) (fun _ => Ev.gate (folded_ev o (by omega)) (fun _ => ?_)))))
      unfold lastB
      by_cases h : b > a
      · refine Ev.pos h ?_
        rw [if_pos h]; exact Ev.now _
      · refine Ev.neg h ?_
        rw [if_neg h]; exact Ev.now _
    | succ d ih =>
      intro i p hi
      refine Ev.succ ?_
      simp only [queue_Right.l0]
      rw [drop99 l (by omega), wrap_succ (by omega)]
      refine Ev.pos (by omega) (Ev.pos (by omega) (Ev.pos (by omega) ?_))
      simp only [qB]
      have := hs i (by omega)
      exact Ev.gate (fits_ev _) (fun _ => Ev.gateP (fun _ => Ev.gateN (fun _ => Ev.gate (fits_ev _) (fun _ => Ev.gate (folded_ev _ (by omega)) (fun _ => ih (i + 1) _ (by omega))))))
  unfold queue_Right.f
  have := loop l.length 0 (tailP l a) (by omega)
  rw [List.drop_zero] at this
  exact Ev.bind (tail_ev l o a b) this
theorem rend_ev (l : List S99) (o : List S74) (a b p : Int) (ho : o.length ≤ 60) : Ev (fun k => counterfoilref12_Right.j2 k (p != a) l o a b) (endB o a b p) := by
  refine Ev.succ ?_
  simp only [counterfoilref12_Right.j2]
  by_cases hp : a = p
  · have e : endB o a b p = (fitB a && (fitB b && (!decide (a > b) && (foldB o && lastB o a b)))) := by
      unfold endB
      rw [decide_eq_true hp, show (!decide (a > b)) = decide (b ≥ a) by by_cases h : a > b; (rw [decide_eq_true h, decide_eq_false (by omega)]; rfl); (rw [decide_eq_false h, decide_eq_true (by omega)]; rfl)]
      cases fitB a <;> cases fitB b <;> cases decide (b ≥ a) <;> rfl
    rw [e]
    refine Ev.neg (by simp [hp]) (Ev.gate (rfits_ev a) (fun _ => Ev.gate (rfits_ev b) (fun _ => Ev.gateN (fun _ => Ev.gate (rfolded_ev o (by omega)) (fun _ => ?_)))))
    unfold lastB
    by_cases h : a < b
    · refine Ev.pos h ?_
      rw [if_pos (by omega)]; exact Ev.now _
    · refine Ev.neg h ?_
      rw [if_neg (by omega)]; exact Ev.now _
  · have e : endB o a b p = false := by unfold endB; rw [decide_eq_false hp]; rfl
    rw [e]
    exact Ev.pos (by simp; omega) (Ev.now _)
def atOf (l : List S99) (a : Int) (i : Nat) : Int := if i = 0 then tailP l a else (rd_T99 l ((i - 1 : Nat) : Int)).f1
theorem rright_ev (l : List S99) (o : List S74) (a b : Int) (hl : l.length ≤ 20) (hs : smallL l) (ho : o.length ≤ 60) : Ev (fun k => counterfoilref12_Right.f k l o a b) (qB o a b l (tailP l a)) := by
  have loop : ∀ (d i : Nat), i + d = l.length → Ev (fun k => counterfoilref12_Right.l0 k (l.length : Int) (i : Int) l o a b) (qB o a b (l.drop i) (atOf l a i)) := by
    intro d
    induction d with
    | zero =>
      intro i hi
      refine Ev.succ ?_
      simp only [counterfoilref12_Right.l0]
      rw [List.drop_eq_nil_of_le (by omega)]
      refine Ev.neg (by omega) ?_
      simp only [qB]
      by_cases h0 : l.length = 0
      · have e : l = [] := List.eq_nil_of_length_eq_zero h0
        have e2 : atOf l a i = a := by unfold atOf; rw [if_pos (by omega), e]; rfl
        rw [e2]
        have := rend_ev l o a b a ho
        rw [show (a != a) = false by simp] at this
        exact Ev.neg (by omega) this
      · have e2 : atOf l a i = (rd_T99 l ((l.length - 1 : Nat) : Int)).f1 := by unfold atOf; rw [if_neg (by omega), show i = l.length by omega]
        rw [e2, wrap_pred (by omega) (by omega)]
        exact Ev.pos (by omega) (Ev.pos (by omega) (Ev.pos (by omega) (rend_ev l o a b _ ho)))
    | succ d ih =>
      intro i hi
      have hsi := hs i (by omega)
      have nx := ih (i + 1) (by omega)
      rw [show atOf l a (i + 1) = (rd_T99 l (i : Int)).f1 by unfold atOf; rw [if_neg (by omega), Nat.add_sub_cancel]] at nx
      have hp : i = 0 → atOf l a i = (rd_T99 l (i : Int)).f0 := fun h => by
        subst h
        have hd := drop99 l (i := 0) (by omega)
        rw [List.drop_zero] at hd
        unfold atOf
        rw [if_pos rfl]
        conv => lhs; rw [hd]
        rfl
      have hp' : i ≠ 0 → atOf l a i = (rd_T99 l ((i - 1 : Nat) : Int)).f1 := fun h => by unfold atOf; rw [if_neg h]
      rw [drop99 l (by omega)]
      simp only [qB]
      generalize hss : rd_T99 l (i : Int) = s at hsi nx hp ⊢
      have no : ∀ r, r = false → Ev (fun k => counterfoilref12_Right.j1 k (l.length : Int) (i : Int) true l o a b s.f0 s.f1 s.f2) r := fun r e => by
        refine Ev.succ ?_
        simp only [counterfoilref12_Right.j1]
        rw [e]
        exact Ev.pos (by simp) (Ev.now _)
      refine Ev.succ ?_
      simp only [counterfoilref12_Right.l0]
      rw [hss]
      refine Ev.pos (by omega) (Ev.pos (by omega) (Ev.pos (by omega) (Ev.bind (rfits_ev s.f0) ?_)))
      cases h1 : fitB s.f0 with
      | false => exact Ev.neg (by simp) (no _ rfl)
      | true =>
        refine Ev.pos rfl (Ev.bind (rfits_ev s.f1) ?_)
        cases h2 : fitB s.f1 with
        | false => exact Ev.neg (by simp) (no _ (by simp))
        | true =>
          refine Ev.pos rfl ?_
          by_cases h3 : s.f0 ≥ s.f1
          · exact Ev.pos h3 (no _ (by rw [decide_eq_true (show s.f1 ≤ s.f0 from h3)]; simp))
          · refine Ev.neg h3 (Ev.bind (rfolded_ev s.f2 (by omega)) ?_)
            rw [decide_eq_false (show ¬ s.f1 ≤ s.f0 from h3)]
            cases h4 : foldB s.f2 with
            | false => exact no _ (by simp)
            | true =>
              refine Ev.succ ?_
              simp only [counterfoilref12_Right.j1]
              refine Ev.neg (by simp) ?_
              rw [wrap_succ (by omega)]
              by_cases h5 : i = 0
              · rw [hp h5, decide_eq_true rfl]
                refine Ev.neg (by omega) ?_
                simpa using nx
              · rw [wrap_pred (by omega) (by omega), hp' h5]
                refine Ev.pos (by omega) (Ev.pos (by omega) (Ev.pos (by omega) ?_))
                have := Ev.gateP (c := (rd_T99 l ((i - 1 : Nat) : Int)).f1 = s.f0) (fun _ => nx)
                rw [show decide ((rd_T99 l ((i - 1 : Nat) : Int)).f1 = s.f0) = decide (s.f0 = (rd_T99 l ((i - 1 : Nat) : Int)).f1) from decide_eq_decide.2 eq_comm] at this
                simpa using this
  unfold counterfoilref12_Right.f
  have := loop l.length 0 (by omega)
  rw [List.drop_zero, show atOf l a 0 = tailP l a by unfold atOf; rw [if_pos rfl]] at this
  exact this

/-! ### Bytes -/
def bytesS : List S74 → Int
  | [] => 0
  | x :: r => 8 + (x.f2.size : Int) + bytesS r
theorem bytesS_nn : ∀ l, 0 ≤ bytesS l
  | [] => Int.le_refl _
  | x :: r => by have := bytesS_nn r; unfold bytesS; omega
theorem bytesS_app : ∀ l m, bytesS (l ++ m) = bytesS l + bytesS m
  | [], m => by simp [bytesS]
  | x :: r, m => by have := bytesS_app r m; rw [List.cons_append, bytesS, bytesS, this]; omega
theorem bytesS_le : ∀ {l : List S74}, (∀ x ∈ l, x.f2.size ≤ 140737488351232) → bytesS l ≤ (l.length : Int) * 140737488351240
  | [], _ => by simp [bytesS]
  | x :: r, h => by
    have h1 := h x List.mem_cons_self
    have h2 := bytesS_le (fun y hy => h y (List.mem_cons_of_mem _ hy))
    rw [bytesS, List.length_cons]
    omega
theorem drop74 (l : List S74) {i : Nat} (h : i < l.length) : l.drop i = rd_T74 l (i : Int) :: l.drop (i + 1) := by
  unfold rd_T74
  rw [List.drop_eq_getElem_cons h, Int.toNat_natCast, List.getD_eq_getElem?_getD, List.getElem?_eq_getElem h, Option.getD_some]
theorem bytes_ev (l : List S74) (hl : l.length < 9223372036854775807) (hb : bytesS l ≤ 9223372036854775807) : Ev (fun k => fold_Bytes.f k l) (bytesS l) := by
  have loop : ∀ (d i : Nat) (s : Int), i + d = l.length → 0 ≤ s → s + bytesS (l.drop i) ≤ 9223372036854775807 → Ev (fun k => fold_Bytes.l0 k s l (l.length : Int) (i : Int)) (s + bytesS (l.drop i)) := by
    intro d
    induction d with
    | zero =>
      intro i s hi h0 h
      refine Ev.succ ?_
      simp only [fold_Bytes.l0]
      rw [List.drop_eq_nil_of_le (by omega), bytesS, Int.add_zero]
      exact Ev.neg (by omega) (Ev.now _)
    | succ d ih =>
      intro i s hi h0 h
      rw [drop74 l (by omega), bytesS] at h ⊢
      have hn := bytesS_nn (l.drop (i + 1))
      refine Ev.succ ?_
      simp only [fold_Bytes.l0]
      rw [wrap_succ (by omega), show wrap64 (s + wrap64 (8 + ((rd_T74 l (i : Int)).f2.size : Int))) = s + (8 + ((rd_T74 l (i : Int)).f2.size : Int)) by unfold wrap64; omega]
      have := ih (i + 1) (s + (8 + ((rd_T74 l (i : Int)).f2.size : Int))) (by omega) (by omega) (by omega)
      rw [Int.add_assoc] at this
      exact Ev.pos (by omega) (Ev.pos (by omega) (Ev.pos (by omega) this))
  have := loop l.length 0 0 (by omega) (by omega) (by rw [List.drop_zero]; omega)
  rw [List.drop_zero, Int.zero_add] at this
  exact this
theorem rbytes_ev (l : List S74) (hl : l.length < 9223372036854775807) (hb : bytesS l ≤ 9223372036854775807) : Ev (fun k => counterfoilref08_Bytes.f k l) (bytesS l) := by
  have loop : ∀ (d i : Nat) (s : Int), i + d = l.length → 0 ≤ s → s + bytesS (l.drop i) ≤ 9223372036854775807 → Ev (fun k => counterfoilref08_Bytes.l0 k l s (i : Int)) (s + bytesS (l.drop i)) := by
    intro d
    induction d with
    | zero =>
      intro i s hi h0 h
      refine Ev.succ ?_
      simp only [counterfoilref08_Bytes.l0]
      rw [List.drop_eq_nil_of_le (by omega), bytesS, Int.add_zero]
      exact Ev.neg (by omega) (Ev.now _)
    | succ d ih =>
      intro i s hi h0 h
      rw [drop74 l (by omega), bytesS] at h ⊢
      have hn := bytesS_nn (l.drop (i + 1))
      refine Ev.succ ?_
      simp only [counterfoilref08_Bytes.l0]
      rw [wrap_succ (by omega), show wrap64 (wrap64 (s + 8) + ((rd_T74 l (i : Int)).f2.size : Int)) = s + (8 + ((rd_T74 l (i : Int)).f2.size : Int)) by unfold wrap64; omega]
      have := ih (i + 1) (s + (8 + ((rd_T74 l (i : Int)).f2.size : Int))) (by omega) (by omega) (by omega)
      rw [Int.add_assoc] at this
      exact Ev.pos (by omega) (Ev.pos (by omega) this)
  have := loop l.length 0 0 (by omega) (by omega) (by rw [List.drop_zero]; omega)
  rw [List.drop_zero, Int.zero_add] at this
  exact this
def allW : List S99 → List S74
  | [] => []
  | s :: r => s.f2 ++ allW r
theorem load_ev (l : List S99) (o : List S74) (a b : Int) (hl : l.length ≤ 20) (hs : smallL l) (ho : o.length ≤ 60) (hq : qB o a b l (tailP l a) = true) (hb : bytesS o + bytesS (allW l) ≤ 9223372036854775807) :
    Ev (fun k => queue_Load.f k l o a b) (wrap64 (b - tailP l a), bytesS o + bytesS (allW l)) := by
  have loop : ∀ (d i : Nat) (s : Int), i + d = l.length → 0 ≤ s → s + bytesS (allW (l.drop i)) ≤ 9223372036854775807 → Ev (fun k => queue_Load.l0 k s l (l.length : Int) (i : Int) l o a b) (wrap64 (b - tailP l a), s + bytesS (allW (l.drop i))) := by
    intro d
    induction d with
    | zero =>
      intro i s hi h0 h
      refine Ev.succ ?_
      simp only [queue_Load.l0]
      rw [List.drop_eq_nil_of_le (by omega), allW, bytesS, Int.add_zero]
      exact Ev.neg (by omega) (Ev.bind (tail_ev l o a b) (Ev.now _))
    | succ d ih =>
      intro i s hi h0 h
      rw [drop99 l (by omega), allW, bytesS_app] at h ⊢
      have hn := bytesS_nn (allW (l.drop (i + 1)))
      have hn2 := bytesS_nn (rd_T99 l (i : Int)).f2
      have hsi := hs i (by omega)
      refine Ev.succ ?_
      simp only [queue_Load.l0]
      refine Ev.pos (by omega) (Ev.pos (by omega) (Ev.pos (by omega) (Ev.bind (bytes_ev _ (by omega) (by omega)) ?_)))
      rw [wrap_succ (by omega), show wrap64 (s + bytesS (rd_T99 l (i : Int)).f2) = s + bytesS (rd_T99 l (i : Int)).f2 by unfold wrap64; omega]
      have := ih (i + 1) (s + bytesS (rd_T99 l (i : Int)).f2) (by omega) (by omega) (by omega)
      rw [Int.add_assoc] at this
      exact this
  unfold queue_Load.f
  have hn := bytesS_nn o
  have hn2 := bytesS_nn (allW l)
  have := loop l.length 0 (bytesS o) (by omega) hn (by rw [List.drop_zero]; omega)
  rw [List.drop_zero] at this
  refine Ev.bind (right_ev l o a b hl hs ho) (Ev.pos hq (Ev.bind (bytes_ev o (by omega) (by omega)) this))
theorem allW_len {l : List S99} : ∀ (d i : Nat), i + d = l.length → smallL l → (allW (l.drop i)).length ≤ 60 * d
  | 0, i, h, _ => by rw [List.drop_eq_nil_of_le (by omega)]; simp [allW]
  | d + 1, i, h, hs => by
    have := allW_len d (i + 1) (by omega) hs
    have h2 := hs i (by omega)
    rw [drop99 l (by omega), allW, List.length_append]
    omega
theorem joined_ev (l : List S99) (o : List S74) (a b : Int) (hl : l.length ≤ 20) (hs : smallL l) (ho : o.length ≤ 60) : Ev (fun k => counterfoilref12_Joined.f k l o a b) (allW l ++ o) := by
  have loop : ∀ (d i : Nat) (x : List S74), i + d = l.length → x.length ≤ 60 * i → Ev (fun k => counterfoilref12_Joined.l0 k x (i : Int) l o a b) (x ++ (allW (l.drop i) ++ o)) := by
    intro d
    induction d with
    | zero =>
      intro i x hi hx
      refine Ev.succ ?_
      simp only [counterfoilref12_Joined.l0]
      rw [List.drop_eq_nil_of_le (by omega), allW, List.nil_append]
      exact Ev.neg (by omega) (Ev.pos (by omega) (Ev.now _))
    | succ d ih =>
      intro i x hi hx
      have hsi := hs i (by omega)
      refine Ev.succ ?_
      simp only [counterfoilref12_Joined.l0]
      rw [drop99 l (by omega), allW, wrap_succ (by omega)]
      have := ih (i + 1) (x ++ (rd_T99 l (i : Int)).f2) (by omega) (by rw [List.length_append]; omega)
      rw [List.append_assoc] at this
      rw [List.append_assoc]
      exact Ev.pos (by omega) (Ev.pos (by omega) (Ev.pos (by omega) this))
  have := loop l.length 0 [] (by omega) (by simp)
  rw [List.drop_zero, List.nil_append] at this
  exact this
theorem small_ev (l : List S99) (o : List S74) (a b : Int) : ∃ t, Ev (fun k => counterfoilref12_Small.f k l o a b) t ∧ (t = true → l.length ≤ 20 ∧ o.length ≤ 60 ∧ smallL l) := by
  have no : Ev (fun k => counterfoilref12_Small.j0 k true l o a b) false := by
    refine Ev.succ ?_
    simp only [counterfoilref12_Small.j0]
    exact Ev.pos (by simp) (Ev.now _)
  unfold counterfoilref12_Small.f
  by_cases h1 : (l.length : Int) > 20
  · exact ⟨false, Ev.pos h1 no, fun h => by simp at h⟩
  by_cases h2 : (o.length : Int) > 60
  · refine ⟨false, Ev.neg h1 ?_, fun h => by simp at h⟩
    rw [decide_eq_true h2]; exact no
  have loop : ∀ (d i : Nat), i + d = l.length → ∃ t, Ev (fun k => counterfoilref12_Small.l0 k (i : Int) l o a b) t ∧ (t = true → ∀ j : Nat, i ≤ j → j < l.length → (rd_T99 l (j : Int)).f2.length ≤ 60) := by
    intro d
    induction d with
    | zero =>
      intro i hi
      refine ⟨true, Ev.succ ?_, fun _ j h1 h2 => by omega⟩
      simp only [counterfoilref12_Small.l0]
      exact Ev.neg (by omega) (Ev.now _)
    | succ d ih =>
      intro i hi
      by_cases h : ((rd_T99 l (i : Int)).f2.length : Int) > 60
      · refine ⟨false, Ev.succ ?_, fun h => by simp at h⟩
        simp only [counterfoilref12_Small.l0]
        exact Ev.pos (by omega) (Ev.pos (by omega) (Ev.pos h (Ev.now _)))
      · obtain ⟨t, ht, h'⟩ := ih (i + 1) (by omega)
        refine ⟨t, Ev.succ ?_, fun e j hj hl => ?_⟩
        · simp only [counterfoilref12_Small.l0]
          rw [wrap_succ (by omega)]
          exact Ev.pos (by omega) (Ev.pos (by omega) (Ev.neg h ht))
        · by_cases e2 : j = i
          · subst e2; omega
          · exact h' e j (by omega) hl
  obtain ⟨t, ht, h'⟩ := loop l.length 0 (by omega)
  refine ⟨t, Ev.neg h1 ?_, fun e => ⟨by omega, by omega, fun j hj => h' e j (by omega) hj⟩⟩
  rw [decide_eq_false h2]
  refine Ev.succ ?_
  simp only [counterfoilref12_Small.j0]
  exact Ev.neg (by simp) ht
end Go.Proofs.Ythdhkoeaadahaaa.QueueCore

/- What becomes of a commit is what the reference says; no condition. -/
namespace Go.Proofs.Ythdhkoeaadahaaa.Pure
open Go.RowKit Go.Proofs.Ythdhkoeaadahaaa.P Go.Proofs.Ythdhkoeaadahaaa.FoldCore Go.Proofs.Ythdhkoeaadahaaa.QueueCore Go.Proofs.YthdhkoeaadahaaaW.PrintWords Go.Proofs.YthdhkoeaadahaaaW.PrintLast Go.Proofs.YthdhkoeaadahaaaW.PrintMore
set_option linter.unusedVariables false

def boundB (x y : Int) : Bool := decide (x ≥ 1) && (decide (x ≤ 1099511627776) && (decide (y ≥ 1) && decide (y ≤ 1099511627776)))
theorem bound_ev (x y : Int) (h : Bool) : Ev (fun _ => lag_Right.f x y h) (boundB x y) := by
  have e : boundB x y = (decide (mn x y ≥ 1) && decide (mx x y ≤ 1099511627776)) := by
    unfold boundB mn mx
    rw [Bool.eq_iff_iff]
    simp only [Bool.and_eq_true, decide_eq_true_eq]
    split <;> split <;> omega
  rw [e]
  unfold lag_Right.f
  exact Ev.gateP (X := fun _ => some (decide (mx x y ≤ 1099511627776))) (fun _ => Ev.now _)
theorem rbound_ev (x y : Int) (h : Bool) : Ev (fun _ => counterfoilref13_Right.f x y h) (boundB x y) := by
  unfold counterfoilref13_Right.f boundB
  refine Ev.gateP (X := fun _ => if x ≤ 1099511627776 then (if y ≥ 1 then (some (decide (y ≤ 1099511627776))) else (some false)) else (some false)) (fun _ => ?_)
  refine Ev.gateP (X := fun _ => if y ≥ 1 then (some (decide (y ≤ 1099511627776))) else (some false)) (fun _ => ?_)
  exact Ev.gateP (X := fun _ => some (decide (y ≤ 1099511627776))) (fun _ => Ev.now _)
def verdict (t h : Bool) : Int := if t = true then 1 else if h = true then 2 else 3
theorem verdict_ev (t : Bool) (x y : Int) (h : Bool) : Ev (fun k => lag_Judge.j1 k t x y h) (verdict t h) := by
  refine Ev.succ ?_
  simp only [lag_Judge.j1]
  cases t with
  | true => exact Ev.pos (by simp) (Ev.now _)
  | false =>
    refine Ev.neg (by simp) ?_
    cases h with
    | true => exact Ev.pos (by simp) (Ev.now _)
    | false => exact Ev.neg (by simp) (Ev.now _)
theorem rverdict_ev (t : Bool) (x y : Int) (h : Bool) : Ev (fun k => counterfoilref13_Judge.j1 k t x y h) (verdict t h) := by
  refine Ev.succ ?_
  simp only [counterfoilref13_Judge.j1]
  cases t with
  | true => exact Ev.pos (by simp) (Ev.now _)
  | false =>
    refine Ev.neg (by simp) ?_
    cases h with
    | true => exact Ev.pos (by simp) (Ev.now _)
    | false => exact Ev.neg (by simp) (Ev.now _)
noncomputable def judgeV (x y : Int) (h : Bool) (l : List S99) (o : List S74) (a b : Int) (ws : List S74) : Int :=
  if boundB x y = true then (if qB o a b l (tailP l a) = true then verdict (decide (b - tailP l a < x) && decide (bytesS o + bytesS (allW l) + bytesS ws ≤ y)) h else 0) else 0
theorem judge_ev (x y : Int) (h : Bool) (l : List S99) (o : List S74) (a b : Int) (ws : List S74) (hl : l.length ≤ 20) (hs : smallL l) (ho : o.length ≤ 60) (hw : ws.length ≤ 60) (hb : bytesS o + bytesS (allW l) + bytesS ws ≤ 9223372036854775807) :
    Ev (fun k => lag_Judge.f k x y h l o a b ws) (judgeV x y h l o a b ws) ∧ Ev (fun k => counterfoilref13_Judge.f k x y h l o a b ws) (judgeV x y h l o a b ws) := by
  have n1 := bytesS_nn o
  have n2 := bytesS_nn (allW l)
  have n3 := bytesS_nn ws
  have no : Ev (fun k => lag_Judge.j0 k ws true x y h l o a b) 0 := by
    refine Ev.succ ?_
    simp only [lag_Judge.j0]
    exact Ev.pos (by simp) (Ev.now _)
  have rno : Ev (fun k => counterfoilref13_Judge.j0 k ws true x y h l o a b) 0 := by
    refine Ev.succ ?_
    simp only [counterfoilref13_Judge.j0]
    exact Ev.pos (by simp) (Ev.now _)
  unfold lag_Judge.f counterfoilref13_Judge.f judgeV
  cases hbd : boundB x y with
  | false =>
    rw [if_neg (by simp)]
    exact ⟨Ev.bind (hbd ▸ bound_ev x y h) (Ev.neg (by simp) no), Ev.bind (hbd ▸ rbound_ev x y h) (Ev.neg (by simp) rno)⟩
  | true =>
    rw [if_pos rfl]
    have hr := right_ev l o a b hl hs ho
    have hrr := rright_ev l o a b hl hs ho
    suffices H : Ev (fun k => lag_Judge.j0 k ws (!(qB o a b l (tailP l a))) x y h l o a b) (if qB o a b l (tailP l a) = true then verdict (decide (b - tailP l a < x) && decide (bytesS o + bytesS (allW l) + bytesS ws ≤ y)) h else 0) ∧
        Ev (fun k => counterfoilref13_Judge.j0 k ws (!(qB o a b l (tailP l a))) x y h l o a b) (if qB o a b l (tailP l a) = true then verdict (decide (b - tailP l a < x) && decide (bytesS o + bytesS (allW l) + bytesS ws ≤ y)) h else 0) from
      ⟨Ev.bind (hbd ▸ bound_ev x y h) (Ev.pos rfl (Ev.bind hr H.1)), Ev.bind (hbd ▸ rbound_ev x y h) (Ev.pos rfl (Ev.bind hrr H.2))⟩
    cases hq : qB o a b l (tailP l a) with
    | false => exact ⟨no, rno⟩
    | true =>
      rw [if_pos rfl]
      obtain ⟨b1, b2⟩ := (fitB_iff _).1 (qB_end hq).2
      obtain ⟨t1, t2⟩ := (fitB_iff _).1 (qB_tail hq)
      have hld := load_ev l o a b hl hs ho hq (by omega)
      have e1 : wrap64 (b - tailP l a) = b - tailP l a := by unfold wrap64; omega
      rw [e1] at hld
      constructor
      · refine Ev.succ ?_
        simp only [lag_Judge.j0]
        refine Ev.neg (by simp) (Ev.bind hld ?_)
        by_cases h1 : b - tailP l a < x
        · refine Ev.pos h1 (Ev.bind (bytes_ev ws (by omega) (by omega)) ?_)
          rw [decide_eq_true h1, Bool.true_and]
          rw [show wrap64 (bytesS o + bytesS (allW l) + bytesS ws) = bytesS o + bytesS (allW l) + bytesS ws by unfold wrap64; omega]
          exact verdict_ev (decide (bytesS o + bytesS (allW l) + bytesS ws ≤ y)) x y h
        · refine Ev.neg h1 ?_
          rw [decide_eq_false h1, Bool.false_and]
          exact verdict_ev false x y h
      · refine Ev.succ ?_
        simp only [counterfoilref13_Judge.j0]
        refine Ev.neg (by simp) (Ev.bind (rtail_ev l o a b) ?_)
        rw [e1, show wrap64 (b - tailP l a + 1) = b - tailP l a + 1 by unfold wrap64; omega]
        by_cases h1 : b - tailP l a < x
        · have hal := allW_len (l := l) l.length 0 (by omega) hs
          rw [List.drop_zero] at hal
          have hj : counterfoilref08_Join.f (allW l ++ o) ws = some (allW l ++ o ++ ws) := by
            unfold counterfoilref08_Join.f
            rw [if_pos (by rw [List.length_append, List.length_nil]; omega), Option.bind_some, List.nil_append, if_pos (by rw [List.length_append]; omega)]
          have eb : bytesS (allW l ++ o ++ ws) = bytesS o + bytesS (allW l) + bytesS ws := by rw [bytesS_app, bytesS_app]; omega
          have hby := rbytes_ev (allW l ++ o ++ ws) (by rw [List.length_append, List.length_append]; omega) (by omega)
          rw [eb] at hby
          refine Ev.pos (by omega) (Ev.bind (joined_ev l o a b hl hs ho) (Ev.bind (Ev.const hj) (Ev.bind hby ?_)))
          rw [decide_eq_true h1, Bool.true_and]
          exact rverdict_ev _ x y h
        · refine Ev.neg (by omega) ?_
          rw [decide_eq_false h1, Bool.false_and]
          exact rverdict_ev false x y h
theorem foldB_nil : foldB [] = true := (foldB_iff []).2 (fun j hj => by simp at hj)
theorem awake_ev : Ev (fun k => counterfoillaw13_awake.f k) true := by
  unfold counterfoillaw13_awake.f
  have h1 := (judge_ev 2 100 true [] [] 0 0 [] (by simp) (fun i hi => by simp at hi) (by simp) (by simp) (by simp [bytesS, allW])).1
  have h2 := (judge_ev 2 100 true [] [] 0 2 [] (by simp) (fun i hi => by simp at hi) (by simp) (by simp) (by simp [bytesS, allW])).1
  have e1 : judgeV 2 100 true [] [] 0 0 [] = 1 := by simp [judgeV, boundB, qB, endB, tailP, fitB, foldB_nil, lastB, verdict, bytesS, allW]
  have e2 : judgeV 2 100 true [] [] 0 2 [] = 2 := by simp [judgeV, boundB, qB, endB, tailP, fitB, foldB_nil, lastB, verdict, bytesS, allW]
  rw [e1] at h1
  rw [e2] at h2
  exact Ev.bind h1 (Ev.pos rfl (Ev.bind h2 (Ev.pos rfl (Ev.now _))))
theorem LagJudges : counterfoillaw13_LagJudges.Pure := by
  intro x y h l o a b ws _ _ hl ho _ _ hw
  suffices H : Ev (fun k => counterfoillaw13_LagJudges.f k x y h l o a b ws) true by
    obtain ⟨k, hk⟩ := H
    exact ⟨k, hk k (Nat.le_refl _)⟩
  unfold counterfoillaw13_LagJudges.f
  have dull : Ev (fun k => counterfoillaw13_LagJudges.j0 k ws true x y h l o a b) true := by
    refine Ev.succ ?_
    simp only [counterfoillaw13_LagJudges.j0]
    exact Ev.pos (by simp) (Ev.bind awake_ev (Ev.now _))
  obtain ⟨t, ht, hsm⟩ := small_ev l o a b
  refine Ev.bind ht ?_
  cases t with
  | false => exact Ev.neg (by simp) dull
  | true =>
    obtain ⟨h1, h2, h3⟩ := hsm rfl
    refine Ev.pos rfl ?_
    by_cases h4 : (ws.length : Int) > 60
    · rw [decide_eq_true h4]; exact dull
    rw [decide_eq_false h4]
    have bo := bytesS_le (l := o) (fun z hz => (ho.2.2 z hz).2.2)
    have bw := bytesS_le (l := ws) (fun z hz => (hw.2.2 z hz).2.2)
    have ball : ∀ m : List S99, (∀ z ∈ m, good99 z) → ∀ z ∈ allW m, z.f2.size ≤ 140737488351232 := by
      intro m
      induction m with
      | nil => intro _ z hz; simp [allW] at hz
      | cons s r ih =>
        intro hm z hz
        rw [allW] at hz
        rcases List.mem_append.1 hz with hz | hz
        · exact ((hm s List.mem_cons_self).2.2.2.2 z hz).2.2
        · exact ih (fun z' hz' => hm z' (List.mem_cons_of_mem _ hz')) z hz
    have ba := bytesS_le (ball l hl.2.2)
    have hal := allW_len (l := l) l.length 0 (by omega) h3
    rw [List.drop_zero] at hal
    obtain ⟨j1, j2⟩ := judge_ev x y h l o a b ws h1 h3 h2 (by omega) (by omega)
    refine Ev.succ ?_
    simp only [counterfoillaw13_LagJudges.j0]
    exact Ev.neg (by simp) (Ev.bind j1 (Ev.bind j2 (Ev.pos rfl (Ev.bind (bound_ev x y h) (Ev.bind (rbound_ev x y h) (Ev.pos (by simp) (Ev.bind awake_ev (Ev.now _))))))))
end Go.Proofs.Ythdhkoeaadahaaa.Pure
