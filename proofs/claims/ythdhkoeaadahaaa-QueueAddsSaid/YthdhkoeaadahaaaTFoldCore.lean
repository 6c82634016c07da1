-- PACKED by wip/kit/pack.py: what the law's proof uses of FoldCore (printed words and texts of this seat)
import Derived.Test.YthdhkoeaadahaaaTFoldedCore
import Derived.Test.YthdhkoeaadahaaaTPx13
namespace Go.Proofs.Ythdhkoeaadahaaa.FoldCore
open Go.RowKit Go.Proofs.Ythdhkoeaadahaaa.P Go.Proofs.YthdhkoeaadahaaaW.PrintWords Go.Proofs.YthdhkoeaadahaaaW.PrintLast
set_option linter.unusedVariables false
theorem less_ev (a b : S74) : Ev (fun _ => counterfoilref08_less.f a.f0 a.f1 a.f2 b.f0 b.f1 b.f2) (decide (ltK a b)) := by
  unfold counterfoilref08_less.f
  by_cases h : a.f0 < b.f0
  · rw [decide_eq_true (show ltK a b from .inl h)]
    exact Ev.pos h (Ev.now _)
  refine Ev.neg h ?_
  by_cases h2 : a.f0 = b.f0
  · refine Ev.pos h2 (Ev.const ?_)
    congr 1
    exact decide_eq_decide.2 ⟨fun x => .inr ⟨h2, x⟩, fun x => by unfold ltK at x; omega⟩
  · rw [decide_eq_false (show ¬ ltK a b by unfold ltK; omega)]
    exact Ev.neg h2 (Ev.now _)
def candP (out : List S74) (x : S74) : Prop := 0 < out.length → ltK (rd_T74 out ((out.length - 1 : Nat) : Int)) x
instance (out : List S74) (x : S74) : Decidable (candP out x) := by unfold candP; exact inferInstance
def stepB (ws out : List S74) (b : Int) (i : Nat) : Int := if candP out (rd_T74 ws (i : Int)) then (if b < 0 then (i : Int) else if ltK (rd_T74 ws b) (rd_T74 ws (i : Int)) then b else (i : Int)) else b
def runB (ws out : List S74) : Nat → Int → Nat → Int
  | 0, b, _ => b
  | d + 1, b, i => runB ws out d (stepB ws out b i) (i + 1)
theorem stepB_ok {ws out : List S74} {b : Int} {i : Nat} (hi : i < ws.length) (hb : b < 0 ∨ (b < (ws.length : Int) ∧ candP out (rd_T74 ws b))) : stepB ws out b i < 0 ∨ (stepB ws out b i < (ws.length : Int) ∧ candP out (rd_T74 ws (stepB ws out b i))) := by
  unfold stepB
  by_cases hc : candP out (rd_T74 ws (i : Int))
  · rw [if_pos hc]
    by_cases h0 : b < 0
    · rw [if_pos h0]; exact .inr ⟨by omega, hc⟩
    · rw [if_neg h0]
      by_cases h1 : ltK (rd_T74 ws b) (rd_T74 ws (i : Int))
      · rw [if_pos h1]; exact hb
      · rw [if_neg h1]; exact .inr ⟨by omega, hc⟩
  · rw [if_neg hc]; exact hb
theorem runB_ok {ws out : List S74} : ∀ (d : Nat) (b : Int) (i : Nat), i + d = ws.length → (b < 0 ∨ (b < (ws.length : Int) ∧ candP out (rd_T74 ws b))) → runB ws out d b i < 0 ∨ (runB ws out d b i < (ws.length : Int) ∧ candP out (rd_T74 ws (runB ws out d b i)))
  | 0, b, i, _, hb => hb
  | d + 1, b, i, hi, hb => runB_ok d _ (i + 1) (by omega) (stepB_ok (by omega) hb)
theorem l1_ev (ws out : List S74) (hw : ws.length ≤ 100000) (ho : out.length ≤ 100000) (r : List S74) : ∀ (d : Nat) (b : Int) (i : Nat), i + d = ws.length → (b < (ws.length : Int)) →
    ((runB ws out d b i < 0 ∧ r = out) ∨ (0 ≤ runB ws out d b i ∧ runB ws out d b i < (ws.length : Int) ∧ Ev (fun k => counterfoilref08_Fold.l0 k ws (out ++ [rd_T74 ws (runB ws out d b i)])) r)) → Ev (fun k => counterfoilref08_Fold.l1 k ws out b (i : Int)) r := by
  intro d
  induction d with
  | zero =>
    intro b i hi hb h
    refine Ev.succ ?_
    simp only [counterfoilref08_Fold.l1]
    refine Ev.neg (by omega) ?_
    rcases h with ⟨h, rfl⟩ | ⟨h0, h1, h⟩
    · exact Ev.pos h (Ev.now _)
    · exact Ev.neg (by simp only [runB] at h0; omega) (Ev.pos h0 (Ev.pos h1 (Ev.pos (by omega) h)))
  | succ d ih =>
    intro b i hi hb h
    have hnext : stepB ws out b i < (ws.length : Int) := by unfold stepB; repeat' split
                                                            all_goals omega
    have nx := ih (stepB ws out b i) (i + 1) (by omega) hnext h
    have j2 : ∀ c : Bool, (c = false ↔ candP out (rd_T74 ws (i : Int))) → Ev (fun k => counterfoilref08_Fold.j2 k ws out b (i : Int) c) r := by
      intro c hc
      refine Ev.succ ?_
      simp only [counterfoilref08_Fold.j2]
      rw [wrap_succ (by omega)]
      cases c with
      | true =>
        have : stepB ws out b i = b := by unfold stepB; rw [if_neg (fun e => by have := hc.2 e; simp at this)]
        rw [this] at nx
        exact Ev.pos (by simp) nx
      | false =>
        have hcand := hc.1 rfl
        refine Ev.neg (by simp) ?_
        by_cases h0 : b < 0
        · have : stepB ws out b i = (i : Int) := by unfold stepB; rw [if_pos hcand, if_pos h0]
          rw [this] at nx
          exact Ev.pos h0 nx
        · refine Ev.neg h0 (Ev.pos (by omega) (Ev.pos (by omega) (Ev.pos (by omega) (Ev.pos (by omega) (Ev.bind (less_ev _ _) ?_)))))
          by_cases hl : ltK (rd_T74 ws b) (rd_T74 ws (i : Int))
          · have : stepB ws out b i = b := by unfold stepB; rw [if_pos hcand, if_neg h0, if_pos hl]
            rw [this] at nx
            exact Ev.pos (decide_eq_true hl) nx
          · have : stepB ws out b i = (i : Int) := by unfold stepB; rw [if_pos hcand, if_neg h0, if_neg hl]
            rw [this] at nx
            exact Ev.neg (by simpa using hl) nx
    refine Ev.succ ?_
    simp only [counterfoilref08_Fold.l1]
    refine Ev.pos (by omega) ?_
    by_cases h0 : 0 < out.length
    · rw [wrap_pred h0 (by omega)]
      refine Ev.pos (by omega) (Ev.pos (by omega) (Ev.pos (by omega) (Ev.pos (by omega) (Ev.bind (less_ev _ _) (j2 _ ?_)))))
      unfold candP
      simp [h0]
    · exact Ev.neg (by omega) (j2 false (by unfold candP; simp [h0]))
theorem countP_lt {p q : S74 → Bool} (h : ∀ x, q x = true → p x = true) {c : S74} (hp : p c = true) (hq : q c = false) : ∀ {l : List S74}, c ∈ l → l.countP q < l.countP p
  | x :: r, hc => by
    have hm : r.countP q ≤ r.countP p := List.countP_mono_left (fun y _ => h y)
    rw [List.countP_cons, List.countP_cons]
    rcases List.mem_cons.1 hc with rfl | hc
    · rw [hp, hq]; simp; omega
    · have := countP_lt h hp hq hc
      by_cases e : q x = true
      · rw [e, h x e]; simp; omega
      · have e : q x = false := by simpa using e
        rw [e]; simp; omega
theorem rd_mem (ws : List S74) {b : Int} (h0 : 0 ≤ b) (h : b < (ws.length : Int)) : rd_T74 ws b ∈ ws := by
  unfold rd_T74
  rw [List.getD_eq_getElem?_getD, List.getElem?_eq_getElem (by omega), Option.getD_some]
  exact List.getElem_mem _
theorem rd_app_lt (l m : List S74) {j : Nat} (h : j < l.length) : rd_T74 (l ++ m) (j : Int) = rd_T74 l (j : Int) := by
  unfold rd_T74
  rw [Int.toNat_natCast, List.getD_eq_getElem?_getD, List.getD_eq_getElem?_getD, List.getElem?_append_left h]
theorem rd_app_eq (l : List S74) (c : S74) : rd_T74 (l ++ [c]) (l.length : Int) = c := by
  unfold rd_T74
  rw [Int.toNat_natCast, List.getD_eq_getElem?_getD, List.getElem?_append_right (Nat.le_refl _)]
  simp
theorem Adj.snoc {out : List S74} {c : S74} (h : Adj out) (hc : candP out c) : Adj (out ++ [c]) := by
  intro j hj
  rw [List.length_append, List.length_singleton] at hj
  by_cases e : j + 1 < out.length
  · rw [rd_app_lt _ _ (by omega), rd_app_lt _ _ e]; exact h j e
  · have e2 : j + 1 = out.length := by omega
    rw [rd_app_lt _ _ (by omega), e2, rd_app_eq]
    have := hc (by omega)
    rwa [show out.length - 1 = j by omega] at this
theorem fold_ends (ws : List S74) (hw : ws.length ≤ 100000) : ∀ (n : Nat) (out : List S74), ws.countP (fun x => decide (candP out x)) ≤ n → Adj out → out.length + n ≤ 100000 → ∃ r, Ev (fun k => counterfoilref08_Fold.l0 k ws out) r ∧ Adj r := by
  intro n
  induction n with
  | zero =>
    intro out hn ha ho
    refine ⟨out, Ev.succ ?_, ha⟩
    simp only [counterfoilref08_Fold.l0]
    refine l1_ev ws out hw (by omega) out ws.length (-1) 0 (by omega) (by omega) (.inl ⟨?_, rfl⟩)
    rcases runB_ok (ws := ws) (out := out) ws.length (-1) 0 (by omega) (.inl (by omega)) with h | ⟨h1, h2⟩
    · exact h
    · by_cases h0 : runB ws out ws.length (-1) 0 < 0
      · exact h0
      · have := List.countP_pos_iff (p := fun x => decide (candP out x)) |>.2 ⟨_, rd_mem ws (by omega) h1, decide_eq_true h2⟩
        omega
  | succ n ih =>
    intro out hn ha ho
    by_cases h0 : runB ws out ws.length (-1) 0 < 0
    · refine ⟨out, Ev.succ ?_, ha⟩
      simp only [counterfoilref08_Fold.l0]
      exact l1_ev ws out hw (by omega) out ws.length (-1) 0 (by omega) (by omega) (.inl ⟨h0, rfl⟩)
    · rcases runB_ok (ws := ws) (out := out) ws.length (-1) 0 (by omega) (.inl (by omega)) with h | ⟨h1, h2⟩
      · exact absurd h h0
      · have hlast : rd_T74 (out ++ [rd_T74 ws (runB ws out ws.length (-1) 0)]) (((out ++ [rd_T74 ws (runB ws out ws.length (-1) 0)]).length - 1 : Nat) : Int) = rd_T74 ws (runB ws out ws.length (-1) 0) := by
          rw [List.length_append, List.length_singleton, Nat.add_sub_cancel, rd_app_eq]
        have hlt := countP_lt (p := fun x => decide (candP out x)) (q := fun x => decide (candP (out ++ [rd_T74 ws (runB ws out ws.length (-1) 0)]) x)) (fun x hx => by
            have hx := of_decide_eq_true hx
            refine decide_eq_true (fun hl => ?_)
            have := hx (by simp)
            rw [hlast] at this
            exact ltK_trans (h2 hl) this) (decide_eq_true h2) (decide_eq_false (fun hx => by
            have := hx (by simp)
            rw [hlast] at this
            exact ltK_irrefl _ this)) (rd_mem ws (by omega) h1)
        obtain ⟨r, hr, hra⟩ := ih (out ++ [rd_T74 ws (runB ws out ws.length (-1) 0)]) (by omega) (ha.snoc h2) (by simp; omega)
        refine ⟨r, Ev.succ ?_, hra⟩
        simp only [counterfoilref08_Fold.l0]
        exact l1_ev ws out hw (by omega) r ws.length (-1) 0 (by omega) (by omega) (.inr ⟨by omega, h1, hr⟩)
theorem rd_take (l : List S74) {i j : Nat} (h : i < j) : rd_T74 (l.take j) (i : Int) = rd_T74 l (i : Int) := by
  unfold rd_T74
  rw [Int.toNat_natCast, List.getD_eq_getElem?_getD, List.getD_eq_getElem?_getD, List.getElem?_take_of_lt h]
theorem take_snoc (l : List S74) {j : Nat} (h : j < l.length) : l.take j ++ [rd_T74 l (j : Int)] = l.take (j + 1) := by
  unfold rd_T74
  rw [Int.toNat_natCast, List.getD_eq_getElem?_getD, List.getElem?_eq_getElem h, Option.getD_some, List.take_append_getElem h]
theorem cand_take {ws : List S74} (ha : Adj ws) {i j : Nat} (hi : i < ws.length) (hj : j ≤ ws.length) : candP (ws.take j) (rd_T74 ws (i : Int)) ↔ j ≤ i := by
  have hl : (ws.take j).length = j := by rw [List.length_take]; omega
  unfold candP
  rw [hl]
  constructor
  · intro h
    by_cases e : j ≤ i
    · exact e
    · have := h (by omega)
      rw [rd_take ws (by omega)] at this
      by_cases e2 : i = j - 1
      · rw [e2] at this; exact absurd this (ltK_irrefl _)
      · exact absurd this (ltK_asymm (ha.lt (show i < j - 1 by omega) (by omega)))
  · intro h h0
    rw [rd_take ws (by omega)]
    exact ha.lt (by omega) hi
theorem run_after {ws : List S74} (ha : Adj ws) {j : Nat} (hj : j < ws.length) : ∀ (d i : Nat), i + d = ws.length → j < i → runB ws (ws.take j) d (j : Int) i = (j : Int)
  | 0, i, _, _ => rfl
  | d + 1, i, hi, hji => by
    rw [runB]
    have : stepB ws (ws.take j) (j : Int) i = (j : Int) := by
      unfold stepB
      rw [if_pos ((cand_take ha (by omega) (by omega)).2 (by omega)), if_neg (by omega), if_pos (ha.lt hji (by omega))]
    rw [this]
    exact run_after ha hj d (i + 1) (by omega) (by omega)
theorem run_before {ws : List S74} (ha : Adj ws) {j : Nat} (hj : j < ws.length) : ∀ (d i : Nat), i + d = ws.length → i ≤ j → runB ws (ws.take j) d (-1) i = (j : Int)
  | 0, i, h, h' => by omega
  | d + 1, i, hi, hij => by
    rw [runB]
    by_cases e : i = j
    · have : stepB ws (ws.take j) (-1) i = (j : Int) := by
        unfold stepB
        rw [if_pos ((cand_take ha (by omega) (by omega)).2 (by omega)), if_pos (by omega), e]
      rw [this]
      exact run_after ha hj d (i + 1) (by omega) (by omega)
    · have : stepB ws (ws.take j) (-1) i = -1 := by
        unfold stepB
        rw [if_neg (fun h => by have := (cand_take ha (by omega) (by omega)).1 h; omega)]
      rw [this]
      exact run_before ha hj d (i + 1) (by omega) (by omega)
theorem run_none {ws : List S74} (ha : Adj ws) : ∀ (d i : Nat), i + d = ws.length → runB ws (ws.take ws.length) d (-1) i = -1
  | 0, i, h => rfl
  | d + 1, i, hi => by
    rw [runB]
    have : stepB ws (ws.take ws.length) (-1) i = -1 := by
      unfold stepB
      rw [if_neg (fun h => by have := (cand_take ha (by omega) (by omega)).1 h; omega)]
    rw [this]
    exact run_none ha d (i + 1) (by omega)
theorem fold_id {ws : List S74} (hw : ws.length ≤ 10000) (ha : Adj ws) : ∀ (d j : Nat), j + d = ws.length → Ev (fun k => counterfoilref08_Fold.l0 k ws (ws.take j)) ws
  | 0, j, hj => by
    have e : j = ws.length := by omega
    subst e
    refine Ev.succ ?_
    simp only [counterfoilref08_Fold.l0]
    refine l1_ev ws _ (by omega) (by simp; omega) ws ws.length (-1) 0 (by omega) (by omega) (.inl ⟨?_, by rw [List.take_length]⟩)
    rw [run_none ha _ _ (by omega)]
    omega
  | d + 1, j, hj => by
    refine Ev.succ ?_
    simp only [counterfoilref08_Fold.l0]
    refine l1_ev ws _ (by omega) (by simp; omega) ws ws.length (-1) 0 (by omega) (by omega) (.inr ?_)
    rw [run_before ha (by omega) _ _ (by omega) (by omega)]
    refine ⟨by omega, by omega, ?_⟩
    rw [take_snoc ws (by omega)]
    exact fold_id hw ha d (j + 1) (by omega)
theorem equal_ev (l m : List S74) (hb : l.length ≤ 100000) : ∃ t, Ev (fun k => counterfoilref08_Equal.f k l m) t ∧ (l = m → t = true) ∧ (t = true → l.length = m.length ∧ ∀ j : Nat, j < l.length → (rd_T74 l (j : Int)).f0 = (rd_T74 m (j : Int)).f0 ∧ (rd_T74 l (j : Int)).f1 = (rd_T74 m (j : Int)).f1) := by
  unfold counterfoilref08_Equal.f
  by_cases hl : l.length = m.length
  · have loop : ∀ (d i : Nat), i + d = l.length → ∃ t, Ev (fun k => counterfoilref08_Equal.l0 k l m (i : Int)) t ∧ (l = m → t = true) ∧ (t = true → ∀ j : Nat, i ≤ j → j < l.length → (rd_T74 l (j : Int)).f0 = (rd_T74 m (j : Int)).f0 ∧ (rd_T74 l (j : Int)).f1 = (rd_T74 m (j : Int)).f1) := by
      intro d
      induction d with
      | zero =>
        intro i hi
        refine ⟨true, Ev.succ ?_, fun _ => rfl, fun _ j h1 h2 => by omega⟩
        simp only [counterfoilref08_Equal.l0]
        exact Ev.neg (by omega) (Ev.now _)
      | succ d ih =>
        intro i hi
        cases hc : (!(((rd_T74 l (i : Int)).f0) == ((rd_T74 m (i : Int)).f0)) || (!(((rd_T74 l (i : Int)).f1) == ((rd_T74 m (i : Int)).f1)) || (!((((rd_T74 l (i : Int)).f2).toList) == (((rd_T74 m (i : Int)).f2).toList))))) with
        | true =>
          refine ⟨false, Ev.succ ?_, fun e => ?_, fun h => by simp at h⟩
          · simp only [counterfoilref08_Equal.l0]
            exact Ev.pos (by omega) (Ev.pos (by omega) (Ev.pos (by omega) (Ev.pos hc (Ev.now _))))
          · subst e
            simp at hc
        | false =>
          obtain ⟨t, ht, h1, h2⟩ := ih (i + 1) (by omega)
          refine ⟨t, Ev.succ ?_, h1, fun h j hj hjl => ?_⟩
          · simp only [counterfoilref08_Equal.l0]
            rw [wrap_succ (by omega)]
            exact Ev.pos (by omega) (Ev.pos (by omega) (Ev.pos (by omega) (Ev.neg (by rw [hc]; simp) ht)))
          · by_cases e : j = i
            · subst e
              simp at hc
              exact ⟨hc.1, hc.2.1⟩
            · exact h2 h j (by omega) hjl
    obtain ⟨t, ht, h1, h2⟩ := loop l.length 0 (by omega)
    exact ⟨t, Ev.pos (by omega) ht, h1, fun h => ⟨hl, fun j hj => h2 h j (by omega) hj⟩⟩
  · exact ⟨false, Ev.neg (by omega) (Ev.now _), fun e => absurd (by rw [e]) hl, fun h => by simp at h⟩
theorem rfolded_ev (ws : List S74) (hw : ws.length ≤ 10000) : Ev (fun k => counterfoilref12_folded.f k ws) (foldB ws) := by
  unfold counterfoilref12_folded.f counterfoilref08_Fold.f
  by_cases ha : Adj ws
  · have hf := fold_id hw ha ws.length 0 (by omega)
    rw [List.take_zero] at hf
    obtain ⟨t, ht, h1, _⟩ := equal_ev ws ws (by omega)
    have e : t = true := h1 rfl
    subst e
    rw [(foldB_iff ws).2 ha]
    exact Ev.bind hf (Ev.bind ht (Ev.now _))
  · obtain ⟨r, hr, hra⟩ := fold_ends ws (by omega) ws.length [] (List.countP_le_length) (fun j hj => by simp at hj) (by simp; omega)
    obtain ⟨t, ht, _, h2⟩ := equal_ev ws r (by omega)
    have e : t = foldB ws := foldB_of ⟨fun h => by
      obtain ⟨hl, hj⟩ := h2 h
      intro j hjl
      have := hra j (by omega)
      have a1 := hj j (by omega)
      have a2 := hj (j + 1) hjl
      unfold ltK at *
      omega, fun h => absurd h ha⟩
    rw [← e]
    exact Ev.bind hr (Ev.bind ht (Ev.now _))
end Go.Proofs.Ythdhkoeaadahaaa.FoldCore
