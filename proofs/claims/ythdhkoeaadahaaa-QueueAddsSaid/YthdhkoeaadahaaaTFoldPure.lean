-- PACKED by wip/kit/pack.py: what the law's proof uses of FoldPure (printed words and texts of this seat)
import Derived.Test.YthdhkoeaadahaaaTFoldCore
import Derived.Test.YthdhkoeaadahaaaTFoldedB
namespace Go.Proofs.Ythdhkoeaadahaaa.FoldCore
open Go.RowKit Go.Proofs.Ythdhkoeaadahaaa.P Go.Proofs.YthdhkoeaadahaaaW.PrintWords Go.Proofs.YthdhkoeaadahaaaW.PrintLast Go.Proofs.Ythdhkoeaadahaaa.SortCore
set_option linter.unusedVariables false
theorem mem_rd {ws : List S74} {y : S74} (h : y ∈ ws) : ∃ j : Nat, j < ws.length ∧ rd_T74 ws (j : Int) = y := by
  obtain ⟨j, hj, e⟩ := List.getElem_of_mem h
  exact ⟨j, hj, by rw [rdj ws j hj, e]⟩
def best (ws out : List S74) (b : Int) (n : Nat) : Prop := (b < 0 ∧ ∀ j : Nat, j < n → ¬ candP out (rd_T74 ws (j : Int))) ∨ (∃ bn : Nat, b = (bn : Int) ∧ bn < n ∧ candP out (rd_T74 ws (bn : Int)) ∧ (∀ j : Nat, j < n → candP out (rd_T74 ws (j : Int)) → ¬ ltK (rd_T74 ws (j : Int)) (rd_T74 ws (bn : Int))) ∧ (∀ j : Nat, bn < j → j < n → candP out (rd_T74 ws (j : Int)) → ltK (rd_T74 ws (bn : Int)) (rd_T74 ws (j : Int))))
theorem best_step (ws out : List S74) {b : Int} {i : Nat} (h : best ws out b i) : best ws out (stepB ws out b i) (i + 1) := by
  unfold stepB
  by_cases hc : candP out (rd_T74 ws (i : Int))
  · rw [if_pos hc]
    rcases h with ⟨h0, h1⟩ | ⟨bn, rfl, h2, h3, h4, h5⟩
    · rw [if_pos h0]
      refine .inr ⟨i, rfl, by omega, hc, fun j hj hcj => ?_, fun j hj hj2 => by omega⟩
      by_cases e : j = i
      · subst e; exact ltK_irrefl _
      · exact absurd hcj (h1 j (by omega))
    · rw [if_neg (by omega)]
      by_cases hl : ltK (rd_T74 ws (bn : Int)) (rd_T74 ws (i : Int))
      · rw [if_pos hl]
        refine .inr ⟨bn, rfl, by omega, h3, fun j hj hcj => ?_, fun j hj hj2 hcj => ?_⟩
        · by_cases e : j = i
          · subst e; exact ltK_asymm hl
          · exact h4 j (by omega) hcj
        · by_cases e : j = i
          · subst e; exact hl
          · exact h5 j hj (by omega) hcj
      · rw [if_neg hl]
        refine .inr ⟨i, rfl, by omega, hc, fun j hj hcj => ?_, fun j hj hj2 => by omega⟩
        by_cases e : j = i
        · subst e; exact ltK_irrefl _
        · have := h4 j (by omega) hcj
          unfold ltK at *
          omega
  · rw [if_neg hc]
    rcases h with ⟨h0, h1⟩ | ⟨bn, rfl, h2, h3, h4, h5⟩
    · refine .inl ⟨h0, fun j hj => ?_⟩
      by_cases e : j = i
      · subst e; exact hc
      · exact h1 j (by omega)
    · refine .inr ⟨bn, rfl, by omega, h3, fun j hj hcj => ?_, fun j hj hj2 hcj => ?_⟩
      · by_cases e : j = i
        · subst e; exact absurd hcj hc
        · exact h4 j (by omega) hcj
      · by_cases e : j = i
        · subst e; exact absurd hcj hc
        · exact h5 j hj (by omega) hcj
theorem best_run (ws out : List S74) : ∀ (d : Nat) (b : Int) (i : Nat), i + d = ws.length → best ws out b i → best ws out (runB ws out d b i) ws.length
  | 0, b, i, hi, h => by
    have e : i = ws.length := by omega
    subst e
    exact h
  | d + 1, b, i, hi, h => best_run ws out d _ (i + 1) (by omega) (best_step ws out h)
structure Got (ws out : List S74) : Prop where
  adj : Adj out
  lasts : ∀ x ∈ out, last ltW ws x = some x
  all : ∀ y ∈ ws, ¬ candP out y → ∃ x ∈ out, eqv ltW x y = true
theorem last_at {ws : List S74} {bn : Nat} (hb : bn < ws.length) (h : ∀ j : Nat, bn < j → j < ws.length → eqv ltW (rd_T74 ws (bn : Int)) (rd_T74 ws (j : Int)) = false) : last ltW ws (rd_T74 ws (bn : Int)) = some (rd_T74 ws (bn : Int)) := by
  have e : ws = ws.take bn ++ rd_T74 ws (bn : Int) :: ws.drop (bn + 1) := by
    rw [rdj ws bn hb, ← List.drop_eq_getElem_cons hb, List.take_append_drop]
  have key : ∀ x : S74, (∀ y ∈ ws.drop (bn + 1), eqv ltW x y = false) → last ltW (ws.take bn ++ x :: ws.drop (bn + 1)) x = some x := by
    intro x hx
    rw [last_append, last_cons, last_of_none hx, if_pos (weakW.refl x)]
    rfl
  refine (congrArg (fun l => last ltW l (rd_T74 ws (bn : Int))) e).trans (key _ ?_)
  intro y hy
  obtain ⟨j, hj, h1, e2⟩ := mem_drop_get hy
  have := h j (by omega) hj
  rw [rdj ws j hj, e2] at this
  exact this
theorem Got.next {ws out : List S74} (g : Got ws out) {bn : Nat} (hb : bn < ws.length) (hc : candP out (rd_T74 ws (bn : Int)))
    (h4 : ∀ j : Nat, j < ws.length → candP out (rd_T74 ws (j : Int)) → ¬ ltK (rd_T74 ws (j : Int)) (rd_T74 ws (bn : Int))) (h5 : ∀ j : Nat, bn < j → j < ws.length → candP out (rd_T74 ws (j : Int)) → ltK (rd_T74 ws (bn : Int)) (rd_T74 ws (j : Int))) : Got ws (out ++ [rd_T74 ws (bn : Int)]) where
  adj := g.adj.snoc hc
  lasts := by
    intro x hx
    rcases List.mem_append.1 hx with hx | hx
    · exact g.lasts x hx
    · rw [List.mem_singleton.1 hx]
      refine last_at hb (fun j hj hl => ?_)
      cases e : eqv ltW (rd_T74 ws (bn : Int)) (rd_T74 ws (j : Int)) with
      | false => rfl
      | true =>
        rw [eqvW] at e
        have hcj : candP out (rd_T74 ws (j : Int)) := fun h0 => by
          have := hc h0
          unfold ltK at this ⊢
          omega
        have := h5 j hj hl hcj
        unfold ltK at this
        omega
  all := by
    intro y hy hn
    by_cases hcy : candP out y
    · refine ⟨_, List.mem_append_right _ (List.mem_singleton.2 rfl), ?_⟩
      obtain ⟨j, hj, rfl⟩ := mem_rd hy
      have h1 := h4 j hj hcy
      have h2 : ¬ ltK (rd_T74 ws (bn : Int)) (rd_T74 ws (j : Int)) := fun hl => hn (fun _ => by
        have hlast : rd_T74 (out ++ [rd_T74 ws (bn : Int)]) (((out ++ [rd_T74 ws (bn : Int)]).length - 1 : Nat) : Int) = rd_T74 ws (bn : Int) := by
          rw [List.length_append, List.length_singleton, Nat.add_sub_cancel, rd_app_eq]
        rw [hlast]; exact hl)
      rw [eqvW]
      unfold ltK at h1 h2
      omega
    · obtain ⟨x, hx, e⟩ := g.all y hy hcy
      exact ⟨x, List.mem_append_left _ hx, e⟩
theorem Got.done {ws out : List S74} (g : Got ws out) (h : ∀ y ∈ ws, ¬ candP out y) : out = foldW ws :=
  fold_char weakW (adj_pairwise.1 g.adj) g.lasts (fun y hy => g.all y hy (h y hy))
theorem fold_goes (ws : List S74) (hw : ws.length ≤ 10000) : ∀ (n : Nat) (out : List S74), ws.countP (fun x => decide (candP out x)) ≤ n → Got ws out → out.length + n ≤ 20000 → Ev (fun k => counterfoilref08_Fold.l0 k ws out) (foldW ws) := by
  intro n
  induction n with
  | zero =>
    intro out hn g ho
    have hno : ∀ y ∈ ws, ¬ candP out y := by
      intro y hy hc
      have := List.countP_pos_iff (p := fun x => decide (candP out x)) |>.2 ⟨y, hy, decide_eq_true hc⟩
      omega
    rcases best_run ws out ws.length (-1) 0 (by omega) (.inl ⟨by omega, fun j hj => by omega⟩) with ⟨h0, _⟩ | ⟨bn, hb, h2, h3, _⟩
    · rw [← g.done hno]
      refine Ev.succ ?_
      simp only [counterfoilref08_Fold.l0]
      exact l1_ev ws out (by omega) (by omega) out ws.length (-1) 0 (by omega) (by omega) (.inl ⟨h0, rfl⟩)
    · exact absurd h3 (hno _ (rd_mem ws (by omega) (by omega)))
  | succ n ih =>
    intro out hn g ho
    rcases best_run ws out ws.length (-1) 0 (by omega) (.inl ⟨by omega, fun j hj => by omega⟩) with ⟨h0, h1⟩ | ⟨bn, hb, h2, h3, h4, h5⟩
    · rw [← g.done (fun y hy => by obtain ⟨j, hj, rfl⟩ := mem_rd hy; exact h1 j hj)]
      refine Ev.succ ?_
      simp only [counterfoilref08_Fold.l0]
      exact l1_ev ws out (by omega) (by omega) out ws.length (-1) 0 (by omega) (by omega) (.inl ⟨h0, rfl⟩)
    · have hlast : rd_T74 (out ++ [rd_T74 ws (bn : Int)]) (((out ++ [rd_T74 ws (bn : Int)]).length - 1 : Nat) : Int) = rd_T74 ws (bn : Int) := by
        rw [List.length_append, List.length_singleton, Nat.add_sub_cancel, rd_app_eq]
      have hlt := countP_lt (p := fun x => decide (candP out x)) (q := fun x => decide (candP (out ++ [rd_T74 ws (bn : Int)]) x)) (fun x hx => by
          have hx := of_decide_eq_true hx
          refine decide_eq_true (fun hl => ?_)
          have := hx (by simp)
          rw [hlast] at this
          exact ltK_trans (h3 hl) this) (decide_eq_true h3) (decide_eq_false (fun hx => by
          have := hx (by simp)
          rw [hlast] at this
          exact ltK_irrefl _ this)) (rd_mem ws (by omega) (by omega))
      have hr := ih (out ++ [rd_T74 ws (bn : Int)]) (by omega) (g.next h2 h3 h4 h5) (by simp; omega)
      refine Ev.succ ?_
      simp only [counterfoilref08_Fold.l0]
      refine l1_ev ws out (by omega) (by omega) _ ws.length (-1) 0 (by omega) (by omega) (.inr ?_)
      rw [hb]
      exact ⟨by omega, by omega, hr⟩
theorem rfold_ev (ws : List S74) (hw : ws.length ≤ 10000) : Ev (fun k => counterfoilref08_Fold.f k ws) (foldW ws) := by
  unfold counterfoilref08_Fold.f
  exact fold_goes ws hw ws.length [] List.countP_le_length ⟨fun j hj => by simp at hj, fun x hx => by simp at hx, fun y hy hn => absurd (fun h => by simp at h) hn⟩ (by simp; omega)
end Go.Proofs.Ythdhkoeaadahaaa.FoldCore
