-- PACKED by wip/kit/pack.py: what the law's proof uses of NewCore (printed words and texts of this seat)
import Derived.Test.YthdhkoeaadahaaaSVolsCore2
import Derived.Test.YthdhkoeaadahaaaSEVApply
namespace Go.Proofs.Ythdhkoeaadahaaa.VolsCore
open Go.RowKit Go.Proofs.Ythdhkoeaadahaaa.P Go.Proofs.YthdhkoeaadahaaaW.PrintWords Go.Proofs.YthdhkoeaadahaaaW.PrintLast
set_option linter.unusedVariables false
def lastQ (ws : List S74) (v b : Int) : Option ByteArray := ws.foldl (fun o x => if x.f0 = v ∧ x.f1 = b then some x.f2 else o) none
theorem lastQ_snoc (ws : List S74) (x : S74) (v b : Int) : lastQ (ws ++ [x]) v b = if x.f0 = v ∧ x.f1 = b then some x.f2 else lastQ ws v b := by
  unfold lastQ; rw [List.foldl_append]; rfl
theorem checkV_right {l : List S49} {ws : List S74} (h : checkV l ws = 0) : rightV l = true ∧ checkL l ws = 0 := by
  unfold checkV at h
  by_cases hr : rightV l = true
  · rw [if_pos hr] at h; exact ⟨hr, h⟩
  · rw [if_neg hr] at h; simp at h
theorem checkL_all : ∀ (l : List S49) (ws : List S74), checkL l ws = 0 → ∀ x ∈ ws, (getV l x.f0 x.f1).2 = 0 ∧ x.f2.size ≤ 8
  | _, [], _, x, hx => by simp at hx
  | l, y :: r, h, x, hx => by
    unfold checkL at h
    by_cases hy : checkW l y ≠ 0
    · rw [if_pos hy] at h; exact absurd h hy
    · rw [if_neg hy] at h
      rcases List.mem_cons.1 hx with rfl | hx
      · unfold checkW at hy
        by_cases hz : (getV l x.f0 x.f1).2 ≠ 0
        · rw [if_pos hz] at hy; exact absurd hz hy
        · rw [if_neg hz] at hy
          by_cases h8 : (x.f2.size : Int) > 8
          · rw [if_pos h8] at hy; simp at hy
          · exact ⟨Decidable.not_not.1 hz, by omega⟩
      · exact checkL_all l r h x hx
theorem applyV_same (l : List S49) (ws : List S74) (v b : Int) : (getV (applyV l ws) v b).2 = (getV l v b).2 := applyV_err l v b ws l rfl
theorem put_right : ∀ (l : List S49) (v b : Int) (s : ByteArray) (last : Int), s.size ≤ 8 → rightFrom last l = true → rightFrom last (putV l v b s) = true
  | [], _, _, _, _, _, h => h
  | x :: r, v, b, s, last, hs, h => by
    rw [rightFrom, Bool.and_eq_true] at h
    unfold putV
    split
    · rw [rightFrom, Bool.and_eq_true]
      refine ⟨?_, h.2⟩
      have h1 := h.1
      unfold badV at h1 ⊢
      rw [List.length_set]
      simp only [Bool.not_or, Bool.and_eq_true, Bool.not_eq_true', Bool.not_not] at h1 ⊢
      refine ⟨h1.1, ?_⟩
      rw [List.any_eq_false] at h1 ⊢
      intro y hy
      rcases List.mem_or_eq_of_mem_set hy with hy | rfl
      · exact h1.2 y hy
      · unfold longS; simp; omega
    · rw [rightFrom, Bool.and_eq_true]
      exact ⟨h.1, put_right r v b s _ hs h.2⟩
theorem apply_right : ∀ (ws : List S74) (l : List S49), (∀ x ∈ ws, x.f2.size ≤ 8) → rightV l = true → rightV (applyV l ws) = true
  | [], _, _, h => h
  | x :: r, l, hs, h => by
    show rightV (applyV (putW l x) r) = true
    refine apply_right r _ (fun y hy => hs y (List.mem_cons_of_mem _ hy)) ?_
    unfold rightV at h ⊢
    rw [Bool.and_eq_true] at h ⊢
    refine ⟨put_right l _ _ _ 0 (hs x List.mem_cons_self) h.1, ?_⟩
    rw [putW, putV_length]; exact h.2
def applyR (l : List S49) (ws : List S74) : List S49 × Int := if checkV l ws = 0 then (applyV l ws, 0) else ([], checkV l ws)
theorem apply_ev (l : List S49) (ws : List S74) : Ev (fun _ => vols_Apply.f l ws) (applyR l ws) := Ev.const rfl
theorem apply_ids {l : List S49} (h : rightV l = true) : l.Pairwise (fun x y => x.f0 ≠ y.f0) := by
  have key : ∀ (l : List S49) (last : Int), rightFrom last l = true → (∀ x ∈ l, last < x.f0) ∧ l.Pairwise (fun x y => x.f0 ≠ y.f0) := by
    intro l
    induction l with
    | nil => intro last _; exact ⟨fun x hx => by simp at hx, List.Pairwise.nil⟩
    | cons y r ih =>
      intro last h
      rw [rightFrom, Bool.and_eq_true] at h
      obtain ⟨h1, h2⟩ := ih _ h.2
      have hy : last < y.f0 := by
        have := h.1
        unfold badV at this
        by_cases hle : y.f0 ≤ last
        · rw [decide_eq_true hle] at this; simp at this
        · omega
      refine ⟨fun x hx => ?_, List.pairwise_cons.2 ⟨fun x hx => by have := h1 x hx; omega, h2⟩⟩
      rcases List.mem_cons.1 hx with rfl | hx
      · exact hy
      · have := h1 x hx; omega
  unfold rightV at h
  rw [Bool.and_eq_true] at h
  exact (key l 0 h.1).2
end Go.Proofs.Ythdhkoeaadahaaa.VolsCore
namespace Go.Proofs.Ythdhkoeaadahaaa.VolsCore
open Go.RowKit Go.Proofs.Ythdhkoeaadahaaa.P Go.Proofs.YthdhkoeaadahaaaW.PrintWords Go.Proofs.YthdhkoeaadahaaaW.PrintLast
set_option linter.unusedVariables false
def newB (ws : List S74) (v : Int) (bs : List ByteArray) (j : Nat) : ByteArray := (lastQ ws v (j : Int)).getD (gets9 bs j)
def newV (ws : List S74) (x : S49) : S49 := ⟨x.f0, (List.range x.f1.length).map (newB ws x.f0 x.f1)⟩
theorem new_nil (x : S49) : newV [] x = x := by
  unfold newV
  have : (List.range x.f1.length).map (newB [] x.f0 x.f1) = x.f1 := by
    refine List.ext_getElem (by simp) (fun j h1 h2 => ?_)
    rw [List.getElem_map, List.getElem_range]
    exact gets9_at _ _ h2
  rw [this]
theorem new_other (ws : List S74) (x : S74) (y : S49) (h : ¬ y.f0 = x.f0) : newV (ws ++ [x]) y = newV ws y := by
  unfold newV
  have : newB (ws ++ [x]) y.f0 y.f1 = newB ws y.f0 y.f1 := by
    funext j
    unfold newB
    rw [lastQ_snoc, if_neg (fun e => h e.1.symm)]
  rw [this]
theorem new_hit (ws : List S74) (x : S74) (y : S49) (h : y.f0 = x.f0) (h0 : 0 ≤ x.f1) : newV (ws ++ [x]) y = ⟨y.f0, ((List.range y.f1.length).map (newB ws y.f0 y.f1)).set x.f1.toNat x.f2⟩ := by
  unfold newV
  have : (List.range y.f1.length).map (newB (ws ++ [x]) y.f0 y.f1) = ((List.range y.f1.length).map (newB ws y.f0 y.f1)).set x.f1.toNat x.f2 := by
    refine List.ext_getElem (by simp) (fun j h1 h2 => ?_)
    rw [List.getElem_map, List.getElem_range, List.getElem_set, List.getElem_map, List.getElem_range]
    unfold newB
    rw [lastQ_snoc]
    by_cases hj : x.f1.toNat = j
    · rw [if_pos ⟨h.symm, by omega⟩, if_pos hj]
      rfl
    · rw [if_neg (fun e => hj (by omega)), if_neg hj]
  rw [this]
theorem put_new (ws : List S74) (x : S74) (h0 : 0 ≤ x.f1) : ∀ (l : List S49), l.Pairwise (fun x y => x.f0 ≠ y.f0) → putW (l.map (newV ws)) x = l.map (newV (ws ++ [x]))
  | [], _ => rfl
  | y :: r, h => by
    obtain ⟨h1, h2⟩ := List.pairwise_cons.1 h
    have ih := put_new ws x h0 r h2
    unfold putW at ih ⊢
    rw [List.map_cons, List.map_cons]
    unfold putV
    by_cases hy : y.f0 = x.f0
    · have e : (newV ws y).f0 = x.f0 := hy
      rw [if_pos e, new_hit ws x y hy h0]
      have er : r.map (newV (ws ++ [x])) = r.map (newV ws) := List.map_congr_left fun z hz => new_other ws x z (fun e => h1 z hz (hy.trans e.symm))
      rw [er]
      rfl
    · have e : ¬ (newV ws y).f0 = x.f0 := hy
      rw [if_neg e, new_other ws x y hy, ih]
theorem apply_new (l : List S49) (ws : List S74) (hid : l.Pairwise (fun x y => x.f0 ≠ y.f0)) (h0 : ∀ x ∈ ws, 0 ≤ x.f1) : applyV l ws = l.map (newV ws) := by
  have key : ∀ k, k ≤ ws.length → applyV l (ws.take k) = l.map (newV (ws.take k)) := by
    intro k
    induction k with
    | zero =>
      intro _
      rw [List.take_zero]
      show l = _
      have : newV [] = id := funext new_nil
      rw [this, List.map_id]
    | succ k ih =>
      intro hk
      have hlt : k < ws.length := by omega
      rw [List.take_succ_eq_append_getElem hlt, ← put_new (ws.take k) ws[k] (h0 _ (List.getElem_mem hlt)) l hid, ← ih (by omega)]
      unfold applyV
      rw [List.foldl_append]
      rfl
  have := key ws.length (Nat.le_refl _)
  rwa [List.take_of_length_le (Nat.le_refl _)] at this
end Go.Proofs.Ythdhkoeaadahaaa.VolsCore
