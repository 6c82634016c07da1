-- PACKED by wip/kit/pack.py: what the law's proof uses of FoldedCore, FoldCore, BytesCore, FoldBase, MergeLaw, FoldedB (printed words and texts of this seat)
import Derived.Test.YthdhkoeaadahaaaSEvBase
import Derived.Test.YthdhkoeaadahaaaSPx7
import Derived.Test.YthdhkoeaadahaaaSPx13
import Derived.Test.YthdhkoeaadahaaaSPx5
import Derived.Test.YthdhkoeaadahaaaSEFold
import Derived.Test.YthdhkoeaadahaaaSPx11
section
namespace Go.Proofs.Ythdhkoeaadahaaa.FoldCore
open Go.RowKit Go.Proofs.Ythdhkoeaadahaaa.P Go.Proofs.YthdhkoeaadahaaaW.PrintWords Go.Proofs.YthdhkoeaadahaaaW.PrintLast
set_option linter.unusedVariables false
def cmpI (a b : Int) : Int := if a < b then -1 else if a > b then 1 else 0
theorem compare_ev (a b : Int) : Ev (fun _ => cmp_Compare_int.f a b) (cmpI a b) := by
  unfold cmp_Compare_int.f cmp_isNaN_int.f cmpI
  refine Ev.bind (Ev.const (r := false) (by simp)) (Ev.bind (Ev.const (r := false) (by simp)) (Ev.neg (by simp) (Ev.neg (by simp) ?_)))
  by_cases h : a < b
  · refine Ev.pos h ?_
    rw [if_pos h]
    exact Ev.now _
  refine Ev.neg h ?_
  rw [if_neg h]
  by_cases h2 : a > b
  · refine Ev.pos h2 ?_
    rw [if_pos h2]
    exact Ev.now _
  · refine Ev.neg h2 ?_
    rw [if_neg h2]
    exact Ev.now _
theorem or_ev (x y : Int) : Ev (fun k => cmp_Or_int.f k [x, y]) (if x = 0 then y else x) := by
  unfold cmp_Or_int.f
  have e0 : rd [x, y] 0 = x := rfl
  have e1 : rd [x, y] 1 = y := rfl
  have w1 : wrap64 (0 + 1) = 1 := by unfold wrap64; omega
  have w2 : wrap64 (1 + 1) = 2 := by unfold wrap64; omega
  refine Ev.succ ?_
  simp only [cmp_Or_int.l0]
  rw [e0, w1]
  refine Ev.pos (by simp) (Ev.pos (by simp) (Ev.pos (by simp) ?_))
  by_cases h : x = 0
  · refine Ev.pos h (Ev.succ ?_)
    rw [if_pos h]
    simp only [cmp_Or_int.l0]
    rw [e1, w2]
    refine Ev.pos (by simp) (Ev.pos (by simp) (Ev.pos (by simp) ?_))
    by_cases h2 : y = 0
    · refine Ev.pos h2 (Ev.succ ?_)
      simp only [cmp_Or_int.l0]
      rw [h2]
      exact Ev.neg (by simp) (Ev.now _)
    · exact Ev.neg h2 (Ev.now _)
  · refine Ev.neg h ?_
    rw [if_neg h]
    exact Ev.now _
theorem order_ev (a b : S74) : ∃ o, Ev (fun k => fold_order.f k a.f0 a.f1 a.f2 b.f0 b.f1 b.f2) o ∧ (o ≥ 0 ↔ ¬ ltK a b) := by
  refine ⟨_, by
    unfold fold_order.f
    exact Ev.bind (compare_ev a.f0 b.f0) (Ev.bind (compare_ev a.f1 b.f1) (Ev.bind (or_ev _ _) (Ev.now _))), ?_⟩
  unfold cmpI ltK
  repeat' split
  all_goals omega
def Adj (l : List S74) : Prop := ∀ j : Nat, j + 1 < l.length → ltK (rd_T74 l (j : Int)) (rd_T74 l ((j + 1 : Nat) : Int))
theorem Adj.all {l : List S74} (h : Adj l) : ∀ (d i : Nat), i + d + 1 < l.length → ltK (rd_T74 l (i : Int)) (rd_T74 l ((i + d + 1 : Nat) : Int))
  | 0, i, hi => h i hi
  | d + 1, i, hi => ltK_trans (h.all d i (by omega)) (h (i + d + 1) hi)
theorem Adj.lt {l : List S74} (h : Adj l) {i j : Nat} (hij : i < j) (hj : j < l.length) : ltK (rd_T74 l (i : Int)) (rd_T74 l (j : Int)) := by
  have := h.all (j - i - 1) i (by omega)
  rwa [show i + (j - i - 1) + 1 = j by omega] at this
noncomputable def foldB (l : List S74) : Bool := @decide (Adj l) (Classical.propDecidable _)
theorem foldB_iff (l : List S74) : foldB l = true ↔ Adj l := by unfold foldB; simp
theorem foldB_of {l : List S74} {t : Bool} (h : t = true ↔ Adj l) : t = foldB l := by
  have := foldB_iff l
  cases t <;> cases hf : foldB l <;> simp_all
theorem folded_ev (l : List S74) (hb : l.length < 9223372036854775807) : Ev (fun k => fold_Folded.f k l) (foldB l) := by
  have loop : ∀ (d i : Nat), i + d = l.length → 1 ≤ i → ∃ t, Ev (fun k => fold_Folded.l0 k l (l.length : Int) (i : Int)) t ∧ (t = true ↔ ∀ j : Nat, i ≤ j + 1 → j + 1 < l.length → ltK (rd_T74 l (j : Int)) (rd_T74 l ((j + 1 : Nat) : Int))) := by
    intro d
    induction d with
    | zero =>
      intro i hi h1
      refine ⟨true, Ev.succ ?_, ⟨fun _ j _ _ => by omega, fun _ => rfl⟩⟩
      simp only [fold_Folded.l0]
      exact Ev.neg (by omega) (Ev.now _)
    | succ d ih =>
      intro i hi h1
      obtain ⟨o, ho, ho'⟩ := order_ev (rd_T74 l ((i - 1 : Nat) : Int)) (rd_T74 l (i : Int))
      by_cases hlt : ltK (rd_T74 l ((i - 1 : Nat) : Int)) (rd_T74 l (i : Int))
      · obtain ⟨t, ht, ht'⟩ := ih (i + 1) (by omega) (by omega)
        refine ⟨t, Ev.succ ?_, ht'.trans ⟨fun h j hj hl => ?_, fun h j hj hl => h j (by omega) hl⟩⟩
        · simp only [fold_Folded.l0]
          rw [wrap_pred h1 (by omega), wrap_succ (by omega)]
          refine Ev.pos (by omega) (Ev.pos (by omega) (Ev.pos (by omega) (Ev.pos (by omega) (Ev.pos (by omega) (Ev.pos (by omega) (Ev.bind ho (Ev.neg (fun e => ho'.1 e hlt) ht)))))))
        · by_cases e : j + 1 = i
          · have e1 : i - 1 = j := by omega
            rw [e1, ← e] at hlt
            exact hlt
          · exact h j (by omega) hl
      · refine ⟨false, Ev.succ ?_, ⟨fun h => by simp at h, fun h => absurd (by have := h (i - 1) (by omega) (by omega); rwa [show i - 1 + 1 = i by omega] at this) hlt⟩⟩
        simp only [fold_Folded.l0]
        rw [wrap_pred h1 (by omega), wrap_succ (by omega)]
        exact Ev.pos (by omega) (Ev.pos (by omega) (Ev.pos (by omega) (Ev.pos (by omega) (Ev.pos (by omega) (Ev.pos (by omega) (Ev.bind ho (Ev.pos (ho'.2 hlt) (Ev.now _))))))))
  unfold fold_Folded.f
  by_cases h0 : l.length = 0
  · have : foldB l = true := (foldB_iff l).2 (fun j hj => by omega)
    rw [this]
    refine Ev.succ ?_
    simp only [fold_Folded.l0]
    exact Ev.neg (by omega) (Ev.now _)
  · obtain ⟨t, ht, ht'⟩ := loop (l.length - 1) 1 (by omega) (by omega)
    have e : t = foldB l := foldB_of (ht'.trans ⟨fun h j hj => h j (by omega) hj, fun h j _ hj => h j hj⟩)
    rw [← e]
    refine Ev.succ ?_
    simp only [fold_Folded.l0]
    rw [show wrap64 (0 + 1) = ((1 : Nat) : Int) by unfold wrap64; omega]
    refine Ev.pos (by omega) (Ev.neg (by omega) ?_)
    exact ht
end Go.Proofs.Ythdhkoeaadahaaa.FoldCore
end
section
namespace Go.Proofs.Ythdhkoeaadahaaa.FoldCore
open Go.RowKit Go.Proofs.Ythdhkoeaadahaaa.P Go.Proofs.YthdhkoeaadahaaaW.PrintWords Go.Proofs.YthdhkoeaadahaaaW.PrintLast
set_option linter.unusedVariables false
def candP (out : List S74) (x : S74) : Prop := 0 < out.length → ltK (rd_T74 out ((out.length - 1 : Nat) : Int)) x
instance (out : List S74) (x : S74) : Decidable (candP out x) := by unfold candP; exact inferInstance
theorem rd_app_lt (l m : List S74) {j : Nat} (h : j < l.length) : rd_T74 (l ++ m) (j : Int) = rd_T74 l (j : Int) := by
  unfold rd_T74
  rw [Int.toNat_natCast, List.getD_eq_getElem?_getD, List.getD_eq_getElem?_getD, List.getElem?_append_left h]
theorem rd_app_eq (l : List S74) (c : S74) : rd_T74 (l ++ [c]) (l.length : Int) = c := by
  unfold rd_T74
  rw [Int.toNat_natCast, List.getD_eq_getElem?_getD, List.getElem?_append_right (Nat.le_refl _)]
  simp
theorem Adj.snoc {out : List S74} {c : S74} (h : Adj out) (hc : candP out c) : Adj (out ++ [c]) := by
  intro j hj
  rw [List.length_append, List.length_singleton] at hj
  by_cases e : j + 1 < out.length
  · rw [rd_app_lt _ _ (by omega), rd_app_lt _ _ e]; exact h j e
  · have e2 : j + 1 = out.length := by omega
    rw [rd_app_lt _ _ (by omega), e2, rd_app_eq]
    have := hc (by omega)
    rwa [show out.length - 1 = j by omega] at this
end Go.Proofs.Ythdhkoeaadahaaa.FoldCore
end
section
namespace Go.Proofs.Ythdhkoeaadahaaa.FoldCore
open Go.RowKit Go.Proofs.Ythdhkoeaadahaaa.P Go.Proofs.YthdhkoeaadahaaaW.PrintWords Go.Proofs.YthdhkoeaadahaaaW.PrintLast
set_option linter.unusedVariables false
theorem drop74 (l : List S74) {i : Nat} (h : i < l.length) : l.drop i = rd_T74 l (i : Int) :: l.drop (i + 1) := by
  unfold rd_T74
  rw [List.drop_eq_getElem_cons h, Int.toNat_natCast, List.getD_eq_getElem?_getD, List.getElem?_eq_getElem h, Option.getD_some]
end Go.Proofs.Ythdhkoeaadahaaa.FoldCore
end
section
namespace Go.Proofs.Ythdhkoeaadahaaa.FoldCore
open Go.RowKit Go.Proofs.Ythdhkoeaadahaaa.P Go.Proofs.YthdhkoeaadahaaaW.PrintWords Go.Proofs.YthdhkoeaadahaaaW.PrintLast Go.Proofs.Ythdhkoeaadahaaa.SortCore
set_option linter.unusedVariables false
theorem eqvW {a b : S74} : eqv ltW a b = true ↔ a.f0 = b.f0 ∧ a.f1 = b.f1 := by rw [eqv_iff, ltW_false, ltW_false]; omega
theorem fold_ev (l : List S74) (h : l.length ≤ 10000) : Ev (fun _ => fold_Fold.f l) (foldW l) := Ev.const (by unfold fold_Fold.f; rw [if_pos (by omega)])
theorem foldW_length (l : List S74) : (foldW l).length ≤ l.length := fold_length l
end Go.Proofs.Ythdhkoeaadahaaa.FoldCore
end
section
namespace Go.Proofs.Ythdhkoeaadahaaa.FoldCore
open Go.RowKit Go.Proofs.Ythdhkoeaadahaaa.P Go.Proofs.YthdhkoeaadahaaaW.PrintWords Go.Proofs.YthdhkoeaadahaaaW.PrintLast Go.Proofs.Ythdhkoeaadahaaa.SortCore
set_option linter.unusedVariables false
theorem merge_ev (a b : List S74) (h : a.length + b.length ≤ 10000) : Ev (fun _ => fold_Merge.f a b) (foldW (a ++ b)) := by
  unfold fold_Merge.f
  refine Ev.bind (Ev.const (r := a ++ b) ?_) (Ev.bind (fold_ev (a ++ b) (by rw [List.length_append]; exact h)) (Ev.now _))
  show (if a.length + b.length ≤ 100000 then some (a ++ b) else none) = some (a ++ b)
  exact if_pos (by omega)
end Go.Proofs.Ythdhkoeaadahaaa.FoldCore
end
section
namespace Go.Proofs.Ythdhkoeaadahaaa.FoldCore
open Go.RowKit Go.Proofs.Ythdhkoeaadahaaa.P Go.Proofs.YthdhkoeaadahaaaW.PrintWords Go.Proofs.YthdhkoeaadahaaaW.PrintLast Go.Proofs.Ythdhkoeaadahaaa.SortCore
set_option linter.unusedVariables false
theorem adj_pairwise {r : List S74} : Adj r ↔ r.Pairwise (fun a b => ltW a b = true) := by
  rw [List.pairwise_iff_getElem]
  constructor
  · intro h i j hi hj hij
    have := h.lt hij hj
    rw [rdj r i hi, rdj r j hj] at this
    exact ltW_iff.2 this
  · intro h j hj
    rw [rdj r j (by omega), rdj r (j + 1) hj]
    exact ltW_iff.1 (h j (j + 1) (by omega) hj (by omega))
theorem foldB_eq (l : List S74) : foldB l = decide (l.Pairwise (fun a b => ltW a b = true)) := by
  cases h : foldB l with
  | true => exact (decide_eq_true (adj_pairwise.1 ((foldB_iff l).1 h))).symm
  | false => exact (decide_eq_false (fun e => by rw [(foldB_iff l).2 (adj_pairwise.2 e)] at h; cases h)).symm
end Go.Proofs.Ythdhkoeaadahaaa.FoldCore
end
