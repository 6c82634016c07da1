-- PACKED by wip/kit/pack.py: what the law's proof uses of TakesCore (printed words and texts of this seat)
import Derived.Test.YthdhkoeaadahaaaSVolsCore2
import Derived.Test.YthdhkoeaadahaaaSPx0
import Derived.Test.YthdhkoeaadahaaaSEVGet
import Derived.Test.YthdhkoeaadahaaaSFoldedB
import Derived.Test.YthdhkoeaadahaaaSEFold
import Derived.Test.YthdhkoeaadahaaaSNewCore
namespace Go.Proofs.Ythdhkoeaadahaaa.VolsCore
open Go.RowKit Go.Proofs.Ythdhkoeaadahaaa.P Go.Proofs.YthdhkoeaadahaaaW.PrintWords Go.Proofs.YthdhkoeaadahaaaW.PrintLast
set_option linter.unusedVariables false
end Go.Proofs.Ythdhkoeaadahaaa.VolsCore
namespace Go.Proofs.Ythdhkoeaadahaaa.FoldCore
open Go.RowKit Go.Proofs.Ythdhkoeaadahaaa.P Go.Proofs.YthdhkoeaadahaaaW.PrintWords Go.Proofs.YthdhkoeaadahaaaW.PrintLast Go.Proofs.Ythdhkoeaadahaaa.SortCore
set_option linter.unusedVariables false
end Go.Proofs.Ythdhkoeaadahaaa.FoldCore
namespace Go.Proofs.Ythdhkoeaadahaaa.VolsCore
open Go.RowKit Go.Proofs.Ythdhkoeaadahaaa.P Go.Proofs.YthdhkoeaadahaaaW.PrintWords Go.Proofs.YthdhkoeaadahaaaW.PrintLast Go.Proofs.Ythdhkoeaadahaaa.SortCore
set_option linter.unusedVariables false
theorem lastQ_last (v b : Int) (s : ByteArray) (ws : List S74) : lastQ ws v b = (last ltW ws ⟨v, b, s⟩).map (fun x => x.f2) := by
  have key : ∀ n : Nat, ∀ ws : List S74, ws.length = n → lastQ ws v b = (last ltW ws ⟨v, b, s⟩).map (fun x => x.f2) := by
    intro n
    induction n with
    | zero =>
      intro ws h
      obtain rfl := List.eq_nil_of_length_eq_zero h
      rfl
    | succ n ih =>
      intro ws h
      rcases List.eq_nil_or_concat ws with e | ⟨r, x, e⟩
      · subst e; simp at h
      · rw [List.concat_eq_append] at e
        subst e
        rw [lastQ_snoc, last_append, last_cons]
        have hr := ih r (by simpa using h)
        by_cases hx : x.f0 = v ∧ x.f1 = b
        · rw [if_pos hx, if_pos (FoldCore.eqvW.2 ⟨hx.1.symm, hx.2.symm⟩)]
          rfl
        · rw [if_neg hx, if_neg (fun e => hx ⟨(FoldCore.eqvW.1 e).1.symm, (FoldCore.eqvW.1 e).2.symm⟩), hr]
          rfl
  exact key _ ws rfl
theorem lastQ_fold (ws : List S74) (v b : Int) : lastQ (foldW ws) v b = lastQ ws v b := by
  rw [lastQ_last v b ByteArray.empty, lastQ_last v b ByteArray.empty]
  exact congrArg _ (fold_last weakW ws _)
theorem checkL_ok : ∀ (l : List S49) (ws : List S74), (∀ x ∈ ws, (getV l x.f0 x.f1).2 = 0 ∧ x.f2.size ≤ 8) → checkL l ws = 0
  | _, [], _ => rfl
  | l, x :: r, h => by
    have hx := h x List.mem_cons_self
    have e : checkW l x = 0 := by
      unfold checkW
      rw [if_neg (Decidable.not_not.2 hx.1), if_neg (by omega)]
    rw [checkL, if_neg (Decidable.not_not.2 e)]
    exact checkL_ok l r (fun y hy => h y (List.mem_cons_of_mem _ hy))
theorem checkV_ok {l : List S49} {ws : List S74} (hr : rightV l = true) (h : ∀ x ∈ ws, (getV l x.f0 x.f1).2 = 0 ∧ x.f2.size ≤ 8) : checkV l ws = 0 := by
  unfold checkV
  rw [if_pos hr]
  exact checkL_ok l ws h
theorem newV_congr {a b : List S74} (h : ∀ v c, lastQ a v c = lastQ b v c) (x : S49) : newV a x = newV b x := by
  unfold newV
  have : newB a x.f0 x.f1 = newB b x.f0 x.f1 := by
    funext j
    unfold newB
    rw [h]
  rw [this]
theorem check_pos {l : List S49} {ws : List S74} (h : checkL l ws = 0) : ∀ x ∈ ws, 0 ≤ x.f1 := fun x hx => by
  obtain ⟨_, _, h0, _⟩ := getE_some (checkL_all l ws h x hx).1
  exact h0
theorem does_check {l : List S49} {ws : List S74} (h : checkV l ws = 0) : checkV l (foldW ws) = 0 := by
  obtain ⟨hr, hc⟩ := checkV_right h
  exact checkV_ok hr (fun x hx => checkL_all l ws hc x (last_some ((mem_fold weakW ws x).1 hx)).1)
theorem does_apply {l : List S49} {ws : List S74} (h : checkV l ws = 0) : applyV l (foldW ws) = applyV l ws := by
  obtain ⟨hr, hc⟩ := checkV_right h
  obtain ⟨_, hc2⟩ := checkV_right (does_check h)
  rw [apply_new l ws (apply_ids hr) (check_pos hc), apply_new l (foldW ws) (apply_ids hr) (check_pos hc2)]
  exact List.map_congr_left (fun x _ => newV_congr (lastQ_fold ws) x)
end Go.Proofs.Ythdhkoeaadahaaa.VolsCore
namespace Go.Proofs.Ythdhkoeaadahaaa.VolsCore
open Go.RowKit Go.Proofs.Ythdhkoeaadahaaa.P Go.Proofs.YthdhkoeaadahaaaW.PrintWords Go.Proofs.YthdhkoeaadahaaaW.PrintLast Go.Proofs.Ythdhkoeaadahaaa.SortCore
set_option linter.unusedVariables false
end Go.Proofs.Ythdhkoeaadahaaa.VolsCore
