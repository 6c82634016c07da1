/- Two lists are merged, also when they are folded ahead; no condition. -/
import Derived.Test.YthdhkoeaadahaaaMergeLaw
import Derived.Test.YthdhkoeaadahaaaPx74
import Derived.Test.YthdhkoeaadahaaaGood
namespace Go.Proofs.Ythdhkoeaadahaaa.Pure
open Go.RowKit Go.Proofs.Ythdhkoeaadahaaa.P Go.Proofs.Ythdhkoeaadahaaa.FoldCore Go.Proofs.YthdhkoeaadahaaaW.PrintWords Go.Proofs.YthdhkoeaadahaaaW.PrintLast Go.Proofs.Ythdhkoeaadahaaa.SortCore
theorem fawake_ev : Ev (fun _ => counterfoillaw08_awake.f) true := Ev.const (by decide +kernel)
theorem join_ev (a b : List S74) (h : a.length + b.length ≤ 10000) : Ev (fun _ => counterfoilref08_Join.f a b) (a ++ b) := by
  unfold counterfoilref08_Join.f
  refine Ev.pos (by simp; omega) (Ev.bind (Ev.now _) (Ev.pos (by simp; omega) (Ev.const ?_)))
  rw [List.nil_append]
theorem FoldMerges : counterfoillaw08_FoldMerges.Pure := by
  intro l m hl hm
  suffices h : Ev (fun k => counterfoillaw08_FoldMerges.f k l m) true by
    obtain ⟨k, hk⟩ := h
    exact ⟨k, hk k (Nat.le_refl _)⟩
  have dull : Ev (fun k => counterfoillaw08_FoldMerges.j0 k l m true) true := by
    refine Ev.succ ?_
    simp only [counterfoillaw08_FoldMerges.j0]
    exact Ev.pos (by simp) (Ev.bind fawake_ev (Ev.now _))
  unfold counterfoillaw08_FoldMerges.f
  by_cases h1 : (l.length : Int) > 200
  · exact Ev.pos h1 dull
  · refine Ev.neg h1 ?_
    by_cases h2 : (m.length : Int) > 200
    · rw [decide_eq_true h2]; exact dull
    · rw [decide_eq_false h2]
      have h3 := foldW_length l
      have h4 := foldW_length m
      have h5 := foldW_length (l ++ m)
      rw [List.length_append] at h5
      have e := merge_ev (foldW l) (foldW m) (by omega)
      have ee : foldW (foldW l ++ foldW m) = foldW (l ++ m) := fold_append weakW l m
      rw [ee] at e
      refine Ev.succ ?_
      simp only [counterfoillaw08_FoldMerges.j0]
      refine Ev.neg (by simp) (Ev.bind (merge_ev l m (by omega)) (Ev.bind (join_ev l m (by omega)) (Ev.bind (rfold_ev (l ++ m) (by rw [List.length_append]; omega)) (Ev.bind (eqw_self _ (by omega)) (Ev.pos rfl ?_)))))
      exact Ev.bind (fold_ev l (by omega)) (Ev.bind (fold_ev m (by omega)) (Ev.bind e (Ev.bind (eqw_self _ (by omega)) (Ev.pos rfl (Ev.bind fawake_ev (Ev.now _))))))
end Go.Proofs.Ythdhkoeaadahaaa.Pure
