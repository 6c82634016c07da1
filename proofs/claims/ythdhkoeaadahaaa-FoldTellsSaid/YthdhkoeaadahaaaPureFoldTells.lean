/- Any writes are folded, and their blocks and bytes told; no condition. -/
import Derived.Test.YthdhkoeaadahaaaMarksCore
import Derived.Test.YthdhkoeaadahaaaBytesCore
import Derived.Test.YthdhkoeaadahaaaPx58
import Derived.Test.YthdhkoeaadahaaaGood
namespace Go.Proofs.Ythdhkoeaadahaaa.Pure
open Go.RowKit Go.Proofs.Ythdhkoeaadahaaa.P Go.Proofs.Ythdhkoeaadahaaa.FoldCore Go.Proofs.YthdhkoeaadahaaaW.PrintWords Go.Proofs.YthdhkoeaadahaaaW.PrintLast Go.Proofs.Ythdhkoeaadahaaa.SortCore
theorem fawake_ev : Ev (fun _ => counterfoillaw08_awake.f) true := Ev.const (by decide +kernel)
theorem rmarks_ev (l : List S74) (h : l.length ≤ 10000) : Ev (fun k => counterfoilref08_Marks.f k l) ((foldW l).map markOf) := by
  have hlen := foldW_length l
  have loop : ∀ (d i : Nat) (o : List S124), i + d = (foldW l).length → o.length = i → Ev (fun k => counterfoilref08_Marks.l0 k (foldW l) o (i : Int)) (o ++ ((foldW l).drop i).map markOf) := by
    intro d
    induction d with
    | zero =>
      intro i o hi ho
      refine Ev.succ ?_
      simp only [counterfoilref08_Marks.l0]
      rw [List.drop_eq_nil_of_le (by omega), List.map_nil, List.append_nil]
      exact Ev.neg (by omega) (Ev.now _)
    | succ d ih =>
      intro i o hi ho
      refine Ev.succ ?_
      simp only [counterfoilref08_Marks.l0]
      rw [wrap_succ (by omega)]
      have := ih (i + 1) (o ++ [markOf (rd_T74 (foldW l) (i : Int))]) (by omega) (by simp; omega)
      rw [List.append_assoc, List.singleton_append, ← List.map_cons, ← drop_rd74 _ (by omega)] at this
      exact Ev.pos (by omega) (Ev.pos (by omega) (Ev.pos (by omega) this))
  unfold counterfoilref08_Marks.f
  refine Ev.bind (rfold_ev l h) ?_
  have := loop (foldW l).length 0 [] (by omega) rfl
  rw [List.drop_zero, List.nil_append] at this
  exact this
theorem samemarks_ev (l : List S124) (h : l.length ≤ 10000) : Ev (fun k => counterfoilref08_SameMarks.f k l l) true := by
  have loop : ∀ (d i : Nat), i + d = l.length → Ev (fun k => counterfoilref08_SameMarks.l0 k l l (i : Int)) true := by
    intro d
    induction d with
    | zero =>
      intro i hi
      refine Ev.succ ?_
      simp only [counterfoilref08_SameMarks.l0]
      exact Ev.neg (by omega) (Ev.now _)
    | succ d ih =>
      intro i hi
      refine Ev.succ ?_
      simp only [counterfoilref08_SameMarks.l0]
      rw [wrap_succ (by omega)]
      exact Ev.pos (by omega) (Ev.pos (by omega) (Ev.pos (by omega) (Ev.neg (by simp) (ih (i + 1) (by omega)))))
  unfold counterfoilref08_SameMarks.f
  exact Ev.pos rfl (loop l.length 0 (by omega))
theorem FoldTells : counterfoillaw08_FoldTells.Pure := by
  intro l hl
  suffices h : Ev (fun k => counterfoillaw08_FoldTells.f k l) true by
    obtain ⟨k, hk⟩ := h
    exact ⟨k, hk k (Nat.le_refl _)⟩
  unfold counterfoillaw08_FoldTells.f
  by_cases h : (l.length : Int) > 200
  · exact Ev.pos h (Ev.bind fawake_ev (Ev.now _))
  · have hlen := foldW_length l
    have hb := bytesS_le (fun x hx => (hl.2.2 x hx).2.2)
    obtain ⟨t, ht, he⟩ := eqw_ev l (foldW l) (by omega)
    have e2 : foldB l = t := by
      rw [foldB_eq]
      cases t with
      | true =>
        have := he.1 rfl
        rw [this]
        exact decide_eq_true (fold_lt weakW l)
      | false =>
        refine decide_eq_false (fun hp => ?_)
        have : l = foldW l := (fold_strict weakW hp).symm
        have := he.2 this
        cases this
    refine Ev.neg h (Ev.bind (fold_ev l (by omega)) (Ev.bind (rfold_ev l (by omega)) (Ev.bind (eqw_self _ (by omega)) (Ev.pos rfl (Ev.bind (folded_ev l (by omega)) (Ev.bind ht (Ev.pos (by rw [e2]; simp) ?_)))))))
    refine Ev.bind (marks_ev l (by omega)) (Ev.bind (rmarks_ev l (by omega)) (Ev.bind (samemarks_ev _ (by rw [List.length_map]; omega)) (Ev.pos rfl ?_)))
    exact Ev.bind (bytes_ev l (by omega) (by omega)) (Ev.bind (rbytes_ev l (by omega) (by omega)) (Ev.pos rfl (Ev.bind fawake_ev (Ev.now _))))
end Go.Proofs.Ythdhkoeaadahaaa.Pure
