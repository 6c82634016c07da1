/- Folded twice is folded once; what is folded takes no more; no condition. -/
import Derived.Test.YthdhkoeaadahaaaFoldPure
import Derived.Test.YthdhkoeaadahaaaBytesCore
import Derived.Test.YthdhkoeaadahaaaPx53
import Derived.Test.YthdhkoeaadahaaaGood
namespace Go.Proofs.Ythdhkoeaadahaaa.Pure
open Go.RowKit Go.Proofs.Ythdhkoeaadahaaa.P Go.Proofs.Ythdhkoeaadahaaa.FoldCore Go.Proofs.YthdhkoeaadahaaaW.PrintWords Go.Proofs.YthdhkoeaadahaaaW.PrintLast Go.Proofs.Ythdhkoeaadahaaa.SortCore
theorem fawake_ev : Ev (fun _ => counterfoillaw08_awake.f) true := Ev.const (by decide +kernel)
theorem bytesS_perm {l m : List S74} (h : l.Perm m) : bytesS l = bytesS m := by
  induction h with
  | nil => rfl
  | cons x _ ih => rw [bytesS, bytesS, ih]
  | swap x y l => rw [bytesS, bytesS, bytesS, bytesS]; omega
  | trans _ _ h1 h2 => rw [h1, h2]
theorem bytesS_sub {l m : List S74} (h : l.Sublist m) : bytesS l ≤ bytesS m := by
  induction h with
  | slnil => exact Int.le_refl _
  | cons x _ ih => rw [bytesS]; omega
  | cons_cons x _ ih => rw [bytesS, bytesS]; omega
theorem bytesS_fold (l : List S74) : bytesS (foldW l) ≤ bytesS l := by
  obtain ⟨ys, h1, h2⟩ := fold_subperm (lt := ltW) l
  have := bytesS_sub h2
  rw [bytesS_perm h1] at this
  exact this
theorem foldB_fold (l : List S74) : foldB (foldW l) = true := by
  rw [foldB_eq]; exact decide_eq_true (fold_lt weakW l)
theorem FoldTwice : counterfoillaw08_FoldTwice.Pure := by
  intro l hl
  suffices h : Ev (fun k => counterfoillaw08_FoldTwice.f k l) true by
    obtain ⟨k, hk⟩ := h
    exact ⟨k, hk k (Nat.le_refl _)⟩
  unfold counterfoillaw08_FoldTwice.f
  by_cases h : (l.length : Int) > 200
  · exact Ev.pos h (Ev.bind fawake_ev (Ev.now _))
  · have hlen := foldW_length l
    have hb := bytesS_le (fun x hx => (hl.2.2 x hx).2.2)
    have hbf := bytesS_fold l
    have hff : foldW (foldW l) = foldW l := fold_fold weakW l
    have e1 := fold_ev (foldW l) (by omega)
    rw [hff] at e1
    have e2 := folded_ev (foldW l) (by omega)
    rw [foldB_fold] at e2
    refine Ev.neg h (Ev.bind (fold_ev l (by omega)) (Ev.bind e1 (Ev.bind e2 (Ev.pos rfl (Ev.bind (eqw_self _ (by omega)) (Ev.pos rfl (Ev.pos (by omega) ?_)))))))
    refine Ev.bind (bytes_ev (foldW l) (by omega) (by omega)) (Ev.bind (bytes_ev l (by omega) (by omega)) (Ev.pos hbf (Ev.bind fawake_ev (Ev.now _))))
end Go.Proofs.Ythdhkoeaadahaaa.Pure
