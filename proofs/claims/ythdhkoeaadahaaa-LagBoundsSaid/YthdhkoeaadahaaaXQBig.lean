-- PACKED by wip/kit/pack.py: what the law's proof uses of QBig (printed words and texts of this seat)
import Derived.Test.YthdhkoeaadahaaaXQueueCore
import Derived.Test.YthdhkoeaadahaaaXDoneCore
import Derived.Test.YthdhkoeaadahaaaXMergeLaw
import Derived.Test.YthdhkoeaadahaaaXFoldBase
import Derived.Test.YthdhkoeaadahaaaXFoldedB
import Derived.Test.YthdhkoeaadahaaaXPx82
import Derived.Test.YthdhkoeaadahaaaXPx85
namespace Go.Proofs.Ythdhkoeaadahaaa.QBig
open Go.RowKit Go.Proofs.Ythdhkoeaadahaaa.P Go.Proofs.Ythdhkoeaadahaaa.FoldCore Go.Proofs.Ythdhkoeaadahaaa.QueueCore Go.Proofs.Ythdhkoeaadahaaa.DoneCore Go.Proofs.YthdhkoeaadahaaaW.PrintWords Go.Proofs.YthdhkoeaadahaaaW.PrintLast Go.Proofs.Ythdhkoeaadahaaa.SortCore
set_option linter.unusedVariables false
theorem mem99 (l : List S99) (i : Nat) (h : i < l.length) : rd_T99 l (i : Int) ∈ l := by rw [rd99 l i h]; exact List.getElem_mem h
theorem right_big (l : List S99) (o : List S74) (a b : Int) (hq : smallQ l o) : Ev (fun k => queue_Right.f k l o a b) (qB o a b l (tailP l a)) := by
  obtain ⟨hl, ho, hs⟩ := hq
  have loop : ∀ (d i : Nat) (p : Int), i + d = l.length → Ev (fun k => queue_Right.l0 k p l (l.length : Int) (i : Int) l o a b) (qB o a b (l.drop i) p) := by
    intro d
    induction d with
    | zero =>
      intro i p hi
      refine Ev.succ ?_
      simp only [queue_Right.l0]
      rw [List.drop_eq_nil_of_le (by omega)]
      refine Ev.neg (by omega) ?_
      simp only [qB, endB]
      refine Ev.gateP (fun _ => Ev.gate (fits_ev a) (fun _ => Ev.gateP (fun _ => Ev.gate (fits_ev b) (fun _ => Ev.gate (folded_ev o (by omega)) (fun _ => ?_)))))
      unfold lastB
      by_cases h : b > a
      · refine Ev.pos h ?_
        rw [if_pos h]; exact Ev.now _
      · refine Ev.neg h ?_
        rw [if_neg h]; exact Ev.now _
    | succ d ih =>
      intro i p hi
      refine Ev.succ ?_
      simp only [queue_Right.l0]
      rw [drop99 l (by omega), wrap_succ (by omega)]
      refine Ev.pos (by omega) (Ev.pos (by omega) (Ev.pos (by omega) ?_))
      simp only [qB]
      have := hs _ (mem99 l i (by omega))
      exact Ev.gate (fits_ev _) (fun _ => Ev.gateP (fun _ => Ev.gateN (fun _ => Ev.gate (fits_ev _) (fun _ => Ev.gate (folded_ev _ (by omega)) (fun _ => ih (i + 1) _ (by omega))))))
  unfold queue_Right.f
  have := loop l.length 0 (tailP l a) (by omega)
  rw [List.drop_zero] at this
  exact Ev.bind (tail_ev l o a b) this
theorem load_big (l : List S99) (o : List S74) (a b : Int) (hsq : smallQ l o) (hq : qB o a b l (tailP l a) = true) (hb : bytesS o + bytesS (allW l) ≤ 9223372036854775807) :
    Ev (fun k => queue_Load.f k l o a b) (wrap64 (b - tailP l a), bytesS o + bytesS (allW l)) := by
  obtain ⟨hl, ho, hs⟩ := hsq
  have loop : ∀ (d i : Nat) (s : Int), i + d = l.length → 0 ≤ s → s + bytesS (allW (l.drop i)) ≤ 9223372036854775807 → Ev (fun k => queue_Load.l0 k s l (l.length : Int) (i : Int) l o a b) (wrap64 (b - tailP l a), s + bytesS (allW (l.drop i))) := by
    intro d
    induction d with
    | zero =>
      intro i s hi h0 h
      refine Ev.succ ?_
      simp only [queue_Load.l0]
      rw [List.drop_eq_nil_of_le (by omega), allW, bytesS, Int.add_zero]
      exact Ev.neg (by omega) (Ev.bind (tail_ev l o a b) (Ev.now _))
    | succ d ih =>
      intro i s hi h0 h
      rw [drop99 l (by omega), allW, bytesS_app] at h ⊢
      have hn := bytesS_nn (allW (l.drop (i + 1)))
      have hn2 := bytesS_nn (rd_T99 l (i : Int)).f2
      have hsi := hs _ (mem99 l i (by omega))
      refine Ev.succ ?_
      simp only [queue_Load.l0]
      refine Ev.pos (by omega) (Ev.pos (by omega) (Ev.pos (by omega) (Ev.bind (bytes_ev _ (by omega) (by omega)) ?_)))
      rw [wrap_succ (by omega), show wrap64 (s + bytesS (rd_T99 l (i : Int)).f2) = s + bytesS (rd_T99 l (i : Int)).f2 by unfold wrap64; omega]
      have := ih (i + 1) (s + bytesS (rd_T99 l (i : Int)).f2) (by omega) (by omega) (by omega)
      rw [Int.add_assoc] at this
      exact this
  unfold queue_Load.f
  have hn := bytesS_nn o
  have hn2 := bytesS_nn (allW l)
  have := loop l.length 0 (bytesS o) (by omega) hn (by rw [List.drop_zero]; omega)
  rw [List.drop_zero] at this
  refine Ev.bind (right_big l o a b ⟨hl, ho, hs⟩) (Ev.pos hq (Ev.bind (bytes_ev o (by omega) (by omega)) this))
theorem done_big (l : List S99) (o : List S74) (a b q : Int) (hs : smallQ l o) (hq : qB o a b l (tailP l a) = true) : Ev (fun k => queue_Done.f k l o a b q) (l.filter (lateQ q), o, a, b, 0) := by
  unfold queue_Done.f
  refine Ev.bind (right_big l o a b hs) (Ev.pos hq ?_)
  rw [if_pos hs]
  exact Ev.now _
theorem clone_is (l : List S99) (o : List S74) (a b : Int) (hs : smallQ l o) : Ev (fun _ => queue_clone.f l o a b) (l, o, a, b) := Ev.const (by unfold queue_clone.f; rw [if_pos hs])
theorem add_big (l : List S99) (o ws : List S74) (a b : Int) (hs : smallQ l o) (hw : o.length + ws.length ≤ 10000) (hq : qB o a b l (tailP l a) = true) (hb : b < 1099511627776) : Ev (fun k => queue_Add.f k l o a b ws) (l, foldW (o ++ ws), a, b + 1, 0) := by
  obtain ⟨b1, b2⟩ := (fitB_iff _).1 (qB_end hq).2
  unfold queue_Add.f
  refine Ev.bind (right_big l o a b hs) (Ev.pos hq ?_)
  rw [show (b == 1099511627776) = false from beq_eq_false_iff_ne.2 (by omega)]
  refine Ev.succ ?_
  simp only [queue_Add.j0]
  refine Ev.neg (by simp) (Ev.bind (clone_is l o a b hs) (Ev.bind (merge_ev o ws hw) ?_))
  rw [show wrap64 (b + 1) = b + 1 by unfold wrap64; omega]
  exact Ev.now _
theorem cut_big (l : List S99) (o : List S74) (a b : Int) (hs : smallQ l o) (hq : qB o a b l (tailP l a) = true) (hb : b ≠ a) : Ev (fun k => queue_Cut.f k l o a b) (l ++ [⟨a, b, o⟩], [], b, b, 0) := by
  unfold queue_Cut.f
  refine Ev.bind (right_big l o a b hs) (Ev.pos hq (Ev.neg hb (Ev.bind (clone_is l o a b hs) (Ev.pos (by have := hs.1; simp only; omega) (Ev.now _)))))
theorem foldB_fold (l : List S74) : foldB (foldW l) = true := by
  rw [foldB_eq]
  exact decide_eq_true (fold_lt weakW l)
theorem bytesS_perm {l m : List S74} (h : l.Perm m) : bytesS l = bytesS m := by
  induction h with
  | nil => rfl
  | cons x _ ih => simp only [bytesS]; omega
  | swap x y l => simp only [bytesS]; omega
  | trans _ _ h1 h2 => omega
theorem bytesS_sub {l m : List S74} (h : l.Sublist m) : bytesS l ≤ bytesS m := by
  induction h with
  | slnil => exact Int.le_refl _
  | cons x _ ih =>
    have := bytesS_nn [x]
    simp only [bytesS] at this ⊢
    omega
  | cons_cons x _ ih => simp only [bytesS]; omega
theorem bytesS_fold (l : List S74) : bytesS (foldW l) ≤ bytesS l := by
  obtain ⟨ys, h1, h2⟩ := fold_subperm (lt := ltW) l
  have := bytesS_sub h2
  have e := bytesS_perm h1
  show bytesS (SortCore.fold ltW l) ≤ bytesS l
  omega
theorem qB_more {o o' : List S74} {a b : Int} (ho : foldB o' = true) (hb : b < 1099511627776) : ∀ {l : List S99} {p : Int}, qB o a b l p = true → qB o' a (b + 1) l p = true
  | [], p, h => by
    simp only [qB, endB, Bool.and_eq_true, decide_eq_true_eq] at h ⊢
    obtain ⟨h1, h2, h3, h4, _, _⟩ := h
    have h5 := (fitB_iff _).1 h4
    refine ⟨h1, h2, by omega, (fitB_iff _).2 ⟨by omega, by omega⟩, ho, ?_⟩
    unfold lastB
    rw [if_pos (by omega)]
  | s :: r, p, h => by
    simp only [qB, Bool.and_eq_true] at h ⊢
    exact ⟨h.1, h.2.1, h.2.2.1, h.2.2.2.1, h.2.2.2.2.1, qB_more ho hb h.2.2.2.2.2⟩
theorem qB_cut {o : List S74} {a b : Int} (hb : b ≠ a) : ∀ {l : List S99} {p : Int}, qB o a b l p = true → qB [] b b (l ++ [⟨a, b, o⟩]) p = true
  | [], p, h => by
    simp only [qB, endB, Bool.and_eq_true, decide_eq_true_eq] at h
    obtain ⟨h1, h2, h3, h4, h5, _⟩ := h
    have e : foldB [] = true := (foldB_iff []).2 (fun j hj => by simp at hj)
    simp only [List.nil_append, qB, endB, Bool.and_eq_true, decide_eq_true_eq, Bool.not_eq_true', decide_eq_false_iff_not]
    refine ⟨h2, h1, by omega, h4, h5, trivial, h4, by omega, h4, e, ?_⟩
    unfold lastB
    rw [if_neg (by omega)]
    rfl
  | s :: r, p, h => by
    rw [List.cons_append]
    simp only [qB, Bool.and_eq_true] at h ⊢
    exact ⟨h.1, h.2.1, h.2.2.1, h.2.2.2.1, h.2.2.2.2.1, qB_cut hb h.2.2.2.2.2⟩
theorem allW_app : ∀ (l m : List S99), allW (l ++ m) = allW l ++ allW m
  | [], m => rfl
  | s :: r, m => by rw [List.cons_append, allW, allW, allW_app r m, List.append_assoc]
end Go.Proofs.Ythdhkoeaadahaaa.QBig
