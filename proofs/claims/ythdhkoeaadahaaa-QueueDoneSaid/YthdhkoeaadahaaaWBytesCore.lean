-- PACKED by wip/kit/pack.py: what the law's proof uses of BytesCore (printed words and texts of this seat)
import Derived.Test.YthdhkoeaadahaaaWFoldCore
import Derived.Test.YthdhkoeaadahaaaWPx5
namespace Go.Proofs.Ythdhkoeaadahaaa.FoldCore
open Go.RowKit Go.Proofs.Ythdhkoeaadahaaa.P Go.Proofs.YthdhkoeaadahaaaW.PrintWords Go.Proofs.YthdhkoeaadahaaaW.PrintLast
set_option linter.unusedVariables false
def bytesS : List S74 → Int
  | [] => 0
  | x :: r => 8 + (x.f2.size : Int) + bytesS r
theorem bytesS_nn : ∀ l, 0 ≤ bytesS l
  | [] => Int.le_refl _
  | x :: r => by have := bytesS_nn r; unfold bytesS; omega
theorem bytesS_app : ∀ l m, bytesS (l ++ m) = bytesS l + bytesS m
  | [], m => by simp [bytesS]
  | x :: r, m => by have := bytesS_app r m; rw [List.cons_append, bytesS, bytesS, this]; omega
theorem bytesS_le : ∀ {l : List S74}, (∀ x ∈ l, x.f2.size ≤ 140737488351232) → bytesS l ≤ (l.length : Int) * 140737488351240
  | [], _ => by simp [bytesS]
  | x :: r, h => by
    have h1 := h x List.mem_cons_self
    have h2 := bytesS_le (fun y hy => h y (List.mem_cons_of_mem _ hy))
    rw [bytesS, List.length_cons]
    omega
theorem drop74 (l : List S74) {i : Nat} (h : i < l.length) : l.drop i = rd_T74 l (i : Int) :: l.drop (i + 1) := by
  unfold rd_T74
  rw [List.drop_eq_getElem_cons h, Int.toNat_natCast, List.getD_eq_getElem?_getD, List.getElem?_eq_getElem h, Option.getD_some]
theorem bytes_ev (l : List S74) (hl : l.length < 9223372036854775807) (hb : bytesS l ≤ 9223372036854775807) : Ev (fun k => fold_Bytes.f k l) (bytesS l) := by
  have loop : ∀ (d i : Nat) (s : Int), i + d = l.length → 0 ≤ s → s + bytesS (l.drop i) ≤ 9223372036854775807 → Ev (fun k => fold_Bytes.l0 k s l (l.length : Int) (i : Int)) (s + bytesS (l.drop i)) := by
    intro d
    induction d with
    | zero =>
      intro i s hi h0 h
      refine Ev.succ ?_
      simp only [fold_Bytes.l0]
      rw [List.drop_eq_nil_of_le (by omega), bytesS, Int.add_zero]
      exact Ev.neg (by omega) (Ev.now _)
    | succ d ih =>
      intro i s hi h0 h
      rw [drop74 l (by omega), bytesS] at h ⊢
      have hn := bytesS_nn (l.drop (i + 1))
      refine Ev.succ ?_
      simp only [fold_Bytes.l0]
      rw [wrap_succ (by omega), show wrap64 (s + wrap64 (8 + ((rd_T74 l (i : Int)).f2.size : Int))) = s + (8 + ((rd_T74 l (i : Int)).f2.size : Int)) by unfold wrap64; omega]
      have := ih (i + 1) (s + (8 + ((rd_T74 l (i : Int)).f2.size : Int))) (by omega) (by omega) (by omega)
      rw [Int.add_assoc] at this
      exact Ev.pos (by omega) (Ev.pos (by omega) (Ev.pos (by omega) this))
  have := loop l.length 0 0 (by omega) (by omega) (by rw [List.drop_zero]; omega)
  rw [List.drop_zero, Int.zero_add] at this
  exact this
theorem rbytes_ev (l : List S74) (hl : l.length < 9223372036854775807) (hb : bytesS l ≤ 9223372036854775807) : Ev (fun k => counterfoilref08_Bytes.f k l) (bytesS l) := by
  have loop : ∀ (d i : Nat) (s : Int), i + d = l.length → 0 ≤ s → s + bytesS (l.drop i) ≤ 9223372036854775807 → Ev (fun k => counterfoilref08_Bytes.l0 k l s (i : Int)) (s + bytesS (l.drop i)) := by
    intro d
    induction d with
    | zero =>
      intro i s hi h0 h
      refine Ev.succ ?_
      simp only [counterfoilref08_Bytes.l0]
      rw [List.drop_eq_nil_of_le (by omega), bytesS, Int.add_zero]
      exact Ev.neg (by omega) (Ev.now _)
    | succ d ih =>
      intro i s hi h0 h
      rw [drop74 l (by omega), bytesS] at h ⊢
      have hn := bytesS_nn (l.drop (i + 1))
      refine Ev.succ ?_
      simp only [counterfoilref08_Bytes.l0]
      rw [wrap_succ (by omega), show wrap64 (wrap64 (s + 8) + ((rd_T74 l (i : Int)).f2.size : Int)) = s + (8 + ((rd_T74 l (i : Int)).f2.size : Int)) by unfold wrap64; omega]
      have := ih (i + 1) (s + (8 + ((rd_T74 l (i : Int)).f2.size : Int))) (by omega) (by omega) (by omega)
      rw [Int.add_assoc] at this
      exact Ev.pos (by omega) (Ev.pos (by omega) this)
  have := loop l.length 0 0 (by omega) (by omega) (by rw [List.drop_zero]; omega)
  rw [List.drop_zero, Int.zero_add] at this
  exact this
end Go.Proofs.Ythdhkoeaadahaaa.FoldCore
