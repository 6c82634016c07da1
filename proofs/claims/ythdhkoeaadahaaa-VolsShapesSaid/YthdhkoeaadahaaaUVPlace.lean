-- PACKED by wip/kit/pack.py: what the law's proof uses of VPlace (printed words and texts of this seat)
import Derived.Test.YthdhkoeaadahaaaUEFind
import Derived.Test.YthdhkoeaadahaaaUEInsS
namespace Go.Proofs.Ythdhkoeaadahaaa.P
set_option linter.unusedVariables false
def posN (l : List S49) (x : Int) : Nat := (l.filter (fun y => decide (y.f0 < x))).length
def hasV (l : List S49) (x : Int) : Bool := l.any (fun y => y.f0 == x)
theorem right_asc : ∀ (l : List S49) (last : Int), 0 ≤ last → rightFrom last l = true → (∀ x ∈ l, last < x.f0 ∧ x.f0 ≤ 255) ∧ l.Pairwise (fun x y => x.f0 < y.f0)
  | [], _, _, _ => ⟨fun x hx => by simp at hx, List.Pairwise.nil⟩
  | y :: r, last, h0, h => by
    rw [rightFrom, Bool.and_eq_true] at h
    have hb : badV last y = false := by cases hq : badV last y <;> simp_all
    have h1 : last < y.f0 ∧ y.f0 ≤ 255 := by
      unfold badV at hb
      simp only [Bool.or_eq_false_iff, decide_eq_false_iff_not] at hb
      omega
    obtain ⟨i1, i2⟩ := right_asc r y.f0 (by omega) h.2
    refine ⟨fun x hx => ?_, List.pairwise_cons.2 ⟨fun x hx => (i1 x hx).1, i2⟩⟩
    rcases List.mem_cons.1 hx with rfl | hx
    · exact h1
    · have := i1 x hx
      omega
theorem asc_of {l : List S49} (h : rightV l = true) : AscV l ∧ l.length ≤ 4 := by
  unfold rightV at h
  rw [Bool.and_eq_true] at h
  obtain ⟨h1, h2⟩ := right_asc l 0 (by omega) h.1
  have h3 := of_decide_eq_true h.2
  refine ⟨⟨fun k hk => ?_, fun i j hij hj => ?_⟩, by omega⟩
  · rw [rd49 l k hk]
    have := h1 _ (List.getElem_mem hk)
    omega
  · rw [rd49 l i (by omega), rd49 l j hj]
    exact List.pairwise_iff_getElem.1 h2 i j (by omega) hj hij
theorem pos_is {l : List S49} {x : Int} {p : Nat} (h : PosV l x p) : posN l x = p := by
  unfold posN
  have e : l = l.take p ++ l.drop p := (List.take_append_drop p l).symm
  have e1 : (l.take p).filter (fun y => decide (y.f0 < x)) = l.take p := by
    rw [List.filter_eq_self]
    intro y hy
    obtain ⟨k, hk, rfl⟩ := List.getElem_of_mem hy
    have hk2 : k < p ∧ k < l.length := by rw [List.length_take] at hk; omega
    have := h.2.1 k hk2.1
    rw [rd49 l k hk2.2] at this
    rw [List.getElem_take]
    exact decide_eq_true this
  have e2 : (l.drop p).filter (fun y => decide (y.f0 < x)) = [] := by
    rw [List.filter_eq_nil_iff]
    intro y hy
    obtain ⟨k, hk, rfl⟩ := List.getElem_of_mem hy
    have hk2 : p + k < l.length := by rw [List.length_drop] at hk; omega
    have := h.2.2 (p + k) (by omega) hk2
    rw [rd49 l (p + k) hk2] at this
    rw [List.getElem_drop]
    simp
    exact this
  conv => lhs; rw [e]
  rw [List.filter_append, e1, e2, List.append_nil, List.length_take]
  exact Nat.min_eq_left h.1
theorem has_is {l : List S49} {x : Int} {p : Nat} {b : Bool} (hA : AscV l) (h : PosV l x p) (hb : b = true ↔ p < l.length ∧ (rd_T49 l (p : Int)).f0 = x) : hasV l x = b := by
  rw [Bool.eq_iff_iff, hb]
  unfold hasV
  rw [List.any_eq_true]
  constructor
  · rintro ⟨y, hy, hyx⟩
    obtain ⟨k, hk, rfl⟩ := List.getElem_of_mem hy
    have hyx := eq_of_beq hyx
    rw [← rd49 l k hk] at hyx
    have h1 : p ≤ k := by
      rcases Nat.lt_or_ge k p with h9 | h9
      · have := h.2.1 k h9; omega
      · exact h9
    refine ⟨by omega, ?_⟩
    rcases Nat.lt_or_ge p k with h9 | h9
    · have h2 := hA.2 p k h9 hk
      have h3 := h.2.2 p (Nat.le_refl _) (by omega)
      omega
    · obtain rfl : k = p := by omega
      exact hyx
  · rintro ⟨h1, h2⟩
    exact ⟨l[p], List.getElem_mem h1, by rw [← rd49 l p h1]; exact beq_iff_eq.2 h2⟩
end Go.Proofs.Ythdhkoeaadahaaa.P
