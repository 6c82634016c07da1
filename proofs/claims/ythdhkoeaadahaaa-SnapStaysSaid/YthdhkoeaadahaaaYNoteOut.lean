-- PACKED by wip/kit/pack.py: what the law's proof uses of NoteOut (printed words and texts of this seat)
import Derived.Test.YthdhkoeaadahaaaYSnapCore
namespace Go.Proofs.Ythdhkoeaadahaaa.VolsCore
open Go.RowKit Go.Proofs.Ythdhkoeaadahaaa.P Go.Proofs.YthdhkoeaadahaaaW.PrintWords Go.Proofs.YthdhkoeaadahaaaW.PrintLast Go.Proofs.Ythdhkoeaadahaaa.SortCore
set_option linter.unusedVariables false
def cellOut (kept ws : List S74) (y : S49) (j : Nat) : Option S74 := ((lastQ kept y.f0 (j : Int)).or (if lastQ ws y.f0 (j : Int) ≠ none then some (gets9 y.f1 j) else none)).map (fun t => (⟨y.f0, (j : Int), t⟩ : S74))
def volOut (kept ws : List S74) (y : S49) : List S74 := (List.range y.f1.length).filterMap (cellOut kept ws y)
def noteOut (kept ws : List S74) (l : List S49) : List S74 := l.flatMap (volOut kept ws)
theorem mem_lastQ {xs : List S74} (h : xs.Pairwise (fun a b => ltW a b = true)) (z : S74) : z ∈ xs ↔ lastQ xs z.f0 z.f1 = some z.f2 := by
  rw [strict_last weakW h, lastQ_last z.f0 z.f1 z.f2]
  have e : (⟨z.f0, z.f1, z.f2⟩ : S74) = z := rfl
  rw [e]
  constructor
  · intro h
    rw [h]; rfl
  · intro h
    cases hl : last ltW xs z with
    | none => rw [hl] at h; cases h
    | some y =>
      rw [hl] at h
      have h1 := FoldCore.eqvW.1 (last_some hl).2
      have h2 : y.f2 = z.f2 := Option.some.inj h
      rw [FoldCore.eq74 h1.1 h1.2 h2.symm]
theorem ids_lt {l : List S49} (h : rightV l = true) : l.Pairwise (fun x y => x.f0 < y.f0) := by
  have key : ∀ (l : List S49) (last : Int), rightFrom last l = true → (∀ x ∈ l, last < x.f0) ∧ l.Pairwise (fun x y => x.f0 < y.f0) := by
    intro l
    induction l with
    | nil => intro last _; exact ⟨fun x hx => by simp at hx, List.Pairwise.nil⟩
    | cons y r ih =>
      intro last h
      rw [rightFrom, Bool.and_eq_true] at h
      obtain ⟨h1, h2⟩ := ih _ h.2
      have hy : last < y.f0 := by
        have := h.1
        unfold badV at this
        by_cases hle : y.f0 ≤ last
        · rw [decide_eq_true hle] at this; simp at this
        · omega
      refine ⟨fun x hx => ?_, List.pairwise_cons.2 ⟨h1, h2⟩⟩
      rcases List.mem_cons.1 hx with rfl | hx
      · exact hy
      · have := h1 x hx; omega
  unfold rightV at h
  rw [Bool.and_eq_true] at h
  exact (key l 0 h.1).2
theorem cellOut_some {kept ws : List S74} {y : S49} {j : Nat} {z : S74} : cellOut kept ws y j = some z ↔ z.f0 = y.f0 ∧ z.f1 = (j : Int) ∧ ((lastQ kept y.f0 (j : Int)).or (if lastQ ws y.f0 (j : Int) ≠ none then some (gets9 y.f1 j) else none)) = some z.f2 := by
  unfold cellOut
  rw [Option.map_eq_some_iff]
  constructor
  · rintro ⟨t, h, rfl⟩
    exact ⟨rfl, rfl, h⟩
  · rintro ⟨h0, h1, h⟩
    refine ⟨z.f2, h, ?_⟩
    cases z
    simp only at h0 h1
    rw [h0, h1]
theorem mem_volOut {kept ws : List S74} {y : S49} {z : S74} : z ∈ volOut kept ws y ↔ ∃ j : Nat, j < y.f1.length ∧ cellOut kept ws y j = some z := by
  unfold volOut
  rw [List.mem_filterMap]
  constructor
  · rintro ⟨j, hj, h⟩
    exact ⟨j, List.mem_range.1 hj, h⟩
  · rintro ⟨j, hj, h⟩
    exact ⟨j, List.mem_range.2 hj, h⟩
theorem volOut_strict (kept ws : List S74) (y : S49) : (volOut kept ws y).Pairwise (fun a b => ltW a b = true) := by
  unfold volOut
  rw [List.pairwise_filterMap]
  refine List.pairwise_lt_range.imp (fun {a b} hab => ?_)
  intro x hx z hz
  have h1 := cellOut_some.1 hx
  have h2 := cellOut_some.1 hz
  rw [ltW_iff]
  right
  omega
theorem noteOut_strict (kept ws : List S74) {l : List S49} (h : l.Pairwise (fun x y => x.f0 < y.f0)) : (noteOut kept ws l).Pairwise (fun a b => ltW a b = true) := by
  unfold noteOut
  rw [List.pairwise_flatMap]
  refine ⟨fun y _ => volOut_strict kept ws y, h.imp (fun {a b} hab x hx z hz => ?_)⟩
  obtain ⟨i, _, hi⟩ := mem_volOut.1 hx
  obtain ⟨j, _, hj⟩ := mem_volOut.1 hz
  have h1 := cellOut_some.1 hi
  have h2 := cellOut_some.1 hj
  rw [ltW_iff]
  left
  omega
theorem out_eq {kept ws : List S74} {l : List S49} (hs : checkV l kept = 0) (hc : checkV l ws = 0) : noteOut kept ws l = moreW kept l ws := by
  obtain ⟨hr, _⟩ := checkV_right hs
  have hid := apply_ids hr
  refine strict_unique weakW (noteOut_strict kept ws (ids_lt hr)) (more_strict kept l ws) (fun z => ?_)
  rw [mem_lastQ (more_strict kept l ws), lastQ_more]
  unfold noteOut
  rw [List.mem_flatMap]
  constructor
  · rintro ⟨y, hy, hz⟩
    obtain ⟨j, hj, h⟩ := mem_volOut.1 hz
    obtain ⟨h0, h1, h2⟩ := cellOut_some.1 h
    rw [h0, h1, getV_mem hid hy hj]
    exact h2
  · intro h
    have hv : (getV l z.f0 z.f1).2 = 0 := by
      have hm : z ∈ moreW kept l ws := by rw [mem_lastQ (more_strict kept l ws), lastQ_more]; exact h
      exact (more_check hs hc z hm).1
    obtain ⟨y, hy, h0, h1⟩ := getE_some hv
    have hym := List.mem_of_find?_eq_some hy
    have hyf : y.f0 = z.f0 := by have := List.find?_some hy; simpa using this
    have hj : z.f1.toNat < y.f1.length := by omega
    have ez : z.f1 = ((z.f1.toNat : Nat) : Int) := by omega
    refine ⟨y, hym, mem_volOut.2 ⟨z.f1.toNat, hj, cellOut_some.2 ⟨hyf.symm, ez, ?_⟩⟩⟩
    have hg := getV_mem hid hym hj
    rw [← hyf, ez, hg] at h
    exact h
def totalB (l : List S49) : Nat := (l.map (fun y => y.f1.length)).sum
theorem noteOut_length (kept ws : List S74) : ∀ l : List S49, (noteOut kept ws l).length ≤ totalB l
  | [] => Nat.le_refl _
  | y :: r => by
    have h1 : (volOut kept ws y).length ≤ y.f1.length := by
      unfold volOut
      have := List.length_filterMap_le (cellOut kept ws y) (List.range y.f1.length)
      rwa [List.length_range] at this
    have h2 := noteOut_length kept ws r
    unfold noteOut at h2 ⊢
    unfold totalB at h2 ⊢
    rw [List.flatMap_cons, List.length_append, List.map_cons, List.sum_cons]
    omega
end Go.Proofs.Ythdhkoeaadahaaa.VolsCore
