/- Once round the ring, or more often, is nothing; no condition. -/
import Derived.Test.YtlemimpbmnbpiaaPRingRoundx1
namespace Go.Proofs.Ytlemimpbmnbpiaa.Pure
open Go.RowKit Go.Proofs.Ytlemimpbmnbpiaa.PRingRound Go.Proofs.YtlemimpbmnbpiaaW.PrintWords Go.Proofs.YtlemimpbmnbpiaaW.PrintLast

theorem right1 (s a : Int) (k : Nat) : ring_right.f (k + 6) s [a] = some (decide (1 ≤ s ∧ s ≤ 4096 ∧ 0 ≤ a ∧ a < s)) := by
  by_cases h1 : 1 ≤ s <;> by_cases h2 : s ≤ 4096 <;> by_cases h3 : 0 ≤ a <;>
    simp [ring_right.f, ring_right.j0, ring_right.l0, rd, wrap64, h1, h2, h3]

/-- The place so many steps behind. -/
def atS (s a n : Int) : Int × Int := if 1 ≤ s ∧ s ≤ 4096 ∧ 0 ≤ a ∧ a < s ∧ 0 ≤ n ∧ n ≤ 1099511627776 then ((a + n) % s, 0) else (0, 1)

theorem at_eq (s a n : Int) (k : Nat) : ring_At.f (k + 6) s a n = some (atS s a n) := by
  unfold ring_At.f atS
  rw [right1]
  by_cases h : 1 ≤ s ∧ s ≤ 4096 ∧ 0 ≤ a ∧ a < s
  · obtain ⟨h1, h2, h3, h4⟩ := h
    by_cases h5 : 0 ≤ n
    · by_cases h6 : n ≤ 1099511627776
      · have e : wrap64 (a + n) = a + n := by unfold wrap64; omega
        have e2 : Int.tmod (a + n) s = (a + n) % s := Int.tmod_eq_emod_of_nonneg (by omega)
        simp only [Option.bind_some]
        rw [if_pos (by simp [h1, h2, h3, h4]), if_neg (by omega), if_neg (by omega), if_neg (by omega), e, e2, if_pos ⟨h1, h2, h3, h4, h5, h6⟩]
      · simp only [Option.bind_some]
        rw [if_pos (by simp [h1, h2, h3, h4]), if_neg (by omega), if_pos (by omega), if_neg (by omega)]
    · simp only [Option.bind_some]
      rw [if_pos (by simp [h1, h2, h3, h4]), if_pos (by omega), if_neg (by omega)]
  · simp only [Option.bind_some]
    rw [if_neg (by simpa using h), if_neg (fun g => h ⟨g.1, g.2.1, g.2.2.1, g.2.2.2.1⟩)]

theorem awake_eq (k : Nat) : counterfoillaw04_awake.f (k + 6) = some true := by
  unfold counterfoillaw04_awake.f
  rw [at_eq]
  simp [atS]

theorem RingRound : counterfoillaw04_RingRound.Pure := by
  intro s a n t _ _ _ _
  refine ⟨7, ?_⟩
  have ej : ∀ b, (0 ≤ n ∧ n ≤ 1073741824 ∧ 0 ≤ t ∧ t ≤ 1000 ∨ b = true) → counterfoillaw04_RingRound.j0 7 s a n t b = some true := by
    intro b hb
    rw [show (7 : Nat) = 6 + 1 from rfl]
    simp only [counterfoillaw04_RingRound.j0]
    cases b with
    | true => rw [if_pos rfl, awake_eq 0]; rfl
    | false =>
      obtain ⟨h1, h2, h3, h4⟩ : 0 ≤ n ∧ n ≤ 1073741824 ∧ 0 ≤ t ∧ t ≤ 1000 := by simpa using hb
      rw [if_neg (by simp), at_eq s a n 0]
      simp only [Option.bind_some]
      by_cases h : 1 ≤ s ∧ s ≤ 4096 ∧ 0 ≤ a ∧ a < s
      · obtain ⟨g1, g2, g3, g4⟩ := h
        have e1 : atS s a n = ((a + n) % s, 0) := by unfold atS; rw [if_pos ⟨g1, g2, g3, g4, h1, by omega⟩]
        have p0 : 0 ≤ t * s := Int.mul_nonneg h3 (by omega)
        have p1 : t * s ≤ 1000 * 4096 := Int.mul_le_mul h4 g2 (by omega) (by omega)
        have ew : wrap64 (n + wrap64 (t * s)) = n + t * s := by unfold wrap64; omega
        have b1 : 0 ≤ (a + n) % s := Int.emod_nonneg _ (by omega)
        have b2 : (a + n) % s < s := Int.emod_lt_of_pos _ (by omega)
        have e2 : atS s ((a + n) % s) 0 = ((a + n) % s, 0) := by unfold atS; rw [if_pos ⟨g1, g2, b1, b2, by omega, by omega⟩, Int.add_zero, Int.emod_emod]
        have e3 : atS s a (n + t * s) = ((a + n) % s, 0) := by unfold atS; rw [if_pos ⟨g1, g2, g3, g4, by omega, by omega⟩, ← Int.add_assoc, Int.add_mul_emod_self_right]
        rw [e1]
        simp only [if_true]
        rw [ew, at_eq s a _ 0, at_eq s _ 0 0, e2, e3, awake_eq 0]
        simp
      · have e1 : atS s a n = (0, 1) := by unfold atS; rw [if_neg (fun g => h ⟨g.1, g.2.1, g.2.2.1, g.2.2.2.1⟩)]
        rw [e1, awake_eq 0]
        simp
  unfold counterfoillaw04_RingRound.f
  by_cases h1 : n < 0
  · rw [if_pos h1]; exact ej _ (.inr rfl)
  · by_cases h2 : n > 1073741824
    · rw [if_neg h1, if_pos h2]; exact ej _ (.inr rfl)
    · by_cases h3 : t < 0
      · rw [if_neg h1, if_neg h2, if_pos h3]; exact ej _ (.inr rfl)
      · rw [if_neg h1, if_neg h2, if_neg h3]
        refine ej _ ?_
        by_cases h4 : t > 1000
        · exact .inr (by simpa using h4)
        · exact .inl (by omega)

end Go.Proofs.Ytlemimpbmnbpiaa.Pure
