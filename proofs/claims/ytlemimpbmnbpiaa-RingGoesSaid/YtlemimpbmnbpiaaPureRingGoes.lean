/- As many steps as the gap lead there, and once round leads back; no condition. -/
import Derived.Test.YtlemimpbmnbpiaaPRingGoesx1
namespace Go.Proofs.Ytlemimpbmnbpiaa.Pure
open Go.RowKit Go.Proofs.Ytlemimpbmnbpiaa.PRingGoes Go.Proofs.YtlemimpbmnbpiaaW.PrintWords Go.Proofs.YtlemimpbmnbpiaaW.PrintLast

theorem right1 (s a : Int) (k : Nat) : ring_right.f (k + 6) s [a] = some (decide (1 ≤ s ∧ s ≤ 4096 ∧ 0 ≤ a ∧ a < s)) := by
  by_cases h1 : 1 ≤ s <;> by_cases h2 : s ≤ 4096 <;> by_cases h3 : 0 ≤ a <;>
    simp [ring_right.f, ring_right.j0, ring_right.l0, rd, wrap64, h1, h2, h3]

/-- The place so many steps behind. -/
def atS (s a n : Int) : Int × Int := if 1 ≤ s ∧ s ≤ 4096 ∧ 0 ≤ a ∧ a < s ∧ 0 ≤ n ∧ n ≤ 1099511627776 then ((a + n) % s, 0) else (0, 1)

theorem at_eq (s a n : Int) (k : Nat) : ring_At.f (k + 6) s a n = some (atS s a n) := by
  unfold ring_At.f atS
  rw [right1]
  by_cases h : 1 ≤ s ∧ s ≤ 4096 ∧ 0 ≤ a ∧ a < s
  · obtain ⟨h1, h2, h3, h4⟩ := h
    by_cases h5 : 0 ≤ n
    · by_cases h6 : n ≤ 1099511627776
      · have e : wrap64 (a + n) = a + n := by unfold wrap64; omega
        have e2 : Int.tmod (a + n) s = (a + n) % s := Int.tmod_eq_emod_of_nonneg (by omega)
        simp only [Option.bind_some]
        rw [if_pos (by simp [h1, h2, h3, h4]), if_neg (by omega), if_neg (by omega), if_neg (by omega), e, e2, if_pos ⟨h1, h2, h3, h4, h5, h6⟩]
      · simp only [Option.bind_some]
        rw [if_pos (by simp [h1, h2, h3, h4]), if_neg (by omega), if_pos (by omega), if_neg (by omega)]
    · simp only [Option.bind_some]
      rw [if_pos (by simp [h1, h2, h3, h4]), if_pos (by omega), if_neg (by omega)]
  · simp only [Option.bind_some]
    rw [if_neg (by simpa using h), if_neg (fun g => h ⟨g.1, g.2.1, g.2.2.1, g.2.2.2.1⟩)]

theorem awake_eq (k : Nat) : counterfoillaw04_awake.f (k + 6) = some true := by
  unfold counterfoillaw04_awake.f
  rw [at_eq]
  simp [atS]

theorem right2 (s a b : Int) (k : Nat) : ring_right.f (k + 6) s [a, b] = some (decide (1 ≤ s ∧ s ≤ 4096 ∧ 0 ≤ a ∧ a < s ∧ 0 ≤ b ∧ b < s)) := by
  by_cases h1 : 1 ≤ s <;> by_cases h2 : s ≤ 4096 <;> by_cases h3 : 0 ≤ a <;> by_cases h4 : a < s <;> by_cases h5 : 0 ≤ b <;>
    simp [ring_right.f, ring_right.j0, ring_right.l0, rd, wrap64, h1, h2, h3, h4, h5]

/-- How many steps lead from a to b. -/
def gapS (s a b : Int) : Int × Int := if 1 ≤ s ∧ s ≤ 4096 ∧ 0 ≤ a ∧ a < s ∧ 0 ≤ b ∧ b < s then ((b - a + s) % s, 0) else (0, 1)

theorem gap_eq (s a b : Int) (k : Nat) : ring_Gap.f (k + 6) s a b = some (gapS s a b) := by
  unfold ring_Gap.f gapS
  rw [right2]
  by_cases h : 1 ≤ s ∧ s ≤ 4096 ∧ 0 ≤ a ∧ a < s ∧ 0 ≤ b ∧ b < s
  · have h' := h
    obtain ⟨h1, h2, h3, h4, h5, h6⟩ := h
    have e : wrap64 ((wrap64 (b - a)) + s) = b - a + s := by unfold wrap64; omega
    have e2 : Int.tmod (b - a + s) s = (b - a + s) % s := Int.tmod_eq_emod_of_nonneg (by omega)
    simp only [Option.bind_some]
    rw [if_pos (by simp [h1, h2, h3, h4, h5, h6]), if_neg (by omega), e, e2, if_pos h']
  · simp only [Option.bind_some]
    rw [if_neg (by simpa using h), if_neg h]

theorem RingGoes : counterfoillaw04_RingGoes.Pure := by
  intro s a b _ _ _
  refine ⟨6, ?_⟩
  unfold counterfoillaw04_RingGoes.f
  rw [gap_eq s a b 0]
  simp only [Option.bind_some]
  by_cases h : 1 ≤ s ∧ s ≤ 4096 ∧ 0 ≤ a ∧ a < s ∧ 0 ≤ b ∧ b < s
  · have e0 : gapS s a b = ((b - a + s) % s, 0) := by unfold gapS; rw [if_pos h]
    obtain ⟨h1, h2, h3, h4, h5, h6⟩ := h
    have hm : 0 ≤ (b - a + s) % s := Int.emod_nonneg _ (by omega)
    have hlt : (b - a + s) % s < s := Int.emod_lt_of_pos _ (by omega)
    have e1 : atS s a ((b - a + s) % s) = (b, 0) := by
      unfold atS
      rw [if_pos ⟨h1, h2, h3, h4, hm, by omega⟩, Int.add_emod_emod, show a + (b - a + s) = b + s by omega, Int.add_emod_right, Int.emod_eq_of_lt h5 h6]
    have e2 : atS s b s = (b, 0) := by
      unfold atS
      rw [if_pos ⟨h1, h2, h5, h6, by omega, by omega⟩, Int.add_emod_right, Int.emod_eq_of_lt h5 h6]
    rw [e0]
    simp only [if_true]
    rw [at_eq s a _ 0, e1]
    simp only [Option.bind_some]
    rw [at_eq s b s 0, e2]
    simp only [Option.bind_some]
    rw [if_pos hm, if_pos hlt, awake_eq 0]
    simp
  · have e0 : gapS s a b = (0, 1) := by unfold gapS; rw [if_neg h]
    rw [e0, awake_eq 0]
    simp

end Go.Proofs.Ytlemimpbmnbpiaa.Pure
