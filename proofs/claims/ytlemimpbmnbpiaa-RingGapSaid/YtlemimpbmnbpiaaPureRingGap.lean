/- The steps between any two places are as many as the reference counts, or both refuse; no condition. -/
import Derived.Test.YtlemimpbmnbpiaaPRingGapx1
namespace Go.Proofs.Ytlemimpbmnbpiaa.Pure
open Go.RowKit Go.Proofs.Ytlemimpbmnbpiaa.PRingGap Go.Proofs.YtlemimpbmnbpiaaW.PrintWords Go.Proofs.YtlemimpbmnbpiaaW.PrintLast

theorem right1 (s a : Int) (k : Nat) : ring_right.f (k + 6) s [a] = some (decide (1 ≤ s ∧ s ≤ 4096 ∧ 0 ≤ a ∧ a < s)) := by
  by_cases h1 : 1 ≤ s <;> by_cases h2 : s ≤ 4096 <;> by_cases h3 : 0 ≤ a <;>
    simp [ring_right.f, ring_right.j0, ring_right.l0, rd, wrap64, h1, h2, h3]

/-- The place so many steps behind. -/
def atS (s a n : Int) : Int × Int := if 1 ≤ s ∧ s ≤ 4096 ∧ 0 ≤ a ∧ a < s ∧ 0 ≤ n ∧ n ≤ 1099511627776 then ((a + n) % s, 0) else (0, 1)

theorem at_eq (s a n : Int) (k : Nat) : ring_At.f (k + 6) s a n = some (atS s a n) := by
  unfold ring_At.f atS
  rw [right1]
  by_cases h : 1 ≤ s ∧ s ≤ 4096 ∧ 0 ≤ a ∧ a < s
  · obtain ⟨h1, h2, h3, h4⟩ := h
    by_cases h5 : 0 ≤ n
    · by_cases h6 : n ≤ 1099511627776
      · have e : wrap64 (a + n) = a + n := by unfold wrap64; omega
        have e2 : Int.tmod (a + n) s = (a + n) % s := Int.tmod_eq_emod_of_nonneg (by omega)
        simp only [Option.bind_some]
        rw [if_pos (by simp [h1, h2, h3, h4]), if_neg (by omega), if_neg (by omega), if_neg (by omega), e, e2, if_pos ⟨h1, h2, h3, h4, h5, h6⟩]
      · simp only [Option.bind_some]
        rw [if_pos (by simp [h1, h2, h3, h4]), if_neg (by omega), if_pos (by omega), if_neg (by omega)]
    · simp only [Option.bind_some]
      rw [if_pos (by simp [h1, h2, h3, h4]), if_pos (by omega), if_neg (by omega)]
  · simp only [Option.bind_some]
    rw [if_neg (by simpa using h), if_neg (fun g => h ⟨g.1, g.2.1, g.2.2.1, g.2.2.2.1⟩)]

theorem awake_eq (k : Nat) : counterfoillaw04_awake.f (k + 6) = some true := by
  unfold counterfoillaw04_awake.f
  rw [at_eq]
  simp [atS]

theorem right2 (s a b : Int) (k : Nat) : ring_right.f (k + 6) s [a, b] = some (decide (1 ≤ s ∧ s ≤ 4096 ∧ 0 ≤ a ∧ a < s ∧ 0 ≤ b ∧ b < s)) := by
  by_cases h1 : 1 ≤ s <;> by_cases h2 : s ≤ 4096 <;> by_cases h3 : 0 ≤ a <;> by_cases h4 : a < s <;> by_cases h5 : 0 ≤ b <;>
    simp [ring_right.f, ring_right.j0, ring_right.l0, rd, wrap64, h1, h2, h3, h4, h5]

/-- How many steps lead from a to b. -/
def gapS (s a b : Int) : Int × Int := if 1 ≤ s ∧ s ≤ 4096 ∧ 0 ≤ a ∧ a < s ∧ 0 ≤ b ∧ b < s then ((b - a + s) % s, 0) else (0, 1)

theorem gap_eq (s a b : Int) (k : Nat) : ring_Gap.f (k + 6) s a b = some (gapS s a b) := by
  unfold ring_Gap.f gapS
  rw [right2]
  by_cases h : 1 ≤ s ∧ s ≤ 4096 ∧ 0 ≤ a ∧ a < s ∧ 0 ≤ b ∧ b < s
  · have h' := h
    obtain ⟨h1, h2, h3, h4, h5, h6⟩ := h
    have e : wrap64 ((wrap64 (b - a)) + s) = b - a + s := by unfold wrap64; omega
    have e2 : Int.tmod (b - a + s) s = (b - a + s) % s := Int.tmod_eq_emod_of_nonneg (by omega)
    simp only [Option.bind_some]
    rw [if_pos (by simp [h1, h2, h3, h4, h5, h6]), if_neg (by omega), e, e2, if_pos h']
  · simp only [Option.bind_some]
    rw [if_neg (by simpa using h), if_neg h]

theorem rright (s a : Int) : counterfoilref04_Right.f s a = some (decide (1 ≤ s ∧ s ≤ 4096 ∧ 0 ≤ a ∧ a < s)) := by
  unfold counterfoilref04_Right.f
  by_cases h1 : 1 ≤ s
  · by_cases h2 : s ≤ 4096
    · by_cases h3 : 0 ≤ a
      · rw [if_pos (by omega), if_pos (by omega), if_pos (by omega)]; simp [h1, h2, h3]
      · rw [if_pos (by omega), if_pos (by omega), if_neg (by omega)]; simp [h3]
    · rw [if_pos (by omega), if_neg (by omega)]; simp [h2]
  · rw [if_neg (by omega)]; simp [h1]

theorem rnext (s a : Int) (h1 : 1 ≤ s) (h2 : s ≤ 4096) (h3 : 0 ≤ a) (h4 : a < s) : counterfoilref04_next.f s a = some ((a + 1) % s) := by
  unfold counterfoilref04_next.f
  have e : wrap64 (s - 1) = s - 1 := by unfold wrap64; omega
  have e2 : wrap64 (a + 1) = a + 1 := by unfold wrap64; omega
  rw [e, e2]
  by_cases h : a = s - 1
  · rw [if_pos h, show a + 1 = s by omega, Int.emod_self]
  · rw [if_neg h, Int.emod_eq_of_lt (by omega) (by omega)]

theorem rloop (s b : Int) (h1 : 1 ≤ s) (h2 : s ≤ 4096) (hb0 : 0 ≤ b) (hb : b < s) (d : Nat) : ∀ (k : Nat) (a n : Int), 0 ≤ a → a < s → 0 ≤ n → n ≤ 4096 → (b - a + s) % s = d → d < k → n + d ≤ 4096 →
    counterfoilref04_Gap.l0 k s b n a = some (n + d, 0) := by
  induction d with
  | zero =>
    intro k a n h3 h4 h5 h6 hd hk hnd
    obtain ⟨k, rfl⟩ : ∃ m, k = m + 1 := ⟨k - 1, by omega⟩
    have e : a = b := by
      by_cases hab : a ≤ b
      · have : (b - a + s) % s = b - a := by rw [Int.add_emod_right, Int.emod_eq_of_lt (by omega) (by omega)]
        omega
      · have : (b - a + s) % s = b - a + s := Int.emod_eq_of_lt (by omega) (by omega)
        omega
    simp only [counterfoilref04_Gap.l0]
    rw [if_pos e]
    simp
  | succ d ih =>
    intro k a n h3 h4 h5 h6 hd hk hnd
    obtain ⟨k, rfl⟩ : ∃ m, k = m + 1 := ⟨k - 1, by omega⟩
    have e : a ≠ b := by
      intro e
      rw [e, show b - b + s = s by omega, Int.emod_self] at hd
      omega
    simp only [counterfoilref04_Gap.l0]
    rw [if_neg e, rnext s a h1 h2 h3 h4]
    simp only [Option.bind_some]
    have e3 : wrap64 (n + 1) = n + 1 := by unfold wrap64; omega
    have hd2 : (b - (a + 1) % s + s) % s = d := by
      by_cases hl : a = s - 1
      · have z : (a + 1) % s = 0 := by rw [show a + 1 = s by omega, Int.emod_self]
        rw [z, show b - 0 + s = b + s by omega, Int.add_emod_right, Int.emod_eq_of_lt hb0 hb]
        have : (b - a + s) % s = b - a + s := Int.emod_eq_of_lt (by omega) (by omega)
        omega
      · have z : (a + 1) % s = a + 1 := Int.emod_eq_of_lt (by omega) (by omega)
        rw [z]
        by_cases hab : a < b
        · have z1 : (b - a + s) % s = b - a := by rw [Int.add_emod_right, Int.emod_eq_of_lt (by omega) (by omega)]
          have z2 : (b - (a + 1) + s) % s = b - (a + 1) := by rw [Int.add_emod_right, Int.emod_eq_of_lt (by omega) (by omega)]
          omega
        · have z1 : (b - a + s) % s = b - a + s := Int.emod_eq_of_lt (by omega) (by omega)
          have z2 : (b - (a + 1) + s) % s = b - (a + 1) + s := Int.emod_eq_of_lt (by omega) (by omega)
          omega
    rw [e3, ih k _ (n + 1) (Int.emod_nonneg _ (by omega)) (Int.emod_lt_of_pos _ (by omega)) (by omega) (by omega) hd2 (by omega) (by omega)]
    congr 2
    omega

theorem rgap_eq (s a b : Int) : counterfoilref04_Gap.f 5000 s a b = some (gapS s a b) := by
  have et : counterfoilref04_Gap.j0 5000 s a b true = some (0, 1) := by
    rw [show (5000 : Nat) = 4999 + 1 from rfl]
    simp only [counterfoilref04_Gap.j0, if_true]
  unfold counterfoilref04_Gap.f gapS
  rw [rright]
  by_cases h : 1 ≤ s ∧ s ≤ 4096 ∧ 0 ≤ a ∧ a < s
  · obtain ⟨h1, h2, h3, h4⟩ := h
    simp only [Option.bind_some]
    rw [if_pos (by simp [h1, h2, h3, h4]), rright]
    simp only [Option.bind_some]
    by_cases h5 : 0 ≤ b ∧ b < s
    · obtain ⟨h5, h6⟩ := h5
      have hm : 0 ≤ (b - a + s) % s := Int.emod_nonneg _ (by omega)
      have hlt : (b - a + s) % s < s := Int.emod_lt_of_pos _ (by omega)
      rw [if_pos ⟨h1, h2, h3, h4, h5, h6⟩]
      have e : counterfoilref04_Gap.j0 5000 s a b (!decide (1 ≤ s ∧ s ≤ 4096 ∧ 0 ≤ b ∧ b < s)) = counterfoilref04_Gap.l0 4999 s b 0 a := by
        rw [show (5000 : Nat) = 4999 + 1 from rfl]
        simp only [counterfoilref04_Gap.j0]
        rw [if_neg (by simp [h1, h2, h5, h6])]
      rw [e, rloop s b h1 h2 h5 h6 ((b - a + s) % s).toNat 4999 a 0 h3 h4 (by omega) (by omega) (by omega) (by omega) (by omega), Int.toNat_of_nonneg hm, Int.zero_add]
    · have e : (!decide (1 ≤ s ∧ s ≤ 4096 ∧ 0 ≤ b ∧ b < s)) = true := by
        rw [Bool.not_eq_true', decide_eq_false_iff_not]
        exact fun g => h5 g.2.2
      rw [e, et, if_neg (fun g => h5 g.2.2.2.2)]
  · simp only [Option.bind_some]
    rw [if_neg (by simpa using h), et, if_neg (fun g => h ⟨g.1, g.2.1, g.2.2.1, g.2.2.2.1⟩)]

theorem RingGap : counterfoillaw04_RingGap.Pure := by
  intro s a b _ _ _
  refine ⟨5000, ?_⟩
  unfold counterfoillaw04_RingGap.f
  rw [gap_eq s a b 4994, rgap_eq, awake_eq 4994]
  simp

end Go.Proofs.Ytlemimpbmnbpiaa.Pure
