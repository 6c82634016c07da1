/- Every step of every ring leads where the reference walks to, or both refuse; no condition. -/
import Derived.Test.YtlemimpbmnbpiaaPRingAtx1
namespace Go.Proofs.Ytlemimpbmnbpiaa.Pure
open Go.RowKit Go.Proofs.Ytlemimpbmnbpiaa.PRingAt Go.Proofs.YtlemimpbmnbpiaaW.PrintWords Go.Proofs.YtlemimpbmnbpiaaW.PrintLast

theorem right1 (s a : Int) (k : Nat) : ring_right.f (k + 6) s [a] = some (decide (1 ≤ s ∧ s ≤ 4096 ∧ 0 ≤ a ∧ a < s)) := by
  by_cases h1 : 1 ≤ s <;> by_cases h2 : s ≤ 4096 <;> by_cases h3 : 0 ≤ a <;>
    simp [ring_right.f, ring_right.j0, ring_right.l0, rd, wrap64, h1, h2, h3]

/-- The place so many steps behind. -/
def atS (s a n : Int) : Int × Int := if 1 ≤ s ∧ s ≤ 4096 ∧ 0 ≤ a ∧ a < s ∧ 0 ≤ n ∧ n ≤ 1099511627776 then ((a + n) % s, 0) else (0, 1)

theorem at_eq (s a n : Int) (k : Nat) : ring_At.f (k + 6) s a n = some (atS s a n) := by
  unfold ring_At.f atS
  rw [right1]
  by_cases h : 1 ≤ s ∧ s ≤ 4096 ∧ 0 ≤ a ∧ a < s
  · obtain ⟨h1, h2, h3, h4⟩ := h
    by_cases h5 : 0 ≤ n
    · by_cases h6 : n ≤ 1099511627776
      · have e : wrap64 (a + n) = a + n := by unfold wrap64; omega
        have e2 : Int.tmod (a + n) s = (a + n) % s := Int.tmod_eq_emod_of_nonneg (by omega)
        simp only [Option.bind_some]
        rw [if_pos (by simp [h1, h2, h3, h4]), if_neg (by omega), if_neg (by omega), if_neg (by omega), e, e2, if_pos ⟨h1, h2, h3, h4, h5, h6⟩]
      · simp only [Option.bind_some]
        rw [if_pos (by simp [h1, h2, h3, h4]), if_neg (by omega), if_pos (by omega), if_neg (by omega)]
    · simp only [Option.bind_some]
      rw [if_pos (by simp [h1, h2, h3, h4]), if_pos (by omega), if_neg (by omega)]
  · simp only [Option.bind_some]
    rw [if_neg (by simpa using h), if_neg (fun g => h ⟨g.1, g.2.1, g.2.2.1, g.2.2.2.1⟩)]

theorem awake_eq (k : Nat) : counterfoillaw04_awake.f (k + 6) = some true := by
  unfold counterfoillaw04_awake.f
  rw [at_eq]
  simp [atS]

theorem rright (s a : Int) : counterfoilref04_Right.f s a = some (decide (1 ≤ s ∧ s ≤ 4096 ∧ 0 ≤ a ∧ a < s)) := by
  unfold counterfoilref04_Right.f
  by_cases h1 : 1 ≤ s
  · by_cases h2 : s ≤ 4096
    · by_cases h3 : 0 ≤ a
      · rw [if_pos (by omega), if_pos (by omega), if_pos (by omega)]; simp [h1, h2, h3]
      · rw [if_pos (by omega), if_pos (by omega), if_neg (by omega)]; simp [h3]
    · rw [if_pos (by omega), if_neg (by omega)]; simp [h2]
  · rw [if_neg (by omega)]; simp [h1]

theorem rnext (s a : Int) (h1 : 1 ≤ s) (h2 : s ≤ 4096) (h3 : 0 ≤ a) (h4 : a < s) : counterfoilref04_next.f s a = some ((a + 1) % s) := by
  unfold counterfoilref04_next.f
  have e : wrap64 (s - 1) = s - 1 := by unfold wrap64; omega
  have e2 : wrap64 (a + 1) = a + 1 := by unfold wrap64; omega
  rw [e, e2]
  by_cases h : a = s - 1
  · rw [if_pos h, show a + 1 = s by omega, Int.emod_self]
  · rw [if_neg h, Int.emod_eq_of_lt (by omega) (by omega)]

theorem rloop (s n : Int) (h1 : 1 ≤ s) (h2 : s ≤ 4096) (hn : 0 ≤ n) (d : Nat) : ∀ (k : Nat) (a i : Int), 0 ≤ a → a < s → 0 ≤ i → n % s - i = d → d < k →
    counterfoilref04_At.l0 k s n a i = some ((a + d) % s, 0) := by
  have e : Int.tmod n s = n % s := Int.tmod_eq_emod_of_nonneg hn
  have hlt : n % s < s := Int.emod_lt_of_pos n (by omega)
  induction d with
  | zero =>
    intro k a i h3 h4 h5 hd hk
    obtain ⟨k, rfl⟩ : ∃ m, k = m + 1 := ⟨k - 1, by omega⟩
    simp only [counterfoilref04_At.l0]
    rw [if_neg (by omega), e, if_neg (by omega)]
    simp [Int.emod_eq_of_lt h3 h4]
  | succ d ih =>
    intro k a i h3 h4 h5 hd hk
    obtain ⟨k, rfl⟩ : ∃ m, k = m + 1 := ⟨k - 1, by omega⟩
    simp only [counterfoilref04_At.l0]
    rw [if_neg (by omega), e, if_pos (by omega), rnext s a h1 h2 h3 h4]
    simp only [Option.bind_some]
    have e3 : wrap64 (i + 1) = i + 1 := by unfold wrap64; omega
    rw [e3, ih k _ (i + 1) (Int.emod_nonneg _ (by omega)) (Int.emod_lt_of_pos _ (by omega)) (by omega) (by omega) (by omega), Int.emod_add_emod]
    congr 3
    omega

theorem rat_eq (s a n : Int) : counterfoilref04_At.f 5000 s a n = some (atS s a n) := by
  unfold counterfoilref04_At.f atS
  rw [rright]
  by_cases h : 1 ≤ s ∧ s ≤ 4096 ∧ 0 ≤ a ∧ a < s
  · obtain ⟨h1, h2, h3, h4⟩ := h
    simp only [Option.bind_some]
    rw [if_pos (by simp [h1, h2, h3, h4])]
    by_cases h5 : 0 ≤ n
    · rw [if_neg (by omega)]
      by_cases h6 : n ≤ 1099511627776
      · have hm : 0 ≤ n % s := Int.emod_nonneg _ (by omega)
        have hlt : n % s < s := Int.emod_lt_of_pos n (by omega)
        rw [if_pos ⟨h1, h2, h3, h4, h5, h6⟩]
        have e : counterfoilref04_At.j0 5000 s a n (decide (n > 1099511627776)) = counterfoilref04_At.l0 4999 s n a 0 := by
          rw [show (5000 : Nat) = 4999 + 1 from rfl]
          simp only [counterfoilref04_At.j0]
          rw [if_neg (by simp; omega)]
        rw [e, rloop s n h1 h2 h5 (n % s).toNat 4999 a 0 h3 h4 (by omega) (by omega) (by omega), Int.toNat_of_nonneg hm, Int.add_emod_emod]
      · have e : counterfoilref04_At.j0 5000 s a n (decide (n > 1099511627776)) = some (0, 1) := by
          rw [show (5000 : Nat) = 4999 + 1 from rfl]
          simp only [counterfoilref04_At.j0]
          rw [if_pos (by simp; omega)]
        rw [e, if_neg (by omega)]
    · have e : counterfoilref04_At.j0 5000 s a n true = some (0, 1) := by
        rw [show (5000 : Nat) = 4999 + 1 from rfl]
        simp only [counterfoilref04_At.j0, if_true]
      rw [if_pos (by omega), e, if_neg (by omega)]
  · have e : counterfoilref04_At.j0 5000 s a n true = some (0, 1) := by
      rw [show (5000 : Nat) = 4999 + 1 from rfl]
      simp only [counterfoilref04_At.j0, if_true]
    simp only [Option.bind_some]
    rw [if_neg (by simpa using h), e, if_neg (fun g => h ⟨g.1, g.2.1, g.2.2.1, g.2.2.2.1⟩)]

theorem RingAt : counterfoillaw04_RingAt.Pure := by
  intro s a n _ _ _
  refine ⟨5000, ?_⟩
  unfold counterfoillaw04_RingAt.f
  rw [at_eq s a n 4994, rat_eq, awake_eq 4994]
  simp

end Go.Proofs.Ytlemimpbmnbpiaa.Pure
