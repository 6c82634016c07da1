/- What the package line computes, as plain functions over lists of branches: right, placed, up to where two histories are one, ahead, epoch; and that the printed functions come to these. -/
import Derived.Test.YtlkfmmjoiadoiaaPx15
import Derived.Test.YtlkfmmjoiadoiaaPx8
import Derived.Test.YtlkfmmjoiadoiaaEEpoch
namespace Go.Proofs.Ytlkfmmjoiadoiaa.LineCore
open Go.RowKit Go.Proofs.Ytlkfmmjoiadoiaa.P Go.Proofs.YtlkfmmjoiadoiaaW.PrintWords Go.Proofs.YtlkfmmjoiadoiaaW.PrintLast
set_option linter.unusedVariables false

section
variable {α β : Type} {A B g : Nat → Option α} {r : α} {c : Prop} [Decidable c]
theorem Ev.pos (h : c) (hA : Ev A r) : Ev (fun k => if c then A k else B k) r := by simpa only [if_pos h] using hA
theorem Ev.neg (h : ¬ c) (hB : Ev B r) : Ev (fun k => if c then A k else B k) r := by simpa only [if_neg h] using hB
theorem Ev.succ (h : Ev (fun k => g (k + 1)) r) : Ev g r := Ev.step (fun _ => rfl) h
theorem Ev.const {a : Option α} (h : a = some r) : Ev (fun _ => a) r := ⟨0, fun _ _ => h⟩
end

theorem rd_nat (l : List S61) (i : Nat) : rd_T61 l (i : Int) = l.getD i z61 := by unfold rd_T61; rw [Int.toNat_natCast]
theorem drop_cons (l : List S61) {i : Nat} (h : i < l.length) : l.drop i = rd_T61 l (i : Int) :: l.drop (i + 1) := by
  rw [rd_nat, List.drop_eq_getElem_cons h, List.getD_eq_getElem?_getD, List.getElem?_eq_getElem h]
  rfl
theorem wrap_succ {i : Nat} (h : i < 9223372036854775807) : wrap64 ((i : Int) + 1) = ((i + 1 : Nat) : Int) := by unfold wrap64; omega

/-- From an epoch and a place on: epochs rise, places do not fall; all within the numbers. -/
def chain : Int → Int → List S61 → Bool
  | _, _, [] => true
  | e, a, b :: r => decide (e < b.f0 ∧ b.f0 ≤ 1099511627776 ∧ a ≤ b.f1 ∧ b.f1 ≤ 1099511627776) && chain b.f0 b.f1 r
/-- Is a line right? -/
def rightS (l : List S61) : Bool := decide (1 ≤ l.length ∧ l.length ≤ 64 ∧ (rd_T61 l 0).f1 = 0) && chain 0 0 l
/-- Is a place right? -/
def placedS (l : List S61) (s : Int) : Bool := rightS l && decide ((rd_T61 l ((l.length - 1 : Nat) : Int)).f1 ≤ s ∧ s ≤ 1099511627776)

theorem right_loop (l : List S61) (hl : l.length ≤ 64) (d : Nat) : ∀ (i : Nat) (e a : Int), i + d = l.length → Ev (fun k => line_Right.l0 k e a l (l.length : Int) (i : Int)) (chain e a (l.drop i)) := by
  induction d with
  | zero =>
    intro i e a hi
    refine Ev.succ ?_
    simp only [line_Right.l0]
    rw [List.drop_eq_nil_of_le (by omega)]
    exact Ev.neg (by omega) (Ev.now _)
  | succ d ih =>
    intro i e a hi
    refine Ev.succ ?_
    simp only [line_Right.l0]
    rw [drop_cons l (by omega)]
    refine Ev.pos (by omega) (Ev.pos (by omega) (Ev.pos (by omega) ?_))
    by_cases h1 : (rd_T61 l (i : Int)).f0 ≤ e
    · rw [show chain e a (rd_T61 l (i : Int) :: l.drop (i + 1)) = false by simp only [chain, Bool.and_eq_false_iff, decide_eq_false_iff_not]; omega]
      exact Ev.pos h1 (Ev.now _)
    refine Ev.neg h1 ?_
    by_cases h2 : (rd_T61 l (i : Int)).f0 > 1099511627776
    · rw [show chain e a (rd_T61 l (i : Int) :: l.drop (i + 1)) = false by simp only [chain, Bool.and_eq_false_iff, decide_eq_false_iff_not]; omega]
      exact Ev.pos h2 (Ev.now _)
    refine Ev.neg h2 ?_
    by_cases h3 : (rd_T61 l (i : Int)).f1 < a
    · rw [show chain e a (rd_T61 l (i : Int) :: l.drop (i + 1)) = false by simp only [chain, Bool.and_eq_false_iff, decide_eq_false_iff_not]; omega]
      exact Ev.pos h3 (Ev.now _)
    refine Ev.neg h3 ?_
    by_cases h4 : (rd_T61 l (i : Int)).f1 > 1099511627776
    · rw [show chain e a (rd_T61 l (i : Int) :: l.drop (i + 1)) = false by simp only [chain, Bool.and_eq_false_iff, decide_eq_false_iff_not]; omega]
      exact Ev.pos h4 (Ev.now _)
    refine Ev.neg h4 ?_
    rw [show chain e a (rd_T61 l (i : Int) :: l.drop (i + 1)) = chain (rd_T61 l (i : Int)).f0 (rd_T61 l (i : Int)).f1 (l.drop (i + 1)) by
      rw [chain, decide_eq_true (by omega), Bool.true_and]]
    rw [wrap_succ (by omega)]
    exact ih (i + 1) _ _ (by omega)

theorem right_ev (l : List S61) : Ev (fun k => line_Right.f k l) (rightS l) := by
  unfold line_Right.f
  have hj : Ev (fun k => line_Right.j0 k l true) false := by
    refine Ev.succ ?_
    simp only [line_Right.j0, if_true]
    exact Ev.now _
  by_cases h1 : (l.length : Int) < 1
  · rw [show rightS l = false by unfold rightS; rw [Bool.and_eq_false_iff, decide_eq_false_iff_not]; omega]
    exact Ev.pos h1 hj
  refine Ev.neg h1 ?_
  by_cases h2 : (l.length : Int) > 64
  · rw [show rightS l = false by unfold rightS; rw [Bool.and_eq_false_iff, decide_eq_false_iff_not]; omega]
    exact Ev.pos h2 hj
  refine Ev.neg h2 (Ev.pos (by omega) ?_)
  by_cases h3 : (rd_T61 l 0).f1 = 0
  · rw [show ((rd_T61 l 0).f1 != 0) = false by simp [h3], show rightS l = chain 0 0 l by unfold rightS; rw [decide_eq_true (by omega), Bool.true_and]]
    refine Ev.succ ?_
    simp only [line_Right.j0]
    exact Ev.neg (by simp) (right_loop l (by omega) l.length 0 0 0 (by omega))
  · rw [show ((rd_T61 l 0).f1 != 0) = true by simp [h3], show rightS l = false by unfold rightS; rw [Bool.and_eq_false_iff, decide_eq_false_iff_not]; omega]
    exact hj

theorem right_len {l : List S61} (h : rightS l = true) : 1 ≤ l.length ∧ l.length ≤ 64 ∧ (rd_T61 l 0).f1 = 0 ∧ chain 0 0 l = true := by
  unfold rightS at h
  rw [Bool.and_eq_true, decide_eq_true_eq] at h
  exact ⟨h.1.1, h.1.2.1, h.1.2.2, h.2⟩

theorem placed_ev (l : List S61) (s : Int) : Ev (fun k => line_Placed.f k l s) (placedS l s) := by
  unfold line_Placed.f placedS
  refine Ev.bind (right_ev l) ?_
  cases hr : rightS l with
  | false => rw [Bool.false_and]; exact Ev.neg (by simp) (Ev.now _)
  | true =>
    obtain ⟨h1, h2, _, _⟩ := right_len hr
    have ew : wrap64 ((l.length : Int) - 1) = ((l.length - 1 : Nat) : Int) := by unfold wrap64; omega
    rw [ew, Bool.true_and]
    refine Ev.pos rfl (Ev.pos (by omega) (Ev.pos (by omega) ?_))
    by_cases h : s ≥ (rd_T61 l ((l.length - 1 : Nat) : Int)).f1
    · refine Ev.pos h ?_
      rw [show decide ((rd_T61 l ((l.length - 1 : Nat) : Int)).f1 ≤ s ∧ s ≤ 1099511627776) = decide (s ≤ 1099511627776) by
        rw [decide_eq_decide]
        exact ⟨fun z => z.2, fun z => ⟨h, z⟩⟩]
      exact Ev.now _
    · refine Ev.neg h ?_
      rw [show decide ((rd_T61 l ((l.length - 1 : Nat) : Int)).f1 ≤ s ∧ s ≤ 1099511627776) = false from decide_eq_false (fun z => h z.1)]
      exact Ev.now _

/-- The same branch? -/
def eqB (x y : S61) : Bool := (x.f0 == y.f0) && (x.f1 == y.f1)
theorem eqB_iff {x y : S61} : eqB x y = true ↔ x = y := by
  unfold eqB
  rw [Bool.and_eq_true, beq_iff_eq, beq_iff_eq]
  constructor
  · rintro ⟨h1, h2⟩
    cases x; cases y
    simp_all
  · rintro rfl
    exact ⟨rfl, rfl⟩
theorem eqB_self (x : S61) : eqB x x = true := eqB_iff.2 rfl
theorem neB (x y : S61) : (!(x.f0 == y.f0) || (!(x.f1 == y.f1))) = !eqB x y := by unfold eqB; rw [Bool.not_and]

/-- How many branches two lines have in common, from the first on. -/
def lcp : List S61 → List S61 → Nat
  | x :: a, y :: b => if eqB x y = true then lcp a b + 1 else 0
  | _, _ => 0
/-- The least of n and the place of branch p, where there is one. -/
def cutAt (n : Int) (l : List S61) (p : Nat) : Int := if p < l.length then mn n (rd_T61 l (p : Int)).f1 else n
/-- Up to where two histories are one. -/
def commonS (a : List S61) (s : Int) (b : List S61) (t : Int) : Int :=
  if (placedS a s && placedS b t && eqB (rd_T61 a 0) (rd_T61 b 0)) = true then cutAt (cutAt (mn s t) a (lcp a b)) b (lcp a b) else -1

theorem lcp_le : ∀ (a b : List S61), lcp a b ≤ a.length ∧ lcp a b ≤ b.length
  | x :: a, y :: b => by
    have := lcp_le a b
    simp only [lcp, List.length_cons]
    split <;> omega
  | [], _ => by simp [lcp]
  | _ :: _, [] => by simp [lcp]

theorem common_inner (a b : List S61) (p : Nat) (n : Int) : Ev (fun k => line_Common.l1 k (p : Int) n [a, b] (([a, b] : List (List S61)).length : Int) 0) (cutAt (cutAt n a p) b p) := by
  have step : ∀ (l : List S61) (i : Nat) (m r : Int), i < 2 → rd_L2 [a, b] (i : Int) = l → Ev (fun k => line_Common.l1 k (p : Int) (cutAt m l p) [a, b] (([a, b] : List (List S61)).length : Int) ((i + 1 : Nat) : Int)) r → Ev (fun k => line_Common.l1 k (p : Int) m [a, b] (([a, b] : List (List S61)).length : Int) (i : Int)) r := by
    intro l i m r hi hl h
    refine Ev.succ ?_
    simp only [line_Common.l1]
    rw [hl]
    refine Ev.pos (by simp; omega) (Ev.pos (by omega) (Ev.pos (by simp; omega) ?_))
    rw [wrap_succ (by omega)]
    unfold cutAt at h
    by_cases hp : p < l.length
    · rw [if_pos hp] at h
      exact Ev.pos (by omega) (Ev.pos (by omega) h)
    · rw [if_neg hp] at h
      exact Ev.neg (by omega) h
  refine step a 0 n _ (by omega) rfl (step b 1 _ _ (by omega) rfl ?_)
  refine Ev.succ ?_
  simp only [line_Common.l1]
  exact Ev.neg (by simp) (Ev.now _)

theorem common_loop (a : List S61) (s : Int) (b : List S61) (t : Int) (ha : a.length ≤ 64) (d : Nat) : ∀ (i : Nat), lcp (a.drop i) (b.drop i) = d → i ≤ a.length → i ≤ b.length →
    Ev (fun k => line_Common.l0 k (i : Int) a s b t) (cutAt (cutAt (mn s t) a (i + d)) b (i + d)) := by
  have stop : ∀ i : Nat, Ev (fun k => line_Common.j2 k (i : Int) a s b t) (cutAt (cutAt (mn s t) a i) b i) := by
    intro i
    refine Ev.succ ?_
    simp only [line_Common.j2, Option.bind_some]
    exact common_inner a b i _
  induction d with
  | zero =>
    intro i hd hi hj
    refine Ev.succ ?_
    simp only [line_Common.l0]
    by_cases h1 : i < a.length
    · refine Ev.pos (by omega) ?_
      by_cases h2 : i < b.length
      · rw [drop_cons a h1, drop_cons b h2] at hd
        refine Ev.pos (by omega) (Ev.pos (by omega) (Ev.neg ?_ (stop i)))
        intro h
        rw [lcp, if_pos (show eqB _ _ = true from h)] at hd
        omega
      · exact Ev.neg (by omega) (stop i)
    · exact Ev.neg (by omega) (stop i)
  | succ d ih =>
    intro i hd hi hj
    have h1 : i < a.length := by
      rcases Nat.lt_or_ge i a.length with h | h
      · exact h
      · rw [List.drop_eq_nil_of_le h] at hd
        simp [lcp] at hd
    have h2 : i < b.length := by
      rcases Nat.lt_or_ge i b.length with h | h
      · exact h
      · rw [List.drop_eq_nil_of_le h, drop_cons a h1] at hd
        simp [lcp] at hd
    rw [drop_cons a h1, drop_cons b h2, lcp] at hd
    have h3 : eqB (rd_T61 a (i : Int)) (rd_T61 b (i : Int)) = true := by
      by_cases h : eqB (rd_T61 a (i : Int)) (rd_T61 b (i : Int)) = true
      · exact h
      · rw [if_neg h] at hd
        omega
    rw [if_pos h3] at hd
    refine Ev.succ ?_
    simp only [line_Common.l0]
    refine Ev.pos (by omega) (Ev.pos (by omega) (Ev.pos (by omega) (Ev.pos h3 ?_)))
    rw [wrap_succ (by omega), show i + (d + 1) = i + 1 + d by omega]
    exact ih (i + 1) (by omega) (by omega) (by omega)

theorem common_ev (a : List S61) (s : Int) (b : List S61) (t : Int) : Ev (fun k => line_Common.f k a s b t) (commonS a s b t) := by
  have hno : Ev (fun k => line_Common.j0 k true a s b t) (-1) := by
    refine Ev.succ ?_
    simp only [line_Common.j0, if_true]
    exact Ev.now _
  unfold line_Common.f commonS
  refine Ev.bind (placed_ev a s) ?_
  cases ha : placedS a s with
  | false => simp only [Bool.false_and]; exact Ev.neg (by simp) hno
  | true =>
    refine Ev.pos rfl (Ev.bind (placed_ev b t) ?_)
    cases hb : placedS b t with
    | false => simp only [Bool.and_false, Bool.false_and]; exact Ev.neg (by simp) hno
    | true =>
      have la := right_len (Bool.and_eq_true_iff.1 ha).1
      have lb := right_len (Bool.and_eq_true_iff.1 hb).1
      refine Ev.pos rfl (Ev.pos (by omega) (Ev.pos (by omega) ?_))
      rw [neB]
      cases h : eqB (rd_T61 a 0) (rd_T61 b 0) with
      | false => exact hno
      | true =>
        refine Ev.succ ?_
        simp only [line_Common.j0]
        refine Ev.neg (by simp) ?_
        have := common_loop a s b t la.2.1 (lcp a b) 0 (by simp) (by omega) (by omega)
        rw [Nat.zero_add] at this
        exact this

/-- Do all commits behind the first lie behind the second? -/
def aheadS (a : List S61) (s : Int) (b : List S61) (t : Int) : Bool := placedS a s && (commonS a s b t == s)
theorem ahead_ev (a : List S61) (s : Int) (b : List S61) (t : Int) : Ev (fun k => line_Ahead.f k a s b t) (aheadS a s b t) := by
  unfold line_Ahead.f aheadS
  refine Ev.bind (placed_ev a s) ?_
  cases placedS a s with
  | false => exact Ev.neg (by simp) (Ev.now _)
  | true => exact Ev.pos rfl (Ev.bind (common_ev a s b t) (Ev.now _))

/-- The epoch of a commit. -/
def epochS (l : List S61) (s c : Int) : Int := if placedS l s = true then (if c < 1 then 0 else if c > s then 0 else lastOf (backTo l l.length) c) else 0
theorem epoch_ev (l : List S61) (s c : Int) : Ev (fun k => line_Epoch.f k l s c) (epochS l s c) := by
  unfold line_Epoch.f epochS
  refine Ev.bind (placed_ev l s) ?_
  cases placedS l s with
  | false => exact Ev.neg (by simp) (Ev.now _)
  | true =>
    refine Ev.pos rfl ?_
    rw [if_pos rfl]
    by_cases h1 : c < 1
    · refine Ev.pos h1 ?_
      rw [if_pos h1]
      exact Ev.now _
    · refine Ev.neg h1 ?_
      rw [if_neg h1]
      by_cases h2 : c > s
      · refine Ev.pos h2 ?_
        rw [if_pos h2]
        exact Ev.now _
      · refine Ev.neg h2 ?_
        rw [if_neg h2]
        exact Ev.now _

/-- The next epoch of a site. -/
def nextS (n s : Int) : Int := if 0 ≤ n ∧ n ≤ 1099511627774 ∧ 0 ≤ s ∧ s ≤ 1 then (if (n + 1) % 2 = s then n + 2 else n + 1) else 0
theorem next_ev (n s : Int) : Ev (fun k => line_Next.f k n s) (nextS n s) := by
  have hno : Ev (fun k => line_Next.j0 k n s true) 0 := by
    refine Ev.succ ?_
    simp only [line_Next.j0, if_true]
    exact Ev.now _
  unfold line_Next.f nextS
  by_cases h1 : n < 0
  · rw [if_neg (by omega)]; exact Ev.pos h1 hno
  refine Ev.neg h1 ?_
  by_cases h2 : n > 1099511627774
  · rw [if_neg (by omega)]; exact Ev.pos h2 hno
  refine Ev.neg h2 ?_
  by_cases h3 : s < 0
  · rw [if_neg (by omega)]; exact Ev.pos h3 hno
  refine Ev.neg h3 ?_
  by_cases h4 : s > 1
  · rw [if_neg (by omega), decide_eq_true h4]; exact hno
  rw [decide_eq_false h4, if_pos (by omega)]
  have e1 : wrap64 (n + 1) = n + 1 := by unfold wrap64; omega
  have e2 : wrap64 (n + 1 + 1) = n + 2 := by unfold wrap64; omega
  have e3 : Int.tmod (n + 1) 2 = (n + 1) % 2 := Int.tmod_eq_emod_of_nonneg (by omega)
  refine Ev.succ ?_
  simp only [line_Next.j0, e1, e2, e3]
  refine Ev.neg (by simp) ?_
  by_cases h5 : (n + 1) % 2 = s
  · refine Ev.pos h5 ?_
    rw [if_pos h5]; exact Ev.now _
  · refine Ev.neg h5 ?_
    rw [if_neg h5]; exact Ev.now _

theorem awake_ev : Ev (fun k => counterfoillaw11_awake.f k) true := by
  unfold counterfoillaw11_awake.f
  refine Ev.bind (Ev.now _) ?_
  have h1 : rightS [⟨1, 0⟩, ⟨2, 5⟩] = true := by decide +kernel
  have h2 : epochS [⟨1, 0⟩, ⟨2, 5⟩] 8 6 = 2 := by decide +kernel
  have h3 : commonS [⟨1, 0⟩, ⟨2, 5⟩] 8 (List.take 1 [⟨1, 0⟩, ⟨2, 5⟩]) 9 = 5 := by decide +kernel
  have h4 : nextS 2 0 = 3 := by decide +kernel
  refine Ev.bind (right_ev _) ?_
  rw [h1]
  refine Ev.pos rfl (Ev.bind (epoch_ev _ _ _) ?_)
  rw [h2]
  refine Ev.pos rfl (Ev.pos (by simp) (Ev.bind (common_ev _ _ _ _) ?_))
  rw [h3]
  refine Ev.pos rfl (Ev.bind (next_ev _ _) ?_)
  rw [h4]
  exact Ev.now _
end Go.Proofs.Ytlkfmmjoiadoiaa.LineCore
