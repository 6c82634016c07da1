-- PACKED by wip/kit/pack.py: what the law's proof uses of SortCore (printed words and texts of this seat)
import Derived.Tactics
namespace Go.Proofs.Ythdhkoeaadahaaa.SortCore
set_option linter.unusedVariables false
section
variable {α : Type} (lt : α → α → Bool)
structure Weak : Prop where
  asymm : ∀ a b, lt a b = true → lt b a = false
  trans : ∀ a b c, lt b a = false → lt c b = false → lt c a = false
def le (a b : α) : Prop := lt b a = false
def eqv (a b : α) : Bool := !lt a b && !lt b a
def Sorted (xs : List α) : Prop := xs.Pairwise (le lt)
def Same (xs ys : List α) : Prop := ∀ a, xs.filter (eqv lt a) = ys.filter (eqv lt a)
variable {lt}
theorem Weak.irrefl (h : Weak lt) (a : α) : lt a a = false := by
  cases e : lt a a with
  | false => rfl
  | true => have := h.asymm a a e; rw [e] at this; exact this
theorem Weak.refl (h : Weak lt) (a : α) : eqv lt a a = true := by unfold eqv; rw [h.irrefl]; rfl
theorem Weak.le_of_lt (h : Weak lt) {a b : α} (e : lt a b = true) : le lt a b := h.asymm a b e
theorem Weak.le_trans (h : Weak lt) {a b c : α} (h1 : le lt a b) (h2 : le lt b c) : le lt a c := h.trans a b c h1 h2
theorem Weak.lt_of_lt_le (h : Weak lt) {a b c : α} (h1 : lt a b = true) (h2 : le lt b c) : lt a c = true := by
  cases e : lt a c with
  | true => rfl
  | false =>
    have := h.trans b c a h2 e
    rw [h1] at this; cases this
theorem Weak.lt_of_le_lt (h : Weak lt) {a b c : α} (h1 : le lt a b) (h2 : lt b c = true) : lt a c = true := by
  cases e : lt a c with
  | true => rfl
  | false =>
    have := h.trans c a b e h1
    rw [h2] at this; cases this
theorem Same.refl (xs : List α) : Same lt xs xs := fun _ => rfl
theorem Same.symm {xs ys : List α} (h : Same lt xs ys) : Same lt ys xs := fun a => (h a).symm
theorem Same.trans {xs ys zs : List α} (h : Same lt xs ys) (k : Same lt ys zs) : Same lt xs zs := fun a => (h a).trans (k a)
theorem Same.append {xs ys xs' ys' : List α} (h : Same lt xs xs') (k : Same lt ys ys') : Same lt (xs ++ ys) (xs' ++ ys') := fun a => by rw [List.filter_append, List.filter_append, h a, k a]
theorem Same.mem (hw : Weak lt) {xs ys : List α} (h : Same lt xs ys) {z : α} (hz : z ∈ xs) : z ∈ ys := by
  have : z ∈ xs.filter (eqv lt z) := List.mem_filter.2 ⟨hz, hw.refl z⟩
  rw [h z] at this
  exact (List.mem_filter.1 this).1
theorem Same.swap (hw : Weak lt) {xs ys : List α} (h : ∀ x ∈ xs, ∀ y ∈ ys, lt y x = true) : Same lt (xs ++ ys) (ys ++ xs) := by
  intro a
  rw [List.filter_append, List.filter_append]
  by_cases hx : xs.filter (eqv lt a) = []
  · rw [hx, List.nil_append, List.append_nil]
  · obtain ⟨x, hx⟩ := List.exists_mem_of_ne_nil _ hx
    obtain ⟨hx1, hx2⟩ := List.mem_filter.1 hx
    have hy : ys.filter (eqv lt a) = [] := by
      rw [List.filter_eq_nil_iff]
      intro y hy e
      unfold eqv at hx2 e
      simp only [Bool.and_eq_true, Bool.not_eq_true'] at hx2 e
      have h1 := h x hx1 y hy
      have h2 := hw.trans x a y hx2.1 e.2
      rw [h1] at h2; cases h2
    rw [hy, List.nil_append, List.append_nil]
theorem Same.cons {x : α} {xs ys : List α} (h : Same lt (x :: xs) (x :: ys)) : Same lt xs ys := by
  intro a
  have := h a
  rw [List.filter_cons, List.filter_cons] at this
  split at this
  · exact List.tail_eq_of_cons_eq this
  · exact this
theorem Same.nil (hw : Weak lt) {ys : List α} (h : Same lt [] ys) : ys = [] := by
  cases ys with
  | nil => rfl
  | cons y ys => exact absurd (Same.mem hw h.symm (List.mem_cons_self)) (by simp)
theorem unique (hw : Weak lt) : ∀ {xs ys : List α}, Sorted lt xs → Sorted lt ys → Same lt xs ys → xs = ys
  | [], ys, _, _, h => (Same.nil hw h).symm
  | x :: xs, [], _, _, h => by have := Same.nil hw h.symm; exact this
  | x :: xs, y :: ys, hx, hy, h => by
    have h1 : le lt x y := by
      have := Same.mem hw h.symm (z := y) List.mem_cons_self
      rcases List.mem_cons.1 this with e | e
      · rw [e]; exact hw.irrefl x
      · exact (List.pairwise_cons.1 hx).1 y e
    have h2 : le lt y x := by
      have := Same.mem hw h (z := x) List.mem_cons_self
      rcases List.mem_cons.1 this with e | e
      · rw [e]; exact hw.irrefl y
      · exact (List.pairwise_cons.1 hy).1 x e
    have h3 := h x
    rw [List.filter_cons, if_pos (hw.refl x), List.filter_cons, if_pos (by unfold eqv; rw [h1, h2]; rfl)] at h3
    obtain rfl := List.head_eq_of_cons_eq h3
    rw [unique hw (List.pairwise_cons.1 hx).2 (List.pairwise_cons.1 hy).2 h.cons]
variable (lt) in
def ins (x : α) : List α → List α
  | [] => [x]
  | y :: ys => if lt y x = true then y :: ins x ys else x :: y :: ys
variable (lt) in
def isort : List α → List α
  | [] => []
  | x :: xs => ins lt x (isort xs)
theorem ins_mem {x z : α} : ∀ {ys : List α}, z ∈ ins lt x ys → z = x ∨ z ∈ ys
  | [], h => .inl (by simpa [ins] using h)
  | y :: ys, h => by
    unfold ins at h
    split at h
    · rcases List.mem_cons.1 h with e | e
      · exact .inr (e ▸ List.mem_cons_self)
      · rcases ins_mem e with e | e
        · exact .inl e
        · exact .inr (List.mem_cons_of_mem _ e)
    · rcases List.mem_cons.1 h with e | e
      · exact .inl e
      · exact .inr e
theorem ins_sorted (hw : Weak lt) (x : α) : ∀ {ys : List α}, Sorted lt ys → Sorted lt (ins lt x ys)
  | [], _ => List.pairwise_singleton _ _
  | y :: ys, h => by
    obtain ⟨h1, h2⟩ := List.pairwise_cons.1 h
    unfold ins
    split
    · rename_i e
      refine List.pairwise_cons.2 ⟨fun z hz => ?_, ins_sorted hw x h2⟩
      rcases ins_mem hz with rfl | hz
      · exact hw.le_of_lt e
      · exact h1 z hz
    · rename_i e
      have e' : le lt x y := by
        unfold le
        cases h : lt y x with
        | false => rfl
        | true => exact absurd h e
      refine List.pairwise_cons.2 ⟨fun z hz => ?_, h⟩
      rcases List.mem_cons.1 hz with rfl | hz
      · exact e'
      · exact hw.le_trans e' (h1 z hz)
theorem ins_same (hw : Weak lt) (x : α) : ∀ ys : List α, Same lt (ins lt x ys) (x :: ys)
  | [] => Same.refl _
  | y :: ys => by
    unfold ins
    split
    · rename_i e
      have h1 : Same lt (y :: ins lt x ys) (y :: x :: ys) := Same.append (Same.refl [y]) (ins_same hw x ys)
      have h2 : Same lt ([y] ++ [x]) ([x] ++ [y]) := (Same.swap hw (xs := [x]) (ys := [y]) (fun a ha b hb => by rw [List.mem_singleton.1 ha, List.mem_singleton.1 hb]; exact e)).symm
      exact h1.trans (Same.append h2 (Same.refl ys))
    · exact Same.refl _
theorem isort_sorted (hw : Weak lt) : ∀ xs : List α, Sorted lt (isort lt xs)
  | [] => List.Pairwise.nil
  | x :: xs => ins_sorted hw x (isort_sorted hw xs)
theorem isort_same (hw : Weak lt) : ∀ xs : List α, Same lt (isort lt xs) xs
  | [] => Same.refl _
  | x :: xs => (ins_same hw x _).trans (Same.append (Same.refl [x]) (isort_same hw xs))
theorem isort_of (hw : Weak lt) {xs ys : List α} (h1 : Sorted lt ys) (h2 : Same lt ys xs) : ys = isort lt xs := unique hw h1 (isort_sorted hw xs) (h2.trans (isort_same hw xs).symm)
theorem ins_length (x : α) : ∀ ys : List α, (ins lt x ys).length = ys.length + 1
  | [] => rfl
  | y :: ys => by
    unfold ins
    split
    · rw [List.length_cons, ins_length x ys, List.length_cons]
    · rfl
theorem isort_length : ∀ xs : List α, (isort lt xs).length = xs.length
  | [] => rfl
  | x :: xs => by rw [isort, ins_length, isort_length xs]; rfl
theorem sorted_append {xs ys : List α} : Sorted lt (xs ++ ys) ↔ Sorted lt xs ∧ Sorted lt ys ∧ ∀ x ∈ xs, ∀ y ∈ ys, le lt x y := List.pairwise_append
end
end Go.Proofs.Ythdhkoeaadahaaa.SortCore
namespace Go.Proofs.Ythdhkoeaadahaaa.SortCore
set_option linter.unusedVariables false
set_option linter.unusedSimpArgs false
section
variable {α : Type} {lt : α → α → Bool}
theorem isort_id (hw : Weak lt) {xs : List α} (h : Sorted lt xs) : isort lt xs = xs := (isort_of hw h (Same.refl xs)).symm
theorem isort_mem (hw : Weak lt) {xs : List α} {z : α} (h : z ∈ isort lt xs) : z ∈ xs := Same.mem hw (isort_same hw xs) h
theorem ins_front (hw : Weak lt) {x : α} {B1 B2 : List α} (hs : Sorted lt (B1 ++ B2)) (h1 : ∀ b ∈ B1, lt b x = true) (h2 : ∀ b ∈ B2, lt b x = false) : isort lt ([x] ++ (B1 ++ B2)) = B1 ++ x :: B2 := by
  symm
  obtain ⟨s1, s2, s3⟩ := sorted_append.1 hs
  refine isort_of hw ?_ ?_
  · refine sorted_append.2 ⟨s1, List.pairwise_cons.2 ⟨h2, s2⟩, fun l hl r hr => ?_⟩
    rcases List.mem_cons.1 hr with rfl | hr
    · exact hw.le_of_lt (h1 l hl)
    · exact s3 l hl r hr
  · have e : Same lt (B1 ++ [x]) ([x] ++ B1) := (Same.swap hw (xs := [x]) (ys := B1) (fun a ha b hb => by rw [List.mem_singleton.1 ha]; exact h1 b hb)).symm
    have := Same.append e (Same.refl B2)
    simpa using this
theorem ins_back (hw : Weak lt) {y : α} {A1 A2 : List α} (hs : Sorted lt (A1 ++ A2)) (h1 : ∀ a ∈ A1, lt y a = false) (h2 : ∀ a ∈ A2, lt y a = true) : isort lt ((A1 ++ A2) ++ [y]) = A1 ++ y :: A2 := by
  symm
  obtain ⟨s1, s2, s3⟩ := sorted_append.1 hs
  refine isort_of hw ?_ ?_
  · refine sorted_append.2 ⟨s1, List.pairwise_cons.2 ⟨fun a ha => hw.le_of_lt (h2 a ha), s2⟩, fun l hl r hr => ?_⟩
    rcases List.mem_cons.1 hr with rfl | hr
    · exact h1 l hl
    · exact s3 l hl r hr
  · have e : Same lt ([y] ++ A2) (A2 ++ [y]) := (Same.swap hw (xs := A2) (ys := [y]) (fun a ha b hb => by rw [List.mem_singleton.1 hb]; exact h2 a ha)).symm
    have := Same.append (Same.refl A1) e
    simpa using this
theorem isort_split (hw : Weak lt) {A1 A2 B1 B2 : List α} (hA : Sorted lt (A1 ++ A2)) (hB : Sorted lt (B1 ++ B2)) (h1 : ∀ a ∈ A1, ∀ b ∈ B2, lt b a = false) (h2 : ∀ b ∈ B1, ∀ a ∈ A2, lt b a = true) : isort lt ((A1 ++ A2) ++ (B1 ++ B2)) = isort lt (A1 ++ B1) ++ isort lt (A2 ++ B2) := by
  symm
  obtain ⟨a1, a2, a3⟩ := sorted_append.1 hA
  obtain ⟨b1, b2, b3⟩ := sorted_append.1 hB
  refine isort_of hw ?_ ?_
  · refine sorted_append.2 ⟨isort_sorted hw _, isort_sorted hw _, fun x hx y hy => ?_⟩
    rcases List.mem_append.1 (isort_mem hw hx) with hx | hx <;> rcases List.mem_append.1 (isort_mem hw hy) with hy | hy
    · exact a3 x hx y hy
    · exact h1 x hx y hy
    · exact hw.le_of_lt (h2 x hx y hy)
    · exact b3 x hx y hy
  · have e1 := Same.append (isort_same hw (A1 ++ B1)) (isort_same hw (A2 ++ B2))
    have e2 : Same lt (B1 ++ A2) (A2 ++ B1) := (Same.swap hw (xs := A2) (ys := B1) (fun a ha b hb => h2 b hb a ha)).symm
    have e3 := Same.append (Same.append (Same.refl A1) e2) (Same.refl B2)
    refine e1.trans ?_
    simpa using e3
theorem Sorted.le (hw : Weak lt) {A : List α} (hs : Sorted lt A) {i j : Nat} (hij : i ≤ j) (hj : j < A.length) : le lt (A[i]'(by omega)) A[j] := by
  rcases Nat.lt_or_eq_of_le hij with h | h
  · exact List.pairwise_iff_getElem.1 hs i j (by omega) hj h
  · subst h; exact hw.irrefl _
theorem mem_take_get {A : List α} {s : Nat} {a : α} (h : a ∈ A.take s) : ∃ (i : Nat) (hi : i < A.length), i < s ∧ A[i] = a := by
  obtain ⟨i, hi, e⟩ := List.getElem_of_mem h
  rw [List.length_take] at hi
  refine ⟨i, by omega, by omega, ?_⟩
  rw [List.getElem_take] at e
  exact e
theorem mem_drop_get {A : List α} {s : Nat} {a : α} (h : a ∈ A.drop s) : ∃ (i : Nat) (hi : i < A.length), s ≤ i ∧ A[i] = a := by
  obtain ⟨i, hi, e⟩ := List.getElem_of_mem h
  rw [List.length_drop] at hi
  refine ⟨s + i, by omega, by omega, ?_⟩
  rw [List.getElem_drop] at e
  exact e
theorem sym_cut (hw : Weak lt) {A B : List α} (hA : Sorted lt A) (hB : Sorted lt B) (s t : Nat) (hs : s ≤ A.length) (ht : t ≤ B.length)
    (F1 : s = 0 ∨ t = B.length ∨ ∀ (h : s - 1 < A.length) (h' : t < B.length), lt B[t] A[s - 1] = false) (F2 : s = A.length ∨ t = 0 ∨ ∀ (h : s < A.length) (h' : t - 1 < B.length), lt B[t - 1] A[s] = true) :
    isort lt (A ++ B) = isort lt (A.take s ++ B.take t) ++ isort lt (A.drop s ++ B.drop t) := by
  rw [← isort_split hw (by rw [List.take_append_drop]; exact hA) (by rw [List.take_append_drop]; exact hB) ?_ ?_, List.take_append_drop, List.take_append_drop]
  · intro a ha b hb
    obtain ⟨i, hi, h1, rfl⟩ := mem_take_get ha
    obtain ⟨j, hj, h2, rfl⟩ := mem_drop_get hb
    rcases F1 with F1 | F1 | F1
    · omega
    · omega
    · have e1 := hA.le hw (i := i) (j := s - 1) (by omega) (by omega)
      have e2 := hB.le hw (i := t) (j := j) h2 hj
      exact hw.le_trans (hw.le_trans e1 (F1 (by omega) (by omega))) e2
  · intro b hb a ha
    obtain ⟨j, hj, h2, rfl⟩ := mem_take_get hb
    obtain ⟨i, hi, h1, rfl⟩ := mem_drop_get ha
    rcases F2 with F2 | F2 | F2
    · omega
    · omega
    · have e1 := hA.le hw (i := s) (j := i) h1 hi
      have e2 := hB.le hw (i := j) (j := t - 1) (by omega) (by omega)
      exact hw.lt_of_lt_le (hw.lt_of_le_lt e2 (F2 (by omega) (by omega))) e1
theorem front_cut (hw : Weak lt) {x : α} {B : List α} (hB : Sorted lt B) (i : Nat) (hi : i ≤ B.length) (F1 : i = 0 ∨ ∀ (h : i - 1 < B.length), lt B[i - 1] x = true) (F2 : i = B.length ∨ ∀ (h : i < B.length), lt B[i] x = false) : isort lt ([x] ++ B) = B.take i ++ x :: B.drop i := by
  have := ins_front hw (x := x) (B1 := B.take i) (B2 := B.drop i) (by rw [List.take_append_drop]; exact hB) ?_ ?_
  · rw [List.take_append_drop] at this; exact this
  · intro b hb
    obtain ⟨j, hj, h2, rfl⟩ := mem_take_get hb
    rcases F1 with F1 | F1
    · omega
    · exact hw.lt_of_le_lt (hB.le hw (i := j) (j := i - 1) (by omega) (by omega)) (F1 (by omega))
  · intro b hb
    obtain ⟨j, hj, h2, rfl⟩ := mem_drop_get hb
    rcases F2 with F2 | F2
    · omega
    · exact hw.le_trans (F2 (by omega)) (hB.le hw (i := i) (j := j) h2 hj)
theorem back_cut (hw : Weak lt) {y : α} {A : List α} (hA : Sorted lt A) (i : Nat) (hi : i ≤ A.length) (F1 : i = 0 ∨ ∀ (h : i - 1 < A.length), lt y A[i - 1] = false) (F2 : i = A.length ∨ ∀ (h : i < A.length), lt y A[i] = true) : isort lt (A ++ [y]) = A.take i ++ y :: A.drop i := by
  have := ins_back hw (y := y) (A1 := A.take i) (A2 := A.drop i) (by rw [List.take_append_drop]; exact hA) ?_ ?_
  · rw [List.take_append_drop] at this; exact this
  · intro b hb
    obtain ⟨j, hj, h2, rfl⟩ := mem_take_get hb
    rcases F1 with F1 | F1
    · omega
    · exact hw.le_trans (hA.le hw (i := j) (j := i - 1) (by omega) (by omega)) (F1 (by omega))
  · intro b hb
    obtain ⟨j, hj, h2, rfl⟩ := mem_drop_get hb
    rcases F2 with F2 | F2
    · omega
    · exact hw.lt_of_lt_le (F2 (by omega)) (hA.le hw (i := i) (j := j) h2 hj)
inductive Bl (lt : α → α → Bool) (k : Nat) : List α → Prop
  | last {xs : List α} : xs.length ≤ k → Sorted lt xs → Bl lt k xs
  | cons {c xs : List α} : c.length = k → Sorted lt c → Bl lt k xs → Bl lt k (c ++ xs)
theorem Bl.short {k : Nat} {xs : List α} (h : Bl lt k xs) (hl : xs.length ≤ k) : Sorted lt xs := by
  cases h with
  | last _ h => exact h
  | @cons c ys hc hs _ =>
    have : ys = [] := List.eq_nil_of_length_eq_zero (by rw [List.length_append] at hl; omega)
    rw [this, List.append_nil]
    exact hs
theorem Bl.first {k : Nat} {xs : List α} (h : Bl lt k xs) (hl : k ≤ xs.length) : ∃ c ys, xs = c ++ ys ∧ c.length = k ∧ Sorted lt c ∧ Bl lt k ys := by
  cases h with
  | last h0 h => exact ⟨xs, [], by simp, by omega, h, .last (Nat.zero_le _) List.Pairwise.nil⟩
  | cons hc hs h => exact ⟨_, _, rfl, hc, hs, h⟩
end
end Go.Proofs.Ythdhkoeaadahaaa.SortCore
namespace Go.Proofs.Ythdhkoeaadahaaa.SortCore
set_option linter.unusedVariables false
set_option linter.unusedSimpArgs false
section
variable {α : Type} {lt : α → α → Bool}
theorem eqv_iff {a b : α} : eqv lt a b = true ↔ lt a b = false ∧ lt b a = false := by unfold eqv; simp
theorem eqv_trans (hw : Weak lt) {a b c : α} (h : eqv lt a b = true) (k : eqv lt b c = true) : eqv lt a c = true := by
  rw [eqv_iff] at *
  exact ⟨hw.trans c b a k.1 h.1, hw.trans a b c h.2 k.2⟩
variable (lt) in
def keep : List α → List α
  | [] => []
  | [x] => [x]
  | x :: y :: r => if eqv lt x y = true then keep (y :: r) else x :: keep (y :: r)
theorem keep_sub : ∀ xs : List α, (keep lt xs).Sublist xs
  | [] => List.Sublist.refl _
  | [x] => List.Sublist.refl _
  | x :: y :: r => by
    rw [keep]
    split
    · exact (keep_sub (y :: r)).cons _
    · exact (keep_sub (y :: r)).cons_cons _
theorem Sorted.lt_all (hw : Weak lt) {a b : α} {r : List α} (hs : Sorted lt (a :: b :: r)) (he : eqv lt a b = false) : ∀ z ∈ b :: r, lt a z = true := by
  have hab : SortCore.le lt a b := (List.pairwise_cons.1 hs).1 b List.mem_cons_self
  have hlt : lt a b = true := by
    cases e : lt a b with
    | true => rfl
    | false => rw [eqv_iff.2 ⟨e, hab⟩] at he; cases he
  intro z hz
  rcases List.mem_cons.1 hz with rfl | hz
  · exact hlt
  · exact hw.lt_of_lt_le hlt ((List.pairwise_cons.1 (List.pairwise_cons.1 hs).2).1 z hz)
theorem keep_lt (hw : Weak lt) : ∀ {xs : List α}, Sorted lt xs → (keep lt xs).Pairwise (fun a b => lt a b = true)
  | [], _ => List.Pairwise.nil
  | [x], _ => List.pairwise_singleton _ _
  | x :: y :: r, h => by
    rw [keep]
    split
    · exact keep_lt hw (List.pairwise_cons.1 h).2
    · rename_i e
      refine List.pairwise_cons.2 ⟨fun z hz => ?_, keep_lt hw (List.pairwise_cons.1 h).2⟩
      exact Sorted.lt_all hw h (by simpa using e) z ((keep_sub (y :: r)).subset hz)
variable (lt) in
def last (xs : List α) (x : α) : Option α := (xs.filter (eqv lt x)).getLast?
theorem last_append (a b : List α) (x : α) : last lt (a ++ b) x = (last lt b x).or (last lt a x) := by
  unfold last
  rw [List.filter_append, List.getLast?_append]
theorem last_some {xs : List α} {x y : α} (h : last lt xs x = some y) : y ∈ xs ∧ eqv lt x y = true := by
  have := List.mem_of_getLast? h
  exact List.mem_filter.1 this
theorem last_none {xs : List α} {x : α} (h : last lt xs x = none) : ∀ y ∈ xs, eqv lt x y = false := by
  unfold last at h
  rw [List.getLast?_eq_none_iff, List.filter_eq_nil_iff] at h
  intro y hy
  simpa using h y hy
theorem last_of_none {xs : List α} {x : α} (h : ∀ y ∈ xs, eqv lt x y = false) : last lt xs x = none := by
  unfold last
  rw [List.getLast?_eq_none_iff, List.filter_eq_nil_iff]
  intro y hy e
  rw [h y hy] at e; cases e
theorem last_cons (a : α) (xs : List α) (x : α) : last lt (a :: xs) x = (last lt xs x).or (if eqv lt x a = true then some a else none) := by
  have := last_append (lt := lt) [a] xs x
  rw [List.singleton_append] at this
  rw [this]
  congr 1
  unfold last
  by_cases e : eqv lt x a = true
  · rw [if_pos e, List.filter_cons, if_pos e]; rfl
  · rw [if_neg e, List.filter_cons, if_neg e]; rfl
theorem keep_last (hw : Weak lt) (x : α) : ∀ {xs : List α}, Sorted lt xs → last lt (keep lt xs) x = last lt xs x
  | [], _ => rfl
  | [a], _ => rfl
  | a :: b :: r, h => by
    rw [keep]
    have ih := keep_last hw x (List.pairwise_cons.1 h).2
    split
    · rename_i e
      rw [ih, last_cons a (b :: r) x]
      cases hb : last lt (b :: r) x with
      | some z => rfl
      | none =>
        rw [if_neg]
        · rfl
        · intro hx
          have := last_none hb b List.mem_cons_self
          rw [eqv_trans hw hx e] at this; cases this
    · rw [last_cons, last_cons a (b :: r) x, ih]
theorem strict_unique (hw : Weak lt) : ∀ {xs ys : List α}, xs.Pairwise (fun a b => lt a b = true) → ys.Pairwise (fun a b => lt a b = true) → (∀ z, z ∈ xs ↔ z ∈ ys) → xs = ys
  | [], [], _, _, _ => rfl
  | [], y :: ys, _, _, h => absurd ((h y).2 List.mem_cons_self) (by simp)
  | x :: xs, [], _, _, h => absurd ((h x).1 List.mem_cons_self) (by simp)
  | x :: xs, y :: ys, hx, hy, h => by
    obtain ⟨x1, x2⟩ := List.pairwise_cons.1 hx
    obtain ⟨y1, y2⟩ := List.pairwise_cons.1 hy
    have e : x = y := by
      rcases List.mem_cons.1 ((h x).1 List.mem_cons_self) with e | e
      · exact e
      rcases List.mem_cons.1 ((h y).2 List.mem_cons_self) with e2 | e2
      · exact e2.symm
      · have := hw.asymm _ _ (x1 y e2)
        rw [y1 x e] at this; cases this
    subst e
    rw [strict_unique hw x2 y2]
    intro z
    constructor
    · intro hz
      rcases List.mem_cons.1 ((h z).1 (List.mem_cons_of_mem _ hz)) with e | e
      · subst e; have := x1 z hz; rw [hw.irrefl] at this; cases this
      · exact e
    · intro hz
      rcases List.mem_cons.1 ((h z).2 (List.mem_cons_of_mem _ hz)) with e | e
      · subst e; have := y1 z hz; rw [hw.irrefl] at this; cases this
      · exact e
variable (lt) in
def fold (xs : List α) : List α := keep lt (isort lt xs)
theorem Same.last {xs ys : List α} (h : Same lt xs ys) (x : α) : last lt xs x = SortCore.last lt ys x := by
  unfold SortCore.last; rw [h x]
theorem fold_last (hw : Weak lt) (xs : List α) (x : α) : last lt (fold lt xs) x = last lt xs x :=
  (keep_last hw x (isort_sorted hw xs)).trans (Same.last (isort_same hw xs) x)
theorem fold_lt (hw : Weak lt) (xs : List α) : (fold lt xs).Pairwise (fun a b => lt a b = true) := keep_lt hw (isort_sorted hw xs)
theorem strict_last (hw : Weak lt) {xs : List α} (h : xs.Pairwise (fun a b => lt a b = true)) (x : α) : x ∈ xs ↔ last lt xs x = some x := by
  constructor
  · intro hx
    induction xs with
    | nil => simp at hx
    | cons a r ih =>
      obtain ⟨h1, h2⟩ := List.pairwise_cons.1 h
      rw [last_cons]
      rcases List.mem_cons.1 hx with rfl | hx
      · rw [last_of_none, if_pos (hw.refl x)]
        · rfl
        · intro y hy
          unfold eqv
          rw [h1 y hy]; rfl
      · rw [ih h2 hx]; rfl
  · intro h
    exact (last_some h).1
theorem mem_fold (hw : Weak lt) (xs : List α) (x : α) : x ∈ fold lt xs ↔ last lt xs x = some x := by
  rw [strict_last hw (fold_lt hw xs), fold_last hw]
theorem fold_congr (hw : Weak lt) {xs ys : List α} (h : ∀ x, last lt xs x = last lt ys x) : fold lt xs = fold lt ys :=
  strict_unique hw (fold_lt hw xs) (fold_lt hw ys) (fun z => by rw [mem_fold hw, mem_fold hw, h])
theorem fold_strict (hw : Weak lt) {xs : List α} (h : xs.Pairwise (fun a b => lt a b = true)) : fold lt xs = xs :=
  strict_unique hw (fold_lt hw xs) h (fun z => by rw [mem_fold hw, strict_last hw h])
theorem fold_fold (hw : Weak lt) (xs : List α) : fold lt (fold lt xs) = fold lt xs := fold_strict hw (fold_lt hw xs)
theorem fold_append (hw : Weak lt) (a b : List α) : fold lt (fold lt a ++ fold lt b) = fold lt (a ++ b) :=
  fold_congr hw (fun x => by rw [last_append, last_append, fold_last hw, fold_last hw])
theorem ins_perm (x : α) : ∀ ys : List α, (ins lt x ys).Perm (x :: ys)
  | [] => List.Perm.refl _
  | y :: ys => by
    unfold ins
    split
    · exact ((ins_perm x ys).cons y).trans (List.Perm.swap x y ys)
    · exact List.Perm.refl _
theorem isort_perm : ∀ xs : List α, (isort lt xs).Perm xs
  | [] => List.Perm.refl _
  | x :: xs => (ins_perm x _).trans ((isort_perm xs).cons x)
theorem fold_subperm (xs : List α) : ∃ ys : List α, ys.Perm xs ∧ (fold lt xs).Sublist ys := ⟨isort lt xs, isort_perm xs, keep_sub _⟩
theorem fold_length (xs : List α) : (fold lt xs).length ≤ xs.length := by
  have := (keep_sub (lt := lt) (isort lt xs)).length_le
  rw [isort_length] at this
  exact this
end
end Go.Proofs.Ythdhkoeaadahaaa.SortCore
