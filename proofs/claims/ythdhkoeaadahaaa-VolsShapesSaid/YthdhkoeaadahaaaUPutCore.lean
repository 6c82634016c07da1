-- PACKED by wip/kit/pack.py: what the law's proof uses of PutCore (printed words and texts of this seat)
import Derived.Test.YthdhkoeaadahaaaUEVResize
import Derived.Test.YthdhkoeaadahaaaUVolsCore2
namespace Go.Proofs.Ythdhkoeaadahaaa.PutCore
open Go.Proofs.Ythdhkoeaadahaaa.P Go.Proofs.Ythdhkoeaadahaaa.VolsCore
set_option linter.unusedVariables false
def okV (x : S49) : Prop := x.f0 ≤ 255 ∧ 1 ≤ x.f1.length ∧ x.f1.length ≤ 32 ∧ x.f1.any longS = false
theorem bad_iff {last : Int} {x : S49} : badV last x = false ↔ last < x.f0 ∧ okV x := by
  unfold badV okV sizeB
  simp only [Bool.or_eq_false_iff, decide_eq_false_iff_not, Bool.not_eq_false']
  by_cases h : (x.f1.length : Int) ≥ 1
  · rw [if_pos h, decide_eq_true_iff]
    constructor
    · rintro ⟨⟨⟨h1, h2⟩, h3⟩, h4⟩; exact ⟨by omega, by omega, by omega, by omega, h4⟩
    · rintro ⟨h1, h2, h3, h4, h5⟩; exact ⟨⟨⟨by omega, by omega⟩, by omega⟩, h5⟩
  · rw [if_neg h]
    constructor
    · rintro ⟨⟨_, h3⟩, _⟩; simp at h3
    · rintro ⟨h1, h2, h3, h4, h5⟩; omega
theorem rightFrom_iff : ∀ (l : List S49) (last : Int), rightFrom last l = true ↔ (∀ x ∈ l, last < x.f0 ∧ okV x) ∧ l.Pairwise (fun x y => x.f0 < y.f0)
  | [], _ => by simp [rightFrom]
  | y :: r, last => by
    rw [rightFrom, Bool.and_eq_true, Bool.not_eq_true', bad_iff, rightFrom_iff r y.f0, List.pairwise_cons]
    constructor
    · rintro ⟨⟨h1, h2⟩, h3, h4⟩
      refine ⟨fun x hx => ?_, fun x hx => (h3 x hx).1, h4⟩
      rcases List.mem_cons.1 hx with rfl | hx
      · exact ⟨h1, h2⟩
      · have := h3 x hx; exact ⟨by omega, this.2⟩
    · rintro ⟨h1, h2, h3⟩
      exact ⟨h1 y (List.mem_cons_self), fun x hx => ⟨h2 x hx, (h1 x (List.mem_cons_of_mem _ hx)).2⟩, h3⟩
theorem rightV_iff (l : List S49) : rightV l = true ↔ (∀ x ∈ l, 0 < x.f0 ∧ okV x) ∧ l.Pairwise (fun x y => x.f0 < y.f0) ∧ l.length ≤ 4 := by
  unfold rightV
  rw [Bool.and_eq_true, rightFrom_iff, decide_eq_true_iff]
  constructor
  · rintro ⟨⟨h1, h2⟩, h3⟩; exact ⟨h1, h2, by omega⟩
  · rintro ⟨h1, h2, h3⟩; exact ⟨⟨h1, h2⟩, by omega⟩
theorem find_mem {l : List S49} {k : Int} {x : S49} (h : l.find? (fun y => y.f0 == k) = some x) : x ∈ l ∧ x.f0 = k := by
  exact ⟨List.mem_of_find?_eq_some h, by have := List.find?_some h; simpa using this⟩
theorem find_of {l : List S49} (h : l.Pairwise (fun x y => x.f0 < y.f0)) {x : S49} (hx : x ∈ l) : l.find? (fun y => y.f0 == x.f0) = some x := by
  induction l with
  | nil => simp at hx
  | cons y r ih =>
    rw [List.pairwise_cons] at h
    rcases List.mem_cons.1 hx with rfl | hx
    · rw [List.find?_cons_of_pos (by simp)]
    · rw [List.find?_cons_of_neg (by have := h.1 x hx; simp; omega)]
      exact ih h.2 hx
theorem filterMap_same {α β : Type} {f g : α → Option β} : ∀ {l : List α}, (∀ a ∈ l, f a = g a) → l.filterMap f = l.filterMap g
  | [], _ => rfl
  | a :: r, h => by
    rw [List.filterMap_cons, List.filterMap_cons, h a (List.mem_cons_self), filterMap_same (fun b hb => h b (List.mem_cons_of_mem _ hb))]
theorem asc_range : ∀ (d lo : Nat) (m : List S49), m.Pairwise (fun x y => x.f0 < y.f0) → (∀ x ∈ m, (lo : Int) ≤ x.f0 ∧ x.f0 < ((lo + d : Nat) : Int)) →
    (List.range' lo d).filterMap (fun i : Nat => m.find? (fun y => y.f0 == (i : Int))) = m
  | 0, lo, m, hp, hb => by
    cases m with
    | nil => rfl
    | cons x r => have := hb x (List.mem_cons_self); omega
  | d + 1, lo, m, hp, hb => by
    rw [List.range'_succ, List.filterMap_cons]
    cases m with
    | nil =>
      have := asc_range d (lo + 1) [] List.Pairwise.nil (fun x hx => by simp at hx)
      simp
    | cons x r =>
      rw [List.pairwise_cons] at hp
      by_cases hx : x.f0 = (lo : Int)
      · have e1 : (x :: r).find? (fun y => y.f0 == (lo : Int)) = some x := by rw [List.find?_cons_of_pos (by simp [hx])]
        rw [e1]
        have e2 : (List.range' (lo + 1) d).filterMap (fun i : Nat => (x :: r).find? (fun y => y.f0 == (i : Int))) = (List.range' (lo + 1) d).filterMap (fun i : Nat => r.find? (fun y => y.f0 == (i : Int))) := by
          refine filterMap_same (fun i hi => ?_)
          rw [List.mem_range'_1] at hi
          rw [List.find?_cons_of_neg (by simp; omega)]
        show x :: _ = x :: r
        rw [e2, asc_range d (lo + 1) r hp.2 (fun y hy => by have := hp.1 y hy; have := hb y (List.mem_cons_of_mem _ hy); omega)]
      · have hlo := hb x (List.mem_cons_self)
        have e1 : (x :: r).find? (fun y => y.f0 == (lo : Int)) = none := by
          rw [List.find?_eq_none]
          intro y hy
          rcases List.mem_cons.1 hy with rfl | hy
          · simpa using hx
          · have := hp.1 y hy
            simp; omega
        rw [e1]
        exact asc_range d (lo + 1) (x :: r) (List.pairwise_cons.2 hp) (fun y hy => by
          have := hb y hy
          rcases List.mem_cons.1 hy with rfl | hy2
          · omega
          · have := hp.1 y hy2
            omega)
def blocksAt (l : List S49) (k : Int) (n : Nat) : List ByteArray := (List.range n).map (fun b : Nat => (getV l k (b : Int)).1)
def sizeAt (l : List S49) (k : Int) : Nat := match l.find? (fun y => y.f0 == k) with | some x => x.f1.length | none => 0
def putAt (l : List S49) (id : Int) (n : Nat) (k : Nat) : Option S49 :=
  let sz := if (k : Int) = id then n else sizeAt l k
  if sz = 0 then none else some ⟨k, blocksAt l k sz⟩
theorem blocks_none {l : List S49} {k : Int} {n : Nat} (h : l.find? (fun y => y.f0 == k) = none) : blocksAt l k n = List.replicate n ⟨#[]⟩ := by
  unfold blocksAt
  have : (fun b : Nat => (getV l k (b : Int)).1) = fun _ => (⟨#[]⟩ : ByteArray) := by
    funext b
    unfold getV
    rw [h]
  rw [this, List.map_const', List.length_range]
theorem blocks_some {l : List S49} {k : Int} {n : Nat} {x : S49} (h : l.find? (fun y => y.f0 == k) = some x) : blocksAt l k n = sizedB x.f1 n := by
  apply List.ext_getElem?
  intro j
  unfold blocksAt sizedB
  rw [List.getElem?_map]
  by_cases hj : j < n
  · rw [List.getElem?_range hj]
    show some (getV l k (j : Int)).1 = _
    unfold getV
    rw [h]
    by_cases hl : j < x.f1.length
    · rw [List.getElem?_append_left (by rw [List.length_take]; omega), List.getElem?_take, if_pos hj, List.getElem?_eq_getElem hl]
      simp only []
      rw [if_neg (by omega), Int.toNat_natCast, gets9_at x.f1 j hl]
    · rw [List.getElem?_append_right (by rw [List.length_take]; omega), List.getElem?_replicate, if_pos (by rw [List.length_take]; omega)]
      simp only []
      rw [if_pos (by omega)]
  · rw [List.getElem?_eq_none (by simp; omega), List.getElem?_eq_none (by rw [List.length_append, List.length_take, List.length_replicate]; omega)]
    rfl
theorem sized_self (b : List ByteArray) : sizedB b b.length = b := by
  unfold sizedB; rw [List.take_length, Nat.sub_self, List.replicate_zero, List.append_nil]
theorem sized_back (b : List ByteArray) (n : Nat) (h : b.length ≤ n) : sizedB (sizedB b n) b.length = b := by
  unfold sizedB
  rw [List.take_of_length_le h, List.take_left, List.length_append, List.length_replicate, show b.length - (b.length + (n - b.length)) = 0 by omega, List.replicate_zero, List.append_nil]
theorem putAt_other {l : List S49} (hr : rightV l = true) {id : Int} {n k : Nat} (h : (k : Int) ≠ id) : putAt l id n k = l.find? (fun y => y.f0 == (k : Int)) := by
  have hr' := (rightV_iff l).1 hr
  unfold putAt sizeAt
  simp only [if_neg h]
  cases hf : l.find? (fun y => y.f0 == (k : Int)) with
  | none => simp
  | some x =>
    obtain ⟨hx, hk⟩ := find_mem hf
    have := (hr'.1 x hx).2.2.1
    simp only []
    rw [if_neg (by omega), blocks_some hf, sized_self]
    cases x
    simp only at hk ⊢
    rw [hk]
theorem asc_all (m : List S49) (hp : m.Pairwise (fun x y => x.f0 < y.f0)) (hb : ∀ x ∈ m, 1 ≤ x.f0 ∧ x.f0 ≤ 255) : (List.range' 1 255).filterMap (fun i : Nat => m.find? (fun y => y.f0 == (i : Int))) = m :=
  asc_range 255 1 m hp (fun x hx => by have := hb x hx; omega)
def putL (l : List S49) (id : Int) (n : Nat) : List S49 := (List.range' 1 255).filterMap (putAt l id n)
theorem putL_is {l m : List S49} {id : Int} {n : Nat} (hp : m.Pairwise (fun x y => x.f0 < y.f0)) (hb : ∀ x ∈ m, 1 ≤ x.f0 ∧ x.f0 ≤ 255) (h : ∀ k : Nat, 1 ≤ k → k ≤ 255 → putAt l id n k = m.find? (fun y => y.f0 == (k : Int))) : putL l id n = m := by
  unfold putL
  rw [filterMap_same (fun k hk => h k (by rw [List.mem_range'_1] at hk; omega) (by rw [List.mem_range'_1] at hk; omega))]
  exact asc_all m hp hb
theorem has_find {l : List S49} {a : Int} : hasV l a = false ↔ l.find? (fun y => y.f0 == a) = none := by
  unfold hasV
  rw [List.find?_eq_none, List.any_eq_false]
theorem asc_pos {l : List S49} (hp : l.Pairwise (fun x y => x.f0 < y.f0)) (a : Int) : PosV l a (posN l a) := by
  induction l with
  | nil => exact ⟨Nat.le_refl _, fun k hk => by simp [posN] at hk, fun k _ h => by simp at h⟩
  | cons x r ih =>
    rw [List.pairwise_cons] at hp
    obtain ⟨i1, i2, i3⟩ := ih hp.2
    have cons_rd : ∀ k : Nat, rd_T49 (x :: r) ((k + 1 : Nat) : Int) = rd_T49 r (k : Int) := fun k => by
      unfold rd_T49; rw [Int.toNat_natCast, Int.toNat_natCast]; rfl
    by_cases hx : x.f0 < a
    · have e : posN (x :: r) a = posN r a + 1 := by unfold posN; rw [List.filter_cons_of_pos (by simpa using hx), List.length_cons]
      rw [e]
      refine ⟨by rw [List.length_cons]; omega, fun k hk => ?_, fun k hk hl => ?_⟩
      · cases k with
        | zero => exact hx
        | succ k => rw [cons_rd]; exact i2 k (by omega)
      · cases k with
        | zero => omega
        | succ k => rw [cons_rd]; exact i3 k (by omega) (by rw [List.length_cons] at hl; omega)
    · have e : posN (x :: r) a = 0 := by
        unfold posN
        rw [List.filter_cons_of_neg (by simpa using hx)]
        have : r.filter (fun y => decide (y.f0 < a)) = [] := by
          rw [List.filter_eq_nil_iff]
          intro y hy
          have := hp.1 y hy
          simp; omega
        rw [this]; rfl
      rw [e]
      refine ⟨Nat.zero_le _, fun k hk => absurd hk (by omega), fun k hk hl => ?_⟩
      cases k with
      | zero => show a ≤ x.f0; omega
      | succ k =>
        rw [cons_rd, rd49 r k (by rw [List.length_cons] at hl; omega)]
        have := hp.1 _ (List.getElem_mem (show k < r.length by rw [List.length_cons] at hl; omega))
        omega
theorem take_lt {l : List S49} {a : Int} {p : Nat} (h : PosV l a p) : ∀ x ∈ l.take p, x.f0 < a := by
  intro x hx
  obtain ⟨k, hk, rfl⟩ := List.getElem_of_mem hx
  have hk2 : k < p ∧ k < l.length := by rw [List.length_take] at hk; omega
  have := h.2.1 k hk2.1
  rw [rd49 l k hk2.2] at this
  rw [List.getElem_take]
  exact this
theorem drop_ge {l : List S49} {a : Int} {p : Nat} (h : PosV l a p) : ∀ x ∈ l.drop p, a ≤ x.f0 := by
  intro x hx
  obtain ⟨k, hk, rfl⟩ := List.getElem_of_mem hx
  have hk2 : p + k < l.length := by rw [List.length_drop] at hk; omega
  have := h.2.2 (p + k) (by omega) hk2
  rw [rd49 l (p + k) hk2] at this
  rw [List.getElem_drop]
  exact this
theorem right_put {l : List S49} (hr : rightV l = true) (a : Int) (y : S49) (q : Nat) (hq : posN l a ≤ q) (hgt : ∀ x ∈ l.drop q, a < x.f0) (hy : y.f0 = a) (h1 : 1 ≤ a) (hok : okV y) (hlen : (l.take (posN l a) ++ [y] ++ l.drop q).length ≤ 4) : rightV (l.take (posN l a) ++ [y] ++ l.drop q) = true := by
  have h := (rightV_iff l).1 hr
  have hP := asc_pos h.2.1 a
  refine (rightV_iff _).2 ⟨fun x hx => ?_, ?_, hlen⟩
  · rcases List.mem_append.1 hx with hx | hx
    · rcases List.mem_append.1 hx with hx | hx
      · exact h.1 x (List.mem_of_mem_take hx)
      · rw [List.mem_singleton.1 hx]; exact ⟨by omega, hok⟩
    · exact h.1 x (List.mem_of_mem_drop hx)
  · rw [List.append_assoc, List.pairwise_append]
    refine ⟨h.2.1.sublist (List.take_sublist _ _), ?_, fun x hx z hz => ?_⟩
    · rw [List.singleton_append, List.pairwise_cons]
      exact ⟨fun z hz => by rw [hy]; exact hgt z hz, h.2.1.sublist (List.drop_sublist _ _)⟩
    · have h2 := take_lt hP x hx
      rcases List.mem_append.1 hz with hz | hz
      · rw [List.mem_singleton.1 hz, hy]; exact h2
      · have := hgt z hz; omega
theorem find_put {l : List S49} {a : Int} (y : S49) (q : Nat) (hP : PosV l a (posN l a)) (hgt : ∀ x ∈ l.drop q, a < x.f0) (hy : y.f0 = a) (hmid : ∀ x ∈ (l.drop (posN l a)).take (q - posN l a), x.f0 = a) (hq : posN l a ≤ q) (k : Int) : (l.take (posN l a) ++ [y] ++ l.drop q).find? (fun z => z.f0 == k) = if k = a then some y else l.find? (fun z => z.f0 == k) := by
  rw [List.append_assoc, List.find?_append, List.find?_append]
  by_cases hk : k = a
  · rw [if_pos hk]
    have e1 : (l.take (posN l a)).find? (fun z => z.f0 == k) = none := by
      rw [List.find?_eq_none]
      intro x hx
      have := take_lt hP x hx
      simp; omega
    rw [e1, List.find?_cons_of_pos (by simp [hy, hk])]
    rfl
  · rw [if_neg hk, List.find?_cons_of_neg (by simp [hy]; omega), List.find?_nil]
    have e2 : l = l.take (posN l a) ++ ((l.drop (posN l a)).take (q - posN l a) ++ l.drop q) := by
      conv => lhs; rw [← List.take_append_drop (posN l a) l]
      congr 1
      conv => lhs; rw [← List.take_append_drop (q - posN l a) (l.drop (posN l a))]
      congr 1
      rw [List.drop_drop]
      congr 1
      omega
    conv => rhs; rw [e2, List.find?_append, List.find?_append]
    have e3 : ((l.drop (posN l a)).take (q - posN l a)).find? (fun z => z.f0 == k) = none := by
      rw [List.find?_eq_none]
      intro x hx
      have := hmid x hx
      simp; omega
    rw [e3]
theorem gt_ins {l : List S49} (hr : rightV l = true) {a : Int} (hb : hasV l a = false) : ∀ x ∈ l.drop (posN l a), a < x.f0 := by
  intro x hx
  have h1 := drop_ge (asc_pos ((rightV_iff l).1 hr).2.1 a) x hx
  have h2 : x.f0 ≠ a := fun he => by
    unfold hasV at hb
    rw [List.any_eq_false] at hb
    exact hb x (List.mem_of_mem_drop hx) (beq_iff_eq.2 he)
  omega
theorem at_pos {l : List S49} (hr : rightV l = true) {a : Int} (hb : hasV l a = true) : ∃ h : posN l a < l.length, (l[posN l a]).f0 = a := by
  obtain ⟨h1, h2⟩ := has_lt (asc_of hr).1 hb
  rw [rd49 l _ h1] at h2
  exact ⟨h1, h2⟩
theorem gt_set {l : List S49} (hr : rightV l = true) {a : Int} (hb : hasV l a = true) : ∀ x ∈ l.drop (posN l a + 1), a < x.f0 := by
  obtain ⟨h1, h2⟩ := at_pos hr hb
  intro x hx
  obtain ⟨k, hk, rfl⟩ := List.getElem_of_mem hx
  rw [List.length_drop] at hk
  rw [List.getElem_drop]
  have := List.pairwise_iff_getElem.1 ((rightV_iff l).1 hr).2.1 (posN l a) (posN l a + 1 + k) h1 (by omega) (by omega)
  omega
theorem mid_set {l : List S49} (hr : rightV l = true) {a : Int} (hb : hasV l a = true) : ∀ x ∈ (l.drop (posN l a)).take (posN l a + 1 - posN l a), x.f0 = a := by
  obtain ⟨h1, h2⟩ := at_pos hr hb
  intro x hx
  rw [show posN l a + 1 - posN l a = 1 by omega, List.drop_eq_getElem_cons h1] at hx
  rw [List.take_succ_cons, List.take_zero, List.mem_singleton] at hx
  rw [hx]; exact h2
theorem long_rep (n : Nat) : (List.replicate n (⟨#[]⟩ : ByteArray)).any longS = false := by
  rw [List.any_eq_false]
  intro x hx
  rw [(List.mem_replicate.1 hx).2]
  decide
theorem ok_new {a n : Int} (h2 : a ≤ 255) (hs : sizeB n = true) : okV (newV a n) := by
  have hn : 1 ≤ n ∧ n ≤ 32 := by
    unfold sizeB at hs
    by_cases h : n ≥ 1
    · rw [if_pos h] at hs; have := of_decide_eq_true hs; omega
    · rw [if_neg h] at hs; cases hs
  unfold okV newV
  simp only [List.length_replicate]
  exact ⟨h2, by omega, by omega, long_rep _⟩
theorem right_ins {l : List S49} (hr : rightV l = true) {a n : Int} (hb : hasV l a = false) (h1 : 1 ≤ a) (h2 : a ≤ 255) (hs : sizeB n = true) (hl : ¬ 4 ≤ l.length) : rightV (insV l (posN l a) (newV a n)) = true :=
  right_put hr a _ _ (Nat.le_refl _) (gt_ins hr hb) rfl h1 (ok_new h2 hs) (by simp; omega)
theorem find_ins {l : List S49} (hr : rightV l = true) {a n : Int} (hb : hasV l a = false) (k : Int) : (insV l (posN l a) (newV a n)).find? (fun z => z.f0 == k) = if k = a then some (newV a n) else l.find? (fun z => z.f0 == k) :=
  find_put _ _ (asc_pos ((rightV_iff l).1 hr).2.1 a) (gt_ins hr hb) rfl (fun x hx => by rw [Nat.sub_self, List.take_zero] at hx; simp at hx) (Nat.le_refl _) k
theorem set_split {l : List S49} {p : Nat} (h : p < l.length) (y : S49) : l.set p y = l.take p ++ [y] ++ l.drop (p + 1) := by
  rw [List.set_eq_take_append_cons_drop, if_pos h, List.append_assoc]; rfl
theorem res_split {l : List S49} (hr : rightV l = true) {a : Int} (hb : hasV l a = true) (n : Int) : resV l (posN l a) n = l.take (posN l a) ++ [⟨a, sizedB (rd_T49 l (posN l a : Int)).f1 n.toNat⟩] ++ l.drop (posN l a + 1) := by
  obtain ⟨h1, h2⟩ := has_lt (asc_of hr).1 hb
  unfold resV
  rw [set_split h1, h2]
theorem sized_long (b : List ByteArray) (n : Nat) (h : b.any longS = false) : (sizedB b n).any longS = false := by
  unfold sizedB
  rw [List.any_append, long_rep, Bool.or_false, List.any_eq_false]
  rw [List.any_eq_false] at h
  exact fun x hx => h x (List.mem_of_mem_take hx)
theorem right_res {l : List S49} (hr : rightV l = true) {a : Int} (hb : hasV l a = true) {n : Int} (hs : sizeB n = true) : rightV (resV l (posN l a) n) = true := by
  obtain ⟨h1, h2⟩ := at_pos hr hb
  have hR := (rightV_iff l).1 hr
  have h3 := hR.1 _ (List.getElem_mem h1)
  have hn : 1 ≤ n ∧ n ≤ 32 := by
    unfold sizeB at hs
    by_cases h : n ≥ 1
    · rw [if_pos h] at hs; have := of_decide_eq_true hs; omega
    · rw [if_neg h] at hs; cases hs
  rw [res_split hr hb]
  refine right_put hr a _ _ (by omega) (gt_set hr hb) rfl (by omega) ?_ ?_
  · rw [rd49 l _ h1]
    unfold okV
    simp only [sized_len]
    exact ⟨by have := h3.2.1; omega, by omega, by omega, sized_long _ _ h3.2.2.2.2⟩
  · have := hR.2.2
    simp
    omega
theorem find_res {l : List S49} (hr : rightV l = true) {a : Int} (hb : hasV l a = true) (n k : Int) : (resV l (posN l a) n).find? (fun z => z.f0 == k) = if k = a then some ⟨a, sizedB (rd_T49 l (posN l a : Int)).f1 n.toNat⟩ else l.find? (fun z => z.f0 == k) := by
  rw [res_split hr hb]
  exact find_put _ _ (asc_pos ((rightV_iff l).1 hr).2.1 a) (gt_set hr hb) rfl (mid_set hr hb) (by omega) k
theorem find_at {l : List S49} (hr : rightV l = true) {a : Int} (hb : hasV l a = true) : l.find? (fun z => z.f0 == a) = some (rd_T49 l (posN l a : Int)) := by
  obtain ⟨h1, h2⟩ := at_pos hr hb
  have := find_of ((rightV_iff l).1 hr).2.1 (List.getElem_mem h1)
  rw [h2] at this
  rw [rd49 l _ h1]
  exact this
theorem find_del {l : List S49} (hr : rightV l = true) {a : Int} (hb : hasV l a = true) (k : Int) : (delV l (posN l a)).find? (fun z => z.f0 == k) = if k = a then none else l.find? (fun z => z.f0 == k) := by
  obtain ⟨h1, h2⟩ := at_pos hr hb
  unfold delV
  by_cases hk : k = a
  · rw [if_pos hk, List.find?_eq_none]
    intro x hx
    rcases List.mem_append.1 hx with hx | hx
    · have := take_lt (asc_pos ((rightV_iff l).1 hr).2.1 a) x hx
      simp; omega
    · have := gt_set hr hb x hx
      simp; omega
  · rw [if_neg hk]
    have e : l = l.take (posN l a) ++ (l[posN l a] :: l.drop (posN l a + 1)) := by
      conv => lhs; rw [← List.take_append_drop (posN l a) l, List.drop_eq_getElem_cons h1]
    conv => rhs; rw [e]
    rw [List.find?_append, List.find?_append, List.find?_cons_of_neg (by simp; omega)]
theorem right_del {l : List S49} (hr : rightV l = true) (p : Nat) : rightV (delV l p) = true := by
  have h := (rightV_iff l).1 hr
  have hs : (delV l p).Sublist l := by
    unfold delV
    conv => rhs; rw [← List.take_append_drop p l]
    refine List.Sublist.append_left ?_ _
    rw [← List.drop_drop]
    exact List.drop_sublist _ _
  exact (rightV_iff _).2 ⟨fun x hx => h.1 x (hs.subset hx), h.2.1.sublist hs, Nat.le_trans hs.length_le h.2.2⟩
theorem bounds_of {m : List S49} (h : rightV m = true) : ∀ x ∈ m, 1 ≤ x.f0 ∧ x.f0 ≤ 255 := fun x hx => by
  have := ((rightV_iff m).1 h).1 x hx
  exact ⟨by omega, this.2.1⟩
theorem add_put {l : List S49} (hr : rightV l = true) {a n : Int} (hb : hasV l a = false) (h1 : 1 ≤ a) (h2 : a ≤ 255) (hs : sizeB n = true) (hl : ¬ 4 ≤ l.length) : putL l a n.toNat = insV l (posN l a) (newV a n) := by
  have hm := right_ins hr hb h1 h2 hs hl
  have hn : 1 ≤ n := by
    unfold sizeB at hs
    by_cases h : n ≥ 1
    · exact h
    · rw [if_neg h] at hs; cases hs
  refine putL_is ((rightV_iff _).1 hm).2.1 (bounds_of hm) (fun k h3 h4 => ?_)
  rw [find_ins hr hb]
  by_cases hk : (k : Int) = a
  · rw [if_pos hk]
    unfold putAt
    simp only [if_pos hk]
    rw [if_neg (by omega), blocks_none (by rw [hk]; exact has_find.1 hb)]
    unfold newV
    rw [hk]
  · rw [if_neg hk]
    exact putAt_other hr hk
theorem res_put {l : List S49} (hr : rightV l = true) {a n : Int} (hb : hasV l a = true) (hs : sizeB n = true) : putL l a n.toNat = resV l (posN l a) n := by
  have hm := right_res hr hb hs
  have hn : 1 ≤ n := by
    unfold sizeB at hs
    by_cases h : n ≥ 1
    · exact h
    · rw [if_neg h] at hs; cases hs
  refine putL_is ((rightV_iff _).1 hm).2.1 (bounds_of hm) (fun k h3 h4 => ?_)
  rw [find_res hr hb]
  by_cases hk : (k : Int) = a
  · rw [if_pos hk]
    unfold putAt
    simp only [if_pos hk]
    rw [if_neg (by omega), blocks_some (by rw [hk]; exact find_at hr hb), hk]
  · rw [if_neg hk]
    exact putAt_other hr hk
theorem del_put {l : List S49} (hr : rightV l = true) {a : Int} (hb : hasV l a = true) : putL l a 0 = delV l (posN l a) := by
  have hm := right_del hr (posN l a)
  refine putL_is ((rightV_iff _).1 hm).2.1 (bounds_of hm) (fun k h3 h4 => ?_)
  rw [find_del hr hb]
  by_cases hk : (k : Int) = a
  · rw [if_pos hk]
    unfold putAt
    simp only [if_pos hk]
    rfl
  · rw [if_neg hk]
    exact putAt_other hr hk
end Go.Proofs.Ythdhkoeaadahaaa.PutCore
