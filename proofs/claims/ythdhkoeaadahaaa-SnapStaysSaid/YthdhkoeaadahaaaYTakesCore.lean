-- PACKED by wip/kit/pack.py: what the law's proof uses of TakesCore (printed words and texts of this seat)
import Derived.Test.YthdhkoeaadahaaaYVolsCore2
import Derived.Test.YthdhkoeaadahaaaYPx78
import Derived.Test.YthdhkoeaadahaaaYFoldBase
import Derived.Test.YthdhkoeaadahaaaYPx58
import Derived.Test.YthdhkoeaadahaaaYNewCore
namespace Go.Proofs.Ythdhkoeaadahaaa.VolsCore
open Go.RowKit Go.Proofs.Ythdhkoeaadahaaa.P Go.Proofs.YthdhkoeaadahaaaW.PrintWords Go.Proofs.YthdhkoeaadahaaaW.PrintLast
set_option linter.unusedVariables false
def pickV (l : List S49) : List S124 → List S74 → List S74 × Int
  | [], o => (o, 0)
  | m :: r, o => if (getV l m.f0 m.f1).2 = 0 then pickV l r (o ++ [⟨m.f0, m.f1, (getV l m.f0 m.f1).1⟩]) else ([], (getV l m.f0 m.f1).2)
def pickR (l : List S49) (ms : List S124) : List S74 × Int := if rightV l = true then pickV l ms [] else ([], 1)
theorem drop124 (l : List S124) {i : Nat} (h : i < l.length) : l.drop i = rd_T124 l (i : Int) :: l.drop (i + 1) := by
  unfold rd_T124
  rw [List.drop_eq_getElem_cons h, Int.toNat_natCast, List.getD_eq_getElem?_getD, List.getElem?_eq_getElem h, Option.getD_some]
theorem pick_ev (l : List S49) (ms : List S124) (h : ms.length ≤ 10000) : Ev (fun k => fold_Pick.f k l ms) (pickR l ms) := by
  have loop : rightV l = true → ∀ (d i : Nat) (o : List S74), i + d = ms.length → o.length ≤ i → Ev (fun k => fold_Pick.l0 k l o ms (ms.length : Int) (i : Int)) (pickV l (ms.drop i) o) := by
    intro hr d
    induction d with
    | zero =>
      intro i o hi ho
      refine Ev.succ ?_
      simp only [fold_Pick.l0]
      rw [List.drop_eq_nil_of_le (by omega)]
      exact Ev.neg (by omega) (Ev.now _)
    | succ d ih =>
      intro i o hi ho
      have hg := vget_ev l (rd_T124 ms (i : Int)).f0 (rd_T124 ms (i : Int)).f1
      rw [if_pos hr] at hg
      refine Ev.succ ?_
      simp only [fold_Pick.l0]
      rw [wrap_succ (by omega), drop124 ms (i := i) (by omega), pickV]
      refine Ev.pos (by omega) (Ev.pos (by omega) (Ev.pos (by omega) (Ev.bind hg ?_)))
      by_cases hz : (getV l (rd_T124 ms (i : Int)).f0 (rd_T124 ms (i : Int)).f1).2 = 0
      · rw [if_pos hz]
        exact Ev.pos hz (Ev.pos (by omega) (ih (i + 1) _ (by omega) (by simp; omega)))
      · rw [if_neg hz]
        exact Ev.neg hz (Ev.now _)
  unfold fold_Pick.f pickR
  refine Ev.bind (Ev.const (show vols_Right.f l = some (rightV l) from rfl)) ?_
  cases hr : rightV l with
  | true =>
    have := loop hr ms.length 0 [] (by omega) (by simp)
    rw [List.drop_zero] at this
    rw [if_pos rfl]
    exact Ev.pos rfl this
  | false =>
    rw [if_neg (by simp)]
    exact Ev.neg (by simp) (Ev.now _)
theorem pickV_length (l : List S49) : ∀ (ms : List S124) (o : List S74), (pickV l ms o).1.length ≤ o.length + ms.length
  | [], o => by simp [pickV]
  | m :: r, o => by
    rw [pickV]
    split
    · have := pickV_length l r (o ++ [⟨m.f0, m.f1, (getV l m.f0 m.f1).1⟩])
      rw [List.length_append, List.length_singleton] at this
      rw [List.length_cons]; omega
    · simp
theorem pickR_length (l : List S49) (ms : List S124) : (pickR l ms).1.length ≤ ms.length := by
  unfold pickR
  split
  · have := pickV_length l ms []
    simpa using this
  · simp
end Go.Proofs.Ythdhkoeaadahaaa.VolsCore
namespace Go.Proofs.Ythdhkoeaadahaaa.FoldCore
open Go.RowKit Go.Proofs.Ythdhkoeaadahaaa.P Go.Proofs.YthdhkoeaadahaaaW.PrintWords Go.Proofs.YthdhkoeaadahaaaW.PrintLast Go.Proofs.Ythdhkoeaadahaaa.SortCore
set_option linter.unusedVariables false
def markOf (x : S74) : S124 := ⟨x.f0, x.f1⟩
theorem drop_rd74 (l : List S74) {i : Nat} (h : i < l.length) : l.drop i = rd_T74 l (i : Int) :: l.drop (i + 1) := by
  rw [rdj l i h]; exact List.drop_eq_getElem_cons h
theorem marks_ev (l : List S74) (h : l.length ≤ 10000) : Ev (fun k => fold_Marks.f k l) ((foldW l).map markOf) := by
  have hlen := foldW_length l
  have loop : ∀ (d i : Nat) (o : List S124), i + d = (foldW l).length → o.length = i → Ev (fun k => fold_Marks.l0 k o (foldW l) ((foldW l).length : Int) (i : Int)) (o ++ ((foldW l).drop i).map markOf) := by
    intro d
    induction d with
    | zero =>
      intro i o hi ho
      refine Ev.succ ?_
      simp only [fold_Marks.l0]
      rw [List.drop_eq_nil_of_le (by omega), List.map_nil, List.append_nil]
      exact Ev.neg (by omega) (Ev.now _)
    | succ d ih =>
      intro i o hi ho
      refine Ev.succ ?_
      simp only [fold_Marks.l0]
      rw [wrap_succ (by omega)]
      have := ih (i + 1) (o ++ [markOf (rd_T74 (foldW l) (i : Int))]) (by omega) (by simp; omega)
      rw [List.append_assoc, List.singleton_append, ← List.map_cons, ← drop_rd74 _ (by omega)] at this
      exact Ev.pos (by omega) (Ev.pos (by omega) (Ev.pos (by omega) (Ev.pos (by omega) this)))
  unfold fold_Marks.f
  refine Ev.bind (fold_ev l h) ?_
  have := loop (foldW l).length 0 [] (by omega) rfl
  rw [List.drop_zero, List.nil_append] at this
  exact this
end Go.Proofs.Ythdhkoeaadahaaa.FoldCore
namespace Go.Proofs.Ythdhkoeaadahaaa.VolsCore
open Go.RowKit Go.Proofs.Ythdhkoeaadahaaa.P Go.Proofs.YthdhkoeaadahaaaW.PrintWords Go.Proofs.YthdhkoeaadahaaaW.PrintLast Go.Proofs.Ythdhkoeaadahaaa.SortCore
set_option linter.unusedVariables false
theorem lastQ_last (v b : Int) (s : ByteArray) (ws : List S74) : lastQ ws v b = (last ltW ws ⟨v, b, s⟩).map (fun x => x.f2) := by
  have key : ∀ n : Nat, ∀ ws : List S74, ws.length = n → lastQ ws v b = (last ltW ws ⟨v, b, s⟩).map (fun x => x.f2) := by
    intro n
    induction n with
    | zero =>
      intro ws h
      obtain rfl := List.eq_nil_of_length_eq_zero h
      rfl
    | succ n ih =>
      intro ws h
      rcases List.eq_nil_or_concat ws with e | ⟨r, x, e⟩
      · subst e; simp at h
      · rw [List.concat_eq_append] at e
        subst e
        rw [lastQ_snoc, last_append, last_cons]
        have hr := ih r (by simpa using h)
        by_cases hx : x.f0 = v ∧ x.f1 = b
        · rw [if_pos hx, if_pos (FoldCore.eqvW.2 ⟨hx.1.symm, hx.2.symm⟩)]
          rfl
        · rw [if_neg hx, if_neg (fun e => hx ⟨(FoldCore.eqvW.1 e).1.symm, (FoldCore.eqvW.1 e).2.symm⟩), hr]
          rfl
  exact key _ ws rfl
theorem lastQ_fold (ws : List S74) (v b : Int) : lastQ (foldW ws) v b = lastQ ws v b := by
  rw [lastQ_last v b ByteArray.empty, lastQ_last v b ByteArray.empty]
  exact congrArg _ (fold_last weakW ws _)
theorem checkL_ok : ∀ (l : List S49) (ws : List S74), (∀ x ∈ ws, (getV l x.f0 x.f1).2 = 0 ∧ x.f2.size ≤ 8) → checkL l ws = 0
  | _, [], _ => rfl
  | l, x :: r, h => by
    have hx := h x List.mem_cons_self
    have e : checkW l x = 0 := by
      unfold checkW
      rw [if_neg (Decidable.not_not.2 hx.1), if_neg (by omega)]
    rw [checkL, if_neg (Decidable.not_not.2 e)]
    exact checkL_ok l r (fun y hy => h y (List.mem_cons_of_mem _ hy))
theorem checkV_ok {l : List S49} {ws : List S74} (hr : rightV l = true) (h : ∀ x ∈ ws, (getV l x.f0 x.f1).2 = 0 ∧ x.f2.size ≤ 8) : checkV l ws = 0 := by
  unfold checkV
  rw [if_pos hr]
  exact checkL_ok l ws h
theorem check_pos {l : List S49} {ws : List S74} (h : checkL l ws = 0) : ∀ x ∈ ws, 0 ≤ x.f1 := fun x hx => by
  obtain ⟨_, _, h0, _⟩ := getE_some (checkL_all l ws h x hx).1
  exact h0
end Go.Proofs.Ythdhkoeaadahaaa.VolsCore
namespace Go.Proofs.Ythdhkoeaadahaaa.VolsCore
open Go.RowKit Go.Proofs.Ythdhkoeaadahaaa.P Go.Proofs.YthdhkoeaadahaaaW.PrintWords Go.Proofs.YthdhkoeaadahaaaW.PrintLast Go.Proofs.Ythdhkoeaadahaaa.SortCore
set_option linter.unusedVariables false
def heldV (l : List S49) (m : S124) : S74 := ⟨m.f0, m.f1, (getV l m.f0 m.f1).1⟩
theorem pickV_all (l : List S49) : ∀ (ms : List S124) (o : List S74), (∀ m ∈ ms, (getV l m.f0 m.f1).2 = 0) → pickV l ms o = (o ++ ms.map (heldV l), 0)
  | [], o, _ => by simp [pickV]
  | m :: r, o, h => by
    rw [pickV, if_pos (h m List.mem_cons_self), pickV_all l r _ (fun y hy => h y (List.mem_cons_of_mem _ hy))]
    simp [heldV]
theorem rightFrom_long : ∀ (l : List S49) (last : Int), rightFrom last l = true → ∀ x ∈ l, x.f1.any longS = false
  | [], _, _, x, hx => by simp at hx
  | y :: r, last, h, x, hx => by
    rw [rightFrom, Bool.and_eq_true] at h
    rcases List.mem_cons.1 hx with rfl | hx
    · have h1 := h.1
      unfold badV at h1
      simp only [Bool.not_or, Bool.and_eq_true, Bool.not_eq_true'] at h1
      exact h1.2
    · exact rightFrom_long r _ h.2 x hx
theorem getV_size {l : List S49} (hr : rightV l = true) (v b : Int) : (getV l v b).1.size ≤ 8 := by
  have key : ∀ l : List S49, (∀ x ∈ l, x.f1.any longS = false) → (getV l v b).1.size ≤ 8 := by
    intro l
    induction l with
    | nil => intro _; exact (show ((⟨#[]⟩ : ByteArray).size ≤ 8) from by decide)
    | cons x r ih =>
      intro h
      by_cases hx : x.f0 = v
      · rw [getV_cons_pos hx]
        by_cases hb : b < 0 ∨ b ≥ (x.f1.length : Int)
        · rw [if_pos hb]; exact (show ((⟨#[]⟩ : ByteArray).size ≤ 8) from by decide)
        · rw [if_neg hb]
          show (gets9 x.f1 b.toNat).size ≤ 8
          rw [gets9_at _ _ (by omega)]
          have := List.any_eq_false.1 (h x List.mem_cons_self) (x.f1[b.toNat]'(by omega)) (List.getElem_mem _)
          unfold longS at this
          simp at this
          omega
      · rw [getV_cons_neg hx]
        exact ih (fun y hy => h y (List.mem_cons_of_mem _ hy))
  unfold rightV at hr
  rw [Bool.and_eq_true] at hr
  exact key l (rightFrom_long l 0 hr.1)
theorem lastQ_held (l : List S49) (v b : Int) : ∀ ms : List S124, lastQ (ms.map (heldV l)) v b = if ∃ m ∈ ms, m.f0 = v ∧ m.f1 = b then some (getV l v b).1 else none := by
  have key : ∀ n : Nat, ∀ ms : List S124, ms.length = n → lastQ (ms.map (heldV l)) v b = if ∃ m ∈ ms, m.f0 = v ∧ m.f1 = b then some (getV l v b).1 else none := by
    intro n
    induction n with
    | zero =>
      intro ms h
      obtain rfl := List.eq_nil_of_length_eq_zero h
      rw [if_neg (by simp)]
      rfl
    | succ n ih =>
      intro ms h
      rcases List.eq_nil_or_concat ms with e | ⟨r, x, e⟩
      · subst e; simp at h
      · rw [List.concat_eq_append] at e
        subst e
        rw [List.map_append, List.map_singleton, lastQ_snoc]
        have hr := ih r (by simpa using h)
        by_cases hx : x.f0 = v ∧ x.f1 = b
        · rw [if_pos (show (heldV l x).f0 = v ∧ (heldV l x).f1 = b from hx), if_pos ⟨x, by simp, hx⟩]
          show some (getV l x.f0 x.f1).1 = _
          rw [hx.1, hx.2]
        · rw [if_neg (show ¬ ((heldV l x).f0 = v ∧ (heldV l x).f1 = b) from hx), hr]
          by_cases he : ∃ m ∈ r, m.f0 = v ∧ m.f1 = b
          · obtain ⟨m, hm, h2⟩ := he
            rw [if_pos ⟨m, hm, h2⟩, if_pos ⟨m, List.mem_append_left _ hm, h2⟩]
          · rw [if_neg he, if_neg]
            rintro ⟨m, hm, h2⟩
            rcases List.mem_append.1 hm with hm | hm
            · exact he ⟨m, hm, h2⟩
            · rw [List.mem_singleton.1 hm] at h2; exact hx h2
  exact fun ms => key _ ms rfl
theorem getV_mem : ∀ {l : List S49} (_ : l.Pairwise (fun x y => x.f0 ≠ y.f0)) {y : S49} (_ : y ∈ l) {j : Nat} (_ : j < y.f1.length), getV l y.f0 (j : Int) = (gets9 y.f1 j, 0)
  | x :: r, hid, y, hy, j, hj => by
    obtain ⟨h1, h2⟩ := List.pairwise_cons.1 hid
    rcases List.mem_cons.1 hy with rfl | hy
    · rw [getV_cons_pos rfl, if_neg (by omega), Int.toNat_natCast]
    · rw [getV_cons_neg (h1 y hy)]
      exact getV_mem h2 hy hj
theorem marks_cover (ws : List S74) (v b : Int) (h : lastQ ws v b ≠ none) : ∃ m ∈ (foldW ws).map FoldCore.markOf, m.f0 = v ∧ m.f1 = b := by
  rw [← lastQ_fold, lastQ_last v b ByteArray.empty] at h
  cases hq : last ltW (foldW ws) ⟨v, b, ByteArray.empty⟩ with
  | none => rw [hq] at h; exact absurd rfl h
  | some x =>
    obtain ⟨h1, h2⟩ := last_some hq
    have := FoldCore.eqvW.1 h2
    exact ⟨FoldCore.markOf x, List.mem_map.2 ⟨x, h1, rfl⟩, this.1.symm, this.2.symm⟩
end Go.Proofs.Ythdhkoeaadahaaa.VolsCore
