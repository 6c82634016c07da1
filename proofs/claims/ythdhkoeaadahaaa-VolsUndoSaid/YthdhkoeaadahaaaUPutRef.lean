-- PACKED by wip/kit/pack.py: what the law's proof uses of PutRef (printed words and texts of this seat)
import Derived.Test.YthdhkoeaadahaaaUPutCore
import Derived.Test.YthdhkoeaadahaaaUVolsCore2
import Derived.Test.YthdhkoeaadahaaaUPx65
import Derived.Test.YthdhkoeaadahaaaUPx66
import Derived.Test.YthdhkoeaadahaaaUPx69
import Derived.Test.YthdhkoeaadahaaaUPx71
namespace Go.Proofs.Ythdhkoeaadahaaa.PutCore
open Go.RowKit Go.Proofs.Ythdhkoeaadahaaa.P Go.Proofs.Ythdhkoeaadahaaa.VolsCore Go.Proofs.YthdhkoeaadahaaaW.PrintWords Go.Proofs.YthdhkoeaadahaaaW.PrintLast
set_option linter.unusedVariables false
theorem filterMap_cons' {α β : Type} (f : α → Option β) (a : α) (r : List α) : (a :: r).filterMap f = (f a).toList ++ r.filterMap f := by
  rw [List.filterMap_cons]; cases f a <;> rfl
theorem put_ev (l : List S49) (a n : Int) (hr : rightV l = true) (h0 : 0 ≤ n) (h1 : n ≤ 32) : Ev (fun k => counterfoilref07_put.f k l a n) (putL l a n.toNat) := by
  have hR := (rightV_iff l).1 hr
  have hl : l.length ≤ 4 := hR.2.2
  have blocks : ∀ (x8 : Int) (out : List S49) (sz d i : Nat) (acc : List ByteArray) (r : List S49), i + d = sz → sz ≤ 1000 → acc = (List.range i).map (fun b : Nat => (getV l x8 (b : Int)).1) →
      Ev (fun k => if out.length < 4398046511104 then (counterfoilref07_put.l0 k l a n (out ++ [(⟨x8, blocksAt l x8 sz⟩ : S49)]) (wrap64 (x8 + 1))) else none) r →
      Ev (fun k => counterfoilref07_put.l2 k l a n out x8 (sz : Int) (i : Int) x8 acc) r := by
    intro x8 out sz d
    induction d with
    | zero =>
      intro i acc r hi hsz hacc h
      obtain rfl : i = sz := by omega
      refine Ev.succ ?_
      simp only [counterfoilref07_put.l2]
      rw [hacc]
      exact Ev.neg (by omega) h
    | succ d ih =>
      intro i acc r hi hsz hacc h
      refine Ev.succ ?_
      simp only [counterfoilref07_put.l2]
      refine Ev.pos (by omega) (Ev.bind (get_ev l x8 (i : Int) (by omega)) (Ev.pos (by rw [hacc]; simp; omega) ?_))
      rw [wrap_succ (by omega)]
      exact ih (i + 1) _ r (by omega) hsz (by rw [hacc, List.range_succ, List.map_append]; rfl) h
  have sizes : ∀ (x8 : Int) (out : List S49) (d i : Nat) (s : Nat) (r : List S49), i + d = l.length → s = sizeAt (l.take i) x8 →
      Ev (fun k => if x8 = a then (counterfoilref07_put.j2 k l a n out x8 n) else (counterfoilref07_put.j2 k l a n out x8 ((sizeAt l x8 : Nat) : Int))) r →
      Ev (fun k => counterfoilref07_put.l1 k l a n out x8 (s : Int) (i : Int)) r := by
    intro x8 out d
    induction d with
    | zero =>
      intro i s r hi hs h
      obtain rfl : i = l.length := by omega
      rw [List.take_length] at hs
      refine Ev.succ ?_
      simp only [counterfoilref07_put.l1]
      rw [hs]
      exact Ev.neg (by omega) h
    | succ d ih =>
      intro i s r hi hs h
      have hlt : i < l.length := by omega
      refine Ev.succ ?_
      simp only [counterfoilref07_put.l1]
      refine Ev.pos (by omega) (Ev.pos (by omega) ?_)
      rw [wrap_succ (by omega), rd49 l i hlt]
      have et : l.take (i + 1) = l.take i ++ [l[i]] := List.take_succ_eq_append_getElem hlt
      by_cases hx : (l[i]).f0 = x8
      · refine Ev.pos hx (ih (i + 1) _ r (by omega) ?_ h)
        have hn : (l.take i).find? (fun y => y.f0 == x8) = none := by
          rw [List.find?_eq_none]
          intro y hy
          obtain ⟨q, hq, rfl⟩ := List.getElem_of_mem hy
          rw [List.length_take] at hq
          rw [List.getElem_take]
          have := List.pairwise_iff_getElem.1 hR.2.1 q i (by omega) hlt (by omega)
          simp; omega
        unfold sizeAt
        rw [et, List.find?_append, hn, List.find?_cons_of_pos (by simp [hx])]
        rfl
      · refine Ev.neg hx (ih (i + 1) _ r (by omega) ?_ h)
        unfold sizeAt at hs ⊢
        rw [et, List.find?_append, List.find?_cons_of_neg (by simpa using hx), List.find?_nil, Option.or_none]
        exact hs
  have main : ∀ (d i : Nat) (out : List S49), i + d = 256 → 1 ≤ i → out.length + d ≤ 10000 → Ev (fun k => counterfoilref07_put.l0 k l a n out (i : Int)) (out ++ (List.range' i d).filterMap (putAt l a n.toNat)) := by
    intro d
    induction d with
    | zero =>
      intro i out hi h1 hout
      refine Ev.succ ?_
      simp only [counterfoilref07_put.l0]
      rw [List.range'_zero, List.filterMap_nil, List.append_nil]
      exact Ev.neg (by omega) (Ev.now _)
    | succ d ih =>
      intro i out hi h1 hout
      refine Ev.succ ?_
      simp only [counterfoilref07_put.l0]
      refine Ev.pos (by omega) ?_
      refine sizes (i : Int) out l.length 0 0 _ (by omega) rfl ?_
      rw [List.range'_succ, filterMap_cons']
      have fin : ∀ (sz : Nat), sz ≤ 32 → (if sz = 0 then none else some (⟨(i : Int), blocksAt l (i : Int) sz⟩ : S49)) = putAt l a n.toNat i → Ev (fun k => counterfoilref07_put.j2 k l a n out (i : Int) (sz : Int)) (out ++ ((putAt l a n.toNat i).toList ++ (List.range' (i + 1) d).filterMap (putAt l a n.toNat))) := by
        intro sz hsz hput
        rw [← hput]
        refine Ev.succ ?_
        simp only [counterfoilref07_put.j2]
        by_cases hz : sz = 0
        · rw [if_pos hz]
          refine Ev.pos (by omega) ?_
          rw [wrap_succ (by omega)]
          exact ih (i + 1) out (by omega) (by omega) (by omega)
        · rw [if_neg hz]
          refine Ev.neg (by omega) ?_
          refine blocks (i : Int) out sz sz 0 [] _ (by omega) (by omega) rfl ?_
          refine Ev.pos (by omega) ?_
          rw [wrap_succ (by omega)]
          have := ih (i + 1) (out ++ [(⟨(i : Int), blocksAt l (i : Int) sz⟩ : S49)]) (by omega) (by omega) (by rw [List.length_append, List.length_singleton]; omega)
          rw [List.append_assoc] at this
          exact this
      by_cases hk : (i : Int) = a
      · refine Ev.pos hk ?_
        have := fin n.toNat (by omega) (by unfold putAt; simp only [if_pos hk])
        rw [Int.toNat_of_nonneg h0] at this
        exact this
      · refine Ev.neg hk ?_
        refine fin (sizeAt l (i : Int)) ?_ (by unfold putAt; simp only [if_neg hk])
        unfold sizeAt
        cases hf : l.find? (fun y => y.f0 == (i : Int)) with
        | none => simp
        | some x =>
          have := (hR.1 x (find_mem hf).1).2
          unfold okV at this
          simp only []
          omega
  have := main 255 1 [] (by omega) (by omega) (by simp)
  unfold counterfoilref07_put.f putL
  simpa using this
theorem get_zero (l : List S49) (a : Int) (hr : rightV l = true) : ((getV l a 0).2 = 0) ↔ hasV l a = true := by
  have hR := (rightV_iff l).1 hr
  cases hb : hasV l a with
  | false =>
    unfold getV
    rw [has_find.1 hb]
    simp
  | true =>
    unfold getV
    rw [find_at hr hb]
    obtain ⟨h1, h2⟩ := at_pos hr hb
    have := (hR.1 _ (List.getElem_mem h1)).2.2.1
    rw [← rd49 l _ h1] at this
    simp only []
    rw [if_neg (by omega)]
    simp
theorem has_bounds {l : List S49} (hr : rightV l = true) {a : Int} (hb : hasV l a = true) : 1 ≤ a ∧ a ≤ 255 := by
  obtain ⟨h1, h2⟩ := at_pos hr hb
  have := bounds_of hr _ (List.getElem_mem h1)
  omega
def addR (l : List S49) (a n : Int) : List S49 × Int := if rightV l = true ∧ 1 ≤ a ∧ a ≤ 255 ∧ sizeB n = true then (if hasV l a = true then ([], 9) else if 4 ≤ l.length then ([], 6) else (insV l (posN l a) (newV a n), 0)) else ([], 1)
def dropR (l : List S49) (a : Int) : List S49 × Int := if rightV l = true then (if 1 ≤ a ∧ a ≤ 255 ∧ hasV l a = true then (delV l (posN l a), 0) else ([], 8)) else ([], 1)
def resR (l : List S49) (a n : Int) : List S49 × Int := if rightV l = true ∧ sizeB n = true then (if hasV l a = true then (resV l (posN l a) n, 0) else ([], 8)) else ([], 1)
theorem radd_ev (l : List S49) (a n : Int) (hl : l.length ≤ 1000) (hb : ∀ x ∈ l, x.f1.length ≤ 1000) : Ev (fun k => counterfoilref07_Add.f k l a n) (addR l a n) := by
  unfold counterfoilref07_Add.f addR
  refine Ev.bind (right_ev l hl hb) ?_
  have no : ∀ r : List S49 × Int, r = ([], 1) → Ev (fun k => counterfoilref07_Add.j0 k l a n true) r := fun r h => by
    rw [h]
    refine Ev.succ ?_
    simp only [counterfoilref07_Add.j0]
    exact Ev.pos (by simp) (Ev.now _)
  by_cases hr : rightV l = true
  · refine Ev.pos hr ?_
    by_cases h1 : a < 1
    · exact Ev.pos h1 (no _ (by rw [if_neg (by omega)]))
    refine Ev.neg h1 ?_
    by_cases h2 : a > 255
    · exact Ev.pos h2 (no _ (by rw [if_neg (by omega)]))
    refine Ev.neg h2 ?_
    by_cases h3 : n < 1
    · exact Ev.pos h3 (no _ (by rw [if_neg (by unfold sizeB; rw [if_neg (by omega)]; simp)]))
    refine Ev.neg h3 ?_
    by_cases h4 : n > 32
    · rw [decide_eq_true h4]
      exact no _ (by rw [if_neg (by unfold sizeB; rw [if_pos (by omega), decide_eq_false (by omega)]; simp)])
    rw [decide_eq_false h4]
    have hs : sizeB n = true := by unfold sizeB; rw [if_pos (by omega)]; exact decide_eq_true (by omega)
    rw [if_pos ⟨hr, by omega, by omega, hs⟩]
    refine Ev.succ ?_
    simp only [counterfoilref07_Add.j0]
    refine Ev.neg (by simp) (Ev.bind (get_ev l a 0 hl) ?_)
    cases hh : hasV l a with
    | true => rw [if_pos rfl]; exact Ev.pos ((get_zero l a hr).2 hh) (Ev.now _)
    | false =>
      rw [if_neg (by simp)]
      refine Ev.neg (fun h => by rw [(get_zero l a hr).1 h] at hh; cases hh) ?_
      have h5 := ((rightV_iff l).1 hr).2.2
      by_cases h6 : 4 ≤ l.length
      · rw [if_pos h6]; exact Ev.pos (by omega) (Ev.now _)
      · rw [if_neg h6]
        refine Ev.neg (by omega) (Ev.bind (put_ev l a n hr (by omega) (by omega)) ?_)
        rw [add_put hr hh (by omega) (by omega) hs h6]
        exact Ev.now _
  · exact Ev.neg hr (no _ (by rw [if_neg (fun h => hr h.1)]))
theorem rdrop_ev (l : List S49) (a : Int) (hl : l.length ≤ 1000) (hb : ∀ x ∈ l, x.f1.length ≤ 1000) : Ev (fun k => counterfoilref07_Drop.f k l a) (dropR l a) := by
  unfold counterfoilref07_Drop.f dropR
  refine Ev.bind (right_ev l hl hb) ?_
  by_cases hr : rightV l = true
  · rw [if_pos hr]
    refine Ev.pos hr (Ev.bind (get_ev l a 0 hl) ?_)
    cases hh : hasV l a with
    | true =>
      have := has_bounds hr hh
      rw [if_pos ⟨this.1, this.2, rfl⟩]
      refine Ev.pos ((get_zero l a hr).2 hh) (Ev.bind (put_ev l a 0 hr (by omega) (by omega)) ?_)
      rw [show (0 : Int).toNat = 0 from rfl, del_put hr hh]
      exact Ev.now _
    | false =>
      rw [if_neg (by simp)]
      exact Ev.neg (fun h => by rw [(get_zero l a hr).1 h] at hh; cases hh) (Ev.now _)
  · rw [if_neg hr]; exact Ev.neg hr (Ev.now _)
theorem rres_ev (l : List S49) (a n : Int) (hl : l.length ≤ 1000) (hb : ∀ x ∈ l, x.f1.length ≤ 1000) : Ev (fun k => counterfoilref07_Resize.f k l a n) (resR l a n) := by
  unfold counterfoilref07_Resize.f resR
  refine Ev.bind (right_ev l hl hb) ?_
  have no : ∀ r : List S49 × Int, r = ([], 1) → Ev (fun k => counterfoilref07_Resize.j0 k l a n true) r := fun r h => by
    rw [h]
    refine Ev.succ ?_
    simp only [counterfoilref07_Resize.j0]
    exact Ev.pos (by simp) (Ev.now _)
  by_cases hr : rightV l = true
  · refine Ev.pos hr ?_
    by_cases h3 : n < 1
    · exact Ev.pos h3 (no _ (by rw [if_neg (by unfold sizeB; rw [if_neg (by omega)]; simp)]))
    refine Ev.neg h3 ?_
    by_cases h4 : n > 32
    · rw [decide_eq_true h4]
      exact no _ (by rw [if_neg (by unfold sizeB; rw [if_pos (by omega), decide_eq_false (by omega)]; simp)])
    rw [decide_eq_false h4]
    have hs : sizeB n = true := by unfold sizeB; rw [if_pos (by omega)]; exact decide_eq_true (by omega)
    rw [if_pos ⟨hr, hs⟩]
    refine Ev.succ ?_
    simp only [counterfoilref07_Resize.j0]
    refine Ev.neg (by simp) (Ev.bind (get_ev l a 0 hl) ?_)
    cases hh : hasV l a with
    | true =>
      rw [if_pos rfl]
      refine Ev.pos ((get_zero l a hr).2 hh) (Ev.bind (put_ev l a n hr (by omega) (by omega)) ?_)
      rw [res_put hr hh hs]
      exact Ev.now _
    | false =>
      rw [if_neg (by simp)]
      exact Ev.neg (fun h => by rw [(get_zero l a hr).1 h] at hh; cases hh) (Ev.now _)
  · exact Ev.neg hr (no _ (by rw [if_neg (fun h => hr h.1)]))
theorem addR_small (l : List S49) (a n : Int) : (addR l a n).1.length ≤ 1000 ∧ ∀ x ∈ (addR l a n).1, x.f1.length ≤ 1000 := by
  unfold addR
  split
  · rename_i h
    split
    · simp
    · split
      · simp
      · rename_i h5 h6
        have hm := (rightV_iff _).1 (right_ins h.1 (by simpa using h5) h.2.1 h.2.2.1 h.2.2.2 h6)
        exact ⟨Nat.le_trans hm.2.2 (by omega), fun x hx => by have := (hm.1 x hx).2; unfold okV at this; omega⟩
  · simp
theorem dropR_small (l : List S49) (a : Int) : (dropR l a).1.length ≤ 1000 ∧ ∀ x ∈ (dropR l a).1, x.f1.length ≤ 1000 := by
  unfold dropR
  split
  · rename_i h
    split
    · have hm := (rightV_iff _).1 (right_del h (posN l a))
      exact ⟨Nat.le_trans hm.2.2 (by omega), fun x hx => by have := (hm.1 x hx).2; unfold okV at this; omega⟩
    · simp
  · simp
theorem resR_small (l : List S49) (a n : Int) : (resR l a n).1.length ≤ 1000 ∧ ∀ x ∈ (resR l a n).1, x.f1.length ≤ 1000 := by
  unfold resR
  split
  · rename_i h
    split
    · rename_i h5
      have hm := (rightV_iff _).1 (right_res h.1 h5 h.2)
      exact ⟨Nat.le_trans hm.2.2 (by omega), fun x hx => by have := (hm.1 x hx).2; unfold okV at this; omega⟩
    · simp
  · simp
theorem vadd_ev (l : List S49) (a n : Int) : Ev (fun _ => vols_Add.f l a n) (addR l a n) := Ev.const rfl
theorem vdrop_ev (l : List S49) (a : Int) : Ev (fun _ => vols_Drop.f l a) (dropR l a) := Ev.const rfl
theorem vres_ev (l : List S49) (a n : Int) : Ev (fun _ => vols_Resize.f l a n) (resR l a n) := Ev.const rfl
theorem vright_ev (l : List S49) : Ev (fun _ => vols_Right.f l) (rightV l) := Ev.const rfl
end Go.Proofs.Ythdhkoeaadahaaa.PutCore
