-- PACKED by wip/kit/pack.py: what the law's proof uses of PureVolsUndo (printed words and texts of this seat)
import Derived.Test.YthdhkoeaadahaaaUVolsAwake
import Derived.Test.YthdhkoeaadahaaaUPutRef
import Derived.Test.YthdhkoeaadahaaaUPx77
namespace Go.Proofs.Ythdhkoeaadahaaa.Pure
open Go.RowKit Go.Proofs.Ythdhkoeaadahaaa.P Go.Proofs.Ythdhkoeaadahaaa.VolsCore Go.Proofs.Ythdhkoeaadahaaa.PutCore Go.Proofs.YthdhkoeaadahaaaW.PrintWords Go.Proofs.YthdhkoeaadahaaaW.PrintLast
set_option linter.unusedVariables false
theorem has_ins {l : List S49} {a : Int} (p : Nat) (n : Int) : hasV (insV l p (newV a n)) a = true := by
  unfold hasV insV
  rw [List.any_append, List.any_append]
  simp [newV]
theorem pos_put {l : List S49} (hr : rightV l = true) (a : Int) (y : S49) (hy : y.f0 = a) (q : Nat) (hq : posN l a ≤ q) (hgt : ∀ x ∈ l.drop q, a < x.f0) (hm : rightV (l.take (posN l a) ++ [y] ++ l.drop q) = true) : posN (l.take (posN l a) ++ [y] ++ l.drop q) a = posN l a := by
  have hP := asc_pos ((rightV_iff l).1 hr).2.1 a
  unfold posN
  rw [List.filter_append, List.filter_append]
  have e1 : (l.take (posN l a)).filter (fun z => decide (z.f0 < a)) = l.take (posN l a) := by
    rw [List.filter_eq_self]
    intro x hx
    exact decide_eq_true (take_lt hP x hx)
  have e2 : (l.drop q).filter (fun z => decide (z.f0 < a)) = [] := by
    rw [List.filter_eq_nil_iff]
    intro x hx
    have := hgt x hx
    simp; omega
  have e3 : [y].filter (fun z => decide (z.f0 < a)) = [] := by
    rw [List.filter_cons_of_neg (by simp [hy])]; rfl
  show ((l.take (posN l a)).filter _ ++ [y].filter _ ++ (l.drop q).filter _).length = _
  rw [e1, e2, e3, List.append_nil, List.append_nil, List.length_take]
  exact Nat.min_eq_left hP.1
theorem del_ins {l : List S49} (p : Nat) (hp : p ≤ l.length) (y : S49) : delV (insV l p y) p = l := by
  apply List.ext_getElem?
  intro j
  unfold delV insV
  rw [del_at _ p (by simp; omega)]
  by_cases h : j < p
  · rw [if_pos h, ins_at l p y hp, if_pos h]
  · rw [if_neg h, ins_at l p y hp, if_neg (by omega), if_neg (by omega)]
    rfl
theorem ins_len (l : List S49) (p : Nat) (y : S49) (hp : p ≤ l.length) : (insV l p y).length = l.length + 1 := by
  unfold insV; simp; omega
theorem res_back {l : List S49} (p : Nat) (hp : p < l.length) (n : Int) (hn : ((rd_T49 l (p : Int)).f1.length : Int) ≤ n) : resV (resV l p n) p ((rd_T49 l (p : Int)).f1.length : Int) = l := by
  unfold resV
  have e : rd_T49 (l.set p ⟨(rd_T49 l (p : Int)).f0, sizedB (rd_T49 l (p : Int)).f1 n.toNat⟩) (p : Int) = ⟨(rd_T49 l (p : Int)).f0, sizedB (rd_T49 l (p : Int)).f1 n.toNat⟩ := by
    rw [rd49 _ p (by rw [List.length_set]; exact hp), List.getElem_set_self]
  rw [e, List.set_set, Int.toNat_natCast, sized_back _ _ (by omega)]
  apply List.ext_getElem?
  intro j
  by_cases hj : j = p
  · subst hj
    rw [List.getElem?_set_self hp, rd49 l j hp, List.getElem?_eq_getElem hp]
  · rw [List.getElem?_set_ne (fun h => hj h.symm)]
theorem VolsUndo : counterfoillaw07_VolsUndo.Pure := by
  intro l a n hl ha hn
  have hlen : l.length < 9223372036854775807 := by omega
  suffices h : Ev (fun k => counterfoillaw07_VolsUndo.f k l a n) true by
    obtain ⟨k, hk⟩ := h
    exact ⟨k, hk k (Nat.le_refl _)⟩
  unfold counterfoillaw07_VolsUndo.f
  obtain ⟨t, ht, hs⟩ := small_ev l [] hlen
  refine Ev.bind ht ?_
  cases t with
  | false => exact Ev.neg (by simp) (Ev.bind awake_ev (Ev.now _))
  | true =>
    obtain ⟨h1, _, h2⟩ := hs rfl
    refine Ev.pos rfl ?_
    have same : rightV l = true → Ev (fun _ : Nat => vols_Same.f l l) true := fun hr => by
      have h := vsame_ev l l
      rw [vsame_self, hr] at h
      exact h
    have loop : ∀ (d i : Nat), i + d = l.length → Ev (fun k => counterfoillaw07_VolsUndo.l0 k l a n l (l.length : Int) (i : Int)) true := by
      intro d
      induction d with
      | zero =>
        intro i hi
        refine Ev.succ ?_
        simp only [counterfoillaw07_VolsUndo.l0]
        exact Ev.neg (by omega) (Ev.bind awake_ev (Ev.now _))
      | succ d ih =>
        intro i hi
        have hlt : i < l.length := by omega
        have next := ih (i + 1) (by omega)
        rw [← wrap_succ (show i < 9223372036854775807 by omega)] at next
        have skip : ∀ b c, Ev (fun k => counterfoillaw07_VolsUndo.j2 k l a n l (l.length : Int) (i : Int) true b c) true := fun b c => by
          refine Ev.succ ?_
          simp only [counterfoillaw07_VolsUndo.j2]
          exact Ev.pos (by simp) next
        refine Ev.succ ?_
        simp only [counterfoillaw07_VolsUndo.l0]
        refine Ev.pos (by omega) (Ev.pos (by omega) (Ev.pos (by omega) ?_))
        by_cases hx : (rd_T49 l (i : Int)).f0 = a
        · refine Ev.pos hx ?_
          by_cases hlt2 : n < ((rd_T49 l (i : Int)).f1.length : Int)
          · rw [decide_eq_true hlt2]; exact skip _ _
          · rw [decide_eq_false hlt2]
            refine Ev.succ ?_
            simp only [counterfoillaw07_VolsUndo.j2]
            refine Ev.neg (by simp) (Ev.bind (vres_ev l a n) ?_)
            by_cases hrs : rightV l = true ∧ sizeB n = true
            · obtain ⟨hr, hsz⟩ := hrs
              have hh : hasV l a = true := by
                unfold hasV
                rw [List.any_eq_true]
                exact ⟨_, List.getElem_mem hlt, by rw [← rd49 l i hlt]; exact beq_iff_eq.2 hx⟩
              obtain ⟨g1, g2⟩ := at_pos hr hh
              have hip : posN l a = i := by
                have hA := (asc_of hr).1
                have hx2 := hx
                rw [← rd49 l _ g1] at g2
                rcases Nat.lt_trichotomy (posN l a) i with h9 | h9 | h9
                · have := hA.2 _ _ h9 hlt; omega
                · exact h9
                · have := hA.2 _ _ h9 g1; omega
              have e1 : resR l a n = (resV l i n, 0) := by unfold resR; rw [if_pos ⟨hr, hsz⟩, if_pos hh, hip]
              rw [e1]
              refine Ev.pos rfl ?_
              have hrr := right_res hr hh hsz
              rw [hip] at hrr
              have hhas : hasV (resV l i n) a = true := by
                unfold hasV resV
                rw [List.any_eq_true]
                exact ⟨_, List.mem_set hlt _, by simp [hx]⟩
              have hpos2 : posN (resV l i n) a = i := by
                have h9 := pos_put hr a ⟨a, sizedB (rd_T49 l (posN l a : Int)).f1 n.toNat⟩ rfl (posN l a + 1) (by omega) (gt_set hr hh) (by rw [← res_split hr hh]; exact right_res hr hh hsz)
                rw [← res_split hr hh, hip] at h9
                exact h9
              have hok := (((rightV_iff l).1 hr).1 _ (List.getElem_mem hlt)).2
              rw [← rd49 l i hlt] at hok
              have hsz2 : sizeB ((rd_T49 l (i : Int)).f1.length : Int) = true := by
                unfold okV at hok
                unfold sizeB
                rw [if_pos (by omega)]
                exact decide_eq_true (by omega)
              have e2 : resR (resV l i n) a ((rd_T49 l (i : Int)).f1.length : Int) = (l, 0) := by
                unfold resR
                rw [if_pos ⟨hrr, hsz2⟩, if_pos hhas, hpos2, res_back i hlt n (by omega)]
              refine Ev.bind (show Ev (fun _ => vols_Resize.f (resV l i n) a ((rd_T49 l (i : Int)).f1.length : Int)) (l, 0) from by have h9 := vres_ev (resV l i n) a ((rd_T49 l (i : Int)).f1.length : Int); rw [e2] at h9; exact h9) ?_
              exact Ev.pos rfl (Ev.bind (same hr) (Ev.pos rfl next))
            · have e1 : resR l a n = ([], 1) := by unfold resR; rw [if_neg hrs]
              rw [e1]
              exact Ev.neg (by simp) next
        · exact Ev.neg hx (skip _ _)
    have tail : Ev (fun k => counterfoillaw07_VolsUndo.j0 k l a n) true := by
      refine Ev.succ ?_
      simp only [counterfoillaw07_VolsUndo.j0]
      exact loop l.length 0 (by omega)
    refine Ev.bind (vadd_ev l a n) ?_
    by_cases h3 : rightV l = true ∧ 1 ≤ a ∧ a ≤ 255 ∧ sizeB n = true
    · obtain ⟨hr, h4, h5, h6⟩ := h3
      cases hh : hasV l a with
      | true =>
        have e1 : addR l a n = ([], 9) := by unfold addR; rw [if_pos ⟨hr, h4, h5, h6⟩, if_pos hh]
        rw [e1]
        exact Ev.neg (by simp) tail
      | false =>
        by_cases h7 : 4 ≤ l.length
        · have e1 : addR l a n = ([], 6) := by unfold addR; rw [if_pos ⟨hr, h4, h5, h6⟩, if_neg (by rw [hh]; simp), if_pos h7]
          rw [e1]
          exact Ev.neg (by simp) tail
        · have e1 : addR l a n = (insV l (posN l a) (newV a n), 0) := by unfold addR; rw [if_pos ⟨hr, h4, h5, h6⟩, if_neg (by rw [hh]; simp), if_neg h7]
          rw [e1]
          refine Ev.pos rfl ?_
          have hm := right_ins hr hh h4 h5 h6 h7
          have hpl : posN l a ≤ l.length := List.length_filter_le _ _
          have hpos2 : posN (insV l (posN l a) (newV a n)) a = posN l a := pos_put hr a (newV a n) rfl _ (Nat.le_refl _) (gt_ins hr hh) hm
          have e2 : dropR (insV l (posN l a) (newV a n)) a = (l, 0) := by
            unfold dropR
            rw [if_pos hm, if_pos ⟨h4, h5, has_ins _ _⟩, hpos2, del_ins _ hpl]
          refine Ev.bind (show Ev (fun _ => vols_Drop.f (insV l (posN l a) (newV a n)) a) (l, 0) from by have h9 := vdrop_ev (insV l (posN l a) (newV a n)) a; rw [e2] at h9; exact h9) ?_
          refine Ev.pos rfl (Ev.bind (same hr) (Ev.pos rfl (Ev.pos ?_ tail)))
          show ((insV l (posN l a) (newV a n)).length : Int) = _
          rw [ins_len _ _ _ hpl, wrap_succ (by omega)]
    · have e1 : addR l a n = ([], 1) := by unfold addR; rw [if_neg h3]
      rw [e1]
      exact Ev.neg (by simp) tail
end Go.Proofs.Ythdhkoeaadahaaa.Pure
