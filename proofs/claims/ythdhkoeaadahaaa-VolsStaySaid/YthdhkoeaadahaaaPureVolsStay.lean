/- Writes turn the blocks that they name alone; no condition. -/
import Derived.Test.YthdhkoeaadahaaaApplyCore
import Derived.Test.YthdhkoeaadahaaaPx98
import Derived.Test.YthdhkoeaadahaaaPx58
namespace Go.Proofs.Ythdhkoeaadahaaa.Pure
open Go.RowKit Go.Proofs.Ythdhkoeaadahaaa.P Go.Proofs.Ythdhkoeaadahaaa.VolsCore Go.Proofs.YthdhkoeaadahaaaW.PrintWords Go.Proofs.YthdhkoeaadahaaaW.PrintLast
def sizesL (l : List S49) : List Int := l.flatMap fun x => [x.f0, (x.f1.length : Int)]
theorem sizes_shape : ∀ (l m : List S49), shapeV l = shapeV m → sizesL l = sizesL m
  | [], [], _ => rfl
  | [], _ :: _, h => by simp [shapeV] at h
  | _ :: _, [], h => by simp [shapeV] at h
  | x :: l, y :: m, h => by
    unfold shapeV at h
    rw [List.map_cons, List.map_cons, List.cons.injEq] at h
    injection h.1 with e1 e2
    have := sizes_shape l m h.2
    unfold sizesL at this ⊢
    rw [List.flatMap_cons, List.flatMap_cons, this, e1, e2]
theorem sizes_len (l : List S49) : (sizesL l).length = 2 * l.length := by
  induction l with
  | nil => rfl
  | cons x r ih =>
    unfold sizesL at ih ⊢
    rw [List.flatMap_cons, List.length_append, ih]
    simp; omega
theorem sizes_ev (l : List S49) (hr : rightV l = true) : Ev (fun k => vols_Sizes.f k l) (sizesL l) := by
  have hl := (rightV_small hr).1
  have loop : ∀ (d i : Nat) (o : List Int), i + d = l.length → o.length + 2 * d ≤ 1000 → Ev (fun k => vols_Sizes.l0 k o l (l.length : Int) (i : Int)) (o ++ sizesL (l.drop i)) := by
    intro d
    induction d with
    | zero =>
      intro i o hi ho
      refine Ev.succ ?_
      simp only [vols_Sizes.l0]
      rw [List.drop_eq_nil_of_le (by omega)]
      have : o ++ sizesL [] = o := List.append_nil o
      rw [this]
      exact Ev.neg (by omega) (Ev.now _)
    | succ d ih =>
      intro i o hi ho
      refine Ev.succ ?_
      simp only [vols_Sizes.l0]
      refine Ev.pos (by omega) (Ev.pos (by omega) (Ev.pos (by omega) (Ev.bind (Ev.now _) (Ev.pos (by simp; omega) ?_))))
      have := ih (i + 1) (o ++ [(rd_T49 l (i : Int)).f0, ((rd_T49 l (i : Int)).f1.length : Int)]) (by omega) (by simp; omega)
      rw [drop49 l (i := i) (by omega), wrap_succ (by omega)]
      have e : sizesL (rd_T49 l (i : Int) :: l.drop (i + 1)) = [(rd_T49 l (i : Int)).f0, ((rd_T49 l (i : Int)).f1.length : Int)] ++ sizesL (l.drop (i + 1)) := rfl
      rw [e, ← List.append_assoc]
      exact this
  unfold vols_Sizes.f
  refine Ev.bind (Ev.const rfl) ?_
  rw [hr]
  have := loop l.length 0 [] (by omega) (by simp; omega)
  rw [List.drop_zero, List.nil_append] at this
  exact Ev.pos rfl this
theorem VolsStay : counterfoillaw07_VolsStay.Pure := by
  intro l ws v b hl hw _ _
  have hlen : l.length < 9223372036854775807 := by omega
  suffices h : Ev (fun k => counterfoillaw07_VolsStay.f k l ws v b) true by
    obtain ⟨k, hk⟩ := h
    exact ⟨k, hk k (Nat.le_refl _)⟩
  have dull : ∀ (s : ByteArray) (out : List S49), Ev (fun k => counterfoillaw07_VolsStay.j0 k l ws v b s out true) true := by
    intro s out
    refine Ev.succ ?_
    simp only [counterfoillaw07_VolsStay.j0]
    exact Ev.pos (by simp) (Ev.bind awake_ev (Ev.now _))
  unfold counterfoillaw07_VolsStay.f
  obtain ⟨t, ht, hs⟩ := small_ev l ws hlen
  refine Ev.bind ht ?_
  cases t with
  | false => exact Ev.neg (by simp) (Ev.bind awake_ev (Ev.now _))
  | true =>
    obtain ⟨h1, h2, h3⟩ := hs rfl
    refine Ev.pos rfl (Ev.bind (vget_ev l v b) (Ev.bind (apply_ev l ws) ?_))
    by_cases hz : checkV l ws = 0
    · obtain ⟨hr, hc⟩ := checkV_right hz
      have e : applyR l ws = (applyV l ws, 0) := by unfold applyR; rw [if_pos hz]
      have eg : (if rightV l = true then getV l v b else ((⟨#[]⟩ : ByteArray), (1 : Int))) = getV l v b := if_pos hr
      rw [e, eg]
      by_cases hg : (getV l v b).2 = 0
      · refine Ev.pos hg ?_
        have e0 : ((0 : Int) != 0) = false := rfl
        rw [e0]
        refine Ev.succ ?_
        simp only [counterfoillaw07_VolsStay.j0]
        refine Ev.neg (by simp) ?_
        have hr2 : rightV (applyV l ws) = true := apply_right ws l (fun x hx => (checkL_all l ws hc x hx).2) hr
        have hga := get_apply ws l v b (fun x hx => (checkL_all l ws hc x hx).1) hg
        have hgo := vget_ev (applyV l ws) v b
        rw [if_pos hr2, hga] at hgo
        have hgl := vget_ev l v b
        rw [if_pos hr] at hgl
        have hs1 := sizes_ev l hr
        have hs2 := sizes_ev (applyV l ws) hr2
        rw [sizes_shape _ _ (apply_shape ws l)] at hs2
        have hsl : (sizesL l).length ≤ 1000 := by rw [sizes_len]; omega
        have l1 : ∀ (want : ByteArray) (d i : Nat), i + d = (sizesL l).length → Ev (fun k => counterfoillaw07_VolsStay.l1 k (getV l v b).1 (applyV l ws) want want 0 (getV l v b).1 (getV l v b).2 (sizesL l) (sizesL l) ((sizesL l).length : Int) (i : Int)) true := by
          intro want d
          induction d with
          | zero =>
            intro i hi
            refine Ev.succ ?_
            simp only [counterfoillaw07_VolsStay.l1]
            refine Ev.neg (by omega) (Ev.pos (by simp) (Ev.pos (by simp) (Ev.pos (by simp) (Ev.pos hg (Ev.bind (Ev.const (show vols_Right.f (applyV l ws) = some true by unfold vols_Right.f; rw [hr2])) (Ev.pos rfl (Ev.bind awake_ev (Ev.now _))))))))
          | succ d ih =>
            intro i hi
            refine Ev.succ ?_
            simp only [counterfoillaw07_VolsStay.l1]
            rw [wrap_succ (by omega)]
            exact Ev.pos (by omega) (Ev.pos (by omega) (Ev.pos (by omega) (Ev.pos (by omega) (Ev.pos (by simp) (ih (i + 1) (by omega))))))
        have l0 : ∀ (d i : Nat) (s : ByteArray), i + d = ws.length → (ws.drop i).foldl (fun s x => if x.f0 = v ∧ x.f1 = b then x.f2 else s) s = ws.foldl (fun s x => if x.f0 = v ∧ x.f1 = b then x.f2 else s) (getV l v b).1 →
            Ev (fun k => counterfoillaw07_VolsStay.l0 k l v b (getV l v b).1 (applyV l ws) s ws (ws.length : Int) (i : Int)) true := by
          intro d
          induction d with
          | zero =>
            intro i s hi hf
            rw [List.drop_eq_nil_of_le (by omega), List.foldl_nil] at hf
            refine Ev.succ ?_
            simp only [counterfoillaw07_VolsStay.l0]
            refine Ev.neg (by omega) (Ev.bind hgo (Ev.bind hgl (Ev.bind hs1 (Ev.bind hs2 (Ev.pos rfl ?_)))))
            rw [← hf]
            exact l1 s (sizesL l).length 0 (by omega)
          | succ d ih =>
            intro i s hi hf
            rw [drop74 ws (i := i) (by omega), List.foldl_cons] at hf
            refine Ev.succ ?_
            simp only [counterfoillaw07_VolsStay.l0]
            rw [wrap_succ (by omega)]
            refine Ev.pos (by omega) (Ev.pos (by omega) (Ev.pos (by omega) ?_))
            by_cases c1 : (rd_T74 ws (i : Int)).f0 = v
            · by_cases c2 : (rd_T74 ws (i : Int)).f1 = b
              · rw [if_pos ⟨c1, c2⟩] at hf
                exact Ev.pos c1 (Ev.pos c2 (ih (i + 1) _ (by omega) hf))
              · rw [if_neg (fun e => c2 e.2)] at hf
                exact Ev.pos c1 (Ev.neg c2 (ih (i + 1) _ (by omega) hf))
            · rw [if_neg (fun e => c1 e.1)] at hf
              exact Ev.neg c1 (ih (i + 1) _ (by omega) hf)
        exact l0 ws.length 0 _ (by omega) (by rw [List.drop_zero])
      · exact Ev.neg hg (dull _ _)
    · have e : applyR l ws = ([], checkV l ws) := by unfold applyR; rw [if_neg hz]
      rw [e]
      have en : (checkV l ws != 0) = true := bne_iff_ne.mpr hz
      rw [en]
      by_cases hg : (if rightV l = true then getV l v b else ((⟨#[]⟩ : ByteArray), (1 : Int))).2 = 0
      · exact Ev.pos hg (dull _ _)
      · exact Ev.neg hg (dull _ _)
end Go.Proofs.Ythdhkoeaadahaaa.Pure
