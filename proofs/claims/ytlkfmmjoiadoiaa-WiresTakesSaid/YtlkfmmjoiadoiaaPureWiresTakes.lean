/- What is taken, doubled and turned is what the reference says, or the call is refused; no condition. -/
import Derived.Test.YtlkfmmjoiadoiaaWiresCore2
import Derived.Test.YtlkfmmjoiadoiaaPx52
namespace Go.Proofs.Ytlkfmmjoiadoiaa.Pure
open Go.RowKit Go.Proofs.Ytlkfmmjoiadoiaa.P Go.Proofs.Ytlkfmmjoiadoiaa.WiresCore Go.Proofs.YtlkfmmjoiadoiaaW.PrintWords Go.Proofs.YtlkfmmjoiadoiaaW.PrintLast
theorem takes_no (l : List S24) (a p b t : Int) (ht : t ≠ 0) : Ev (fun k => counterfoillaw16_WiresTakes.j2 k l a p b [] t [] t [] t (l.map toR) t 0 ⟨#[]⟩) true := by
  refine Ev.succ ?_
  simp only [counterfoillaw16_WiresTakes.j2]
  exact Ev.neg ht (Ev.pos (by simp) (Ev.pos (by decide +kernel) (Ev.pos (by simp) (Ev.pos (by simp) (Ev.pos (by simp) (Ev.pos (by simp) (Ev.pos (by simp) (Ev.bind awake_ev (Ev.now _)))))))))
theorem takes_j5 (l : List S24) (a p b : Int) (hl : l.length ≤ 256) (h : atP l a = 0) (t : Bool) (ht : t = true ↔ p < 0 ∨ p ≥ ((rd_T24 l a).f1.size : Int)) : Ev (fun k => counterfoillaw16_WiresTakes.j5 k l a p b (turnP l a p b).1 (turnP l a p b).2 (l.map toR) t) true := by
  obtain ⟨hr, h0, h1⟩ := atP_zero h
  refine Ev.succ ?_
  simp only [counterfoillaw16_WiresTakes.j5]
  cases t with
  | true =>
    have hp := ht.1 rfl
    have e : turnP l a p b = ([], 1) := by
      unfold turnP
      rw [if_pos h]
      by_cases hp0 : p < 0
      · rw [if_pos hp0]
      · rw [if_neg hp0, if_pos (hp.resolve_left hp0)]
    rw [e]
    exact Ev.pos (by simp) (Ev.pos (by simp) (Ev.pos rfl (Ev.bind awake_ev (Ev.now _))))
  | false =>
    have hp : ¬ (p < 0 ∨ p ≥ ((rd_T24 l a).f1.size : Int)) := fun e => by have := ht.2 e; simp at this
    have hp0 : ¬ p < 0 := fun e => hp (.inl e)
    have hp1 : ¬ p ≥ ((rd_T24 l a).f1.size : Int) := fun e => hp (.inr e)
    obtain ⟨i, rfl⟩ := Int.eq_ofNat_of_zero_le h0
    have hi : i < l.length := by omega
    obtain ⟨_, hsz⟩ := right_at hr hi
    have e : turnP l (i : Int) p b = (l.set i ⟨(rd_T24 l (i : Int)).f0, turnedS (rd_T24 l (i : Int)).f1 p b⟩, 0) := by
      unfold turnP
      rw [if_pos h, if_neg hp0, if_neg hp1, Int.toNat_natCast]
    rw [e]
    refine Ev.neg (by simp) (Ev.pos h0 (Ev.pos h1 (Ev.bind (turned_ev _ p b (by omega) (by omega) (by omega)) ?_)))
    refine Ev.bind (put_ev (l.map toR) i [toR ⟨(rd_T24 l (i : Int)).f0, turnedS (rd_T24 l (i : Int)).f1 p b⟩] (by simp; omega) (by simp; omega)) ?_
    rw [← map_set_put l hi]
    exact Ev.bind (same_ev _ (by simp; omega)) (Ev.pos rfl (Ev.pos rfl (Ev.bind awake_ev (Ev.now _))))
theorem takes_j4 (l : List S24) (a p b : Int) (hl : l.length ≤ 256) (h : atP l a = 0) : Ev (fun k => counterfoillaw16_WiresTakes.j4 k l a p b (turnP l a p b).1 (turnP l a p b).2 (l.map toR)) true := by
  obtain ⟨hr, h0, h1⟩ := atP_zero h
  refine Ev.succ ?_
  simp only [counterfoillaw16_WiresTakes.j4]
  by_cases hp : p < 0
  · exact Ev.pos hp (takes_j5 l a p b hl h true (by simp [hp]))
  · refine Ev.neg hp (Ev.pos h0 (Ev.pos h1 (takes_j5 l a p b hl h _ ?_)))
    rw [decide_eq_true_eq]
    exact ⟨fun h => .inr h, fun h => h.resolve_left hp⟩
theorem takes_j3 (l : List S24) (a p b : Int) (hl : l.length ≤ 256) (h : atP l a = 0) : Ev (fun k => counterfoillaw16_WiresTakes.j3 k l a p b (twiceP l a).1 (twiceP l a).2 (turnP l a p b).1 (turnP l a p b).2 (l.map toR) false) true := by
  obtain ⟨hr, h0, h1⟩ := atP_zero h
  have j4 := takes_j4 l a p b hl h
  obtain ⟨i, rfl⟩ := Int.eq_ofNat_of_zero_le h0
  have hi : i < l.length := by omega
  obtain ⟨hs, hsz⟩ := right_at hr hi
  have e : twiceP l (i : Int) = if l.length = 256 then ([], 6) else (l ++ [rd_T24 l (i : Int)], 0) := by
    unfold twiceP sendS
    rw [if_pos h, hr, hs, if_neg (by simp), if_neg (by omega)]
  refine Ev.succ ?_
  simp only [counterfoillaw16_WiresTakes.j3]
  refine Ev.neg (by simp) ?_
  by_cases h2 : l.length = 256
  · rw [e, if_pos h2]
    exact Ev.pos (by omega) (Ev.pos (by simp) (Ev.pos rfl j4))
  · rw [e, if_neg h2]
    have ew : wrap64 ((i : Int) + 1) = ((i + 1 : Nat) : Int) := wrap_succ (by omega)
    rw [ew]
    refine Ev.neg (by omega) (Ev.pos (by omega) (Ev.pos (by omega) (Ev.pos (by simp; omega) ?_)))
    have e1 : (((l.map toR).take ((i + 1 : Nat) : Int).toNat).drop ((i : Nat) : Int).toNat) = [toR (rd_T24 l (i : Int))] := by
      rw [Int.toNat_natCast, Int.toNat_natCast, rd_get l i hi, ← List.map_take, ← List.map_drop, List.take_succ_eq_append_getElem hi, List.drop_append_of_le_length (by simp; omega), List.drop_eq_nil_of_le (by simp; omega), List.nil_append]
      rfl
    rw [e1]
    have hp := put_ev (l.map toR) (l.map toR).length [toR (rd_T24 l (i : Int))] (Nat.le_refl _) (by simp; omega)
    have e2 : (l.map toR).take (l.map toR).length ++ ([toR (rd_T24 l (i : Int))] ++ (l.map toR).drop ((l.map toR).length + 1)) = (l ++ [rd_T24 l (i : Int)]).map toR := by
      rw [List.take_of_length_le (Nat.le_refl _), List.drop_eq_nil_of_le (by omega), List.append_nil, List.map_append, List.map_singleton]
    rw [e2] at hp
    exact Ev.bind hp (Ev.bind (same_ev _ (by simp; omega)) (Ev.pos rfl (Ev.pos rfl j4)))
theorem WiresTakes : counterfoillaw16_WiresTakes.Pure := by
  intro l a p b hl _ _ _
  have hlen : l.length < 9223372036854775807 := by omega
  suffices h : Ev (fun k => counterfoillaw16_WiresTakes.f k l a p b) true by
    obtain ⟨k, hk⟩ := h
    exact ⟨k, hk k (Nat.le_refl _)⟩
  unfold counterfoillaw16_WiresTakes.f
  obtain ⟨t, ht, hfew⟩ := few_ev l hlen
  refine Ev.bind ht ?_
  cases t with
  | false => exact Ev.neg (by simp) (Ev.bind awake_ev (Ev.now _))
  | true =>
    have hl3 := hfew rfl
    refine Ev.pos rfl (Ev.bind (take_ev l a) (Ev.bind (twice_ev l a) (Ev.bind (turn_ev l a p b) (Ev.bind (ref_ev l hl3) ?_))))
    have key : ∀ (t : Bool), (t = true ↔ a < 0 ∨ a ≥ (l.length : Int)) → Ev (fun k => counterfoillaw16_WiresTakes.j0 k l a p b (takeP l a).1 (takeP l a).2.2.2 (twiceP l a).1 (twiceP l a).2 (turnP l a p b).1 (turnP l a p b).2 (l.map toR) 0 t (takeP l a).2.1 (takeP l a).2.2.1) true := by
      intro t ht
      have refuse : ∀ w : Int, atP l a ≠ 0 → atP l a = w → Ev (fun k => counterfoillaw16_WiresTakes.j2 k l a p b (takeP l a).1 (takeP l a).2.2.2 (twiceP l a).1 (twiceP l a).2 (turnP l a p b).1 (turnP l a p b).2 (l.map toR) w (takeP l a).2.1 (takeP l a).2.2.1) true := by
        intro w h0 hw
        have e1 : takeP l a = ([], 0, ⟨#[]⟩, w) := by unfold takeP; rw [if_neg h0, hw]
        have e2 : twiceP l a = ([], w) := by unfold twiceP; rw [if_neg h0, hw]
        have e3 : turnP l a p b = ([], w) := by unfold turnP; rw [if_neg h0, hw]
        rw [e1, e2, e3]
        exact takes_no l a p b w (by rw [← hw]; exact h0)
      have j1 : ∀ w : Int, (rightP l = true → atP l a = w) → (w = 0 → rightP l = true → False → True) → Ev (fun k => counterfoillaw16_WiresTakes.j1 k l a p b (takeP l a).1 (takeP l a).2.2.2 (twiceP l a).1 (twiceP l a).2 (turnP l a p b).1 (turnP l a p b).2 (l.map toR) w (takeP l a).2.1 (takeP l a).2.2.1) true := by
        intro w hw _
        refine Ev.succ ?_
        simp only [counterfoillaw16_WiresTakes.j1]
        refine Ev.bind (rright_map_ev l hl3) ?_
        cases hr : rightP l with
        | false =>
          have e : atP l a = 1 := by unfold atP; rw [hr]; rfl
          exact Ev.neg (by simp) (refuse 1 (by rw [e]; simp) e)
        | true =>
          refine Ev.pos rfl ?_
          have e := hw hr
          by_cases h0 : atP l a = 0
          · obtain ⟨_, g0, g1⟩ := atP_zero h0
            have hl2 := rightP_len hr
            obtain rfl : w = 0 := by rw [← e, h0]
            have j3 := takes_j3 l a p b hl2 h0
            have e1 : takeP l a = (l.take a.toNat ++ l.drop (a.toNat + 1), (rd_T24 l a).f0, (rd_T24 l a).f1, 0) := by unfold takeP; rw [if_pos h0]
            rw [e1]
            obtain ⟨i, rfl⟩ := Int.eq_ofNat_of_zero_le g0
            rw [Int.toNat_natCast]
            refine Ev.succ ?_
            simp only [counterfoillaw16_WiresTakes.j2]
            refine Ev.pos (by simp) (Ev.bind (put_ev (l.map toR) i [] (by simp; omega) (by simp; omega)) ?_)
            have e2 : (l.map toR).take i ++ ([] ++ (l.map toR).drop (i + 1)) = (l.take i ++ l.drop (i + 1)).map toR := by simp
            rw [e2]
            refine Ev.bind (same_ev _ (by simp; omega)) (Ev.pos rfl (Ev.pos (by omega) (Ev.pos g1 (Ev.neg (by simp) ?_))))
            exact j3
          · exact refuse w h0 e
      refine Ev.succ ?_
      simp only [counterfoillaw16_WiresTakes.j0]
      cases t with
      | true =>
        refine Ev.pos (by simp) (j1 8 (fun hr => ?_) (fun _ _ h => h.elim))
        unfold atP
        rw [if_pos hr]
        by_cases h1 : a < 0
        · rw [if_pos h1]
        · rw [if_neg h1, if_pos ((ht.1 rfl).resolve_left h1)]
      | false =>
        have hn : ¬ (a < 0 ∨ a ≥ (l.length : Int)) := fun e => by have := ht.2 e; simp at this
        refine Ev.neg (by simp) (j1 0 (fun hr => ?_) (fun _ _ h => h.elim))
        unfold atP
        rw [if_pos hr, if_neg (fun e => hn (.inl e)), if_neg (fun e => hn (.inr e))]
    by_cases h1 : a < 0
    · exact Ev.pos h1 (key true (by simp [h1]))
    · refine Ev.neg h1 (key _ ?_)
      rw [decide_eq_true_eq]
      exact ⟨fun h => .inr h, fun h => h.resolve_left h1⟩
end Go.Proofs.Ytlkfmmjoiadoiaa.Pure
