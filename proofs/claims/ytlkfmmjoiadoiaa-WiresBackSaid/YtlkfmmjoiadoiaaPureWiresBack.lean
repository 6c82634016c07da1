/- What is taken is what was sent; turned twice alike it is as it was; no condition. -/
import Derived.Test.YtlkfmmjoiadoiaaWiresCore2
import Derived.Test.YtlkfmmjoiadoiaaPx49
namespace Go.Proofs.Ytlkfmmjoiadoiaa.Pure
open Go.RowKit Go.Proofs.Ytlkfmmjoiadoiaa.P Go.Proofs.Ytlkfmmjoiadoiaa.WiresCore Go.Proofs.YtlkfmmjoiadoiaaW.PrintWords Go.Proofs.YtlkfmmjoiadoiaaW.PrintLast
theorem rd_last (l : List S24) (q : S24) : rd_T24 (l ++ [q]) (l.length : Int) = q := by
  rw [rd_get _ _ (by simp)]
  simp
theorem back_j1 (l : List S24) (q : S24) (hl : l.length ≤ 256) (h : atP (l ++ [q]) (l.length : Int) = 0) : Ev (fun k => counterfoillaw16_WiresBack.j1 k l (l ++ [q]) (l.length : Int) q.f0 q.f1) true := by
  have e : takeP (l ++ [q]) (l.length : Int) = (l, q.f0, q.f1, 0) := by
    unfold takeP
    rw [if_pos h, rd_last, Int.toNat_natCast, List.take_left', List.drop_eq_nil_of_le (by simp), List.append_nil]
    rfl
  have ht := take_ev (l ++ [q]) (l.length : Int)
  rw [e] at ht
  refine Ev.succ ?_
  simp only [counterfoillaw16_WiresBack.j1]
  exact Ev.bind ht (Ev.pos rfl (Ev.pos (by simp) (Ev.bind (ref_ev l (by omega)) (Ev.bind (same_ev l (by omega)) (Ev.pos rfl (Ev.bind awake_ev (Ev.now _)))))))
theorem right_snoc (l : List S24) (q : S24) (hr : rightP l = true) (hq : bad24 q = false) (h : l.length < 256) : rightP (l ++ [q]) = true := by
  unfold rightP at hr ⊢
  have h2 := (Bool.and_eq_true_iff.1 hr).2
  rw [Bool.and_eq_true]
  refine ⟨decide_eq_true (by simp; omega), ?_⟩
  rw [List.any_append, List.any_cons, List.any_nil, hq]
  simpa using h2
theorem at_last (l : List S24) (q : S24) (hr : rightP (l ++ [q]) = true) : atP (l ++ [q]) (l.length : Int) = 0 := by
  unfold atP
  rw [if_pos hr, if_neg (by omega), if_neg (by simp; omega)]
theorem set_last (l : List S24) (q q' : S24) : (l ++ [q]).set l.length q' = l ++ [q'] := by
  rw [List.set_append_right _ _ (Nat.le_refl _), Nat.sub_self]
  rfl
theorem WiresBack : counterfoillaw16_WiresBack.Pure := by
  intro l a0 a1 p b hl _ _ _ hb
  have hlen : l.length < 9223372036854775807 := by omega
  suffices h : Ev (fun k => counterfoillaw16_WiresBack.f k l a0 a1 p b) true by
    obtain ⟨k, hk⟩ := h
    exact ⟨k, hk k (Nat.le_refl _)⟩
  obtain ⟨y, hy, hy2⟩ : ∃ y : Nat, b = (y : Int) ∧ y < 256 := by
    have : 0 ≤ b ∧ b ≤ 255 := by simpa [Lit.wf, IntKind.min, IntKind.max, IntKind.signed, IntKind.bits] using hb
    exact ⟨b.toNat, by omega, by omega⟩
  obtain ⟨q, hq⟩ : ∃ q : S24, q = ⟨a0, a1⟩ := ⟨_, rfl⟩
  obtain rfl : a0 = q.f0 := by rw [hq]
  obtain rfl : a1 = q.f1 := by rw [hq]
  clear hq
  unfold counterfoillaw16_WiresBack.f
  have dull : Ev (fun k => counterfoillaw16_WiresBack.j0 k l p b true q.f0 q.f1) true := by
    refine Ev.succ ?_
    simp only [counterfoillaw16_WiresBack.j0]
    exact Ev.pos (by simp) (Ev.bind awake_ev (Ev.now _))
  obtain ⟨t, ht, hfew⟩ := few_ev l hlen
  refine Ev.bind ht ?_
  cases t with
  | false => exact Ev.neg (by simp) dull
  | true =>
    have hl3 := hfew rfl
    refine Ev.pos rfl ?_
    by_cases h5 : (q.f1.size : Int) > 5000
    · rw [decide_eq_true h5]; exact dull
    rw [decide_eq_false h5]
    refine Ev.succ ?_
    simp only [counterfoillaw16_WiresBack.j0]
    refine Ev.neg (by simp) (Ev.bind (send_ev l q) ?_)
    have refuse : ∀ w : Int, w ≠ 0 → sendS l q = ([], w) → Ev (fun k => (if (sendS l q).2 = 0 then ((wires_Turn.f (sendS l q).1 (l.length : Int) p b).bind fun bt355 => (if bt355.2 = 0 then ((wires_Turn.f bt355.1 (l.length : Int) p b).bind fun bt359 => (if bt359.2 = 0 then ((counterfoillaw16_ref.f k (sendS l q).1).bind fun t363 => ((counterfoillaw16_same.f k bt359.1 t363).bind fun t366 => (if t366 = true then ((counterfoillaw16_ref.f k (sendS l q).1).bind fun t367 => ((counterfoillaw16_same.f k bt355.1 t367).bind fun t370 => (if ((b == 0) != t370) = true then (some false) else (counterfoillaw16_WiresBack.j1 k l (sendS l q).1 (l.length : Int) q.f0 q.f1)))) else (some false)))) else (some false))) else (counterfoillaw16_WiresBack.j1 k l (sendS l q).1 (l.length : Int) q.f0 q.f1))) else (if ((sendS l q).1.length : Int) = 0 then ((counterfoillaw16_awake.f k).bind fun t354 => (some t354)) else (some false)))) true := by
      intro w hw e
      rw [e]
      exact Ev.neg hw (Ev.pos (by simp) (Ev.bind awake_ev (Ev.now _)))
    by_cases c1 : (!rightP l || !siteB q.f0) = true
    · exact refuse 1 (by omega) (by unfold sendS; rw [if_pos c1])
    by_cases c2 : (q.f1.size : Int) > 4103
    · exact refuse 5 (by omega) (by unfold sendS; rw [if_neg c1, if_pos c2])
    by_cases c3 : l.length = 256
    · exact refuse 6 (by omega) (by unfold sendS; rw [if_neg c1, if_neg c2, if_pos c3])
    have e : sendS l q = (l ++ [q], 0) := by unfold sendS; rw [if_neg c1, if_neg c2, if_neg c3]
    clear refuse
    rw [e]
    have hr : rightP l = true := by cases h : rightP l with
      | true => rfl
      | false => rw [h] at c1; simp at c1
    have hs : siteB q.f0 = true := by cases h : siteB q.f0 with
      | true => rfl
      | false => rw [h] at c1; simp at c1
    have hl2 := rightP_len hr
    have good : ∀ s : ByteArray, s.size = q.f1.size → rightP (l ++ [⟨q.f0, s⟩]) = true := fun s hz => right_snoc l _ hr (by unfold bad24; simp [hs]; omega) (by omega)
    have hm : atP (l ++ [q]) (l.length : Int) = 0 := at_last l q (good q.f1 rfl)
    have j1 := back_j1 l q (by omega) hm
    refine Ev.pos rfl ?_
    have ht1 := turn_ev (l ++ [q]) (l.length : Int) p b
    by_cases hp : p < 0 ∨ p ≥ (q.f1.size : Int)
    · have e1 : turnP (l ++ [q]) (l.length : Int) p b = ([], 1) := by
        unfold turnP
        rw [if_pos hm, rd_last]
        by_cases hp0 : p < 0
        · rw [if_pos hp0]
        · rw [if_neg hp0, if_pos (hp.resolve_left hp0)]
      rw [e1] at ht1
      exact Ev.bind ht1 (Ev.neg (by simp) j1)
    · have hp0 : ¬ p < 0 := fun e => hp (.inl e)
      have hp1 : ¬ p ≥ (q.f1.size : Int) := fun e => hp (.inr e)
      have e1 : turnP (l ++ [q]) (l.length : Int) p b = (l ++ [⟨q.f0, turnedS q.f1 p b⟩], 0) := by
        unfold turnP
        rw [if_pos hm, rd_last, if_neg hp0, if_neg hp1, Int.toNat_natCast, set_last]
      rw [e1] at ht1
      have hsz := turnedS_size q.f1 p b
      have hm2 : atP (l ++ [⟨q.f0, turnedS q.f1 p b⟩]) (l.length : Int) = 0 := at_last l _ (good _ hsz)
      have ht2 := turn_ev (l ++ [⟨q.f0, turnedS q.f1 p b⟩]) (l.length : Int) p b
      have e2 : turnP (l ++ [⟨q.f0, turnedS q.f1 p b⟩]) (l.length : Int) p b = (l ++ [q], 0) := by
        unfold turnP
        rw [if_pos hm2, rd_last, if_neg hp0, if_neg (by show ¬ p ≥ ((turnedS q.f1 p b).size : Int); rw [hsz]; exact hp1), Int.toNat_natCast, set_last]
        show (l ++ [⟨q.f0, turnedS (turnedS q.f1 p b) p b⟩], (0 : Int)) = _
        rw [turned_twice q.f1 p b (by omega) (by omega) y hy hy2]
      rw [e2] at ht2
      obtain ⟨t, hts, hiff⟩ := same_any (l ++ [⟨q.f0, turnedS q.f1 p b⟩]) ((l ++ [q]).map toR) (by simp; omega)
      have htb : ((b == 0) != t) = false := by
        have h1 : t = true ↔ b = 0 := by
          rw [hiff, ← turned_same q.f1 p b (by omega) (by omega) y hy hy2, List.map_append, List.map_append, List.append_cancel_left_eq]
          constructor
          · intro h
            simp only [List.map_cons, List.map_nil, toR, List.cons.injEq, S35.mk.injEq] at h
            exact h.1.2
          · intro h
            simp [toR, h]
        by_cases h0 : b = 0
        · rw [h1.2 h0, h0]; rfl
        · have : t = false := by cases t with
            | false => rfl
            | true => exact absurd (h1.1 rfl) h0
          rw [this]; simp [h0]
      refine Ev.bind ht1 (Ev.pos rfl (Ev.bind ht2 (Ev.pos rfl (Ev.bind (ref_ev (l ++ [q]) (by simp; omega)) (Ev.bind (same_ev (l ++ [q]) (by simp; omega)) (Ev.pos rfl (Ev.bind (ref_ev (l ++ [q]) (by simp; omega)) (Ev.bind hts ?_))))))))
      rw [htb]
      exact Ev.neg (by simp) j1
end Go.Proofs.Ytlkfmmjoiadoiaa.Pure
