/- What is sent lies behind all, or the call is refused, as the reference says; no condition. -/
import Derived.Test.YtlkfmmjoiadoiaaWiresCore
import Derived.Test.YtlkfmmjoiadoiaaPx42
namespace Go.Proofs.Ytlkfmmjoiadoiaa.Pure
open Go.RowKit Go.Proofs.Ytlkfmmjoiadoiaa.P Go.Proofs.Ytlkfmmjoiadoiaa.WiresCore Go.Proofs.YtlkfmmjoiadoiaaW.PrintWords Go.Proofs.YtlkfmmjoiadoiaaW.PrintLast
theorem sends_no (l : List S24) (p : S24) (w : Int) (hw : w ≠ 0) : Ev (fun k => counterfoillaw16_WiresSends.j2 k l [] w (rightP l) w p.f0 p.f1) true := by
  refine Ev.succ ?_
  simp only [counterfoillaw16_WiresSends.j2]
  refine Ev.neg hw (Ev.pos (by simp) (Ev.pos (by simp) (Ev.bind (right_ev l) (Ev.pos (by simp) (Ev.bind awake_ev (Ev.now _))))))
theorem sends_yes (l : List S24) (p : S24) (hr : rightP l = true) : Ev (fun k => counterfoillaw16_WiresSends.j2 k l (l ++ [p]) 0 true 0 p.f0 p.f1) true := by
  have hl := rightP_len hr
  refine Ev.succ ?_
  simp only [counterfoillaw16_WiresSends.j2]
  refine Ev.pos (by simp) (Ev.bind (ref_ev l (by omega)) ?_)
  have hp := put_ev (l.map toR) l.length [toR p] (by simp) (by simp; omega)
  have e : (l.map toR).take l.length ++ ([toR p] ++ (l.map toR).drop (l.length + 1)) = (l ++ [p]).map toR := by
    rw [List.take_of_length_le (by simp), List.drop_eq_nil_of_le (by simp), List.append_nil, List.map_append, List.map_singleton]
  rw [e] at hp
  refine Ev.bind hp (Ev.bind (same_ev (l ++ [p]) (by simp; omega)) (Ev.pos (by simp) (Ev.pos (by simp) (Ev.bind (right_ev l) (Ev.pos hr (Ev.bind awake_ev (Ev.now _)))))))
theorem WiresSends : counterfoillaw16_WiresSends.Pure := by
  intro l a0 a1 hl _ _
  have hlen : l.length < 9223372036854775807 := by omega
  suffices h : Ev (fun k => counterfoillaw16_WiresSends.f k l a0 a1) true by
    obtain ⟨k, hk⟩ := h
    exact ⟨k, hk k (Nat.le_refl _)⟩
  unfold counterfoillaw16_WiresSends.f
  have dull : Ev (fun k => counterfoillaw16_WiresSends.j0 k l true a0 a1) true := by
    refine Ev.succ ?_
    simp only [counterfoillaw16_WiresSends.j0]
    exact Ev.pos (by simp) (Ev.bind awake_ev (Ev.now _))
  obtain ⟨t, ht, hfew⟩ := few_ev l hlen
  refine Ev.bind ht ?_
  cases t with
  | false => exact Ev.neg (by simp) dull
  | true =>
    have hl3 := hfew rfl
    refine Ev.pos rfl ?_
    by_cases h5 : (a1.size : Int) > 5000
    · rw [decide_eq_true h5]; exact dull
    rw [decide_eq_false h5]
    obtain ⟨p, hp⟩ : ∃ p : S24, p = ⟨a0, a1⟩ := ⟨_, rfl⟩
    obtain rfl : a0 = p.f0 := by rw [hp]
    obtain rfl : a1 = p.f1 := by rw [hp]
    clear hp
    refine Ev.succ ?_
    simp only [counterfoillaw16_WiresSends.j0]
    refine Ev.neg (by simp) (Ev.bind (send_ev l p) (Ev.bind (ref_ev l hl3) (Ev.bind (rright_map_ev l hl3) ?_)))
    have refuse : (!rightP l || !siteB p.f0) = true → Ev (fun k => counterfoillaw16_WiresSends.j1 k l (sendS l p).1 (sendS l p).2 (rightP l) 0 true p.f0 p.f1) true := fun h => by
      have e : sendS l p = ([], 1) := by unfold sendS; rw [if_pos h]
      rw [e]
      refine Ev.succ ?_
      simp only [counterfoillaw16_WiresSends.j1]
      exact Ev.pos (by simp) (sends_no l p 1 (by omega))
    cases hr : rightP l with
    | false =>
      rw [hr] at refuse
      exact Ev.neg (by simp) (refuse rfl)
    | true =>
      rw [hr] at refuse
      refine Ev.pos rfl ?_
      by_cases h0 : p.f0 < 0
      · refine Ev.pos h0 (refuse ?_)
        cases hs : siteB p.f0 with
        | false => rfl
        | true => have := (siteB_iff _).1 hs; omega
      refine Ev.neg h0 ?_
      by_cases h1 : p.f0 > 1
      · rw [decide_eq_true h1]
        refine refuse ?_
        cases hs : siteB p.f0 with
        | false => rfl
        | true => have := (siteB_iff _).1 hs; omega
      rw [decide_eq_false h1]
      have hs : siteB p.f0 = true := (siteB_iff _).2 (by omega)
      have e : sendS l p = (if (p.f1.size : Int) > 4103 then (([] : List S24), (5 : Int)) else if l.length = 256 then ([], 6) else (l ++ [p], 0)) := by unfold sendS; rw [hr, hs]; rfl
      have hl2 := rightP_len hr
      refine Ev.succ ?_
      simp only [counterfoillaw16_WiresSends.j1]
      refine Ev.neg (by simp) ?_
      by_cases h2 : (p.f1.size : Int) > 4103
      · rw [e, if_pos h2]
        have := sends_no l p 5 (by omega)
        rw [hr] at this
        exact Ev.pos h2 this
      rw [if_neg h2] at e
      refine Ev.neg h2 ?_
      by_cases h3 : l.length = 256
      · rw [e, if_pos h3]
        have := sends_no l p 6 (by omega)
        rw [hr] at this
        exact Ev.pos (by omega) this
      rw [e, if_neg h3]
      exact Ev.neg (by omega) (sends_yes l p hr)
end Go.Proofs.Ytlkfmmjoiadoiaa.Pure
