-- PACKED by wip/kit/pack.py: what the law's proof uses of PureSnapNotes (printed words and texts of this seat)
import Derived.Test.YthdhkoeaadahaaaZNoteOut
import Derived.Test.YthdhkoeaadahaaaZSnapRef
import Derived.Test.YthdhkoeaadahaaaZPx99
import Derived.Test.YthdhkoeaadahaaaZGood
namespace Go.Proofs.Ythdhkoeaadahaaa.Pure
open Go.RowKit Go.Proofs.Ythdhkoeaadahaaa.P Go.Proofs.Ythdhkoeaadahaaa.VolsCore Go.Proofs.YthdhkoeaadahaaaW.PrintWords Go.Proofs.YthdhkoeaadahaaaW.PrintLast
theorem sawake_ev : Ev (fun _ => counterfoillaw09_awake.f) true := Ev.const (by decide +kernel)
def endN (out : List S74) (most : Int) : List S74 × Int := if (out.length : Int) > most then ([], 15) else (out, 0)
theorem rnote_ev (kept ws : List S74) (l : List S49) (most : Int) (hl : l.length ≤ 1000) (hb : ∀ x ∈ l, x.f1.length ≤ 1000) (hk : kept.length ≤ 1000) (hw : ws.length ≤ 1000) : Ev (fun k => counterfoilref09_Note.l0 k kept l ws most [] 0) (endN (noteOut kept ws l) most) := by
  have inner : ∀ (R : List S74 × Int) (i : Nat), i < l.length → ∀ (d j : Nat) (out : List S74), j + d = (rd_T49 l (i : Int)).f1.length → out.length ≤ 1000 * i + j → Ev (fun k => counterfoilref09_Note.l0 k kept l ws most (out ++ (List.range' j d).filterMap (cellOut kept ws (rd_T49 l (i : Int)))) ((i + 1 : Nat) : Int)) R →
      Ev (fun k => counterfoilref09_Note.l1 k kept l ws most out (i : Int) (j : Int)) R := by
    intro R i hi d
    have hx := hb _ (mem49 hi)
    induction d with
    | zero =>
      intro j out hj ho hR
      rw [List.range'_zero, List.filterMap_nil, List.append_nil] at hR
      refine Ev.succ ?_
      simp only [counterfoilref09_Note.l1]
      rw [wrap_succ (i := i) (by omega)]
      exact Ev.pos (by omega) (Ev.pos (by omega) (Ev.neg (by omega) hR))
    | succ d ih =>
      intro j out hj ho hR
      rw [List.range'_succ, List.filterMap_cons] at hR
      refine Ev.succ ?_
      simp only [counterfoilref09_Note.l1]
      rw [wrap_succ (i := j) (by omega), rdOf_gets, Int.toNat_natCast]
      refine Ev.pos (by omega) (Ev.pos (by omega) (Ev.pos (by omega) (Ev.bind (last_ev kept _ _ hk) (Ev.bind (last_ev ws _ _ hw) ?_))))
      unfold cellOut at hR
      unfold lastP
      cases hq : lastQ kept (rd_T49 l (i : Int)).f0 (j : Int) with
      | some s =>
        rw [hq] at hR
        refine Ev.pos rfl (Ev.pos (by omega) (ih (j + 1) _ (by omega) (by simp; omega) ?_))
        rw [List.append_assoc]
        exact hR
      | none =>
        rw [hq] at hR
        refine Ev.neg (by simp) (Ev.pos (by omega) ?_)
        cases hq2 : lastQ ws (rd_T49 l (i : Int)).f0 (j : Int) with
        | some s =>
          rw [hq2] at hR
          refine Ev.pos rfl (Ev.pos (by omega) (ih (j + 1) _ (by omega) (by simp; omega) ?_))
          rw [List.append_assoc]
          exact hR
        | none =>
          rw [hq2] at hR
          exact Ev.neg (by simp) (ih (j + 1) _ (by omega) (by omega) hR)
  have outer : ∀ (d i : Nat) (out : List S74), i + d = l.length → out.length ≤ 1000 * i → Ev (fun k => counterfoilref09_Note.l0 k kept l ws most out (i : Int)) (endN (out ++ noteOut kept ws (l.drop i)) most) := by
    intro d
    induction d with
    | zero =>
      intro i out hi ho
      refine Ev.succ ?_
      simp only [counterfoilref09_Note.l0]
      rw [List.drop_eq_nil_of_le (by omega)]
      have e : out ++ noteOut kept ws [] = out := List.append_nil out
      rw [e]
      refine Ev.neg (by omega) ?_
      by_cases h : (out.length : Int) > most
      · have e : endN out most = ([], 15) := if_pos h
        rw [e]; exact Ev.pos h (Ev.now _)
      · have e : endN out most = (out, 0) := if_neg h
        rw [e]; exact Ev.neg h (Ev.now _)
    | succ d ih =>
      intro i out hi ho
      have hx := hb _ (mem49 (l := l) (i := i) (by omega))
      refine Ev.succ ?_
      simp only [counterfoilref09_Note.l0]
      refine Ev.pos (by omega) (inner _ i (by omega) (rd_T49 l (i : Int)).f1.length 0 out (by omega) (by omega) ?_)
      rw [← List.range_eq_range']
      have hlen : ((List.range (rd_T49 l (i : Int)).f1.length).filterMap (cellOut kept ws (rd_T49 l (i : Int)))).length ≤ (rd_T49 l (i : Int)).f1.length := by
        have := List.length_filterMap_le (cellOut kept ws (rd_T49 l (i : Int))) (List.range (rd_T49 l (i : Int)).f1.length)
        rwa [List.length_range] at this
      have := ih (i + 1) (out ++ (List.range (rd_T49 l (i : Int)).f1.length).filterMap (cellOut kept ws (rd_T49 l (i : Int)))) (by omega) (by rw [List.length_append]; omega)
      have e : noteOut kept ws (l.drop i) = volOut kept ws (rd_T49 l (i : Int)) ++ noteOut kept ws (l.drop (i + 1)) := by
        rw [drop49 l (i := i) (by omega)]
        unfold noteOut
        rw [List.flatMap_cons]
      rw [e, ← List.append_assoc]
      exact this
  have := outer l.length 0 [] (by omega) (by simp)
  rw [List.drop_zero, List.nil_append] at this
  exact this
theorem SnapNotes : counterfoillaw09_SnapNotes.Pure := by
  intro kept l ws most hk hl hw _
  have hlen : l.length < 9223372036854775807 := by omega
  have hklen : kept.length < 9223372036854775807 := by omega
  suffices h : Ev (fun k => counterfoillaw09_SnapNotes.f k kept l ws most) true by
    obtain ⟨k, hk⟩ := h
    exact ⟨k, hk k (Nat.le_refl _)⟩
  have dull : Ev (fun k => counterfoillaw09_SnapNotes.j0 k kept l ws most true) true := by
    refine Ev.succ ?_
    simp only [counterfoillaw09_SnapNotes.j0]
    exact Ev.pos (by simp) (Ev.bind sawake_ev (Ev.now _))
  unfold counterfoillaw09_SnapNotes.f
  obtain ⟨t, ht, hs⟩ := small_ev l ws hlen
  refine Ev.bind ht ?_
  cases t with
  | false => exact Ev.neg (by simp) dull
  | true =>
    obtain ⟨h1, h2, h3⟩ := hs rfl
    have hb : ∀ x ∈ l, x.f1.length ≤ 1000 := fun x hx => by have := h3 x hx; omega
    refine Ev.pos rfl ?_
    by_cases h4 : (kept.length : Int) > 200
    · rw [decide_eq_true h4]; exact dull
    · rw [decide_eq_false h4]
      have hN : Ev (fun _ => snap_Note.f kept l ws most) (noteR kept l ws most) := Ev.const (by unfold snap_Note.f; rw [if_pos (by omega)])
      have hR : Ev (fun k => counterfoilref09_Note.f k kept l ws most) (noteR kept l ws most) := by
        unfold counterfoilref09_Note.f
        refine Ev.bind (rsnap_ev kept l (by omega) hb (by omega)) ?_
        cases hs : snapB kept l with
        | false =>
          have e : noteR kept l ws most = ([], 1) := by unfold noteR; rw [if_pos hs]
          rw [e]
          exact Ev.neg (by simp) (Ev.now _)
        | true =>
          refine Ev.pos rfl (Ev.bind (rcheck_ev l ws (by omega) hb (by omega)) ?_)
          by_cases hz : checkV l ws = 0
          · have hck := (snapB_iff.1 hs).1
            have hst := (snapB_iff.1 hs).2
            have e : noteR kept l ws most = endN (noteOut kept ws l) most := by
              rw [note_ok hs hz, out_eq hck hz]
              unfold endN
              rw [more_length hst]
              have ei : ((kept.length + (freshM kept ws).length : Nat) : Int) = (kept.length : Int) + ((freshM kept ws).length : Int) := by omega
              rw [ei]
            rw [e]
            exact Ev.pos hz (rnote_ev kept ws l most (by omega) hb (by omega) (by omega))
          · have e : noteR kept l ws most = ([], checkV l ws) := by unfold noteR; rw [if_neg (by rw [hs]; simp), if_pos hz]
            rw [e]
            exact Ev.neg hz (Ev.now _)
      have hl2 : (noteR kept l ws most).1.length ≤ 100000 := by
        unfold noteR
        split
        · simp
        · split
          · simp
          · split
            · simp
            · have h9 := FoldCore.foldW_length (kept ++ (pickR l (freshM kept ws)).1)
              have h8 := pickR_length l (freshM kept ws)
              have h7 := freshM_length kept ws
              rw [List.length_append] at h9
              show (foldW _).length ≤ _
              omega
      refine Ev.succ ?_
      simp only [counterfoillaw09_SnapNotes.j0]
      exact Ev.neg (by simp) (Ev.bind hN (Ev.bind hR (Ev.bind (FoldCore.eqw_self _ hl2) (Ev.pos rfl (Ev.pos rfl (Ev.bind (snapright_ev kept l hklen) (Ev.bind (rsnap_ev kept l (by omega) hb (by omega)) (Ev.pos (by simp) (Ev.bind sawake_ev (Ev.now _))))))))))
end Go.Proofs.Ythdhkoeaadahaaa.Pure
