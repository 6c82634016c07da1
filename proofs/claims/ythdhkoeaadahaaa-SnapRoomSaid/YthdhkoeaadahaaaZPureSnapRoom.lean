-- PACKED by wip/kit/pack.py: what the law's proof uses of PureSnapRoom (printed words and texts of this seat)
import Derived.Test.YthdhkoeaadahaaaZNoteOut
import Derived.Test.YthdhkoeaadahaaaZFoldPure
import Derived.Test.YthdhkoeaadahaaaZPx100
import Derived.Test.YthdhkoeaadahaaaZGood
namespace Go.Proofs.Ythdhkoeaadahaaa.Pure
open Go.RowKit Go.Proofs.Ythdhkoeaadahaaa.P Go.Proofs.Ythdhkoeaadahaaa.VolsCore Go.Proofs.YthdhkoeaadahaaaW.PrintWords Go.Proofs.YthdhkoeaadahaaaW.PrintLast Go.Proofs.Ythdhkoeaadahaaa.SortCore
theorem sawake_ev : Ev (fun _ => counterfoillaw09_awake.f) true := Ev.const (by decide +kernel)
theorem fresh_none {kept ws : List S74} {l : List S49} : freshM (moreW kept l ws) ws = [] := by
  rw [List.eq_nil_iff_forall_not_mem]
  intro m hm
  obtain ⟨h1, h2⟩ := fresh_iff.1 hm
  rw [lastQ_more] at h2
  cases hk : lastQ kept m.f0 m.f1 with
  | some t => rw [hk] at h2; cases h2
  | none => rw [hk, if_pos h1] at h2; cases h2
theorem SnapRoom : counterfoillaw09_SnapRoom.Pure := by
  intro kept l ws hk hl hw
  have hlen : l.length < 9223372036854775807 := by omega
  have hklen : kept.length < 9223372036854775807 := by omega
  suffices h : Ev (fun k => counterfoillaw09_SnapRoom.f k kept l ws) true by
    obtain ⟨k, hk⟩ := h
    exact ⟨k, hk k (Nat.le_refl _)⟩
  have dull : Ev (fun k => counterfoillaw09_SnapRoom.j0 k kept l ws true) true := by
    refine Ev.succ ?_
    simp only [counterfoillaw09_SnapRoom.j0]
    exact Ev.pos (by simp) (Ev.bind sawake_ev (Ev.now _))
  unfold counterfoillaw09_SnapRoom.f
  obtain ⟨t, ht, hs⟩ := small_ev l ws hlen
  refine Ev.bind ht ?_
  cases t with
  | false => exact Ev.neg (by simp) dull
  | true =>
    obtain ⟨h1, h2, h3⟩ := hs rfl
    refine Ev.pos rfl ?_
    by_cases h4 : (kept.length : Int) > 200
    · exact Ev.pos h4 dull
    refine Ev.neg h4 (Ev.bind (snapright_ev kept l hklen) ?_)
    cases hsn : snapB kept l with
    | false => exact Ev.neg (by simp) dull
    | true =>
      refine Ev.pos rfl (Ev.bind (check_ev l ws) ?_)
      by_cases hz : checkV l ws = 0
      · have e0 : (checkV l ws != 0) = false := by rw [hz]; rfl
        rw [e0]
        have hck := (snapB_iff.1 hsn).1
        have hst := (snapB_iff.1 hsn).2
        obtain ⟨hr, hc2⟩ := checkV_right hz
        have hml := more_length (l := l) (ws := ws) hst
        have hol := noteOut_length kept ws l
        rw [out_eq hck hz] at hol
        have hfl := freshM_length kept ws
        have hcm : checkV l (moreW kept l ws) = 0 := checkV_ok hr (more_check hck hz)
        have hsm : snapB (moreW kept l ws) l = true := snapB_iff.2 ⟨hcm, more_strict kept l ws⟩
        have hmm : moreW (moreW kept l ws) l ws = moreW kept l ws := by
          have e : moreW (moreW kept l ws) l ws = foldW (moreW kept l ws ++ (freshM (moreW kept l ws) ws).map (heldV l)) := rfl
          rw [e, fresh_none, List.map_nil, List.append_nil]
          exact fold_strict weakW (more_strict kept l ws)
        have n1 : ∀ n : Int, (totalB l : Int) ≤ n → Ev (fun _ => snap_Note.f kept l ws n) (moreW kept l ws, 0) := fun n hn => Ev.const (by
          unfold snap_Note.f
          rw [if_pos (by omega), note_ok hsn hz, if_neg (by omega)])
        have n2 : Ev (fun _ => snap_Note.f (moreW kept l ws) l ws ((moreW kept l ws).length : Int)) (moreW kept l ws, 0) := Ev.const (by
          unfold snap_Note.f
          rw [if_pos (by omega), note_ok hsm hz, fresh_none, if_neg (by simp), hmm])
        have loop : ∀ (d i : Nat) (n : Int), i + d = l.length → n + (totalB (l.drop i) : Int) = (totalB l : Int) → 0 ≤ n → n ≤ 1000 * (i : Int) → Ev (fun k => counterfoillaw09_SnapRoom.l0 k kept l ws n l (l.length : Int) (i : Int)) true := by
          intro d
          induction d with
          | zero =>
            intro i n hi hn h0 hb
            rw [List.drop_eq_nil_of_le (by omega)] at hn
            have hn2 : n = (totalB l : Int) := by have : totalB [] = 0 := rfl; omega
            subst hn2
            refine Ev.succ ?_
            simp only [counterfoillaw09_SnapRoom.l0]
            exact Ev.neg (by omega) (Ev.bind (n1 _ (Int.le_refl _)) (Ev.bind n2 (Ev.pos rfl (Ev.pos (by simp only; omega) (Ev.pos rfl (Ev.bind (FoldCore.eqw_self _ (by simp only; omega)) (Ev.pos rfl (Ev.bind sawake_ev (Ev.now _)))))))))
          | succ d ih =>
            intro i n hi hn h0 hb
            have hx := h3 _ (mem49 (l := l) (i := i) (by omega))
            have e : totalB (l.drop i) = (rd_T49 l (i : Int)).f1.length + totalB (l.drop (i + 1)) := by
              rw [drop49 l (i := i) (by omega)]
              unfold totalB
              rw [List.map_cons, List.sum_cons]
            refine Ev.succ ?_
            simp only [counterfoillaw09_SnapRoom.l0]
            rw [wrap_succ (by omega), show wrap64 (n + ((rd_T49 l (i : Int)).f1.length : Int)) = n + ((rd_T49 l (i : Int)).f1.length : Int) by unfold wrap64; omega]
            exact Ev.pos (by omega) (Ev.pos (by omega) (Ev.pos (by omega) (ih (i + 1) _ (by omega) (by omega) (by omega) (by omega))))
        refine Ev.succ ?_
        simp only [counterfoillaw09_SnapRoom.j0]
        exact Ev.neg (by simp) (loop l.length 0 0 (by omega) (by rw [List.drop_zero]; omega) (Int.le_refl _) (by omega))
      · have e0 : (checkV l ws != 0) = true := bne_iff_ne.2 hz
        rw [e0]
        exact dull
end Go.Proofs.Ythdhkoeaadahaaa.Pure
