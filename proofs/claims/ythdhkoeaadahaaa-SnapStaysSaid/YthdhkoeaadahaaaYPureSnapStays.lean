-- PACKED by wip/kit/pack.py: what the law's proof uses of PureSnapStays (printed words and texts of this seat)
import Derived.Test.YthdhkoeaadahaaaYNoteOut
import Derived.Test.YthdhkoeaadahaaaYEWSnapStays
import Derived.Test.YthdhkoeaadahaaaYGood
namespace Go.Proofs.Ythdhkoeaadahaaa.Pure
open Go.RowKit Go.Proofs.Ythdhkoeaadahaaa.P Go.Proofs.Ythdhkoeaadahaaa.VolsCore Go.Proofs.YthdhkoeaadahaaaW.PrintWords Go.Proofs.YthdhkoeaadahaaaW.PrintLast Go.Proofs.Ythdhkoeaadahaaa.SortCore
theorem sawake_ev : Ev (fun _ => counterfoillaw09_awake.f) true := Ev.const (by decide +kernel)
theorem totalB_right {l : List S49} (h : rightV l = true) : totalB l ≤ 128 := by
  obtain ⟨h1, h2⟩ := rightV_small h
  have key : ∀ l : List S49, (∀ x ∈ l, x.f1.length ≤ 32) → totalB l ≤ 32 * l.length := by
    intro l
    induction l with
    | nil => intro _; exact Nat.le_refl _
    | cons x r ih =>
      intro h
      have e1 := h x List.mem_cons_self
      have e2 := ih (fun y hy => h y (List.mem_cons_of_mem _ hy))
      unfold totalB at e2 ⊢
      rw [List.map_cons, List.sum_cons, List.length_cons]
      omega
  have := key l h2
  omega
theorem SnapStays : counterfoillaw09_SnapStays.Pure := by
  intro l ls most hl hls _
  have hlen : l.length < 9223372036854775807 := by omega
  suffices h : Ev (fun k => counterfoillaw09_SnapStays.f k l ls most) true by
    obtain ⟨k, hk⟩ := h
    exact ⟨k, hk k (Nat.le_refl _)⟩
  have dull : Ev (fun k => counterfoillaw09_SnapStays.j0 k l ls most true) true := by
    refine Ev.succ ?_
    simp only [counterfoillaw09_SnapStays.j0]
    exact Ev.pos (by simp) (Ev.bind sawake_ev (Ev.now _))
  unfold counterfoillaw09_SnapStays.f
  obtain ⟨t, ht, hs⟩ := small_ev l [] hlen
  refine Ev.bind ht ?_
  cases t with
  | false => exact Ev.neg (by simp) dull
  | true =>
    obtain ⟨h1, h2, h3⟩ := hs rfl
    have hb : ∀ x ∈ l, x.f1.length ≤ 1000 := fun x hx => by have := h3 x hx; omega
    refine Ev.pos rfl (Ev.bind (right_ev l (by omega) hb) ?_)
    cases hr : rightV l with
    | false => exact dull
    | true =>
      have loop : ∀ (d i : Nat) (now : List S49) (kept : List S74), i + d = ls.length → rightV now = true → snapB kept now = true → applyV now kept = l → kept.length ≤ 128 → Ev (fun k => counterfoillaw09_SnapStays.l0 k l ls most now kept (i : Int)) true := by
        intro d
        induction d with
        | zero =>
          intro i now kept hi _ _ _ _
          refine Ev.succ ?_
          simp only [counterfoillaw09_SnapStays.l0]
          refine Ev.neg (by omega) (Ev.succ ?_)
          simp only [counterfoillaw09_SnapStays.j2]
          exact Ev.neg (by simp) (Ev.bind sawake_ev (Ev.now _))
        | succ d ih =>
          intro i now kept hi hrn hsn hback hkl
          have ih0 := ih (i + 1) now kept (by omega) hrn hsn hback hkl
          refine Ev.succ ?_
          simp only [counterfoillaw09_SnapStays.l0]
          refine Ev.pos (by omega) (Ev.succ ?_)
          simp only [counterfoillaw09_SnapStays.j2]
          by_cases h12 : (i : Int) < 12
          · refine Ev.pos (by simpa using h12) (Ev.pos (by omega) (Ev.pos (by omega) ?_))
            rw [wrap_succ (by omega)]
            obtain ⟨ws, hws⟩ : ∃ ws, rd_L3 ls (i : Int) = ws := ⟨_, rfl⟩
            rw [hws]
            by_cases h20 : (ws.length : Int) > 20
            · exact Ev.pos h20 ih0
            · refine Ev.neg h20 (Ev.bind (apply_ev now ws) (Ev.bind (Ev.const (r := noteR kept now ws most) (by unfold snap_Note.f; rw [if_pos (by omega)])) ?_))
              have hck := (snapB_iff.1 hsn).1
              have hst := (snapB_iff.1 hsn).2
              by_cases hz : checkV now ws = 0
              · obtain ⟨_, hc2⟩ := checkV_right hz
                have ea : applyR now ws = (applyV now ws, 0) := by unfold applyR; rw [if_pos hz]
                rw [ea, note_ok hsn hz]
                refine Ev.pos rfl ?_
                by_cases hm : (kept.length : Int) + ((freshM kept ws).length : Int) > most
                · have en : (if (kept.length : Int) + ((freshM kept ws).length : Int) > most then (([], 15) : List S74 × Int) else (moreW kept now ws, 0)) = ([], 15) := if_pos hm
                  rw [en]
                  refine Ev.neg (by simp) (Ev.pos rfl (Ev.succ ?_))
                  simp only [counterfoillaw09_SnapStays.j3]
                  rw [wrap_succ (by omega)]
                  exact Ev.neg (by simp) (Ev.neg (by simp) ih0)
                · have en : (if (kept.length : Int) + ((freshM kept ws).length : Int) > most then (([], 15) : List S74 × Int) else (moreW kept now ws, 0)) = (moreW kept now ws, 0) := if_neg hm
                  rw [en]
                  have hml := more_length (l := now) (ws := ws) hst
                  have hrn2 : rightV (applyV now ws) = true := apply_right ws now (fun x hx => (checkL_all now ws hc2 x hx).2) hrn
                  have hsn2 : snapB (moreW kept now ws) (applyV now ws) = true := snapB_iff.2 ⟨checkV_ok hrn2 (fun x hx => by rw [applyV_same]; exact more_check hck hz x hx), more_strict kept now ws⟩
                  have hb2 : applyV (applyV now ws) (moreW kept now ws) = l := (back_more hck hz).trans hback
                  have hol := noteOut_length kept ws now
                  rw [out_eq hck hz] at hol
                  have htb := totalB_right hrn
                  have ih2 := ih (i + 1) (applyV now ws) (moreW kept now ws) (by omega) hrn2 hsn2 hb2 (by omega)
                  refine Ev.pos rfl (Ev.succ ?_)
                  simp only [counterfoillaw09_SnapStays.j3]
                  refine Ev.neg (by simp) (Ev.pos (by trivial) (Ev.neg (by omega) (Ev.succ ?_)))
                  simp only [counterfoillaw09_SnapStays.j4]
                  rw [decide_eq_false (by omega), wrap_succ (by omega)]
                  have hbk := back_ev (moreW kept now ws) (applyV now ws) (by omega)
                  unfold backR at hbk
                  rw [if_pos hsn2, hb2] at hbk
                  have hv := vsame_ev l l
                  rw [vsame_self, hr] at hv
                  exact Ev.neg (by simp) (Ev.bind hbk (Ev.pos (by trivial) (Ev.bind hv (Ev.pos (by trivial) ih2))))
              · have ea : applyR now ws = ([], checkV now ws) := by unfold applyR; rw [if_neg hz]
                have en : noteR kept now ws most = ([], checkV now ws) := by unfold noteR; rw [if_neg (by rw [hsn]; simp), if_pos hz]
                rw [ea, en]
                refine Ev.neg hz (Ev.pos rfl (Ev.neg hz (Ev.succ ?_)))
                simp only [counterfoillaw09_SnapStays.j3]
                rw [wrap_succ (by omega)]
                exact Ev.neg (by simp) (Ev.neg hz ih0)
          · exact Ev.neg (by simpa using h12) (Ev.bind sawake_ev (Ev.now _))
      refine Ev.succ ?_
      simp only [counterfoillaw09_SnapStays.j0]
      exact Ev.neg (by simp) (loop ls.length 0 l [] (by omega) hr (snapB_iff.2 ⟨by unfold checkV; rw [if_pos hr]; rfl, List.Pairwise.nil⟩) rfl (by simp))
end Go.Proofs.Ythdhkoeaadahaaa.Pure
