-- PACKED by wip/kit/pack.py: what the law's proof uses of ENote (printed words and texts of this seat)
import Derived.Test.YthdhkoeaadahaaaYNoteCore
namespace Go.Proofs.Ythdhkoeaadahaaa.P
open Go.RowKit Go.Proofs.YthdhkoeaadahaaaW.PrintWords Go.Proofs.YthdhkoeaadahaaaW.PrintLast Go.Proofs.YthdhkoeaadahaaaW.PrintMore Go.Proofs.Ythdhkoeaadahaaa.VolsCore
attribute [local go_sem] Oper.semAt_some
set_option linter.unusedVariables false
set_option linter.unusedSimpArgs false
def snap_Note.f (kept : List S74) (l : List S49) (ws : List S74) (most : Int) : Option (List S74 × Int) := if kept.length ≤ 5000 ∧ ws.length ≤ 5000 then some (noteR kept l ws most) else none
theorem ev_at {α : Type} {f : Nat → Option α} {r : α} (h : Ev f r) : ∃ k, f k = some r := by
  obtain ⟨k, hk⟩ := h
  exact ⟨k, hk k (Nat.le_refl _)⟩
set_option maxRecDepth 100000 in
set_option maxHeartbeats 8000000 in
theorem note_gen (A0 : Option Addr) (c0 : Nat) (l0 : List S74) (A1 : Option Addr) (c1 : Nat) (l1 : List S49) (A2 : Option Addr) (c2 : Nat) (l2 : List S74) (a3 : Int) (w : World) (hr0 : Kd.C k74 w A0 l0.length l0) (hc0 : l0.length ≤ c0) (hr1 : Kd.C k49 w A1 l1.length l1) (hc1 : l1.length ≤ c1) (hr2 : Kd.C k74 w A2 l2.length l2) (hc2 : l2.length ≤ c2) (h1 : l0.length ≤ 5000) (h2 : l2.length ≤ 5000) :
    Calls Try.prog 87 #[.slice A0 l0.length c0, .slice A1 l1.length c1, .slice A2 l2.length c2, .int .i64 a3] w fun e w' => ∃ v0_ : Value, e = .returned (.tuple #[v0_, .int .i64 (noteR l0 l1 l2 a3).2]) ∧ Kd.R k74 74 w' w.heap.size (fun _ => True) v0_ (noteR l0 l1 l2 a3).1 ∧ Below w.heap.size w w' := by
  have hu25 := Try.underlying25
  have HR0 := Aside0.mk hr0
  have HR1 := Aside0.mk hr1
  have HR2 := Aside0.mk hr2
  obtain ⟨k1, hk1⟩ := ev_at (snapright_ev l0 l1 (by omega))
  obtain ⟨b1, hb1⟩ : ∃ b, snapB l0 l1 = b := ⟨_, rfl⟩
  rw [hb1] at hk1
  obtain ⟨k3, hk3⟩ := ev_at (FoldCore.marks_ev l2 (by omega))
  have HCR := Aside0.mk (show ∀ W : World, Below w.heap.size w W → Calls Try.prog 89 #[.slice A0 l0.length c0, .slice A1 l1.length c1] W fun e w' => e = .returned (.bool b1) ∧ Below W.heap.size W w' from fun W hW => snap_Right.calls k1 A0 c0 l0 A1 c1 l1 b1 W (Kd.C_below hr0 hW) hc0 (Kd.C_below hr1 hW) hc1 hk1)
  obtain ⟨e1, he1⟩ : ∃ e, checkV l1 l2 = e := ⟨_, rfl⟩
  have HCC := Aside0.mk (show ∀ W : World, Below w.heap.size w W → Calls Try.prog 59 #[.slice A1 l1.length c1, .slice A2 l2.length c2] W fun e w' => e = .returned (.int .i64 e1) ∧ Below W.heap.size W w' from fun W hW => vols_Check.calls A1 c1 l1 A2 c2 l2 e1 W (Kd.C_below hr1 hW) hc1 (Kd.C_below hr2 hW) hc2 (by rw [← he1]; rfl))
  have HCM := Aside0.mk (show ∀ W : World, Below w.heap.size w W → Calls Try.prog 54 #[.slice A2 l2.length c2] W fun e w' => ∃ v : Value, e = .returned v ∧ Kd.R k124 124 w' W.heap.size (fun _ => True) v ((foldW l2).map FoldCore.markOf) ∧ Below W.heap.size W w' from fun W hW => fold_Marks.calls k3 A2 c2 l2 _ W (Kd.C_below hr2 hW) hc2 hk3)
  have HB1 := Aside0.mk hb1
  have HE1 := Aside0.mk he1
  clear hr0 hr1 hr2 hk1 hk3 hb1 he1
  have BX := Aside0.mk (blk_new w (.cells #[.slice A0 l0.length c0] 25))
  have HB := Aside0.mk (show Below w.heap.size w (w.alloc (.cells #[.slice A0 l0.length c0] 25)) from below_alloc (Below.refl _ _) _)
  cases b1 with
  | false =>
    have HN := Aside0.mk (show noteR l0 l1 l2 a3 = ([], 1) by unfold noteR; rw [if_pos HB1.out])
    rw [HN.out]
    clear HN
    go_enter Try.func87, Try.ntmps87
    go_wp2_with (go_at_call 89; refine (HCR.out _ HB.out).mono ?_; rintro e w2 ⟨rfl, hb⟩; have HB2 := Aside0.mk (HB.out.trans (hb.mono HB.out.size)); clear hb)
    go_ret2
    exact ⟨_, rfl, Kd.R_nil _ _ _ _ _, HB2.out⟩
  | true =>
    have hnb : ¬ (snapB l0 l1 = false) := by rw [HB1.out]; simp
    by_cases hz : e1 = 0
    · have e0 : (e1 != 0) = false := by rw [hz]; rfl
      have e0' : decide (e1 = 0) = true := decide_eq_true hz
      have HZ := Aside0.mk hz
      obtain ⟨fr, hfr⟩ : ∃ fr, freshM l0 l2 = fr := ⟨_, rfl⟩
      have HFR := Aside0.mk hfr
      have HFL := Aside0.mk (show fr.length ≤ 5000 by rw [← hfr]; have := freshM_length l0 l2; omega)
      have HML := Aside0.mk (show ((foldW l2).map FoldCore.markOf).length ≤ 1000000 by rw [List.length_map]; have := FoldCore.foldW_length l2; omega)
      obtain ⟨zs, hzs⟩ : ∃ z, wrap64 ((l0.length : Int) + (fr.length : Int)) = z := ⟨_, rfl⟩
      have HZS := Aside0.mk (show zs = (l0.length : Int) + (fr.length : Int) by have := HFL.out; rw [← hzs]; unfold wrap64; omega)
      subst hz
      clear hfr
      by_cases hm : (l0.length : Int) + (fr.length : Int) > a3
      · have HN := Aside0.mk (show noteR l0 l1 l2 a3 = ([], 15) by unfold noteR; rw [if_neg hnb, if_neg (by rw [HE1.out]; simp), HFR.out, if_pos hm])
        rw [HN.out]
        have em : decide (zs > a3) = true := decide_eq_true (by have := HZS.out; omega)
        have em' : decide (a3 < zs) = true := em
        clear HN hnb hm
        go_enter Try.func87, Try.ntmps87
        go_wp2_with (first
          | (go_at_call 89; refine (HCR.out _ HB.out).mono ?_; rintro e w2 ⟨rfl, hb⟩; have HB2 := Aside0.mk (HB.out.trans (hb.mono HB.out.size)); have BX2 := Aside0.mk (blk_below BX.out hb); clear hb)
          | (go_at_call 59; refine (HCC.out _ HB2.out).mono ?_; rintro e w3 ⟨rfl, hb⟩; have HB3 := Aside0.mk (HB2.out.trans (hb.mono HB2.out.size)); have BX3 := Aside0.mk (blk_below BX2.out hb); clear hb)
          | (go_at_call 54; refine (HCM.out _ HB3.out).mono ?_; rintro e w4 ⟨v4, rfl, ho, hb⟩; have HO4 := Aside0.mk ho; have HB4 := Aside0.mk hb; have BX4 := Aside0.mk (blk_below BX3.out hb); clear ho hb)
          | (go_at_call 120; refine (delete_note w.heap.size A0 c0 l0 v4 _ w3.heap.size w3 w4 (Kd.C_below HR0.out HB3.out) hc0 BX4.out (blk_lt BX3.out) rfl HO4.out HB4.out HML.out).mono ?_; rintro e w5 ⟨v5, rfl, ho, hb⟩; have HO5 := Aside0.mk (show Kd.R k124 124 w5 w3.heap.size (fun _ => True) v5 fr from HFR.out ▸ ho); obtain ⟨A5, c5, e5⟩ := Kd.R_slice HO5.out; subst e5; have HB5 := Aside0.mk (HB3.out.trans (hb.mono HB3.out.size)); have BX5 := Aside0.mk (blk_below BX3.out hb); have b5 : w5.cell? ⟨w.heap.size, 0, none⟩ = some (.slice A0 l0.length c0) := (blk_cell BX5.out 0).trans rfl; clear ho hb))
        go_ret2
        exact ⟨_, rfl, Kd.R_nil _ _ _ _ _, HB5.out⟩
      · have HN := Aside0.mk (show noteR l0 l1 l2 a3 = (foldW (l0 ++ (pickR l1 fr).1), 0) by unfold noteR; rw [if_neg hnb, if_neg (by rw [HE1.out]; simp), HFR.out, if_neg hm])
        rw [HN.out]
        have em : decide (zs > a3) = false := decide_eq_false (by have := HZS.out; omega)
        have em' : decide (a3 < zs) = false := em
        obtain ⟨k6, hk6⟩ := ev_at (pick_ev l1 fr (by have := HFL.out; omega))
        obtain ⟨ps, hps⟩ : ∃ ps, pickR l1 fr = ps := ⟨_, rfl⟩
        obtain ⟨pw, pe⟩ := ps
        rw [hps] at hk6 ⊢
        have HPL := Aside0.mk (show l0.length + pw.length ≤ 10000 by have h9 := pickR_length l1 fr; rw [hps] at h9; have := HFL.out; simp only at h9; omega)
        have HCP := Aside0.mk (show ∀ (W : World) (A5 : Option Addr) (c5 : Nat), Below w.heap.size w W → Kd.C k124 W A5 fr.length fr → fr.length ≤ c5 → Calls Try.prog 69 #[.slice A1 l1.length c1, .slice A5 fr.length c5] W fun e w' => ∃ v : Value, e = .returned (.tuple #[v, .int .i64 pe]) ∧ Kd.R k74 74 w' W.heap.size (fun _ => True) v pw ∧ Below W.heap.size W w' from fun W A5 c5 hW h9 h8 => fold_Pick.calls k6 A1 c1 l1 A5 c5 fr pw pe W (Kd.C_below HR1.out hW) hc1 h9 h8 hk6)
        have HCG := Aside0.mk (show ∀ (W : World) (A6 : Option Addr) (c6 : Nat), Below w.heap.size w W → Kd.C k74 W A6 pw.length pw → pw.length ≤ c6 → Calls Try.prog 67 #[.slice A0 l0.length c0, .slice A6 pw.length c6] W fun e w' => ∃ v : Value, e = .returned v ∧ Kd.R k74 74 w' W.heap.size (fun k_ => W.heap.size ≤ k_) v (foldW (l0 ++ pw)) ∧ Below W.heap.size W w' from fun W A6 c6 hW h9 h8 => by
          obtain ⟨k7, hk7⟩ := ev_at (FoldCore.merge_ev l0 pw HPL.out)
          exact fold_Merge.calls (fun k => k < W.heap.size) A0 c0 l0 (fun k => k < W.heap.size) A6 c6 pw _ W (Kd.V_mk hc0 (Kd.C_F k74_heap (Kd.C_below HR0.out hW))) (Kd.V_mk h8 (Kd.C_F k74_heap h9)) hk7)
        clear HN hnb hm hk6 hps
        go_enter Try.func87, Try.ntmps87
        go_wp2_with (first
          | (go_at_call 89; refine (HCR.out _ HB.out).mono ?_; rintro e w2 ⟨rfl, hb⟩; have HB2 := Aside0.mk (HB.out.trans (hb.mono HB.out.size)); have BX2 := Aside0.mk (blk_below BX.out hb); clear hb)
          | (go_at_call 59; refine (HCC.out _ HB2.out).mono ?_; rintro e w3 ⟨rfl, hb⟩; have HB3 := Aside0.mk (HB2.out.trans (hb.mono HB2.out.size)); have BX3 := Aside0.mk (blk_below BX2.out hb); clear hb)
          | (go_at_call 54; refine (HCM.out _ HB3.out).mono ?_; rintro e w4 ⟨v4, rfl, ho, hb⟩; have HO4 := Aside0.mk ho; have HB4 := Aside0.mk hb; have BX4 := Aside0.mk (blk_below BX3.out hb); clear ho hb)
          | (go_at_call 120; refine (delete_note w.heap.size A0 c0 l0 v4 _ w3.heap.size w3 w4 (Kd.C_below HR0.out HB3.out) hc0 BX4.out (blk_lt BX3.out) rfl HO4.out HB4.out HML.out).mono ?_; rintro e w5 ⟨v5, rfl, ho, hb⟩; have HO5 := Aside0.mk (show Kd.R k124 124 w5 w3.heap.size (fun _ => True) v5 fr from HFR.out ▸ ho); obtain ⟨A5, c5, e5⟩ := Kd.R_slice HO5.out; subst e5; have HB5 := Aside0.mk (HB3.out.trans (hb.mono HB3.out.size)); have BX5 := Aside0.mk (blk_below BX3.out hb); have b5 : w5.cell? ⟨w.heap.size, 0, none⟩ = some (.slice A0 l0.length c0) := (blk_cell BX5.out 0).trans rfl; clear ho hb)
          | (go_at_call 69; refine (HCP.out _ _ _ HB5.out (Kd.R_reads' HO5.out).2.2 (Kd.R_reads' HO5.out).2.1).mono ?_; rintro e w6 ⟨v6, rfl, ho, hb⟩; obtain ⟨A6, c6, e6⟩ := Kd.R_slice ho; subst e6; have HO6 := Aside0.mk ho; have HB6 := Aside0.mk (HB5.out.trans (hb.mono HB5.out.size)); have BX6 := Aside0.mk (blk_below BX5.out hb); have b6 : w6.cell? ⟨w.heap.size, 0, none⟩ = some (.slice A0 l0.length c0) := (blk_cell BX6.out 0).trans rfl; clear ho hb)
          | (go_at_call 67; refine (HCG.out _ _ _ HB6.out (Kd.R_reads' HO6.out).2.2 (Kd.R_reads' HO6.out).2.1).mono ?_; rintro e w7 ⟨v7, rfl, ho, hb⟩; have HO7 := Aside0.mk (Kd.R_lower (Kd.R_mono ho (fun _ _ => trivial)) HB6.out.size); have HB7 := Aside0.mk (HB6.out.trans (hb.mono HB6.out.size)); clear ho hb))
        go_ret2
        exact ⟨_, rfl, HO7.out, HB7.out⟩
    · have HN := Aside0.mk (show noteR l0 l1 l2 a3 = ([], e1) by unfold noteR; rw [if_neg hnb, if_pos (by rw [HE1.out]; exact hz), HE1.out])
      rw [HN.out]
      have e0 : (e1 != 0) = true := bne_iff_ne.2 hz
      have e0' : decide (e1 = 0) = false := decide_eq_false hz
      clear HN hnb hz
      go_enter Try.func87, Try.ntmps87
      go_wp2_with (first
        | (go_at_call 89; refine (HCR.out _ HB.out).mono ?_; rintro e w2 ⟨rfl, hb⟩; have HB2 := Aside0.mk (HB.out.trans (hb.mono HB.out.size)); clear hb)
        | (go_at_call 59; refine (HCC.out _ HB2.out).mono ?_; rintro e w3 ⟨rfl, hb⟩; have HB3 := Aside0.mk (HB2.out.trans (hb.mono HB2.out.size)); clear hb))
      go_ret2
      exact ⟨_, rfl, Kd.R_nil _ _ _ _ _, HB3.out⟩
theorem snap_Note.calls (A0 : Option Addr) (c0 : Nat) (l0 : List S74) (A1 : Option Addr) (c1 : Nat) (l1 : List S49) (A2 : Option Addr) (c2 : Nat) (l2 : List S74) (a3 : Int) (r1 : List S74) (r2 : Int) (w : World) (hr0 : Kd.C k74 w A0 l0.length l0) (hc0 : l0.length ≤ c0) (hr1 : Kd.C k49 w A1 l1.length l1) (hc1 : l1.length ≤ c1) (hr2 : Kd.C k74 w A2 l2.length l2) (hc2 : l2.length ≤ c2) (h : snap_Note.f l0 l1 l2 a3 = some (r1, r2)) :
    Calls Try.prog 87 #[.slice A0 l0.length c0, .slice A1 l1.length c1, .slice A2 l2.length c2, .int .i64 a3] w fun e w' => ∃ v0_ : Value, e = .returned (.tuple #[v0_, .int .i64 r2]) ∧ Kd.R k74 74 w' w.heap.size (fun _ => True) v0_ r1 ∧ Below w.heap.size w w' := by
  unfold snap_Note.f at h
  by_cases hh : l0.length ≤ 5000 ∧ l2.length ≤ 5000
  · rw [if_pos hh] at h
    have := note_gen A0 c0 l0 A1 c1 l1 A2 c2 l2 a3 w hr0 hc0 hr1 hc1 hr2 hc2 hh.1 hh.2
    rw [Option.some.inj h] at this
    exact this
  · rw [if_neg hh] at h
    exact absurd h (by simp)
end Go.Proofs.Ythdhkoeaadahaaa.P
