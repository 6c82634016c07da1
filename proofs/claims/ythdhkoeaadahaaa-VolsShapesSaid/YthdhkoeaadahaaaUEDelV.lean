-- PACKED by wip/kit/pack.py: what the law's proof uses of EDelV (printed words and texts of this seat)
import Derived.Test.YthdhkoeaadahaaaUEIns
namespace Go.Proofs.Ythdhkoeaadahaaa.P
open Go.RowKit Go.Proofs.YthdhkoeaadahaaaW.PrintWords Go.Proofs.YthdhkoeaadahaaaW.PrintLast Go.Proofs.YthdhkoeaadahaaaW.PrintMore
attribute [local go_sem] Oper.semAt_some
set_option linter.unusedVariables false
set_option linter.unusedSimpArgs false
theorem zero49 (w : World) : (zeroValue 49).run Try.prog w = .ok (.agg #[.int .i64 0, .slice none 0 0]) w := by kernel_rfl
theorem delete_list {α : Type} (rows : List α) (i n : Nat) (hl : rows.length = n) (hi : i < n) : (rows.take i ++ rows.drop (i + 1) ++ rows.drop (i + (rows.drop (i + 1)).length)).take (n - 1) = rows.take i ++ rows.drop (i + 1) := by
  have e : (rows.take i ++ rows.drop (i + 1)).length = n - 1 := by simp; omega
  rw [← e]
  exact List.take_left
set_option maxRecDepth 100000 in
set_option maxHeartbeats 2000000 in
theorem delete_row (g n c i : Nat) (rows : List (List Value)) (base : Nat) (W : World) (hR : Kd.R (Kd.raw 2) 49 W base (fun _ => True) (.slice (some ⟨g, 0, none⟩) n c) rows) (hn : n ≤ 1000) (hb : base ≤ W.heap.size) (hi : i < n) :
    Calls Try.prog 112 #[.slice (some ⟨g, 0, none⟩) n c, .int .i64 (i : Int), .int .i64 ((i : Int) + 1)] W fun e w' => ∃ v' : Value, e = .returned v' ∧ Kd.R (Kd.raw 2) 49 w' base (fun _ => True) v' (rows.take i ++ rows.drop (i + 1)) ∧ Below base W w' ∧ (∀ k, k < W.heap.size → k ≠ g → w'.heap[k]? = W.heap[k]?) ∧ ∀ k, v'.ownBlock = some k → k = g := by
  have hu37 := Try.underlying37
  have hu49 := Try.underlying49
  obtain ⟨hln, hcap, hC⟩ := Kd.R_reads' hR
  obtain ⟨i0, hi0, hzz⟩ := Option.map_eq_some_iff.1 info49
  simp only [Prod.mk.injEq] at hzz
  obtain ⟨hz0, hz1, hz2⟩ := hzz
  have HI0 := Aside0.mk hi0
  have HI1 := Aside0.mk hz1
  have HSP := Aside0.mk (show ∀ j, j < c * 2 → (W.drew.cell? ⟨g, j, none⟩).isSome = true ∧ W.drew.frozen? ⟨g, j, none⟩ = false from by
    obtain ⟨_, inn, hown, hr⟩ := Kd.R_drew hR
    rcases hown.2 with ⟨hv', _⟩ | ⟨g', cap', cur, hv', hb', hh, hnc, hcm, hcs, ht⟩
    · cases hv'
    injection hv' with ha _ hc
    injection ha with ha
    injection ha with hg'
    subst hg'; subst hc
    intro j hj
    refine ⟨?_, blk_frozen hh _⟩
    rw [cell_of_row W.drew g _ cur 49 (0, 0) hh, Array.getElem?_eq_getElem (by have : cur.size = c * 2 := hcs; omega)]
    rfl)
  have hdl : (rows.drop (i + 1)).length = n - (i + 1) := by rw [List.length_drop]; omega
  obtain ⟨ad, inner, hrep, hcell, had⟩ : ∃ (ad : Addr) (inner : List Value), Reps (fun x cs => cs = x ∧ cs.length = 2 ∧ ∀ u ∈ cs, u.oneCell' = true) 2 (rows.drop (i + 1)) inner ∧ (∀ j u, inner[j]? = some u → W.drew.cell? (ad.add j) = some u) ∧ (if c = i + 1 then (some ⟨g, 0, none⟩ : Option Addr) else some ⟨g, (i + 1) * 2, none⟩) = some ad := by
    have h8 := Kd.C_drop (c := c) (m := i + 1) (Kd.C_drew hC) (by omega) (by omega)
    have h7 : ((some ⟨g, 0, none⟩ : Option Addr).map (·.add ((i + 1) * (Kd.raw 2).sz))) = some ⟨g, (i + 1) * 2, none⟩ := by
      show some (Addr.add ⟨g, 0, none⟩ ((i + 1) * 2)) = _
      rw [add_plain]
    rw [h7] at h8
    by_cases hc : c = i + 1
    · rw [if_pos hc] at h8
      obtain ⟨inner, hr, hcc⟩ := ReadsRow.inner_ h8
      exact ⟨_, inner, hr, hcc, by rw [if_pos hc]⟩
    · rw [if_neg hc] at h8
      obtain ⟨inner, hr, hcc⟩ := ReadsRow.inner_ h8
      exact ⟨_, inner, hr, hcc, by rw [if_neg hc]⟩
  have hil : inner.length = (n - (i + 1)) * 2 := by rw [← hdl]; exact hrep.1
  have hone : ∀ u ∈ inner, u.oneCell' = true := Kd.reps_one hrep (by decide) (fun _ _ hp => hp.2.2)
  have HLAY := Aside0.mk (R_lay (Kd.R_drew hR) i (by omega) (by rw [hdl]; omega) hrep (below_drew1 (Below.refl base W)))
  have HR := Aside0.mk hR
  have HL := Aside0.mk hln
  have HREP := Aside0.mk hrep
  have HCELL := Aside0.mk hcell
  have HONE := Aside0.mk hone
  have HIL := Aside0.mk hil
  clear hR hC hln hrep hcell hone hi0 hz0 hz1 hz2 hil
  have HDL := Aside0.mk hdl
  clear hdl
  have HDLIST := Aside0.mk (delete_list rows i n HL.out.symm hi)
  obtain ⟨r2, hr2⟩ : ∃ r2, r2 = rows.take i ++ rows.drop (i + 1) ++ rows.drop (i + (rows.drop (i + 1)).length) := ⟨_, rfl⟩
  have hl2 : r2.length = n := by rw [hr2]; have := HL.out; simp; omega
  rw [← hr2] at HLAY HDLIST
  rw [hl2] at HLAY
  clear hr2
  have HL2 := Aside0.mk hl2
  clear hl2
  have s0 : ((i : Int) == (i : Int) + 1) = false := by simp; omega
  have s1 : IntKind.i64.wrap ((i : Int) + 1) = (i : Int) + 1 := IntWalk.i64_in _ (by omega)
  have s2 : 0 ≤ (i : Int) + 1 := by omega
  have s3 : ((i : Int) + 1).toNat = i + 1 := by omega
  have s4 : (i : Int) + 1 ≤ (n : Int) := by omega
  have s5 : i ≤ n := by omega
  have s6 : i ≤ c := by omega
  have s7 : (i : Int) ≤ (i : Int) + 1 := by omega
  by_cases hc : c = i + 1
  · rw [if_pos hc] at had
    obtain rfl := Option.some.inj had
    go_enter Try.func112, Try.ntmps112
    go_wp2
    go_region_law (refine step_append_room rfl (.tmp 22) (.tmp 25) 37 rfl 49 i0 2 Try.underlying37 HI0.out HI1.out g 0 i c (by first | (go_simp; done) | (go_simp; rfl)) ⟨g, 0, none⟩ (n - (i + 1)) 0 inner (by first | (go_simp; done) | (go_simp; rfl)) HIL.out HCELL.out HONE.out (by omega) (fun j hj => HSP.out _ (by have := HIL.out; omega)) ?_)
    (try rw [Nat.zero_add])
    (try rw [show i + (n - (i + 1)) = n - 1 by omega])
    generalize W.drew.setCells g (i * 2) inner = w3 at HLAY ⊢
    have HO3 := Aside0.mk HLAY.out.1
    have HB3 := Aside0.mk HLAY.out.2.1
    have HG3 := Aside0.mk HLAY.out.2.2
    clear HLAY HCELL HSP HREP
    have t1 : ((n - 1 : Nat) : Int) ≤ (n : Int) := by omega
    go_wp2_with ((with_reducible refine gate_builtin (b := .clear) (xs := #[.tmp 31]) rfl ?_); refine clear_step (Kd.raw 2) (w0 := W) base rfl (.tmp 31) 37 49 (.agg #[.int .i64 0, .slice none 0 0]) rfl Try.underlying37 zero49 rfl z49_one (g := g) (i := n - 1) (n := n) (cap := c) r2 (fun _ => True) _ rfl ?cA (by omega) (by decide) HO3.out HB3.out ?_; (case cA => intro h9; first | rfl | (rw [if_neg (by omega)]; rfl) | (split <;> first | rfl | (exfalso; omega)) | (exfalso; omega)); intro w4 ho hb4 hgg; have HO4 := Aside0.mk ho; have HB4 := Aside0.mk hb4; have HG4 := Aside0.mk hgg; clear ho hb4 hgg)
    all_goals
      go_ret
      refine ⟨_, rfl, ?_, HB4.out, fun k hk hne => ?_, fun k hk => ?_⟩
      · have h9 := HO4.out
        rw [HDLIST.out] at h9
        first | exact h9 | (rw [hc] at h9; exact h9)
      · rw [HG4.out.block k (by have := HG3.out.size; simp at this; omega) (fun he => by injection he with he; exact hne he)]
        exact HG3.out.block k (by simpa using hk) (fun he => by injection he with he; exact hne he)
      · simpa [Value.ownBlock] using hk.symm
  · rw [if_neg hc] at had
    obtain rfl := Option.some.inj had
    go_enter Try.func112, Try.ntmps112
    go_wp2
    go_region_law (refine step_append_room rfl (.tmp 22) (.tmp 25) 37 rfl 49 i0 2 Try.underlying37 HI0.out HI1.out g 0 i c (by first | (go_simp; done) | (go_simp; rfl)) ⟨g, (i + 1) * 2, none⟩ (n - (i + 1)) (c - (i + 1)) inner (by first | (go_simp; done) | (go_simp; rfl)) HIL.out HCELL.out HONE.out (by omega) (fun j hj => HSP.out _ (by have := HIL.out; omega)) ?_)
    (try rw [Nat.zero_add])
    (try rw [show i + (n - (i + 1)) = n - 1 by omega])
    generalize W.drew.setCells g (i * 2) inner = w3 at HLAY ⊢
    have HO3 := Aside0.mk HLAY.out.1
    have HB3 := Aside0.mk HLAY.out.2.1
    have HG3 := Aside0.mk HLAY.out.2.2
    clear HLAY HCELL HSP HREP
    have t1 : ((n - 1 : Nat) : Int) ≤ (n : Int) := by omega
    go_wp2_with ((with_reducible refine gate_builtin (b := .clear) (xs := #[.tmp 31]) rfl ?_); refine clear_step (Kd.raw 2) (w0 := W) base rfl (.tmp 31) 37 49 (.agg #[.int .i64 0, .slice none 0 0]) rfl Try.underlying37 zero49 rfl z49_one (g := g) (i := n - 1) (n := n) (cap := c) r2 (fun _ => True) _ rfl ?cA (by omega) (by decide) HO3.out HB3.out ?_; (case cA => intro h9; first | rfl | (rw [if_neg (by omega)]; rfl) | (split <;> first | rfl | (exfalso; omega)) | (exfalso; omega)); intro w4 ho hb4 hgg; have HO4 := Aside0.mk ho; have HB4 := Aside0.mk hb4; have HG4 := Aside0.mk hgg; clear ho hb4 hgg)
    all_goals
      go_ret
      refine ⟨_, rfl, ?_, HB4.out, fun k hk hne => ?_, fun k hk => ?_⟩
      · have h9 := HO4.out
        rw [HDLIST.out] at h9
        first | exact h9 | (rw [hc] at h9; exact h9)
      · rw [HG4.out.block k (by have := HG3.out.size; simp at this; omega) (fun he => by injection he with he; exact hne he)]
        exact HG3.out.block k (by simpa using hk) (fun he => by injection he with he; exact hne he)
      · simpa [Value.ownBlock] using hk.symm
end Go.Proofs.Ythdhkoeaadahaaa.P
