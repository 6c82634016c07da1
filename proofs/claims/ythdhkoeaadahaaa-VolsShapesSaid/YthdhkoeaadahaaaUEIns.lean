-- PACKED by wip/kit/pack.py: what the law's proof uses of EIns (printed words and texts of this seat)
import Derived.Test.YthdhkoeaadahaaaUERaw
import Derived.Deep.RegionLaw
import Derived.IntWalk
namespace Go.Proofs.Ythdhkoeaadahaaa.P
open Go.RowKit Go.Proofs.YthdhkoeaadahaaaW.PrintWords Go.Proofs.YthdhkoeaadahaaaW.PrintLast Go.Proofs.YthdhkoeaadahaaaW.PrintMore
attribute [local go_sem] Oper.semAt_some
set_option linter.unusedVariables false
set_option linter.unusedSimpArgs false
theorem one_C {W : World} {vb e : Nat} {pc : List Value} (h : W.heap[vb]? = some (.cells pc.toArray e (0, 0))) {sz : Nat} (hl : pc.length = sz) (h1 : ∀ u ∈ pc, u.oneCell' = true) : Kd.C (Kd.raw sz) W (some ⟨vb, 0, none⟩) 1 [pc] := by
  refine ⟨rfl, by omega, fun _ => ⟨_, rfl, fun j p hj => ?_⟩⟩
  cases j with
  | succ j => simp at hj
  | zero =>
    obtain rfl : pc = p := by simpa using hj
    refine ⟨pc, hl, ⟨rfl, hl, h1⟩, fun i u hu => ?_⟩
    rw [Nat.zero_mul, Nat.zero_add, add_plain]
    rw [blk_cell h]
    simpa using hu
set_option maxRecDepth 100000 in
set_option maxHeartbeats 2000000 in
theorem insert_end (A : Option Addr) (n c vb : Nat) (rows : List (List Value)) (pc : List Value) (base : Nat) (W : World) (hR : Kd.R (Kd.raw 2) 49 W base (fun _ => True) (.slice A n c) rows) (hv : W.heap[vb]? = some (.cells pc.toArray 49 (0, 0))) (hl : pc.length = 2) (h1 : ∀ u ∈ pc, u.oneCell' = true) (hn : n ≤ 1000) (hb : base ≤ W.heap.size) :
    Calls Try.prog 110 #[.slice A n c, .int .i64 (n : Int), .slice (some ⟨vb, 0, none⟩) 1 1] W fun e w' => ∃ v' : Value, e = .returned v' ∧ Kd.R (Kd.raw 2) 49 w' base (fun _ => True) v' (rows ++ [pc]) ∧ Below base W w' ∧ ∀ k, k < W.heap.size → some k ≠ (Value.slice A n c).ownBlock → w'.heap[k]? = W.heap[k]? := by
  have hu37 := Try.underlying37
  have hcap := (Kd.R_reads' hR).2.1
  have HR := Aside0.mk hR
  have HV := Aside0.mk (one_C hv hl h1)
  clear hR hv
  go_enter Try.func110, Try.ntmps110
  go_wp2_with ((with_reducible refine gate_builtin (b := .append) (xs := #[.tmp 23, .tmp 24]) rfl ?_); at_builtin; refine Kd.R_append_rows (Kd.raw 2) (w0 := W) base rfl (.tmp 23) (.tmp 24) 37 49 (.agg #[(.int .i64 0), (.slice none 0 0)]) 32 rfl Try.underlying37 info49 rfl (by decide) (by omega) (.slice A n c) rows [pc] (some ⟨vb, 0, none⟩) 1 1 (fun _ => True) (fun k => some k ≠ (Value.slice A n c).ownBlock) rfl rfl HR.out HV.out (fun _ _ hp => hp) (fun k hk => ⟨trivial, hk⟩) (fun _ _ => trivial) (Below.refl _ _) hb (by have := (Kd.R_reads' HR.out).1; omega) ?_; intro v1 w1 hr hB hg hat; have HO := Aside0.mk hr; have HB := Aside0.mk hB; have HG := Aside0.mk hg; clear hr hB hg hat)
  all_goals (go_ret; exact ⟨_, rfl, HO.out, HB.out, fun k hk hne => HG.out.block k hk (by cases A <;> exact hne)⟩)
theorem size49 : (Try.prog.info? 49).map (·.size) = some 2 := by kernel_rfl
theorem grow_list {α : Type} (rows : List α) (p z : α) (i n : Nat) (hl : rows.length = n) (hi : i < n) (r2 : List α) (h2 : r2 = (rows.take i ++ List.replicate (n + 1 - i) z).take i ++ [p] ++ (rows.take i ++ List.replicate (n + 1 - i) z).drop (i + [p].length)) :
    r2.take (i + 1) ++ rows.drop i ++ r2.drop (i + 1 + (rows.drop i).length) = rows.take i ++ [p] ++ rows.drop i := by
  have e1 : (rows.take i ++ List.replicate (n + 1 - i) z).take i = rows.take i := by
    rw [List.take_append_of_le_length (by rw [List.length_take]; omega), List.take_of_length_le (by rw [List.length_take]; omega)]
  have e2 : (rows.take i ++ [p]).length = i + 1 := by rw [List.length_append, List.length_take, List.length_singleton]; omega
  rw [e1] at h2
  have e3 : r2.length = n + 1 := by rw [h2]; simp; omega
  have e4 : r2.take (i + 1) = rows.take i ++ [p] := by rw [h2, ← e2]; exact List.take_left
  have e5 : r2.drop (i + 1 + (rows.drop i).length) = [] := List.drop_eq_nil_of_le (by rw [e3, List.length_drop]; omega)
  rw [e4, e5, List.append_nil]
theorem shift_list {α : Type} (rows : List α) (p : α) (i n : Nat) (hl : rows.length = n) (hi : i < n) (r2 : List α) (h2 : r2 = rows.take (i + 1) ++ rows.drop i ++ rows.drop (i + 1 + (rows.drop i).length)) :
    r2.take i ++ [p] ++ r2.drop (i + [p].length) = rows.take i ++ [p] ++ rows.drop i := by
  have e0 : rows.drop (i + 1 + (rows.drop i).length) = [] := List.drop_eq_nil_of_le (by rw [List.length_drop]; omega)
  rw [e0, List.append_nil] at h2
  have e2 : (rows.take (i + 1)).length = i + 1 := by rw [List.length_take]; omega
  have e1 : r2.take i = rows.take i := by
    rw [h2, List.take_append_of_le_length (by omega), List.take_take, Nat.min_eq_left (by omega)]
  have e3 : r2.drop (i + [p].length) = rows.drop i := by
    rw [h2, show i + [p].length = (rows.take (i + 1)).length by rw [e2]; rfl]; exact List.drop_left
  rw [e1, e3]
theorem z49_one : ∀ u ∈ (Value.agg #[(.int .i64 0), (.slice none 0 0)]).cells.toList, u.oneCell' = true := by
  intro u hu
  simp only [Value.cells, List.mem_cons, List.not_mem_nil, or_false] at hu
  rcases hu with rfl | rfl <;> rfl
set_option maxRecDepth 100000 in
set_option maxHeartbeats 2000000 in
theorem insert_grow (g n c i vb : Nat) (rows : List (List Value)) (pc : List Value) (base : Nat) (W : World) (hR : Kd.R (Kd.raw 2) 49 W base (fun _ => True) (.slice (some ⟨g, 0, none⟩) n c) rows) (hv : W.heap[vb]? = some (.cells pc.toArray 49 (0, 0))) (hl : pc.length = 2) (h1 : ∀ u ∈ pc, u.oneCell' = true) (hn : n ≤ 1000) (hb : base ≤ W.heap.size) (hi : i < n) (hroom : c < n + 1) :
    Calls Try.prog 110 #[.slice (some ⟨g, 0, none⟩) n c, .int .i64 (i : Int), .slice (some ⟨vb, 0, none⟩) 1 1] W fun e w' => ∃ v' : Value, e = .returned v' ∧ Kd.R (Kd.raw 2) 49 w' base (fun _ => True) v' (rows.take i ++ [pc] ++ rows.drop i) ∧ Below base W w' ∧ ∀ k, k < W.heap.size → w'.heap[k]? = W.heap[k]? := by
  have hu37 := Try.underlying37
  obtain ⟨hln, hcap, hC⟩ := Kd.R_reads' hR
  have HR := Aside0.mk hR
  have HC := Aside0.mk hC
  have HV := Aside0.mk hv
  have HL := Aside0.mk hln
  clear hR hv hC hln
  have e1 : ((i : Int) == (n : Int)) = false := by simp; omega
  have e2 : decide ((c : Int) < (n : Int) + 1) = true := decide_eq_true (by omega)
  have HT := Aside0.mk (Kd.C_take HC.out (m := i) (by have := HL.out; omega))
  have hti : (rows.take i).length = i := by have := HL.out; rw [List.length_take]; omega
  have HTI := Aside0.mk hti
  clear hti
  go_enter Try.func110, Try.ntmps110
  go_wp2_with (first
    | ((with_reducible refine gate_builtin (b := .append) (xs := #[.tmp 34, .tmp 39]) rfl ?_); at_builtin; refine wp_grow_zeros (kx := .i64) (w0 := W) (base := base) (rows := rows.take i) rfl (.tmp 34) (.tmp 39) 37 3 49 (.agg #[(.int .i64 0), (.slice none 0 0)]) 2 32 rfl Try.underlying37 Try.underlying3 info49 rfl (by decide) (by omega) z49_one (some ⟨g, 0, none⟩) c (n + 1 - i) ?gS ?gX ?gC ?gR ?gL hb (Below.refl _ _) ?_; (case gS => rw [HTI.out]; rfl); (case gX => exact congrArg (Value.int .i64) (by omega)); (case gC => exact HT.out); (case gR => rw [HTI.out]; omega); (case gL => rw [HTI.out]; omega); intro w1 c1 hr hB hBW; rw [HTI.out, show i + (n + 1 - i) = n + 1 by omega] at hr ⊢; obtain ⟨r1, hr1⟩ : ∃ r1, r1 = rows.take i ++ List.replicate (n + 1 - i) (Value.agg #[(.int .i64 0), (.slice none 0 0)]).cells.toList := ⟨_, rfl⟩; rw [← hr1] at hr; have HE1 := Aside0.mk hr1; have HL1 := Aside0.mk (show r1.length = n + 1 by rw [hr1]; have := HTI.out; rw [List.length_append, this, List.length_replicate]; omega); clear hr1; have HR1 := Aside0.mk hr; have HB1 := Aside0.mk hB; have HW1 := Aside0.mk hBW; have hc1 := (Kd.R_reads' hr).2.1; clear hr hB hBW)
    | ((with_reducible refine gate_builtin (b := .copy) (xs := #[.tmp 43, .tmp 44]) rfl ?_); refine wp_copy_rows (sz := 2) (w0 := W) (base := base) (ys := [pc]) rfl (.tmp 43) (.tmp 44) 37 37 rfl Try.underlying37 size49 (by decide) i ⟨vb, 0, none⟩ 1 rfl rfl ?cD rfl ?cQ ?cI ?cF HR1.out ?cY HB1.out ?_; (case cD => first | rfl | (rw [if_neg (by omega)]; simp [Addr.add]; done) | (simp [Addr.add]; done) | (trace_state; fail)); (case cQ => simp [Nat.min_def]; omega); (case cI => have := HL1.out; omega); (case cF => omega); (case cY => exact one_C (blk_below HV.out HW1.out) hl h1); intro w2 hr hB hg; obtain ⟨r2, hr2⟩ : ∃ r2, r2 = r1.take i ++ [pc] ++ r1.drop (i + [pc].length) := ⟨_, rfl⟩; rw [← hr2] at hr; have HE2 := Aside0.mk hr2; have HL2 := Aside0.mk (show r2.length = n + 1 by rw [hr2]; have := HL1.out; simp; omega); clear hr2; have HR2 := Aside0.mk hr; have HB2 := Aside0.mk hB; have HG2 := Aside0.mk hg; clear hr hB hg)
    | fail)
  have HCD := Aside0.mk (show Kd.C (Kd.raw 2) w2 (some ⟨g, i * 2, none⟩) (n - i) (rows.drop i) from by
    have h9 := Kd.R_grown (Kd.R_tight rfl (Kd.R_below HR.out HW1.out)) HG2.out (fun k hk he => by have := Kd.R_lt HR.out k hk.symm; injection he with he; omega)
    have h8 := Kd.C_drop (c := c) (m := i) (Kd.R_reads' h9).2.2 (by have := HL.out; omega) (by have := HL.out; omega)
    rw [if_neg (by omega), List.length_drop] at h8
    have h7 : ((some ⟨g, 0, none⟩ : Option Addr).map (·.add (i * (Kd.raw 2).sz))) = some ⟨g, i * 2, none⟩ := by
      show some (Addr.add ⟨g, 0, none⟩ (i * 2)) = _
      rw [add_plain]
    rw [h7, ← HL.out] at h8
    exact h8)
  have s1 : IntKind.i64.wrap ((i : Int) + 1) = (i : Int) + 1 := IntWalk.i64_in _ (by omega)
  have s2 : 0 ≤ (i : Int) + 1 := by omega
  have s3 : ((i : Int) + 1).toNat = i + 1 := by omega
  have s4 : (i : Int) + 1 ≤ ((n + 1 : Nat) : Int) := by omega
  have s5 : i ≤ n := by omega
  have s6 : ¬ c1 = i + 1 := by omega
  have s7 : ¬ c = i := by omega
  go_region_law (refine step_copy_rows (sz := 2) (w0 := W) (base := base) (g := W.heap.size) (ys := rows.drop i) (rows := r2) (n := r2.length) (cap := c1) (dp := some ⟨W.heap.size, (i + 1) * 2, none⟩) (sp := some ⟨g, i * 2, none⟩) (dLen := n - i) (dCap := c1 - (i + 1)) (sLen := n - i) (sCap := c - i) rfl (.tmp 50) (.tmp 53) 37 37 rfl Try.underlying37 size49 (by decide) (i + 1) ⟨g, i * 2, none⟩ (n - i) (by first | (go_simp; done) | (go_simp; rfl)) (by first | (go_simp; done) | (go_simp; rfl)) rfl rfl (by simp [Nat.min_def]) (by rw [HL2.out]; omega) (by omega) (Kd.R_drew HR2.out) (Kd.C_drew HCD.out) (below_drew1 HB2.out) ?_; intro w3 hr hB hg; have HR3 := Aside0.mk hr; have HB3 := Aside0.mk hB; have HG3 := Aside0.mk hg; clear hr hB hg)
  go_wp2
  go_ret
  refine ⟨_, rfl, ?_, HB3.out, fun k hk => ?_⟩
  · have h9 := HR3.out
    rw [grow_list rows pc _ i n HL.out.symm hi r2 (by rw [HE2.out, HE1.out])] at h9
    have h8 : (rows.take i ++ [pc] ++ rows.drop i).length = n + 1 := by have := HL.out; simp; omega
    rw [h8] at h9
    exact h9
  · rw [HG3.out.block k (by have := HG2.out.size; have := HW1.out.size; simp; omega) (fun he => by injection he with he; omega)]
    show w2.heap[k]? = _
    rw [HG2.out.block k (by have := HW1.out.size; omega) (fun he => by injection he with he; omega)]
    exact HW1.out.block k hk
set_option maxRecDepth 100000 in
set_option maxHeartbeats 2000000 in
theorem insert_shift (g n c i vb : Nat) (rows : List (List Value)) (pc : List Value) (base : Nat) (W : World) (hR : Kd.R (Kd.raw 2) 49 W base (fun _ => True) (.slice (some ⟨g, 0, none⟩) n c) rows) (hv : W.heap[vb]? = some (.cells pc.toArray 49 (0, 0))) (hl : pc.length = 2) (h1 : ∀ u ∈ pc, u.oneCell' = true) (hn : n ≤ 1000) (hb : base ≤ W.heap.size) (hi : i < n) (hroom : n + 1 ≤ c) (hvg : vb ≠ g) :
    Calls Try.prog 110 #[.slice (some ⟨g, 0, none⟩) n c, .int .i64 (i : Int), .slice (some ⟨vb, 0, none⟩) 1 1] W fun e w' => ∃ v' : Value, e = .returned v' ∧ Kd.R (Kd.raw 2) 49 w' base (fun _ => True) v' (rows.take i ++ [pc] ++ rows.drop i) ∧ Below base W w' ∧ ∀ k, k < W.heap.size → k ≠ g → w'.heap[k]? = W.heap[k]? := by
  have hu37 := Try.underlying37
  obtain ⟨hln, hcap, hC⟩ := Kd.R_reads' hR
  obtain ⟨cells, hcells⟩ := Kd.R_typed hR g (by simp [Value.ownBlock])
  have hsz : cells.size = c * 2 := by
    obtain ⟨_, inn, hown, hr⟩ := hR
    rcases hown.2 with ⟨hv', _⟩ | ⟨g', cap', cur, hv', hb', hh, hnc, hcm, hcs, ht⟩
    · cases hv'
    injection hv' with ha _ hc
    injection ha with ha
    injection ha with hg'
    subst hg'; subst hc
    rw [hcells] at hh
    injection hh with hh
    injection hh with hh
    subst hh
    exact hcs
  have hov : ∀ lb cb, (callFunc 131 #[.slice (some ⟨vb, 0, none⟩) 1 1, .slice (some ⟨g, (i + 1) * 2, none⟩) lb cb]).run Try.prog W = .ok (.value (.bool false)) W := fun lb cb => by
    rw [run_callFunc_extern Try.func131 (by kernel_rfl) (by kernel_rfl) (by kernel_rfl) (e := Extern.SlicesOverlaps.overlaps #[37, 37] #[4]) (by kernel_rfl),
      Lib.run_overlaps_apart W 37 4 49 Try.underlying37 2 (fun w => by kernel_rfl) ⟨vb, 0, none⟩ ⟨g, (i + 1) * 2, none⟩ 1 1 lb cb hvg 49 49 2 cells.size (by simp [World.shape?, hv, hl]) (by simp [World.shape?, hcells]) (by omega) (blk_frozen hv 0) (blk_frozen hv 2)]
    rfl
  have HR := Aside0.mk hR
  have HC := Aside0.mk hC
  have HV := Aside0.mk hv
  have HL := Aside0.mk hln
  clear hR hv hC hln hcells hsz
  have e1 : ((i : Int) == (n : Int)) = false := by simp; omega
  have e2 : decide ((c : Int) < (n : Int) + 1) = false := decide_eq_false (by omega)
  have s6 : ¬ c = i + 1 := by omega
  have s7 : ¬ c = i := by omega
  go_enter Try.func110, Try.ntmps110
  go_wp2
  have HCD := Aside0.mk (show Kd.C (Kd.raw 2) W.drew (some ⟨g, i * 2, none⟩) (n - i) (rows.drop i) from by
    have h8 := Kd.C_drop (c := c) (m := i) (Kd.C_drew HC.out) (by have := HL.out; omega) (by have := HL.out; omega)
    rw [if_neg (by omega), List.length_drop] at h8
    have h7 : ((some ⟨g, 0, none⟩ : Option Addr).map (·.add (i * (Kd.raw 2).sz))) = some ⟨g, i * 2, none⟩ := by
      show some (Addr.add ⟨g, 0, none⟩ (i * 2)) = _
      rw [add_plain]
    rw [h7, ← HL.out] at h8
    exact h8)
  have s1 : IntKind.i64.wrap ((i : Int) + 1) = (i : Int) + 1 := IntWalk.i64_in _ (by omega)
  have s2 : 0 ≤ (i : Int) + 1 := by omega
  have s3 : ((i : Int) + 1).toNat = i + 1 := by omega
  have s5 : i ≤ n := by omega
  have s8 : (i : Int) ≤ (n : Int) + 1 := by omega
  go_region_law (refine step_copy_rows (sz := 2) (w0 := W) (base := base) (g := g) (ys := rows.drop i) (rows := rows) (n := n) (cap := c) (dp := some ⟨g, (i + 1) * 2, none⟩) (sp := some ⟨g, i * 2, none⟩) (dLen := n - i) (dCap := c - (i + 1)) (sLen := n + 1 - i) (sCap := c - i) rfl (.tmp 73) (.tmp 76) 37 37 rfl Try.underlying37 size49 (by decide) (i + 1) ⟨g, i * 2, none⟩ (n - i) (by first | (go_simp; done) | (go_simp; rfl)) (by first | (go_simp; done) | (go_simp; rfl)) rfl rfl (by simp [Nat.min_def]; omega) (by omega) (by omega) (Kd.R_drew HR.out) HCD.out (below_drew1 (Below.refl _ _)) ?_; intro w3 hr hB hg; obtain ⟨r2, hr2⟩ : ∃ r2, r2 = rows.take (i + 1) ++ rows.drop i ++ rows.drop (i + 1 + (rows.drop i).length) := ⟨_, rfl⟩; rw [← hr2] at hr; have HE2 := Aside0.mk hr2; have HL2 := Aside0.mk (show r2.length = n + 1 by rw [hr2]; have := HL.out; simp; omega); clear hr2; have HR3 := Aside0.mk hr; have HB3 := Aside0.mk hB; have HG3 := Aside0.mk hg; clear hr hB hg)
  go_wp2_with ((with_reducible refine gate_builtin (b := .copy) (xs := #[.tmp 80, .tmp 81]) rfl ?_); refine wp_copy_rows (sz := 2) (w0 := W) (base := base) (g := g) (rows := r2) (n := r2.length) (cap := c) (ys := [pc]) rfl (.tmp 80) (.tmp 81) 37 37 rfl Try.underlying37 size49 (by decide) i ⟨vb, 0, none⟩ 1 rfl rfl ?cD rfl ?cQ ?cI ?cF HR3.out ?cY HB3.out ?_; (case cD => first | rfl | (rw [if_neg (by omega)]; simp [Addr.add]; done) | (simp [Addr.add]; done)); (case cQ => simp [Nat.min_def]; omega); (case cI => have := HL2.out; omega); (case cF => omega); (case cY => exact one_C ((HG3.out.block vb (by have := blk_lt HV.out; simpa using this) (fun he => by injection he with he; exact hvg he)).trans HV.out) hl h1); intro w4 hr hB hg; have HR4 := Aside0.mk hr; have HB4 := Aside0.mk hB; have HG4 := Aside0.mk hg; clear hr hB hg)
  go_ret
  refine ⟨_, rfl, ?_, HB4.out, fun k hk hne => ?_⟩
  · have h9 := HR4.out
    rw [shift_list rows pc i n HL.out.symm hi r2 HE2.out] at h9
    have h8 : (rows.take i ++ [pc] ++ rows.drop i).length = n + 1 := by have := HL.out; simp; omega
    rw [h8] at h9
    exact h9
  · rw [HG4.out.block k (by have := HG3.out.size; simp at this; omega) (fun he => by injection he with he; exact hne he)]
    exact HG3.out.block k (by simpa using hk) (fun he => by injection he with he; exact hne he)
end Go.Proofs.Ythdhkoeaadahaaa.P
