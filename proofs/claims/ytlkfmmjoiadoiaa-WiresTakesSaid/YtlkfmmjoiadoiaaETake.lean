/- The contract of wires.Take. -/
import Derived.Test.YtlkfmmjoiadoiaaEConcat
import Derived.RegionCalls
import Derived.Test.YtlkfmmjoiadoiaaPx44
namespace Go.Proofs.Ytlkfmmjoiadoiaa.P
open Go.RowKit Go.Proofs.YtlkfmmjoiadoiaaW.PrintWords Go.Proofs.YtlkfmmjoiadoiaaW.PrintLast Go.Proofs.YtlkfmmjoiadoiaaW.PrintMore
attribute [local go_sem] Oper.semAt_some
set_option linter.unusedVariables false

def wires_Take.f (l : List S24) (a : Int) : Option (List S24 × Int × ByteArray × Int) :=
  (wires_at.f l a).bind fun t => if t = 0 then some (l.take a.toNat ++ l.drop (a.toNat + 1), (rd_T24 l a).f0, (rd_T24 l a).f1, 0) else some ([], 0, ⟨#[]⟩, t)
theorem heap_new24 (w : World) (o : Obj) : (w.alloc o).heap[w.heap.size]? = some o := by
  show (w.heap.push o)[w.heap.size]? = some o
  simp
theorem bcell24 {W w1 : World} (hb : Below W.heap.size W w1) : (∀ b o, b < W.heap.size → w1.cell? ⟨b, o, none⟩ = W.cell? ⟨b, o, none⟩) ∧ (∀ b o, b < W.heap.size → w1.frozen? ⟨b, o, none⟩ = W.frozen? ⟨b, o, none⟩) :=
  ⟨fun b o h => hb.cell (p := ⟨b, o, none⟩) h, fun b o h => hb.frozen (p := ⟨b, o, none⟩) h⟩
theorem at_zero {l : List S24} {a : Int} (h : wires_at.f l a = some 0) : l.length ≤ 256 ∧ 0 ≤ a ∧ a < (l.length : Int) := by
  unfold wires_at.f wires_Right.f at h
  rw [Option.bind_some] at h
  by_cases c : (decide ((l.length : Int) ≤ 256) && !(l.any bad24)) = true
  · rw [if_pos c] at h
    have := of_decide_eq_true (Bool.and_eq_true_iff.1 c).1
    by_cases c1 : a < 0
    · rw [if_pos c1] at h; simp at h
    rw [if_neg c1] at h
    by_cases c2 : a ≥ (l.length : Int)
    · rw [if_pos c2] at h; simp at h
    omega
  · rw [if_neg c] at h; simp at h

set_option maxRecDepth 100000 in
set_option maxHeartbeats 4000000 in
theorem take_no (A : Option Addr) (c : Nat) (l : List S24) (a t : Int) (w : World) (hr : Kd.C k24 w A l.length l) (hc : l.length ≤ c) (ht : wires_at.f l a = some t) (h0 : t ≠ 0) :
    Calls Try.prog 34 #[.slice A l.length c, .int .i64 a] w fun e w' => e = .returned (.tuple #[.slice none 0 0, .agg #[.int .i64 0, .string ⟨#[]⟩], .int .i64 t]) ∧ Below w.heap.size w w' := by
  have hu24 := Try.underlying24
  have hb0 : (t != 0) = true := bne_iff_ne.mpr h0
  have hat : ∀ W, Below w.heap.size w W → Calls Try.prog 49 #[.slice A l.length c, .int .i64 a] W fun e w' => e = .returned (.int .i64 t) ∧ Below W.heap.size W w' := fun W hW => wires_at.calls A c l a t W (Kd.C_below hr hW) hc ht
  have HAT := Aside0.mk hat
  clear hat hr
  go_enter Try.func34, Try.ntmps34
  go_wp2_with (go_at_call 49; refine (HAT.out _ ((Below.refl _ w).alloc (Nat.le_refl _) _)).mono ?_; rintro e w2 ⟨rfl, hb⟩; obtain ⟨hcc, hff⟩ := bcell24 hb; have HB := Aside0.mk hb; clear hb; have hz : w.heap.size + 1 ≤ w2.heap.size := by have := HB.out.size; simp at this; omega)
  refine bodyPost_ret (v := .tuple #[.slice none 0 0, .agg #[.int .i64 0, .string ⟨#[]⟩], .int .i64 t]) ?_ rfl ⟨rfl, ?_⟩
  · simp [results, Try.results34, go_sem, hcc]
  · exact (((((Below.refl _ w).alloc (Nat.le_refl _) _).trans (HB.out.mono (by simp))).setCell (by simp) _).setCell (by simp) _)


set_option maxRecDepth 100000 in
set_option maxHeartbeats 4000000 in
theorem take_yes (A : Option Addr) (c : Nat) (l : List S24) (a : Int) (w : World) (hr : Kd.C k24 w A l.length l) (hc : l.length ≤ c) (ht : wires_at.f l a = some 0) :
    Calls Try.prog 34 #[.slice A l.length c, .int .i64 a] w fun e w' => ∃ v : Value, e = .returned (.tuple #[v, .agg #[.int .i64 (rd_T24 l a).f0, .string (rd_T24 l a).f1], .int .i64 0]) ∧ Kd.R k24 24 w' w.heap.size (fun _ => True) v (l.take a.toNat ++ l.drop (a.toNat + 1)) ∧ Below w.heap.size w w' := by
  have hu24 := Try.underlying24
  obtain ⟨hl, ha0, ha1⟩ := at_zero ht
  have hat : ∀ W, Below w.heap.size w W → Calls Try.prog 49 #[.slice A l.length c, .int .i64 a] W fun e w' => e = .returned (.int .i64 0) ∧ Below W.heap.size W w' := fun W hW => wires_at.calls A c l a 0 W (Kd.C_below hr hW) hc ht
  obtain ⟨ad, rfl, c0, c1⟩ := at_T24 hr a ha0 ha1
  have HAT := Aside0.mk hat
  have HR := Aside0.mk hr
  clear hat hr
  obtain ⟨i0, hi0, _, hsz, _⟩ := info_parts info24
  have hcut1 := cut_to (P := Try.prog) 22 24 .i64 Try.underlying22 hi0 (some ad) l.length c a ha0 (by omega) hc
  have ew : wrap64 (a + 1) = a + 1 := by unfold wrap64; omega
  have ew' : IntKind.i64.wrap (a + 1) = a + 1 := by simp only [i64_w]; exact ew
  have hcut2 := cut_from (P := Try.prog) 22 24 .i64 Try.underlying22 hi0 2 hsz (some ad) l.length c (IntKind.i64.wrap (a + 1)) (by rw [ew']; omega) (by rw [ew']; omega)
  have e3 : (IntKind.i64.wrap (a + 1)).toNat = a.toNat + 1 := by rw [ew']; omega
  have hcA := Kd.C_take (m := a.toNat) HR.out (by omega)
  have hcB : Kd.C k24 w (if c = a.toNat + 1 then some ad else (some ad).map (·.add ((a.toNat + 1) * 2))) (l.drop (a.toNat + 1)).length (l.drop (a.toNat + 1)) := Kd.C_drop (m := a.toNat + 1) HR.out (by omega) hc
  rw [e3, show l.length - (a.toNat + 1) = (l.drop (a.toNat + 1)).length by simp, ew'] at hcut2
  rw [show a.toNat = (l.take a.toNat).length by simp; omega] at hcut1
  have hcA' := Aside0.mk hcA
  generalize (if c = a.toNat + 1 then some ad else (some ad).map (·.add ((a.toNat + 1) * 2))) = A2 at hcut2 hcB
  have hcB' := Aside0.mk hcB
  clear hcA hcB
  go_enter Try.func34, Try.ntmps34
  go_wp2_with (go_at_call 49; refine (HAT.out _ ((Below.refl _ w).alloc (Nat.le_refl _) _)).mono ?_; rintro e w2 ⟨rfl, hb⟩; obtain ⟨hcc, hff⟩ := bcell24 hb; have HB := Aside0.mk hb; clear hb; have hz : w.heap.size + 1 ≤ w2.heap.size := by have := HB.out.size; simp at this; omega)
  refine wp_region_any (by kernel_rfl) ?_
  try (change wpAny _ _ _ _ _ _ _ (World.drew _))
  refine wpAny_take (i := 0) (v := ?_) rfl (by kernel_rfl) (by kernel_rfl) (by kernel_rfl) (fun _ _ _ h => h) (Or.inl ⟨by rfl, ?_⟩) ?_; rotate_left; focus (intro w; go_simp; try (with_reducible rfl))
  refine wpAny_take (i := 1) (v := ?_) rfl (by kernel_rfl) (by kernel_rfl) (by kernel_rfl) (fun _ _ _ h => h) (Or.inl ⟨by rfl, ?_⟩) ?_; rotate_left; focus (intro w; go_simp; try (with_reducible rfl))
  refine wpAny_take (i := 2) (v := ?_) rfl (by kernel_rfl) (by kernel_rfl) (by kernel_rfl) (fun _ _ _ h => h) (Or.inl ⟨by rfl, ?_⟩) ?_; rotate_left; focus (intro w; go_simp; try (with_reducible rfl))
  refine wpAny_take (i := 3) (v := ?_) rfl (by kernel_rfl) (by kernel_rfl) (by kernel_rfl) (fun _ _ _ h => h) (Or.inl ⟨by rfl, ?_⟩) ?_; rotate_left; focus (intro w; go_simp; try (with_reducible rfl))
  refine wpAny_take (i := 4) (v := ?_) rfl (by kernel_rfl) (by kernel_rfl) (by kernel_rfl) (fun _ _ _ h => h) (Or.inl ⟨by rfl, ?_⟩) ?_; rotate_left; focus (intro w; go_simp; try (with_reducible rfl))
  refine wpAny_take (i := 5) (v := ?_) rfl (by kernel_rfl) (by kernel_rfl) (by kernel_rfl) (fun _ _ _ h => h) (Or.inl ⟨by rfl, ?_⟩) ?_; rotate_left; focus (intro w; go_simp; try (with_reducible rfl))
  refine wpAny_take (i := 9) (v := ?_) rfl (by kernel_rfl) (by kernel_rfl) (by kernel_rfl) (fun _ _ _ h => h) (Or.inl ⟨by rfl, ?_⟩) ?_; rotate_left; focus (intro w; go_simp; try (with_reducible rfl))
  refine wpAny_take (i := 10) (v := ?_) rfl (by kernel_rfl) (by kernel_rfl) (by kernel_rfl) (fun _ _ _ h => h) (Or.inl ⟨by rfl, ?_⟩) ?_; rotate_left; focus (intro w; go_simp; try (with_reducible rfl))
  refine wpAny_take (i := 11) (v := ?_) rfl (by kernel_rfl) (by kernel_rfl) (by kernel_rfl) (fun _ _ _ h => h) (Or.inl ⟨by rfl, ?_⟩) ?_; rotate_left; focus (intro w; go_simp; try (with_reducible rfl))
  refine wpAny_take (i := 6) (v := ?_) rfl (by kernel_rfl) (by kernel_rfl) (by kernel_rfl) (fun _ _ _ h => h) (Or.inl ⟨by rfl, ?_⟩) ?_; rotate_left; focus (intro w; go_simp; try (with_reducible rfl))
  have hBw : Below w.heap.size w w2 := ((Below.refl _ w).alloc (Nat.le_refl _) _).trans (HB.out.mono (by simp))
  have d0 := (hBw.cell (World.block_lt_of_cell? w _ c0)).trans c0
  have d1 := (hBw.cell (World.block_lt_of_cell? w _ c1)).trans c1
  have hl1 : (l.take a.toNat).length = min a.toNat l.length := List.length_take
  have hl2 : (l.drop (a.toNat + 1)).length = l.length - (a.toNat + 1) := List.length_drop
  have HBW := Aside0.mk hBw
  have HCAT := Aside0.mk (fun (W : World) (hW : Below w.heap.size w W) => concat24 W.heap.size (some ad) A2 c (c - (a.toNat + 1)) (l.take a.toNat) (l.drop (a.toNat + 1)) (by omega)
    ((W.alloc (Obj.cells #[Value.slice (some ad) (min a.toNat l.length) c, Value.slice A2 (l.length - (a.toNat + 1)) (c - (a.toNat + 1))] 22)).drew)
    (by rw [hl1]; show (W.alloc _).cell? _ = _; unfold World.cell?; rw [heap_new24]; rfl) (by rw [hl2]; show (W.alloc _).cell? _ = _; unfold World.cell?; rw [heap_new24]; rfl)
    (Kd.C_drew (Kd.C_alloc (Kd.C_below hcA'.out hW) _)) (Kd.C_drew (Kd.C_alloc (Kd.C_below hcB'.out hW) _)))
  clear hcut1 hcut2
  have b3 : Below w.heap.size w ((w2.alloc (Obj.cells #[Value.slice (some ad) (min a.toNat l.length) c, Value.slice A2 (l.length - (a.toNat + 1)) (c - (a.toNat + 1))] 22)).drew) := below_drew1 (HBW.out.alloc HBW.out.size _)
  have g0 := (b3.cell (World.block_lt_of_cell? w _ c0)).trans c0
  have g1 := (b3.cell (World.block_lt_of_cell? w _ c1)).trans c1
  have C0 := Aside0.mk c0
  have C1 := Aside0.mk c1
  have HB3 := Aside0.mk b3
  have HCC := Aside0.mk hcc
  have HFF := Aside0.mk hff
  clear b3 hBw c0 c1 hcc hff
  refine wpAny_ready (rs := [7, 12]) (by kernel_rfl) (by simp) ?_
  refine AllReady.cons rfl (fun K hK => ?_) (AllReady.cons rfl (fun K hK => ?_) AllReady.nil)
  · go_simp
    refine hK _ _ ?_
    clear hK K
    refine wpAny_ready (rs := [8, 12]) (by kernel_rfl) (by simp) ?_
    refine AllReady.cons rfl (fun K hK => ?_) (AllReady.cons rfl (fun K hK => ?_) AllReady.nil)
    · go_simp
      refine (HCAT.out w2 HBW.out).mono ?_
      rintro e w5 ⟨v, rfl, ho, hb⟩
      have b5 := HB3.out.trans (hb.mono HB3.out.size)
      have f0 := (b5.cell (World.block_lt_of_cell? w _ C0.out)).trans C0.out
      have f1 := (b5.cell (World.block_lt_of_cell? w _ C1.out)).trans C1.out
      have hcc5 : ∀ o, w5.cell? ⟨w.heap.size, o, none⟩ = (w.alloc (Obj.cells #[Value.int IntKind.i64 0, Value.string { data := #[] }] 24)).cell? ⟨w.heap.size, o, none⟩ := fun o => (hb.cell (p := ⟨w.heap.size, o, none⟩) (by show w.heap.size < (w2.alloc _).heap.size; simp; omega)).trans (((((Below.refl w2.heap.size w2).alloc (Nat.le_refl _) _)).cell (p := ⟨w.heap.size, o, none⟩) (by show w.heap.size < w2.heap.size; omega)).trans (HCC.out w.heap.size o (by simp)))
      have hff5 : ∀ o, w5.frozen? ⟨w.heap.size, o, none⟩ = (w.alloc (Obj.cells #[Value.int IntKind.i64 0, Value.string { data := #[] }] 24)).frozen? ⟨w.heap.size, o, none⟩ := fun o => (hb.frozen (p := ⟨w.heap.size, o, none⟩) (by show w.heap.size < (w2.alloc _).heap.size; simp; omega)).trans (((((Below.refl w2.heap.size w2).alloc (Nat.le_refl _) _)).frozen (p := ⟨w.heap.size, o, none⟩) (by show w.heap.size < w2.heap.size; omega)).trans (HFF.out w.heap.size o (by simp)))
      have hsz3 : w.heap.size < ((w2.alloc (Obj.cells #[Value.slice (some ad) (min a.toNat l.length) c, Value.slice A2 (l.length - (a.toNat + 1)) (c - (a.toNat + 1))] 22)).drew).heap.size := by show w.heap.size < (w2.alloc _).heap.size; simp; omega
      have HO := Aside0.mk (Kd.R_lower (Kd.R_mono (ok' := fun k_ => k_ ≠ w.heap.size) (Kd.R_bound ho) (fun k_ hk_ e_ => by have := hk_.2.1; rw [e_] at this; omega)) HB3.out.size)
      have HB5 := Aside0.mk b5
      refine hK _ _ ?_
      clear hK K ho hb b5 hsz3
      refine wpAny_take (i := 13) (v := ?_) rfl (by kernel_rfl) (by kernel_rfl) (by kernel_rfl) (fun _ _ _ h => h) (Or.inl ⟨by rfl, ?_⟩) ?_; rotate_left; focus (intro w; go_simp; try (with_reducible rfl))
      refine wpAny_ready (rs := [12]) (by kernel_rfl) (by simp) ?_
      refine AllReady.cons rfl (fun K hK => ?_) AllReady.nil
      go_simp
      refine hK _ _ ?_
      clear hK K
      refine wpAny_ready (rs := [14]) (by kernel_rfl) (by simp) ?_
      refine AllReady.cons rfl (fun K hK => ?_) AllReady.nil
      go_simp
      refine hK _ _ ?_
      clear hK K
      refine wpAny_take (i := 15) (v := ?_) rfl (by kernel_rfl) (by kernel_rfl) (by kernel_rfl) (fun _ _ _ h => h) (Or.inl ⟨by rfl, ?_⟩) ?_; rotate_left; focus (intro w; go_simp; try (with_reducible rfl))
      refine wpAny_done (by kernel_rfl) ?_ _
      go_wp2
      refine bodyPost_ret (v := .tuple #[v, .agg #[.int .i64 (rd_T24 l a).f0, .string (rd_T24 l a).f1], .int .i64 0]) ?_ rfl ⟨v, rfl, ?_, ?_⟩
      · simp [results, Try.results34, go_sem, hcc5, Act.put]
      · exact Kd.R_mono (Kd.R_far (Kd.R_far HO.out (fun _ hk_ => hk_) _) (fun _ hk_ => hk_) _) (fun _ _ => trivial)
      · exact (HB5.out.setCell (by simp) _).setCell (by simp) _
    · go_simp
      refine hK _ _ ?_
      clear hK K
      refine wpAny_ready (rs := [8]) (by kernel_rfl) (by simp) ?_
      refine AllReady.cons rfl (fun K hK => ?_) AllReady.nil
      go_simp
      refine (HCAT.out w2 HBW.out).mono ?_
      rintro e w5 ⟨v, rfl, ho, hb⟩
      have b5 := HB3.out.trans (hb.mono HB3.out.size)
      have f0 := (b5.cell (World.block_lt_of_cell? w _ C0.out)).trans C0.out
      have f1 := (b5.cell (World.block_lt_of_cell? w _ C1.out)).trans C1.out
      have hcc5 : ∀ o, w5.cell? ⟨w.heap.size, o, none⟩ = (w.alloc (Obj.cells #[Value.int IntKind.i64 0, Value.string { data := #[] }] 24)).cell? ⟨w.heap.size, o, none⟩ := fun o => (hb.cell (p := ⟨w.heap.size, o, none⟩) (by show w.heap.size < (w2.alloc _).heap.size; simp; omega)).trans (((((Below.refl w2.heap.size w2).alloc (Nat.le_refl _) _)).cell (p := ⟨w.heap.size, o, none⟩) (by show w.heap.size < w2.heap.size; omega)).trans (HCC.out w.heap.size o (by simp)))
      have hff5 : ∀ o, w5.frozen? ⟨w.heap.size, o, none⟩ = (w.alloc (Obj.cells #[Value.int IntKind.i64 0, Value.string { data := #[] }] 24)).frozen? ⟨w.heap.size, o, none⟩ := fun o => (hb.frozen (p := ⟨w.heap.size, o, none⟩) (by show w.heap.size < (w2.alloc _).heap.size; simp; omega)).trans (((((Below.refl w2.heap.size w2).alloc (Nat.le_refl _) _)).frozen (p := ⟨w.heap.size, o, none⟩) (by show w.heap.size < w2.heap.size; omega)).trans (HFF.out w.heap.size o (by simp)))
      have hsz3 : w.heap.size < ((w2.alloc (Obj.cells #[Value.slice (some ad) (min a.toNat l.length) c, Value.slice A2 (l.length - (a.toNat + 1)) (c - (a.toNat + 1))] 22)).drew).heap.size := by show w.heap.size < (w2.alloc _).heap.size; simp; omega
      have HO := Aside0.mk (Kd.R_lower (Kd.R_mono (ok' := fun k_ => k_ ≠ w.heap.size) (Kd.R_bound ho) (fun k_ hk_ e_ => by have := hk_.2.1; rw [e_] at this; omega)) HB3.out.size)
      have HB5 := Aside0.mk b5
      refine hK _ _ ?_
      clear hK K ho hb b5 hsz3
      refine wpAny_take (i := 13) (v := ?_) rfl (by kernel_rfl) (by kernel_rfl) (by kernel_rfl) (fun _ _ _ h => h) (Or.inl ⟨by rfl, ?_⟩) ?_; rotate_left; focus (intro w; go_simp; try (with_reducible rfl))
      refine wpAny_ready (rs := [14]) (by kernel_rfl) (by simp) ?_
      refine AllReady.cons rfl (fun K hK => ?_) AllReady.nil
      go_simp
      refine hK _ _ ?_
      clear hK K
      refine wpAny_take (i := 15) (v := ?_) rfl (by kernel_rfl) (by kernel_rfl) (by kernel_rfl) (fun _ _ _ h => h) (Or.inl ⟨by rfl, ?_⟩) ?_; rotate_left; focus (intro w; go_simp; try (with_reducible rfl))
      refine wpAny_done (by kernel_rfl) ?_ _
      go_wp2
      refine bodyPost_ret (v := .tuple #[v, .agg #[.int .i64 (rd_T24 l a).f0, .string (rd_T24 l a).f1], .int .i64 0]) ?_ rfl ⟨v, rfl, ?_, ?_⟩
      · simp [results, Try.results34, go_sem, hcc5, Act.put]
      · exact Kd.R_mono (Kd.R_far (Kd.R_far HO.out (fun _ hk_ => hk_) _) (fun _ hk_ => hk_) _) (fun _ _ => trivial)
      · exact (HB5.out.setCell (by simp) _).setCell (by simp) _
  · go_simp
    refine hK _ _ ?_
    clear hK K
    refine wpAny_ready (rs := [7]) (by kernel_rfl) (by simp) ?_
    refine AllReady.cons rfl (fun K hK => ?_) AllReady.nil
    go_simp
    refine hK _ _ ?_
    clear hK K
    refine wpAny_ready (rs := [8]) (by kernel_rfl) (by simp) ?_
    refine AllReady.cons rfl (fun K hK => ?_) AllReady.nil
    go_simp
    refine (HCAT.out w2 HBW.out).mono ?_
    rintro e w5 ⟨v, rfl, ho, hb⟩
    have b5 := HB3.out.trans (hb.mono HB3.out.size)
    have f0 := (b5.cell (World.block_lt_of_cell? w _ C0.out)).trans C0.out
    have f1 := (b5.cell (World.block_lt_of_cell? w _ C1.out)).trans C1.out
    have hcc5 : ∀ o, w5.cell? ⟨w.heap.size, o, none⟩ = (w.alloc (Obj.cells #[Value.int IntKind.i64 0, Value.string { data := #[] }] 24)).cell? ⟨w.heap.size, o, none⟩ := fun o => (hb.cell (p := ⟨w.heap.size, o, none⟩) (by show w.heap.size < (w2.alloc _).heap.size; simp; omega)).trans (((((Below.refl w2.heap.size w2).alloc (Nat.le_refl _) _)).cell (p := ⟨w.heap.size, o, none⟩) (by show w.heap.size < w2.heap.size; omega)).trans (HCC.out w.heap.size o (by simp)))
    have hff5 : ∀ o, w5.frozen? ⟨w.heap.size, o, none⟩ = (w.alloc (Obj.cells #[Value.int IntKind.i64 0, Value.string { data := #[] }] 24)).frozen? ⟨w.heap.size, o, none⟩ := fun o => (hb.frozen (p := ⟨w.heap.size, o, none⟩) (by show w.heap.size < (w2.alloc _).heap.size; simp; omega)).trans (((((Below.refl w2.heap.size w2).alloc (Nat.le_refl _) _)).frozen (p := ⟨w.heap.size, o, none⟩) (by show w.heap.size < w2.heap.size; omega)).trans (HFF.out w.heap.size o (by simp)))
    have hsz3 : w.heap.size < ((w2.alloc (Obj.cells #[Value.slice (some ad) (min a.toNat l.length) c, Value.slice A2 (l.length - (a.toNat + 1)) (c - (a.toNat + 1))] 22)).drew).heap.size := by show w.heap.size < (w2.alloc _).heap.size; simp; omega
    have HO := Aside0.mk (Kd.R_lower (Kd.R_mono (ok' := fun k_ => k_ ≠ w.heap.size) (Kd.R_bound ho) (fun k_ hk_ e_ => by have := hk_.2.1; rw [e_] at this; omega)) HB3.out.size)
    have HB5 := Aside0.mk b5
    refine hK _ _ ?_
    clear hK K ho hb b5 hsz3
    refine wpAny_take (i := 13) (v := ?_) rfl (by kernel_rfl) (by kernel_rfl) (by kernel_rfl) (fun _ _ _ h => h) (Or.inl ⟨by rfl, ?_⟩) ?_; rotate_left; focus (intro w; go_simp; try (with_reducible rfl))
    refine wpAny_ready (rs := [14]) (by kernel_rfl) (by simp) ?_
    refine AllReady.cons rfl (fun K hK => ?_) AllReady.nil
    go_simp
    refine hK _ _ ?_
    clear hK K
    refine wpAny_take (i := 15) (v := ?_) rfl (by kernel_rfl) (by kernel_rfl) (by kernel_rfl) (fun _ _ _ h => h) (Or.inl ⟨by rfl, ?_⟩) ?_; rotate_left; focus (intro w; go_simp; try (with_reducible rfl))
    refine wpAny_done (by kernel_rfl) ?_ _
    go_wp2
    refine bodyPost_ret (v := .tuple #[v, .agg #[.int .i64 (rd_T24 l a).f0, .string (rd_T24 l a).f1], .int .i64 0]) ?_ rfl ⟨v, rfl, ?_, ?_⟩
    · simp [results, Try.results34, go_sem, hcc5, Act.put]
    · exact Kd.R_mono (Kd.R_far (Kd.R_far HO.out (fun _ hk_ => hk_) _) (fun _ hk_ => hk_) _) (fun _ _ => trivial)
    · exact (HB5.out.setCell (by simp) _).setCell (by simp) _
theorem wires_Take.calls (A0 : Option Addr) (c0 : Nat) (l0 : List S24) (a1 : Int) (r1 : List S24) (r2_0 : Int) (r2_1 : ByteArray) (r3 : Int) (w : World) (hr0 : Kd.C k24 w A0 l0.length l0) (hc0 : l0.length ≤ c0) (h : wires_Take.f l0 a1 = some (r1, r2_0, r2_1, r3)) :
    Calls Try.prog 34 #[.slice A0 l0.length c0, .int .i64 a1] w fun e w' => ∃ v0_ : Value, e = .returned (.tuple #[v0_, .agg #[.int .i64 r2_0, .string r2_1], .int .i64 r3]) ∧ Kd.R k24 24 w' w.heap.size (fun _ => True) v0_ r1 ∧ Below w.heap.size w w' := by
  unfold wires_Take.f at h
  obtain ⟨t, ht, h⟩ := Option.bind_eq_some_iff.1 h
  by_cases h0 : t = 0
  · rw [if_pos h0] at h
    subst h0
    injection h with h
    injection h with e1 h
    injection h with e2 h
    injection h with e3 e4
    subst e1; subst e2; subst e3; subst e4
    exact take_yes A0 c0 l0 a1 w hr0 hc0 ht
  · rw [if_neg h0] at h
    injection h with h
    injection h with e1 h
    injection h with e2 h
    injection h with e3 e4
    subst e1; subst e2; subst e3; subst e4
    exact (take_no A0 c0 l0 a1 t w hr0 hc0 ht h0).mono (fun e w' hh => ⟨_, hh.1, Kd.R_nil _ _ _ _ _, hh.2⟩)
end Go.Proofs.Ytlkfmmjoiadoiaa.P
