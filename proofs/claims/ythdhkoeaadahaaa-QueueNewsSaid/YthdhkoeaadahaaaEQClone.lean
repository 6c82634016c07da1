/- The contract of queue.clone at a queue in which nothing waits. -/
import Derived.Test.YthdhkoeaadahaaaEConcatW
import Derived.RegionCalls
namespace Go.Proofs.Ythdhkoeaadahaaa.P
open Go.RowKit Go.Proofs.YthdhkoeaadahaaaW.PrintWords Go.Proofs.YthdhkoeaadahaaaW.PrintLast Go.Proofs.YthdhkoeaadahaaaW.PrintMore
attribute [local go_sem] Oper.semAt_some
set_option linter.unusedVariables false
set_option linter.unusedSimpArgs false


def queue_clone.f (l : List S99) (o : List S74) (a b : Int) : Option (List S99 × List S74 × Int × Int) := if l.isEmpty = true ∧ o.isEmpty = true then some ([], [], a, b) else none

theorem info99' : (Try.prog.info? 99).map (fun i => (i.zero, i.size, i.bytes)) = some (some (.agg #[(.int .i64 0), (.int .i64 0), (.slice none 0 0)]), 3, 40) := by kernel_rfl
theorem empty99 (w : World) : Kd.S k99 99 (w.alloc (.cells #[] 99)) w.heap.size (fun _ => True) (.slice (some ⟨w.heap.size, 0, none⟩) 0 0) [] :=
  ⟨fun _ => 0, fun _ _ => trivial, [], by have := World.ownsRow_lit (base := w.heap.size) (e := 99) (size := (k99).sz) w #[] 0 (Nat.le_refl _) (by simp [maxLen]) (by simp); (show (w.alloc _).ownsRow w.heap.size 99 k99.sz _ 0 []); simpa using this, Reps.none _ _⟩
set_option maxRecDepth 100000 in
set_option maxHeartbeats 2000000 in
theorem cloneSets_nil (A : Option Addr) (c : Nat) (w : World) : Calls Try.prog 123 #[.slice A 0 c] w fun e w' => ∃ A' c', e = .returned (.slice A' 0 c') ∧ Kd.S k99 99 w' w.heap.size (fun _ => True) (.slice A' 0 c') [] ∧ Below w.heap.size w w' := by
  have hu99 := Try.underlying99
  rcases A with _ | ad
  · have hq : ∀ W : World, (Go.binOp .eql 24 (.slice none 0 c) (.slice none 0 0)).run Try.prog W = .ok (.bool true) W := fun W => Lib.run_eql_slice_nil W 24 99 none 0 c 0 0 Try.underlying24
    go_enter Try.func123, Try.ntmps123
    go_wp2
    go_ret
    exact ⟨_, _, rfl, Kd.S_nil _ _ _ _ _, Below.refl _ _⟩
  · have hq : ∀ W : World, (Go.binOp .eql 24 (.slice (some ad) 0 c) (.slice none 0 0)).run Try.prog W = .ok (.bool false) W := fun W => Lib.run_eql_slice_nil W 24 99 (some ad) 0 c 0 0 Try.underlying24
    go_enter Try.func123, Try.ntmps123
    go_wp2
    go_ret
    exact ⟨_, _, rfl, empty99 w, below_alloc (Below.refl _ _) _⟩

set_option maxRecDepth 100000 in
set_option maxHeartbeats 4000000 in
theorem clone_none (A0 A1 : Option Addr) (c0 c1 : Nat) (a b : Int) (w : World) : Calls Try.prog 94 #[.agg #[.slice A0 0 c0, .slice A1 0 c1, .int .i64 a, .int .i64 b]] w fun e w' => ∃ v0 v1 : Value, e = .returned (.agg #[v0, v1, .int .i64 a, .int .i64 b]) ∧ Kd.S k99 99 w' w.heap.size (fun k_ => some k_ ≠ (v1 : Value).ownBlock) v0 [] ∧ Kd.R k74 74 w' w.heap.size (fun _ => True) v1 [] ∧ Below w.heap.size w w' := by
  have hu27 := Try.underlying27
  have hu99 := Try.underlying99
  go_enter Try.func94, Try.ntmps94
  go_wp2
  refine wp_region_any (by kernel_rfl) ?_
  try (change wpAny _ _ _ _ _ _ _ (World.drew _))
  generalize hWe : ((w.alloc (.cells #[.slice A0 0 c0, .slice A1 0 c1, .int .i64 a, .int .i64 b] 27)).alloc (.cells #[.slice none 0 0, .slice none 0 0, .int .i64 0, .int .i64 0] 27)).drew = W
  have hs1 : (w.alloc (.cells #[.slice A0 0 c0, .slice A1 0 c1, .int .i64 a, .int .i64 b] 27)).heap.size = w.heap.size + 1 := by simp
  have BK1 := Aside0.mk (show W.heap[w.heap.size]? = some (.cells #[.slice A0 0 c0, .slice A1 0 c1, .int .i64 a, .int .i64 b] 27 (0, 0)) by rw [← hWe]; exact blk_drew (blk_alloc (blk_new w _) _))
  have BK2 := Aside0.mk (show W.heap[w.heap.size + 1]? = some (.cells #[.slice none 0 0, .slice none 0 0, .int .i64 0, .int .i64 0] 27 (0, 0)) by rw [← hWe, ← hs1]; exact blk_drew (blk_new _ _))
  have HB := Aside0.mk (show Below w.heap.size w W by rw [← hWe]; exact below_drew1 (below_alloc (below_alloc (Below.refl _ _) _) _))
  have hz : w.heap.size + 1 < W.heap.size := by rw [← hWe]; simp
  clear hWe hs1
  have x0 : W.cell? ⟨w.heap.size, 0, none⟩ = some (.slice A0 0 c0) := (blk_cell BK1.out 0).trans rfl
  have x1 : W.cell? ⟨w.heap.size, 1, none⟩ = some (.slice A1 0 c1) := (blk_cell BK1.out 1).trans rfl
  refine wpAny_take (i := 0) (v := ?_) rfl (by kernel_rfl) (by kernel_rfl) (by kernel_rfl) (fun _ _ _ h => h) (Or.inl ⟨by rfl, ?_⟩) ?_; rotate_left; focus (intro w; go_simp; try (with_reducible rfl))
  refine wpAny_take (i := 3) (v := ?_) rfl (by kernel_rfl) (by kernel_rfl) (by kernel_rfl) (fun _ _ _ h => h) (Or.inl ⟨by rfl, ?_⟩) ?_; rotate_left; focus (intro w; go_simp; try (with_reducible rfl))
  refine wpAny_ready (rs := [1, 4]) (by kernel_rfl) (by simp) ?_
  refine AllReady.cons rfl (fun K hK => ?_) (AllReady.cons rfl (fun K hK => ?_) AllReady.nil)
  · go_simp
    refine hK _ _ ?_
    clear hK K
    refine wpAny_ready (rs := [2, 4]) (by kernel_rfl) (by simp) ?_
    refine AllReady.cons rfl (fun K hK => ?_) (AllReady.cons rfl (fun K hK => ?_) AllReady.nil)
    · go_simp
      refine (cloneSets_nil A0 c0 W).mono ?_
      rintro e W5 ⟨A5, c5, rfl, hs5, hb5⟩
      have BK1b := Aside0.mk (blk_below BK1.out hb5)
      have BK2b := Aside0.mk (blk_below BK2.out hb5)
      have HB5 := Aside0.mk (HB.out.trans (hb5.mono HB.out.size))
      have hz5 : w.heap.size + 1 < W5.heap.size := Nat.lt_of_lt_of_le hz hb5.size
      have HS5 := Aside0.mk (Kd.S_mono (Kd.S_bound hs5) (ok' := fun k => w.heap.size + 1 < k) (fun k hk => Nat.lt_of_lt_of_le hz hk.2.1))
      have HS5b := Aside0.mk (Kd.S_lower HS5.out HB.out.size)
      clear hs5 hb5 HS5
      have y0 : W5.cell? ⟨w.heap.size, 0, none⟩ = some (.slice A0 0 c0) := (blk_cell BK1b.out 0).trans rfl
      have y1 : W5.cell? ⟨w.heap.size, 1, none⟩ = some (.slice A1 0 c1) := (blk_cell BK1b.out 1).trans rfl
      refine hK _ _ ?_
      clear hK K
      refine wpAny_ready (rs := [4]) (by kernel_rfl) (by simp) ?_
      refine AllReady.cons rfl (fun K hK => ?_) AllReady.nil
      go_simp
      refine hK _ _ ?_
      clear hK K
      refine wpAny_take (i := 6) (v := ?_) rfl (by kernel_rfl) (by kernel_rfl) (by kernel_rfl) (fun _ _ _ h => h) (Or.inl ⟨by rfl, ?_⟩) ?_; rotate_left; focus (intro w; go_simp; try (with_reducible rfl))
      refine wpAny_ready (rs := [5]) (by kernel_rfl) (by simp) ?_
      refine AllReady.cons rfl (fun K hK => ?_) AllReady.nil
      go_simp
      refine (api_Write_99.calls A1 c1 [] [] W5 ⟨rfl, by simp, fun h => absurd h (Nat.lt_irrefl 0)⟩ (Nat.zero_le _) rfl).mono ?_
      rintro e W6 ⟨v6, rfl, hr6, hb6⟩
      obtain ⟨A6, c6, rfl⟩ := Kd.R_slice hr6
      have BK1c := Aside0.mk (blk_below BK1b.out hb6)
      have BK2c := Aside0.mk (blk_below BK2b.out hb6)
      have HB6 := Aside0.mk (HB5.out.trans (hb6.mono HB5.out.size))
      have HS6 := Aside0.mk (Kd.S_elder' HS5b.out (Kd.R_base hr6) hb6)
      have HR6 := Aside0.mk (Kd.R_lower (Kd.R_mono (Kd.R_bound hr6) (ok' := fun k => w.heap.size + 1 < k) (fun k hk => Nat.lt_of_lt_of_le hz5 hk.2.1)) HB5.out.size)
      clear hr6 hb6 y0 y1
      have y0 : W6.cell? ⟨w.heap.size, 0, none⟩ = some (.slice A0 0 c0) := (blk_cell BK1c.out 0).trans rfl
      have y1 : W6.cell? ⟨w.heap.size, 1, none⟩ = some (.slice A1 0 c1) := (blk_cell BK1c.out 1).trans rfl
      have f0 := blk_frozen BK1c.out 0
      have f1 := blk_frozen BK1c.out 1
      refine hK _ _ ?_
      clear hK K
      refine wpAny_ready (rs := [7]) (by kernel_rfl) (by simp) ?_
      refine AllReady.cons rfl (fun K hK => ?_) AllReady.nil
      go_simp
      refine hK _ _ ?_
      clear hK K
      refine wpAny_take (i := 8) (v := ?_) rfl (by kernel_rfl) (by kernel_rfl) (by kernel_rfl) (fun _ _ _ h => h) (Or.inl ⟨by rfl, ?_⟩) ?_; rotate_left; focus (intro w; go_simp; try (with_reducible rfl))
      refine wpAny_ready (rs := [9]) (by kernel_rfl) (by simp) ?_
      refine AllReady.cons rfl (fun K hK => ?_) AllReady.nil
      go_simp
      refine hK _ _ ?_
      clear hK K
      refine wpAny_done (by kernel_rfl) ?_ _
      clear x0 x1 y0 y1 f0 f1
      have bk7 : ((W6.setCell ⟨w.heap.size, 0, none⟩ (.slice A5 0 c5)).setCell ⟨w.heap.size, 1, none⟩ (.slice A6 0 c6)).heap[w.heap.size]? = some (.cells #[.slice A5 0 c5, .slice A6 0 c6, .int .i64 a, .int .i64 b] 27 (0, 0)) := blk_put (blk_put BK1c.out 0 (.slice A5 0 c5) rfl) 1 (.slice A6 0 c6) rfl
      have bk8 : ((W6.setCell ⟨w.heap.size, 0, none⟩ (.slice A5 0 c5)).setCell ⟨w.heap.size, 1, none⟩ (.slice A6 0 c6)).heap[w.heap.size + 1]? = some (.cells #[.slice none 0 0, .slice none 0 0, .int .i64 0, .int .i64 0] 27 (0, 0)) := (Below.heap_setCell _ _ _ _ (Nat.succ_ne_self _)).trans ((Below.heap_setCell _ _ _ _ (Nat.succ_ne_self _)).trans BK2c.out)
      have hs7 := Kd.S_far (p := ⟨w.heap.size, 1, none⟩) (Kd.S_far (p := ⟨w.heap.size, 0, none⟩) HS6.out (fun k hk => Nat.ne_of_gt (Nat.lt_of_succ_lt hk.1)) (.slice A5 0 c5)) (fun k hk => Nat.ne_of_gt (Nat.lt_of_succ_lt hk.1)) (.slice A6 0 c6)
      have hr7 := Kd.R_far (p := ⟨w.heap.size, 1, none⟩) (Kd.R_far (p := ⟨w.heap.size, 0, none⟩) HR6.out (fun k hk => Nat.ne_of_gt (Nat.lt_of_succ_lt hk)) (.slice A5 0 c5)) (fun k hk => Nat.ne_of_gt (Nat.lt_of_succ_lt hk)) (.slice A6 0 c6)
      have hb7 : Below w.heap.size w ((W6.setCell ⟨w.heap.size, 0, none⟩ (.slice A5 0 c5)).setCell ⟨w.heap.size, 1, none⟩ (.slice A6 0 c6)) := (HB6.out.setCell (Nat.le_refl _) _).setCell (Nat.le_refl _) _
      clear HS6 HR6 HB6 BK1c BK2c
      generalize ((W6.setCell ⟨w.heap.size, 0, none⟩ (.slice A5 0 c5)).setCell ⟨w.heap.size, 1, none⟩ (.slice A6 0 c6)) = W7 at bk7 bk8 hs7 hr7 hb7 ⊢
      have BK7 := Aside0.mk bk7
      have BK8 := Aside0.mk bk8
      have HS7 := Aside0.mk hs7
      have HR7 := Aside0.mk hr7
      have HB7 := Aside0.mk hb7
      clear bk7 bk8 hs7 hr7 hb7
      have z0 : W7.cell? ⟨w.heap.size, 0, none⟩ = some (.slice A5 0 c5) := (blk_cell BK7.out 0).trans rfl
      have z1 : W7.cell? ⟨w.heap.size, 1, none⟩ = some (.slice A6 0 c6) := (blk_cell BK7.out 1).trans rfl
      have z2 : W7.cell? ⟨w.heap.size, 2, none⟩ = some (.int .i64 a) := (blk_cell BK7.out 2).trans rfl
      have z3 : W7.cell? ⟨w.heap.size, 3, none⟩ = some (.int .i64 b) := (blk_cell BK7.out 3).trans rfl
      have g0 : W7.cell? ⟨w.heap.size + 1, 0, none⟩ = some (.slice none 0 0) := (blk_cell BK8.out 0).trans rfl
      have g1 : W7.cell? ⟨w.heap.size + 1, 1, none⟩ = some (.slice none 0 0) := (blk_cell BK8.out 1).trans rfl
      have g2 : W7.cell? ⟨w.heap.size + 1, 2, none⟩ = some (.int .i64 0) := (blk_cell BK8.out 2).trans rfl
      have g3 : W7.cell? ⟨w.heap.size + 1, 3, none⟩ = some (.int .i64 0) := (blk_cell BK8.out 3).trans rfl
      have h0 := blk_frozen BK8.out 0
      have h1 := blk_frozen BK8.out 1
      have h2 := blk_frozen BK8.out 2
      have h3 := blk_frozen BK8.out 3
      go_wp2
      go_loopg [3, 15] 0 (fun gg s3 s15 wr => s15 = .int .i64 0 ∧ wr = W7)
      case atStart => exact ⟨rfl, rfl⟩
      case round =>
        obtain ⟨rfl, rfl⟩ := hrel
        go_wp2
        have bk9 := blk_put (blk_put (blk_put (blk_put BK8.out 0 (.slice A5 0 c5) rfl) 1 (.slice A6 0 c6) rfl) 2 (.int .i64 a) rfl) 3 (.int .i64 b) rfl
        have k0 := (blk_cell bk9 0).trans (show _ = some (Value.slice A5 0 c5) from rfl)
        have k1 := (blk_cell bk9 1).trans (show _ = some (Value.slice A6 0 c6) from rfl)
        have k2 := (blk_cell bk9 2).trans (show _ = some (Value.int .i64 a) from rfl)
        have k3 := (blk_cell bk9 3).trans (show _ = some (Value.int .i64 b) from rfl)
        have hs9 := Kd.S_far (p := ⟨w.heap.size + 1, 3, none⟩) (Kd.S_far (p := ⟨w.heap.size + 1, 2, none⟩) (Kd.S_far (p := ⟨w.heap.size + 1, 1, none⟩) (Kd.S_far (p := ⟨w.heap.size + 1, 0, none⟩) HS7.out (fun k hk => Nat.ne_of_gt hk.1) (.slice A5 0 c5)) (fun k hk => Nat.ne_of_gt hk.1) (.slice A6 0 c6)) (fun k hk => Nat.ne_of_gt hk.1) (.int .i64 a)) (fun k hk => Nat.ne_of_gt hk.1) (.int .i64 b)
        have hr9 := Kd.R_far (p := ⟨w.heap.size + 1, 3, none⟩) (Kd.R_far (p := ⟨w.heap.size + 1, 2, none⟩) (Kd.R_far (p := ⟨w.heap.size + 1, 1, none⟩) (Kd.R_far (p := ⟨w.heap.size + 1, 0, none⟩) HR7.out (fun k hk => Nat.ne_of_gt hk) (.slice A5 0 c5)) (fun k hk => Nat.ne_of_gt hk) (.slice A6 0 c6)) (fun k hk => Nat.ne_of_gt hk) (.int .i64 a)) (fun k hk => Nat.ne_of_gt hk) (.int .i64 b)
        have hb9 := (((HB7.out.setCell (p := ⟨w.heap.size + 1, 0, none⟩) (Nat.le_succ _) (.slice A5 0 c5)).setCell (p := ⟨w.heap.size + 1, 1, none⟩) (Nat.le_succ _) (.slice A6 0 c6)).setCell (p := ⟨w.heap.size + 1, 2, none⟩) (Nat.le_succ _) (.int .i64 a)).setCell (p := ⟨w.heap.size + 1, 3, none⟩) (Nat.le_succ _) (.int .i64 b)
        refine bodyPost_ret (v := .agg #[.slice A5 0 c5, .slice A6 0 c6, .int .i64 a, .int .i64 b]) ?_ rfl ⟨_, _, rfl, Kd.S_mono hs9 (fun _ hk => hk.2), Kd.R_mono hr9 (fun _ _ => trivial), hb9⟩
        clear hs9 hr9 hb9 bk9
        simp [results, Try.results94, go_sem, k0, k1, k2, k3]
    · go_simp
      refine hK _ _ ?_
      clear hK K
      refine wpAny_ready (rs := [2]) (by kernel_rfl) (by simp) ?_
      refine AllReady.cons rfl (fun K hK => ?_) AllReady.nil
      go_simp
      refine (cloneSets_nil A0 c0 W).mono ?_
      rintro e W5 ⟨A5, c5, rfl, hs5, hb5⟩
      have BK1b := Aside0.mk (blk_below BK1.out hb5)
      have BK2b := Aside0.mk (blk_below BK2.out hb5)
      have HB5 := Aside0.mk (HB.out.trans (hb5.mono HB.out.size))
      have hz5 : w.heap.size + 1 < W5.heap.size := Nat.lt_of_lt_of_le hz hb5.size
      have HS5 := Aside0.mk (Kd.S_mono (Kd.S_bound hs5) (ok' := fun k => w.heap.size + 1 < k) (fun k hk => Nat.lt_of_lt_of_le hz hk.2.1))
      have HS5b := Aside0.mk (Kd.S_lower HS5.out HB.out.size)
      clear hs5 hb5 HS5
      have y0 : W5.cell? ⟨w.heap.size, 0, none⟩ = some (.slice A0 0 c0) := (blk_cell BK1b.out 0).trans rfl
      have y1 : W5.cell? ⟨w.heap.size, 1, none⟩ = some (.slice A1 0 c1) := (blk_cell BK1b.out 1).trans rfl
      refine hK _ _ ?_
      clear hK K
      refine wpAny_take (i := 6) (v := ?_) rfl (by kernel_rfl) (by kernel_rfl) (by kernel_rfl) (fun _ _ _ h => h) (Or.inl ⟨by rfl, ?_⟩) ?_; rotate_left; focus (intro w; go_simp; try (with_reducible rfl))
      refine wpAny_ready (rs := [5]) (by kernel_rfl) (by simp) ?_
      refine AllReady.cons rfl (fun K hK => ?_) AllReady.nil
      go_simp
      refine (api_Write_99.calls A1 c1 [] [] W5 ⟨rfl, by simp, fun h => absurd h (Nat.lt_irrefl 0)⟩ (Nat.zero_le _) rfl).mono ?_
      rintro e W6 ⟨v6, rfl, hr6, hb6⟩
      obtain ⟨A6, c6, rfl⟩ := Kd.R_slice hr6
      have BK1c := Aside0.mk (blk_below BK1b.out hb6)
      have BK2c := Aside0.mk (blk_below BK2b.out hb6)
      have HB6 := Aside0.mk (HB5.out.trans (hb6.mono HB5.out.size))
      have HS6 := Aside0.mk (Kd.S_elder' HS5b.out (Kd.R_base hr6) hb6)
      have HR6 := Aside0.mk (Kd.R_lower (Kd.R_mono (Kd.R_bound hr6) (ok' := fun k => w.heap.size + 1 < k) (fun k hk => Nat.lt_of_lt_of_le hz5 hk.2.1)) HB5.out.size)
      clear hr6 hb6 y0 y1
      have y0 : W6.cell? ⟨w.heap.size, 0, none⟩ = some (.slice A0 0 c0) := (blk_cell BK1c.out 0).trans rfl
      have y1 : W6.cell? ⟨w.heap.size, 1, none⟩ = some (.slice A1 0 c1) := (blk_cell BK1c.out 1).trans rfl
      have f0 := blk_frozen BK1c.out 0
      have f1 := blk_frozen BK1c.out 1
      refine hK _ _ ?_
      clear hK K
      refine wpAny_ready (rs := [7]) (by kernel_rfl) (by simp) ?_
      refine AllReady.cons rfl (fun K hK => ?_) AllReady.nil
      go_simp
      refine hK _ _ ?_
      clear hK K
      refine wpAny_take (i := 8) (v := ?_) rfl (by kernel_rfl) (by kernel_rfl) (by kernel_rfl) (fun _ _ _ h => h) (Or.inl ⟨by rfl, ?_⟩) ?_; rotate_left; focus (intro w; go_simp; try (with_reducible rfl))
      refine wpAny_ready (rs := [9]) (by kernel_rfl) (by simp) ?_
      refine AllReady.cons rfl (fun K hK => ?_) AllReady.nil
      go_simp
      refine hK _ _ ?_
      clear hK K
      refine wpAny_done (by kernel_rfl) ?_ _
      clear x0 x1 y0 y1 f0 f1
      have bk7 : ((W6.setCell ⟨w.heap.size, 0, none⟩ (.slice A5 0 c5)).setCell ⟨w.heap.size, 1, none⟩ (.slice A6 0 c6)).heap[w.heap.size]? = some (.cells #[.slice A5 0 c5, .slice A6 0 c6, .int .i64 a, .int .i64 b] 27 (0, 0)) := blk_put (blk_put BK1c.out 0 (.slice A5 0 c5) rfl) 1 (.slice A6 0 c6) rfl
      have bk8 : ((W6.setCell ⟨w.heap.size, 0, none⟩ (.slice A5 0 c5)).setCell ⟨w.heap.size, 1, none⟩ (.slice A6 0 c6)).heap[w.heap.size + 1]? = some (.cells #[.slice none 0 0, .slice none 0 0, .int .i64 0, .int .i64 0] 27 (0, 0)) := (Below.heap_setCell _ _ _ _ (Nat.succ_ne_self _)).trans ((Below.heap_setCell _ _ _ _ (Nat.succ_ne_self _)).trans BK2c.out)
      have hs7 := Kd.S_far (p := ⟨w.heap.size, 1, none⟩) (Kd.S_far (p := ⟨w.heap.size, 0, none⟩) HS6.out (fun k hk => Nat.ne_of_gt (Nat.lt_of_succ_lt hk.1)) (.slice A5 0 c5)) (fun k hk => Nat.ne_of_gt (Nat.lt_of_succ_lt hk.1)) (.slice A6 0 c6)
      have hr7 := Kd.R_far (p := ⟨w.heap.size, 1, none⟩) (Kd.R_far (p := ⟨w.heap.size, 0, none⟩) HR6.out (fun k hk => Nat.ne_of_gt (Nat.lt_of_succ_lt hk)) (.slice A5 0 c5)) (fun k hk => Nat.ne_of_gt (Nat.lt_of_succ_lt hk)) (.slice A6 0 c6)
      have hb7 : Below w.heap.size w ((W6.setCell ⟨w.heap.size, 0, none⟩ (.slice A5 0 c5)).setCell ⟨w.heap.size, 1, none⟩ (.slice A6 0 c6)) := (HB6.out.setCell (Nat.le_refl _) _).setCell (Nat.le_refl _) _
      clear HS6 HR6 HB6 BK1c BK2c
      generalize ((W6.setCell ⟨w.heap.size, 0, none⟩ (.slice A5 0 c5)).setCell ⟨w.heap.size, 1, none⟩ (.slice A6 0 c6)) = W7 at bk7 bk8 hs7 hr7 hb7 ⊢
      have BK7 := Aside0.mk bk7
      have BK8 := Aside0.mk bk8
      have HS7 := Aside0.mk hs7
      have HR7 := Aside0.mk hr7
      have HB7 := Aside0.mk hb7
      clear bk7 bk8 hs7 hr7 hb7
      have z0 : W7.cell? ⟨w.heap.size, 0, none⟩ = some (.slice A5 0 c5) := (blk_cell BK7.out 0).trans rfl
      have z1 : W7.cell? ⟨w.heap.size, 1, none⟩ = some (.slice A6 0 c6) := (blk_cell BK7.out 1).trans rfl
      have z2 : W7.cell? ⟨w.heap.size, 2, none⟩ = some (.int .i64 a) := (blk_cell BK7.out 2).trans rfl
      have z3 : W7.cell? ⟨w.heap.size, 3, none⟩ = some (.int .i64 b) := (blk_cell BK7.out 3).trans rfl
      have g0 : W7.cell? ⟨w.heap.size + 1, 0, none⟩ = some (.slice none 0 0) := (blk_cell BK8.out 0).trans rfl
      have g1 : W7.cell? ⟨w.heap.size + 1, 1, none⟩ = some (.slice none 0 0) := (blk_cell BK8.out 1).trans rfl
      have g2 : W7.cell? ⟨w.heap.size + 1, 2, none⟩ = some (.int .i64 0) := (blk_cell BK8.out 2).trans rfl
      have g3 : W7.cell? ⟨w.heap.size + 1, 3, none⟩ = some (.int .i64 0) := (blk_cell BK8.out 3).trans rfl
      have h0 := blk_frozen BK8.out 0
      have h1 := blk_frozen BK8.out 1
      have h2 := blk_frozen BK8.out 2
      have h3 := blk_frozen BK8.out 3
      go_wp2
      go_loopg [3, 15] 0 (fun gg s3 s15 wr => s15 = .int .i64 0 ∧ wr = W7)
      case atStart => exact ⟨rfl, rfl⟩
      case round =>
        obtain ⟨rfl, rfl⟩ := hrel
        go_wp2
        have bk9 := blk_put (blk_put (blk_put (blk_put BK8.out 0 (.slice A5 0 c5) rfl) 1 (.slice A6 0 c6) rfl) 2 (.int .i64 a) rfl) 3 (.int .i64 b) rfl
        have k0 := (blk_cell bk9 0).trans (show _ = some (Value.slice A5 0 c5) from rfl)
        have k1 := (blk_cell bk9 1).trans (show _ = some (Value.slice A6 0 c6) from rfl)
        have k2 := (blk_cell bk9 2).trans (show _ = some (Value.int .i64 a) from rfl)
        have k3 := (blk_cell bk9 3).trans (show _ = some (Value.int .i64 b) from rfl)
        have hs9 := Kd.S_far (p := ⟨w.heap.size + 1, 3, none⟩) (Kd.S_far (p := ⟨w.heap.size + 1, 2, none⟩) (Kd.S_far (p := ⟨w.heap.size + 1, 1, none⟩) (Kd.S_far (p := ⟨w.heap.size + 1, 0, none⟩) HS7.out (fun k hk => Nat.ne_of_gt hk.1) (.slice A5 0 c5)) (fun k hk => Nat.ne_of_gt hk.1) (.slice A6 0 c6)) (fun k hk => Nat.ne_of_gt hk.1) (.int .i64 a)) (fun k hk => Nat.ne_of_gt hk.1) (.int .i64 b)
        have hr9 := Kd.R_far (p := ⟨w.heap.size + 1, 3, none⟩) (Kd.R_far (p := ⟨w.heap.size + 1, 2, none⟩) (Kd.R_far (p := ⟨w.heap.size + 1, 1, none⟩) (Kd.R_far (p := ⟨w.heap.size + 1, 0, none⟩) HR7.out (fun k hk => Nat.ne_of_gt hk) (.slice A5 0 c5)) (fun k hk => Nat.ne_of_gt hk) (.slice A6 0 c6)) (fun k hk => Nat.ne_of_gt hk) (.int .i64 a)) (fun k hk => Nat.ne_of_gt hk) (.int .i64 b)
        have hb9 := (((HB7.out.setCell (p := ⟨w.heap.size + 1, 0, none⟩) (Nat.le_succ _) (.slice A5 0 c5)).setCell (p := ⟨w.heap.size + 1, 1, none⟩) (Nat.le_succ _) (.slice A6 0 c6)).setCell (p := ⟨w.heap.size + 1, 2, none⟩) (Nat.le_succ _) (.int .i64 a)).setCell (p := ⟨w.heap.size + 1, 3, none⟩) (Nat.le_succ _) (.int .i64 b)
        refine bodyPost_ret (v := .agg #[.slice A5 0 c5, .slice A6 0 c6, .int .i64 a, .int .i64 b]) ?_ rfl ⟨_, _, rfl, Kd.S_mono hs9 (fun _ hk => hk.2), Kd.R_mono hr9 (fun _ _ => trivial), hb9⟩
        clear hs9 hr9 hb9 bk9
        simp [results, Try.results94, go_sem, k0, k1, k2, k3]
  · go_simp
    refine hK _ _ ?_
    clear hK K
    refine wpAny_ready (rs := [1]) (by kernel_rfl) (by simp) ?_
    refine AllReady.cons rfl (fun K hK => ?_) AllReady.nil
    go_simp
    refine hK _ _ ?_
    clear hK K
    refine wpAny_ready (rs := [2]) (by kernel_rfl) (by simp) ?_
    refine AllReady.cons rfl (fun K hK => ?_) AllReady.nil
    go_simp
    refine (cloneSets_nil A0 c0 W).mono ?_
    rintro e W5 ⟨A5, c5, rfl, hs5, hb5⟩
    have BK1b := Aside0.mk (blk_below BK1.out hb5)
    have BK2b := Aside0.mk (blk_below BK2.out hb5)
    have HB5 := Aside0.mk (HB.out.trans (hb5.mono HB.out.size))
    have hz5 : w.heap.size + 1 < W5.heap.size := Nat.lt_of_lt_of_le hz hb5.size
    have HS5 := Aside0.mk (Kd.S_mono (Kd.S_bound hs5) (ok' := fun k => w.heap.size + 1 < k) (fun k hk => Nat.lt_of_lt_of_le hz hk.2.1))
    have HS5b := Aside0.mk (Kd.S_lower HS5.out HB.out.size)
    clear hs5 hb5 HS5
    have y0 : W5.cell? ⟨w.heap.size, 0, none⟩ = some (.slice A0 0 c0) := (blk_cell BK1b.out 0).trans rfl
    have y1 : W5.cell? ⟨w.heap.size, 1, none⟩ = some (.slice A1 0 c1) := (blk_cell BK1b.out 1).trans rfl
    refine hK _ _ ?_
    clear hK K
    refine wpAny_take (i := 6) (v := ?_) rfl (by kernel_rfl) (by kernel_rfl) (by kernel_rfl) (fun _ _ _ h => h) (Or.inl ⟨by rfl, ?_⟩) ?_; rotate_left; focus (intro w; go_simp; try (with_reducible rfl))
    refine wpAny_ready (rs := [5]) (by kernel_rfl) (by simp) ?_
    refine AllReady.cons rfl (fun K hK => ?_) AllReady.nil
    go_simp
    refine (api_Write_99.calls A1 c1 [] [] W5 ⟨rfl, by simp, fun h => absurd h (Nat.lt_irrefl 0)⟩ (Nat.zero_le _) rfl).mono ?_
    rintro e W6 ⟨v6, rfl, hr6, hb6⟩
    obtain ⟨A6, c6, rfl⟩ := Kd.R_slice hr6
    have BK1c := Aside0.mk (blk_below BK1b.out hb6)
    have BK2c := Aside0.mk (blk_below BK2b.out hb6)
    have HB6 := Aside0.mk (HB5.out.trans (hb6.mono HB5.out.size))
    have HS6 := Aside0.mk (Kd.S_elder' HS5b.out (Kd.R_base hr6) hb6)
    have HR6 := Aside0.mk (Kd.R_lower (Kd.R_mono (Kd.R_bound hr6) (ok' := fun k => w.heap.size + 1 < k) (fun k hk => Nat.lt_of_lt_of_le hz5 hk.2.1)) HB5.out.size)
    clear hr6 hb6 y0 y1
    have y0 : W6.cell? ⟨w.heap.size, 0, none⟩ = some (.slice A0 0 c0) := (blk_cell BK1c.out 0).trans rfl
    have y1 : W6.cell? ⟨w.heap.size, 1, none⟩ = some (.slice A1 0 c1) := (blk_cell BK1c.out 1).trans rfl
    have f0 := blk_frozen BK1c.out 0
    have f1 := blk_frozen BK1c.out 1
    refine hK _ _ ?_
    clear hK K
    refine wpAny_ready (rs := [7]) (by kernel_rfl) (by simp) ?_
    refine AllReady.cons rfl (fun K hK => ?_) AllReady.nil
    go_simp
    refine hK _ _ ?_
    clear hK K
    refine wpAny_take (i := 8) (v := ?_) rfl (by kernel_rfl) (by kernel_rfl) (by kernel_rfl) (fun _ _ _ h => h) (Or.inl ⟨by rfl, ?_⟩) ?_; rotate_left; focus (intro w; go_simp; try (with_reducible rfl))
    refine wpAny_ready (rs := [9]) (by kernel_rfl) (by simp) ?_
    refine AllReady.cons rfl (fun K hK => ?_) AllReady.nil
    go_simp
    refine hK _ _ ?_
    clear hK K
    refine wpAny_done (by kernel_rfl) ?_ _
    clear x0 x1 y0 y1 f0 f1
    have bk7 : ((W6.setCell ⟨w.heap.size, 0, none⟩ (.slice A5 0 c5)).setCell ⟨w.heap.size, 1, none⟩ (.slice A6 0 c6)).heap[w.heap.size]? = some (.cells #[.slice A5 0 c5, .slice A6 0 c6, .int .i64 a, .int .i64 b] 27 (0, 0)) := blk_put (blk_put BK1c.out 0 (.slice A5 0 c5) rfl) 1 (.slice A6 0 c6) rfl
    have bk8 : ((W6.setCell ⟨w.heap.size, 0, none⟩ (.slice A5 0 c5)).setCell ⟨w.heap.size, 1, none⟩ (.slice A6 0 c6)).heap[w.heap.size + 1]? = some (.cells #[.slice none 0 0, .slice none 0 0, .int .i64 0, .int .i64 0] 27 (0, 0)) := (Below.heap_setCell _ _ _ _ (Nat.succ_ne_self _)).trans ((Below.heap_setCell _ _ _ _ (Nat.succ_ne_self _)).trans BK2c.out)
    have hs7 := Kd.S_far (p := ⟨w.heap.size, 1, none⟩) (Kd.S_far (p := ⟨w.heap.size, 0, none⟩) HS6.out (fun k hk => Nat.ne_of_gt (Nat.lt_of_succ_lt hk.1)) (.slice A5 0 c5)) (fun k hk => Nat.ne_of_gt (Nat.lt_of_succ_lt hk.1)) (.slice A6 0 c6)
    have hr7 := Kd.R_far (p := ⟨w.heap.size, 1, none⟩) (Kd.R_far (p := ⟨w.heap.size, 0, none⟩) HR6.out (fun k hk => Nat.ne_of_gt (Nat.lt_of_succ_lt hk)) (.slice A5 0 c5)) (fun k hk => Nat.ne_of_gt (Nat.lt_of_succ_lt hk)) (.slice A6 0 c6)
    have hb7 : Below w.heap.size w ((W6.setCell ⟨w.heap.size, 0, none⟩ (.slice A5 0 c5)).setCell ⟨w.heap.size, 1, none⟩ (.slice A6 0 c6)) := (HB6.out.setCell (Nat.le_refl _) _).setCell (Nat.le_refl _) _
    clear HS6 HR6 HB6 BK1c BK2c
    generalize ((W6.setCell ⟨w.heap.size, 0, none⟩ (.slice A5 0 c5)).setCell ⟨w.heap.size, 1, none⟩ (.slice A6 0 c6)) = W7 at bk7 bk8 hs7 hr7 hb7 ⊢
    have BK7 := Aside0.mk bk7
    have BK8 := Aside0.mk bk8
    have HS7 := Aside0.mk hs7
    have HR7 := Aside0.mk hr7
    have HB7 := Aside0.mk hb7
    clear bk7 bk8 hs7 hr7 hb7
    have z0 : W7.cell? ⟨w.heap.size, 0, none⟩ = some (.slice A5 0 c5) := (blk_cell BK7.out 0).trans rfl
    have z1 : W7.cell? ⟨w.heap.size, 1, none⟩ = some (.slice A6 0 c6) := (blk_cell BK7.out 1).trans rfl
    have z2 : W7.cell? ⟨w.heap.size, 2, none⟩ = some (.int .i64 a) := (blk_cell BK7.out 2).trans rfl
    have z3 : W7.cell? ⟨w.heap.size, 3, none⟩ = some (.int .i64 b) := (blk_cell BK7.out 3).trans rfl
    have g0 : W7.cell? ⟨w.heap.size + 1, 0, none⟩ = some (.slice none 0 0) := (blk_cell BK8.out 0).trans rfl
    have g1 : W7.cell? ⟨w.heap.size + 1, 1, none⟩ = some (.slice none 0 0) := (blk_cell BK8.out 1).trans rfl
    have g2 : W7.cell? ⟨w.heap.size + 1, 2, none⟩ = some (.int .i64 0) := (blk_cell BK8.out 2).trans rfl
    have g3 : W7.cell? ⟨w.heap.size + 1, 3, none⟩ = some (.int .i64 0) := (blk_cell BK8.out 3).trans rfl
    have h0 := blk_frozen BK8.out 0
    have h1 := blk_frozen BK8.out 1
    have h2 := blk_frozen BK8.out 2
    have h3 := blk_frozen BK8.out 3
    go_wp2
    go_loopg [3, 15] 0 (fun gg s3 s15 wr => s15 = .int .i64 0 ∧ wr = W7)
    case atStart => exact ⟨rfl, rfl⟩
    case round =>
      obtain ⟨rfl, rfl⟩ := hrel
      go_wp2
      have bk9 := blk_put (blk_put (blk_put (blk_put BK8.out 0 (.slice A5 0 c5) rfl) 1 (.slice A6 0 c6) rfl) 2 (.int .i64 a) rfl) 3 (.int .i64 b) rfl
      have k0 := (blk_cell bk9 0).trans (show _ = some (Value.slice A5 0 c5) from rfl)
      have k1 := (blk_cell bk9 1).trans (show _ = some (Value.slice A6 0 c6) from rfl)
      have k2 := (blk_cell bk9 2).trans (show _ = some (Value.int .i64 a) from rfl)
      have k3 := (blk_cell bk9 3).trans (show _ = some (Value.int .i64 b) from rfl)
      have hs9 := Kd.S_far (p := ⟨w.heap.size + 1, 3, none⟩) (Kd.S_far (p := ⟨w.heap.size + 1, 2, none⟩) (Kd.S_far (p := ⟨w.heap.size + 1, 1, none⟩) (Kd.S_far (p := ⟨w.heap.size + 1, 0, none⟩) HS7.out (fun k hk => Nat.ne_of_gt hk.1) (.slice A5 0 c5)) (fun k hk => Nat.ne_of_gt hk.1) (.slice A6 0 c6)) (fun k hk => Nat.ne_of_gt hk.1) (.int .i64 a)) (fun k hk => Nat.ne_of_gt hk.1) (.int .i64 b)
      have hr9 := Kd.R_far (p := ⟨w.heap.size + 1, 3, none⟩) (Kd.R_far (p := ⟨w.heap.size + 1, 2, none⟩) (Kd.R_far (p := ⟨w.heap.size + 1, 1, none⟩) (Kd.R_far (p := ⟨w.heap.size + 1, 0, none⟩) HR7.out (fun k hk => Nat.ne_of_gt hk) (.slice A5 0 c5)) (fun k hk => Nat.ne_of_gt hk) (.slice A6 0 c6)) (fun k hk => Nat.ne_of_gt hk) (.int .i64 a)) (fun k hk => Nat.ne_of_gt hk) (.int .i64 b)
      have hb9 := (((HB7.out.setCell (p := ⟨w.heap.size + 1, 0, none⟩) (Nat.le_succ _) (.slice A5 0 c5)).setCell (p := ⟨w.heap.size + 1, 1, none⟩) (Nat.le_succ _) (.slice A6 0 c6)).setCell (p := ⟨w.heap.size + 1, 2, none⟩) (Nat.le_succ _) (.int .i64 a)).setCell (p := ⟨w.heap.size + 1, 3, none⟩) (Nat.le_succ _) (.int .i64 b)
      refine bodyPost_ret (v := .agg #[.slice A5 0 c5, .slice A6 0 c6, .int .i64 a, .int .i64 b]) ?_ rfl ⟨_, _, rfl, Kd.S_mono hs9 (fun _ hk => hk.2), Kd.R_mono hr9 (fun _ _ => trivial), hb9⟩
      clear hs9 hr9 hb9 bk9
      simp [results, Try.results94, go_sem, k0, k1, k2, k3]
theorem queue_clone.calls (A0_0 : Option Addr) (c0_0 : Nat) (l0_0 : List S99) (A0_1 : Option Addr) (c0_1 : Nat) (l0_1 : List S74) (a0_2 a0_3 : Int) (r0 : List S99) (r1 : List S74) (r2 r3 : Int) (w : World) (hr0_0 : Kd.C k99 w A0_0 l0_0.length l0_0) (hc0_0 : l0_0.length ≤ c0_0) (hr0_1 : Kd.C k74 w A0_1 l0_1.length l0_1) (hc0_1 : l0_1.length ≤ c0_1) (h : queue_clone.f l0_0 l0_1 a0_2 a0_3 = some (r0, r1, r2, r3)) :
    Calls Try.prog 94 #[.agg #[.slice A0_0 l0_0.length c0_0, .slice A0_1 l0_1.length c0_1, .int .i64 a0_2, .int .i64 a0_3]] w fun e w' => ∃ v0_ v1_ : Value, e = .returned (.agg #[v0_, v1_, .int .i64 r2, .int .i64 r3]) ∧ Kd.S k99 99 w' w.heap.size (fun k_ => some k_ ≠ (v1_ : Value).ownBlock) v0_ r0 ∧ Kd.R k74 74 w' w.heap.size (fun _ => True) v1_ r1 ∧ Below w.heap.size w w' := by
  unfold queue_clone.f at h
  by_cases hh : l0_0.isEmpty = true ∧ l0_1.isEmpty = true
  · rw [if_pos hh] at h
    obtain rfl := List.isEmpty_iff.1 hh.1
    obtain rfl := List.isEmpty_iff.1 hh.2
    injection h with h
    injection h with e0 h
    injection h with e1 h
    injection h with e2 e3
    subst e0; subst e1; subst e2; subst e3
    exact clone_none A0_0 A0_1 c0_0 c0_1 a0_2 a0_3 w
  · rw [if_neg hh] at h
    exact absurd h (by simp)
end Go.Proofs.Ythdhkoeaadahaaa.P
