/- ring.Pieces: which pieces it makes of places on a ring. -/
import Derived.Test.YtlemimpbmnbpiaaPRingPiecesx1
namespace Go.Proofs.Ytlemimpbmnbpiaa.PRingPieces
open Go.RowKit Go.Proofs.YtlemimpbmnbpiaaW.PrintWords Go.Proofs.YtlemimpbmnbpiaaW.PrintLast Go.Proofs.YtlemimpbmnbpiaaW.PrintMore
attribute [local go_sem] max2_int min2_int max_two min_two
set_option linter.unusedVariables false
set_option linter.unusedSimpArgs false

theorem right1 (s a : Int) (k : Nat) : ring_right.f (k + 6) s [a] = some (decide (1 ≤ s ∧ s ≤ 4096 ∧ 0 ≤ a ∧ a < s)) := by
  by_cases h1 : 1 ≤ s <;> by_cases h2 : s ≤ 4096 <;> by_cases h3 : 0 ≤ a <;>
    simp [ring_right.f, ring_right.j0, ring_right.l0, rd, wrap64, h1, h2, h3]
theorem info36 : (Try.prog.info? 36).map (fun i => (i.zero, i.size, i.bytes)) = some (some (.agg #[.int .i64 0, .int .i64 0]), 2, 16) := by kernel_rfl
/-- A piece's cells. -/
def pc (x y : Int) : List Value := [.int .i64 x, .int .i64 y]
theorem pc_M (w : World) (base : Nat) (ok : Nat → Prop) (x y : Int) : (Kd.raw 2).M w base ok (pc x y) (pc x y) := ⟨rfl, rfl, fun u hu => by
  simp only [pc, List.mem_cons, List.not_mem_nil, or_false] at hu
  rcases hu with rfl | rfl <;> rfl⟩
theorem right_any (s a : Int) (t : Bool) (h : decide (1 ≤ s ∧ s ≤ 4096 ∧ 0 ≤ a ∧ a < s) = t) (W : World) (A : Option Addr) (c : Nat) (hC : Kd.C (Kd.int .i64) W A ([a] : List Int).length [a]) (hc : ([a] : List Int).length ≤ c) :
    Calls Try.prog 17 #[.int .i64 s, .slice A ([a] : List Int).length c] W fun e w' => e = .returned (.bool t) ∧ ∃ nd, w' = W.drewN nd := by
  refine (ring_right.calls 6 s A c [a] t W hC hc (by rw [← h]; exact right1 s a 0)).mono ?_
  rintro e w' ⟨rfl, ⟨nd, rfl⟩⟩
  exact ⟨rfl, nd, rfl⟩
set_option maxRecDepth 100000 in
set_option maxHeartbeats 2000000 in
theorem pieces_wrong (s a n : Int) (t : Bool) (h : decide (1 ≤ s ∧ s ≤ 4096 ∧ 0 ≤ a ∧ a < s) = t) (hw : t = false ∨ t = true ∧ n < 0 ∨ t = true ∧ 0 ≤ n ∧ s < n) (w : World) :
    Calls Try.prog 14 #[.int .i64 s, .int .i64 a, .int .i64 n] w fun e w' => e = .returned (.tuple #[.slice none 0 0, .int .i64 1]) ∧ Below w.heap.size w w' := by
  have HRT := Aside0.mk (right_any s a t h)
  have HB := Aside0.mk (Below.refl w.heap.size w)
  clear h
  rcases hw with rfl | ⟨rfl, h0⟩ | ⟨rfl, h0, h1⟩
  all_goals
    go_enter Try.func14, Try.ntmps14
    go_wp2_with (first
      | ((with_reducible refine gate_dst (N := 13) rfl ?_); refine Kd.R_lit (Kd.int .i64) _ 3 ?hg (N := 13) ?hd (xs := ([a] : List Int)) (inner := [.int .i64 a]) (ok := fun _ => True) (okp := fun _ => True) ?hr ?hp (fun _ hk => hk) trivial (Below.refl _ _) (Nat.le_refl _) (by simp) ?_; (case hd => rfl); (case hg => rfl); (case hr => first | (go_simp; done) | (go_simp; rfl)); (case hp => exact (Reps.one (show Kd.M (Kd.int .i64) _ _ _ a [.int .i64 a] from rfl) (Reps.none _ _))); intro v1 w1 ho hb hg_ hnew_; obtain ⟨A1, c1, e1⟩ := Kd.R_slice ho; subst e1; have HO1 := Aside0.mk ho; have HB1 := Aside0.mk hb; clear ho hb hg_ hnew_)
      | (go_at_call 17; refine (HRT.out _ A1 c1 (Kd.R_reads' HO1.out).2.2 (Kd.R_reads' HO1.out).2.1).mono ?_; rintro e w2 ⟨rfl, nd, rfl⟩))
    go_ret2
    exact ⟨rfl, by repeat (first | exact HB1.out | apply pw_below_drewN | apply below_drew1)⟩
/-- The pieces, as the document says. -/
def piecesL (s a n : Int) : List (List Value) := if n ≤ 0 then [] else if n ≤ s - a then [pc a n] else [pc a (s - a), pc 0 (n - (s - a))]
set_option maxRecDepth 100000 in
set_option maxHeartbeats 2000000 in
theorem pieces_right (s a n : Int) (hs1 : 1 ≤ s) (hs2 : s ≤ 4096) (ha0 : 0 ≤ a) (ha1 : a < s) (hn0 : 0 ≤ n) (hn1 : n ≤ s) (w : World) :
    Calls Try.prog 14 #[.int .i64 s, .int .i64 a, .int .i64 n] w fun e w' => ∃ v : Value, e = .returned (.tuple #[v, .int .i64 0]) ∧ Kd.R (Kd.raw 2) 36 w' w.heap.size (fun _ => True) v (piecesL s a n) ∧ Below w.heap.size w w' := by
  have HRT := Aside0.mk (right_any s a true (by simp; omega))
  have HB := Aside0.mk (Below.refl w.heap.size w)
  unfold piecesL
  by_cases h1 : n ≤ 0
  · obtain rfl : n = 0 := by omega
    rw [if_pos (by omega)]
    go_enter Try.func14, Try.ntmps14
    go_wp2_with (first
      | ((with_reducible refine gate_dst (N := 13) rfl ?_); refine Kd.R_lit (Kd.int .i64) _ 3 ?hg (N := 13) ?hd (xs := ([a] : List Int)) (inner := [.int .i64 a]) (ok := fun _ => True) (okp := fun _ => True) ?hr ?hp (fun _ hk => hk) trivial (Below.refl _ _) (Nat.le_refl _) (by simp) ?_; (case hd => rfl); (case hg => rfl); (case hr => first | (go_simp; done) | (go_simp; rfl)); (case hp => exact (Reps.one (show Kd.M (Kd.int .i64) _ _ _ a [.int .i64 a] from rfl) (Reps.none _ _))); intro v1 w1 ho hb hg_ hnew_; obtain ⟨A1, c1, e1⟩ := Kd.R_slice ho; subst e1; have HO1 := Aside0.mk ho; have HB1 := Aside0.mk hb; clear ho hb hg_ hnew_)
      | (go_at_call 17; refine (HRT.out _ A1 c1 (Kd.R_reads' HO1.out).2.2 (Kd.R_reads' HO1.out).2.1).mono ?_; rintro e w2 ⟨rfl, nd, rfl⟩))
    refine bodyPost_ret (v := .tuple #[.slice none 0 0, .int .i64 0]) ?_ rfl ⟨_, rfl, Kd.R_nil _ _ _ _ _, by repeat (first | exact HB1.out | apply pw_below_drewN | apply below_drew1)⟩
    simp [results, Try.results14, go_sem]
  · rw [if_neg h1]
    by_cases h2 : n ≤ s - a
    · rw [if_pos h2]
      have hm : mn n (s - a) = n := by unfold mn; omega
      go_enter Try.func14, Try.ntmps14
      go_wp2_with (first
      | ((with_reducible refine gate_dst (N := 13) rfl ?_); refine Kd.R_lit (Kd.int .i64) _ 3 ?hg (N := 13) ?hd (xs := ([a] : List Int)) (inner := [.int .i64 a]) (ok := fun _ => True) (okp := fun _ => True) ?hr ?hp (fun _ hk => hk) trivial (Below.refl _ _) (Nat.le_refl _) (by simp) ?_; (case hd => rfl); (case hg => rfl); (case hr => first | (go_simp; done) | (go_simp; rfl)); (case hp => exact (Reps.one (show Kd.M (Kd.int .i64) _ _ _ a [.int .i64 a] from rfl) (Reps.none _ _))); intro v1 w1 ho hb hg_ hnew_; obtain ⟨A1, c1, e1⟩ := Kd.R_slice ho; subst e1; have HO1 := Aside0.mk ho; have HB1 := Aside0.mk hb; clear ho hb hg_ hnew_)
      | (go_at_call 17; refine (HRT.out _ A1 c1 (Kd.R_reads' HO1.out).2.2 (Kd.R_reads' HO1.out).2.1).mono ?_; rintro e w2 ⟨rfl, nd, rfl⟩)
      | ((with_reducible refine gate_builtin (b := .append) (xs := #[.tmp 32, .tmp 36]) rfl ?_); at_builtin; refine Kd.R_append (Kd.raw 2) (w0 := w) w.heap.size rfl (.tmp 32) (.tmp 36) 30 36 (.agg #[(.int .i64 0), (.int .i64 0)]) 16 rfl Try.underlying30 info36 rfl (by decide) (by omega) (.slice none 0 0) ([] : List (List Value)) (pc (a) (n)) (pc (a) (n)) (fun _ => True) (fun _ => False) rfl rfl ?aP (fun _ hk => hk.elim) (fun _ _ => trivial) ?aO ?aB ?aS ?aL ?_; (case aP => exact pc_M _ _ _ _ _); (case aO => exact Kd.R_nil _ _ _ _ _); (case aB => repeat (first | exact HB1.out | apply pw_below_drewN | apply below_drew1)); (case aS => exact below_size (by repeat (first | exact HB1.out | apply pw_below_drewN | apply below_drew1))); (case aL => simp); intro v3 w3 ho hb hg hat; have HO3 := Aside0.mk ho; have HB3 := Aside0.mk hb; clear ho hb hg hat))
      refine bodyPost_ret (v := .tuple #[v3, .int .i64 0]) ?_ rfl ⟨_, rfl, HO3.out, HB3.out⟩
      simp [results, Try.results14, go_sem]
    · rw [if_neg h2]
      go_enter Try.func14, Try.ntmps14
      go_wp2_with (first
      | ((with_reducible refine gate_dst (N := 13) rfl ?_); refine Kd.R_lit (Kd.int .i64) _ 3 ?hg (N := 13) ?hd (xs := ([a] : List Int)) (inner := [.int .i64 a]) (ok := fun _ => True) (okp := fun _ => True) ?hr ?hp (fun _ hk => hk) trivial (Below.refl _ _) (Nat.le_refl _) (by simp) ?_; (case hd => rfl); (case hg => rfl); (case hr => first | (go_simp; done) | (go_simp; rfl)); (case hp => exact (Reps.one (show Kd.M (Kd.int .i64) _ _ _ a [.int .i64 a] from rfl) (Reps.none _ _))); intro v1 w1 ho hb hg_ hnew_; obtain ⟨A1, c1, e1⟩ := Kd.R_slice ho; subst e1; have HO1 := Aside0.mk ho; have HB1 := Aside0.mk hb; clear ho hb hg_ hnew_)
      | (go_at_call 17; refine (HRT.out _ A1 c1 (Kd.R_reads' HO1.out).2.2 (Kd.R_reads' HO1.out).2.1).mono ?_; rintro e w2 ⟨rfl, nd, rfl⟩)
      | ((with_reducible refine gate_builtin (b := .append) (xs := #[.tmp 32, .tmp 36]) rfl ?_); at_builtin; refine Kd.R_append (Kd.raw 2) (w0 := w) w.heap.size rfl (.tmp 32) (.tmp 36) 30 36 (.agg #[(.int .i64 0), (.int .i64 0)]) 16 rfl Try.underlying30 info36 rfl (by decide) (by omega) (.slice none 0 0) ([] : List (List Value)) (pc (a) (s - a)) (pc (a) (s - a)) (fun _ => True) (fun _ => False) rfl rfl ?aP (fun _ hk => hk.elim) (fun _ _ => trivial) ?aO ?aB ?aS ?aL ?_; (case aP => exact pc_M _ _ _ _ _); (case aO => exact Kd.R_nil _ _ _ _ _); (case aB => repeat (first | exact HB1.out | apply pw_below_drewN | apply below_drew1)); (case aS => exact below_size (by repeat (first | exact HB1.out | apply pw_below_drewN | apply below_drew1))); (case aL => simp); intro v3 w3 ho hb hg hat; have HO3 := Aside0.mk ho; have HB3 := Aside0.mk hb; clear ho hb hg hat)
      | ((with_reducible refine gate_builtin (b := .append) (xs := #[.tmp 45, .tmp 48]) rfl ?_); at_builtin; refine Kd.R_append (Kd.raw 2) (w0 := w) w.heap.size rfl (.tmp 45) (.tmp 48) 30 36 (.agg #[(.int .i64 0), (.int .i64 0)]) 16 rfl Try.underlying30 info36 rfl (by decide) (by omega) (v3) ([pc a (s - a)] : List (List Value)) (pc (0) (n - (s - a))) (pc (0) (n - (s - a))) (fun _ => True) (fun _ => False) rfl rfl ?aP (fun _ hk => hk.elim) (fun _ _ => trivial) ?aO ?aB ?aS ?aL ?_; (case aP => exact pc_M _ _ _ _ _); (case aO => exact HO3.out); (case aB => exact HB3.out); (case aS => exact below_size (by exact HB3.out)); (case aL => simp); intro v4 w4 ho hb hg hat; have HO4 := Aside0.mk ho; have HB4 := Aside0.mk hb; clear ho hb hg hat))
      refine bodyPost_ret (v := .tuple #[v4, .int .i64 0]) ?_ rfl ⟨_, rfl, HO4.out, HB4.out⟩
      simp [results, Try.results14, go_sem]
end Go.Proofs.Ytlemimpbmnbpiaa.PRingPieces
