/- The contract of line.Epoch (a loop over slices.Backward that returns at the first branch that began ahead of the commit), and of the library's iterator at branches. -/
import Derived.RangeFuncNested
import Derived.RangeFuncBound
import Derived.RangeFuncCalls
import Derived.RangeFuncLeaves
import Derived.RangeFuncBox
import Derived.Shelf.Abstract
import Derived.Shelf.RegionOpen
import Derived.WalkKit
import Derived.OwnWalkIn
import Derived.TacticsInMore
import Derived.LoopNIn
import Derived.LoopIn
import Derived.Test.YtlkfmmjoiadoiaaPx0
import Derived.Test.YtlkfmmjoiadoiaaPx3
namespace Go.Proofs.Ytlkfmmjoiadoiaa.P
open Go.RowKit Go.Shelf Go.Proofs.YtlkfmmjoiadoiaaW.PrintWords Go.Proofs.YtlkfmmjoiadoiaaW.PrintLast
attribute [local go_sem] Oper.semAt_some
set_option linter.unusedVariables false

/-- What the iterator has handed over when k rounds are over: the last k elements, the last first, each with its index. -/
def backOf (xs : List S61) (j : Nat) : Nat × S61 := (xs.length - 1 - j, rd_T61 xs ((xs.length - 1 - j : Nat) : Int))
def backTo (xs : List S61) (k : Nat) : List (Nat × S61) := (List.range k).map (backOf xs)
theorem backTo_succ (xs : List S61) (k : Nat) : backTo xs (k + 1) = backTo xs k ++ [backOf xs k] := by simp [backTo, List.range_succ]
theorem backTo_length (xs : List S61) (k : Nat) : (backTo xs k).length = k := by simp [backTo]

set_option maxRecDepth 100000 in
set_option maxHeartbeats 2000000 in
theorem back1_in (F : Fence) (n : Nat) (h53 : F.fn 53) (hro : F.round = none) (hn : 1 ≤ n) (l Bs : Nat) (A : Option Addr) (cap : Nat) (xs : List S61) (wB : World) (hC : Kd.C k61 wB A xs.length xs) (hBs : wB.cell? ⟨Bs, 0, none⟩ = some (.slice A xs.length cap)) (J Jx : List (Nat × S61) → World → Prop)
    (hY : ∀ pre x W, J pre W → pre.length < xs.length → YieldAt F (n - 1) Try.prog l #[.int .i64 (x.1 : Int), .agg #[.int .i64 x.2.f0, .int .i64 x.2.f1]] W fun e W' =>
      (e = .returned (.bool true) ∧ J (pre ++ [x]) W' ∧ Below wB.heap.size W W') ∨ (e = .returned (.bool false) ∧ Jx (pre ++ [x]) W'))
    (W : World) (hW0 : Below wB.heap.size wB W) (h0 : J [] W) :
    CallsIn F n Try.prog 53 #[.func (.yield l) #[] #[], .pointer (some ⟨Bs, 0, none⟩)] W fun e W' => (∃ v, e = .returned v) ∧
      ((∃ ys, ys = backTo xs xs.length ∧ J ys W') ∨ (∃ pre, (∃ k, k ≤ xs.length ∧ pre = backTo xs k) ∧ Jx pre W')) := by
  have hmx := hC.2.1
  have hBl := World.block_lt_of_cell? wB _ hBs
  have hBs0 := (hW0.cell hBl).trans hBs
  refine callsIn_of_wp Try.func53 rfl h53 ?_ hro
  simp only [Try.ntmps53, List.size_toArray, List.length_cons, List.length_nil, Nat.reduceAdd, Nat.reduceSub, Array.replicate_succ, Array.replicate_zero, List.push_toArray, List.append_toArray, List.nil_append, List.cons_append]
  gi_wp2
  gi_loopw [3] (fun i wr => ∃ m : Nat, m ≤ xs.length ∧ i = .int .i64 ((m : Int) - 1) ∧ J (backTo xs (xs.length - m)) wr ∧ Below wB.heap.size wB wr)
    (fun i _ => ((intOf i) + 1).toNat)
  case atStart => exact ⟨xs.length, Nat.le_refl _, rfl, by simpa [backTo] using h0, hW0⟩
  case round =>
    obtain ⟨m, hm, rfl, hJs, hnx⟩ := hrel
    have hBs' := (hnx.cell hBl).trans hBs
    cases m with
    | zero =>
      gi_wp2
      go_end0
      exact ⟨⟨_, rfl⟩, .inl ⟨_, rfl, by simpa using hJs⟩⟩
    | succ m =>
      rw [show ((m + 1 : Nat) : Int) - 1 = (m : Int) by omega]
      have hCr := Kd.C_below hC hnx
      obtain ⟨ad, rfl, c0, c1⟩ := at_T61 hCr (m : Int) (by omega) (by omega)
      rw [Int.toNat_natCast] at c0 c1
      have ei : xs.length - (m + 1) + 1 = xs.length - m := by omega
      have eb : backOf xs (xs.length - (m + 1)) = (m, rd_T61 xs (m : Int)) := by unfold backOf; rw [show xs.length - 1 - (xs.length - (m + 1)) = m by omega]
      obtain ⟨fn, tmps, assign, body, hy, hR⟩ := hY _ (m, rd_T61 xs (m : Int)) wr hJs (by rw [backTo_length]; omega)
      have hJT := Aside0.mk hJs
      clear hJs
      have E1 := Aside0.mk ei
      have E2 := Aside0.mk eb
      clear ei eb hC hCr hBs0 hBs
      dsimp only at hy
      gi_wp2
      refine hR.mono ?_
      rintro e W3 (⟨rfl, hJ3, hk3⟩ | ⟨rfl, hJx3⟩)
      · gi_wp2
        go_roundw
        case rel => exact ⟨m, by omega, by simp, by rw [← E1.out, backTo_succ, E2.out]; exact hJ3, hnx.trans hk3⟩
        case measure => simp [intOf]
      · gi_wp2
        refine bodyPost_ret (results_none rfl _ _ _) rfl ?_
        exact ⟨⟨_, rfl⟩, .inr ⟨_, ⟨xs.length - m, by omega, by rw [← E1.out, backTo_succ, E2.out]⟩, hJx3⟩⟩

theorem back_stops (F : Fence) (n : Nat) (h53 : F.fn 53) (hro : F.round = none) (hn : 1 ≤ n) (Bs : Nat) (A : Option Addr) (cap : Nat) (xs : List S61) (wB : World) (hC : Kd.C k61 wB A xs.length xs) (hBs : wB.cell? ⟨Bs, 0, none⟩ = some (.slice A xs.length cap)) :
    SeqStopsK F n Try.prog 53 #[.pointer (some ⟨Bs, 0, none⟩)] (fun x : Nat × S61 => #[Value.int .i64 (x.1 : Int), .agg #[.int .i64 x.2.f0, .int .i64 x.2.f1]]) (Below wB.heap.size) (fun ys => ys = backTo xs xs.length)
      (fun pre => ∃ k, k ≤ xs.length ∧ pre = backTo xs k) xs.length wB := fun l J Jx W hW _ _ hY h0 =>
  back1_in F n h53 hro hn l Bs A cap xs wB hC hBs J Jx hY W hW h0

set_option maxHeartbeats 1000000 in
theorem back_in (F : Fence) (n : Nat) (h46 : F.fn 46) (hro : F.round = none) (a : Option Addr) (len cap : Nat) (w : World) :
    CallsIn F n Try.prog 46 #[.slice a len cap] w fun e w' => e = .returned (.func (.func 53) #[] #[.pointer (some ⟨w.heap.size, 0, none⟩)]) ∧ w' = w.alloc (.cells #[.slice a len cap] 37) := by
  refine callsIn_of_wp Try.func46 rfl h46 ?_ hro
  simp only [Try.ntmps46, List.size_toArray, List.length_cons, List.length_nil, Nat.reduceAdd, Nat.reduceSub, Array.replicate_succ, Array.replicate_zero, List.push_toArray, List.append_toArray, List.nil_append, List.cons_append]
  gi_wp2
  go_ret
  exact ⟨rfl, rfl⟩

/-- The epoch of the last branch that began ahead of commit s; 0: none did. -/
def lastOf : List (Nat × S61) → Int → Int
  | [], _ => 0
  | x :: r, s => if x.2.f1 < s then x.2.f0 else lastOf r s
def line_Epoch.f (k : Nat) (l0_0 : List S61) (a0_1 : Int) (a1 : Int) : Option Int := (line_Placed.f k l0_0 a0_1).bind fun t => if t = true then (if a1 < 1 then some 0 else (if a1 > a0_1 then some 0 else some (lastOf (backTo l0_0 l0_0.length) a1))) else some 0
theorem line_Epoch.mono : ∀ l0_0 a0_1 a1 k, LeO (line_Epoch.f k l0_0 a0_1 a1) (line_Epoch.f (k + 1) l0_0 a0_1 a1) := by
  intro l0_0 a0_1 a1 k
  unfold line_Epoch.f
  exact LeO.bind (line_Placed.mono l0_0 a0_1 k) (fun _ => LeO.refl _)

theorem bcell {W w1 : World} (hb : Below W.heap.size W w1) : (∀ b o, b < W.heap.size → w1.cell? ⟨b, o, none⟩ = W.cell? ⟨b, o, none⟩) ∧ (∀ b o, b < W.heap.size → w1.frozen? ⟨b, o, none⟩ = W.frozen? ⟨b, o, none⟩) :=
  ⟨fun b o h => hb.cell (p := ⟨b, o, none⟩) h, fun b o h => hb.frozen (p := ⟨b, o, none⟩) h⟩

set_option maxRecDepth 100000 in
set_option maxHeartbeats 2000000 in
theorem epoch_no (k : Nat) (A : Option Addr) (c : Nat) (l : List S61) (seq s : Int) (w : World) (hr : Kd.C k61 w A l.length l) (hc : l.length ≤ c) (t : Bool) (ht : line_Placed.f k l seq = some t) (hno : t = false ∨ (t = true ∧ s < 1) ∨ (t = true ∧ 1 ≤ s ∧ seq < s)) :
    Calls Try.prog 25 #[.agg #[.slice A l.length c, .int .i64 seq], .int .i64 s] w fun e w' => e = .returned (.int .i64 0) ∧ Below w.heap.size w w' := by
  have hu39 := Try.underlying39
  have HP : ∀ W, Below w.heap.size w W → Calls Try.prog 23 #[.agg #[.slice A l.length c, .int .i64 seq]] W fun e w' => e = .returned (.bool t) ∧ Below W.heap.size W w' := fun W hW => line_Placed.calls k A c l seq t W (Kd.C_below hr hW) hc ht
  have HPA := Aside0.mk HP
  clear HP hr
  rcases hno with rfl | ⟨rfl, h1⟩ | ⟨rfl, h1, h2⟩
  all_goals
    go_enter Try.func25, Try.ntmps25
    go_wp2_with (go_at_call 23; refine (HPA.out _ ?hB).mono ?_; (case hB => exact ((((Below.refl _ w).alloc (Nat.le_refl _) _).alloc (by simp) _).alloc (by simp; omega) _)); rintro e w4 ⟨rfl, hb⟩; obtain ⟨hcc, hff⟩ := bcell hb; have HB := Aside0.mk hb; clear hb; have hz : w.heap.size + 1 + 1 + 1 ≤ w4.heap.size := by have := HB.out.size; simp at this; omega)
    refine bodyPost_ret (v := .int .i64 0) ?_ rfl ⟨rfl, ?_⟩
    · simp [results, Try.results25, go_sem, hcc]
    · exact ((((((Below.refl _ w).alloc (Nat.le_refl _) _).alloc (by simp) _).alloc (by simp; omega) _).trans (HB.out.mono (by simp; omega))).setCell (by simp; omega) _)
theorem lastOf_none {s : Int} : ∀ {ys : List (Nat × S61)}, (∀ x ∈ ys, ¬ x.2.f1 < s) → lastOf ys s = 0
  | [], _ => rfl
  | x :: r, h => by
    rw [lastOf, if_neg (h x List.mem_cons_self)]
    exact lastOf_none (fun y hy => h y (List.mem_cons_of_mem _ hy))
theorem lastOf_some {s : Int} {last : Nat × S61} {rest : List (Nat × S61)} (hl : last.2.f1 < s) : ∀ {ini : List (Nat × S61)}, (∀ x ∈ ini, ¬ x.2.f1 < s) → lastOf (ini ++ last :: rest) s = last.2.f0
  | [], _ => by rw [List.nil_append, lastOf, if_pos hl]
  | x :: r, h => by
    rw [List.cons_append, lastOf, if_neg (h x List.mem_cons_self)]
    exact lastOf_some hl (fun y hy => h y (List.mem_cons_of_mem _ hy))
theorem backTo_split (xs : List S61) (k : Nat) (hk : k ≤ xs.length) : ∃ rest, backTo xs xs.length = backTo xs k ++ rest := by
  refine ⟨(backTo xs xs.length).drop k, ?_⟩
  have : backTo xs k = (backTo xs xs.length).take k := by
    unfold backTo
    rw [← List.map_take, List.take_range, Nat.min_eq_left hk]
  rw [this, List.take_append_drop]

/-- No branch of these began ahead of s. -/
def NoHit (s : Int) (pre : List (Nat × S61)) : Prop := ∀ x ∈ pre, ¬ x.2.f1 < s
/-- The last of these, and no other, began ahead of s; its epoch lies in the cell. -/
def HitAt (s : Int) (B : Nat) (pre : List (Nat × S61)) (W : World) : Prop := ∃ ini last, pre = ini ++ [last] ∧ NoHit s ini ∧ last.2.f1 < s ∧ W.cell? ⟨B, 0, none⟩ = some (.int .i64 last.2.f0)
theorem NoHit.snoc {s : Int} {pre : List (Nat × S61)} {x : Nat × S61} (h : NoHit s pre) (hx : s ≤ x.2.f1) : NoHit s (pre ++ [x]) := fun y hy => by
  rcases List.mem_append.1 hy with hy | hy
  · exact h y hy
  · obtain rfl := List.mem_singleton.1 hy
    omega
theorem two_new (W : World) (a b : Value) (t : Nat) : (W.alloc (.cells #[a, b] t)).cell? ⟨W.heap.size, 0, none⟩ = some a ∧ (W.alloc (.cells #[a, b] t)).cell? ⟨W.heap.size, 1, none⟩ = some b := by
  have h := World.alloc_heap_new W (.cells #[a, b] t)
  constructor <;> (unfold World.cell?; rw [h]; rfl)

set_option maxRecDepth 100000 in
set_option maxHeartbeats 4000000 in
theorem epoch_yes (k : Nat) (A : Option Addr) (c : Nat) (l : List S61) (seq s : Int) (w : World) (hr : Kd.C k61 w A l.length l) (hc : l.length ≤ c) (ht : line_Placed.f k l seq = some true) (h1 : 1 ≤ s) (h2 : s ≤ seq) :
    Calls Try.prog 25 #[.agg #[.slice A l.length c, .int .i64 seq], .int .i64 s] w fun e w' => e = .returned (.int .i64 (lastOf (backTo l l.length) s)) ∧ Below w.heap.size w w' := by
  have hu39 := Try.underlying39
  have hu61 := Try.underlying61
  have HP : ∀ W, Below w.heap.size w W → Calls Try.prog 23 #[.agg #[.slice A l.length c, .int .i64 seq]] W fun e w' => e = .returned (.bool true) ∧ Below W.heap.size W w' := fun W hW => line_Placed.calls k A c l seq true W (Kd.C_below hr hW) hc ht
  have HPA := Aside0.mk HP
  have HRA := Aside0.mk hr
  clear HP hr
  refine (callsIn_wide (n := 6)).1 ?_
  refine callsIn_of_wp_marks Try.func25 rfl trivial ?_ rfl
  simp only [Try.ntmps25, List.size_toArray, List.length_cons, List.length_nil, Nat.reduceAdd, Nat.reduceSub, Array.replicate_succ, Array.replicate_zero, List.push_toArray, List.append_toArray, List.nil_append, List.cons_append]
  gi_wp2_with (first
    | (refine ⟨trivial, ?_⟩; gi_at_call 23; refine (callsIn_wide.2 (HPA.out _ ?hB)).mono ?_; (case hB => exact ((((Below.refl _ w).alloc (Nat.le_refl _) _).alloc (by simp) _).alloc (by simp; omega) _)); rintro e w4 ⟨rfl, hb⟩; obtain ⟨hcc, hff⟩ := bcell hb; have HB := Aside0.mk hb; clear hb; have hz : w.heap.size + 1 + 1 + 1 ≤ w4.heap.size := by have := HB.out.size; simp at this; omega)
    | (refine ⟨trivial, ?_⟩; gi_at_call 46; refine (back_in Fence.wide 5 trivial rfl _ _ _ _).mono ?_; rintro e w5 ⟨rfl, rfl⟩))
  have hW : Below w.heap.size w w4 := (((Below.refl _ w).alloc (Nat.le_refl _) _).alloc (by simp) _).alloc (by simp; omega) _ |>.trans (HB.out.mono (by simp; omega))
  have b1 := Boxed.new (w.alloc (.cells #[.slice A l.length c, .int .i64 seq] 39)) 3 (.int .i64 s)
  rw [World.size_alloc] at b1
  have b1 := b1.alloc (.cells #[.int .i64 0] 3)
  have b2 := Boxed.new ((w.alloc (.cells #[.slice A l.length c, .int .i64 seq] 39)).alloc (.cells #[.int .i64 s] 3)) 3 (.int .i64 0)
  rw [World.size_alloc, World.size_alloc] at b2
  have bS : Boxed w4 (w.heap.size + 1) 3 (.int .i64 s) := (HB.out.block (w.heap.size + 1) (by simp)).trans b1
  have bR : Boxed w4 (w.heap.size + 1 + 1) 3 (.int .i64 0) := (HB.out.block (w.heap.size + 1 + 1) (by simp)).trans b2
  have bN := Boxed.new w4 37 (.slice A l.length c)
  have hB0 : Below w.heap.size w (w4.alloc (.cells #[.slice A l.length c] 37)) := hW.alloc hW.size _
  have hsz : (w4.alloc (.cells #[.slice A l.length c] 37)).heap.size = w4.heap.size + 1 := by simp
  have bS0 := bS.alloc (.cells #[.slice A l.length c] 37)
  have bR0 := bR.alloc (.cells #[.slice A l.length c] 37)
  clear hcc hff hW bS bR b1 b2
  obtain ⟨B0, hB0'⟩ : ∃ B0, w4.heap.size = B0 := ⟨_, rfl⟩
  obtain ⟨W0, hW0⟩ : ∃ W0, w4.alloc (.cells #[.slice A l.length c] 37) = W0 := ⟨_, rfl⟩
  rw [hW0] at bN hB0 hsz bS0 bR0 ⊢
  rw [hB0'] at bN hsz hz ⊢
  clear hW0 hB0' HB
  have hC0 := Kd.C_below HRA.out hB0
  refine wpIn_rangeFunc_ownH (F := Fence.wide) (n := 6) (α := Nat × S61) rfl (by omega) (gf := 53) (lb := #[.pointer (some ⟨B0, 0, none⟩)]) rfl trivial (enters_of Try.func53 (by kernel_rfl) rfl)
    (back_stops Fence.wide 5 trivial rfl (by omega) B0 A c l W0 hC0 bN.cell) belowK_t (belowK_b (Nat.le_refl _)) (Below.refl _ _) (fun _ => rfl)
    (fun pre W => (NoHit s pre ∧ (Boxed W (w.heap.size + 1) 3 (.int .i64 s) ∧ Boxed W (w.heap.size + 1 + 1) 3 (.int .i64 0))) ∧ (Below w.heap.size w W ∧ Below W0.heap.size W0 W))
    (fun cc pre W => (cc = .ret ∧ HitAt s (w.heap.size + 1 + 1) pre W) ∧ Below w.heap.size w W)
    (OwnFrom.and (OwnFrom.and (fun _ _ _ _ hs _ _ => hs) (OwnFrom.and (Own.from (boxed_own _ _ _) _) (Own.from (boxed_own _ _ _) _))) (OwnFrom.and (ownFrom_below (Nat.le_refl _) (by omega)) (ownFrom_below (Nat.le_refl _) (Nat.le_refl _))))
    (fun cc => OwnFrom.and (Own.from (fun st X Y row hs hg hr => by obtain ⟨hcc, ini, last, e1, e2, e3, e4⟩ := hs; exact ⟨hcc, ini, last, e1, e2, e3, cell_kept e4 hg hr⟩) _) (ownFrom_below (Nat.le_refl _) (by omega)))
    ⟨⟨fun _ h => by simp at h, bS0, bR0⟩, hB0, Below.refl _ _⟩
    (fun x a' W => ∃ Bx, W.cell? ⟨Bx, 0, none⟩ = some (.int .i64 x.2.f0) ∧ W.cell? ⟨Bx, 1, none⟩ = some (.int .i64 x.2.f1) ∧ a' = { tmps := #[.agg #[.slice A l.length c, .int .i64 seq], .int .i64 s, .pointer (some ⟨w.heap.size, 0, none⟩), .pointer (some ⟨w.heap.size + 1, 0, none⟩), .pointer (some ⟨w.heap.size + 1 + 1, 0, none⟩), undef, .pointer (some ⟨Bx, 0, none⟩),
          .agg #[.slice A l.length c, .int .i64 seq], .bool true, .bool false, .bool false, .int .i64 s, .bool (decide (s < 1)), .bool (decide (s < 1)), .bool (decide (s < 1)), .int .i64 s, .pointer (some ⟨w.heap.size, 1, none⟩), .int .i64 seq, .bool (decide (seq < s)), .bool (decide (s < 1) || decide (seq < s)),
          .pointer (some ⟨w.heap.size, 0, none⟩), .slice A l.length c, .func (.func 53) #[] #[.pointer (some ⟨B0, 0, none⟩)], .int .i64 (x.1 : Int), .agg #[.int .i64 x.2.f0, .int .i64 x.2.f1], undef, undef, undef, undef, undef, undef], defers := [] })
    (fun x a' _ X Y row hs hg hr => by obtain ⟨Bx, h1, h2, h3⟩ := hs; exact ⟨Bx, cell_kept h1 hg (fun r e => (hr r e).2), cell_kept h2 hg (fun r e => (hr r e).2), h3⟩)
    ?assign ?body ?done ?stop
  case assign =>
    rintro l' pre x W K ⟨⟨hp, bS1, bR1⟩, hB1, hB2⟩ hK
    gi_wp2
    obtain ⟨d0, d1⟩ := two_new W (.int .i64 x.2.f0) (.int .i64 x.2.f1) 61
    exact hK _ _ ((KeepsOthers.alloc _ _).from _) ((Below.refl _ W).alloc hB2.size _) ⟨⟨hp, bS1.alloc _, bR1.alloc _⟩, hB1.alloc hB1.size _, hB2.alloc hB2.size _⟩ ⟨W.heap.size, d0, d1, rfl⟩
  case body =>
    rintro l' pre x a' W _ _ ⟨⟨hp, bS1, bR1⟩, hB1, hB2⟩ ⟨Bx, c0, c1, rfl⟩ _
    have cS := bS1.cell
    have cR := bR1.cell
    have fR := bR1.frozen
    gi_wp2
    · have hx : x.2.f1 < s := by assumption
      exact ⟨(KeepsOthers.setCell _ _ _).from _, ⟨rfl, pre, x, rfl, hp, hx, World.cell?_setCell_same' _ _ _ (by rw [cR]; rfl)⟩, hB1.setCell (p := ⟨w.heap.size + 1 + 1, 0, none⟩) (by simp; omega) _⟩
    · have hx : s ≤ x.2.f1 := by assumption
      exact ⟨KeepsFrom.refl _ _, Below.refl _ _, ⟨hp.snoc hx, bS1, bR1⟩, hB1, hB2⟩
  case done =>
    rintro D ys W hD rfl ⟨⟨hp, bS1, bR1⟩, hB1, hB2⟩ hK
    have cR := bR1.cell
    have fR := bR1.frozen
    gi_wp2
    have hK' := (KeepsOthers.setCell W ⟨w.heap.size + 1 + 1, 0, none⟩ (.int .i64 0)).same D _ hK rfl
    refine ⟨by simp, .inl ⟨_, _, rfl, run_takeDeferred hK', ?_⟩⟩
    have hc5 := cell_kept (World.cell?_setCell_same' W ⟨w.heap.size + 1 + 1, 0, none⟩ (.int .i64 0) (by rw [cR]; rfl)) (grownBy_putObj' _ D (.deferred none)) (fun r e => by cases e; exact ⟨_, hK', rfl⟩)
    refine ⟨.int .i64 0, ?_, by rw [lastOf_none hp], (hB1.setCell (p := ⟨w.heap.size + 1 + 1, 0, none⟩) (by simp; omega) _).trans (belowK_b (w := w) (Nat.le_refl _) _ D _ _ (by omega) hK' rfl rfl)⟩
    simp [results, Try.f25, go_sem, hc5]
  case stop =>
    rintro D cc pre W hD ⟨k', hk', rfl⟩ ⟨⟨rfl, ini, last, e1, e2, e3, hcr⟩, hB1⟩ hK
    gi_wp2
    refine ⟨by simp, .inl ⟨_, _, rfl, run_takeDeferred hK, ?_⟩⟩
    have hc5 := cell_kept hcr (grownBy_putObj' _ D (.deferred none)) (fun r e => by cases e; exact ⟨_, hK, rfl⟩)
    obtain ⟨rest, hrest⟩ := backTo_split l k' hk'
    refine ⟨.int .i64 last.2.f0, ?_, by rw [hrest, e1, List.append_assoc, List.singleton_append, lastOf_some e3 e2], hB1.trans (belowK_b (w := w) (Nat.le_refl _) W D _ _ (by omega) hK rfl rfl)⟩
    simp [results, Try.f25, go_sem, hc5]

theorem line_Epoch.calls (k : Nat) (A0_0 : Option Addr) (c0_0 : Nat) (l0_0 : List S61) (a0_1 : Int) (a1 : Int) (r : Int) (w : World) (hr0_0 : Kd.C k61 w A0_0 l0_0.length l0_0) (hc0_0 : l0_0.length ≤ c0_0) (h : line_Epoch.f k l0_0 a0_1 a1 = some r) :
    Calls Try.prog 25 #[.agg #[.slice A0_0 l0_0.length c0_0, .int .i64 a0_1], .int .i64 a1] w fun e w' => e = .returned (.int .i64 r) ∧ Below w.heap.size w w' := by
  unfold line_Epoch.f at h
  obtain ⟨t, ht, h⟩ := Option.bind_eq_some_iff.1 h
  cases t with
  | false =>
    rw [if_neg (by simp)] at h
    obtain rfl := Option.some.inj h
    exact epoch_no k A0_0 c0_0 l0_0 a0_1 a1 w hr0_0 hc0_0 false ht (.inl rfl)
  | true =>
    rw [if_pos rfl] at h
    by_cases h1 : a1 < 1
    · rw [if_pos h1] at h
      obtain rfl := Option.some.inj h
      exact epoch_no k A0_0 c0_0 l0_0 a0_1 a1 w hr0_0 hc0_0 true ht (.inr (.inl ⟨rfl, h1⟩))
    · rw [if_neg h1] at h
      by_cases h2 : a1 > a0_1
      · rw [if_pos h2] at h
        obtain rfl := Option.some.inj h
        exact epoch_no k A0_0 c0_0 l0_0 a0_1 a1 w hr0_0 hc0_0 true ht (.inr (.inr ⟨rfl, by omega, h2⟩))
      · rw [if_neg h2] at h
        obtain rfl := Option.some.inj h
        exact epoch_yes k A0_0 c0_0 l0_0 a0_1 a1 w hr0_0 hc0_0 ht (by omega) (by omega)
end Go.Proofs.Ytlkfmmjoiadoiaa.P
