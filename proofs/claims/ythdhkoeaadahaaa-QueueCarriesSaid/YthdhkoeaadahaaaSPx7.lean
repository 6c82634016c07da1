-- PACKED by wip/kit/pack.py: what the law's proof uses of Px7 (printed words and texts of this seat)
import Derived.Test.YthdhkoeaadahaaaSPx0
import Derived.Test.YthdhkoeaadahaaaSPx6
namespace Go.Proofs.Ythdhkoeaadahaaa.P
open Go.RowKit Go.Proofs.YthdhkoeaadahaaaW.PrintWords Go.Proofs.YthdhkoeaadahaaaW.PrintLast Go.Proofs.YthdhkoeaadahaaaW.PrintMore
attribute [local go_sem] max2_int min2_int max_two min_two max_three min_three max_four min_four
set_option linter.unusedVariables false
set_option linter.unusedSimpArgs false
def fold_Folded.l0 : Nat → List (S74) → Int → Int → Option (Bool)
 | 0, _, _, _ => none
 | k + 1, x0, x5, x6 => if x6 < x5 then (if x6 > 0 then (if 0 ≤ (wrap64 (x6 - 1)) then (if (wrap64 (x6 - 1)) < (x0.length : Int) then (if 0 ≤ x6 then (if x6 < (x0.length : Int) then ((fold_order.f k ((rd_T74 x0 (wrap64 (x6 - 1))).f0) ((rd_T74 x0 (wrap64 (x6 - 1))).f1) ((rd_T74 x0 (wrap64 (x6 - 1))).f2) ((rd_T74 x0 x6).f0) ((rd_T74 x0 x6).f1) ((rd_T74 x0 x6).f2)).bind fun t119 => (if t119 ≥ 0 then (some false) else (fold_Folded.l0 k x0 x5 (wrap64 (x6 + 1))))) else (none)) else (none)) else (none)) else (none)) else (fold_Folded.l0 k x0 x5 (wrap64 (x6 + 1)))) else (some true)
def fold_Folded.f (k : Nat) (l0 : List (S74)) : Option (Bool) := fold_Folded.l0 k l0 (l0.length : Int) 0
theorem fold_Folded.mono_l : ∀ k, (∀ y0 y1 y2, LeO (fold_Folded.l0 k y0 y1 y2) (fold_Folded.l0 (k + 1) y0 y1 y2))
 | 0 => fun _ _ _ r h => by simp [fold_Folded.l0] at h
 | k + 1 => by
  have ih0 := fold_Folded.mono_l k
  ·intro y0 y1 y2
   unfold fold_Folded.l0
   repeat' first
   | (with_reducible exact ih0 _ _ _)
   | (with_reducible exact fold_order.mono _ _ _ _ _ _ _)
   | (with_reducible exact LeO.refl _)
   | (with_reducible exact LeO.none _)
   | (with_reducible refine LeO.ite ?_ ?_)
   | (with_reducible refine LeO.bind ?_ (fun _ => ?_))
   | exact ih0 _ _ _
   | exact fold_order.mono _ _ _ _ _ _ _
   | exact LeO.none _
   | refine LeO.ite ?_ ?_
   | refine LeO.bind ?_ (fun _ => ?_)
theorem fold_Folded.mono : ∀ a0 k, LeO (fold_Folded.f k a0) (fold_Folded.f (k + 1) a0) := by
 intro a0 k
 have ih0 := fold_Folded.mono_l k
 unfold fold_Folded.f
 repeat' first
   | (with_reducible exact ih0 _ _ _)
   | (with_reducible exact fold_order.mono _ _ _ _ _ _ _)
   | (with_reducible exact LeO.refl _)
   | (with_reducible exact LeO.none _)
   | (with_reducible refine LeO.ite ?_ ?_)
   | (with_reducible refine LeO.bind ?_ (fun _ => ?_))
   | exact ih0 _ _ _
   | exact fold_order.mono _ _ _ _ _ _ _
   | exact LeO.none _
   | refine LeO.ite ?_ ?_
   | refine LeO.bind ?_ (fun _ => ?_)
def fold_Folded.T4 : Bool × List (List Nat × List Nat) := (true, [([], []), ([0], [0]), ([1], [1]), ([2], [2]), ([2], [2]), ([4, 2], [2, 4]), ([3, 5, 2], [2, 3, 5]), ([6, 2], [2, 6]), ([2], [2]), ([2], [2]), ([8, 9, 2], [2, 8, 9]), ([10, 2], [2, 10]), ([7, 11, 2, 2], [2, 7, 11]), ([12, 2], [2, 12]), ([2, 13], [2, 13])])
def fold_Folded.B4 : List Nat := [0, 1, 3, 7, 7, 23, 63, 127, 7, 7, 775, 1799, 4095, 8191, 16383]
theorem fold_Folded.tab4 : rtab .any (opsOf Try.f48 4) = fold_Folded.T4 := by kernel_rfl
theorem fold_Folded.bits4 : waitsOk fold_Folded.T4.2 fold_Folded.B4 = true := by kernel_rfl
theorem A0q7_ {p : Prop} (h : p) : Aside0 p := ⟨h⟩
theorem z1q7_ {α : Type} (l : List α) (i : Nat) (a : α) : l.toArray.setIfInBounds i a = (l.set i a).toArray := List.setIfInBounds_toArray l i a
theorem z2q7_ {α : Type} {x : α} {xs : List α} {a : α} : (x :: xs).set 0 a = a :: xs := List.set_cons_zero
theorem z3q7_ {α : Type} {x : α} {xs : List α} {n : Nat} {a : α} : (x :: xs).set (n + 1) a = x :: xs.set n a := List.set_cons_succ
abbrev mk0q7_ : Array Bool := #[false, false, false, false, false, false, false, false, false, false, false, false, false, false, false]
abbrev mk1q7_ : Array Bool := #[true, false, false, false, false, false, false, false, false, false, false, false, false, false, false]
abbrev mk2q7_ : Array Bool := #[true, true, false, false, false, false, false, false, false, false, false, false, false, false, false]
abbrev mk3q7_ : Array Bool := #[true, true, true, false, false, false, false, false, false, false, false, false, false, false, false]
abbrev mk4q7_ : Array Bool := #[true, true, true, true, false, false, false, false, false, false, false, false, false, false, false]
abbrev mk5q7_ : Array Bool := #[true, true, true, true, true, false, false, false, false, false, false, false, false, false, false]
abbrev mk6q7_ : Array Bool := #[true, true, true, true, true, true, false, false, false, false, false, false, false, false, false]
abbrev mk7q7_ : Array Bool := #[true, true, true, true, true, true, true, false, false, false, false, false, false, false, false]
abbrev mk8q7_ : Array Bool := #[true, true, true, true, true, true, true, false, true, false, false, false, false, false, false]
abbrev mk9q7_ : Array Bool := #[true, true, true, true, true, true, true, false, true, true, false, false, false, false, false]
abbrev mk10q7_ : Array Bool := #[true, true, true, true, true, true, true, false, true, true, true, false, false, false, false]
abbrev mk11q7_ : Array Bool := #[true, true, true, true, true, true, true, true, true, true, true, false, false, false, false]
abbrev mk12q7_ : Array Bool := #[true, true, true, true, true, true, true, true, true, true, true, true, false, false, false]
abbrev mk13q7_ : Array Bool := #[true, true, true, true, true, true, true, true, true, true, true, true, true, false, false]
abbrev mk14q7_ : Array Bool := #[true, true, true, true, true, true, true, true, true, true, true, true, true, true, false]
abbrev mk15q7_ : Array Bool := #[true, true, true, true, true, true, true, true, true, true, true, true, true, true, true]
abbrev mk16q7_ : Array Bool := #[true, true, true, true, true, true, true, true, false, false, false, false, false, false, false]
abbrev mk17q7_ : Array Bool := #[true, true, true, true, true, true, true, true, true, false, false, false, false, false, false]
abbrev mk18q7_ : Array Bool := #[true, true, true, true, true, true, true, true, true, true, false, false, false, false, false]
set_option maxHeartbeats 8000000 in
set_option maxRecDepth 100000 in
theorem fold_Folded.calls (k : Nat) (A0 : Option Addr) (c0 : Nat) (l0 : List (S74)) (r : Bool) (w : World) (hr0 : Kd.C k74 w A0 l0.length l0) (hc0 : l0.length ≤ c0) (h : fold_Folded.f k l0 = some r) :
  Calls Try.prog 48 #[.slice A0 l0.length c0] w fun e w' => e = .returned (.bool r) ∧ Below w.heap.size w w' := by
 have hu74 := Try.underlying74
 have HR0 := A0q7_ hr0
 have HC0 := A0q7_ hc0
 clear hr0 hc0
 have HB := A0q7_ (Below.refl w.heap.size w)
 have H : (fold_Folded.l0 k l0 (l0.length : Int) 0) = some r := h
 clear h
 have H' := A0q7_ H
 clear H
 go_enter Try.func48, Try.ntmps48
 go_wp2
 go_loopg [6] k (fun kq v6 w' => ∃ (x6_1 : Int), v6 = .int .i64 x6_1 ∧ Aside0 (fold_Folded.l0 kq l0 (l0.length : Int) x6_1 = some r) ∧ Aside0 (kq ≤ k) ∧ Aside0 (Below w.heap.size w w'))
 case atStart => exact ⟨(0), (by first | rfl | (simp; done) | (simp [*]; done)), H', ⟨Nat.le_refl _⟩, ⟨by repeat (first | (with_reducible first | exact HB.out | apply below_alloc | apply pw_below_drewN | apply below_drew1) | exact HB.out)⟩⟩
 case round =>
  clear H'
  obtain ⟨x6_1, rfl, HA, HK1, HB⟩ := hrel
  cases gk with
  | zero => exact absurd HA.out (by simp [fold_Folded.l0])
  | succ k1 =>
   have H := HA.out
   clear HA
   simp only [fold_Folded.l0] at H
   by_cases c2 : x6_1 < (l0.length : Int)
   ·rw [if_pos c2] at H
    have c2b0 : decide (x6_1 < (l0.length : Int)) = true := decide_eq_true c2
    clear c2
    by_cases c3 : x6_1 > 0
    ·rw [if_pos c3] at H
     have c3b0 : decide (0 < x6_1) = true := decide_eq_true c3
     clear c3
     obtain ⟨ji4, hji4⟩ : ∃ j_ : Int, (wrap64 (x6_1 - 1)) = j_ := ⟨_, rfl⟩
     replace H : (if 0 ≤ (ji4) then (if (ji4) < (l0.length : Int) then (if 0 ≤ x6_1 then (if x6_1 < (l0.length : Int) then ((fold_order.f k1 ((rd_T74 l0 (ji4)).f0) ((rd_T74 l0 (ji4)).f1) ((rd_T74 l0 (ji4)).f2) ((rd_T74 l0 x6_1).f0) ((rd_T74 l0 x6_1).f1) ((rd_T74 l0 x6_1).f2)).bind fun t119 => (if t119 ≥ 0 then (some false) else (fold_Folded.l0 k1 l0 (l0.length : Int) (wrap64 (x6_1 + 1))))) else (none)) else (none)) else (none)) else (none)) = some r := by first | (rw [hji4] at H; exact H) | (simp only [hji4] at H ⊢; exact H)
     have hji4w : (IntKind.i64.wrap (x6_1 - 1)) = ji4 := (i64_w _).trans hji4
     by_cases c5 : 0 ≤ (ji4)
     ·rw [if_pos c5] at H
      have c5b0 : decide (0 ≤ (ji4)) = true := decide_eq_true c5
      clear c5
      by_cases c6 : (ji4) < (l0.length : Int)
      ·rw [if_pos c6] at H
       have c6b0 : decide ((ji4) < (l0.length : Int)) = true := decide_eq_true c6
       clear c6
       by_cases c7 : 0 ≤ x6_1
       ·rw [if_pos c7] at H
        have c7b0 : decide (0 ≤ x6_1) = true := decide_eq_true c7
        clear c7
        by_cases c8 : x6_1 < (l0.length : Int)
        ·rw [if_pos c8] at H
         have c8b0 : decide (x6_1 < (l0.length : Int)) = true := decide_eq_true c8
         clear c8
         replace H := Option.bind_eq_some_iff.mp H
         obtain ⟨t119, A90, H⟩ := H
         replace H : (if t119 ≥ 0 then (some false) else (fold_Folded.l0 k1 l0 (l0.length : Int) (wrap64 (x6_1 + 1)))) = some r := H
         have A9 := A0q7_ A90
         clear A90
         by_cases c10 : t119 ≥ 0
         ·rw [if_pos c10] at H
          have c10b0 : decide (0 ≤ t119) = true := decide_eq_true c10
          clear c10
          obtain rfl := Option.some.inj H
          try go_wp2
          have n0_ := A0q7_ (below_drew1 HB.out)
          clear HB
          have HB := n0_
          clear n0_
          have p117 : 0 ≤ ((ji4) : Int) := of_decide_eq_true (by first | (with_reducible assumption) | assumption)
          have q117 : (ji4) < (l0.length : Int) := of_decide_eq_true (by first | (with_reducible assumption) | assumption)
          obtain ⟨ad117, e117, hx117_0, hx117_1, hx117_2⟩ := at_T74 HR0.out (ji4) p117 q117
          have hw117_2 := hx117_2
          have hw117_1 := hx117_1
          have hw117_0 := hx117_0
          cases e117
          replace hx117_0 := (HB.out.cell (World.block_lt_of_cell? w _ hx117_0)).trans hx117_0
          replace hx117_1 := (HB.out.cell (World.block_lt_of_cell? w _ hx117_1)).trans hx117_1
          replace hx117_2 := (HB.out.cell (World.block_lt_of_cell? w _ hx117_2)).trans hx117_2
          replace p117 := eq_true p117
          replace q117 := eq_true q117
          have p118 : 0 ≤ (x6_1 : Int) := of_decide_eq_true (by first | (with_reducible assumption) | assumption)
          have q118 : x6_1 < (l0.length : Int) := of_decide_eq_true (by first | (with_reducible assumption) | assumption)
          obtain ⟨ad118, e118, hx118_0, hx118_1, hx118_2⟩ := at_T74 HR0.out x6_1 p118 q118
          have hw118_2 := hx118_2
          have hw118_1 := hx118_1
          have hw118_0 := hx118_0
          obtain rfl : ad117 = ad118 := (by injection e118)
          replace hx118_0 := (HB.out.cell (World.block_lt_of_cell? w _ hx118_0)).trans hx118_0
          replace hx118_1 := (HB.out.cell (World.block_lt_of_cell? w _ hx118_1)).trans hx118_1
          replace hx118_2 := (HB.out.cell (World.block_lt_of_cell? w _ hx118_2)).trans hx118_2
          replace p118 := eq_true p118
          replace q118 := eq_true q118
          refine start_ (n := 15) (S := fun w' => w'.cell? (ad117.add (((ji4)).toNat * 3)) = some (.int .i64 ((rd_T74 l0 (ji4)).f0)) ∧ w'.cell? ⟨(ad117.add (((ji4)).toNat * 3)).block, (ad117.add (((ji4)).toNat * 3)).off + 1, none⟩ = some (.int .i64 ((rd_T74 l0 (ji4)).f1)) ∧ w'.cell? ⟨(ad117.add (((ji4)).toNat * 3)).block, (ad117.add (((ji4)).toNat * 3)).off + 2, none⟩ = some (.string ((rd_T74 l0 (ji4)).f2)) ∧ w'.cell? (ad117.add ((x6_1).toNat * 3)) = some (.int .i64 ((rd_T74 l0 x6_1).f0)) ∧ w'.cell? ⟨(ad117.add ((x6_1).toNat * 3)).block, (ad117.add ((x6_1).toNat * 3)).off + 1, none⟩ = some (.int .i64 ((rd_T74 l0 x6_1).f1)) ∧ w'.cell? ⟨(ad117.add ((x6_1).toNat * 3)).block, (ad117.add ((x6_1).toNat * 3)).off + 2, none⟩ = some (.string ((rd_T74 l0 x6_1).f2))) (ds := []) mk0q7_ (by kernel_rfl) rfl rfl ⟨((HB.out.cell (World.block_lt_of_cell? w _ hw117_0)).trans hw117_0), ((HB.out.cell (World.block_lt_of_cell? w _ hw117_1)).trans hw117_1), ((HB.out.cell (World.block_lt_of_cell? w _ hw117_2)).trans hw117_2), ((HB.out.cell (World.block_lt_of_cell? w _ hw118_0)).trans hw118_0), ((HB.out.cell (World.block_lt_of_cell? w _ hw118_1)).trans hw118_1), ((HB.out.cell (World.block_lt_of_cell? w _ hw118_2)).trans hw118_2)⟩ (fun hHeld => ?_); refine with_tabW fold_Folded.tab4 fold_Folded.bits4 (fun HT_ HW_ => ?_)
          generalize wr.drew = w11 at HB hx117_0 hx117_1 hx117_2 hx118_0 hx118_1 hx118_2 hHeld ⊢
          refine pure_ (i:=0) (N:=some 9) (v:=?_) (a':=?_) mk1q7_ rfl rfl (any_of HT_.out (by kernel_rfl)) (fun _ _ _ h => h) (Or.inl ⟨by rfl, ?_⟩) ?_ ?_
          rotate_left
          ·intro w'
           go_simp
           with_reducible rfl
          rotate_left
          ·simp only [Act.put, z1q7_, z2q7_, z3q7_, i64_w, i32_w]
           rfl
          refine pure_ (i:=1) (N:=some 10) (v:=?_) (a':=?_) mk2q7_ rfl rfl (any_of HT_.out (by kernel_rfl)) (fun _ _ _ h => h) (Or.inl ⟨by rfl, ?_⟩) ?_ ?_
          rotate_left
          ·intro w'
           go_simp
           with_reducible rfl
          rotate_left
          ·simp only [Act.put, z1q7_, z2q7_, z3q7_, i64_w, i32_w]
           rfl
          refine pure_ (i:=2) (N:=some 11) (v:=?_) (a':=?_) mk3q7_ rfl rfl (any_of HT_.out (by kernel_rfl)) (fun _ _ _ h => h) (Or.inl ⟨by rfl, ?_⟩) ?_ ?_
          rotate_left
          ·intro w'
           go_simp
           with_reducible rfl
          rotate_left
          ·simp only [Act.put, z1q7_, z2q7_, z3q7_, i64_w, i32_w]
           rfl
          refine pure_ (i:=3) (N:=some 12) (v:=?_) (a':=?_) mk4q7_ rfl rfl (any_of HT_.out (by kernel_rfl)) (fun _ _ _ h => h) (Or.inl ⟨by rfl, ?_⟩) ?_ ?_
          rotate_left
          ·intro w'
           go_simp
           with_reducible rfl
          rotate_left
          ·simp only [Act.put, z1q7_, z2q7_, z3q7_, i64_w, i32_w]
           rfl
          refine pure_ (i:=4) (N:=some 13) (v:=?_) (a':=?_) mk5q7_ rfl rfl (any_of HT_.out (by kernel_rfl)) (fun _ _ _ h => h) (Or.inl ⟨by rfl, ?_⟩) ?_ ?_
          rotate_left
          ·intro w'
           go_simp
           with_reducible rfl
          rotate_left
          ·simp only [Act.put, z1q7_, z2q7_, z3q7_, i64_w, i32_w]
           rfl
          refine pure_ (i:=5) (N:=some 14) (v:=?_) (a':=?_) mk6q7_ rfl rfl (any_of HT_.out (by kernel_rfl)) (fun _ _ _ h => h) (Or.inl ⟨by rfl, ?_⟩) ?_ ?_
          rotate_left
          ·intro w'
           go_simp
           with_reducible rfl
          rotate_left
          ·simp only [Act.put, z1q7_, z2q7_, z3q7_, i64_w, i32_w]
           rfl
          refine pure_ (i:=6) (N:=some 15) (v:=?_) (a':=?_) mk7q7_ rfl rfl (any_of HT_.out (by kernel_rfl)) (fun _ _ _ h => h) (Or.inl ⟨by rfl, ?_⟩) ?_ ?_
          rotate_left
          ·intro w'
           go_simp
           with_reducible rfl
          rotate_left
          ·simp only [Act.put, z1q7_, z2q7_, z3q7_, i64_w, i32_w]
           rfl
          refine pure_ (i:=8) (N:=some 17) (v:=?_) (a':=?_) mk8q7_ rfl rfl (any_of HT_.out (by kernel_rfl)) (fun _ _ _ h => h) (Or.inl ⟨by rfl, ?_⟩) ?_ ?_
          rotate_left
          ·intro w'
           go_simp
           with_reducible rfl
          rotate_left
          ·simp only [Act.put, z1q7_, z2q7_, z3q7_, i64_w, i32_w]
           rfl
          refine pure_ (i:=9) (N:=some 18) (v:=?_) (a':=?_) mk9q7_ rfl rfl (any_of HT_.out (by kernel_rfl)) (fun _ _ _ h => h) (Or.inl ⟨by rfl, ?_⟩) ?_ ?_
          rotate_left
          ·intro w'
           go_simp
           with_reducible rfl
          rotate_left
          ·simp only [Act.put, z1q7_, z2q7_, z3q7_, i64_w, i32_w]
           rfl
          refine pure_ (i:=10) (N:=some 19) (v:=?_) (a':=?_) mk10q7_ rfl rfl (any_of HT_.out (by kernel_rfl)) (fun _ _ _ h => h) (Or.inl ⟨by rfl, ?_⟩) ?_ ?_
          rotate_left
          ·intro w'
           go_simp
           with_reducible rfl
          rotate_left
          ·simp only [Act.put, z1q7_, z2q7_, z3q7_, i64_w, i32_w]
           rfl
          refine take_ (i:=7) (N:=some 16) (v:=?_) (a':=?_) mk11q7_ rfl rfl (take_ofW HT_.out HW_.out (by kernel_rfl)) (fun _ _ _ h => h) (Or.inl ⟨by rfl, ?_⟩) hHeld ?_ ?_
          rotate_left
          ·rintro w' ⟨s0, s1, s2, s3, s4, s5⟩
           go_simp
           with_reducible rfl
          rotate_left
          ·simp only [Act.put, z1q7_, z2q7_, z3q7_, i64_w, i32_w]
           rfl
          refine take_ (i:=11) (N:=some 20) (v:=?_) (a':=?_) mk12q7_ rfl rfl (take_ofW HT_.out HW_.out (by kernel_rfl)) (fun _ _ _ h => h) (Or.inl ⟨by rfl, ?_⟩) hHeld ?_ ?_
          rotate_left
          ·rintro w' ⟨s0, s1, s2, s3, s4, s5⟩
           go_simp
           with_reducible rfl
          rotate_left
          ·simp only [Act.put, z1q7_, z2q7_, z3q7_, i64_w, i32_w]
           rfl
          refine one_ (i:=12) (N:=some 21) mk13q7_ rfl rfl (one_of HT_.out (by kernel_rfl)) (by decide) (fun K hK => ?_)
          refine goes_ Try.func101 (by kernel_rfl) rfl #[.agg #[.int .i64 ((rd_T74 l0 (ji4)).f0), .int .i64 ((rd_T74 l0 (ji4)).f1), .string ((rd_T74 l0 (ji4)).f2)], .agg #[.int .i64 ((rd_T74 l0 x6_1).f0), .int .i64 ((rd_T74 l0 x6_1).f1), .string ((rd_T74 l0 x6_1).f2)]] (by rfl) rfl rfl (by (try simp only [List.map_toArray, List.map_cons, List.map_nil]); first | done | (simp only [hji4]; rfl) | rfl | (simp only [List.length_drop, List.length_take]; rfl)) ?_
          with_reducible refine (fold_order.calls k1 ((rd_T74 l0 (ji4)).f0) ((rd_T74 l0 (ji4)).f1) ((rd_T74 l0 (ji4)).f2) ((rd_T74 l0 x6_1).f0) ((rd_T74 l0 x6_1).f1) ((rd_T74 l0 x6_1).f2) t119 _ A9.out).mono ?_
          rintro e w12 ⟨rfl, hb⟩
          refine ⟨_, rfl, ?_⟩
          have n0_ := A0q7_ (below_step (by repeat (first | (with_reducible first | exact HB.out | apply below_alloc | apply pw_below_drewN | apply below_drew1) | exact HB.out)) hb)
          clear HB
          have HB := n0_
          clear n0_
          (try clear hb)
          (try clear hb2)
          (try clear hk)
          (try clear hi)
          refine hK.out _ _ ⟨((HB.out.cell (World.block_lt_of_cell? w _ hw117_0)).trans hw117_0), ((HB.out.cell (World.block_lt_of_cell? w _ hw117_1)).trans hw117_1), ((HB.out.cell (World.block_lt_of_cell? w _ hw117_2)).trans hw117_2), ((HB.out.cell (World.block_lt_of_cell? w _ hw118_0)).trans hw118_0), ((HB.out.cell (World.block_lt_of_cell? w _ hw118_1)).trans hw118_1), ((HB.out.cell (World.block_lt_of_cell? w _ hw118_2)).trans hw118_2)⟩ (fun hHeld => ?_)
          clear hK K
          refine norm_ (a' := ?_) ?_ ?_
          rotate_left
          ·show Act.put _ (some 21) _ = _
           simp only [Act.put, z1q7_, z2q7_, z3q7_, i64_w, i32_w]
           rfl
          refine pure_ (i:=13) (N:=some 22) (v:=?_) (a':=?_) mk14q7_ rfl rfl (any_of HT_.out (by kernel_rfl)) (fun _ _ _ h => h) (Or.inl ⟨by rfl, ?_⟩) ?_ ?_
          rotate_left
          ·intro w'
           go_simp
           with_reducible rfl
          rotate_left
          ·simp only [Act.put, z1q7_, z2q7_, z3q7_, i64_w, i32_w]
           rfl
          refine pure_ (i:=14) (N:=some 23) (v:=?_) (a':=?_) mk15q7_ rfl rfl (any_of HT_.out (by kernel_rfl)) (fun _ _ _ h => h) (Or.inl ⟨by rfl, ?_⟩) ?_ ?_
          rotate_left
          ·intro w'
           go_simp
           with_reducible rfl
          rotate_left
          ·simp only [Act.put, z1q7_, z2q7_, z3q7_, i64_w, i32_w]
           rfl
          refine done_ (done_of HT_.out (by kernel_rfl)) ?_
          try go_wp2
          go_ret
          exact ⟨by first | rfl | (simp [errW_none, errW_some] <;> rfl) | (simp only [← hji4]; first | rfl | (simp [errW_none, errW_some] <;> rfl)) | (simp [*, errW_none, errW_some] <;> rfl), by repeat (first | (with_reducible first | exact HB.out | apply below_alloc | apply pw_below_drewN | apply below_drew1) | exact HB.out)⟩
         ·rw [if_neg c10] at H
          have c10b0 : decide (0 ≤ t119) = false := decide_eq_false c10
          clear c10
          have H' := A0q7_ H
          clear H
          try go_wp2
          have n0_ := A0q7_ (below_drew1 HB.out)
          clear HB
          have HB := n0_
          clear n0_
          have p117 : 0 ≤ ((ji4) : Int) := of_decide_eq_true (by first | (with_reducible assumption) | assumption)
          have q117 : (ji4) < (l0.length : Int) := of_decide_eq_true (by first | (with_reducible assumption) | assumption)
          obtain ⟨ad117, e117, hx117_0, hx117_1, hx117_2⟩ := at_T74 HR0.out (ji4) p117 q117
          have hw117_2 := hx117_2
          have hw117_1 := hx117_1
          have hw117_0 := hx117_0
          cases e117
          replace hx117_0 := (HB.out.cell (World.block_lt_of_cell? w _ hx117_0)).trans hx117_0
          replace hx117_1 := (HB.out.cell (World.block_lt_of_cell? w _ hx117_1)).trans hx117_1
          replace hx117_2 := (HB.out.cell (World.block_lt_of_cell? w _ hx117_2)).trans hx117_2
          replace p117 := eq_true p117
          replace q117 := eq_true q117
          have p118 : 0 ≤ (x6_1 : Int) := of_decide_eq_true (by first | (with_reducible assumption) | assumption)
          have q118 : x6_1 < (l0.length : Int) := of_decide_eq_true (by first | (with_reducible assumption) | assumption)
          obtain ⟨ad118, e118, hx118_0, hx118_1, hx118_2⟩ := at_T74 HR0.out x6_1 p118 q118
          have hw118_2 := hx118_2
          have hw118_1 := hx118_1
          have hw118_0 := hx118_0
          obtain rfl : ad117 = ad118 := (by injection e118)
          replace hx118_0 := (HB.out.cell (World.block_lt_of_cell? w _ hx118_0)).trans hx118_0
          replace hx118_1 := (HB.out.cell (World.block_lt_of_cell? w _ hx118_1)).trans hx118_1
          replace hx118_2 := (HB.out.cell (World.block_lt_of_cell? w _ hx118_2)).trans hx118_2
          replace p118 := eq_true p118
          replace q118 := eq_true q118
          refine start_ (n := 15) (S := fun w' => w'.cell? (ad117.add (((ji4)).toNat * 3)) = some (.int .i64 ((rd_T74 l0 (ji4)).f0)) ∧ w'.cell? ⟨(ad117.add (((ji4)).toNat * 3)).block, (ad117.add (((ji4)).toNat * 3)).off + 1, none⟩ = some (.int .i64 ((rd_T74 l0 (ji4)).f1)) ∧ w'.cell? ⟨(ad117.add (((ji4)).toNat * 3)).block, (ad117.add (((ji4)).toNat * 3)).off + 2, none⟩ = some (.string ((rd_T74 l0 (ji4)).f2)) ∧ w'.cell? (ad117.add ((x6_1).toNat * 3)) = some (.int .i64 ((rd_T74 l0 x6_1).f0)) ∧ w'.cell? ⟨(ad117.add ((x6_1).toNat * 3)).block, (ad117.add ((x6_1).toNat * 3)).off + 1, none⟩ = some (.int .i64 ((rd_T74 l0 x6_1).f1)) ∧ w'.cell? ⟨(ad117.add ((x6_1).toNat * 3)).block, (ad117.add ((x6_1).toNat * 3)).off + 2, none⟩ = some (.string ((rd_T74 l0 x6_1).f2))) (ds := []) mk0q7_ (by kernel_rfl) rfl rfl ⟨((HB.out.cell (World.block_lt_of_cell? w _ hw117_0)).trans hw117_0), ((HB.out.cell (World.block_lt_of_cell? w _ hw117_1)).trans hw117_1), ((HB.out.cell (World.block_lt_of_cell? w _ hw117_2)).trans hw117_2), ((HB.out.cell (World.block_lt_of_cell? w _ hw118_0)).trans hw118_0), ((HB.out.cell (World.block_lt_of_cell? w _ hw118_1)).trans hw118_1), ((HB.out.cell (World.block_lt_of_cell? w _ hw118_2)).trans hw118_2)⟩ (fun hHeld => ?_); refine with_tabW fold_Folded.tab4 fold_Folded.bits4 (fun HT_ HW_ => ?_)
          generalize wr.drew = w13 at HB hx117_0 hx117_1 hx117_2 hx118_0 hx118_1 hx118_2 hHeld ⊢
          refine pure_ (i:=0) (N:=some 9) (v:=?_) (a':=?_) mk1q7_ rfl rfl (any_of HT_.out (by kernel_rfl)) (fun _ _ _ h => h) (Or.inl ⟨by rfl, ?_⟩) ?_ ?_
          rotate_left
          ·intro w'
           go_simp
           with_reducible rfl
          rotate_left
          ·simp only [Act.put, z1q7_, z2q7_, z3q7_, i64_w, i32_w]
           rfl
          refine pure_ (i:=1) (N:=some 10) (v:=?_) (a':=?_) mk2q7_ rfl rfl (any_of HT_.out (by kernel_rfl)) (fun _ _ _ h => h) (Or.inl ⟨by rfl, ?_⟩) ?_ ?_
          rotate_left
          ·intro w'
           go_simp
           with_reducible rfl
          rotate_left
          ·simp only [Act.put, z1q7_, z2q7_, z3q7_, i64_w, i32_w]
           rfl
          refine pure_ (i:=2) (N:=some 11) (v:=?_) (a':=?_) mk3q7_ rfl rfl (any_of HT_.out (by kernel_rfl)) (fun _ _ _ h => h) (Or.inl ⟨by rfl, ?_⟩) ?_ ?_
          rotate_left
          ·intro w'
           go_simp
           with_reducible rfl
          rotate_left
          ·simp only [Act.put, z1q7_, z2q7_, z3q7_, i64_w, i32_w]
           rfl
          refine pure_ (i:=3) (N:=some 12) (v:=?_) (a':=?_) mk4q7_ rfl rfl (any_of HT_.out (by kernel_rfl)) (fun _ _ _ h => h) (Or.inl ⟨by rfl, ?_⟩) ?_ ?_
          rotate_left
          ·intro w'
           go_simp
           with_reducible rfl
          rotate_left
          ·simp only [Act.put, z1q7_, z2q7_, z3q7_, i64_w, i32_w]
           rfl
          refine pure_ (i:=4) (N:=some 13) (v:=?_) (a':=?_) mk5q7_ rfl rfl (any_of HT_.out (by kernel_rfl)) (fun _ _ _ h => h) (Or.inl ⟨by rfl, ?_⟩) ?_ ?_
          rotate_left
          ·intro w'
           go_simp
           with_reducible rfl
          rotate_left
          ·simp only [Act.put, z1q7_, z2q7_, z3q7_, i64_w, i32_w]
           rfl
          refine pure_ (i:=5) (N:=some 14) (v:=?_) (a':=?_) mk6q7_ rfl rfl (any_of HT_.out (by kernel_rfl)) (fun _ _ _ h => h) (Or.inl ⟨by rfl, ?_⟩) ?_ ?_
          rotate_left
          ·intro w'
           go_simp
           with_reducible rfl
          rotate_left
          ·simp only [Act.put, z1q7_, z2q7_, z3q7_, i64_w, i32_w]
           rfl
          refine pure_ (i:=6) (N:=some 15) (v:=?_) (a':=?_) mk7q7_ rfl rfl (any_of HT_.out (by kernel_rfl)) (fun _ _ _ h => h) (Or.inl ⟨by rfl, ?_⟩) ?_ ?_
          rotate_left
          ·intro w'
           go_simp
           with_reducible rfl
          rotate_left
          ·simp only [Act.put, z1q7_, z2q7_, z3q7_, i64_w, i32_w]
           rfl
          refine pure_ (i:=8) (N:=some 17) (v:=?_) (a':=?_) mk8q7_ rfl rfl (any_of HT_.out (by kernel_rfl)) (fun _ _ _ h => h) (Or.inl ⟨by rfl, ?_⟩) ?_ ?_
          rotate_left
          ·intro w'
           go_simp
           with_reducible rfl
          rotate_left
          ·simp only [Act.put, z1q7_, z2q7_, z3q7_, i64_w, i32_w]
           rfl
          refine pure_ (i:=9) (N:=some 18) (v:=?_) (a':=?_) mk9q7_ rfl rfl (any_of HT_.out (by kernel_rfl)) (fun _ _ _ h => h) (Or.inl ⟨by rfl, ?_⟩) ?_ ?_
          rotate_left
          ·intro w'
           go_simp
           with_reducible rfl
          rotate_left
          ·simp only [Act.put, z1q7_, z2q7_, z3q7_, i64_w, i32_w]
           rfl
          refine pure_ (i:=10) (N:=some 19) (v:=?_) (a':=?_) mk10q7_ rfl rfl (any_of HT_.out (by kernel_rfl)) (fun _ _ _ h => h) (Or.inl ⟨by rfl, ?_⟩) ?_ ?_
          rotate_left
          ·intro w'
           go_simp
           with_reducible rfl
          rotate_left
          ·simp only [Act.put, z1q7_, z2q7_, z3q7_, i64_w, i32_w]
           rfl
          refine take_ (i:=7) (N:=some 16) (v:=?_) (a':=?_) mk11q7_ rfl rfl (take_ofW HT_.out HW_.out (by kernel_rfl)) (fun _ _ _ h => h) (Or.inl ⟨by rfl, ?_⟩) hHeld ?_ ?_
          rotate_left
          ·rintro w' ⟨s0, s1, s2, s3, s4, s5⟩
           go_simp
           with_reducible rfl
          rotate_left
          ·simp only [Act.put, z1q7_, z2q7_, z3q7_, i64_w, i32_w]
           rfl
          refine take_ (i:=11) (N:=some 20) (v:=?_) (a':=?_) mk12q7_ rfl rfl (take_ofW HT_.out HW_.out (by kernel_rfl)) (fun _ _ _ h => h) (Or.inl ⟨by rfl, ?_⟩) hHeld ?_ ?_
          rotate_left
          ·rintro w' ⟨s0, s1, s2, s3, s4, s5⟩
           go_simp
           with_reducible rfl
          rotate_left
          ·simp only [Act.put, z1q7_, z2q7_, z3q7_, i64_w, i32_w]
           rfl
          refine one_ (i:=12) (N:=some 21) mk13q7_ rfl rfl (one_of HT_.out (by kernel_rfl)) (by decide) (fun K hK => ?_)
          refine goes_ Try.func101 (by kernel_rfl) rfl #[.agg #[.int .i64 ((rd_T74 l0 (ji4)).f0), .int .i64 ((rd_T74 l0 (ji4)).f1), .string ((rd_T74 l0 (ji4)).f2)], .agg #[.int .i64 ((rd_T74 l0 x6_1).f0), .int .i64 ((rd_T74 l0 x6_1).f1), .string ((rd_T74 l0 x6_1).f2)]] (by rfl) rfl rfl (by (try simp only [List.map_toArray, List.map_cons, List.map_nil]); first | done | (simp only [hji4]; rfl) | rfl | (simp only [List.length_drop, List.length_take]; rfl)) ?_
          with_reducible refine (fold_order.calls k1 ((rd_T74 l0 (ji4)).f0) ((rd_T74 l0 (ji4)).f1) ((rd_T74 l0 (ji4)).f2) ((rd_T74 l0 x6_1).f0) ((rd_T74 l0 x6_1).f1) ((rd_T74 l0 x6_1).f2) t119 _ A9.out).mono ?_
          rintro e w14 ⟨rfl, hb⟩
          refine ⟨_, rfl, ?_⟩
          have n0_ := A0q7_ (below_step (by repeat (first | (with_reducible first | exact HB.out | apply below_alloc | apply pw_below_drewN | apply below_drew1) | exact HB.out)) hb)
          clear HB
          have HB := n0_
          clear n0_
          (try clear hb)
          (try clear hb2)
          (try clear hk)
          (try clear hi)
          refine hK.out _ _ ⟨((HB.out.cell (World.block_lt_of_cell? w _ hw117_0)).trans hw117_0), ((HB.out.cell (World.block_lt_of_cell? w _ hw117_1)).trans hw117_1), ((HB.out.cell (World.block_lt_of_cell? w _ hw117_2)).trans hw117_2), ((HB.out.cell (World.block_lt_of_cell? w _ hw118_0)).trans hw118_0), ((HB.out.cell (World.block_lt_of_cell? w _ hw118_1)).trans hw118_1), ((HB.out.cell (World.block_lt_of_cell? w _ hw118_2)).trans hw118_2)⟩ (fun hHeld => ?_)
          clear hK K
          refine norm_ (a' := ?_) ?_ ?_
          rotate_left
          ·show Act.put _ (some 21) _ = _
           simp only [Act.put, z1q7_, z2q7_, z3q7_, i64_w, i32_w]
           rfl
          refine pure_ (i:=13) (N:=some 22) (v:=?_) (a':=?_) mk14q7_ rfl rfl (any_of HT_.out (by kernel_rfl)) (fun _ _ _ h => h) (Or.inl ⟨by rfl, ?_⟩) ?_ ?_
          rotate_left
          ·intro w'
           go_simp
           with_reducible rfl
          rotate_left
          ·simp only [Act.put, z1q7_, z2q7_, z3q7_, i64_w, i32_w]
           rfl
          refine pure_ (i:=14) (N:=some 23) (v:=?_) (a':=?_) mk15q7_ rfl rfl (any_of HT_.out (by kernel_rfl)) (fun _ _ _ h => h) (Or.inl ⟨by rfl, ?_⟩) ?_ ?_
          rotate_left
          ·intro w'
           go_simp
           with_reducible rfl
          rotate_left
          ·simp only [Act.put, z1q7_, z2q7_, z3q7_, i64_w, i32_w]
           rfl
          refine done_ (done_of HT_.out (by kernel_rfl)) ?_
          try go_wp2
          go_roundg k1
          case measure => have := HK1.out; omega
          case rel => exact ⟨(wrap64 (x6_1 + 1)), (by first | rfl | (simp; done) | (simp [*]; done)), H', ⟨by have := HK1.out; omega⟩, ⟨by repeat (first | (with_reducible first | exact HB.out | apply below_alloc | apply pw_below_drewN | apply below_drew1) | exact HB.out)⟩⟩
        ·rw [if_neg c8] at H
         exact absurd H (by simp)
       ·rw [if_neg c7] at H
        exact absurd H (by simp)
      ·rw [if_neg c6] at H
       exact absurd H (by simp)
     ·rw [if_neg c5] at H
      exact absurd H (by simp)
    ·rw [if_neg c3] at H
     have c3b0 : decide (0 < x6_1) = false := decide_eq_false c3
     clear c3
     have H' := A0q7_ H
     clear H
     try go_wp2
     have n0_ := A0q7_ (below_drew1 HB.out)
     clear HB
     have HB := n0_
     clear n0_
     refine start_ (n := 15) (S := fun w' => True) (ds := []) mk0q7_ (by kernel_rfl) rfl rfl trivial (fun hHeld => ?_); refine with_tabW fold_Folded.tab4 fold_Folded.bits4 (fun HT_ HW_ => ?_)
     generalize wr.drew = w15 at HB hHeld ⊢
     refine pure_ (i:=0) (N:=some 9) (v:=?_) (a':=?_) mk1q7_ rfl rfl (any_of HT_.out (by kernel_rfl)) (fun _ _ _ h => h) (Or.inl ⟨by rfl, ?_⟩) ?_ ?_
     rotate_left
     ·intro w'
      go_simp
      with_reducible rfl
     rotate_left
     ·simp only [Act.put, z1q7_, z2q7_, z3q7_, i64_w, i32_w]
      rfl
     refine pure_ (i:=1) (N:=some 10) (v:=?_) (a':=?_) mk2q7_ rfl rfl (any_of HT_.out (by kernel_rfl)) (fun _ _ _ h => h) (Or.inl ⟨by rfl, ?_⟩) ?_ ?_
     rotate_left
     ·intro w'
      go_simp
      with_reducible rfl
     rotate_left
     ·simp only [Act.put, z1q7_, z2q7_, z3q7_, i64_w, i32_w]
      rfl
     refine pure_ (i:=2) (N:=some 11) (v:=?_) (a':=?_) mk3q7_ rfl rfl (any_of HT_.out (by kernel_rfl)) (fun _ _ _ h => h) (Or.inl ⟨by rfl, ?_⟩) ?_ ?_
     rotate_left
     ·intro w'
      go_simp
      with_reducible rfl
     rotate_left
     ·simp only [Act.put, z1q7_, z2q7_, z3q7_, i64_w, i32_w]
      rfl
     refine pure_ (i:=3) (N:=some 12) (v := undef) (a' := ?_) mk4q7_ rfl rfl (any_of HT_.out (by kernel_rfl)) (fun _ _ _ h => h) (Or.inr ⟨by rfl, rfl⟩) ?_ ?_
     rotate_left
     ·simp only [Act.put, z1q7_, z2q7_, z3q7_, i64_w, i32_w]
      rfl
     refine pure_ (i:=4) (N:=some 13) (v := undef) (a' := ?_) mk5q7_ rfl rfl (any_of HT_.out (by kernel_rfl)) (fun _ _ _ h => h) (Or.inr ⟨by rfl, rfl⟩) ?_ ?_
     rotate_left
     ·simp only [Act.put, z1q7_, z2q7_, z3q7_, i64_w, i32_w]
      rfl
     refine pure_ (i:=5) (N:=some 14) (v := undef) (a' := ?_) mk6q7_ rfl rfl (any_of HT_.out (by kernel_rfl)) (fun _ _ _ h => h) (Or.inr ⟨by rfl, rfl⟩) ?_ ?_
     rotate_left
     ·simp only [Act.put, z1q7_, z2q7_, z3q7_, i64_w, i32_w]
      rfl
     refine pure_ (i:=6) (N:=some 15) (v := undef) (a' := ?_) mk7q7_ rfl rfl (any_of HT_.out (by kernel_rfl)) (fun _ _ _ h => h) (Or.inr ⟨by rfl, rfl⟩) ?_ ?_
     rotate_left
     ·simp only [Act.put, z1q7_, z2q7_, z3q7_, i64_w, i32_w]
      rfl
     refine pure_ (i:=7) (N:=some 16) (v := undef) (a' := ?_) mk16q7_ rfl rfl (any_of HT_.out (by kernel_rfl)) (fun _ _ _ h => h) (Or.inr ⟨by rfl, rfl⟩) ?_ ?_
     rotate_left
     ·simp only [Act.put, z1q7_, z2q7_, z3q7_, i64_w, i32_w]
      rfl
     refine pure_ (i:=8) (N:=some 17) (v := undef) (a' := ?_) mk17q7_ rfl rfl (any_of HT_.out (by kernel_rfl)) (fun _ _ _ h => h) (Or.inr ⟨by rfl, rfl⟩) ?_ ?_
     rotate_left
     ·simp only [Act.put, z1q7_, z2q7_, z3q7_, i64_w, i32_w]
      rfl
     refine pure_ (i:=9) (N:=some 18) (v := undef) (a' := ?_) mk18q7_ rfl rfl (any_of HT_.out (by kernel_rfl)) (fun _ _ _ h => h) (Or.inr ⟨by rfl, rfl⟩) ?_ ?_
     rotate_left
     ·simp only [Act.put, z1q7_, z2q7_, z3q7_, i64_w, i32_w]
      rfl
     refine pure_ (i:=10) (N:=some 19) (v := undef) (a' := ?_) mk11q7_ rfl rfl (any_of HT_.out (by kernel_rfl)) (fun _ _ _ h => h) (Or.inr ⟨by rfl, rfl⟩) ?_ ?_
     rotate_left
     ·simp only [Act.put, z1q7_, z2q7_, z3q7_, i64_w, i32_w]
      rfl
     refine pure_ (i:=11) (N:=some 20) (v := undef) (a' := ?_) mk12q7_ rfl rfl (any_of HT_.out (by kernel_rfl)) (fun _ _ _ h => h) (Or.inr ⟨by rfl, rfl⟩) ?_ ?_
     rotate_left
     ·simp only [Act.put, z1q7_, z2q7_, z3q7_, i64_w, i32_w]
      rfl
     refine pure_ (i:=12) (N:=some 21) (v := undef) (a' := ?_) mk13q7_ rfl rfl (any_of HT_.out (by kernel_rfl)) (fun _ _ _ h => h) (Or.inr ⟨by rfl, rfl⟩) ?_ ?_
     rotate_left
     ·simp only [Act.put, z1q7_, z2q7_, z3q7_, i64_w, i32_w]
      rfl
     refine pure_ (i:=13) (N:=some 22) (v := undef) (a' := ?_) mk14q7_ rfl rfl (any_of HT_.out (by kernel_rfl)) (fun _ _ _ h => h) (Or.inr ⟨by rfl, rfl⟩) ?_ ?_
     rotate_left
     ·simp only [Act.put, z1q7_, z2q7_, z3q7_, i64_w, i32_w]
      rfl
     refine pure_ (i:=14) (N:=some 23) (v:=?_) (a':=?_) mk15q7_ rfl rfl (any_of HT_.out (by kernel_rfl)) (fun _ _ _ h => h) (Or.inl ⟨by rfl, ?_⟩) ?_ ?_
     rotate_left
     ·intro w'
      go_simp
      with_reducible rfl
     rotate_left
     ·simp only [Act.put, z1q7_, z2q7_, z3q7_, i64_w, i32_w]
      rfl
     refine done_ (done_of HT_.out (by kernel_rfl)) ?_
     try go_wp2
     go_roundg k1
     case measure => have := HK1.out; omega
     case rel => exact ⟨(wrap64 (x6_1 + 1)), (by first | rfl | (simp; done) | (simp [*]; done)), H', ⟨by have := HK1.out; omega⟩, ⟨by repeat (first | (with_reducible first | exact HB.out | apply below_alloc | apply pw_below_drewN | apply below_drew1) | exact HB.out)⟩⟩
   ·rw [if_neg c2] at H
    have c2b0 : decide (x6_1 < (l0.length : Int)) = false := decide_eq_false c2
    clear c2
    obtain rfl := Option.some.inj H
    go_wp2
    go_ret
    exact ⟨by first | rfl | (simp [errW_none, errW_some] <;> rfl) | (simp [*, errW_none, errW_some] <;> rfl), by repeat (first | (with_reducible first | exact HB.out | apply below_alloc | apply pw_below_drewN | apply below_drew1) | exact HB.out)⟩
end Go.Proofs.Ythdhkoeaadahaaa.P
