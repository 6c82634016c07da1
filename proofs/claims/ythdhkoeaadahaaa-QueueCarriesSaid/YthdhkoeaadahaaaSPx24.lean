-- PACKED by wip/kit/pack.py: what the law's proof uses of Px24 (printed words and texts of this seat)
import Derived.Test.YthdhkoeaadahaaaSPx0
import Derived.Test.YthdhkoeaadahaaaSEClone9
namespace Go.Proofs.Ythdhkoeaadahaaa.P
open Go.RowKit Go.Proofs.YthdhkoeaadahaaaW.PrintWords Go.Proofs.YthdhkoeaadahaaaW.PrintLast Go.Proofs.YthdhkoeaadahaaaW.PrintMore
attribute [local go_sem] max2_int min2_int max_two min_two max_three min_three max_four min_four
set_option linter.unusedVariables false
set_option linter.unusedSimpArgs false
def vols_size.f (a0 : Int) : Option (Bool) := if a0 ≥ 1 then (some (decide (a0 ≤ 32))) else (some false)
theorem A0q24_ {p : Prop} (h : p) : Aside0 p := ⟨h⟩
theorem z1q24_ {α : Type} (l : List α) (i : Nat) (a : α) : l.toArray.setIfInBounds i a = (l.set i a).toArray := List.setIfInBounds_toArray l i a
theorem z2q24_ {α : Type} {x : α} {xs : List α} {a : α} : (x :: xs).set 0 a = a :: xs := List.set_cons_zero
theorem z3q24_ {α : Type} {x : α} {xs : List α} {n : Nat} {a : α} : (x :: xs).set (n + 1) a = x :: xs.set n a := List.set_cons_succ
abbrev mk0q24_ : Array Bool := #[false, false, false, false, false, false, false, false, false, false]
abbrev mk1q24_ : Array Bool := #[true, false, false, false, false, false, false, false, false, false]
abbrev mk2q24_ : Array Bool := #[true, true, false, false, false, false, false, false, false, false]
abbrev mk3q24_ : Array Bool := #[true, true, false, true, false, false, false, false, false, false]
abbrev mk4q24_ : Array Bool := #[true, true, true, true, false, false, false, false, false, false]
abbrev mk5q24_ : Array Bool := #[true, true, true, true, true, false, false, false, false, false]
abbrev mk6q24_ : Array Bool := #[true, true, true, true, true, true, false, false, false, false]
abbrev mk7q24_ : Array Bool := #[true, true, true, true, true, true, true, false, false, false]
abbrev mk8q24_ : Array Bool := #[true, true, true, true, true, true, true, true, false, false]
abbrev mk9q24_ : Array Bool := #[true, true, true, true, true, true, true, true, true, false]
abbrev mk10q24_ : Array Bool := #[true, true, true, true, true, true, true, true, true, true]
set_option maxHeartbeats 8000000 in
set_option maxRecDepth 100000 in
theorem vols_size.calls (a0 : Int) (r : Bool) (w : World) (h : vols_size.f a0 = some r) :
  Calls Try.prog 98 #[.int .i64 a0] w fun e w' => e = .returned (.bool r) ∧ Drawn0 w w' := by
 have H : (if a0 ≥ 1 then (some (decide (a0 ≤ 32))) else (some false)) = some r := h
 clear h
 by_cases c2 : a0 ≥ 1
 ·rw [if_pos c2] at H
  have c2b0 : decide (1 ≤ a0) = true := decide_eq_true c2
  clear c2
  obtain rfl := Option.some.inj H
  go_enter Try.func98, Try.ntmps98
  go_wp2
  go_ret
  exact ⟨by first | rfl | (simp; done) | (simp [*]; done), by repeat (first | exact Drawn0.refl _ | apply Drawn0.step)⟩
 ·rw [if_neg c2] at H
  have c2b0 : decide (1 ≤ a0) = false := decide_eq_false c2
  clear c2
  obtain rfl := Option.some.inj H
  go_enter Try.func98, Try.ntmps98
  go_wp2
  go_ret
  exact ⟨by first | rfl | (simp; done) | (simp [*]; done), by repeat (first | exact Drawn0.refl _ | apply Drawn0.step)⟩
def vols_clone.l0 : Nat → List (S49) → List (S49) → Int → Int → Option ((List (S49)))
 | 0, _, _, _, _ => none
 | k + 1, x3, x6, x7, x8 => if x8 < x7 then (if 0 ≤ x8 then (if x8 < (x6.length : Int) then ((slices_Clone_string_string.f ((rd_T49 x6 x8).f1)).bind fun t238 => (if x3.length < 4398046511104 then (vols_clone.l0 k (x3 ++ [(⟨(rd_T49 x6 x8).f0, t238⟩ : S49)]) x6 x7 (wrap64 (x8 + 1))) else (none))) else (none)) else (none)) else (some x3)
def vols_clone.f (k : Nat) (l0 : List (S49)) : Option ((List (S49))) := vols_clone.l0 k ([] : List (S49)) l0 (l0.length : Int) 0
def vols_clone.T5 : Bool × List (List Nat × List Nat) := (true, [([], []), ([], []), ([1], [1]), ([], []), ([3], [3]), ([4], [4]), ([2, 5], [2, 5]), ([6], [6]), ([0, 7, 5], [0, 7]), ([8, 8, 0, 1, 2, 3, 4, 5, 6, 7, 8], [0, 8])])
def vols_clone.B5 : List Nat := [0, 0, 2, 0, 8, 24, 62, 126, 255, 511]
theorem vols_clone.tab5 : rtab .any (opsOf Try.f106 5) = vols_clone.T5 := by kernel_rfl
theorem vols_clone.bits5 : waitsOk vols_clone.T5.2 vols_clone.B5 = true := by kernel_rfl
set_option maxHeartbeats 8000000 in
set_option maxRecDepth 100000 in
theorem vols_clone.calls (k : Nat) (A0 : Option Addr) (c0 : Nat) (l0 : List (S49)) (r : List (S49)) (w : World) (hr0 : Kd.C k49 w A0 l0.length l0) (hc0 : l0.length ≤ c0) (h : vols_clone.f k l0 = some r) :
  Calls Try.prog 106 #[.slice A0 l0.length c0] w fun e w' => ∃ v0_ : Value, e = .returned (v0_) ∧ Kd.S k49 49 w' w.heap.size (fun _ => True) v0_ r ∧ Below w.heap.size w w' := by
 have hu49 := Try.underlying49
 have HR0 := A0q24_ hr0
 have HC0 := A0q24_ hc0
 clear hr0 hc0
 have HB := A0q24_ (Below.refl w.heap.size w)
 have H : (vols_clone.l0 k ([] : List (S49)) l0 (l0.length : Int) 0) = some r := h
 clear h
 have H' := A0q24_ H
 clear H
 go_enter Try.func106, Try.ntmps106
 go_wp2
 go_loopg [3, 8] k (fun kq v3 v8 w' => ∃ (x3_1 : List (S49)) (x8_1 : Int), v8 = .int .i64 x8_1 ∧ Aside0 (vols_clone.l0 kq x3_1 l0 (l0.length : Int) x8_1 = some r) ∧ Aside0 (kq ≤ k) ∧ Aside0 (Kd.S k49 49 w' w.heap.size (fun _ => True) v3 x3_1) ∧ Aside0 (Below w.heap.size w w'))
 case atStart => exact ⟨(([] : List (S49))), (0), (by first | rfl | (simp; done) | (simp [*]; done)), H', ⟨Nat.le_refl _⟩, ⟨by first | exact Kd.S_nil _ _ _ _ _ | exact Kd.N_nil _ _ _ _ _ | exact Kd.V_nil _ _ _ _ _ | exact Kd.Q_nil _ _ _ _ _ | exact Kd.R_nil _ _ _ _ _⟩, ⟨by repeat (first | (with_reducible first | exact HB.out | apply below_alloc | apply pw_below_drewN | apply below_drew1) | exact HB.out)⟩⟩
 case round =>
  clear H'
  try clear c1
  obtain ⟨x3_1, x8_1, rfl, HA, HK1, HO_3, HB⟩ := hrel
  cases gk with
  | zero => exact absurd HA.out (by simp [vols_clone.l0])
  | succ k1 =>
   have H := HA.out
   clear HA
   simp only [vols_clone.l0] at H
   by_cases c2 : x8_1 < (l0.length : Int)
   ·rw [if_pos c2] at H
    have c2b0 : decide (x8_1 < (l0.length : Int)) = true := decide_eq_true c2
    clear c2
    by_cases c3 : 0 ≤ x8_1
    ·rw [if_pos c3] at H
     have c3b0 : decide (0 ≤ x8_1) = true := decide_eq_true c3
     clear c3
     by_cases c4 : x8_1 < (l0.length : Int)
     ·rw [if_pos c4] at H
      have c4b0 : decide (x8_1 < (l0.length : Int)) = true := decide_eq_true c4
      clear c4
      replace H := Option.bind_eq_some_iff.mp H
      obtain ⟨t238, A50, H⟩ := H
      replace H : (if x3_1.length < 4398046511104 then (vols_clone.l0 k1 (x3_1 ++ [(⟨(rd_T49 l0 x8_1).f0, t238⟩ : S49)]) l0 (l0.length : Int) (wrap64 (x8_1 + 1))) else (none)) = some r := H
      have A5 := A0q24_ A50
      clear A50
      by_cases c6 : x3_1.length < 4398046511104
      ·rw [if_pos c6] at H
       have LMc6 := A0q24_ c6
       clear c6
       obtain ⟨y241, hy241⟩ : ∃ y_ : List (S49), y_ = (x3_1 ++ [(⟨(rd_T49 l0 x8_1).f0, t238⟩ : S49)]) := ⟨_, rfl⟩
       replace H : (vols_clone.l0 k1 y241 l0 (l0.length : Int) (wrap64 (x8_1 + 1))) = some r := by first | (rw [hy241]; with_reducible exact H) | (have H2_ := (Option.bind_some _ _).symm.trans H; rw [hy241]; with_reducible exact H2_) | (have H2_ := (Option.bind_some _ _).symm.trans H; with_reducible exact H2_) | with_reducible exact H | (rw [hy241]; exact H) | exact H
       have Ny241 := A0q24_ hy241
       clear hy241
       have H' := A0q24_ H
       clear H
       have p236 : 0 ≤ (x8_1 : Int) := of_decide_eq_true (by first | (with_reducible assumption) | assumption)
       have q236 : x8_1 < (l0.length : Int) := of_decide_eq_true (by first | (with_reducible assumption) | assumption)
       obtain ⟨ad236, A236_1, c236_1, e236, hx236_0, hx236_1, hl236_1, hi236_1⟩ := at_T49 HR0.out x8_1 p236 q236
       cases e236
       replace hx236_0 := (HB.out.cell (World.block_lt_of_cell? w _ hx236_0)).trans hx236_0
       replace hx236_1 := (HB.out.cell (World.block_lt_of_cell? w _ hx236_1)).trans hx236_1
       have HR236_1 := A0q24_ hi236_1
       have HC236_1 := A0q24_ hl236_1
       clear hi236_1 hl236_1
       replace p236 := eq_true p236
       replace q236 := eq_true q236
       try go_wp2_with (first | ((with_reducible refine gate_dst (N:=5) rfl ?_); refine box_event ?hg (N:=5) ?hd (cs := #[.int .i64 0, .slice none 0 0]) (t := 49) ?hr ?_; (case hd => rfl); (case hg => rfl); (case hr => first | (go_simp; done) | (go_simp; rfl)); intro gb237 hg w7 hbox hb; have n0_ := A0q24_ (Kd.S_below (Kd.S_elderB (by (with_reducible repeat (first | apply Kd.S_alloc | apply Kd.S_drewN | apply Kd.S_drew)); exact HO_3.out) gb237 (Nat.le_of_eq hg.symm)) hb); have n1_ := A0q24_ (below_step (by repeat (first | (with_reducible first | exact HB.out | apply below_alloc | apply pw_below_drewN | apply below_drew1) | exact HB.out)) hb); have n2_ := A0q24_ (hbox); have n3_ := A0q24_ ((by rw [hg]; exact (below_size (by repeat (first | (with_reducible first | exact HB.out | apply below_alloc | apply pw_below_drewN | apply below_drew1) | exact HB.out))) : w.heap.size ≤ gb237)); have n4_ := A0q24_ ((by rw [hg]; exact (below_size (by repeat (first | (with_reducible first | exact HB.out | apply below_alloc | apply pw_below_drewN | apply below_drew1) | exact HB.out))) : w.heap.size ≤ gb237)); clear HO_3; clear HB; have HO_3 := n0_; have HB := n1_; have BK237 := n2_; have GW237 := n3_; have GE237 := n4_; clear n0_ n1_ n2_ n3_ n4_; clear hb hbox hg; have hcz8_0 : w7.cell? ⟨gb237, 0, none⟩ = some (.int .i64 0) := (blk_cell BK237.out 0).trans rfl; have hcz8_1 : w7.cell? ⟨gb237, 1, none⟩ = some (.slice none 0 0) := (blk_cell BK237.out 1).trans rfl; have hfz8_0 := blk_frozen BK237.out 0; have hfz8_1 := blk_frozen BK237.out 1))
       have n0_ : Aside0 (Kd.S k49 49 ((w7.setCell ⟨gb237, 0, none⟩ (.int .i64 ((rd_T49 l0 x8_1).f0))).setCell ⟨gb237, 1, none⟩ (.slice A236_1 ((rd_T49 l0 x8_1).f1).length c236_1)) w.heap.size (fun k_ => k_ ≠ gb237) u3 x3_1) := ⟨by (with_reducible repeat (first | apply Kd.S_alloc | apply Kd.S_drewN | apply Kd.S_drew)); exact Kd.S_mono (Kd.S_far (p := ⟨gb237, 1, none⟩) (Kd.S_far (p := ⟨gb237, 0, none⟩) (Kd.S_mono HO_3.out (fun k_ hk => (⟨hk, hk.2⟩ : _ ∧ k_ ≠ gb237))) (fun _ hk => hk.2) (.int .i64 ((rd_T49 l0 x8_1).f0))) (fun _ hk => hk.2) (.slice A236_1 ((rd_T49 l0 x8_1).f1).length c236_1)) (fun _ hk => hk.1.2)⟩
       have n1_ : Aside0 (((w7.setCell ⟨gb237, 0, none⟩ (.int .i64 ((rd_T49 l0 x8_1).f0))).setCell ⟨gb237, 1, none⟩ (.slice A236_1 ((rd_T49 l0 x8_1).f1).length c236_1)).heap[gb237]? = some (.cells #[.int .i64 ((rd_T49 l0 x8_1).f0), .slice A236_1 ((rd_T49 l0 x8_1).f1).length c236_1] 49 (0, 0))) := ⟨by (with_reducible repeat (first | refine blk_drewN ?_ _ | refine blk_drew ?_ | refine blk_alloc ?_ _)); refine blk_put (cs := #[.int .i64 ((rd_T49 l0 x8_1).f0), .slice none 0 0]) ?_ 1 _ rfl; (with_reducible repeat (first | refine blk_drewN ?_ _ | refine blk_drew ?_ | refine blk_alloc ?_ _)); refine blk_put (cs := #[.int .i64 0, .slice none 0 0]) ?_ 0 _ rfl; (with_reducible repeat (first | refine blk_drewN ?_ _ | refine blk_drew ?_ | refine blk_alloc ?_ _)); exact BK237.out⟩
       have n2_ : Aside0 (Below w.heap.size w ((w7.setCell ⟨gb237, 0, none⟩ (.int .i64 ((rd_T49 l0 x8_1).f0))).setCell ⟨gb237, 1, none⟩ (.slice A236_1 ((rd_T49 l0 x8_1).f1).length c236_1))) := ⟨by repeat (first | (with_reducible first | exact HB.out | apply below_alloc | apply pw_below_drewN | apply below_drew1 | refine below_set ?_ GE237.out) | exact HB.out)⟩
       (try clear HO_3)
       (try clear BK237)
       (try clear HB)
       generalize ((w7.setCell ⟨gb237, 0, none⟩ (.int .i64 ((rd_T49 l0 x8_1).f0))).setCell ⟨gb237, 1, none⟩ (.slice A236_1 ((rd_T49 l0 x8_1).f1).length c236_1)) = w9 at n0_ n1_ n2_ ⊢
       have HO_3 := n0_
       have BK237 := n1_
       have HB := n2_
       clear n0_ n1_ n2_
       have n0_ := A0q24_ (Kd.S_drew HO_3.out)
       have n1_ := A0q24_ (blk_drew BK237.out)
       have n2_ := A0q24_ (below_drew1 HB.out)
       clear HO_3
       clear BK237
       clear HB
       have HO_3 := n0_
       have BK237 := n1_
       have HB := n2_
       clear n0_ n1_ n2_
       refine start_ (n := 10) (S := fun w' => w'.cell? ⟨gb237, 0, none⟩ = some (.int .i64 ((rd_T49 l0 x8_1).f0)) ∧ w'.cell? ⟨gb237, 1, none⟩ = some (.slice A236_1 ((rd_T49 l0 x8_1).f1).length c236_1)) (ds := []) mk0q24_ (by kernel_rfl) rfl rfl ⟨(blk_cell BK237.out 0).trans rfl, (blk_cell BK237.out 1).trans rfl⟩ (fun hHeld => ?_); refine with_tabW vols_clone.tab5 vols_clone.bits5 (fun HT_ HW_ => ?_)
       generalize w9.drew = w10 at HO_3 BK237 HB hHeld ⊢
       refine pure_ (i:=0) (N:=some 12) (v:=?_) (a':=?_) mk1q24_ rfl rfl (any_of HT_.out (by kernel_rfl)) (fun _ _ _ h => h) (Or.inl ⟨by rfl, ?_⟩) ?_ ?_
       rotate_left
       ·intro w'
        go_simp
        with_reducible rfl
       rotate_left
       ·simp only [Act.put, z1q24_, z2q24_, z3q24_, i64_w, i32_w]
        rfl
       refine pure_ (i:=1) (N:=some 13) (v:=?_) (a':=?_) mk2q24_ rfl rfl (any_of HT_.out (by kernel_rfl)) (fun _ _ _ h => h) (Or.inl ⟨by rfl, ?_⟩) ?_ ?_
       rotate_left
       ·intro w'
        go_simp
        with_reducible rfl
       rotate_left
       ·simp only [Act.put, z1q24_, z2q24_, z3q24_, i64_w, i32_w]
        rfl
       refine pure_ (i:=3) (N:=some 15) (v:=?_) (a':=?_) mk3q24_ rfl rfl (any_of HT_.out (by kernel_rfl)) (fun _ _ _ h => h) (Or.inl ⟨by rfl, ?_⟩) ?_ ?_
       rotate_left
       ·intro w'
        go_simp
        with_reducible rfl
       rotate_left
       ·simp only [Act.put, z1q24_, z2q24_, z3q24_, i64_w, i32_w]
        rfl
       refine take_ (i:=2) (N:=some 14) (v:=?_) (a':=?_) mk4q24_ rfl rfl (take_ofW HT_.out HW_.out (by kernel_rfl)) (fun _ _ _ h => h) (Or.inl ⟨by rfl, ?_⟩) hHeld ?_ ?_
       rotate_left
       ·rintro w' ⟨s0, s1⟩
        go_simp
        with_reducible rfl
       rotate_left
       ·simp only [Act.put, z1q24_, z2q24_, z3q24_, i64_w, i32_w]
        rfl
       refine take_ (i:=4) (N:=some 16) (v:=?_) (a':=?_) mk5q24_ rfl rfl (take_ofW HT_.out HW_.out (by kernel_rfl)) (fun _ _ _ h => h) (Or.inl ⟨by rfl, ?_⟩) hHeld ?_ ?_
       rotate_left
       ·rintro w' ⟨s0, s1⟩
        go_simp
        with_reducible rfl
       rotate_left
       ·simp only [Act.put, z1q24_, z2q24_, z3q24_, i64_w, i32_w]
        rfl
       refine one_ (i:=5) (N:=some 17) mk6q24_ rfl rfl (one_of HT_.out (by kernel_rfl)) (by decide) (fun K hK => ?_)
       refine goes_ Try.func128 (by kernel_rfl) rfl #[.slice A236_1 ((rd_T49 l0 x8_1).f1).length c236_1] (by rfl) rfl rfl (by (try simp only [List.map_toArray, List.map_cons, List.map_nil]); first | done | rfl | (simp only [List.length_drop, List.length_take]; rfl)) ?_
       with_reducible refine (slices_Clone_string_string.calls _ _ ((rd_T49 l0 x8_1).f1) t238 _ ?side1 ?side2 A5.out).mono ?_
       (case side1 => repeat (first | exact (Kd.C_below HR236_1.out HB.out) | (with_reducible refine Kd.C_alloc ?_ _) | (with_reducible refine Kd.C_drewN ?_ _) | (with_reducible refine Kd.C_drew ?_)))
       (case side2 => exact HC236_1.out)
       rintro e w11 ⟨v239, rfl, ho0, hb⟩
       refine ⟨_, rfl, ?_⟩
       have n0_ := A0q24_ (Kd.S_elder' (by (with_reducible repeat (first | apply Kd.S_alloc | apply Kd.S_drewN | apply Kd.S_drew)); exact HO_3.out) (Kd.R_base ho0) hb)
       have n1_ := A0q24_ (Kd.R_lower ho0 (below_size (by repeat (first | (with_reducible first | exact HB.out | apply below_alloc | apply pw_below_drewN | apply below_drew1 | refine below_set ?_ GE237.out) | exact HB.out))))
       have n2_ := A0q24_ (blk_below (g:=gb237) (o:=.cells #[.int .i64 ((rd_T49 l0 x8_1).f0), .slice A236_1 ((rd_T49 l0 x8_1).f1).length c236_1] 49 (0, 0)) (by (with_reducible repeat (first | refine blk_drewN ?_ _ | refine blk_drew ?_ | refine blk_alloc ?_ _)); exact BK237.out) hb)
       have n3_ := A0q24_ (below_step (by repeat (first | (with_reducible first | exact HB.out | apply below_alloc | apply pw_below_drewN | apply below_drew1 | refine below_set ?_ GE237.out) | exact HB.out)) hb)
       clear HO_3
       clear BK237
       clear HB
       have HO_3 := n0_
       have HO240 := n1_
       have BK237 := n2_
       have HB := n3_
       clear n0_ n1_ n2_ n3_
       (try clear hb)
       (try clear hb2)
       (try clear hk)
       (try clear hi)
       (try clear ho0)
       obtain ⟨Ao12, co12, eo12⟩ := Kd.R_slice HO240.out
       (first | subst eo12 | (injection eo12 with f1_ f2_ f3_; have f4_ := f1_.symm; have f5_ := f3_.symm; clear f1_ f2_ f3_; subst f4_; subst f5_))
       refine hK.out _ _ ⟨(blk_cell BK237.out 0).trans rfl, (blk_cell BK237.out 1).trans rfl⟩ (fun hHeld => ?_)
       clear hK K
       refine norm_ (a' := ?_) ?_ ?_
       rotate_left
       ·show Act.put _ (some 17) _ = _
        simp only [Act.put, z1q24_, z2q24_, z3q24_, i64_w, i32_w]
        rfl
       refine pure_ (i:=6) (N:=some 18) (v:=?_) (a':=?_) mk7q24_ rfl rfl (any_of HT_.out (by kernel_rfl)) (fun _ _ _ h => h) (Or.inl ⟨by rfl, ?_⟩) ?_ ?_
       rotate_left
       ·intro w'
        go_simp
        with_reducible rfl
       rotate_left
       ·simp only [Act.put, z1q24_, z2q24_, z3q24_, i64_w, i32_w]
        rfl
       refine one_ (i:=7) (N:=some 19) mk8q24_ rfl rfl (one_of HT_.out (by kernel_rfl)) (by decide) (fun K hK => ?_)
       refine value_ (w1 := ?_) (v := ?_) (by rfl) rfl ?_ ?_
       rotate_left 2
       ·go_simp
        constructor
        ·rfl
        ·rfl
       refine hK.out _ _ ⟨(blk_cell (blk_alloc BK237.out _) 0).trans rfl, (blk_cell (blk_alloc BK237.out _) 1).trans rfl⟩ (fun hHeld => ?_)
       clear hK K
       refine norm_ (a' := ?_) ?_ ?_
       rotate_left
       ·show Act.put _ (some 19) _ = _
        simp only [Act.put, z1q24_, z2q24_, z3q24_, i64_w, i32_w]
        rfl
       refine one_ (i:=8) (N:=some 20) mk9q24_ rfl rfl (one_of HT_.out (by kernel_rfl)) (by decide) (fun K hK => ?_)
       refine Kd.S_append_step k49 (w0 := w) w.heap.size (by rfl) (.tmp 12) (.tmp 19) 37 49 (.agg #[(.int .i64 0), (.slice none 0 0)]) 32 rfl Try.underlying37 info49 rfl (by decide) (by omega) u3 x3_1 (⟨(rd_T49 l0 x8_1).f0, t238⟩ : S49) [.int .i64 ((rd_T49 l0 x8_1).f0), .slice Ao12 t238.length co12] (fun k_ => k_ ≠ gb237) (fun k_ => some k_ = (.slice Ao12 t238.length co12 : Value).ownBlock) rfl rfl ?aP (fun k_ hk_ => ((Kd.R_mono (ok' := fun k_ => ((fun k_ => k_ ≠ gb237)) k_ ∧ some k_ ≠ (u3 : Value).ownBlock) (Kd.R_types (Kd.R_apart' (HO240.out) (Kd.S_typed HO_3.out) (by decide)) BK237.out (by decide)) (fun k_ hk => ⟨hk.2, hk.1.2⟩))).1 k_ hk_.symm) ?aF ?aO ?aB ?aS ?aL ?_
       (case aP => exact k49_mkM _ _ _ (⟨(rd_T49 l0 x8_1).f0, t238⟩ : S49) (Kd.R_mono (Kd.R_tight rfl (Kd.R_mono (ok' := fun k_ => ((fun k_ => k_ ≠ gb237)) k_ ∧ some k_ ≠ (u3 : Value).ownBlock) (Kd.R_types (Kd.R_apart' (HO240.out) (Kd.S_typed HO_3.out) (by decide)) BK237.out (by decide)) (fun k_ hk => ⟨hk.2, hk.1.2⟩))) (fun _ h_ => h_)))
       (case aB => exact (by repeat (first | (with_reducible first | exact HB.out | apply below_alloc | apply pw_below_drewN | apply below_drew1 | refine below_set ?_ GE237.out) | exact HB.out)))
       (case aF => exact (fun k_ hk => Kd.freshB (g:=gb237) (o:=.cells #[.int .i64 ((rd_T49 l0 x8_1).f0), .slice A236_1 ((rd_T49 l0 x8_1).f1).length c236_1] 49 (0, 0)) (by (with_reducible repeat (first | refine blk_drewN ?_ _ | refine blk_drew ?_ | refine blk_alloc ?_ _)); exact BK237.out) k_ hk))
       (case aO => exact (by (with_reducible repeat (first | apply Kd.S_alloc | apply Kd.S_drewN | apply Kd.S_drew)); exact Kd.S_mono HO_3.out (fun k_ hk => ⟨hk.1, fun e_ => hk.2 e_⟩)))
       (case aS => exact (below_size (by repeat (first | (with_reducible first | exact HB.out | apply below_alloc | apply pw_below_drewN | apply below_drew1 | refine below_set ?_ GE237.out) | exact HB.out))))
       (case aL => have := LMc6.out; omega)
       intro v242 w13 ho hb hg hat
       rw [← Ny241.out] at ho
       have n0_ := A0q24_ (blk_grown (g:=gb237) (o:=.cells #[.int .i64 ((rd_T49 l0 x8_1).f0), .slice A236_1 ((rd_T49 l0 x8_1).f1).length c236_1] 49 (0, 0)) (by (with_reducible repeat (first | refine blk_drewN ?_ _ | refine blk_drew ?_ | refine blk_alloc ?_ _)); exact BK237.out) hg (Kd.S_away HO_3.out (fun _ hk => hk.1)))
       have n1_ := A0q24_ (hb)
       have n2_ := A0q24_ (ho)
       clear BK237
       clear HB
       clear HO_3
       clear HO240
       have BK237 := n0_
       have HB := n1_
       have HO243 := n2_
       clear n0_ n1_ n2_
       clear ho hb hg hat
       refine hK.out _ _ ⟨(blk_cell BK237.out 0).trans rfl, (blk_cell BK237.out 1).trans rfl⟩ (fun hHeld => ?_)
       clear hK K
       refine norm_ (a' := ?_) ?_ ?_
       rotate_left
       ·show Act.put _ (some 20) _ = _
        simp only [Act.put, z1q24_, z2q24_, z3q24_, i64_w, i32_w]
        rfl
       refine pure_ (i:=9) (N:=some 3) (v:=?_) (a':=?_) mk10q24_ rfl rfl (any_of HT_.out (by kernel_rfl)) (fun _ _ _ h => h) (Or.inl ⟨by rfl, ?_⟩) ?_ ?_
       rotate_left
       ·intro w'
        go_simp
        with_reducible rfl
       rotate_left
       ·simp only [Act.put, z1q24_, z2q24_, z3q24_, i64_w, i32_w]
        rfl
       refine done_ (done_of HT_.out (by kernel_rfl)) ?_
       try go_wp2
       go_roundg k1
       case measure => have := HK1.out; omega
       case rel => exact ⟨(y241), (wrap64 (x8_1 + 1)), (by first | rfl | (simp; done) | (simp [*]; done)), H', ⟨by have := HK1.out; omega⟩, ⟨by (with_reducible repeat (first | apply Kd.S_alloc | apply Kd.S_drewN | apply Kd.S_drew)); exact Kd.S_mono HO243.out (fun _ hk => trivial)⟩, ⟨by repeat (first | (with_reducible first | exact HB.out | apply below_alloc | apply pw_below_drewN | apply below_drew1 | refine below_set ?_ GE237.out) | exact HB.out)⟩⟩
      ·rw [if_neg c6] at H
       exact absurd H (by simp)
     ·rw [if_neg c4] at H
      exact absurd H (by simp)
    ·rw [if_neg c3] at H
     exact absurd H (by simp)
   ·rw [if_neg c2] at H
    have c2b0 : decide (x8_1 < (l0.length : Int)) = false := decide_eq_false c2
    clear c2
    obtain rfl := Option.some.inj H
    go_wp2
    go_ret
    exact ⟨_, by first | rfl | (simp [errW_none, errW_some] <;> rfl) | (simp [*, errW_none, errW_some] <;> rfl), by (with_reducible repeat (first | apply Kd.S_alloc | apply Kd.S_drewN | apply Kd.S_drew)); exact HO_3.out, by repeat (first | (with_reducible first | exact HB.out | apply below_alloc | apply pw_below_drewN | apply below_drew1) | exact HB.out)⟩
end Go.Proofs.Ythdhkoeaadahaaa.P
