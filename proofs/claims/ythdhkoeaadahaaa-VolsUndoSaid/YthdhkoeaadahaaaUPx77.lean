-- PACKED by wip/kit/pack.py: what the law's proof uses of Px77 (printed words and texts of this seat)
import Derived.Test.YthdhkoeaadahaaaUPx0
import Derived.Test.YthdhkoeaadahaaaUPx23
import Derived.Test.YthdhkoeaadahaaaUPx37
import Derived.Test.YthdhkoeaadahaaaUEVAdd
import Derived.Test.YthdhkoeaadahaaaUEVDrop
import Derived.Test.YthdhkoeaadahaaaUEVResize
import Derived.Test.YthdhkoeaadahaaaUEVSame
import Derived.Test.YthdhkoeaadahaaaUGood
namespace Go.Proofs.Ythdhkoeaadahaaa.P
open Go.RowKit Go.Proofs.YthdhkoeaadahaaaW.PrintWords Go.Proofs.YthdhkoeaadahaaaW.PrintLast Go.Proofs.YthdhkoeaadahaaaW.PrintMore
attribute [local go_sem] max2_int min2_int max_two min_two max_three min_three max_four min_four
set_option linter.unusedVariables false
set_option linter.unusedSimpArgs false
mutual
def counterfoillaw07_VolsUndo.j0 : Nat → List (S49) → Int → Int → Option (Bool)
  | 0, _, _, _ => none
  | k + 1, x0, x1, x2 => counterfoillaw07_VolsUndo.l0 k x0 x1 x2 x0 (x0.length : Int) 0
def counterfoillaw07_VolsUndo.l0 : Nat → List (S49) → Int → Int → List (S49) → Int → Int → Option (Bool)
  | 0, _, _, _, _, _, _ => none
  | k + 1, x0, x1, x2, x52, x53, x54 => if x54 < x53 then (if 0 ≤ x54 then (if x54 < (x52.length : Int) then (if ((rd_T49 x52 x54).f0) = x1 then (counterfoillaw07_VolsUndo.j2 k x0 x1 x2 x52 x53 x54 (decide (x2 < (((rd_T49 x52 x54).f1).length : Int))) ((rd_T49 x52 x54).f0) ((rd_T49 x52 x54).f1)) else (counterfoillaw07_VolsUndo.j2 k x0 x1 x2 x52 x53 x54 true ((rd_T49 x52 x54).f0) ((rd_T49 x52 x54).f1))) else (none)) else (none)) else ((counterfoillaw07_awake.f).bind fun t606 => (some t606))
def counterfoillaw07_VolsUndo.j2 : Nat → List (S49) → Int → Int → List (S49) → Int → Int → Bool → Int → List ByteArray → Option (Bool)
  | 0, _, _, _, _, _, _, _, _, _ => none
  | k + 1, x0, x1, x2, x52, x53, x54, x68, x609000, x609001 => if x68 = true then (counterfoillaw07_VolsUndo.l0 k x0 x1 x2 x52 x53 (wrap64 (x54 + 1))) else ((vols_Resize.f x0 x1 x2).bind fun bt609 => (if bt609.2 = 0 then ((vols_Resize.f bt609.1 x1 (x609001.length : Int)).bind fun bt613 => (if bt613.2 = 0 then ((vols_Same.f bt613.1 x0).bind fun t617 => (if t617 = true then (counterfoillaw07_VolsUndo.l0 k x0 x1 x2 x52 x53 (wrap64 (x54 + 1))) else (some false))) else (some false))) else (counterfoillaw07_VolsUndo.l0 k x0 x1 x2 x52 x53 (wrap64 (x54 + 1)))))
end
def counterfoillaw07_VolsUndo.f (k : Nat) (l0 : List (S49)) (a1 : Int) (a2 : Int) : Option (Bool) := (counterfoilref07_Small.f k l0 ([] : List (S74))).bind fun t595 => (if t595 = true then ((vols_Add.f l0 a1 a2).bind fun bt597 => (if bt597.2 = 0 then ((vols_Drop.f bt597.1 a1).bind fun bt601 => (if bt601.2 = 0 then ((vols_Same.f bt601.1 l0).bind fun t605 => (if t605 = true then (if (bt597.1.length : Int) = (wrap64 ((l0.length : Int) + 1)) then (counterfoillaw07_VolsUndo.j0 k l0 a1 a2) else (some false)) else (some false))) else (some false))) else (counterfoillaw07_VolsUndo.j0 k l0 a1 a2))) else ((counterfoillaw07_awake.f).bind fun t596 => (some t596)))
set_option maxHeartbeats 8000000 in
set_option maxRecDepth 100000 in
theorem counterfoillaw07_VolsUndo.calls (k : Nat) (A0 : Option Addr) (c0 : Nat) (l0 : List (S49)) (a1 : Int) (a2 : Int) (r : Bool) (w : World) (hr0 : Kd.C k49 w A0 l0.length l0) (hc0 : l0.length ≤ c0) (h : counterfoillaw07_VolsUndo.f k l0 a1 a2 = some r) :
    Calls Try.prog 15 #[.slice A0 l0.length c0, .int .i64 a1, .int .i64 a2] w fun e w' => e = .returned (.bool r) ∧ Below w.heap.size w w' := by
  have hu49 := Try.underlying49
  have HR0 := Aside0.mk hr0
  have HC0 := Aside0.mk hc0
  clear hr0 hc0
  have HB := Aside0.mk (Below.refl w.heap.size w)
  have H : ((counterfoilref07_Small.f k l0 ([] : List (S74))).bind fun t595 => (if t595 = true then ((vols_Add.f l0 a1 a2).bind fun bt597 => (if bt597.2 = 0 then ((vols_Drop.f bt597.1 a1).bind fun bt601 => (if bt601.2 = 0 then ((vols_Same.f bt601.1 l0).bind fun t605 => (if t605 = true then (if (bt597.1.length : Int) = (wrap64 ((l0.length : Int) + 1)) then (counterfoillaw07_VolsUndo.j0 k l0 a1 a2) else (some false)) else (some false))) else (some false))) else (counterfoillaw07_VolsUndo.j0 k l0 a1 a2))) else ((counterfoillaw07_awake.f).bind fun t596 => (some t596)))) = some r := h
  clear h
  replace H := Option.bind_eq_some_iff.mp H
  obtain ⟨t595, A40, H⟩ := H
  replace H : (if t595 = true then ((vols_Add.f l0 a1 a2).bind fun bt597 => (if bt597.2 = 0 then ((vols_Drop.f bt597.1 a1).bind fun bt601 => (if bt601.2 = 0 then ((vols_Same.f bt601.1 l0).bind fun t605 => (if t605 = true then (if (bt597.1.length : Int) = (wrap64 ((l0.length : Int) + 1)) then (counterfoillaw07_VolsUndo.j0 k l0 a1 a2) else (some false)) else (some false))) else (some false))) else (counterfoillaw07_VolsUndo.j0 k l0 a1 a2))) else ((counterfoillaw07_awake.f).bind fun t596 => (some t596))) = some r := H
  have A4 := Aside0.mk A40
  clear A40
  by_cases c5 : t595 = true
  · subst c5
    have H1 : ((vols_Add.f l0 a1 a2).bind fun bt597 => (if bt597.2 = 0 then ((vols_Drop.f bt597.1 a1).bind fun bt601 => (if bt601.2 = 0 then ((vols_Same.f bt601.1 l0).bind fun t605 => (if t605 = true then (if (bt597.1.length : Int) = (wrap64 ((l0.length : Int) + 1)) then (counterfoillaw07_VolsUndo.j0 k l0 a1 a2) else (some false)) else (some false))) else (some false))) else (counterfoillaw07_VolsUndo.j0 k l0 a1 a2))) = some r := by rw [if_pos rfl] at H; exact H
    clear H
    have H := H1
    clear H1
    replace H := Option.bind_eq_some_iff.mp H
    obtain ⟨⟨t597, t598⟩, A60, H⟩ := H
    replace H : (if t598 = 0 then ((vols_Drop.f t597 a1).bind fun bt601 => (if bt601.2 = 0 then ((vols_Same.f bt601.1 l0).bind fun t605 => (if t605 = true then (if (t597.length : Int) = (wrap64 ((l0.length : Int) + 1)) then (counterfoillaw07_VolsUndo.j0 k l0 a1 a2) else (some false)) else (some false))) else (some false))) else (counterfoillaw07_VolsUndo.j0 k l0 a1 a2)) = some r := H
    have A6 := Aside0.mk A60
    clear A60
    have HC7 := Aside0.mk H
    clear H
    go_enter Try.func15, Try.ntmps15
    go_upto_if 29 with (first | ((with_reducible refine gate_callee (f := 37) rfl ?_); refine goesL_ (some 18) rfl rfl Try.func37 (by kernel_rfl) rfl #[.slice A0 l0.length c0, .slice none 0 0] rfl (by (try simp only [List.map_toArray, List.map_cons, List.map_nil]); first | done | rfl | (simp only [List.length_drop, List.length_take]; rfl)) ?_; (refine (counterfoilref07_Small.calls k _ _ l0 _ _ ([] : List (S74)) true _ ?side1 ?side2 ?side3 ?side4 A4.out).mono ?_); (case side1 => repeat (first | exact HR0.out | (with_reducible refine Kd.C_alloc ?_ _) | (with_reducible refine Kd.C_drewN ?_ _) | (with_reducible refine Kd.C_drew ?_))); (case side2 => exact HC0.out); (case side3 => exact Kd.C_nil _ _); (case side4 => exact Nat.le_refl _); rintro e w' ⟨rfl, ⟨nd, rfl⟩⟩; refine ⟨_, rfl, ?_⟩) | ((with_reducible refine gate_callee (f := 60) rfl ?_); refine goesL_ (some 25) rfl rfl Try.func60 (by kernel_rfl) rfl #[.slice A0 l0.length c0, .int .i64 a1, .int .i64 a2] rfl (by (try simp only [List.map_toArray, List.map_cons, List.map_nil]); first | done | rfl | (simp only [List.length_drop, List.length_take]; rfl)) ?_; (with_reducible refine (vols_Add.calls _ _ l0 a1 a2 t597 t598 _ ?side1 ?side2 A6.out).mono ?_); (case side1 => repeat (first | exact HR0.out | (with_reducible refine Kd.C_alloc ?_ _) | (with_reducible refine Kd.C_drewN ?_ _) | (with_reducible refine Kd.C_drew ?_))); (case side2 => exact HC0.out); rintro e w8 ⟨v599, rfl, ho0, hb⟩; refine ⟨_, rfl, ?_⟩; have n0_ := Aside0.mk (Kd.S_lower ho0 (below_size (by repeat (first | (with_reducible first | exact HB.out | apply below_alloc | apply pw_below_drewN | apply below_drew1) | exact HB.out)))); have n1_ := Aside0.mk (below_step (by repeat (first | (with_reducible first | exact HB.out | apply below_alloc | apply pw_below_drewN | apply below_drew1) | exact HB.out)) hb); clear HB; have HO600 := n0_; have HB := n1_; clear n0_ n1_; (try clear hb); (try clear hb2); (try clear hk); (try clear hi); (try clear ho0)))
    (try simp only [Act.put, List.setIfInBounds_toArray, List.set_cons_zero, List.set_cons_succ])
    go_cut [] (fun wc => ∃ (kq : Nat), Aside0 (counterfoillaw07_VolsUndo.j0 kq l0 a1 a2 = some r) ∧ Aside0 (kq ≤ k) ∧ Aside0 (Below w.heap.size w wc))
    case first =>
      have H := HC7.out
      clear HC7
      by_cases c9 : t598 = 0
      · rw [if_pos c9] at H
        have c9b0 : (t598 == 0) = true := beq_iff_eq.mpr c9
        have c9b1 : (t598 != 0) = false := bne_eq_false_iff_eq.mpr c9
        clear c9
        (first | rw [c9b0] | (simp only [i64_w, i32_w]; rw [c9b0]) | skip)
        replace H := Option.bind_eq_some_iff.mp H
        obtain ⟨⟨t601, t602⟩, A100, H⟩ := H
        replace H : (if t602 = 0 then ((vols_Same.f t601 l0).bind fun t605 => (if t605 = true then (if (t597.length : Int) = (wrap64 ((l0.length : Int) + 1)) then (counterfoillaw07_VolsUndo.j0 k l0 a1 a2) else (some false)) else (some false))) else (some false)) = some r := H
        have A10 := Aside0.mk A100
        clear A100
        by_cases c11 : t602 = 0
        · rw [if_pos c11] at H
          have c11b0 : (t602 == 0) = true := beq_iff_eq.mpr c11
          have c11b1 : (t602 != 0) = false := bne_eq_false_iff_eq.mpr c11
          clear c11
          replace H := Option.bind_eq_some_iff.mp H
          obtain ⟨t605, A120, H⟩ := H
          replace H : (if t605 = true then (if (t597.length : Int) = (wrap64 ((l0.length : Int) + 1)) then (counterfoillaw07_VolsUndo.j0 k l0 a1 a2) else (some false)) else (some false)) = some r := H
          have A12 := Aside0.mk A120
          clear A120
          by_cases c13 : t605 = true
          · subst c13
            have H1 : (if (t597.length : Int) = (wrap64 ((l0.length : Int) + 1)) then (counterfoillaw07_VolsUndo.j0 k l0 a1 a2) else (some false)) = some r := by rw [if_pos rfl] at H; exact H
            clear H
            have H := H1
            clear H1
            by_cases c14 : (t597.length : Int) = (wrap64 ((l0.length : Int) + 1))
            · rw [if_pos c14] at H
              have c14b0 : ((t597.length : Int) == (wrap64 ((l0.length : Int) + 1))) = true := beq_iff_eq.mpr c14
              have c14b1 : ((t597.length : Int) != (wrap64 ((l0.length : Int) + 1))) = false := bne_eq_false_iff_eq.mpr c14
              clear c14
              have H' := Aside0.mk H
              clear H
              obtain ⟨Ao15, co15, eo15⟩ := Kd.S_slice HO600.out
              subst eo15
              go_wp2_with (first | ((with_reducible refine gate_callee (f := 62) rfl ?_); refine goesL_ (some 33) rfl rfl Try.func62 (by kernel_rfl) rfl #[.slice Ao15 t597.length co15, .int .i64 a1] rfl (by (try simp only [List.map_toArray, List.map_cons, List.map_nil]); first | done | rfl | (simp only [List.length_drop, List.length_take]; rfl)) ?_; (with_reducible refine (vols_Drop.calls _ _ t597 a1 t601 t602 _ ?side1 ?side2 A10.out).mono ?_); (case side1 => repeat (first | exact (Kd.S_reads' HO600.out).2.2 | (with_reducible refine Kd.C_alloc ?_ _) | (with_reducible refine Kd.C_drewN ?_ _) | (with_reducible refine Kd.C_drew ?_))); (case side2 => exact (Kd.S_reads' HO600.out).2.1); rintro e w16 ⟨v603, rfl, ho0, hb⟩; refine ⟨_, rfl, ?_⟩; have n0_ := Aside0.mk (Kd.S_elder' (by (with_reducible repeat (first | apply Kd.S_alloc | apply Kd.S_drewN | apply Kd.S_drew)); exact HO600.out) (Kd.S_base ho0) hb); have n1_ := Aside0.mk (Kd.S_lower (Kd.S_new' ho0 (Kd.S_lt (by (with_reducible repeat (first | apply Kd.S_alloc | apply Kd.S_drewN | apply Kd.S_drew)); exact HO600.out))) (below_size (by repeat (first | (with_reducible first | exact HB.out | apply below_alloc | apply pw_below_drewN | apply below_drew1) | exact HB.out)))); have n2_ := Aside0.mk (below_step (by repeat (first | (with_reducible first | exact HB.out | apply below_alloc | apply pw_below_drewN | apply below_drew1) | exact HB.out)) hb); clear HO600; clear HB; have HO600 := n0_; have HO604 := n1_; have HB := n2_; clear n0_ n1_ n2_; (try clear hb); (try clear hb2); (try clear hk); (try clear hi); (try clear ho0); obtain ⟨Ao17, co17, eo17⟩ := Kd.S_slice HO604.out; subst eo17) | (go_at_call 51; (with_reducible refine (vols_Same.calls _ _ t601 _ _ l0 true _ ?side1 ?side2 ?side3 ?side4 A12.out).mono ?_); (case side1 => repeat (first | exact (Kd.S_reads' HO604.out).2.2 | (with_reducible refine Kd.C_alloc ?_ _) | (with_reducible refine Kd.C_drewN ?_ _) | (with_reducible refine Kd.C_drew ?_))); (case side2 => exact (Kd.S_reads' HO604.out).2.1); (case side3 => repeat (first | exact (Kd.C_below HR0.out HB.out) | (with_reducible refine Kd.C_alloc ?_ _) | (with_reducible refine Kd.C_drewN ?_ _) | (with_reducible refine Kd.C_drew ?_))); (case side4 => exact HC0.out); rintro e w18 ⟨rfl, hb⟩; have n0_ := Aside0.mk (Kd.S_below (by (with_reducible repeat (first | apply Kd.S_alloc | apply Kd.S_drewN | apply Kd.S_drew)); exact HO600.out) hb); have n1_ := Aside0.mk (Kd.S_below (by (with_reducible repeat (first | apply Kd.S_alloc | apply Kd.S_drewN | apply Kd.S_drew)); exact HO604.out) hb); have n2_ := Aside0.mk (below_step (by repeat (first | (with_reducible first | exact HB.out | apply below_alloc | apply pw_below_drewN | apply below_drew1) | exact HB.out)) hb); clear HO600; clear HO604; clear HB; have HO600 := n0_; have HO604 := n1_; have HB := n2_; clear n0_ n1_ n2_; (try clear hb); (try clear hb2); (try clear hk); (try clear hi)))
              go_meet
              case rel => exact ⟨_, H', ⟨by first | omega | exact Nat.le_refl _⟩, ⟨by repeat (first | (with_reducible first | exact HB.out | apply below_alloc | apply pw_below_drewN | apply below_drew1) | exact HB.out)⟩⟩
            · rw [if_neg c14] at H
              have c14b0 : ((t597.length : Int) == (wrap64 ((l0.length : Int) + 1))) = false := beq_eq_false_iff_ne.mpr c14
              have c14b1 : ((t597.length : Int) != (wrap64 ((l0.length : Int) + 1))) = true := bne_iff_ne.mpr c14
              obtain rfl := Option.some.inj H
              obtain ⟨Ao19, co19, eo19⟩ := Kd.S_slice HO600.out
              subst eo19
              go_wp2_with (first | ((with_reducible refine gate_callee (f := 62) rfl ?_); refine goesL_ (some 33) rfl rfl Try.func62 (by kernel_rfl) rfl #[.slice Ao19 t597.length co19, .int .i64 a1] rfl (by (try simp only [List.map_toArray, List.map_cons, List.map_nil]); first | done | rfl | (simp only [List.length_drop, List.length_take]; rfl)) ?_; (with_reducible refine (vols_Drop.calls _ _ t597 a1 t601 t602 _ ?side1 ?side2 A10.out).mono ?_); (case side1 => repeat (first | exact (Kd.S_reads' HO600.out).2.2 | (with_reducible refine Kd.C_alloc ?_ _) | (with_reducible refine Kd.C_drewN ?_ _) | (with_reducible refine Kd.C_drew ?_))); (case side2 => exact (Kd.S_reads' HO600.out).2.1); rintro e w20 ⟨v603, rfl, ho0, hb⟩; refine ⟨_, rfl, ?_⟩; have n0_ := Aside0.mk (Kd.S_elder' (by (with_reducible repeat (first | apply Kd.S_alloc | apply Kd.S_drewN | apply Kd.S_drew)); exact HO600.out) (Kd.S_base ho0) hb); have n1_ := Aside0.mk (Kd.S_lower (Kd.S_new' ho0 (Kd.S_lt (by (with_reducible repeat (first | apply Kd.S_alloc | apply Kd.S_drewN | apply Kd.S_drew)); exact HO600.out))) (below_size (by repeat (first | (with_reducible first | exact HB.out | apply below_alloc | apply pw_below_drewN | apply below_drew1) | exact HB.out)))); have n2_ := Aside0.mk (below_step (by repeat (first | (with_reducible first | exact HB.out | apply below_alloc | apply pw_below_drewN | apply below_drew1) | exact HB.out)) hb); clear HO600; clear HB; have HO600 := n0_; have HO604 := n1_; have HB := n2_; clear n0_ n1_ n2_; (try clear hb); (try clear hb2); (try clear hk); (try clear hi); (try clear ho0); obtain ⟨Ao21, co21, eo21⟩ := Kd.S_slice HO604.out; subst eo21) | (go_at_call 51; (with_reducible refine (vols_Same.calls _ _ t601 _ _ l0 true _ ?side1 ?side2 ?side3 ?side4 A12.out).mono ?_); (case side1 => repeat (first | exact (Kd.S_reads' HO604.out).2.2 | (with_reducible refine Kd.C_alloc ?_ _) | (with_reducible refine Kd.C_drewN ?_ _) | (with_reducible refine Kd.C_drew ?_))); (case side2 => exact (Kd.S_reads' HO604.out).2.1); (case side3 => repeat (first | exact (Kd.C_below HR0.out HB.out) | (with_reducible refine Kd.C_alloc ?_ _) | (with_reducible refine Kd.C_drewN ?_ _) | (with_reducible refine Kd.C_drew ?_))); (case side4 => exact HC0.out); rintro e w22 ⟨rfl, hb⟩; have n0_ := Aside0.mk (Kd.S_below (by (with_reducible repeat (first | apply Kd.S_alloc | apply Kd.S_drewN | apply Kd.S_drew)); exact HO600.out) hb); have n1_ := Aside0.mk (Kd.S_below (by (with_reducible repeat (first | apply Kd.S_alloc | apply Kd.S_drewN | apply Kd.S_drew)); exact HO604.out) hb); have n2_ := Aside0.mk (below_step (by repeat (first | (with_reducible first | exact HB.out | apply below_alloc | apply pw_below_drewN | apply below_drew1) | exact HB.out)) hb); clear HO600; clear HO604; clear HB; have HO600 := n0_; have HO604 := n1_; have HB := n2_; clear n0_ n1_ n2_; (try clear hb); (try clear hb2); (try clear hk); (try clear hi)))
              go_ret
              exact ⟨by first | rfl | (simp [errW_none, errW_some] <;> rfl) | (simp [*, errW_none, errW_some] <;> rfl), by repeat (first | (with_reducible first | exact HB.out | apply below_alloc | apply pw_below_drewN | apply below_drew1) | exact HB.out)⟩
          · replace c13 := Bool.eq_false_iff.mpr c13
            subst c13
            have H1 : (some false) = some r := by rw [if_neg (show ¬ (false = true) by decide)] at H; exact H
            clear H
            have H := H1
            clear H1
            obtain rfl := Option.some.inj H
            obtain ⟨Ao23, co23, eo23⟩ := Kd.S_slice HO600.out
            subst eo23
            go_wp2_with (first | ((with_reducible refine gate_callee (f := 62) rfl ?_); refine goesL_ (some 33) rfl rfl Try.func62 (by kernel_rfl) rfl #[.slice Ao23 t597.length co23, .int .i64 a1] rfl (by (try simp only [List.map_toArray, List.map_cons, List.map_nil]); first | done | rfl | (simp only [List.length_drop, List.length_take]; rfl)) ?_; (with_reducible refine (vols_Drop.calls _ _ t597 a1 t601 t602 _ ?side1 ?side2 A10.out).mono ?_); (case side1 => repeat (first | exact (Kd.S_reads' HO600.out).2.2 | (with_reducible refine Kd.C_alloc ?_ _) | (with_reducible refine Kd.C_drewN ?_ _) | (with_reducible refine Kd.C_drew ?_))); (case side2 => exact (Kd.S_reads' HO600.out).2.1); rintro e w24 ⟨v603, rfl, ho0, hb⟩; refine ⟨_, rfl, ?_⟩; have n0_ := Aside0.mk (Kd.S_elder' (by (with_reducible repeat (first | apply Kd.S_alloc | apply Kd.S_drewN | apply Kd.S_drew)); exact HO600.out) (Kd.S_base ho0) hb); have n1_ := Aside0.mk (Kd.S_lower (Kd.S_new' ho0 (Kd.S_lt (by (with_reducible repeat (first | apply Kd.S_alloc | apply Kd.S_drewN | apply Kd.S_drew)); exact HO600.out))) (below_size (by repeat (first | (with_reducible first | exact HB.out | apply below_alloc | apply pw_below_drewN | apply below_drew1) | exact HB.out)))); have n2_ := Aside0.mk (below_step (by repeat (first | (with_reducible first | exact HB.out | apply below_alloc | apply pw_below_drewN | apply below_drew1) | exact HB.out)) hb); clear HO600; clear HB; have HO600 := n0_; have HO604 := n1_; have HB := n2_; clear n0_ n1_ n2_; (try clear hb); (try clear hb2); (try clear hk); (try clear hi); (try clear ho0); obtain ⟨Ao25, co25, eo25⟩ := Kd.S_slice HO604.out; subst eo25) | (go_at_call 51; (with_reducible refine (vols_Same.calls _ _ t601 _ _ l0 false _ ?side1 ?side2 ?side3 ?side4 A12.out).mono ?_); (case side1 => repeat (first | exact (Kd.S_reads' HO604.out).2.2 | (with_reducible refine Kd.C_alloc ?_ _) | (with_reducible refine Kd.C_drewN ?_ _) | (with_reducible refine Kd.C_drew ?_))); (case side2 => exact (Kd.S_reads' HO604.out).2.1); (case side3 => repeat (first | exact (Kd.C_below HR0.out HB.out) | (with_reducible refine Kd.C_alloc ?_ _) | (with_reducible refine Kd.C_drewN ?_ _) | (with_reducible refine Kd.C_drew ?_))); (case side4 => exact HC0.out); rintro e w26 ⟨rfl, hb⟩; have n0_ := Aside0.mk (Kd.S_below (by (with_reducible repeat (first | apply Kd.S_alloc | apply Kd.S_drewN | apply Kd.S_drew)); exact HO600.out) hb); have n1_ := Aside0.mk (Kd.S_below (by (with_reducible repeat (first | apply Kd.S_alloc | apply Kd.S_drewN | apply Kd.S_drew)); exact HO604.out) hb); have n2_ := Aside0.mk (below_step (by repeat (first | (with_reducible first | exact HB.out | apply below_alloc | apply pw_below_drewN | apply below_drew1) | exact HB.out)) hb); clear HO600; clear HO604; clear HB; have HO600 := n0_; have HO604 := n1_; have HB := n2_; clear n0_ n1_ n2_; (try clear hb); (try clear hb2); (try clear hk); (try clear hi)))
            go_ret
            exact ⟨by first | rfl | (simp [errW_none, errW_some] <;> rfl) | (simp [*, errW_none, errW_some] <;> rfl), by repeat (first | (with_reducible first | exact HB.out | apply below_alloc | apply pw_below_drewN | apply below_drew1) | exact HB.out)⟩
        · rw [if_neg c11] at H
          have c11b0 : (t602 == 0) = false := beq_eq_false_iff_ne.mpr c11
          have c11b1 : (t602 != 0) = true := bne_iff_ne.mpr c11
          obtain rfl := Option.some.inj H
          obtain ⟨Ao27, co27, eo27⟩ := Kd.S_slice HO600.out
          subst eo27
          go_wp2_with (first | ((with_reducible refine gate_callee (f := 62) rfl ?_); refine goesL_ (some 33) rfl rfl Try.func62 (by kernel_rfl) rfl #[.slice Ao27 t597.length co27, .int .i64 a1] rfl (by (try simp only [List.map_toArray, List.map_cons, List.map_nil]); first | done | rfl | (simp only [List.length_drop, List.length_take]; rfl)) ?_; (with_reducible refine (vols_Drop.calls _ _ t597 a1 t601 t602 _ ?side1 ?side2 A10.out).mono ?_); (case side1 => repeat (first | exact (Kd.S_reads' HO600.out).2.2 | (with_reducible refine Kd.C_alloc ?_ _) | (with_reducible refine Kd.C_drewN ?_ _) | (with_reducible refine Kd.C_drew ?_))); (case side2 => exact (Kd.S_reads' HO600.out).2.1); rintro e w28 ⟨v603, rfl, ho0, hb⟩; refine ⟨_, rfl, ?_⟩; have n0_ := Aside0.mk (Kd.S_elder' (by (with_reducible repeat (first | apply Kd.S_alloc | apply Kd.S_drewN | apply Kd.S_drew)); exact HO600.out) (Kd.S_base ho0) hb); have n1_ := Aside0.mk (Kd.S_lower (Kd.S_new' ho0 (Kd.S_lt (by (with_reducible repeat (first | apply Kd.S_alloc | apply Kd.S_drewN | apply Kd.S_drew)); exact HO600.out))) (below_size (by repeat (first | (with_reducible first | exact HB.out | apply below_alloc | apply pw_below_drewN | apply below_drew1) | exact HB.out)))); have n2_ := Aside0.mk (below_step (by repeat (first | (with_reducible first | exact HB.out | apply below_alloc | apply pw_below_drewN | apply below_drew1) | exact HB.out)) hb); clear HO600; clear HB; have HO600 := n0_; have HO604 := n1_; have HB := n2_; clear n0_ n1_ n2_; (try clear hb); (try clear hb2); (try clear hk); (try clear hi); (try clear ho0)))
          go_ret
          exact ⟨by first | rfl | (simp [errW_none, errW_some] <;> rfl) | (simp [*, errW_none, errW_some] <;> rfl), by repeat (first | (with_reducible first | exact HB.out | apply below_alloc | apply pw_below_drewN | apply below_drew1) | exact HB.out)⟩
      · rw [if_neg c9] at H
        have c9b0 : (t598 == 0) = false := beq_eq_false_iff_ne.mpr c9
        have c9b1 : (t598 != 0) = true := bne_iff_ne.mpr c9
        (first | rw [c9b0] | (simp only [i64_w, i32_w]; rw [c9b0]) | skip)
        have H' := Aside0.mk H
        clear H
        go_wp2
        go_meet
        case rel => exact ⟨_, H', ⟨by first | omega | exact Nat.le_refl _⟩, ⟨by repeat (first | (with_reducible first | exact HB.out | apply below_alloc | apply pw_below_drewN | apply below_drew1) | exact HB.out)⟩⟩
    case rest =>
      clear HC7
      try clear c1
      try clear p2
      try clear c3
      try clear c5
      try clear c6
      try clear p6
      try clear c9
      try clear c9b0
      try clear c9b1
      try clear c11
      try clear c11b0
      try clear c11b1
      try clear c13
      try clear c14
      try clear c14b0
      try clear c14b1
      try clear c15
      obtain ⟨kq, HA, HJ6, HB⟩ := hcut
      cases kq with
      | zero => exact absurd HA.out (by simp [counterfoillaw07_VolsUndo.j0])
      | succ kj6 =>
        have H := HA.out
        clear HA
        simp only [counterfoillaw07_VolsUndo.j0] at H
        have H' := Aside0.mk H
        clear H
        go_wp2
        go_loopg [54] kj6 (fun kq v54 w' => ∃ (x54_2 : Int), v54 = .int .i64 x54_2 ∧ Aside0 (counterfoillaw07_VolsUndo.l0 kq l0 a1 a2 l0 (l0.length : Int) x54_2 = some r) ∧ Aside0 (kq ≤ kj6) ∧ Aside0 (Below w.heap.size w w'))
        case atStart => exact ⟨(0), (by first | rfl | (simp; done) | (simp [*]; done)), H', ⟨Nat.le_refl _⟩, ⟨by repeat (first | (with_reducible first | exact HB.out | apply below_alloc | apply pw_below_drewN | apply below_drew1) | exact HB.out)⟩⟩
        case round =>
          clear H'
          try clear c1
          try clear p2
          try clear c3
          try clear c5
          try clear c6
          try clear p6
          try clear c9
          try clear c9b0
          try clear c9b1
          try clear c11
          try clear c11b0
          try clear c11b1
          try clear c13
          try clear c14
          try clear c14b0
          try clear c14b1
          try clear c15
          try clear p2
          try clear p6
          obtain ⟨x54_2, rfl, HA, HK2, HB⟩ := hrel
          cases gk with
          | zero => exact absurd HA.out (by simp [counterfoillaw07_VolsUndo.l0])
          | succ k2 =>
            have H := HA.out
            clear HA
            simp only [counterfoillaw07_VolsUndo.l0] at H
            by_cases c29 : x54_2 < (l0.length : Int)
            · rw [if_pos c29] at H
              have c29b0 : decide (x54_2 < (l0.length : Int)) = true := decide_eq_true c29
              clear c29
              by_cases c30 : 0 ≤ x54_2
              · rw [if_pos c30] at H
                have c30b0 : decide (0 ≤ x54_2) = true := decide_eq_true c30
                clear c30
                by_cases c31 : x54_2 < (l0.length : Int)
                · rw [if_pos c31] at H
                  have c31b0 : decide (x54_2 < (l0.length : Int)) = true := decide_eq_true c31
                  clear c31
                  have HC32 := Aside0.mk H
                  clear H
                  have p607 : 0 ≤ (x54_2 : Int) := of_decide_eq_true (by first | (with_reducible assumption) | assumption)
                  have q607 : x54_2 < (l0.length : Int) := of_decide_eq_true (by first | (with_reducible assumption) | assumption)
                  obtain ⟨ad607, A607_1, c607_1, e607, hx607_0, hx607_1, hl607_1, hi607_1⟩ := at_T49 HR0.out x54_2 p607 q607
                  cases e607
                  replace hx607_0 := (HB.out.cell (World.block_lt_of_cell? w _ hx607_0)).trans hx607_0
                  replace hx607_1 := (HB.out.cell (World.block_lt_of_cell? w _ hx607_1)).trans hx607_1
                  have HR607_1 := Aside0.mk hi607_1
                  have HC607_1 := Aside0.mk hl607_1
                  clear hi607_1 hl607_1
                  replace p607 := eq_true p607
                  replace q607 := eq_true q607
                  go_upto_region 11 with (first | ((with_reducible refine gate_dst (N := 12) rfl ?_); (try (refine gate_guard (by rfl) ?_; dsimp only)); refine box_event ?hg (N := 12) ?hd (cs := #[.int .i64 0, .slice none 0 0]) (t := 49) ?hr ?_; (case hd => rfl); (case hg => rfl); (case hr => first | (go_simp; done) | (go_simp; rfl)); intro gb608 hg w33 hbox hb; have n0_ := Aside0.mk (below_step (by repeat (first | (with_reducible first | exact HB.out | apply below_alloc | apply pw_below_drewN | apply below_drew1) | exact HB.out)) hb); have n1_ := Aside0.mk (hbox); have n2_ := Aside0.mk ((by rw [hg]; exact (below_size (by repeat (first | (with_reducible first | exact HB.out | apply below_alloc | apply pw_below_drewN | apply below_drew1) | exact HB.out))) : w.heap.size ≤ gb608)); have n3_ := Aside0.mk ((by rw [hg]; exact (below_size (by repeat (first | (with_reducible first | exact HB.out | apply below_alloc | apply pw_below_drewN | apply below_drew1) | exact HB.out))) : w.heap.size ≤ gb608)); clear HB; have HB := n0_; have BK608 := n1_; have GW608 := n2_; have GE608 := n3_; clear n0_ n1_ n2_ n3_; clear hb hbox hg; have hcz34_0 : w33.cell? ⟨gb608, 0, none⟩ = some (.int .i64 0) := (blk_cell BK608.out 0).trans rfl; have hcz34_1 : w33.cell? ⟨gb608, 1, none⟩ = some (.slice none 0 0) := (blk_cell BK608.out 1).trans rfl; have hfz34_0 := blk_frozen BK608.out 0; have hfz34_1 := blk_frozen BK608.out 1))
                  (try simp only [Act.put, List.setIfInBounds_toArray, List.set_cons_zero, List.set_cons_succ])
                  go_cut [68] (fun v68 wc => ∃ (kq : Nat) (x68_31 : Bool), v68 = .bool x68_31 ∧ Aside0 (counterfoillaw07_VolsUndo.j2 kq l0 a1 a2 l0 (l0.length : Int) x54_2 x68_31 ((rd_T49 l0 x54_2).f0) ((rd_T49 l0 x54_2).f1) = some r) ∧ Aside0 (kq ≤ k2) ∧ Aside0 (wc.heap[gb608]? = some (.cells #[.int .i64 ((rd_T49 l0 x54_2).f0), (.slice A607_1 ((rd_T49 l0 x54_2).f1).length c607_1)] 49 (0, 0))) ∧ Aside0 (Below w.heap.size w wc))
                  case first =>
                    have H := HC32.out
                    clear HC32
                    by_cases c35 : ((rd_T49 l0 x54_2).f0) = a1
                    · rw [if_pos c35] at H
                      have c35b0 : (((rd_T49 l0 x54_2).f0) == a1) = true := beq_iff_eq.mpr c35
                      have c35b1 : (((rd_T49 l0 x54_2).f0) != a1) = false := bne_eq_false_iff_eq.mpr c35
                      clear c35
                      (first | rw [c35b0] | (simp only [i64_w, i32_w]; rw [c35b0]) | skip)
                      have H' := Aside0.mk H
                      clear H
                      have hcz36_0 : w33.cell? ⟨gb608, 0, none⟩ = some (.int .i64 0) := (blk_cell BK608.out 0).trans rfl
                      have hcz36_1 : w33.cell? ⟨gb608, 1, none⟩ = some (.slice none 0 0) := (blk_cell BK608.out 1).trans rfl
                      have hfz36_0 := blk_frozen BK608.out 0
                      have hfz36_1 := blk_frozen BK608.out 1
                      go_wp2
                      go_meet
                      case rel => exact ⟨_, (decide (a2 < (((rd_T49 l0 x54_2).f1).length : Int))), (by first | rfl | (simp; done) | (simp [*]; done)), H', ⟨by have := HJ6.out; have := HK2.out; first | omega | exact Nat.le_refl _⟩, ⟨by (with_reducible repeat (first | refine blk_drewN ?_ _ | refine blk_drew ?_ | refine blk_alloc ?_ _)); refine blk_put (cs := #[.int .i64 ((rd_T49 l0 x54_2).f0), .slice none 0 0]) ?_ 1 _ rfl; (with_reducible repeat (first | refine blk_drewN ?_ _ | refine blk_drew ?_ | refine blk_alloc ?_ _)); refine blk_put (cs := #[.int .i64 0, .slice none 0 0]) ?_ 0 _ rfl; (with_reducible repeat (first | refine blk_drewN ?_ _ | refine blk_drew ?_ | refine blk_alloc ?_ _)); exact BK608.out⟩, ⟨by repeat (first | (with_reducible first | exact HB.out | apply below_alloc | apply pw_below_drewN | apply below_drew1 | refine below_set ?_ GE608.out) | exact HB.out)⟩⟩
                    · rw [if_neg c35] at H
                      have c35b0 : (((rd_T49 l0 x54_2).f0) == a1) = false := beq_eq_false_iff_ne.mpr c35
                      have c35b1 : (((rd_T49 l0 x54_2).f0) != a1) = true := bne_iff_ne.mpr c35
                      (first | rw [c35b0] | (simp only [i64_w, i32_w]; rw [c35b0]) | skip)
                      have H' := Aside0.mk H
                      clear H
                      have hcz37_0 : w33.cell? ⟨gb608, 0, none⟩ = some (.int .i64 0) := (blk_cell BK608.out 0).trans rfl
                      have hcz37_1 : w33.cell? ⟨gb608, 1, none⟩ = some (.slice none 0 0) := (blk_cell BK608.out 1).trans rfl
                      have hfz37_0 := blk_frozen BK608.out 0
                      have hfz37_1 := blk_frozen BK608.out 1
                      go_wp2
                      go_meet
                      case rel => exact ⟨_, (true), (by first | rfl | (simp; done) | (simp [*]; done)), H', ⟨by have := HJ6.out; have := HK2.out; first | omega | exact Nat.le_refl _⟩, ⟨by (with_reducible repeat (first | refine blk_drewN ?_ _ | refine blk_drew ?_ | refine blk_alloc ?_ _)); refine blk_put (cs := #[.int .i64 ((rd_T49 l0 x54_2).f0), .slice none 0 0]) ?_ 1 _ rfl; (with_reducible repeat (first | refine blk_drewN ?_ _ | refine blk_drew ?_ | refine blk_alloc ?_ _)); refine blk_put (cs := #[.int .i64 0, .slice none 0 0]) ?_ 0 _ rfl; (with_reducible repeat (first | refine blk_drewN ?_ _ | refine blk_drew ?_ | refine blk_alloc ?_ _)); exact BK608.out⟩, ⟨by repeat (first | (with_reducible first | exact HB.out | apply below_alloc | apply pw_below_drewN | apply below_drew1 | refine below_set ?_ GE608.out) | exact HB.out)⟩⟩
                  case rest =>
                    clear HC32
                    try clear c1
                    try clear c2
                    try clear p2
                    try clear c3
                    try clear c5
                    try clear c6
                    try clear p6
                    try clear q6
                    try clear hx6
                    try clear c9
                    try clear c9b0
                    try clear c9b1
                    try clear c11
                    try clear c11b0
                    try clear c11b1
                    try clear c13
                    try clear c14
                    try clear c14b0
                    try clear c14b1
                    try clear c15
                    try clear c29
                    try clear c29b0
                    try clear c30
                    try clear c30b0
                    try clear c31
                    try clear c31b0
                    try clear c35
                    try clear c35b0
                    try clear c35b1
                    try clear c37
                    try clear hcz34_0
                    try clear hcz34_1
                    try clear hcz36_0
                    try clear hcz36_1
                    try clear hcz37_0
                    try clear hcz37_1
                    try clear hfz34_0
                    try clear hfz34_1
                    try clear hfz36_0
                    try clear hfz36_1
                    try clear hfz37_0
                    try clear hfz37_1
                    try clear hx607_0
                    try clear hx607_1
                    try clear p2
                    try clear p6
                    try clear p607
                    try clear q607
                    obtain ⟨kq, x68_31, rfl, HA, HJ31, BK608, HB⟩ := hcut
                    cases kq with
                    | zero => exact absurd HA.out (by simp [counterfoillaw07_VolsUndo.j2])
                    | succ kj31 =>
                      have H := HA.out
                      clear HA
                      simp only [counterfoillaw07_VolsUndo.j2] at H
                      by_cases c38 : x68_31 = true
                      · subst c38
                        have H1 : (counterfoillaw07_VolsUndo.l0 kj31 l0 a1 a2 l0 (l0.length : Int) (wrap64 (x54_2 + 1))) = some r := by rw [if_pos rfl] at H; exact H
                        clear H
                        have H := H1
                        clear H1
                        have H' := Aside0.mk H
                        clear H
                        go_wp2
                        go_roundg kj31
                        case measure => have := HJ6.out; have := HK2.out; have := HJ31.out; omega
                        case rel => exact ⟨(wrap64 (x54_2 + 1)), (by first | rfl | (simp; done) | (simp [*]; done)), H', ⟨by have := HJ6.out; have := HK2.out; have := HJ31.out; omega⟩, ⟨by repeat (first | (with_reducible first | exact HB.out | apply below_alloc | apply pw_below_drewN | apply below_drew1 | refine below_set ?_ GE608.out) | exact HB.out)⟩⟩
                      · replace c38 := Bool.eq_false_iff.mpr c38
                        subst c38
                        have H1 : ((vols_Resize.f l0 a1 a2).bind fun bt609 => (if bt609.2 = 0 then ((vols_Resize.f bt609.1 a1 (((rd_T49 l0 x54_2).f1).length : Int)).bind fun bt613 => (if bt613.2 = 0 then ((vols_Same.f bt613.1 l0).bind fun t617 => (if t617 = true then (counterfoillaw07_VolsUndo.l0 kj31 l0 a1 a2 l0 (l0.length : Int) (wrap64 (x54_2 + 1))) else (some false))) else (some false))) else (counterfoillaw07_VolsUndo.l0 kj31 l0 a1 a2 l0 (l0.length : Int) (wrap64 (x54_2 + 1))))) = some r := by rw [if_neg (show ¬ (false = true) by decide)] at H; exact H
                        clear H
                        have H := H1
                        clear H1
                        replace H := Option.bind_eq_some_iff.mp H
                        obtain ⟨⟨t609, t610⟩, A390, H⟩ := H
                        replace H : (if t610 = 0 then ((vols_Resize.f t609 a1 (((rd_T49 l0 x54_2).f1).length : Int)).bind fun bt613 => (if bt613.2 = 0 then ((vols_Same.f bt613.1 l0).bind fun t617 => (if t617 = true then (counterfoillaw07_VolsUndo.l0 kj31 l0 a1 a2 l0 (l0.length : Int) (wrap64 (x54_2 + 1))) else (some false))) else (some false))) else (counterfoillaw07_VolsUndo.l0 kj31 l0 a1 a2 l0 (l0.length : Int) (wrap64 (x54_2 + 1)))) = some r := H
                        have A39 := Aside0.mk A390
                        clear A390
                        by_cases c40 : t610 = 0
                        · rw [if_pos c40] at H
                          have c40b0 : (t610 == 0) = true := beq_iff_eq.mpr c40
                          have c40b1 : (t610 != 0) = false := bne_eq_false_iff_eq.mpr c40
                          clear c40
                          replace H := Option.bind_eq_some_iff.mp H
                          obtain ⟨⟨t613, t614⟩, A410, H⟩ := H
                          replace H : (if t614 = 0 then ((vols_Same.f t613 l0).bind fun t617 => (if t617 = true then (counterfoillaw07_VolsUndo.l0 kj31 l0 a1 a2 l0 (l0.length : Int) (wrap64 (x54_2 + 1))) else (some false))) else (some false)) = some r := H
                          have A41 := Aside0.mk A410
                          clear A410
                          by_cases c42 : t614 = 0
                          · rw [if_pos c42] at H
                            have c42b0 : (t614 == 0) = true := beq_iff_eq.mpr c42
                            have c42b1 : (t614 != 0) = false := bne_eq_false_iff_eq.mpr c42
                            clear c42
                            replace H := Option.bind_eq_some_iff.mp H
                            obtain ⟨t617, A430, H⟩ := H
                            replace H : (if t617 = true then (counterfoillaw07_VolsUndo.l0 kj31 l0 a1 a2 l0 (l0.length : Int) (wrap64 (x54_2 + 1))) else (some false)) = some r := H
                            have A43 := Aside0.mk A430
                            clear A430
                            by_cases c44 : t617 = true
                            · subst c44
                              have H1 : (counterfoillaw07_VolsUndo.l0 kj31 l0 a1 a2 l0 (l0.length : Int) (wrap64 (x54_2 + 1))) = some r := by rw [if_pos rfl] at H; exact H
                              clear H
                              have H := H1
                              clear H1
                              have H' := Aside0.mk H
                              clear H
                              go_wp2_with (first | ((with_reducible refine gate_callee (f := 64) rfl ?_); refine goesL_ (some 73) rfl rfl Try.func64 (by kernel_rfl) rfl #[.slice (some ad607) l0.length c0, .int .i64 a1, .int .i64 a2] rfl (by (try simp only [List.map_toArray, List.map_cons, List.map_nil]); first | done | rfl | (simp only [List.length_drop, List.length_take]; rfl)) ?_; (with_reducible refine (vols_Resize.calls _ _ l0 a1 a2 t609 t610 _ ?side1 ?side2 A39.out).mono ?_); (case side1 => repeat (first | exact (Kd.C_below HR0.out HB.out) | (with_reducible refine Kd.C_alloc ?_ _) | (with_reducible refine Kd.C_drewN ?_ _) | (with_reducible refine Kd.C_drew ?_))); (case side2 => exact HC0.out); rintro e w45 ⟨v611, rfl, ho0, hb⟩; refine ⟨_, rfl, ?_⟩; have n0_ := Aside0.mk (Kd.S_lower (Kd.S_newB ho0 (g := gb608) (o := .cells #[.int .i64 ((rd_T49 l0 x54_2).f0), .slice A607_1 ((rd_T49 l0 x54_2).f1).length c607_1] 49 (0, 0)) (by (with_reducible repeat (first | refine blk_drewN ?_ _ | refine blk_drew ?_ | refine blk_alloc ?_ _)); exact BK608.out)) (below_size (by repeat (first | (with_reducible first | exact HB.out | apply below_alloc | apply pw_below_drewN | apply below_drew1 | refine below_set ?_ GE608.out) | exact HB.out)))); have n1_ := Aside0.mk (blk_below (g := gb608) (o := .cells #[.int .i64 ((rd_T49 l0 x54_2).f0), .slice A607_1 ((rd_T49 l0 x54_2).f1).length c607_1] 49 (0, 0)) (by (with_reducible repeat (first | refine blk_drewN ?_ _ | refine blk_drew ?_ | refine blk_alloc ?_ _)); exact BK608.out) hb); have n2_ := Aside0.mk (below_step (by repeat (first | (with_reducible first | exact HB.out | apply below_alloc | apply pw_below_drewN | apply below_drew1 | refine below_set ?_ GE608.out) | exact HB.out)) hb); clear BK608; clear HB; have HO612 := n0_; have BK608 := n1_; have HB := n2_; clear n0_ n1_ n2_; (try clear hb); (try clear hb2); (try clear hk); (try clear hi); (try clear ho0); have hcz46_0 : w45.cell? ⟨gb608, 0, none⟩ = some (.int .i64 ((rd_T49 l0 x54_2).f0)) := (blk_cell BK608.out 0).trans rfl; have hcz46_1 : w45.cell? ⟨gb608, 1, none⟩ = some (.slice A607_1 ((rd_T49 l0 x54_2).f1).length c607_1) := (blk_cell BK608.out 1).trans rfl; have hfz46_0 := blk_frozen BK608.out 0; have hfz46_1 := blk_frozen BK608.out 1; obtain ⟨Ao47, co47, eo47⟩ := Kd.S_slice HO612.out; subst eo47) | ((with_reducible refine gate_callee (f := 64) rfl ?_); refine goesL_ (some 84) rfl rfl Try.func64 (by kernel_rfl) rfl #[.slice Ao47 t609.length co47, .int .i64 a1, .int .i64 (((rd_T49 l0 x54_2).f1).length : Int)] rfl (by (try simp only [List.map_toArray, List.map_cons, List.map_nil]); first | done | rfl | (simp only [List.length_drop, List.length_take]; rfl)) ?_; (with_reducible refine (vols_Resize.calls _ _ t609 a1 (((rd_T49 l0 x54_2).f1).length : Int) t613 t614 _ ?side1 ?side2 A41.out).mono ?_); (case side1 => repeat (first | exact (Kd.S_reads' HO612.out).2.2 | (with_reducible refine Kd.C_alloc ?_ _) | (with_reducible refine Kd.C_drewN ?_ _) | (with_reducible refine Kd.C_drew ?_))); (case side2 => exact (Kd.S_reads' HO612.out).2.1); rintro e w48 ⟨v615, rfl, ho0, hb⟩; refine ⟨_, rfl, ?_⟩; have n0_ := Aside0.mk (Kd.S_elder' (by (with_reducible repeat (first | apply Kd.S_alloc | apply Kd.S_drewN | apply Kd.S_drew)); exact HO612.out) (Kd.S_base ho0) hb); have n1_ := Aside0.mk (Kd.S_lower (Kd.S_newB (Kd.S_new' ho0 (Kd.S_lt (by (with_reducible repeat (first | apply Kd.S_alloc | apply Kd.S_drewN | apply Kd.S_drew)); exact HO612.out))) (g := gb608) (o := .cells #[.int .i64 ((rd_T49 l0 x54_2).f0), .slice A607_1 ((rd_T49 l0 x54_2).f1).length c607_1] 49 (0, 0)) (by (with_reducible repeat (first | refine blk_drewN ?_ _ | refine blk_drew ?_ | refine blk_alloc ?_ _)); exact BK608.out)) (below_size (by repeat (first | (with_reducible first | exact HB.out | apply below_alloc | apply pw_below_drewN | apply below_drew1 | refine below_set ?_ GE608.out) | exact HB.out)))); have n2_ := Aside0.mk (blk_below (g := gb608) (o := .cells #[.int .i64 ((rd_T49 l0 x54_2).f0), .slice A607_1 ((rd_T49 l0 x54_2).f1).length c607_1] 49 (0, 0)) (by (with_reducible repeat (first | refine blk_drewN ?_ _ | refine blk_drew ?_ | refine blk_alloc ?_ _)); exact BK608.out) hb); have n3_ := Aside0.mk (below_step (by repeat (first | (with_reducible first | exact HB.out | apply below_alloc | apply pw_below_drewN | apply below_drew1 | refine below_set ?_ GE608.out) | exact HB.out)) hb); clear HO612; clear BK608; clear HB; have HO612 := n0_; have HO616 := n1_; have BK608 := n2_; have HB := n3_; clear n0_ n1_ n2_ n3_; (try clear hb); (try clear hb2); (try clear hk); (try clear hi); (try clear ho0); obtain ⟨Ao49, co49, eo49⟩ := Kd.S_slice HO616.out; subst eo49) | (go_at_call 51; (with_reducible refine (vols_Same.calls _ _ t613 _ _ l0 true _ ?side1 ?side2 ?side3 ?side4 A43.out).mono ?_); (case side1 => repeat (first | exact (Kd.S_reads' HO616.out).2.2 | (with_reducible refine Kd.C_alloc ?_ _) | (with_reducible refine Kd.C_drewN ?_ _) | (with_reducible refine Kd.C_drew ?_))); (case side2 => exact (Kd.S_reads' HO616.out).2.1); (case side3 => repeat (first | exact (Kd.C_below HR0.out HB.out) | (with_reducible refine Kd.C_alloc ?_ _) | (with_reducible refine Kd.C_drewN ?_ _) | (with_reducible refine Kd.C_drew ?_))); (case side4 => exact HC0.out); rintro e w50 ⟨rfl, hb⟩; have n0_ := Aside0.mk (Kd.S_below (by (with_reducible repeat (first | apply Kd.S_alloc | apply Kd.S_drewN | apply Kd.S_drew)); exact HO612.out) hb); have n1_ := Aside0.mk (Kd.S_below (by (with_reducible repeat (first | apply Kd.S_alloc | apply Kd.S_drewN | apply Kd.S_drew)); exact HO616.out) hb); have n2_ := Aside0.mk (blk_below (g := gb608) (o := .cells #[.int .i64 ((rd_T49 l0 x54_2).f0), .slice A607_1 ((rd_T49 l0 x54_2).f1).length c607_1] 49 (0, 0)) (by (with_reducible repeat (first | refine blk_drewN ?_ _ | refine blk_drew ?_ | refine blk_alloc ?_ _)); exact BK608.out) hb); have n3_ := Aside0.mk (below_step (by repeat (first | (with_reducible first | exact HB.out | apply below_alloc | apply pw_below_drewN | apply below_drew1 | refine below_set ?_ GE608.out) | exact HB.out)) hb); clear HO612; clear HO616; clear BK608; clear HB; have HO612 := n0_; have HO616 := n1_; have BK608 := n2_; have HB := n3_; clear n0_ n1_ n2_ n3_; (try clear hb); (try clear hb2); (try clear hk); (try clear hi)))
                              go_roundg kj31
                              case measure => have := HJ6.out; have := HK2.out; have := HJ31.out; omega
                              case rel => exact ⟨(wrap64 (x54_2 + 1)), (by first | rfl | (simp; done) | (simp [*]; done)), H', ⟨by have := HJ6.out; have := HK2.out; have := HJ31.out; omega⟩, ⟨by repeat (first | (with_reducible first | exact HB.out | apply below_alloc | apply pw_below_drewN | apply below_drew1 | refine below_set ?_ GE608.out) | exact HB.out)⟩⟩
                            · replace c44 := Bool.eq_false_iff.mpr c44
                              subst c44
                              have H1 : (some false) = some r := by rw [if_neg (show ¬ (false = true) by decide)] at H; exact H
                              clear H
                              have H := H1
                              clear H1
                              obtain rfl := Option.some.inj H
                              go_wp2_with (first | ((with_reducible refine gate_callee (f := 64) rfl ?_); refine goesL_ (some 73) rfl rfl Try.func64 (by kernel_rfl) rfl #[.slice (some ad607) l0.length c0, .int .i64 a1, .int .i64 a2] rfl (by (try simp only [List.map_toArray, List.map_cons, List.map_nil]); first | done | rfl | (simp only [List.length_drop, List.length_take]; rfl)) ?_; (with_reducible refine (vols_Resize.calls _ _ l0 a1 a2 t609 t610 _ ?side1 ?side2 A39.out).mono ?_); (case side1 => repeat (first | exact (Kd.C_below HR0.out HB.out) | (with_reducible refine Kd.C_alloc ?_ _) | (with_reducible refine Kd.C_drewN ?_ _) | (with_reducible refine Kd.C_drew ?_))); (case side2 => exact HC0.out); rintro e w51 ⟨v611, rfl, ho0, hb⟩; refine ⟨_, rfl, ?_⟩; have n0_ := Aside0.mk (Kd.S_lower (Kd.S_newB ho0 (g := gb608) (o := .cells #[.int .i64 ((rd_T49 l0 x54_2).f0), .slice A607_1 ((rd_T49 l0 x54_2).f1).length c607_1] 49 (0, 0)) (by (with_reducible repeat (first | refine blk_drewN ?_ _ | refine blk_drew ?_ | refine blk_alloc ?_ _)); exact BK608.out)) (below_size (by repeat (first | (with_reducible first | exact HB.out | apply below_alloc | apply pw_below_drewN | apply below_drew1 | refine below_set ?_ GE608.out) | exact HB.out)))); have n1_ := Aside0.mk (blk_below (g := gb608) (o := .cells #[.int .i64 ((rd_T49 l0 x54_2).f0), .slice A607_1 ((rd_T49 l0 x54_2).f1).length c607_1] 49 (0, 0)) (by (with_reducible repeat (first | refine blk_drewN ?_ _ | refine blk_drew ?_ | refine blk_alloc ?_ _)); exact BK608.out) hb); have n2_ := Aside0.mk (below_step (by repeat (first | (with_reducible first | exact HB.out | apply below_alloc | apply pw_below_drewN | apply below_drew1 | refine below_set ?_ GE608.out) | exact HB.out)) hb); clear BK608; clear HB; have HO612 := n0_; have BK608 := n1_; have HB := n2_; clear n0_ n1_ n2_; (try clear hb); (try clear hb2); (try clear hk); (try clear hi); (try clear ho0); have hcz52_0 : w51.cell? ⟨gb608, 0, none⟩ = some (.int .i64 ((rd_T49 l0 x54_2).f0)) := (blk_cell BK608.out 0).trans rfl; have hcz52_1 : w51.cell? ⟨gb608, 1, none⟩ = some (.slice A607_1 ((rd_T49 l0 x54_2).f1).length c607_1) := (blk_cell BK608.out 1).trans rfl; have hfz52_0 := blk_frozen BK608.out 0; have hfz52_1 := blk_frozen BK608.out 1; obtain ⟨Ao53, co53, eo53⟩ := Kd.S_slice HO612.out; subst eo53) | ((with_reducible refine gate_callee (f := 64) rfl ?_); refine goesL_ (some 84) rfl rfl Try.func64 (by kernel_rfl) rfl #[.slice Ao53 t609.length co53, .int .i64 a1, .int .i64 (((rd_T49 l0 x54_2).f1).length : Int)] rfl (by (try simp only [List.map_toArray, List.map_cons, List.map_nil]); first | done | rfl | (simp only [List.length_drop, List.length_take]; rfl)) ?_; (with_reducible refine (vols_Resize.calls _ _ t609 a1 (((rd_T49 l0 x54_2).f1).length : Int) t613 t614 _ ?side1 ?side2 A41.out).mono ?_); (case side1 => repeat (first | exact (Kd.S_reads' HO612.out).2.2 | (with_reducible refine Kd.C_alloc ?_ _) | (with_reducible refine Kd.C_drewN ?_ _) | (with_reducible refine Kd.C_drew ?_))); (case side2 => exact (Kd.S_reads' HO612.out).2.1); rintro e w54 ⟨v615, rfl, ho0, hb⟩; refine ⟨_, rfl, ?_⟩; have n0_ := Aside0.mk (Kd.S_elder' (by (with_reducible repeat (first | apply Kd.S_alloc | apply Kd.S_drewN | apply Kd.S_drew)); exact HO612.out) (Kd.S_base ho0) hb); have n1_ := Aside0.mk (Kd.S_lower (Kd.S_newB (Kd.S_new' ho0 (Kd.S_lt (by (with_reducible repeat (first | apply Kd.S_alloc | apply Kd.S_drewN | apply Kd.S_drew)); exact HO612.out))) (g := gb608) (o := .cells #[.int .i64 ((rd_T49 l0 x54_2).f0), .slice A607_1 ((rd_T49 l0 x54_2).f1).length c607_1] 49 (0, 0)) (by (with_reducible repeat (first | refine blk_drewN ?_ _ | refine blk_drew ?_ | refine blk_alloc ?_ _)); exact BK608.out)) (below_size (by repeat (first | (with_reducible first | exact HB.out | apply below_alloc | apply pw_below_drewN | apply below_drew1 | refine below_set ?_ GE608.out) | exact HB.out)))); have n2_ := Aside0.mk (blk_below (g := gb608) (o := .cells #[.int .i64 ((rd_T49 l0 x54_2).f0), .slice A607_1 ((rd_T49 l0 x54_2).f1).length c607_1] 49 (0, 0)) (by (with_reducible repeat (first | refine blk_drewN ?_ _ | refine blk_drew ?_ | refine blk_alloc ?_ _)); exact BK608.out) hb); have n3_ := Aside0.mk (below_step (by repeat (first | (with_reducible first | exact HB.out | apply below_alloc | apply pw_below_drewN | apply below_drew1 | refine below_set ?_ GE608.out) | exact HB.out)) hb); clear HO612; clear BK608; clear HB; have HO612 := n0_; have HO616 := n1_; have BK608 := n2_; have HB := n3_; clear n0_ n1_ n2_ n3_; (try clear hb); (try clear hb2); (try clear hk); (try clear hi); (try clear ho0); obtain ⟨Ao55, co55, eo55⟩ := Kd.S_slice HO616.out; subst eo55) | (go_at_call 51; (with_reducible refine (vols_Same.calls _ _ t613 _ _ l0 false _ ?side1 ?side2 ?side3 ?side4 A43.out).mono ?_); (case side1 => repeat (first | exact (Kd.S_reads' HO616.out).2.2 | (with_reducible refine Kd.C_alloc ?_ _) | (with_reducible refine Kd.C_drewN ?_ _) | (with_reducible refine Kd.C_drew ?_))); (case side2 => exact (Kd.S_reads' HO616.out).2.1); (case side3 => repeat (first | exact (Kd.C_below HR0.out HB.out) | (with_reducible refine Kd.C_alloc ?_ _) | (with_reducible refine Kd.C_drewN ?_ _) | (with_reducible refine Kd.C_drew ?_))); (case side4 => exact HC0.out); rintro e w56 ⟨rfl, hb⟩; have n0_ := Aside0.mk (Kd.S_below (by (with_reducible repeat (first | apply Kd.S_alloc | apply Kd.S_drewN | apply Kd.S_drew)); exact HO612.out) hb); have n1_ := Aside0.mk (Kd.S_below (by (with_reducible repeat (first | apply Kd.S_alloc | apply Kd.S_drewN | apply Kd.S_drew)); exact HO616.out) hb); have n2_ := Aside0.mk (blk_below (g := gb608) (o := .cells #[.int .i64 ((rd_T49 l0 x54_2).f0), .slice A607_1 ((rd_T49 l0 x54_2).f1).length c607_1] 49 (0, 0)) (by (with_reducible repeat (first | refine blk_drewN ?_ _ | refine blk_drew ?_ | refine blk_alloc ?_ _)); exact BK608.out) hb); have n3_ := Aside0.mk (below_step (by repeat (first | (with_reducible first | exact HB.out | apply below_alloc | apply pw_below_drewN | apply below_drew1 | refine below_set ?_ GE608.out) | exact HB.out)) hb); clear HO612; clear HO616; clear BK608; clear HB; have HO612 := n0_; have HO616 := n1_; have BK608 := n2_; have HB := n3_; clear n0_ n1_ n2_ n3_; (try clear hb); (try clear hb2); (try clear hk); (try clear hi)))
                              go_ret
                              exact ⟨by first | rfl | (simp [errW_none, errW_some] <;> rfl) | (simp [*, errW_none, errW_some] <;> rfl), by repeat (first | (with_reducible first | exact HB.out | apply below_alloc | apply pw_below_drewN | apply below_drew1 | refine below_set ?_ GE608.out) | exact HB.out)⟩
                          · rw [if_neg c42] at H
                            have c42b0 : (t614 == 0) = false := beq_eq_false_iff_ne.mpr c42
                            have c42b1 : (t614 != 0) = true := bne_iff_ne.mpr c42
                            obtain rfl := Option.some.inj H
                            go_wp2_with (first | ((with_reducible refine gate_callee (f := 64) rfl ?_); refine goesL_ (some 73) rfl rfl Try.func64 (by kernel_rfl) rfl #[.slice (some ad607) l0.length c0, .int .i64 a1, .int .i64 a2] rfl (by (try simp only [List.map_toArray, List.map_cons, List.map_nil]); first | done | rfl | (simp only [List.length_drop, List.length_take]; rfl)) ?_; (with_reducible refine (vols_Resize.calls _ _ l0 a1 a2 t609 t610 _ ?side1 ?side2 A39.out).mono ?_); (case side1 => repeat (first | exact (Kd.C_below HR0.out HB.out) | (with_reducible refine Kd.C_alloc ?_ _) | (with_reducible refine Kd.C_drewN ?_ _) | (with_reducible refine Kd.C_drew ?_))); (case side2 => exact HC0.out); rintro e w57 ⟨v611, rfl, ho0, hb⟩; refine ⟨_, rfl, ?_⟩; have n0_ := Aside0.mk (Kd.S_lower (Kd.S_newB ho0 (g := gb608) (o := .cells #[.int .i64 ((rd_T49 l0 x54_2).f0), .slice A607_1 ((rd_T49 l0 x54_2).f1).length c607_1] 49 (0, 0)) (by (with_reducible repeat (first | refine blk_drewN ?_ _ | refine blk_drew ?_ | refine blk_alloc ?_ _)); exact BK608.out)) (below_size (by repeat (first | (with_reducible first | exact HB.out | apply below_alloc | apply pw_below_drewN | apply below_drew1 | refine below_set ?_ GE608.out) | exact HB.out)))); have n1_ := Aside0.mk (blk_below (g := gb608) (o := .cells #[.int .i64 ((rd_T49 l0 x54_2).f0), .slice A607_1 ((rd_T49 l0 x54_2).f1).length c607_1] 49 (0, 0)) (by (with_reducible repeat (first | refine blk_drewN ?_ _ | refine blk_drew ?_ | refine blk_alloc ?_ _)); exact BK608.out) hb); have n2_ := Aside0.mk (below_step (by repeat (first | (with_reducible first | exact HB.out | apply below_alloc | apply pw_below_drewN | apply below_drew1 | refine below_set ?_ GE608.out) | exact HB.out)) hb); clear BK608; clear HB; have HO612 := n0_; have BK608 := n1_; have HB := n2_; clear n0_ n1_ n2_; (try clear hb); (try clear hb2); (try clear hk); (try clear hi); (try clear ho0); have hcz58_0 : w57.cell? ⟨gb608, 0, none⟩ = some (.int .i64 ((rd_T49 l0 x54_2).f0)) := (blk_cell BK608.out 0).trans rfl; have hcz58_1 : w57.cell? ⟨gb608, 1, none⟩ = some (.slice A607_1 ((rd_T49 l0 x54_2).f1).length c607_1) := (blk_cell BK608.out 1).trans rfl; have hfz58_0 := blk_frozen BK608.out 0; have hfz58_1 := blk_frozen BK608.out 1; obtain ⟨Ao59, co59, eo59⟩ := Kd.S_slice HO612.out; subst eo59) | ((with_reducible refine gate_callee (f := 64) rfl ?_); refine goesL_ (some 84) rfl rfl Try.func64 (by kernel_rfl) rfl #[.slice Ao59 t609.length co59, .int .i64 a1, .int .i64 (((rd_T49 l0 x54_2).f1).length : Int)] rfl (by (try simp only [List.map_toArray, List.map_cons, List.map_nil]); first | done | rfl | (simp only [List.length_drop, List.length_take]; rfl)) ?_; (with_reducible refine (vols_Resize.calls _ _ t609 a1 (((rd_T49 l0 x54_2).f1).length : Int) t613 t614 _ ?side1 ?side2 A41.out).mono ?_); (case side1 => repeat (first | exact (Kd.S_reads' HO612.out).2.2 | (with_reducible refine Kd.C_alloc ?_ _) | (with_reducible refine Kd.C_drewN ?_ _) | (with_reducible refine Kd.C_drew ?_))); (case side2 => exact (Kd.S_reads' HO612.out).2.1); rintro e w60 ⟨v615, rfl, ho0, hb⟩; refine ⟨_, rfl, ?_⟩; have n0_ := Aside0.mk (Kd.S_elder' (by (with_reducible repeat (first | apply Kd.S_alloc | apply Kd.S_drewN | apply Kd.S_drew)); exact HO612.out) (Kd.S_base ho0) hb); have n1_ := Aside0.mk (Kd.S_lower (Kd.S_newB (Kd.S_new' ho0 (Kd.S_lt (by (with_reducible repeat (first | apply Kd.S_alloc | apply Kd.S_drewN | apply Kd.S_drew)); exact HO612.out))) (g := gb608) (o := .cells #[.int .i64 ((rd_T49 l0 x54_2).f0), .slice A607_1 ((rd_T49 l0 x54_2).f1).length c607_1] 49 (0, 0)) (by (with_reducible repeat (first | refine blk_drewN ?_ _ | refine blk_drew ?_ | refine blk_alloc ?_ _)); exact BK608.out)) (below_size (by repeat (first | (with_reducible first | exact HB.out | apply below_alloc | apply pw_below_drewN | apply below_drew1 | refine below_set ?_ GE608.out) | exact HB.out)))); have n2_ := Aside0.mk (blk_below (g := gb608) (o := .cells #[.int .i64 ((rd_T49 l0 x54_2).f0), .slice A607_1 ((rd_T49 l0 x54_2).f1).length c607_1] 49 (0, 0)) (by (with_reducible repeat (first | refine blk_drewN ?_ _ | refine blk_drew ?_ | refine blk_alloc ?_ _)); exact BK608.out) hb); have n3_ := Aside0.mk (below_step (by repeat (first | (with_reducible first | exact HB.out | apply below_alloc | apply pw_below_drewN | apply below_drew1 | refine below_set ?_ GE608.out) | exact HB.out)) hb); clear HO612; clear BK608; clear HB; have HO612 := n0_; have HO616 := n1_; have BK608 := n2_; have HB := n3_; clear n0_ n1_ n2_ n3_; (try clear hb); (try clear hb2); (try clear hk); (try clear hi); (try clear ho0)))
                            go_ret
                            exact ⟨by first | rfl | (simp [errW_none, errW_some] <;> rfl) | (simp [*, errW_none, errW_some] <;> rfl), by repeat (first | (with_reducible first | exact HB.out | apply below_alloc | apply pw_below_drewN | apply below_drew1 | refine below_set ?_ GE608.out) | exact HB.out)⟩
                        · rw [if_neg c40] at H
                          have c40b0 : (t610 == 0) = false := beq_eq_false_iff_ne.mpr c40
                          have c40b1 : (t610 != 0) = true := bne_iff_ne.mpr c40
                          have H' := Aside0.mk H
                          clear H
                          go_wp2_with (first | ((with_reducible refine gate_callee (f := 64) rfl ?_); refine goesL_ (some 73) rfl rfl Try.func64 (by kernel_rfl) rfl #[.slice (some ad607) l0.length c0, .int .i64 a1, .int .i64 a2] rfl (by (try simp only [List.map_toArray, List.map_cons, List.map_nil]); first | done | rfl | (simp only [List.length_drop, List.length_take]; rfl)) ?_; (with_reducible refine (vols_Resize.calls _ _ l0 a1 a2 t609 t610 _ ?side1 ?side2 A39.out).mono ?_); (case side1 => repeat (first | exact (Kd.C_below HR0.out HB.out) | (with_reducible refine Kd.C_alloc ?_ _) | (with_reducible refine Kd.C_drewN ?_ _) | (with_reducible refine Kd.C_drew ?_))); (case side2 => exact HC0.out); rintro e w61 ⟨v611, rfl, ho0, hb⟩; refine ⟨_, rfl, ?_⟩; have n0_ := Aside0.mk (Kd.S_lower (Kd.S_newB ho0 (g := gb608) (o := .cells #[.int .i64 ((rd_T49 l0 x54_2).f0), .slice A607_1 ((rd_T49 l0 x54_2).f1).length c607_1] 49 (0, 0)) (by (with_reducible repeat (first | refine blk_drewN ?_ _ | refine blk_drew ?_ | refine blk_alloc ?_ _)); exact BK608.out)) (below_size (by repeat (first | (with_reducible first | exact HB.out | apply below_alloc | apply pw_below_drewN | apply below_drew1 | refine below_set ?_ GE608.out) | exact HB.out)))); have n1_ := Aside0.mk (blk_below (g := gb608) (o := .cells #[.int .i64 ((rd_T49 l0 x54_2).f0), .slice A607_1 ((rd_T49 l0 x54_2).f1).length c607_1] 49 (0, 0)) (by (with_reducible repeat (first | refine blk_drewN ?_ _ | refine blk_drew ?_ | refine blk_alloc ?_ _)); exact BK608.out) hb); have n2_ := Aside0.mk (below_step (by repeat (first | (with_reducible first | exact HB.out | apply below_alloc | apply pw_below_drewN | apply below_drew1 | refine below_set ?_ GE608.out) | exact HB.out)) hb); clear BK608; clear HB; have HO612 := n0_; have BK608 := n1_; have HB := n2_; clear n0_ n1_ n2_; (try clear hb); (try clear hb2); (try clear hk); (try clear hi); (try clear ho0)))
                          go_roundg kj31
                          case measure => have := HJ6.out; have := HK2.out; have := HJ31.out; omega
                          case rel => exact ⟨(wrap64 (x54_2 + 1)), (by first | rfl | (simp; done) | (simp [*]; done)), H', ⟨by have := HJ6.out; have := HK2.out; have := HJ31.out; omega⟩, ⟨by repeat (first | (with_reducible first | exact HB.out | apply below_alloc | apply pw_below_drewN | apply below_drew1 | refine below_set ?_ GE608.out) | exact HB.out)⟩⟩
                · rw [if_neg c31] at H
                  exact absurd H (by simp)
              · rw [if_neg c30] at H
                exact absurd H (by simp)
            · rw [if_neg c29] at H
              have c29b0 : decide (x54_2 < (l0.length : Int)) = false := decide_eq_false c29
              clear c29
              replace H := Option.bind_eq_some_iff.mp H
              obtain ⟨t606, A620, H⟩ := H
              replace H : (some t606) = some r := H
              have A62 := Aside0.mk A620
              clear A620
              obtain rfl := Option.some.inj H
              go_wp2_with (first | ((with_reducible refine gate_callee (f := 38) rfl ?_); refine goesL_ (some 96) rfl rfl Try.func38 (by kernel_rfl) rfl #[] rfl (by (try simp only [List.map_toArray, List.map_cons, List.map_nil]); first | done | rfl | (simp only [List.length_drop, List.length_take]; rfl)) ?_; (with_reducible refine (counterfoillaw07_awake.calls  t606 _ A62.out).mono ?_); rintro e w63 ⟨rfl, hb⟩; refine ⟨_, rfl, ?_⟩; have n0_ := Aside0.mk (below_step (by repeat (first | (with_reducible first | exact HB.out | apply below_alloc | apply pw_below_drewN | apply below_drew1) | exact HB.out)) hb); clear HB; have HB := n0_; clear n0_; (try clear hb); (try clear hb2); (try clear hk); (try clear hi)))
              go_ret
              exact ⟨by first | rfl | (simp [errW_none, errW_some] <;> rfl) | (simp [*, errW_none, errW_some] <;> rfl), by repeat (first | (with_reducible first | exact HB.out | apply below_alloc | apply pw_below_drewN | apply below_drew1) | exact HB.out)⟩
  · replace c5 := Bool.eq_false_iff.mpr c5
    subst c5
    have H1 : ((counterfoillaw07_awake.f).bind fun t596 => (some t596)) = some r := by rw [if_neg (show ¬ (false = true) by decide)] at H; exact H
    clear H
    have H := H1
    clear H1
    replace H := Option.bind_eq_some_iff.mp H
    obtain ⟨t596, A640, H⟩ := H
    replace H : (some t596) = some r := H
    have A64 := Aside0.mk A640
    clear A640
    obtain rfl := Option.some.inj H
    go_enter Try.func15, Try.ntmps15
    go_wp2_with (first | ((with_reducible refine gate_callee (f := 37) rfl ?_); refine goesL_ (some 18) rfl rfl Try.func37 (by kernel_rfl) rfl #[.slice A0 l0.length c0, .slice none 0 0] rfl (by (try simp only [List.map_toArray, List.map_cons, List.map_nil]); first | done | rfl | (simp only [List.length_drop, List.length_take]; rfl)) ?_; (refine (counterfoilref07_Small.calls k _ _ l0 _ _ ([] : List (S74)) false _ ?side1 ?side2 ?side3 ?side4 A4.out).mono ?_); (case side1 => repeat (first | exact HR0.out | (with_reducible refine Kd.C_alloc ?_ _) | (with_reducible refine Kd.C_drewN ?_ _) | (with_reducible refine Kd.C_drew ?_))); (case side2 => exact HC0.out); (case side3 => exact Kd.C_nil _ _); (case side4 => exact Nat.le_refl _); rintro e w' ⟨rfl, ⟨nd, rfl⟩⟩; refine ⟨_, rfl, ?_⟩) | ((with_reducible refine gate_callee (f := 38) rfl ?_); refine goesL_ (some 20) rfl rfl Try.func38 (by kernel_rfl) rfl #[] rfl (by (try simp only [List.map_toArray, List.map_cons, List.map_nil]); first | done | rfl | (simp only [List.length_drop, List.length_take]; rfl)) ?_; (with_reducible refine (counterfoillaw07_awake.calls  t596 _ A64.out).mono ?_); rintro e w65 ⟨rfl, hb⟩; refine ⟨_, rfl, ?_⟩; have n0_ := Aside0.mk (below_step (by repeat (first | (with_reducible first | exact HB.out | apply below_alloc | apply pw_below_drewN | apply below_drew1) | exact HB.out)) hb); clear HB; have HB := n0_; clear n0_; (try clear hb); (try clear hb2); (try clear hk); (try clear hi)))
    go_ret
    exact ⟨by first | rfl | (simp [errW_none, errW_some] <;> rfl) | (simp [*, errW_none, errW_some] <;> rfl), by repeat (first | (with_reducible first | exact HB.out | apply below_alloc | apply pw_below_drewN | apply below_drew1) | exact HB.out)⟩
def counterfoillaw07_VolsUndo.Pure : Prop := ∀ (l0 : List (S49)) (a1 : Int) (a2 : Int), (l0.length * 32 ≤ 140737488351232 ∧ l0.length ≤ maxLen ∧ ∀ x ∈ l0, good49 x) → (Lit.int .i64 a1).wf = true → (Lit.int .i64 a2).wf = true → ∃ k, counterfoillaw07_VolsUndo.f k l0 a1 a2 = some true
end Go.Proofs.Ythdhkoeaadahaaa.P
