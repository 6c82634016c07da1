-- PACKED by wip/kit/pack.py: what the law's proof uses of Px103 (printed words and texts of this seat)
import Derived.Test.YthdhkoeaadahaaaYPx0
import Derived.Test.YthdhkoeaadahaaaYPx23
import Derived.Test.YthdhkoeaadahaaaYPx93
import Derived.Test.YthdhkoeaadahaaaYPx97
import Derived.Test.YthdhkoeaadahaaaYENote
import Derived.Test.YthdhkoeaadahaaaYEVApply
import Derived.Test.YthdhkoeaadahaaaYEVSame
import Derived.Test.YthdhkoeaadahaaaYGood
namespace Go.Proofs.Ythdhkoeaadahaaa.P
open Go.RowKit Go.Proofs.YthdhkoeaadahaaaW.PrintWords Go.Proofs.YthdhkoeaadahaaaW.PrintLast Go.Proofs.YthdhkoeaadahaaaW.PrintMore
attribute [local go_sem] max2_int min2_int max_two min_two max_three min_three max_four min_four
set_option linter.unusedVariables false
set_option linter.unusedSimpArgs false
mutual
def counterfoillaw09_SnapStays.j0 : Nat → List (S49) → List (List (S74)) → Int → Bool → Option (Bool)
  | 0, _, _, _, _ => none
  | k + 1, x0, x1, x2, x23 => if x23 = true then ((counterfoillaw09_awake.f).bind fun t1067 => (some t1067)) else (counterfoillaw09_SnapStays.l0 k x0 x1 x2 x0 ([] : List (S74)) 0)
def counterfoillaw09_SnapStays.l0 : Nat → List (S49) → List (List (S74)) → Int → List (S49) → List (S74) → Int → Option (Bool)
  | 0, _, _, _, _, _, _ => none
  | k + 1, x0, x1, x2, x7, x8, x9 => if x9 < (x1.length : Int) then (counterfoillaw09_SnapStays.j2 k x0 x1 x2 x7 x8 x9 (decide (x9 < 12))) else (counterfoillaw09_SnapStays.j2 k x0 x1 x2 x7 x8 x9 false)
def counterfoillaw09_SnapStays.j2 : Nat → List (S49) → List (List (S74)) → Int → List (S49) → List (S74) → Int → Bool → Option (Bool)
  | 0, _, _, _, _, _, _, _ => none
  | k + 1, x0, x1, x2, x7, x8, x9, x33 => if x33 = true then (if 0 ≤ x9 then (if x9 < (x1.length : Int) then (if ((rd_L3 x1 x9).length : Int) > 20 then (counterfoillaw09_SnapStays.l0 k x0 x1 x2 x7 x8 (wrap64 (x9 + 1))) else ((vols_Apply.f x7 (rd_L3 x1 x9)).bind fun bt1071 => ((snap_Note.f x8 x7 (rd_L3 x1 x9) x2).bind fun bt1076 => (if bt1071.2 = 0 then (if bt1076.2 = 0 then (counterfoillaw09_SnapStays.j3 k x0 x1 x2 x7 x8 x9 bt1071.1 bt1076.1 bt1076.2 false) else (if bt1076.2 = 15 then (counterfoillaw09_SnapStays.j3 k x0 x1 x2 x7 x8 x9 bt1071.1 bt1076.1 bt1076.2 ((bt1076.1.length : Int) != 0)) else (counterfoillaw09_SnapStays.j3 k x0 x1 x2 x7 x8 x9 bt1071.1 bt1076.1 bt1076.2 true))) else (if bt1071.2 = bt1076.2 then (if bt1076.2 = 0 then (counterfoillaw09_SnapStays.j3 k x0 x1 x2 x7 x8 x9 bt1071.1 bt1076.1 bt1076.2 false) else (counterfoillaw09_SnapStays.j3 k x0 x1 x2 x7 x8 x9 bt1071.1 bt1076.1 bt1076.2 ((bt1076.1.length : Int) != 0))) else (counterfoillaw09_SnapStays.j3 k x0 x1 x2 x7 x8 x9 bt1071.1 bt1076.1 bt1076.2 true)))))) else (none)) else (none)) else ((counterfoillaw09_awake.f).bind fun t1068 => (some t1068))
def counterfoillaw09_SnapStays.j3 : Nat → List (S49) → List (List (S74)) → Int → List (S49) → List (S74) → Int → List (S49) → List (S74) → Int → Bool → Option (Bool)
  | 0, _, _, _, _, _, _, _, _, _, _ => none
  | k + 1, x0, x1, x2, x7, x8, x9, x10, x12, x13, x89 => if x89 = true then (some false) else (if x13 = 0 then (if (x12.length : Int) > x2 then (counterfoillaw09_SnapStays.j4 k x0 x1 x2 x9 x10 x12 true) else (counterfoillaw09_SnapStays.j4 k x0 x1 x2 x9 x10 x12 (decide ((x12.length : Int) < (x8.length : Int))))) else (counterfoillaw09_SnapStays.l0 k x0 x1 x2 x7 x8 (wrap64 (x9 + 1))))
def counterfoillaw09_SnapStays.j4 : Nat → List (S49) → List (List (S74)) → Int → Int → List (S49) → List (S74) → Bool → Option (Bool)
  | 0, _, _, _, _, _, _, _ => none
  | k + 1, x0, x1, x2, x9, x10, x12, x102 => if x102 = true then (some false) else ((snap_Back.f k x12 x10).bind fun bt1080 => (if bt1080.2 = 0 then ((vols_Same.f bt1080.1 x0).bind fun t1084 => (if t1084 = true then (counterfoillaw09_SnapStays.l0 k x0 x1 x2 x10 x12 (wrap64 (x9 + 1))) else (some false))) else (some false)))
end
def counterfoillaw09_SnapStays.f (k : Nat) (l0 : List (S49)) (l1 : List (List (S74))) (a2 : Int) : Option (Bool) := (counterfoilref07_Small.f k l0 ([] : List (S74))).bind fun t1065 => (if t1065 = true then ((counterfoilref07_Right.f k l0).bind fun t1066 => (counterfoillaw09_SnapStays.j0 k l0 l1 a2 (!t1066))) else (counterfoillaw09_SnapStays.j0 k l0 l1 a2 true))
set_option maxHeartbeats 8000000 in
set_option maxRecDepth 100000 in
theorem counterfoillaw09_SnapStays.callsV (k : Nat) (P0_ : Nat → Prop) (A0 : Option Addr) (c0 : Nat) (l0 : List (S49)) (A1 : Option Addr) (c1 : Nat) (l1 : List (List (S74))) (a2 : Int) (r : Bool) (w : World) (hs0 : Kd.V k49 49 w w.heap.size (fun k_ => P0_ k_) (.slice A0 l0.length c0) l0) (hr1 : Kd.C (Kd.slice 74 k74) w A1 l1.length l1) (hc1 : l1.length ≤ c1) (h : counterfoillaw09_SnapStays.f k l0 l1 a2 = some r) :
    Calls Try.prog 28 #[.slice A0 l0.length c0, .slice A1 l1.length c1, .int .i64 a2] w fun e w' => e = .returned (.bool r) ∧ Below w.heap.size w w' := by
  have HO0 := Aside0.mk (show Kd.V k49 49 w w.heap.size (fun k_ => (P0_ k_ ∨ w.heap.size ≤ k_)) (.slice A0 l0.length c0) l0 from Kd.V_mono hs0 (fun k_ hk => .inl hk))
  have HR1 := Aside0.mk hr1
  have HC1 := Aside0.mk hc1
  clear hr1 hc1
  have HB := Aside0.mk (Below.refl w.heap.size w)
  have H : ((counterfoilref07_Small.f k l0 ([] : List (S74))).bind fun t1065 => (if t1065 = true then ((counterfoilref07_Right.f k l0).bind fun t1066 => (counterfoillaw09_SnapStays.j0 k l0 l1 a2 (!t1066))) else (counterfoillaw09_SnapStays.j0 k l0 l1 a2 true))) = some r := h
  clear h
  have HC4 := Aside0.mk H
  clear H
  go_enter Try.func28, Try.ntmps28
  go_upto_region 1 with (fail)
  go_cut [23] (fun v23 wc => ∃ (kq : Nat) (x23_3 : Bool), v23 = .bool x23_3 ∧ Aside0 (counterfoillaw09_SnapStays.j0 kq l0 l1 a2 x23_3 = some r) ∧ Aside0 (kq ≤ k) ∧ Aside0 (Kd.V k49 49 wc w.heap.size (fun k_ => (P0_ k_ ∨ w.heap.size ≤ k_)) (.slice A0 l0.length c0) l0) ∧ Aside0 (Below w.heap.size w wc))
  case first =>
    have H := HC4.out
    clear HC4
    replace H := Option.bind_eq_some_iff.mp H
    obtain ⟨t1065, A50, H⟩ := H
    replace H : (if t1065 = true then ((counterfoilref07_Right.f k l0).bind fun t1066 => (counterfoillaw09_SnapStays.j0 k l0 l1 a2 (!t1066))) else (counterfoillaw09_SnapStays.j0 k l0 l1 a2 true)) = some r := H
    have A5 := Aside0.mk A50
    clear A50
    by_cases c6 : t1065 = true
    · subst c6
      have H1 : ((counterfoilref07_Right.f k l0).bind fun t1066 => (counterfoillaw09_SnapStays.j0 k l0 l1 a2 (!t1066))) = some r := by rw [if_pos rfl] at H; exact H
      clear H
      have H := H1
      clear H1
      replace H := Option.bind_eq_some_iff.mp H
      obtain ⟨t1066, A70, H⟩ := H
      replace H : (counterfoillaw09_SnapStays.j0 k l0 l1 a2 (!t1066)) = some r := H
      have A7 := Aside0.mk A70
      clear A70
      have H' := Aside0.mk H
      clear H
      go_wp2_with (first | ((with_reducible refine gate_callee (f := 37) rfl ?_); refine goesL_ (some 17) rfl rfl Try.func37 (by kernel_rfl) rfl #[.slice A0 l0.length c0, .slice none 0 0] rfl (by (try simp only [List.map_toArray, List.map_cons, List.map_nil]); first | done | rfl | (simp only [List.length_drop, List.length_take]; rfl)) ?_; (refine (counterfoilref07_Small.calls k _ _ l0 _ _ ([] : List (S74)) true _ ?side1 ?side2 ?side3 ?side4 A5.out).mono ?_); (case side1 => repeat (first | exact (Kd.V_reads' HO0.out).2.2 | (with_reducible refine Kd.C_alloc ?_ _) | (with_reducible refine Kd.C_drewN ?_ _) | (with_reducible refine Kd.C_drew ?_))); (case side2 => exact (Kd.V_reads' HO0.out).2.1); (case side3 => exact Kd.C_nil _ _); (case side4 => exact Nat.le_refl _); rintro e w' ⟨rfl, ⟨nd, rfl⟩⟩; refine ⟨_, rfl, ?_⟩) | (go_at_call 40; (with_reducible refine (counterfoilref07_Right.calls k _ _ l0 t1066 _ ?side1 ?side2 A7.out).mono ?_); (case side1 => repeat (first | exact (Kd.V_reads' HO0.out).2.2 | (with_reducible refine Kd.C_alloc ?_ _) | (with_reducible refine Kd.C_drewN ?_ _) | (with_reducible refine Kd.C_drew ?_))); (case side2 => exact (Kd.V_reads' HO0.out).2.1); rintro e w' ⟨rfl, ⟨nd, rfl⟩⟩))
      go_meet
      case rel => exact ⟨_, (!t1066), (by first | rfl | (simp; done) | (simp [*]; done)), H', ⟨by first | omega | exact Nat.le_refl _⟩, ⟨by (with_reducible repeat (first | apply Kd.V_alloc | apply Kd.V_drewN | apply Kd.V_drew)); exact HO0.out⟩, ⟨by repeat (first | (with_reducible first | exact HB.out | apply below_alloc | apply pw_below_drewN | apply below_drew1) | exact HB.out)⟩⟩
    · replace c6 := Bool.eq_false_iff.mpr c6
      subst c6
      have H1 : (counterfoillaw09_SnapStays.j0 k l0 l1 a2 true) = some r := by rw [if_neg (show ¬ (false = true) by decide)] at H; exact H
      clear H
      have H := H1
      clear H1
      have H' := Aside0.mk H
      clear H
      go_wp2_with (first | ((with_reducible refine gate_callee (f := 37) rfl ?_); refine goesL_ (some 17) rfl rfl Try.func37 (by kernel_rfl) rfl #[.slice A0 l0.length c0, .slice none 0 0] rfl (by (try simp only [List.map_toArray, List.map_cons, List.map_nil]); first | done | rfl | (simp only [List.length_drop, List.length_take]; rfl)) ?_; (refine (counterfoilref07_Small.calls k _ _ l0 _ _ ([] : List (S74)) false _ ?side1 ?side2 ?side3 ?side4 A5.out).mono ?_); (case side1 => repeat (first | exact (Kd.V_reads' HO0.out).2.2 | (with_reducible refine Kd.C_alloc ?_ _) | (with_reducible refine Kd.C_drewN ?_ _) | (with_reducible refine Kd.C_drew ?_))); (case side2 => exact (Kd.V_reads' HO0.out).2.1); (case side3 => exact Kd.C_nil _ _); (case side4 => exact Nat.le_refl _); rintro e w' ⟨rfl, ⟨nd, rfl⟩⟩; refine ⟨_, rfl, ?_⟩))
      go_meet
      case rel => exact ⟨_, (true), (by first | rfl | (simp; done) | (simp [*]; done)), H', ⟨by first | omega | exact Nat.le_refl _⟩, ⟨by (with_reducible repeat (first | apply Kd.V_alloc | apply Kd.V_drewN | apply Kd.V_drew)); exact HO0.out⟩, ⟨by repeat (first | (with_reducible first | exact HB.out | apply below_alloc | apply pw_below_drewN | apply below_drew1) | exact HB.out)⟩⟩
  case rest =>
    clear HC4
    try clear c1
    try clear c2
    try clear p2
    try clear c3
    try clear c6
    obtain ⟨kq, x23_3, rfl, HA, HJ3, HO_0, HB⟩ := hcut
    cases kq with
    | zero => exact absurd HA.out (by simp [counterfoillaw09_SnapStays.j0])
    | succ kj3 =>
      have H := HA.out
      clear HA
      simp only [counterfoillaw09_SnapStays.j0] at H
      by_cases c8 : x23_3 = true
      · subst c8
        have H1 : ((counterfoillaw09_awake.f).bind fun t1067 => (some t1067)) = some r := by rw [if_pos rfl] at H; exact H
        clear H
        have H := H1
        clear H1
        replace H := Option.bind_eq_some_iff.mp H
        obtain ⟨t1067, A90, H⟩ := H
        replace H : (some t1067) = some r := H
        have A9 := Aside0.mk A90
        clear A90
        obtain rfl := Option.some.inj H
        go_wp2_with (first | ((with_reducible refine gate_callee (f := 86) rfl ?_); refine goesL_ (some 24) rfl rfl Try.func86 (by kernel_rfl) rfl #[] rfl (by (try simp only [List.map_toArray, List.map_cons, List.map_nil]); first | done | rfl | (simp only [List.length_drop, List.length_take]; rfl)) ?_; (with_reducible refine (counterfoillaw09_awake.calls  t1067 _ A9.out).mono ?_); rintro e w10 ⟨rfl, hb⟩; refine ⟨_, rfl, ?_⟩; have n0_ := Aside0.mk (Kd.V_below (by (with_reducible repeat (first | apply Kd.V_alloc | apply Kd.V_drewN | apply Kd.V_drew)); exact HO_0.out) hb); have n1_ := Aside0.mk (below_step (by repeat (first | (with_reducible first | exact HB.out | apply below_alloc | apply pw_below_drewN | apply below_drew1) | exact HB.out)) hb); clear HO_0; clear HB; have HO_0 := n0_; have HB := n1_; clear n0_ n1_; (try clear hb); (try clear hb2); (try clear hk); (try clear hi)))
        go_ret
        exact ⟨by first | rfl | (simp [errW_none, errW_some] <;> rfl) | (simp [*, errW_none, errW_some] <;> rfl), by repeat (first | (with_reducible first | exact HB.out | apply below_alloc | apply pw_below_drewN | apply below_drew1) | exact HB.out)⟩
      · replace c8 := Bool.eq_false_iff.mpr c8
        subst c8
        have H1 : (counterfoillaw09_SnapStays.l0 kj3 l0 l1 a2 l0 ([] : List (S74)) 0) = some r := by rw [if_neg (show ¬ (false = true) by decide)] at H; exact H
        clear H
        have H := H1
        clear H1
        have H' := Aside0.mk H
        clear H
        go_wp2
        go_loopg [7, 8, 9] kj3 (fun kq v7 v8 v9 w' => ∃ (x7_2 : List (S49)) (x8_2 : List (S74)) (x9_2 : Int), v9 = .int .i64 x9_2 ∧ Aside0 (counterfoillaw09_SnapStays.l0 kq l0 l1 a2 x7_2 x8_2 x9_2 = some r) ∧ Aside0 (kq ≤ kj3) ∧ Aside0 (Kd.V k49 49 w' w.heap.size (fun k_ => (P0_ k_ ∨ w.heap.size ≤ k_) ∧ some k_ ≠ (v8 : Value).ownBlock) (.slice A0 l0.length c0) l0) ∧ Aside0 (Kd.V k49 49 w' w.heap.size (fun k_ => (P0_ k_ ∨ w.heap.size ≤ k_) ∧ some k_ ≠ (v8 : Value).ownBlock) v7 x7_2) ∧ Aside0 (Kd.R k74 74 w' w.heap.size (fun k_ => (w.heap.size ≤ k_)) v8 x8_2) ∧ Aside0 (Below w.heap.size w w'))
        case atStart => exact ⟨(l0), (([] : List (S74))), (0), (by first | rfl | (simp; done) | (simp [*]; done)), H', ⟨Nat.le_refl _⟩, ⟨by (with_reducible repeat (first | apply Kd.V_alloc | apply Kd.V_drewN | apply Kd.V_drew)); exact Kd.V_mono HO_0.out (fun _ hk => ⟨hk, (by simp [Value.ownBlock])⟩)⟩, ⟨by (with_reducible repeat (first | apply Kd.V_alloc | apply Kd.V_drewN | apply Kd.V_drew)); exact Kd.V_mono HO_0.out (fun _ hk => ⟨hk, (by simp [Value.ownBlock])⟩)⟩, ⟨by first | exact Kd.R_nil _ _ _ _ _ | exact Kd.N_nil _ _ _ _ _ | exact Kd.V_nil _ _ _ _ _ | exact Kd.Q_nil _ _ _ _ _ | exact Kd.S_nil _ _ _ _ _⟩, ⟨by repeat (first | (with_reducible first | exact HB.out | apply below_alloc | apply pw_below_drewN | apply below_drew1) | exact HB.out)⟩⟩
        case round =>
          clear H'
          try clear c1
          try clear c2
          try clear p2
          try clear c3
          try clear c6
          try clear c8
          try clear p2
          obtain ⟨x7_2, x8_2, x9_2, rfl, HA, HK2, HO_0, HO_7, HO_8, HB⟩ := hrel
          cases gk with
          | zero => exact absurd HA.out (by simp [counterfoillaw09_SnapStays.l0])
          | succ k2 =>
            have H := HA.out
            clear HA
            simp only [counterfoillaw09_SnapStays.l0] at H
            have HC11 := Aside0.mk H
            clear H
            go_upto_region 6 with (fail)
            go_cut [33] (fun v33 wc => ∃ (kq : Nat) (x33_10 : Bool), v33 = .bool x33_10 ∧ Aside0 (counterfoillaw09_SnapStays.j2 kq l0 l1 a2 x7_2 x8_2 x9_2 x33_10 = some r) ∧ Aside0 (kq ≤ k2) ∧ Aside0 (Kd.V k49 49 wc w.heap.size (fun k_ => (P0_ k_ ∨ w.heap.size ≤ k_) ∧ some k_ ≠ (u8 : Value).ownBlock) (.slice A0 l0.length c0) l0) ∧ Aside0 (Kd.V k49 49 wc w.heap.size (fun k_ => (P0_ k_ ∨ w.heap.size ≤ k_) ∧ some k_ ≠ (u8 : Value).ownBlock) u7 x7_2) ∧ Aside0 (Kd.R k74 74 wc w.heap.size (fun k_ => (w.heap.size ≤ k_)) u8 x8_2) ∧ Aside0 (Below w.heap.size w wc))
            case first =>
              have H := HC11.out
              clear HC11
              by_cases c12 : x9_2 < (l1.length : Int)
              · rw [if_pos c12] at H
                have c12b0 : decide (x9_2 < (l1.length : Int)) = true := decide_eq_true c12
                clear c12
                (first | rw [c12b0] | (simp only [i64_w, i32_w]; rw [c12b0]) | skip)
                have H' := Aside0.mk H
                clear H
                go_wp2
                go_meet
                case rel => exact ⟨_, (decide (x9_2 < 12)), (by first | rfl | (simp; done) | (simp [*]; done)), H', ⟨by have := HJ3.out; have := HK2.out; first | omega | exact Nat.le_refl _⟩, ⟨by (with_reducible repeat (first | apply Kd.V_alloc | apply Kd.V_drewN | apply Kd.V_drew)); exact HO_0.out⟩, ⟨by (with_reducible repeat (first | apply Kd.V_alloc | apply Kd.V_drewN | apply Kd.V_drew)); exact HO_7.out⟩, ⟨by (with_reducible repeat (first | apply Kd.R_alloc | apply Kd.R_drewN | apply Kd.R_drew)); exact HO_8.out⟩, ⟨by repeat (first | (with_reducible first | exact HB.out | apply below_alloc | apply pw_below_drewN | apply below_drew1) | exact HB.out)⟩⟩
              · rw [if_neg c12] at H
                have c12b0 : decide (x9_2 < (l1.length : Int)) = false := decide_eq_false c12
                clear c12
                (first | rw [c12b0] | (simp only [i64_w, i32_w]; rw [c12b0]) | skip)
                have H' := Aside0.mk H
                clear H
                go_wp2
                go_meet
                case rel => exact ⟨_, (false), (by first | rfl | (simp; done) | (simp [*]; done)), H', ⟨by have := HJ3.out; have := HK2.out; first | omega | exact Nat.le_refl _⟩, ⟨by (with_reducible repeat (first | apply Kd.V_alloc | apply Kd.V_drewN | apply Kd.V_drew)); exact HO_0.out⟩, ⟨by (with_reducible repeat (first | apply Kd.V_alloc | apply Kd.V_drewN | apply Kd.V_drew)); exact HO_7.out⟩, ⟨by (with_reducible repeat (first | apply Kd.R_alloc | apply Kd.R_drewN | apply Kd.R_drew)); exact HO_8.out⟩, ⟨by repeat (first | (with_reducible first | exact HB.out | apply below_alloc | apply pw_below_drewN | apply below_drew1) | exact HB.out)⟩⟩
            case rest =>
              clear HC11
              try clear c1
              try clear c2
              try clear p2
              try clear c3
              try clear c6
              try clear c8
              try clear c12
              try clear c12b0
              try clear p2
              obtain ⟨kq, x33_10, rfl, HA, HJ10, HO_0, HO_7, HO_8, HB⟩ := hcut
              cases kq with
              | zero => exact absurd HA.out (by simp [counterfoillaw09_SnapStays.j2])
              | succ kj10 =>
                have H := HA.out
                clear HA
                simp only [counterfoillaw09_SnapStays.j2] at H
                by_cases c13 : x33_10 = true
                · subst c13
                  have H1 : (if 0 ≤ x9_2 then (if x9_2 < (l1.length : Int) then (if ((rd_L3 l1 x9_2).length : Int) > 20 then (counterfoillaw09_SnapStays.l0 kj10 l0 l1 a2 x7_2 x8_2 (wrap64 (x9_2 + 1))) else ((vols_Apply.f x7_2 (rd_L3 l1 x9_2)).bind fun bt1071 => ((snap_Note.f x8_2 x7_2 (rd_L3 l1 x9_2) a2).bind fun bt1076 => (if bt1071.2 = 0 then (if bt1076.2 = 0 then (counterfoillaw09_SnapStays.j3 kj10 l0 l1 a2 x7_2 x8_2 x9_2 bt1071.1 bt1076.1 bt1076.2 false) else (if bt1076.2 = 15 then (counterfoillaw09_SnapStays.j3 kj10 l0 l1 a2 x7_2 x8_2 x9_2 bt1071.1 bt1076.1 bt1076.2 ((bt1076.1.length : Int) != 0)) else (counterfoillaw09_SnapStays.j3 kj10 l0 l1 a2 x7_2 x8_2 x9_2 bt1071.1 bt1076.1 bt1076.2 true))) else (if bt1071.2 = bt1076.2 then (if bt1076.2 = 0 then (counterfoillaw09_SnapStays.j3 kj10 l0 l1 a2 x7_2 x8_2 x9_2 bt1071.1 bt1076.1 bt1076.2 false) else (counterfoillaw09_SnapStays.j3 kj10 l0 l1 a2 x7_2 x8_2 x9_2 bt1071.1 bt1076.1 bt1076.2 ((bt1076.1.length : Int) != 0))) else (counterfoillaw09_SnapStays.j3 kj10 l0 l1 a2 x7_2 x8_2 x9_2 bt1071.1 bt1076.1 bt1076.2 true)))))) else (none)) else (none)) = some r := by rw [if_pos rfl] at H; exact H
                  clear H
                  have H := H1
                  clear H1
                  by_cases c14 : 0 ≤ x9_2
                  · as_aux_lemma =>
                    rw [if_pos c14] at H
                    have c14b0 : decide (0 ≤ x9_2) = true := decide_eq_true c14
                    clear c14
                    by_cases c15 : x9_2 < (l1.length : Int)
                    · as_aux_lemma =>
                      rw [if_pos c15] at H
                      have c15b0 : decide (x9_2 < (l1.length : Int)) = true := decide_eq_true c15
                      clear c15
                      by_cases c16 : ((rd_L3 l1 x9_2).length : Int) > 20
                      · rw [if_pos c16] at H
                        have c16b0 : decide (20 < ((rd_L3 l1 x9_2).length : Int)) = true := decide_eq_true c16
                        have c16b1 : decide (20 < (rd_L3 l1 x9_2).length) = true := decide_eq_true (by omega)
                        clear c16
                        have H' := Aside0.mk H
                        clear H
                        have p1069 : 0 ≤ (x9_2 : Int) := of_decide_eq_true (by first | (with_reducible assumption) | assumption)
                        have q1069 : x9_2 < (l1.length : Int) := of_decide_eq_true (by first | (with_reducible assumption) | assumption)
                        obtain ⟨ad1069, A1069_0, c1069_0, e1069, hx1069_0, hl1069_0, hi1069_0⟩ := at_L3 HR1.out x9_2 p1069 q1069
                        cases e1069
                        replace hx1069_0 := (HB.out.cell (World.block_lt_of_cell? w _ hx1069_0)).trans hx1069_0
                        have HR1069_0 := Aside0.mk hi1069_0
                        have HC1069_0 := Aside0.mk hl1069_0
                        clear hi1069_0 hl1069_0
                        replace p1069 := eq_true p1069
                        replace q1069 := eq_true q1069
                        go_wp2
                        go_roundg kj10
                        case measure => have := HJ3.out; have := HK2.out; have := HJ10.out; omega
                        case rel => exact ⟨(x7_2), (x8_2), (wrap64 (x9_2 + 1)), (by first | rfl | (simp; done) | (simp [*]; done)), H', ⟨by have := HJ3.out; have := HK2.out; have := HJ10.out; omega⟩, ⟨by (with_reducible repeat (first | apply Kd.V_alloc | apply Kd.V_drewN | apply Kd.V_drew)); exact HO_0.out⟩, ⟨by (with_reducible repeat (first | apply Kd.V_alloc | apply Kd.V_drewN | apply Kd.V_drew)); exact HO_7.out⟩, ⟨by (with_reducible repeat (first | apply Kd.R_alloc | apply Kd.R_drewN | apply Kd.R_drew)); exact HO_8.out⟩, ⟨by repeat (first | (with_reducible first | exact HB.out | apply below_alloc | apply pw_below_drewN | apply below_drew1) | exact HB.out)⟩⟩
                      · as_aux_lemma =>
                        rw [if_neg c16] at H
                        have c16b0 : decide (20 < ((rd_L3 l1 x9_2).length : Int)) = false := decide_eq_false c16
                        have c16b1 : decide (20 < (rd_L3 l1 x9_2).length) = false := decide_eq_false (by omega)
                        clear c16
                        replace H := Option.bind_eq_some_iff.mp H
                        obtain ⟨⟨t1071, t1072⟩, A170, H⟩ := H
                        replace H : ((snap_Note.f x8_2 x7_2 (rd_L3 l1 x9_2) a2).bind fun bt1076 => (if t1072 = 0 then (if bt1076.2 = 0 then (counterfoillaw09_SnapStays.j3 kj10 l0 l1 a2 x7_2 x8_2 x9_2 t1071 bt1076.1 bt1076.2 false) else (if bt1076.2 = 15 then (counterfoillaw09_SnapStays.j3 kj10 l0 l1 a2 x7_2 x8_2 x9_2 t1071 bt1076.1 bt1076.2 ((bt1076.1.length : Int) != 0)) else (counterfoillaw09_SnapStays.j3 kj10 l0 l1 a2 x7_2 x8_2 x9_2 t1071 bt1076.1 bt1076.2 true))) else (if t1072 = bt1076.2 then (if bt1076.2 = 0 then (counterfoillaw09_SnapStays.j3 kj10 l0 l1 a2 x7_2 x8_2 x9_2 t1071 bt1076.1 bt1076.2 false) else (counterfoillaw09_SnapStays.j3 kj10 l0 l1 a2 x7_2 x8_2 x9_2 t1071 bt1076.1 bt1076.2 ((bt1076.1.length : Int) != 0))) else (counterfoillaw09_SnapStays.j3 kj10 l0 l1 a2 x7_2 x8_2 x9_2 t1071 bt1076.1 bt1076.2 true)))) = some r := H
                        have A17 := Aside0.mk A170
                        clear A170
                        replace H := Option.bind_eq_some_iff.mp H
                        obtain ⟨⟨t1076, t1077⟩, A180, H⟩ := H
                        replace H : (if t1072 = 0 then (if t1077 = 0 then (counterfoillaw09_SnapStays.j3 kj10 l0 l1 a2 x7_2 x8_2 x9_2 t1071 t1076 t1077 false) else (if t1077 = 15 then (counterfoillaw09_SnapStays.j3 kj10 l0 l1 a2 x7_2 x8_2 x9_2 t1071 t1076 t1077 ((t1076.length : Int) != 0)) else (counterfoillaw09_SnapStays.j3 kj10 l0 l1 a2 x7_2 x8_2 x9_2 t1071 t1076 t1077 true))) else (if t1072 = t1077 then (if t1077 = 0 then (counterfoillaw09_SnapStays.j3 kj10 l0 l1 a2 x7_2 x8_2 x9_2 t1071 t1076 t1077 false) else (counterfoillaw09_SnapStays.j3 kj10 l0 l1 a2 x7_2 x8_2 x9_2 t1071 t1076 t1077 ((t1076.length : Int) != 0))) else (counterfoillaw09_SnapStays.j3 kj10 l0 l1 a2 x7_2 x8_2 x9_2 t1071 t1076 t1077 true))) = some r := H
                        have A18 := Aside0.mk A180
                        clear A180
                        have HC19 := Aside0.mk H
                        clear H
                        have p1069 : 0 ≤ (x9_2 : Int) := of_decide_eq_true (by first | (with_reducible assumption) | assumption)
                        have q1069 : x9_2 < (l1.length : Int) := of_decide_eq_true (by first | (with_reducible assumption) | assumption)
                        obtain ⟨ad1069, A1069_0, c1069_0, e1069, hx1069_0, hl1069_0, hi1069_0⟩ := at_L3 HR1.out x9_2 p1069 q1069
                        cases e1069
                        replace hx1069_0 := (HB.out.cell (World.block_lt_of_cell? w _ hx1069_0)).trans hx1069_0
                        have HR1069_0 := Aside0.mk hi1069_0
                        have HC1069_0 := Aside0.mk hl1069_0
                        clear hi1069_0 hl1069_0
                        replace p1069 := eq_true p1069
                        replace q1069 := eq_true q1069
                        have p1070 : 0 ≤ (x9_2 : Int) := of_decide_eq_true (by first | (with_reducible assumption) | assumption)
                        have q1070 : x9_2 < (l1.length : Int) := of_decide_eq_true (by first | (with_reducible assumption) | assumption)
                        obtain ⟨ad1070, A1070_0, c1070_0, e1070, hx1070_0, hl1070_0, hi1070_0⟩ := at_L3 HR1.out x9_2 p1070 q1070
                        obtain rfl : ad1069 = ad1070 := (by injection e1070)
                        replace hx1070_0 := (HB.out.cell (World.block_lt_of_cell? w _ hx1070_0)).trans hx1070_0
                        have HR1070_0 := Aside0.mk hi1070_0
                        have HC1070_0 := Aside0.mk hl1070_0
                        clear hi1070_0 hl1070_0
                        replace p1070 := eq_true p1070
                        replace q1070 := eq_true q1070
                        have ea_ := Option.some.inj (hx1069_0.symm.trans hx1070_0)
                        injection ea_ with ea_ en_ ec_
                        subst ea_
                        subst ec_
                        clear en_
                        obtain ⟨Ao20, co20, eo20⟩ := Kd.V_slice HO_7.out
                        subst eo20
                        go_upto_region 11 with (first | ((with_reducible refine gate_callee (f := 57) rfl ?_); refine goesL_ (some 48) rfl rfl Try.func57 (by kernel_rfl) rfl #[.slice Ao20 x7_2.length co20, .slice A1069_0 (rd_L3 l1 x9_2).length c1069_0] rfl (by (try simp only [List.map_toArray, List.map_cons, List.map_nil]); first | done | rfl | (simp only [List.length_drop, List.length_take]; rfl)) ?_; (with_reducible refine (vols_Apply.calls _ _ x7_2 _ _ (rd_L3 l1 x9_2) t1071 t1072 _ ?side1 ?side2 ?side3 ?side4 A17.out).mono ?_); (case side1 => repeat (first | exact (Kd.V_reads' HO_7.out).2.2 | (with_reducible refine Kd.C_alloc ?_ _) | (with_reducible refine Kd.C_drewN ?_ _) | (with_reducible refine Kd.C_drew ?_))); (case side2 => exact (Kd.V_reads' HO_7.out).2.1); (case side3 => repeat (first | exact (Kd.C_below HR1070_0.out HB.out) | (with_reducible refine Kd.C_alloc ?_ _) | (with_reducible refine Kd.C_drewN ?_ _) | (with_reducible refine Kd.C_drew ?_))); (case side4 => exact HC1070_0.out); rintro e w21 ⟨v1073, rfl, ho0, hb⟩; refine ⟨_, rfl, ?_⟩; have n0_ := Aside0.mk (Kd.V_elder' (by (with_reducible repeat (first | apply Kd.V_alloc | apply Kd.V_drewN | apply Kd.V_drew)); exact HO_0.out) (Kd.S_base ho0) hb); have n1_ := Aside0.mk (Kd.V_elder' (by (with_reducible repeat (first | apply Kd.V_alloc | apply Kd.V_drewN | apply Kd.V_drew)); exact HO_7.out) (Kd.S_base ho0) hb); have n2_ := Aside0.mk (Kd.R_below (by (with_reducible repeat (first | apply Kd.R_alloc | apply Kd.R_drewN | apply Kd.R_drew)); exact HO_8.out) hb); have n3_ := Aside0.mk (Kd.S_lower (Kd.S_newM (M := fun k_ => (w.heap.size ≤ k_)) ho0 (below_size (by repeat (first | (with_reducible first | exact HB.out | apply below_alloc | apply pw_below_drewN | apply below_drew1) | exact HB.out))) (fun k_ h_ => h_)) (below_size (by repeat (first | (with_reducible first | exact HB.out | apply below_alloc | apply pw_below_drewN | apply below_drew1) | exact HB.out)))); have n4_ := Aside0.mk (below_step (by repeat (first | (with_reducible first | exact HB.out | apply below_alloc | apply pw_below_drewN | apply below_drew1) | exact HB.out)) hb); clear HO_0; clear HO_7; clear HO_8; clear HB; have HO_0 := n0_; have HO_7 := n1_; have HO_8 := n2_; have HO1074 := n3_; have HB := n4_; clear n0_ n1_ n2_ n3_ n4_; (try clear hb); (try clear hb2); (try clear hk); (try clear hi); (try clear ho0); have p1075 : 0 ≤ (x9_2 : Int) := of_decide_eq_true (by first | (with_reducible assumption) | assumption); have q1075 : x9_2 < (l1.length : Int) := of_decide_eq_true (by first | (with_reducible assumption) | assumption); obtain ⟨ad1075, A1075_0, c1075_0, e1075, hx1075_0, hl1075_0, hi1075_0⟩ := at_L3 HR1.out x9_2 p1075 q1075; obtain rfl : ad1069 = ad1075 := (by injection e1075); replace hx1075_0 := (HB.out.cell (World.block_lt_of_cell? w _ hx1075_0)).trans hx1075_0; have HR1075_0 := Aside0.mk hi1075_0; have HC1075_0 := Aside0.mk hl1075_0; clear hi1075_0 hl1075_0; replace p1075 := eq_true p1075; replace q1075 := eq_true q1075; obtain ⟨Ao22, co22, eo22⟩ := Kd.R_slice HO_8.out; subst eo22) | ((with_reducible refine gate_callee (f := 87) rfl ?_); refine goesL_ (some 59) rfl rfl Try.func87 (by kernel_rfl) rfl #[.slice Ao22 x8_2.length co22, .slice Ao20 x7_2.length co20, .slice A1075_0 (rd_L3 l1 x9_2).length c1075_0, .int .i64 a2] rfl (by (try simp only [List.map_toArray, List.map_cons, List.map_nil]); first | done | rfl | (simp only [List.length_drop, List.length_take]; rfl)) ?_; (with_reducible refine (snap_Note.calls _ _ x8_2 _ _ x7_2 _ _ (rd_L3 l1 x9_2) a2 t1076 t1077 _ ?side1 ?side2 ?side3 ?side4 ?side5 ?side6 A18.out).mono ?_); (case side1 => repeat (first | exact (Kd.R_reads' HO_8.out).2.2 | (with_reducible refine Kd.C_alloc ?_ _) | (with_reducible refine Kd.C_drewN ?_ _) | (with_reducible refine Kd.C_drew ?_))); (case side2 => exact (Kd.R_reads' HO_8.out).2.1); (case side3 => repeat (first | exact (Kd.V_reads' HO_7.out).2.2 | (with_reducible refine Kd.C_alloc ?_ _) | (with_reducible refine Kd.C_drewN ?_ _) | (with_reducible refine Kd.C_drew ?_))); (case side4 => exact (Kd.V_reads' HO_7.out).2.1); (case side5 => repeat (first | exact (Kd.C_below HR1075_0.out HB.out) | (with_reducible refine Kd.C_alloc ?_ _) | (with_reducible refine Kd.C_drewN ?_ _) | (with_reducible refine Kd.C_drew ?_))); (case side6 => exact HC1075_0.out); rintro e w23 ⟨v1078, rfl, ho0, hb⟩; refine ⟨_, rfl, ?_⟩; have n0_ := Aside0.mk (Kd.V_elder' (by (with_reducible repeat (first | apply Kd.V_alloc | apply Kd.V_drewN | apply Kd.V_drew)); exact HO_0.out) (Kd.R_base ho0) hb); have n1_ := Aside0.mk (Kd.V_elder' (by (with_reducible repeat (first | apply Kd.V_alloc | apply Kd.V_drewN | apply Kd.V_drew)); exact HO_7.out) (Kd.R_base ho0) hb); have n2_ := Aside0.mk (Kd.R_elder' (by (with_reducible repeat (first | apply Kd.R_alloc | apply Kd.R_drewN | apply Kd.R_drew)); exact HO_8.out) (Kd.R_base ho0) hb); have n3_ := Aside0.mk (Kd.S_below (by (with_reducible repeat (first | apply Kd.S_alloc | apply Kd.S_drewN | apply Kd.S_drew)); exact HO1074.out) hb); have n4_ := Aside0.mk (Kd.R_lower (Kd.R_new' (Kd.R_newM (M := fun k_ => (w.heap.size ≤ k_)) ho0 (below_size (by repeat (first | (with_reducible first | exact HB.out | apply below_alloc | apply pw_below_drewN | apply below_drew1) | exact HB.out))) (fun k_ h_ => h_)) (Kd.R_lt (by (with_reducible repeat (first | apply Kd.R_alloc | apply Kd.R_drewN | apply Kd.R_drew)); exact HO_8.out))) (below_size (by repeat (first | (with_reducible first | exact HB.out | apply below_alloc | apply pw_below_drewN | apply below_drew1) | exact HB.out)))); have n5_ := Aside0.mk (below_step (by repeat (first | (with_reducible first | exact HB.out | apply below_alloc | apply pw_below_drewN | apply below_drew1) | exact HB.out)) hb); clear HO_0; clear HO_7; clear HO_8; clear HO1074; clear HB; have HO_0 := n0_; have HO_7 := n1_; have HO_8 := n2_; have HO1074 := n3_; have HO1079 := n4_; have HB := n5_; clear n0_ n1_ n2_ n3_ n4_ n5_; (try clear hb); (try clear hb2); (try clear hk); (try clear hi); (try clear ho0)))
                        (try simp only [Act.put, List.setIfInBounds_toArray, List.set_cons_zero, List.set_cons_succ])
                        go_cut [89] (fun v89 wc => ∃ (kq : Nat) (x89_18 : Bool), v89 = .bool x89_18 ∧ Aside0 (counterfoillaw09_SnapStays.j3 kq l0 l1 a2 x7_2 x8_2 x9_2 t1071 t1076 t1077 x89_18 = some r) ∧ Aside0 (kq ≤ kj10) ∧ Aside0 (Kd.V k49 49 wc w.heap.size (fun k_ => (P0_ k_ ∨ w.heap.size ≤ k_) ∧ some k_ ≠ ((.slice Ao22 x8_2.length co22) : Value).ownBlock ∧ some k_ ≠ (v1073 : Value).ownBlock ∧ some k_ ≠ (v1078 : Value).ownBlock) (.slice A0 l0.length c0) l0) ∧ Aside0 (Kd.V k49 49 wc w.heap.size (fun k_ => (P0_ k_ ∨ w.heap.size ≤ k_) ∧ some k_ ≠ ((.slice Ao22 x8_2.length co22) : Value).ownBlock ∧ some k_ ≠ (v1073 : Value).ownBlock ∧ some k_ ≠ (v1078 : Value).ownBlock) (.slice Ao20 x7_2.length co20) x7_2) ∧ Aside0 (Kd.R k74 74 wc w.heap.size (fun k_ => (w.heap.size ≤ k_) ∧ some k_ ≠ (v1078 : Value).ownBlock) (.slice Ao22 x8_2.length co22) x8_2) ∧ Aside0 (Kd.S k49 49 wc w.heap.size (fun k_ => (w.heap.size ≤ k_)) v1073 t1071) ∧ Aside0 (Kd.R k74 74 wc w.heap.size (fun k_ => (w.heap.size ≤ k_) ∧ some k_ ≠ ((.slice Ao22 x8_2.length co22) : Value).ownBlock) v1078 t1076) ∧ Aside0 (Below w.heap.size w wc))
                        case first =>
                          have H := HC19.out
                          clear HC19
                          by_cases c24 : t1072 = 0
                          · as_aux_lemma =>
                            rw [if_pos c24] at H
                            have c24b0 : (t1072 == 0) = true := beq_iff_eq.mpr c24
                            have c24b1 : (t1072 != 0) = false := bne_eq_false_iff_eq.mpr c24
                            clear c24
                            (first | rw [c24b0] | (simp only [i64_w, i32_w]; rw [c24b0]) | skip)
                            by_cases c25 : t1077 = 0
                            · rw [if_pos c25] at H
                              have c25b0 : (t1077 == 0) = true := beq_iff_eq.mpr c25
                              have c25b1 : (t1077 != 0) = false := bne_eq_false_iff_eq.mpr c25
                              clear c25
                              have H' := Aside0.mk H
                              clear H
                              go_wp2
                              go_meet
                              case rel => exact ⟨_, (false), (by first | rfl | (simp; done) | (simp [*]; done)), H', ⟨by have := HJ3.out; have := HK2.out; have := HJ10.out; first | omega | exact Nat.le_refl _⟩, ⟨by (with_reducible repeat (first | apply Kd.V_alloc | apply Kd.V_drewN | apply Kd.V_drew)); exact Kd.V_mono HO_0.out (fun _ hk => ⟨hk.1.1.1, ⟨hk.1.1.2, ⟨hk.1.2, hk.2⟩⟩⟩)⟩, ⟨by (with_reducible repeat (first | apply Kd.V_alloc | apply Kd.V_drewN | apply Kd.V_drew)); exact Kd.V_mono HO_7.out (fun _ hk => ⟨hk.1.1.1, ⟨hk.1.1.2, ⟨hk.1.2, hk.2⟩⟩⟩)⟩, ⟨by (with_reducible repeat (first | apply Kd.R_alloc | apply Kd.R_drewN | apply Kd.R_drew)); exact HO_8.out⟩, ⟨by (with_reducible repeat (first | apply Kd.S_alloc | apply Kd.S_drewN | apply Kd.S_drew)); exact Kd.S_mono HO1074.out (fun _ hk => hk.1)⟩, ⟨by (with_reducible repeat (first | apply Kd.R_alloc | apply Kd.R_drewN | apply Kd.R_drew)); exact Kd.R_mono HO1079.out (fun _ hk => ⟨hk.1.1, hk.2⟩)⟩, ⟨by repeat (first | (with_reducible first | exact HB.out | apply below_alloc | apply pw_below_drewN | apply below_drew1) | exact HB.out)⟩⟩
                            · rw [if_neg c25] at H
                              have c25b0 : (t1077 == 0) = false := beq_eq_false_iff_ne.mpr c25
                              have c25b1 : (t1077 != 0) = true := bne_iff_ne.mpr c25
                              by_cases c26 : t1077 = 15
                              · rw [if_pos c26] at H
                                have c26b0 : (t1077 == 15) = true := beq_iff_eq.mpr c26
                                have c26b1 : (t1077 != 15) = false := bne_eq_false_iff_eq.mpr c26
                                clear c26
                                have H' := Aside0.mk H
                                clear H
                                obtain ⟨Ao27, co27, eo27⟩ := Kd.R_slice HO1079.out
                                subst eo27
                                go_wp2
                                go_meet
                                case rel => exact ⟨_, (((t1076.length : Int) != 0)), (by first | rfl | (simp; done) | (simp [*]; done)), H', ⟨by have := HJ3.out; have := HK2.out; have := HJ10.out; first | omega | exact Nat.le_refl _⟩, ⟨by (with_reducible repeat (first | apply Kd.V_alloc | apply Kd.V_drewN | apply Kd.V_drew)); exact Kd.V_mono HO_0.out (fun _ hk => ⟨hk.1.1.1, ⟨hk.1.1.2, ⟨hk.1.2, hk.2⟩⟩⟩)⟩, ⟨by (with_reducible repeat (first | apply Kd.V_alloc | apply Kd.V_drewN | apply Kd.V_drew)); exact Kd.V_mono HO_7.out (fun _ hk => ⟨hk.1.1.1, ⟨hk.1.1.2, ⟨hk.1.2, hk.2⟩⟩⟩)⟩, ⟨by (with_reducible repeat (first | apply Kd.R_alloc | apply Kd.R_drewN | apply Kd.R_drew)); exact HO_8.out⟩, ⟨by (with_reducible repeat (first | apply Kd.S_alloc | apply Kd.S_drewN | apply Kd.S_drew)); exact Kd.S_mono HO1074.out (fun _ hk => hk.1)⟩, ⟨by (with_reducible repeat (first | apply Kd.R_alloc | apply Kd.R_drewN | apply Kd.R_drew)); exact Kd.R_mono HO1079.out (fun _ hk => ⟨hk.1.1, hk.2⟩)⟩, ⟨by repeat (first | (with_reducible first | exact HB.out | apply below_alloc | apply pw_below_drewN | apply below_drew1) | exact HB.out)⟩⟩
                              · rw [if_neg c26] at H
                                have c26b0 : (t1077 == 15) = false := beq_eq_false_iff_ne.mpr c26
                                have c26b1 : (t1077 != 15) = true := bne_iff_ne.mpr c26
                                have H' := Aside0.mk H
                                clear H
                                go_wp2
                                go_meet
                                case rel => exact ⟨_, (true), (by first | rfl | (simp; done) | (simp [*]; done)), H', ⟨by have := HJ3.out; have := HK2.out; have := HJ10.out; first | omega | exact Nat.le_refl _⟩, ⟨by (with_reducible repeat (first | apply Kd.V_alloc | apply Kd.V_drewN | apply Kd.V_drew)); exact Kd.V_mono HO_0.out (fun _ hk => ⟨hk.1.1.1, ⟨hk.1.1.2, ⟨hk.1.2, hk.2⟩⟩⟩)⟩, ⟨by (with_reducible repeat (first | apply Kd.V_alloc | apply Kd.V_drewN | apply Kd.V_drew)); exact Kd.V_mono HO_7.out (fun _ hk => ⟨hk.1.1.1, ⟨hk.1.1.2, ⟨hk.1.2, hk.2⟩⟩⟩)⟩, ⟨by (with_reducible repeat (first | apply Kd.R_alloc | apply Kd.R_drewN | apply Kd.R_drew)); exact HO_8.out⟩, ⟨by (with_reducible repeat (first | apply Kd.S_alloc | apply Kd.S_drewN | apply Kd.S_drew)); exact Kd.S_mono HO1074.out (fun _ hk => hk.1)⟩, ⟨by (with_reducible repeat (first | apply Kd.R_alloc | apply Kd.R_drewN | apply Kd.R_drew)); exact Kd.R_mono HO1079.out (fun _ hk => ⟨hk.1.1, hk.2⟩)⟩, ⟨by repeat (first | (with_reducible first | exact HB.out | apply below_alloc | apply pw_below_drewN | apply below_drew1) | exact HB.out)⟩⟩
                          · as_aux_lemma =>
                            rw [if_neg c24] at H
                            have c24b0 : (t1072 == 0) = false := beq_eq_false_iff_ne.mpr c24
                            have c24b1 : (t1072 != 0) = true := bne_iff_ne.mpr c24
                            (first | rw [c24b0] | (simp only [i64_w, i32_w]; rw [c24b0]) | skip)
                            by_cases c28 : t1072 = t1077
                            · rw [if_pos c28] at H
                              have c28b0 : (t1072 == t1077) = true := beq_iff_eq.mpr c28
                              have c28b1 : (t1072 != t1077) = false := bne_eq_false_iff_eq.mpr c28
                              clear c28
                              by_cases c29 : t1077 = 0
                              · rw [if_pos c29] at H
                                have c29b0 : (t1077 == 0) = true := beq_iff_eq.mpr c29
                                have c29b1 : (t1077 != 0) = false := bne_eq_false_iff_eq.mpr c29
                                clear c29
                                have H' := Aside0.mk H
                                clear H
                                go_wp2
                                go_meet
                                case rel => exact ⟨_, (false), (by first | rfl | (simp; done) | (simp [*]; done)), H', ⟨by have := HJ3.out; have := HK2.out; have := HJ10.out; first | omega | exact Nat.le_refl _⟩, ⟨by (with_reducible repeat (first | apply Kd.V_alloc | apply Kd.V_drewN | apply Kd.V_drew)); exact Kd.V_mono HO_0.out (fun _ hk => ⟨hk.1.1.1, ⟨hk.1.1.2, ⟨hk.1.2, hk.2⟩⟩⟩)⟩, ⟨by (with_reducible repeat (first | apply Kd.V_alloc | apply Kd.V_drewN | apply Kd.V_drew)); exact Kd.V_mono HO_7.out (fun _ hk => ⟨hk.1.1.1, ⟨hk.1.1.2, ⟨hk.1.2, hk.2⟩⟩⟩)⟩, ⟨by (with_reducible repeat (first | apply Kd.R_alloc | apply Kd.R_drewN | apply Kd.R_drew)); exact HO_8.out⟩, ⟨by (with_reducible repeat (first | apply Kd.S_alloc | apply Kd.S_drewN | apply Kd.S_drew)); exact Kd.S_mono HO1074.out (fun _ hk => hk.1)⟩, ⟨by (with_reducible repeat (first | apply Kd.R_alloc | apply Kd.R_drewN | apply Kd.R_drew)); exact Kd.R_mono HO1079.out (fun _ hk => ⟨hk.1.1, hk.2⟩)⟩, ⟨by repeat (first | (with_reducible first | exact HB.out | apply below_alloc | apply pw_below_drewN | apply below_drew1) | exact HB.out)⟩⟩
                              · rw [if_neg c29] at H
                                have c29b0 : (t1077 == 0) = false := beq_eq_false_iff_ne.mpr c29
                                have c29b1 : (t1077 != 0) = true := bne_iff_ne.mpr c29
                                have H' := Aside0.mk H
                                clear H
                                obtain ⟨Ao30, co30, eo30⟩ := Kd.R_slice HO1079.out
                                subst eo30
                                go_wp2
                                go_meet
                                case rel => exact ⟨_, (((t1076.length : Int) != 0)), (by first | rfl | (simp; done) | (simp [*]; done)), H', ⟨by have := HJ3.out; have := HK2.out; have := HJ10.out; first | omega | exact Nat.le_refl _⟩, ⟨by (with_reducible repeat (first | apply Kd.V_alloc | apply Kd.V_drewN | apply Kd.V_drew)); exact Kd.V_mono HO_0.out (fun _ hk => ⟨hk.1.1.1, ⟨hk.1.1.2, ⟨hk.1.2, hk.2⟩⟩⟩)⟩, ⟨by (with_reducible repeat (first | apply Kd.V_alloc | apply Kd.V_drewN | apply Kd.V_drew)); exact Kd.V_mono HO_7.out (fun _ hk => ⟨hk.1.1.1, ⟨hk.1.1.2, ⟨hk.1.2, hk.2⟩⟩⟩)⟩, ⟨by (with_reducible repeat (first | apply Kd.R_alloc | apply Kd.R_drewN | apply Kd.R_drew)); exact HO_8.out⟩, ⟨by (with_reducible repeat (first | apply Kd.S_alloc | apply Kd.S_drewN | apply Kd.S_drew)); exact Kd.S_mono HO1074.out (fun _ hk => hk.1)⟩, ⟨by (with_reducible repeat (first | apply Kd.R_alloc | apply Kd.R_drewN | apply Kd.R_drew)); exact Kd.R_mono HO1079.out (fun _ hk => ⟨hk.1.1, hk.2⟩)⟩, ⟨by repeat (first | (with_reducible first | exact HB.out | apply below_alloc | apply pw_below_drewN | apply below_drew1) | exact HB.out)⟩⟩
                            · rw [if_neg c28] at H
                              have c28b0 : (t1072 == t1077) = false := beq_eq_false_iff_ne.mpr c28
                              have c28b1 : (t1072 != t1077) = true := bne_iff_ne.mpr c28
                              have H' := Aside0.mk H
                              clear H
                              go_wp2
                              go_meet
                              case rel => exact ⟨_, (true), (by first | rfl | (simp; done) | (simp [*]; done)), H', ⟨by have := HJ3.out; have := HK2.out; have := HJ10.out; first | omega | exact Nat.le_refl _⟩, ⟨by (with_reducible repeat (first | apply Kd.V_alloc | apply Kd.V_drewN | apply Kd.V_drew)); exact Kd.V_mono HO_0.out (fun _ hk => ⟨hk.1.1.1, ⟨hk.1.1.2, ⟨hk.1.2, hk.2⟩⟩⟩)⟩, ⟨by (with_reducible repeat (first | apply Kd.V_alloc | apply Kd.V_drewN | apply Kd.V_drew)); exact Kd.V_mono HO_7.out (fun _ hk => ⟨hk.1.1.1, ⟨hk.1.1.2, ⟨hk.1.2, hk.2⟩⟩⟩)⟩, ⟨by (with_reducible repeat (first | apply Kd.R_alloc | apply Kd.R_drewN | apply Kd.R_drew)); exact HO_8.out⟩, ⟨by (with_reducible repeat (first | apply Kd.S_alloc | apply Kd.S_drewN | apply Kd.S_drew)); exact Kd.S_mono HO1074.out (fun _ hk => hk.1)⟩, ⟨by (with_reducible repeat (first | apply Kd.R_alloc | apply Kd.R_drewN | apply Kd.R_drew)); exact Kd.R_mono HO1079.out (fun _ hk => ⟨hk.1.1, hk.2⟩)⟩, ⟨by repeat (first | (with_reducible first | exact HB.out | apply below_alloc | apply pw_below_drewN | apply below_drew1) | exact HB.out)⟩⟩
                        case rest =>
                          clear HC19
                          try clear c1
                          try clear p1
                          try clear q1
                          try clear hx1
                          try clear c2
                          try clear p2
                          try clear c3
                          try clear c5
                          try clear c6
                          try clear p6
                          try clear c8
                          try clear c10
                          try clear p10
                          try clear q10
                          try clear hx10
                          try clear c12
                          try clear c12b0
                          try clear c13
                          try clear c14
                          try clear c14b0
                          try clear c15
                          try clear c15b0
                          try clear c16
                          try clear c16b0
                          try clear c16b1
                          try clear c24
                          try clear c24b0
                          try clear c24b1
                          try clear c25
                          try clear c25b0
                          try clear c25b1
                          try clear c26
                          try clear c26b0
                          try clear c26b1
                          try clear c28
                          try clear c28b0
                          try clear c28b1
                          try clear c29
                          try clear c29b0
                          try clear c29b1
                          try clear hx1069_0
                          try clear hx1070_0
                          try clear hx1075_0
                          try clear p1069
                          try clear p1070
                          try clear p1075
                          try clear p2
                          try clear q1069
                          try clear q1070
                          try clear q1075
                          obtain ⟨kq, x89_18, rfl, HA, HJ18, HO_0, HO_7, HO_8, HO_10, HO_12, HB⟩ := hcut
                          cases kq with
                          | zero => exact absurd HA.out (by simp [counterfoillaw09_SnapStays.j3])
                          | succ kj18 =>
                            have H := HA.out
                            clear HA
                            simp only [counterfoillaw09_SnapStays.j3] at H
                            by_cases c31 : x89_18 = true
                            · subst c31
                              have H1 : (some false) = some r := by rw [if_pos rfl] at H; exact H
                              clear H
                              have H := H1
                              clear H1
                              obtain rfl := Option.some.inj H
                              go_wp2
                              go_ret
                              exact ⟨by first | rfl | (simp [errW_none, errW_some] <;> rfl) | (simp [*, errW_none, errW_some] <;> rfl), by repeat (first | (with_reducible first | exact HB.out | apply below_alloc | apply pw_below_drewN | apply below_drew1) | exact HB.out)⟩
                            · replace c31 := Bool.eq_false_iff.mpr c31
                              subst c31
                              have H1 : (if t1077 = 0 then (if (t1076.length : Int) > a2 then (counterfoillaw09_SnapStays.j4 kj18 l0 l1 a2 x9_2 t1071 t1076 true) else (counterfoillaw09_SnapStays.j4 kj18 l0 l1 a2 x9_2 t1071 t1076 (decide ((t1076.length : Int) < (x8_2.length : Int))))) else (counterfoillaw09_SnapStays.l0 kj18 l0 l1 a2 x7_2 x8_2 (wrap64 (x9_2 + 1)))) = some r := by rw [if_neg (show ¬ (false = true) by decide)] at H; exact H
                              clear H
                              have H := H1
                              clear H1
                              by_cases c32 : t1077 = 0
                              · as_aux_lemma =>
                                rw [if_pos c32] at H
                                have c32b0 : (t1077 == 0) = true := beq_iff_eq.mpr c32
                                have c32b1 : (t1077 != 0) = false := bne_eq_false_iff_eq.mpr c32
                                clear c32
                                have HC33 := Aside0.mk H
                                clear H
                                go_upto_region 14 with (fail)
                                go_cut [102] (fun v102 wc => ∃ (kq : Nat) (x102_32 : Bool), v102 = .bool x102_32 ∧ Aside0 (counterfoillaw09_SnapStays.j4 kq l0 l1 a2 x9_2 t1071 t1076 x102_32 = some r) ∧ Aside0 (kq ≤ kj18) ∧ Aside0 (Kd.V k49 49 wc w.heap.size (fun k_ => (P0_ k_ ∨ w.heap.size ≤ k_) ∧ some k_ ≠ (v1073 : Value).ownBlock ∧ some k_ ≠ (v1078 : Value).ownBlock) (.slice A0 l0.length c0) l0) ∧ Aside0 (Kd.S k49 49 wc w.heap.size (fun k_ => (w.heap.size ≤ k_)) v1073 t1071) ∧ Aside0 (Kd.R k74 74 wc w.heap.size (fun k_ => (w.heap.size ≤ k_)) v1078 t1076) ∧ Aside0 (Below w.heap.size w wc))
                                case first =>
                                  have H := HC33.out
                                  clear HC33
                                  by_cases c34 : (t1076.length : Int) > a2
                                  · rw [if_pos c34] at H
                                    have c34b0 : decide (a2 < (t1076.length : Int)) = true := decide_eq_true c34
                                    clear c34
                                    (first | rw [c34b0] | (simp only [i64_w, i32_w]; rw [c34b0]) | skip)
                                    have H' := Aside0.mk H
                                    clear H
                                    obtain ⟨Ao35, co35, eo35⟩ := Kd.R_slice HO_12.out
                                    subst eo35
                                    go_wp2
                                    go_meet
                                    case rel => exact ⟨_, (true), (by first | rfl | (simp; done) | (simp [*]; done)), H', ⟨by have := HJ3.out; have := HK2.out; have := HJ10.out; have := HJ18.out; first | omega | exact Nat.le_refl _⟩, ⟨by (with_reducible repeat (first | apply Kd.V_alloc | apply Kd.V_drewN | apply Kd.V_drew)); exact Kd.V_mono HO_0.out (fun _ hk => ⟨hk.1, ⟨hk.2.2.1, hk.2.2.2⟩⟩)⟩, ⟨by (with_reducible repeat (first | apply Kd.S_alloc | apply Kd.S_drewN | apply Kd.S_drew)); exact HO_10.out⟩, ⟨by (with_reducible repeat (first | apply Kd.R_alloc | apply Kd.R_drewN | apply Kd.R_drew)); exact Kd.R_mono HO_12.out (fun _ hk => hk.1)⟩, ⟨by repeat (first | (with_reducible first | exact HB.out | apply below_alloc | apply pw_below_drewN | apply below_drew1) | exact HB.out)⟩⟩
                                  · rw [if_neg c34] at H
                                    have c34b0 : decide (a2 < (t1076.length : Int)) = false := decide_eq_false c34
                                    clear c34
                                    (first | rw [c34b0] | (simp only [i64_w, i32_w]; rw [c34b0]) | skip)
                                    have H' := Aside0.mk H
                                    clear H
                                    obtain ⟨Ao36, co36, eo36⟩ := Kd.R_slice HO_12.out
                                    subst eo36
                                    go_wp2
                                    go_meet
                                    case rel => exact ⟨_, (decide ((t1076.length : Int) < (x8_2.length : Int))), (by first | rfl | (simp; done) | (simp [*]; done)), H', ⟨by have := HJ3.out; have := HK2.out; have := HJ10.out; have := HJ18.out; first | omega | exact Nat.le_refl _⟩, ⟨by (with_reducible repeat (first | apply Kd.V_alloc | apply Kd.V_drewN | apply Kd.V_drew)); exact Kd.V_mono HO_0.out (fun _ hk => ⟨hk.1, ⟨hk.2.2.1, hk.2.2.2⟩⟩)⟩, ⟨by (with_reducible repeat (first | apply Kd.S_alloc | apply Kd.S_drewN | apply Kd.S_drew)); exact HO_10.out⟩, ⟨by (with_reducible repeat (first | apply Kd.R_alloc | apply Kd.R_drewN | apply Kd.R_drew)); exact Kd.R_mono HO_12.out (fun _ hk => hk.1)⟩, ⟨by repeat (first | (with_reducible first | exact HB.out | apply below_alloc | apply pw_below_drewN | apply below_drew1) | exact HB.out)⟩⟩
                                case rest =>
                                  clear HC33
                                  try clear c1
                                  try clear p1
                                  try clear q1
                                  try clear hx1
                                  try clear c2
                                  try clear p2
                                  try clear c3
                                  try clear c5
                                  try clear c6
                                  try clear p6
                                  try clear c8
                                  try clear c10
                                  try clear p10
                                  try clear q10
                                  try clear hx10
                                  try clear c12
                                  try clear c12b0
                                  try clear c13
                                  try clear c14
                                  try clear c14b0
                                  try clear c15
                                  try clear c15b0
                                  try clear c16
                                  try clear c16b0
                                  try clear c16b1
                                  try clear c24
                                  try clear c24b0
                                  try clear c24b1
                                  try clear c25
                                  try clear c25b0
                                  try clear c25b1
                                  try clear c26
                                  try clear c26b0
                                  try clear c26b1
                                  try clear c28
                                  try clear c28b0
                                  try clear c28b1
                                  try clear c29
                                  try clear c29b0
                                  try clear c29b1
                                  try clear c31
                                  try clear c32
                                  try clear c32b0
                                  try clear c32b1
                                  try clear c34
                                  try clear c34b0
                                  try clear hx1069_0
                                  try clear hx1070_0
                                  try clear hx1075_0
                                  try clear p1
                                  try clear p10
                                  try clear p1069
                                  try clear p1070
                                  try clear p1075
                                  try clear p2
                                  try clear p6
                                  try clear q1
                                  try clear q10
                                  try clear q1069
                                  try clear q1070
                                  try clear q1075
                                  obtain ⟨kq, x102_32, rfl, HA, HJ32, HO_0, HO_10, HO_12, HB⟩ := hcut
                                  cases kq with
                                  | zero => exact absurd HA.out (by simp [counterfoillaw09_SnapStays.j4])
                                  | succ kj32 =>
                                    have H := HA.out
                                    clear HA
                                    simp only [counterfoillaw09_SnapStays.j4] at H
                                    by_cases c37 : x102_32 = true
                                    · subst c37
                                      have H1 : (some false) = some r := by rw [if_pos rfl] at H; exact H
                                      clear H
                                      have H := H1
                                      clear H1
                                      obtain rfl := Option.some.inj H
                                      go_wp2
                                      go_ret
                                      exact ⟨by first | rfl | (simp [errW_none, errW_some] <;> rfl) | (simp [*, errW_none, errW_some] <;> rfl), by repeat (first | (with_reducible first | exact HB.out | apply below_alloc | apply pw_below_drewN | apply below_drew1) | exact HB.out)⟩
                                    · replace c37 := Bool.eq_false_iff.mpr c37
                                      subst c37
                                      have H1 : ((snap_Back.f kj32 t1076 t1071).bind fun bt1080 => (if bt1080.2 = 0 then ((vols_Same.f bt1080.1 l0).bind fun t1084 => (if t1084 = true then (counterfoillaw09_SnapStays.l0 kj32 l0 l1 a2 t1071 t1076 (wrap64 (x9_2 + 1))) else (some false))) else (some false))) = some r := by rw [if_neg (show ¬ (false = true) by decide)] at H; exact H
                                      clear H
                                      have H := H1
                                      clear H1
                                      replace H := Option.bind_eq_some_iff.mp H
                                      obtain ⟨⟨t1080, t1081⟩, A380, H⟩ := H
                                      replace H : (if t1081 = 0 then ((vols_Same.f t1080 l0).bind fun t1084 => (if t1084 = true then (counterfoillaw09_SnapStays.l0 kj32 l0 l1 a2 t1071 t1076 (wrap64 (x9_2 + 1))) else (some false))) else (some false)) = some r := H
                                      have A38 := Aside0.mk A380
                                      clear A380
                                      by_cases c39 : t1081 = 0
                                      · as_aux_lemma =>
                                        rw [if_pos c39] at H
                                        have c39b0 : (t1081 == 0) = true := beq_iff_eq.mpr c39
                                        have c39b1 : (t1081 != 0) = false := bne_eq_false_iff_eq.mpr c39
                                        clear c39
                                        replace H := Option.bind_eq_some_iff.mp H
                                        obtain ⟨t1084, A400, H⟩ := H
                                        replace H : (if t1084 = true then (counterfoillaw09_SnapStays.l0 kj32 l0 l1 a2 t1071 t1076 (wrap64 (x9_2 + 1))) else (some false)) = some r := H
                                        have A40 := Aside0.mk A400
                                        clear A400
                                        by_cases c41 : t1084 = true
                                        · subst c41
                                          have H1 : (counterfoillaw09_SnapStays.l0 kj32 l0 l1 a2 t1071 t1076 (wrap64 (x9_2 + 1))) = some r := by rw [if_pos rfl] at H; exact H
                                          clear H
                                          have H := H1
                                          clear H1
                                          have H' := Aside0.mk H
                                          clear H
                                          obtain ⟨Ao42, co42, eo42⟩ := Kd.R_slice HO_12.out
                                          subst eo42
                                          obtain ⟨Ao43, co43, eo43⟩ := Kd.S_slice HO_10.out
                                          subst eo43
                                          go_wp2_with (first | ((with_reducible refine gate_callee (f := 93) rfl ?_); refine goesL_ (some 108) rfl rfl Try.func93 (by kernel_rfl) rfl #[.slice Ao42 t1076.length co42, .slice Ao43 t1071.length co43] rfl (by (try simp only [List.map_toArray, List.map_cons, List.map_nil]); first | done | rfl | (simp only [List.length_drop, List.length_take]; rfl)) ?_; (with_reducible refine (snap_Back.calls kj32 _ _ t1076 _ _ t1071 t1080 t1081 _ ?side1 ?side2 ?side3 ?side4 A38.out).mono ?_); (case side1 => repeat (first | exact (Kd.R_reads' HO_12.out).2.2 | (with_reducible refine Kd.C_alloc ?_ _) | (with_reducible refine Kd.C_drewN ?_ _) | (with_reducible refine Kd.C_drew ?_))); (case side2 => exact (Kd.R_reads' HO_12.out).2.1); (case side3 => repeat (first | exact (Kd.S_reads' HO_10.out).2.2 | (with_reducible refine Kd.C_alloc ?_ _) | (with_reducible refine Kd.C_drewN ?_ _) | (with_reducible refine Kd.C_drew ?_))); (case side4 => exact (Kd.S_reads' HO_10.out).2.1); rintro e w44 ⟨v1082, rfl, ho0, hb⟩; refine ⟨_, rfl, ?_⟩; have n0_ := Aside0.mk (Kd.V_elder' (by (with_reducible repeat (first | apply Kd.V_alloc | apply Kd.V_drewN | apply Kd.V_drew)); exact HO_0.out) (Kd.S_base ho0) hb); have n1_ := Aside0.mk (Kd.S_elder' (by (with_reducible repeat (first | apply Kd.S_alloc | apply Kd.S_drewN | apply Kd.S_drew)); exact HO_10.out) (Kd.S_base ho0) hb); have n2_ := Aside0.mk (Kd.R_below (by (with_reducible repeat (first | apply Kd.R_alloc | apply Kd.R_drewN | apply Kd.R_drew)); exact HO_12.out) hb); have n3_ := Aside0.mk (Kd.S_lower (Kd.S_new' (Kd.S_newM (M := fun k_ => (w.heap.size ≤ k_)) ho0 (below_size (by repeat (first | (with_reducible first | exact HB.out | apply below_alloc | apply pw_below_drewN | apply below_drew1) | exact HB.out))) (fun k_ h_ => h_)) (Kd.S_lt (by (with_reducible repeat (first | apply Kd.S_alloc | apply Kd.S_drewN | apply Kd.S_drew)); exact HO_10.out))) (below_size (by repeat (first | (with_reducible first | exact HB.out | apply below_alloc | apply pw_below_drewN | apply below_drew1) | exact HB.out)))); have n4_ := Aside0.mk (below_step (by repeat (first | (with_reducible first | exact HB.out | apply below_alloc | apply pw_below_drewN | apply below_drew1) | exact HB.out)) hb); clear HO_0; clear HO_10; clear HO_12; clear HB; have HO_0 := n0_; have HO_10 := n1_; have HO_12 := n2_; have HO1083 := n3_; have HB := n4_; clear n0_ n1_ n2_ n3_ n4_; (try clear hb); (try clear hb2); (try clear hk); (try clear hi); (try clear ho0); obtain ⟨Ao45, co45, eo45⟩ := Kd.S_slice HO1083.out; subst eo45) | (go_at_call 51; (with_reducible refine (vols_Same.calls _ _ t1080 _ _ l0 true _ ?side1 ?side2 ?side3 ?side4 A40.out).mono ?_); (case side1 => repeat (first | exact (Kd.S_reads' HO1083.out).2.2 | (with_reducible refine Kd.C_alloc ?_ _) | (with_reducible refine Kd.C_drewN ?_ _) | (with_reducible refine Kd.C_drew ?_))); (case side2 => exact (Kd.S_reads' HO1083.out).2.1); (case side3 => repeat (first | exact (Kd.V_reads' HO_0.out).2.2 | (with_reducible refine Kd.C_alloc ?_ _) | (with_reducible refine Kd.C_drewN ?_ _) | (with_reducible refine Kd.C_drew ?_))); (case side4 => exact (Kd.V_reads' HO_0.out).2.1); rintro e w46 ⟨rfl, hb⟩; have n0_ := Aside0.mk (Kd.V_below (by (with_reducible repeat (first | apply Kd.V_alloc | apply Kd.V_drewN | apply Kd.V_drew)); exact HO_0.out) hb); have n1_ := Aside0.mk (Kd.S_below (by (with_reducible repeat (first | apply Kd.S_alloc | apply Kd.S_drewN | apply Kd.S_drew)); exact HO_10.out) hb); have n2_ := Aside0.mk (Kd.R_below (by (with_reducible repeat (first | apply Kd.R_alloc | apply Kd.R_drewN | apply Kd.R_drew)); exact HO_12.out) hb); have n3_ := Aside0.mk (Kd.S_below (by (with_reducible repeat (first | apply Kd.S_alloc | apply Kd.S_drewN | apply Kd.S_drew)); exact HO1083.out) hb); have n4_ := Aside0.mk (below_step (by repeat (first | (with_reducible first | exact HB.out | apply below_alloc | apply pw_below_drewN | apply below_drew1) | exact HB.out)) hb); clear HO_0; clear HO_10; clear HO_12; clear HO1083; clear HB; have HO_0 := n0_; have HO_10 := n1_; have HO_12 := n2_; have HO1083 := n3_; have HB := n4_; clear n0_ n1_ n2_ n3_ n4_; (try clear hb); (try clear hb2); (try clear hk); (try clear hi)))
                                          go_roundg kj32
                                          case measure => have := HJ3.out; have := HK2.out; have := HJ10.out; have := HJ18.out; have := HJ32.out; omega
                                          case rel => exact ⟨(t1071), (t1076), (wrap64 (x9_2 + 1)), (by first | rfl | (simp; done) | (simp [*]; done)), H', ⟨by have := HJ3.out; have := HK2.out; have := HJ10.out; have := HJ18.out; have := HJ32.out; omega⟩, ⟨by (with_reducible repeat (first | apply Kd.V_alloc | apply Kd.V_drewN | apply Kd.V_drew)); exact Kd.V_mono HO_0.out (fun _ hk => ⟨hk.1.1, hk.1.2.2⟩)⟩, ⟨Kd.V_mono (Kd.S_V (by (with_reducible repeat (first | apply Kd.S_alloc | apply Kd.S_drewN | apply Kd.S_drew)); exact Kd.S_mono (ok' := fun k => w.heap.size ≤ k ∧ some k ≠ (Value.slice Ao42 t1076.length co42).ownBlock) (Kd.S_apart' HO_10.out (Kd.R_typed HO_12.out) (by decide)) (fun _ hk => ⟨hk.1.1, hk.2⟩))) (fun k_ hk => by first | exact ⟨(.inr (hk.1)), hk.2⟩ | exact (.inr (hk)))⟩, ⟨by (with_reducible repeat (first | apply Kd.R_alloc | apply Kd.R_drewN | apply Kd.R_drew)); exact HO_12.out⟩, ⟨by repeat (first | (with_reducible first | exact HB.out | apply below_alloc | apply pw_below_drewN | apply below_drew1) | exact HB.out)⟩⟩
                                        · replace c41 := Bool.eq_false_iff.mpr c41
                                          subst c41
                                          have H1 : (some false) = some r := by rw [if_neg (show ¬ (false = true) by decide)] at H; exact H
                                          clear H
                                          have H := H1
                                          clear H1
                                          obtain rfl := Option.some.inj H
                                          obtain ⟨Ao47, co47, eo47⟩ := Kd.R_slice HO_12.out
                                          subst eo47
                                          obtain ⟨Ao48, co48, eo48⟩ := Kd.S_slice HO_10.out
                                          subst eo48
                                          go_wp2_with (first | ((with_reducible refine gate_callee (f := 93) rfl ?_); refine goesL_ (some 108) rfl rfl Try.func93 (by kernel_rfl) rfl #[.slice Ao47 t1076.length co47, .slice Ao48 t1071.length co48] rfl (by (try simp only [List.map_toArray, List.map_cons, List.map_nil]); first | done | rfl | (simp only [List.length_drop, List.length_take]; rfl)) ?_; (with_reducible refine (snap_Back.calls kj32 _ _ t1076 _ _ t1071 t1080 t1081 _ ?side1 ?side2 ?side3 ?side4 A38.out).mono ?_); (case side1 => repeat (first | exact (Kd.R_reads' HO_12.out).2.2 | (with_reducible refine Kd.C_alloc ?_ _) | (with_reducible refine Kd.C_drewN ?_ _) | (with_reducible refine Kd.C_drew ?_))); (case side2 => exact (Kd.R_reads' HO_12.out).2.1); (case side3 => repeat (first | exact (Kd.S_reads' HO_10.out).2.2 | (with_reducible refine Kd.C_alloc ?_ _) | (with_reducible refine Kd.C_drewN ?_ _) | (with_reducible refine Kd.C_drew ?_))); (case side4 => exact (Kd.S_reads' HO_10.out).2.1); rintro e w49 ⟨v1082, rfl, ho0, hb⟩; refine ⟨_, rfl, ?_⟩; have n0_ := Aside0.mk (Kd.V_elder' (by (with_reducible repeat (first | apply Kd.V_alloc | apply Kd.V_drewN | apply Kd.V_drew)); exact HO_0.out) (Kd.S_base ho0) hb); have n1_ := Aside0.mk (Kd.S_elder' (by (with_reducible repeat (first | apply Kd.S_alloc | apply Kd.S_drewN | apply Kd.S_drew)); exact HO_10.out) (Kd.S_base ho0) hb); have n2_ := Aside0.mk (Kd.R_below (by (with_reducible repeat (first | apply Kd.R_alloc | apply Kd.R_drewN | apply Kd.R_drew)); exact HO_12.out) hb); have n3_ := Aside0.mk (Kd.S_lower (Kd.S_new' (Kd.S_newM (M := fun k_ => (w.heap.size ≤ k_)) ho0 (below_size (by repeat (first | (with_reducible first | exact HB.out | apply below_alloc | apply pw_below_drewN | apply below_drew1) | exact HB.out))) (fun k_ h_ => h_)) (Kd.S_lt (by (with_reducible repeat (first | apply Kd.S_alloc | apply Kd.S_drewN | apply Kd.S_drew)); exact HO_10.out))) (below_size (by repeat (first | (with_reducible first | exact HB.out | apply below_alloc | apply pw_below_drewN | apply below_drew1) | exact HB.out)))); have n4_ := Aside0.mk (below_step (by repeat (first | (with_reducible first | exact HB.out | apply below_alloc | apply pw_below_drewN | apply below_drew1) | exact HB.out)) hb); clear HO_0; clear HO_10; clear HO_12; clear HB; have HO_0 := n0_; have HO_10 := n1_; have HO_12 := n2_; have HO1083 := n3_; have HB := n4_; clear n0_ n1_ n2_ n3_ n4_; (try clear hb); (try clear hb2); (try clear hk); (try clear hi); (try clear ho0); obtain ⟨Ao50, co50, eo50⟩ := Kd.S_slice HO1083.out; subst eo50) | (go_at_call 51; (with_reducible refine (vols_Same.calls _ _ t1080 _ _ l0 false _ ?side1 ?side2 ?side3 ?side4 A40.out).mono ?_); (case side1 => repeat (first | exact (Kd.S_reads' HO1083.out).2.2 | (with_reducible refine Kd.C_alloc ?_ _) | (with_reducible refine Kd.C_drewN ?_ _) | (with_reducible refine Kd.C_drew ?_))); (case side2 => exact (Kd.S_reads' HO1083.out).2.1); (case side3 => repeat (first | exact (Kd.V_reads' HO_0.out).2.2 | (with_reducible refine Kd.C_alloc ?_ _) | (with_reducible refine Kd.C_drewN ?_ _) | (with_reducible refine Kd.C_drew ?_))); (case side4 => exact (Kd.V_reads' HO_0.out).2.1); rintro e w51 ⟨rfl, hb⟩; have n0_ := Aside0.mk (Kd.V_below (by (with_reducible repeat (first | apply Kd.V_alloc | apply Kd.V_drewN | apply Kd.V_drew)); exact HO_0.out) hb); have n1_ := Aside0.mk (Kd.S_below (by (with_reducible repeat (first | apply Kd.S_alloc | apply Kd.S_drewN | apply Kd.S_drew)); exact HO_10.out) hb); have n2_ := Aside0.mk (Kd.R_below (by (with_reducible repeat (first | apply Kd.R_alloc | apply Kd.R_drewN | apply Kd.R_drew)); exact HO_12.out) hb); have n3_ := Aside0.mk (Kd.S_below (by (with_reducible repeat (first | apply Kd.S_alloc | apply Kd.S_drewN | apply Kd.S_drew)); exact HO1083.out) hb); have n4_ := Aside0.mk (below_step (by repeat (first | (with_reducible first | exact HB.out | apply below_alloc | apply pw_below_drewN | apply below_drew1) | exact HB.out)) hb); clear HO_0; clear HO_10; clear HO_12; clear HO1083; clear HB; have HO_0 := n0_; have HO_10 := n1_; have HO_12 := n2_; have HO1083 := n3_; have HB := n4_; clear n0_ n1_ n2_ n3_ n4_; (try clear hb); (try clear hb2); (try clear hk); (try clear hi)))
                                          go_ret
                                          exact ⟨by first | rfl | (simp [errW_none, errW_some] <;> rfl) | (simp [*, errW_none, errW_some] <;> rfl), by repeat (first | (with_reducible first | exact HB.out | apply below_alloc | apply pw_below_drewN | apply below_drew1) | exact HB.out)⟩
                                      · rw [if_neg c39] at H
                                        have c39b0 : (t1081 == 0) = false := beq_eq_false_iff_ne.mpr c39
                                        have c39b1 : (t1081 != 0) = true := bne_iff_ne.mpr c39
                                        obtain rfl := Option.some.inj H
                                        obtain ⟨Ao52, co52, eo52⟩ := Kd.R_slice HO_12.out
                                        subst eo52
                                        obtain ⟨Ao53, co53, eo53⟩ := Kd.S_slice HO_10.out
                                        subst eo53
                                        go_wp2_with (first | ((with_reducible refine gate_callee (f := 93) rfl ?_); refine goesL_ (some 108) rfl rfl Try.func93 (by kernel_rfl) rfl #[.slice Ao52 t1076.length co52, .slice Ao53 t1071.length co53] rfl (by (try simp only [List.map_toArray, List.map_cons, List.map_nil]); first | done | rfl | (simp only [List.length_drop, List.length_take]; rfl)) ?_; (with_reducible refine (snap_Back.calls kj32 _ _ t1076 _ _ t1071 t1080 t1081 _ ?side1 ?side2 ?side3 ?side4 A38.out).mono ?_); (case side1 => repeat (first | exact (Kd.R_reads' HO_12.out).2.2 | (with_reducible refine Kd.C_alloc ?_ _) | (with_reducible refine Kd.C_drewN ?_ _) | (with_reducible refine Kd.C_drew ?_))); (case side2 => exact (Kd.R_reads' HO_12.out).2.1); (case side3 => repeat (first | exact (Kd.S_reads' HO_10.out).2.2 | (with_reducible refine Kd.C_alloc ?_ _) | (with_reducible refine Kd.C_drewN ?_ _) | (with_reducible refine Kd.C_drew ?_))); (case side4 => exact (Kd.S_reads' HO_10.out).2.1); rintro e w54 ⟨v1082, rfl, ho0, hb⟩; refine ⟨_, rfl, ?_⟩; have n0_ := Aside0.mk (Kd.V_elder' (by (with_reducible repeat (first | apply Kd.V_alloc | apply Kd.V_drewN | apply Kd.V_drew)); exact HO_0.out) (Kd.S_base ho0) hb); have n1_ := Aside0.mk (Kd.S_elder' (by (with_reducible repeat (first | apply Kd.S_alloc | apply Kd.S_drewN | apply Kd.S_drew)); exact HO_10.out) (Kd.S_base ho0) hb); have n2_ := Aside0.mk (Kd.R_below (by (with_reducible repeat (first | apply Kd.R_alloc | apply Kd.R_drewN | apply Kd.R_drew)); exact HO_12.out) hb); have n3_ := Aside0.mk (Kd.S_lower (Kd.S_new' (Kd.S_newM (M := fun k_ => (w.heap.size ≤ k_)) ho0 (below_size (by repeat (first | (with_reducible first | exact HB.out | apply below_alloc | apply pw_below_drewN | apply below_drew1) | exact HB.out))) (fun k_ h_ => h_)) (Kd.S_lt (by (with_reducible repeat (first | apply Kd.S_alloc | apply Kd.S_drewN | apply Kd.S_drew)); exact HO_10.out))) (below_size (by repeat (first | (with_reducible first | exact HB.out | apply below_alloc | apply pw_below_drewN | apply below_drew1) | exact HB.out)))); have n4_ := Aside0.mk (below_step (by repeat (first | (with_reducible first | exact HB.out | apply below_alloc | apply pw_below_drewN | apply below_drew1) | exact HB.out)) hb); clear HO_0; clear HO_10; clear HO_12; clear HB; have HO_0 := n0_; have HO_10 := n1_; have HO_12 := n2_; have HO1083 := n3_; have HB := n4_; clear n0_ n1_ n2_ n3_ n4_; (try clear hb); (try clear hb2); (try clear hk); (try clear hi); (try clear ho0)))
                                        go_ret
                                        exact ⟨by first | rfl | (simp [errW_none, errW_some] <;> rfl) | (simp [*, errW_none, errW_some] <;> rfl), by repeat (first | (with_reducible first | exact HB.out | apply below_alloc | apply pw_below_drewN | apply below_drew1) | exact HB.out)⟩
                              · rw [if_neg c32] at H
                                have c32b0 : (t1077 == 0) = false := beq_eq_false_iff_ne.mpr c32
                                have c32b1 : (t1077 != 0) = true := bne_iff_ne.mpr c32
                                have H' := Aside0.mk H
                                clear H
                                go_wp2
                                go_roundg kj18
                                case measure => have := HJ3.out; have := HK2.out; have := HJ10.out; have := HJ18.out; omega
                                case rel => exact ⟨(x7_2), (x8_2), (wrap64 (x9_2 + 1)), (by first | rfl | (simp; done) | (simp [*]; done)), H', ⟨by have := HJ3.out; have := HK2.out; have := HJ10.out; have := HJ18.out; omega⟩, ⟨by (with_reducible repeat (first | apply Kd.V_alloc | apply Kd.V_drewN | apply Kd.V_drew)); exact Kd.V_mono HO_0.out (fun _ hk => ⟨hk.1, hk.2.1⟩)⟩, ⟨by (with_reducible repeat (first | apply Kd.V_alloc | apply Kd.V_drewN | apply Kd.V_drew)); exact Kd.V_mono HO_7.out (fun _ hk => ⟨hk.1, hk.2.1⟩)⟩, ⟨by (with_reducible repeat (first | apply Kd.R_alloc | apply Kd.R_drewN | apply Kd.R_drew)); exact Kd.R_mono HO_8.out (fun _ hk => hk.1)⟩, ⟨by repeat (first | (with_reducible first | exact HB.out | apply below_alloc | apply pw_below_drewN | apply below_drew1) | exact HB.out)⟩⟩
                    · rw [if_neg c15] at H
                      exact absurd H (by simp)
                  · rw [if_neg c14] at H
                    exact absurd H (by simp)
                · replace c13 := Bool.eq_false_iff.mpr c13
                  subst c13
                  have H1 : ((counterfoillaw09_awake.f).bind fun t1068 => (some t1068)) = some r := by rw [if_neg (show ¬ (false = true) by decide)] at H; exact H
                  clear H
                  have H := H1
                  clear H1
                  replace H := Option.bind_eq_some_iff.mp H
                  obtain ⟨t1068, A550, H⟩ := H
                  replace H : (some t1068) = some r := H
                  have A55 := Aside0.mk A550
                  clear A550
                  obtain rfl := Option.some.inj H
                  go_wp2_with (first | ((with_reducible refine gate_callee (f := 86) rfl ?_); refine goesL_ (some 119) rfl rfl Try.func86 (by kernel_rfl) rfl #[] rfl (by (try simp only [List.map_toArray, List.map_cons, List.map_nil]); first | done | rfl | (simp only [List.length_drop, List.length_take]; rfl)) ?_; (with_reducible refine (counterfoillaw09_awake.calls  t1068 _ A55.out).mono ?_); rintro e w56 ⟨rfl, hb⟩; refine ⟨_, rfl, ?_⟩; have n0_ := Aside0.mk (Kd.V_below (by (with_reducible repeat (first | apply Kd.V_alloc | apply Kd.V_drewN | apply Kd.V_drew)); exact HO_0.out) hb); have n1_ := Aside0.mk (Kd.V_below (by (with_reducible repeat (first | apply Kd.V_alloc | apply Kd.V_drewN | apply Kd.V_drew)); exact HO_7.out) hb); have n2_ := Aside0.mk (Kd.R_below (by (with_reducible repeat (first | apply Kd.R_alloc | apply Kd.R_drewN | apply Kd.R_drew)); exact HO_8.out) hb); have n3_ := Aside0.mk (below_step (by repeat (first | (with_reducible first | exact HB.out | apply below_alloc | apply pw_below_drewN | apply below_drew1) | exact HB.out)) hb); clear HO_0; clear HO_7; clear HO_8; clear HB; have HO_0 := n0_; have HO_7 := n1_; have HO_8 := n2_; have HB := n3_; clear n0_ n1_ n2_ n3_; (try clear hb); (try clear hb2); (try clear hk); (try clear hi)))
                  go_ret
                  exact ⟨by first | rfl | (simp [errW_none, errW_some] <;> rfl) | (simp [*, errW_none, errW_some] <;> rfl), by repeat (first | (with_reducible first | exact HB.out | apply below_alloc | apply pw_below_drewN | apply below_drew1) | exact HB.out)⟩
def counterfoillaw09_SnapStays.Pure : Prop := ∀ (l0 : List (S49)) (l1 : List (List (S74))) (a2 : Int), (l0.length * 32 ≤ 140737488351232 ∧ l0.length ≤ maxLen ∧ ∀ x ∈ l0, good49 x) → (l1.length * 24 ≤ 140737488351232 ∧ l1.length ≤ maxLen ∧ ∀ x ∈ l1, (fun xs : List (S74) => xs.length * 32 ≤ 140737488351232 ∧ xs.length ≤ maxLen ∧ ∀ x ∈ xs, good74 x) x) → (Lit.int .i64 a2).wf = true → ∃ k, counterfoillaw09_SnapStays.f k l0 l1 a2 = some true
end Go.Proofs.Ythdhkoeaadahaaa.P
