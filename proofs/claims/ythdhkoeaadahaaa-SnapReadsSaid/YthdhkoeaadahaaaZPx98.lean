-- PACKED by wip/kit/pack.py: what the law's proof uses of Px98 (printed words and texts of this seat)
import Derived.Test.YthdhkoeaadahaaaZPx0
import Derived.Test.YthdhkoeaadahaaaZPx13
import Derived.Test.YthdhkoeaadahaaaZPx23
import Derived.Test.YthdhkoeaadahaaaZPx62
namespace Go.Proofs.Ythdhkoeaadahaaa.P
open Go.RowKit Go.Proofs.YthdhkoeaadahaaaW.PrintWords Go.Proofs.YthdhkoeaadahaaaW.PrintLast Go.Proofs.YthdhkoeaadahaaaW.PrintMore
attribute [local go_sem] max2_int min2_int max_two min_two max_three min_three max_four min_four
set_option linter.unusedVariables false
set_option linter.unusedSimpArgs false
def counterfoilref09_Right.f (k : Nat) (l0 : List (S74)) (l1 : List (S49)) : Option (Bool) := (counterfoilref07_Check.f k l1 l0).bind fun t965 => (if t965 = 0 then ((counterfoilref08_Fold.f k l0).bind fun t966 => ((counterfoilref08_Equal.f k l0 t966).bind fun t969 => (some t969))) else (some false))
set_option maxHeartbeats 8000000 in
set_option maxRecDepth 100000 in
theorem counterfoilref09_Right.calls (k : Nat) (A0 : Option Addr) (c0 : Nat) (l0 : List (S74)) (A1 : Option Addr) (c1 : Nat) (l1 : List (S49)) (r : Bool) (w : World) (hr0 : Kd.C k74 w A0 l0.length l0) (hc0 : l0.length ≤ c0) (hr1 : Kd.C k49 w A1 l1.length l1) (hc1 : l1.length ≤ c1) (h : counterfoilref09_Right.f k l0 l1 = some r) :
    Calls Try.prog 90 #[.slice A0 l0.length c0, .slice A1 l1.length c1] w fun e w' => e = .returned (.bool r) ∧ Below w.heap.size w w' := by
  have HR0 := Aside0.mk hr0
  have HC0 := Aside0.mk hc0
  clear hr0 hc0
  have HR1 := Aside0.mk hr1
  have HC1 := Aside0.mk hc1
  clear hr1 hc1
  have HB := Aside0.mk (Below.refl w.heap.size w)
  have H : ((counterfoilref07_Check.f k l1 l0).bind fun t965 => (if t965 = 0 then ((counterfoilref08_Fold.f k l0).bind fun t966 => ((counterfoilref08_Equal.f k l0 t966).bind fun t969 => (some t969))) else (some false))) = some r := h
  clear h
  replace H := Option.bind_eq_some_iff.mp H
  obtain ⟨t965, A30, H⟩ := H
  replace H : (if t965 = 0 then ((counterfoilref08_Fold.f k l0).bind fun t966 => ((counterfoilref08_Equal.f k l0 t966).bind fun t969 => (some t969))) else (some false)) = some r := H
  have A3 := Aside0.mk A30
  clear A30
  by_cases c4 : t965 = 0
  · rw [if_pos c4] at H
    have c4b0 : (t965 == 0) = true := beq_iff_eq.mpr c4
    have c4b1 : (t965 != 0) = false := bne_eq_false_iff_eq.mpr c4
    clear c4
    replace H := Option.bind_eq_some_iff.mp H
    obtain ⟨t966, A50, H⟩ := H
    replace H : ((counterfoilref08_Equal.f k l0 t966).bind fun t969 => (some t969)) = some r := H
    have A5 := Aside0.mk A50
    clear A50
    replace H := Option.bind_eq_some_iff.mp H
    obtain ⟨t969, A60, H⟩ := H
    replace H : (some t969) = some r := H
    have A6 := Aside0.mk A60
    clear A60
    obtain rfl := Option.some.inj H
    go_enter Try.func90, Try.ntmps90
    go_wp2_with (first | ((with_reducible refine gate_callee (f := 107) rfl ?_); refine goesL_ (some 7) rfl rfl Try.func107 (by kernel_rfl) rfl #[.slice A1 l1.length c1, .slice A0 l0.length c0] rfl (by (try simp only [List.map_toArray, List.map_cons, List.map_nil]); first | done | rfl | (simp only [List.length_drop, List.length_take]; rfl)) ?_; (with_reducible refine (counterfoilref07_Check.calls k _ _ l1 _ _ l0 t965 _ ?side1 ?side2 ?side3 ?side4 A3.out).mono ?_); (case side1 => repeat (first | exact HR1.out | (with_reducible refine Kd.C_alloc ?_ _) | (with_reducible refine Kd.C_drewN ?_ _) | (with_reducible refine Kd.C_drew ?_))); (case side2 => exact HC1.out); (case side3 => repeat (first | exact HR0.out | (with_reducible refine Kd.C_alloc ?_ _) | (with_reducible refine Kd.C_drewN ?_ _) | (with_reducible refine Kd.C_drew ?_))); (case side4 => exact HC0.out); rintro e w' ⟨rfl, ⟨nd, rfl⟩⟩; refine ⟨_, rfl, ?_⟩) | (go_at_call 52; (with_reducible refine (counterfoilref08_Fold.calls k _ _ l0 t966 _ ?side1 ?side2 A5.out).mono ?_); (case side1 => repeat (first | exact HR0.out | (with_reducible refine Kd.C_alloc ?_ _) | (with_reducible refine Kd.C_drewN ?_ _) | (with_reducible refine Kd.C_drew ?_))); (case side2 => exact HC0.out); rintro e w7 ⟨v967, rfl, ho0, hb⟩; have n0_ := Aside0.mk (Kd.R_lower ho0 (below_size (by repeat (first | (with_reducible first | exact HB.out | apply below_alloc | apply pw_below_drewN | apply below_drew1) | exact HB.out)))); have n1_ := Aside0.mk (below_step (by repeat (first | (with_reducible first | exact HB.out | apply below_alloc | apply pw_below_drewN | apply below_drew1) | exact HB.out)) hb); clear HB; have HO968 := n0_; have HB := n1_; clear n0_ n1_; (try clear hb); (try clear hb2); (try clear hk); (try clear hi); (try clear ho0); obtain ⟨Ao8, co8, eo8⟩ := Kd.R_slice HO968.out; subst eo8) | (go_at_call 49; (with_reducible refine (counterfoilref08_Equal.calls k _ _ l0 _ _ t966 t969 _ ?side1 ?side2 ?side3 ?side4 A6.out).mono ?_); (case side1 => repeat (first | exact (Kd.C_below HR0.out HB.out) | (with_reducible refine Kd.C_alloc ?_ _) | (with_reducible refine Kd.C_drewN ?_ _) | (with_reducible refine Kd.C_drew ?_))); (case side2 => exact HC0.out); (case side3 => repeat (first | exact (Kd.R_reads' HO968.out).2.2 | (with_reducible refine Kd.C_alloc ?_ _) | (with_reducible refine Kd.C_drewN ?_ _) | (with_reducible refine Kd.C_drew ?_))); (case side4 => exact (Kd.R_reads' HO968.out).2.1); rintro e w' ⟨rfl, ⟨nd, rfl⟩⟩))
    go_ret
    exact ⟨by first | rfl | (simp [errW_none, errW_some] <;> rfl) | (simp [*, errW_none, errW_some] <;> rfl), by repeat (first | (with_reducible first | exact HB.out | apply below_alloc | apply pw_below_drewN | apply below_drew1) | exact HB.out)⟩
  · rw [if_neg c4] at H
    have c4b0 : (t965 == 0) = false := beq_eq_false_iff_ne.mpr c4
    have c4b1 : (t965 != 0) = true := bne_iff_ne.mpr c4
    obtain rfl := Option.some.inj H
    go_enter Try.func90, Try.ntmps90
    go_wp2_with (first | ((with_reducible refine gate_callee (f := 107) rfl ?_); refine goesL_ (some 7) rfl rfl Try.func107 (by kernel_rfl) rfl #[.slice A1 l1.length c1, .slice A0 l0.length c0] rfl (by (try simp only [List.map_toArray, List.map_cons, List.map_nil]); first | done | rfl | (simp only [List.length_drop, List.length_take]; rfl)) ?_; (with_reducible refine (counterfoilref07_Check.calls k _ _ l1 _ _ l0 t965 _ ?side1 ?side2 ?side3 ?side4 A3.out).mono ?_); (case side1 => repeat (first | exact HR1.out | (with_reducible refine Kd.C_alloc ?_ _) | (with_reducible refine Kd.C_drewN ?_ _) | (with_reducible refine Kd.C_drew ?_))); (case side2 => exact HC1.out); (case side3 => repeat (first | exact HR0.out | (with_reducible refine Kd.C_alloc ?_ _) | (with_reducible refine Kd.C_drewN ?_ _) | (with_reducible refine Kd.C_drew ?_))); (case side4 => exact HC0.out); rintro e w' ⟨rfl, ⟨nd, rfl⟩⟩; refine ⟨_, rfl, ?_⟩))
    go_ret
    exact ⟨by first | rfl | (simp [errW_none, errW_some] <;> rfl) | (simp [*, errW_none, errW_some] <;> rfl), by repeat (first | (with_reducible first | exact HB.out | apply below_alloc | apply pw_below_drewN | apply below_drew1) | exact HB.out)⟩
mutual
def counterfoilref09_Note.l0 : Nat → List (S74) → List (S49) → List (S74) → Int → List (S74) → Int → Option ((List (S74)) × Int)
  | 0, _, _, _, _, _, _ => none
  | k + 1, x0, x1, x2, x3, x11, x12 => if x12 < (x1.length : Int) then (counterfoilref09_Note.l1 k x0 x1 x2 x3 x11 x12 0) else (if (x11.length : Int) > x3 then (some (([] : List (S74)), 15)) else (some (x11, 0)))
def counterfoilref09_Note.l1 : Nat → List (S74) → List (S49) → List (S74) → Int → List (S74) → Int → Int → Option ((List (S74)) × Int)
  | 0, _, _, _, _, _, _, _ => none
  | k + 1, x0, x1, x2, x3, x11, x12, x13 => if 0 ≤ x12 then (if x12 < (x1.length : Int) then (if x13 < (((rd_T49 x1 x12).f1).length : Int) then ((counterfoilref07_Last.f k x0 ((rd_T49 x1 x12).f0) x13).bind fun bt974 => ((counterfoilref07_Last.f k x2 ((rd_T49 x1 x12).f0) x13).bind fun bt977 => (if bt974.2 = true then (if x11.length < 4398046511104 then (counterfoilref09_Note.l1 k x0 x1 x2 x3 (x11 ++ [(⟨(rd_T49 x1 x12).f0, x13, bt974.1⟩ : S74)]) x12 (wrap64 (x13 + 1))) else (none)) else (if 0 ≤ x13 then (if bt977.2 = true then (if x11.length < 4398046511104 then (counterfoilref09_Note.l1 k x0 x1 x2 x3 (x11 ++ [(⟨(rd_T49 x1 x12).f0, x13, rdOf ByteArray.empty ((rd_T49 x1 x12).f1) x13⟩ : S74)]) x12 (wrap64 (x13 + 1))) else (none)) else (counterfoilref09_Note.l1 k x0 x1 x2 x3 x11 x12 (wrap64 (x13 + 1)))) else (none))))) else (counterfoilref09_Note.l0 k x0 x1 x2 x3 x11 (wrap64 (x12 + 1)))) else (none)) else (none)
end
def counterfoilref09_Note.f (k : Nat) (l0 : List (S74)) (l1 : List (S49)) (l2 : List (S74)) (a3 : Int) : Option ((List (S74)) × Int) := (counterfoilref09_Right.f k l0 l1).bind fun t970 => (if t970 = true then ((counterfoilref07_Check.f k l1 l2).bind fun t971 => (if t971 = 0 then (counterfoilref09_Note.l0 k l0 l1 l2 a3 ([] : List (S74)) 0) else (some (([] : List (S74)), t971)))) else (some (([] : List (S74)), 1)))
set_option maxHeartbeats 8000000 in
set_option maxRecDepth 100000 in
theorem counterfoilref09_Note.calls (k : Nat) (A0 : Option Addr) (c0 : Nat) (l0 : List (S74)) (A1 : Option Addr) (c1 : Nat) (l1 : List (S49)) (A2 : Option Addr) (c2 : Nat) (l2 : List (S74)) (a3 : Int) (r1 : List (S74)) (r2 : Int) (w : World) (hr0 : Kd.C k74 w A0 l0.length l0) (hc0 : l0.length ≤ c0) (hr1 : Kd.C k49 w A1 l1.length l1) (hc1 : l1.length ≤ c1) (hr2 : Kd.C k74 w A2 l2.length l2) (hc2 : l2.length ≤ c2) (h : counterfoilref09_Note.f k l0 l1 l2 a3 = some (r1, r2)) :
    Calls Try.prog 88 #[.slice A0 l0.length c0, .slice A1 l1.length c1, .slice A2 l2.length c2, .int .i64 a3] w fun e w' => ∃ v0_ : Value, e = .returned (.tuple #[v0_, .int .i64 r2]) ∧ Kd.R k74 74 w' w.heap.size (fun _ => True) v0_ r1 ∧ Below w.heap.size w w' := by
  have hu74 := Try.underlying74
  have HR0 := Aside0.mk hr0
  have HC0 := Aside0.mk hc0
  clear hr0 hc0
  have HR1 := Aside0.mk hr1
  have HC1 := Aside0.mk hc1
  clear hr1 hc1
  have HR2 := Aside0.mk hr2
  have HC2 := Aside0.mk hc2
  clear hr2 hc2
  have HB := Aside0.mk (Below.refl w.heap.size w)
  have H : ((counterfoilref09_Right.f k l0 l1).bind fun t970 => (if t970 = true then ((counterfoilref07_Check.f k l1 l2).bind fun t971 => (if t971 = 0 then (counterfoilref09_Note.l0 k l0 l1 l2 a3 ([] : List (S74)) 0) else (some (([] : List (S74)), t971)))) else (some (([] : List (S74)), 1)))) = some (r1, r2) := h
  clear h
  replace H := Option.bind_eq_some_iff.mp H
  obtain ⟨t970, A50, H⟩ := H
  replace H : (if t970 = true then ((counterfoilref07_Check.f k l1 l2).bind fun t971 => (if t971 = 0 then (counterfoilref09_Note.l0 k l0 l1 l2 a3 ([] : List (S74)) 0) else (some (([] : List (S74)), t971)))) else (some (([] : List (S74)), 1))) = some (r1, r2) := H
  have A5 := Aside0.mk A50
  clear A50
  by_cases c6 : t970 = true
  · subst c6
    have H1 : ((counterfoilref07_Check.f k l1 l2).bind fun t971 => (if t971 = 0 then (counterfoilref09_Note.l0 k l0 l1 l2 a3 ([] : List (S74)) 0) else (some (([] : List (S74)), t971)))) = some (r1, r2) := by rw [if_pos rfl] at H; exact H
    clear H
    have H := H1
    clear H1
    replace H := Option.bind_eq_some_iff.mp H
    obtain ⟨t971, A70, H⟩ := H
    replace H : (if t971 = 0 then (counterfoilref09_Note.l0 k l0 l1 l2 a3 ([] : List (S74)) 0) else (some (([] : List (S74)), t971))) = some (r1, r2) := H
    have A7 := Aside0.mk A70
    clear A70
    by_cases c8 : t971 = 0
    · rw [if_pos c8] at H
      have c8b0 : (t971 == 0) = true := beq_iff_eq.mpr c8
      have c8b1 : (t971 != 0) = false := bne_eq_false_iff_eq.mpr c8
      clear c8
      have H' := Aside0.mk H
      clear H
      go_enter Try.func88, Try.ntmps88
      go_wp2_with (first | ((with_reducible refine gate_callee (f := 90) rfl ?_); refine goesL_ (some 20) rfl rfl Try.func90 (by kernel_rfl) rfl #[.slice A0 l0.length c0, .slice A1 l1.length c1] rfl (by (try simp only [List.map_toArray, List.map_cons, List.map_nil]); first | done | rfl | (simp only [List.length_drop, List.length_take]; rfl)) ?_; (with_reducible refine (counterfoilref09_Right.calls k _ _ l0 _ _ l1 true _ ?side1 ?side2 ?side3 ?side4 A5.out).mono ?_); (case side1 => repeat (first | exact HR0.out | (with_reducible refine Kd.C_alloc ?_ _) | (with_reducible refine Kd.C_drewN ?_ _) | (with_reducible refine Kd.C_drew ?_))); (case side2 => exact HC0.out); (case side3 => repeat (first | exact HR1.out | (with_reducible refine Kd.C_alloc ?_ _) | (with_reducible refine Kd.C_drewN ?_ _) | (with_reducible refine Kd.C_drew ?_))); (case side4 => exact HC1.out); rintro e w9 ⟨rfl, hb⟩; refine ⟨_, rfl, ?_⟩; have n0_ := Aside0.mk (below_step (by repeat (first | (with_reducible first | exact HB.out | apply below_alloc | apply pw_below_drewN | apply below_drew1) | exact HB.out)) hb); clear HB; have HB := n0_; clear n0_; (try clear hb); (try clear hb2); (try clear hk); (try clear hi)) | ((with_reducible refine gate_callee (f := 107) rfl ?_); refine goesL_ (some 24) rfl rfl Try.func107 (by kernel_rfl) rfl #[.slice A1 l1.length c1, .slice A2 l2.length c2] rfl (by (try simp only [List.map_toArray, List.map_cons, List.map_nil]); first | done | rfl | (simp only [List.length_drop, List.length_take]; rfl)) ?_; (with_reducible refine (counterfoilref07_Check.calls k _ _ l1 _ _ l2 t971 _ ?side1 ?side2 ?side3 ?side4 A7.out).mono ?_); (case side1 => repeat (first | exact (Kd.C_below HR1.out HB.out) | (with_reducible refine Kd.C_alloc ?_ _) | (with_reducible refine Kd.C_drewN ?_ _) | (with_reducible refine Kd.C_drew ?_))); (case side2 => exact HC1.out); (case side3 => repeat (first | exact (Kd.C_below HR2.out HB.out) | (with_reducible refine Kd.C_alloc ?_ _) | (with_reducible refine Kd.C_drewN ?_ _) | (with_reducible refine Kd.C_drew ?_))); (case side4 => exact HC2.out); rintro e w' ⟨rfl, ⟨nd, rfl⟩⟩; refine ⟨_, rfl, ?_⟩))
      go_loopg [11, 12] k (fun kq v11 v12 w' => ∃ (x11_1 : List (S74)) (x12_1 : Int), v12 = .int .i64 x12_1 ∧ Aside0 (counterfoilref09_Note.l0 kq l0 l1 l2 a3 x11_1 x12_1 = some (r1, r2)) ∧ Aside0 (kq ≤ k) ∧ Aside0 (Kd.R k74 74 w' w.heap.size (fun _ => True) v11 x11_1) ∧ Aside0 (Below w.heap.size w w'))
      case atStart => exact ⟨(([] : List (S74))), (0), (by first | rfl | (simp; done) | (simp [*]; done)), H', ⟨Nat.le_refl _⟩, ⟨by first | exact Kd.R_nil _ _ _ _ _ | exact Kd.N_nil _ _ _ _ _ | exact Kd.V_nil _ _ _ _ _ | exact Kd.Q_nil _ _ _ _ _ | exact Kd.S_nil _ _ _ _ _⟩, ⟨by repeat (first | (with_reducible first | exact HB.out | apply below_alloc | apply pw_below_drewN | apply below_drew1) | exact HB.out)⟩⟩
      case round =>
        clear H'
        try clear c1
        try clear c2
        try clear p2
        try clear c6
        try clear c8
        try clear c8b0
        try clear c8b1
        try clear c9
        obtain ⟨x11_1, x12_1, rfl, HA, HK1, HO_11, HB⟩ := hrel
        cases gk with
        | zero => exact absurd HA.out (by simp [counterfoilref09_Note.l0])
        | succ k1 =>
          have H := HA.out
          clear HA
          simp only [counterfoilref09_Note.l0] at H
          by_cases c10 : x12_1 < (l1.length : Int)
          · rw [if_pos c10] at H
            have c10b0 : decide (x12_1 < (l1.length : Int)) = true := decide_eq_true c10
            clear c10
            have H' := Aside0.mk H
            clear H
            go_wp2
            go_loopg [11, 13] k1 (fun kq v11 v13 w' => ∃ (x11_2 : List (S74)) (x13_2 : Int), v13 = .int .i64 x13_2 ∧ Aside0 (counterfoilref09_Note.l1 kq l0 l1 l2 a3 x11_2 x12_1 x13_2 = some (r1, r2)) ∧ Aside0 (kq ≤ k1) ∧ Aside0 (Kd.R k74 74 w' w.heap.size (fun _ => True) v11 x11_2) ∧ Aside0 (Below w.heap.size w w'))
            case atStart => exact ⟨(x11_1), (0), (by first | rfl | (simp; done) | (simp [*]; done)), H', ⟨Nat.le_refl _⟩, ⟨by (with_reducible repeat (first | apply Kd.R_alloc | apply Kd.R_drewN | apply Kd.R_drew)); exact HO_11.out⟩, ⟨by repeat (first | (with_reducible first | exact HB.out | apply below_alloc | apply pw_below_drewN | apply below_drew1) | exact HB.out)⟩⟩
            case round =>
              clear H'
              try clear c1
              try clear c2
              try clear p2
              try clear c6
              try clear c8
              try clear c8b0
              try clear c8b1
              try clear c9
              try clear c10
              try clear c10b0
              try clear p2
              obtain ⟨x11_2, x13_2, rfl, HA, HK2, HO_11, HB⟩ := hrel
              cases gk with
              | zero => exact absurd HA.out (by simp [counterfoilref09_Note.l1])
              | succ k2 =>
                have H := HA.out
                clear HA
                simp only [counterfoilref09_Note.l1] at H
                by_cases c11 : 0 ≤ x12_1
                · rw [if_pos c11] at H
                  have c11b0 : decide (0 ≤ x12_1) = true := decide_eq_true c11
                  clear c11
                  by_cases c12 : x12_1 < (l1.length : Int)
                  · rw [if_pos c12] at H
                    have c12b0 : decide (x12_1 < (l1.length : Int)) = true := decide_eq_true c12
                    clear c12
                    by_cases c13 : x13_2 < (((rd_T49 l1 x12_1).f1).length : Int)
                    · rw [if_pos c13] at H
                      have c13b0 : decide (x13_2 < (((rd_T49 l1 x12_1).f1).length : Int)) = true := decide_eq_true c13
                      clear c13
                      replace H := Option.bind_eq_some_iff.mp H
                      obtain ⟨⟨t974, t975⟩, A140, H⟩ := H
                      replace H : ((counterfoilref07_Last.f k2 l2 ((rd_T49 l1 x12_1).f0) x13_2).bind fun bt977 => (if t975 = true then (if x11_2.length < 4398046511104 then (counterfoilref09_Note.l1 k2 l0 l1 l2 a3 (x11_2 ++ [(⟨(rd_T49 l1 x12_1).f0, x13_2, t974⟩ : S74)]) x12_1 (wrap64 (x13_2 + 1))) else (none)) else (if 0 ≤ x13_2 then (if bt977.2 = true then (if x11_2.length < 4398046511104 then (counterfoilref09_Note.l1 k2 l0 l1 l2 a3 (x11_2 ++ [(⟨(rd_T49 l1 x12_1).f0, x13_2, rdOf ByteArray.empty ((rd_T49 l1 x12_1).f1) x13_2⟩ : S74)]) x12_1 (wrap64 (x13_2 + 1))) else (none)) else (counterfoilref09_Note.l1 k2 l0 l1 l2 a3 x11_2 x12_1 (wrap64 (x13_2 + 1)))) else (none)))) = some (r1, r2) := H
                      have A14 := Aside0.mk A140
                      clear A140
                      replace H := Option.bind_eq_some_iff.mp H
                      obtain ⟨⟨t977, t978⟩, A150, H⟩ := H
                      replace H : (if t975 = true then (if x11_2.length < 4398046511104 then (counterfoilref09_Note.l1 k2 l0 l1 l2 a3 (x11_2 ++ [(⟨(rd_T49 l1 x12_1).f0, x13_2, t974⟩ : S74)]) x12_1 (wrap64 (x13_2 + 1))) else (none)) else (if 0 ≤ x13_2 then (if t978 = true then (if x11_2.length < 4398046511104 then (counterfoilref09_Note.l1 k2 l0 l1 l2 a3 (x11_2 ++ [(⟨(rd_T49 l1 x12_1).f0, x13_2, rdOf ByteArray.empty ((rd_T49 l1 x12_1).f1) x13_2⟩ : S74)]) x12_1 (wrap64 (x13_2 + 1))) else (none)) else (counterfoilref09_Note.l1 k2 l0 l1 l2 a3 x11_2 x12_1 (wrap64 (x13_2 + 1)))) else (none))) = some (r1, r2) := H
                      have A15 := Aside0.mk A150
                      clear A150
                      by_cases c16 : t975 = true
                      · subst c16
                        have H1 : (if x11_2.length < 4398046511104 then (counterfoilref09_Note.l1 k2 l0 l1 l2 a3 (x11_2 ++ [(⟨(rd_T49 l1 x12_1).f0, x13_2, t974⟩ : S74)]) x12_1 (wrap64 (x13_2 + 1))) else (none)) = some (r1, r2) := by rw [if_pos rfl] at H; exact H
                        clear H
                        have H := H1
                        clear H1
                        by_cases c17 : x11_2.length < 4398046511104
                        · rw [if_pos c17] at H
                          have LMc17 := Aside0.mk c17
                          clear c17
                          obtain ⟨y980, hy980⟩ : ∃ y_ : List (S74), y_ = (x11_2 ++ [(⟨(rd_T49 l1 x12_1).f0, x13_2, t974⟩ : S74)]) := ⟨_, rfl⟩
                          replace H : (counterfoilref09_Note.l1 k2 l0 l1 l2 a3 y980 x12_1 (wrap64 (x13_2 + 1))) = some (r1, r2) := by first | (rw [hy980]; with_reducible exact H) | (have H2_ := (Option.bind_some _ _).symm.trans H; rw [hy980]; with_reducible exact H2_) | (have H2_ := (Option.bind_some _ _).symm.trans H; with_reducible exact H2_) | with_reducible exact H | (rw [hy980]; exact H) | exact H
                          have Ny980 := Aside0.mk hy980
                          clear hy980
                          have H' := Aside0.mk H
                          clear H
                          have p972 : 0 ≤ (x12_1 : Int) := of_decide_eq_true (by first | (with_reducible assumption) | assumption)
                          have q972 : x12_1 < (l1.length : Int) := of_decide_eq_true (by first | (with_reducible assumption) | assumption)
                          obtain ⟨ad972, A972_1, c972_1, e972, hx972_0, hx972_1, hl972_1, hi972_1⟩ := at_T49 HR1.out x12_1 p972 q972
                          cases e972
                          replace hx972_0 := (HB.out.cell (World.block_lt_of_cell? w _ hx972_0)).trans hx972_0
                          replace hx972_1 := (HB.out.cell (World.block_lt_of_cell? w _ hx972_1)).trans hx972_1
                          have HR972_1 := Aside0.mk hi972_1
                          have HC972_1 := Aside0.mk hl972_1
                          clear hi972_1 hl972_1
                          replace p972 := eq_true p972
                          replace q972 := eq_true q972
                          have p973 : 0 ≤ (x12_1 : Int) := of_decide_eq_true (by first | (with_reducible assumption) | assumption)
                          have q973 : x12_1 < (l1.length : Int) := of_decide_eq_true (by first | (with_reducible assumption) | assumption)
                          obtain ⟨ad973, A973_1, c973_1, e973, hx973_0, hx973_1, hl973_1, hi973_1⟩ := at_T49 HR1.out x12_1 p973 q973
                          obtain rfl : ad972 = ad973 := (by injection e973)
                          replace hx973_0 := (HB.out.cell (World.block_lt_of_cell? w _ hx973_0)).trans hx973_0
                          replace hx973_1 := (HB.out.cell (World.block_lt_of_cell? w _ hx973_1)).trans hx973_1
                          have HR973_1 := Aside0.mk hi973_1
                          have HC973_1 := Aside0.mk hl973_1
                          clear hi973_1 hl973_1
                          replace p973 := eq_true p973
                          replace q973 := eq_true q973
                          have ea_ := Option.some.inj (hx972_1.symm.trans hx973_1)
                          injection ea_ with ea_ en_ ec_
                          subst ea_
                          subst ec_
                          clear en_
                          go_wp2_with (first | ((with_reducible refine gate_callee (f := 108) rfl ?_); refine goesL_ (some 52) rfl rfl Try.func108 (by kernel_rfl) rfl #[.slice A0 l0.length c0, .int .i64 ((rd_T49 l1 x12_1).f0), .int .i64 x13_2] rfl (by (try simp only [List.map_toArray, List.map_cons, List.map_nil]); first | done | rfl | (simp only [List.length_drop, List.length_take]; rfl)) ?_; (with_reducible refine (counterfoilref07_Last.calls k2 _ _ l0 ((rd_T49 l1 x12_1).f0) x13_2 t974 true _ ?side1 ?side2 A14.out).mono ?_); (case side1 => repeat (first | exact (Kd.C_below HR0.out HB.out) | (with_reducible refine Kd.C_alloc ?_ _) | (with_reducible refine Kd.C_drewN ?_ _) | (with_reducible refine Kd.C_drew ?_))); (case side2 => exact HC0.out); rintro e w' ⟨rfl, ⟨nd, rfl⟩⟩; refine ⟨_, rfl, ?_⟩; have p976 : 0 ≤ (x12_1 : Int) := of_decide_eq_true (by first | (with_reducible assumption) | assumption); have q976 : x12_1 < (l1.length : Int) := of_decide_eq_true (by first | (with_reducible assumption) | assumption); obtain ⟨ad976, A976_1, c976_1, e976, hx976_0, hx976_1, hl976_1, hi976_1⟩ := at_T49 HR1.out x12_1 p976 q976; obtain rfl : ad972 = ad976 := (by injection e976); replace hx976_0 := (HB.out.cell (World.block_lt_of_cell? w _ hx976_0)).trans hx976_0; replace hx976_1 := (HB.out.cell (World.block_lt_of_cell? w _ hx976_1)).trans hx976_1; have HR976_1 := Aside0.mk hi976_1; have HC976_1 := Aside0.mk hl976_1; clear hi976_1 hl976_1; replace p976 := eq_true p976; replace q976 := eq_true q976; have ea_ := Option.some.inj (hx972_1.symm.trans hx976_1); injection ea_ with ea_ en_ ec_; subst ea_; subst ec_; clear en_) | ((with_reducible refine gate_callee (f := 108) rfl ?_); refine goesL_ (some 63) rfl rfl Try.func108 (by kernel_rfl) rfl #[.slice A2 l2.length c2, .int .i64 ((rd_T49 l1 x12_1).f0), .int .i64 x13_2] rfl (by (try simp only [List.map_toArray, List.map_cons, List.map_nil]); first | done | rfl | (simp only [List.length_drop, List.length_take]; rfl)) ?_; (with_reducible refine (counterfoilref07_Last.calls k2 _ _ l2 ((rd_T49 l1 x12_1).f0) x13_2 t977 t978 _ ?side1 ?side2 A15.out).mono ?_); (case side1 => repeat (first | exact (Kd.C_below HR2.out (by repeat (first | (with_reducible first | exact HB.out | apply below_alloc | apply pw_below_drewN | apply below_drew1) | exact HB.out))) | (with_reducible refine Kd.C_alloc ?_ _) | (with_reducible refine Kd.C_drewN ?_ _) | (with_reducible refine Kd.C_drew ?_))); (case side2 => exact HC2.out); rintro e w' ⟨rfl, ⟨nd, rfl⟩⟩; refine ⟨_, rfl, ?_⟩; have p979 : 0 ≤ (x12_1 : Int) := of_decide_eq_true (by first | (with_reducible assumption) | assumption); have q979 : x12_1 < (l1.length : Int) := of_decide_eq_true (by first | (with_reducible assumption) | assumption); obtain ⟨ad979, A979_1, c979_1, e979, hx979_0, hx979_1, hl979_1, hi979_1⟩ := at_T49 HR1.out x12_1 p979 q979; obtain rfl : ad972 = ad979 := (by injection e979); replace hx979_0 := (HB.out.cell (World.block_lt_of_cell? w _ hx979_0)).trans hx979_0; replace hx979_1 := (HB.out.cell (World.block_lt_of_cell? w _ hx979_1)).trans hx979_1; have HR979_1 := Aside0.mk hi979_1; have HC979_1 := Aside0.mk hl979_1; clear hi979_1 hl979_1; replace p979 := eq_true p979; replace q979 := eq_true q979; have ea_ := Option.some.inj (hx972_1.symm.trans hx979_1); injection ea_ with ea_ en_ ec_; subst ea_; subst ec_; clear en_) | ((with_reducible refine gate_builtin (b := .append) (xs := #[.tmp 80, .tmp 89]) rfl ?_); at_builtin; refine Kd.R_append k74 (w0 := w) w.heap.size rfl (.tmp 80) (.tmp 89) 25 74 (.agg #[(.int .i64 0), (.int .i64 0), (.string ⟨#[]⟩)]) 32 rfl Try.underlying25 info74 rfl (by decide) (by omega) u11 x11_2 (⟨(rd_T49 l1 x12_1).f0, x13_2, t974⟩ : S74) [.int .i64 ((rd_T49 l1 x12_1).f0), .int .i64 x13_2, .string t974] (fun _ => True) (fun _ => False) rfl rfl ?aP (fun _ hk => hk.elim) ?aF ?aO ?aB ?aS ?aL ?_; (case aP => exact k74_mkM _ _ _ (⟨(rd_T49 l1 x12_1).f0, x13_2, t974⟩ : S74)); (case aB => exact (by repeat (first | (with_reducible first | exact HB.out | apply below_alloc | apply pw_below_drewN | apply below_drew1) | exact HB.out))); (case aF => exact (fun _ _ => trivial)); (case aO => exact (by (with_reducible repeat (first | apply Kd.R_alloc | apply Kd.R_drewN | apply Kd.R_drew)); exact HO_11.out)); (case aS => exact (below_size (by repeat (first | (with_reducible first | exact HB.out | apply below_alloc | apply pw_below_drewN | apply below_drew1) | exact HB.out)))); (case aL => have := LMc17.out; omega); intro v981 w18 ho hb hg hat; rw [← Ny980.out] at ho; have n0_ := Aside0.mk (hb); have n1_ := Aside0.mk (ho); clear HB; clear HO_11; have HB := n0_; have HO982 := n1_; clear n0_ n1_; clear ho hb hg hat))
                          go_roundg k2
                          case measure => have := HK1.out; have := HK2.out; omega
                          case rel => exact ⟨(y980), (wrap64 (x13_2 + 1)), (by first | rfl | (simp; done) | (simp [*]; done)), H', ⟨by have := HK1.out; have := HK2.out; omega⟩, ⟨by (with_reducible repeat (first | apply Kd.R_alloc | apply Kd.R_drewN | apply Kd.R_drew)); exact HO982.out⟩, ⟨by repeat (first | (with_reducible first | exact HB.out | apply below_alloc | apply pw_below_drewN | apply below_drew1) | exact HB.out)⟩⟩
                        · rw [if_neg c17] at H
                          exact absurd H (by simp)
                      · replace c16 := Bool.eq_false_iff.mpr c16
                        subst c16
                        have H1 : (if 0 ≤ x13_2 then (if t978 = true then (if x11_2.length < 4398046511104 then (counterfoilref09_Note.l1 k2 l0 l1 l2 a3 (x11_2 ++ [(⟨(rd_T49 l1 x12_1).f0, x13_2, rdOf ByteArray.empty ((rd_T49 l1 x12_1).f1) x13_2⟩ : S74)]) x12_1 (wrap64 (x13_2 + 1))) else (none)) else (counterfoilref09_Note.l1 k2 l0 l1 l2 a3 x11_2 x12_1 (wrap64 (x13_2 + 1)))) else (none)) = some (r1, r2) := by rw [if_neg (show ¬ (false = true) by decide)] at H; exact H
                        clear H
                        have H := H1
                        clear H1
                        by_cases c19 : 0 ≤ x13_2
                        · rw [if_pos c19] at H
                          have c19b0 : decide (0 ≤ x13_2) = true := decide_eq_true c19
                          clear c19
                          by_cases c20 : t978 = true
                          · subst c20
                            have H1 : (if x11_2.length < 4398046511104 then (counterfoilref09_Note.l1 k2 l0 l1 l2 a3 (x11_2 ++ [(⟨(rd_T49 l1 x12_1).f0, x13_2, rdOf ByteArray.empty ((rd_T49 l1 x12_1).f1) x13_2⟩ : S74)]) x12_1 (wrap64 (x13_2 + 1))) else (none)) = some (r1, r2) := by rw [if_pos rfl] at H; exact H
                            clear H
                            have H := H1
                            clear H1
                            by_cases c21 : x11_2.length < 4398046511104
                            · rw [if_pos c21] at H
                              have LMc21 := Aside0.mk c21
                              clear c21
                              obtain ⟨y986, hy986⟩ : ∃ y_ : List (S74), y_ = (x11_2 ++ [(⟨(rd_T49 l1 x12_1).f0, x13_2, rdOf ByteArray.empty ((rd_T49 l1 x12_1).f1) x13_2⟩ : S74)]) := ⟨_, rfl⟩
                              replace H : (counterfoilref09_Note.l1 k2 l0 l1 l2 a3 y986 x12_1 (wrap64 (x13_2 + 1))) = some (r1, r2) := by first | (rw [hy986]; with_reducible exact H) | (have H2_ := (Option.bind_some _ _).symm.trans H; rw [hy986]; with_reducible exact H2_) | (have H2_ := (Option.bind_some _ _).symm.trans H; with_reducible exact H2_) | with_reducible exact H | (rw [hy986]; exact H) | exact H
                              have Ny986 := Aside0.mk hy986
                              clear hy986
                              have H' := Aside0.mk H
                              clear H
                              have p972 : 0 ≤ (x12_1 : Int) := of_decide_eq_true (by first | (with_reducible assumption) | assumption)
                              have q972 : x12_1 < (l1.length : Int) := of_decide_eq_true (by first | (with_reducible assumption) | assumption)
                              obtain ⟨ad972, A972_1, c972_1, e972, hx972_0, hx972_1, hl972_1, hi972_1⟩ := at_T49 HR1.out x12_1 p972 q972
                              cases e972
                              replace hx972_0 := (HB.out.cell (World.block_lt_of_cell? w _ hx972_0)).trans hx972_0
                              replace hx972_1 := (HB.out.cell (World.block_lt_of_cell? w _ hx972_1)).trans hx972_1
                              have HR972_1 := Aside0.mk hi972_1
                              have HC972_1 := Aside0.mk hl972_1
                              clear hi972_1 hl972_1
                              replace p972 := eq_true p972
                              replace q972 := eq_true q972
                              have p973 : 0 ≤ (x12_1 : Int) := of_decide_eq_true (by first | (with_reducible assumption) | assumption)
                              have q973 : x12_1 < (l1.length : Int) := of_decide_eq_true (by first | (with_reducible assumption) | assumption)
                              obtain ⟨ad973, A973_1, c973_1, e973, hx973_0, hx973_1, hl973_1, hi973_1⟩ := at_T49 HR1.out x12_1 p973 q973
                              obtain rfl : ad972 = ad973 := (by injection e973)
                              replace hx973_0 := (HB.out.cell (World.block_lt_of_cell? w _ hx973_0)).trans hx973_0
                              replace hx973_1 := (HB.out.cell (World.block_lt_of_cell? w _ hx973_1)).trans hx973_1
                              have HR973_1 := Aside0.mk hi973_1
                              have HC973_1 := Aside0.mk hl973_1
                              clear hi973_1 hl973_1
                              replace p973 := eq_true p973
                              replace q973 := eq_true q973
                              have ea_ := Option.some.inj (hx972_1.symm.trans hx973_1)
                              injection ea_ with ea_ en_ ec_
                              subst ea_
                              subst ec_
                              clear en_
                              go_wp2_with (first | ((with_reducible refine gate_callee (f := 108) rfl ?_); refine goesL_ (some 52) rfl rfl Try.func108 (by kernel_rfl) rfl #[.slice A0 l0.length c0, .int .i64 ((rd_T49 l1 x12_1).f0), .int .i64 x13_2] rfl (by (try simp only [List.map_toArray, List.map_cons, List.map_nil]); first | done | rfl | (simp only [List.length_drop, List.length_take]; rfl)) ?_; (with_reducible refine (counterfoilref07_Last.calls k2 _ _ l0 ((rd_T49 l1 x12_1).f0) x13_2 t974 false _ ?side1 ?side2 A14.out).mono ?_); (case side1 => repeat (first | exact (Kd.C_below HR0.out HB.out) | (with_reducible refine Kd.C_alloc ?_ _) | (with_reducible refine Kd.C_drewN ?_ _) | (with_reducible refine Kd.C_drew ?_))); (case side2 => exact HC0.out); rintro e w' ⟨rfl, ⟨nd, rfl⟩⟩; refine ⟨_, rfl, ?_⟩; have p976 : 0 ≤ (x12_1 : Int) := of_decide_eq_true (by first | (with_reducible assumption) | assumption); have q976 : x12_1 < (l1.length : Int) := of_decide_eq_true (by first | (with_reducible assumption) | assumption); obtain ⟨ad976, A976_1, c976_1, e976, hx976_0, hx976_1, hl976_1, hi976_1⟩ := at_T49 HR1.out x12_1 p976 q976; obtain rfl : ad972 = ad976 := (by injection e976); replace hx976_0 := (HB.out.cell (World.block_lt_of_cell? w _ hx976_0)).trans hx976_0; replace hx976_1 := (HB.out.cell (World.block_lt_of_cell? w _ hx976_1)).trans hx976_1; have HR976_1 := Aside0.mk hi976_1; have HC976_1 := Aside0.mk hl976_1; clear hi976_1 hl976_1; replace p976 := eq_true p976; replace q976 := eq_true q976; have ea_ := Option.some.inj (hx972_1.symm.trans hx976_1); injection ea_ with ea_ en_ ec_; subst ea_; subst ec_; clear en_) | ((with_reducible refine gate_callee (f := 108) rfl ?_); refine goesL_ (some 63) rfl rfl Try.func108 (by kernel_rfl) rfl #[.slice A2 l2.length c2, .int .i64 ((rd_T49 l1 x12_1).f0), .int .i64 x13_2] rfl (by (try simp only [List.map_toArray, List.map_cons, List.map_nil]); first | done | rfl | (simp only [List.length_drop, List.length_take]; rfl)) ?_; (with_reducible refine (counterfoilref07_Last.calls k2 _ _ l2 ((rd_T49 l1 x12_1).f0) x13_2 t977 true _ ?side1 ?side2 A15.out).mono ?_); (case side1 => repeat (first | exact (Kd.C_below HR2.out (by repeat (first | (with_reducible first | exact HB.out | apply below_alloc | apply pw_below_drewN | apply below_drew1) | exact HB.out))) | (with_reducible refine Kd.C_alloc ?_ _) | (with_reducible refine Kd.C_drewN ?_ _) | (with_reducible refine Kd.C_drew ?_))); (case side2 => exact HC2.out); rintro e w' ⟨rfl, ⟨nd, rfl⟩⟩; refine ⟨_, rfl, ?_⟩; have p983 : 0 ≤ (x12_1 : Int) := of_decide_eq_true (by first | (with_reducible assumption) | assumption); have q983 : x12_1 < (l1.length : Int) := of_decide_eq_true (by first | (with_reducible assumption) | assumption); obtain ⟨ad983, A983_1, c983_1, e983, hx983_0, hx983_1, hl983_1, hi983_1⟩ := at_T49 HR1.out x12_1 p983 q983; obtain rfl : ad972 = ad983 := (by injection e983); replace hx983_0 := (HB.out.cell (World.block_lt_of_cell? w _ hx983_0)).trans hx983_0; replace hx983_1 := (HB.out.cell (World.block_lt_of_cell? w _ hx983_1)).trans hx983_1; have HR983_1 := Aside0.mk hi983_1; have HC983_1 := Aside0.mk hl983_1; clear hi983_1 hl983_1; replace p983 := eq_true p983; replace q983 := eq_true q983; have ea_ := Option.some.inj (hx972_1.symm.trans hx983_1); injection ea_ with ea_ en_ ec_; subst ea_; subst ec_; clear en_; have p984 : 0 ≤ (x13_2 : Int) := of_decide_eq_true (by first | (with_reducible assumption) | assumption); have q984 : x13_2 < (((rd_T49 l1 x12_1).f1).length : Int) := of_decide_eq_true (by first | (with_reducible assumption) | assumption); obtain ⟨ad984, e984, hx984_0⟩ := Kd.at_string HR983_1.out x13_2 p984 q984; cases e984; replace hx984_0 := (HB.out.cell (World.block_lt_of_cell? w _ hx984_0)).trans hx984_0; replace p984 := eq_true p984; replace q984 := eq_true q984; have p985 : 0 ≤ (x12_1 : Int) := of_decide_eq_true (by first | (with_reducible assumption) | assumption); have q985 : x12_1 < (l1.length : Int) := of_decide_eq_true (by first | (with_reducible assumption) | assumption); obtain ⟨ad985, A985_1, c985_1, e985, hx985_0, hx985_1, hl985_1, hi985_1⟩ := at_T49 HR1.out x12_1 p985 q985; obtain rfl : ad972 = ad985 := (by injection e985); replace hx985_0 := (HB.out.cell (World.block_lt_of_cell? w _ hx985_0)).trans hx985_0; replace hx985_1 := (HB.out.cell (World.block_lt_of_cell? w _ hx985_1)).trans hx985_1; have HR985_1 := Aside0.mk hi985_1; have HC985_1 := Aside0.mk hl985_1; clear hi985_1 hl985_1; replace p985 := eq_true p985; replace q985 := eq_true q985; have ea_ := Option.some.inj (hx972_1.symm.trans hx985_1); injection ea_ with ea_ en_ ec_; subst ea_; subst ec_; clear en_) | ((with_reducible refine gate_builtin (b := .append) (xs := #[.tmp 80, .tmp 89]) rfl ?_); at_builtin; refine Kd.R_append k74 (w0 := w) w.heap.size rfl (.tmp 80) (.tmp 89) 25 74 (.agg #[(.int .i64 0), (.int .i64 0), (.string ⟨#[]⟩)]) 32 rfl Try.underlying25 info74 rfl (by decide) (by omega) u11 x11_2 (⟨(rd_T49 l1 x12_1).f0, x13_2, rdOf ByteArray.empty ((rd_T49 l1 x12_1).f1) x13_2⟩ : S74) [.int .i64 ((rd_T49 l1 x12_1).f0), .int .i64 x13_2, .string (rdOf ByteArray.empty ((rd_T49 l1 x12_1).f1) x13_2)] (fun _ => True) (fun _ => False) rfl rfl ?aP (fun _ hk => hk.elim) ?aF ?aO ?aB ?aS ?aL ?_; (case aP => exact k74_mkM _ _ _ (⟨(rd_T49 l1 x12_1).f0, x13_2, rdOf ByteArray.empty ((rd_T49 l1 x12_1).f1) x13_2⟩ : S74)); (case aB => exact (by repeat (first | (with_reducible first | exact HB.out | apply below_alloc | apply pw_below_drewN | apply below_drew1) | exact HB.out))); (case aF => exact (fun _ _ => trivial)); (case aO => exact (by (with_reducible repeat (first | apply Kd.R_alloc | apply Kd.R_drewN | apply Kd.R_drew)); exact HO_11.out)); (case aS => exact (below_size (by repeat (first | (with_reducible first | exact HB.out | apply below_alloc | apply pw_below_drewN | apply below_drew1) | exact HB.out)))); (case aL => have := LMc21.out; omega); intro v987 w22 ho hb hg hat; rw [← Ny986.out] at ho; have n0_ := Aside0.mk (hb); have n1_ := Aside0.mk (ho); clear HB; clear HO_11; have HB := n0_; have HO988 := n1_; clear n0_ n1_; clear ho hb hg hat))
                              go_roundg k2
                              case measure => have := HK1.out; have := HK2.out; omega
                              case rel => exact ⟨(y986), (wrap64 (x13_2 + 1)), (by first | rfl | (simp; done) | (simp [*]; done)), H', ⟨by have := HK1.out; have := HK2.out; omega⟩, ⟨by (with_reducible repeat (first | apply Kd.R_alloc | apply Kd.R_drewN | apply Kd.R_drew)); exact HO988.out⟩, ⟨by repeat (first | (with_reducible first | exact HB.out | apply below_alloc | apply pw_below_drewN | apply below_drew1) | exact HB.out)⟩⟩
                            · rw [if_neg c21] at H
                              exact absurd H (by simp)
                          · replace c20 := Bool.eq_false_iff.mpr c20
                            subst c20
                            have H1 : (counterfoilref09_Note.l1 k2 l0 l1 l2 a3 x11_2 x12_1 (wrap64 (x13_2 + 1))) = some (r1, r2) := by rw [if_neg (show ¬ (false = true) by decide)] at H; exact H
                            clear H
                            have H := H1
                            clear H1
                            have H' := Aside0.mk H
                            clear H
                            have p972 : 0 ≤ (x12_1 : Int) := of_decide_eq_true (by first | (with_reducible assumption) | assumption)
                            have q972 : x12_1 < (l1.length : Int) := of_decide_eq_true (by first | (with_reducible assumption) | assumption)
                            obtain ⟨ad972, A972_1, c972_1, e972, hx972_0, hx972_1, hl972_1, hi972_1⟩ := at_T49 HR1.out x12_1 p972 q972
                            cases e972
                            replace hx972_0 := (HB.out.cell (World.block_lt_of_cell? w _ hx972_0)).trans hx972_0
                            replace hx972_1 := (HB.out.cell (World.block_lt_of_cell? w _ hx972_1)).trans hx972_1
                            have HR972_1 := Aside0.mk hi972_1
                            have HC972_1 := Aside0.mk hl972_1
                            clear hi972_1 hl972_1
                            replace p972 := eq_true p972
                            replace q972 := eq_true q972
                            have p973 : 0 ≤ (x12_1 : Int) := of_decide_eq_true (by first | (with_reducible assumption) | assumption)
                            have q973 : x12_1 < (l1.length : Int) := of_decide_eq_true (by first | (with_reducible assumption) | assumption)
                            obtain ⟨ad973, A973_1, c973_1, e973, hx973_0, hx973_1, hl973_1, hi973_1⟩ := at_T49 HR1.out x12_1 p973 q973
                            obtain rfl : ad972 = ad973 := (by injection e973)
                            replace hx973_0 := (HB.out.cell (World.block_lt_of_cell? w _ hx973_0)).trans hx973_0
                            replace hx973_1 := (HB.out.cell (World.block_lt_of_cell? w _ hx973_1)).trans hx973_1
                            have HR973_1 := Aside0.mk hi973_1
                            have HC973_1 := Aside0.mk hl973_1
                            clear hi973_1 hl973_1
                            replace p973 := eq_true p973
                            replace q973 := eq_true q973
                            have ea_ := Option.some.inj (hx972_1.symm.trans hx973_1)
                            injection ea_ with ea_ en_ ec_
                            subst ea_
                            subst ec_
                            clear en_
                            go_wp2_with (first | ((with_reducible refine gate_callee (f := 108) rfl ?_); refine goesL_ (some 52) rfl rfl Try.func108 (by kernel_rfl) rfl #[.slice A0 l0.length c0, .int .i64 ((rd_T49 l1 x12_1).f0), .int .i64 x13_2] rfl (by (try simp only [List.map_toArray, List.map_cons, List.map_nil]); first | done | rfl | (simp only [List.length_drop, List.length_take]; rfl)) ?_; (with_reducible refine (counterfoilref07_Last.calls k2 _ _ l0 ((rd_T49 l1 x12_1).f0) x13_2 t974 false _ ?side1 ?side2 A14.out).mono ?_); (case side1 => repeat (first | exact (Kd.C_below HR0.out HB.out) | (with_reducible refine Kd.C_alloc ?_ _) | (with_reducible refine Kd.C_drewN ?_ _) | (with_reducible refine Kd.C_drew ?_))); (case side2 => exact HC0.out); rintro e w' ⟨rfl, ⟨nd, rfl⟩⟩; refine ⟨_, rfl, ?_⟩; have p976 : 0 ≤ (x12_1 : Int) := of_decide_eq_true (by first | (with_reducible assumption) | assumption); have q976 : x12_1 < (l1.length : Int) := of_decide_eq_true (by first | (with_reducible assumption) | assumption); obtain ⟨ad976, A976_1, c976_1, e976, hx976_0, hx976_1, hl976_1, hi976_1⟩ := at_T49 HR1.out x12_1 p976 q976; obtain rfl : ad972 = ad976 := (by injection e976); replace hx976_0 := (HB.out.cell (World.block_lt_of_cell? w _ hx976_0)).trans hx976_0; replace hx976_1 := (HB.out.cell (World.block_lt_of_cell? w _ hx976_1)).trans hx976_1; have HR976_1 := Aside0.mk hi976_1; have HC976_1 := Aside0.mk hl976_1; clear hi976_1 hl976_1; replace p976 := eq_true p976; replace q976 := eq_true q976; have ea_ := Option.some.inj (hx972_1.symm.trans hx976_1); injection ea_ with ea_ en_ ec_; subst ea_; subst ec_; clear en_) | ((with_reducible refine gate_callee (f := 108) rfl ?_); refine goesL_ (some 63) rfl rfl Try.func108 (by kernel_rfl) rfl #[.slice A2 l2.length c2, .int .i64 ((rd_T49 l1 x12_1).f0), .int .i64 x13_2] rfl (by (try simp only [List.map_toArray, List.map_cons, List.map_nil]); first | done | rfl | (simp only [List.length_drop, List.length_take]; rfl)) ?_; (with_reducible refine (counterfoilref07_Last.calls k2 _ _ l2 ((rd_T49 l1 x12_1).f0) x13_2 t977 false _ ?side1 ?side2 A15.out).mono ?_); (case side1 => repeat (first | exact (Kd.C_below HR2.out (by repeat (first | (with_reducible first | exact HB.out | apply below_alloc | apply pw_below_drewN | apply below_drew1) | exact HB.out))) | (with_reducible refine Kd.C_alloc ?_ _) | (with_reducible refine Kd.C_drewN ?_ _) | (with_reducible refine Kd.C_drew ?_))); (case side2 => exact HC2.out); rintro e w' ⟨rfl, ⟨nd, rfl⟩⟩; refine ⟨_, rfl, ?_⟩; have p983 : 0 ≤ (x12_1 : Int) := of_decide_eq_true (by first | (with_reducible assumption) | assumption); have q983 : x12_1 < (l1.length : Int) := of_decide_eq_true (by first | (with_reducible assumption) | assumption); obtain ⟨ad983, A983_1, c983_1, e983, hx983_0, hx983_1, hl983_1, hi983_1⟩ := at_T49 HR1.out x12_1 p983 q983; obtain rfl : ad972 = ad983 := (by injection e983); replace hx983_0 := (HB.out.cell (World.block_lt_of_cell? w _ hx983_0)).trans hx983_0; replace hx983_1 := (HB.out.cell (World.block_lt_of_cell? w _ hx983_1)).trans hx983_1; have HR983_1 := Aside0.mk hi983_1; have HC983_1 := Aside0.mk hl983_1; clear hi983_1 hl983_1; replace p983 := eq_true p983; replace q983 := eq_true q983; have ea_ := Option.some.inj (hx972_1.symm.trans hx983_1); injection ea_ with ea_ en_ ec_; subst ea_; subst ec_; clear en_; have p984 : 0 ≤ (x13_2 : Int) := of_decide_eq_true (by first | (with_reducible assumption) | assumption); have q984 : x13_2 < (((rd_T49 l1 x12_1).f1).length : Int) := of_decide_eq_true (by first | (with_reducible assumption) | assumption); obtain ⟨ad984, e984, hx984_0⟩ := Kd.at_string HR983_1.out x13_2 p984 q984; cases e984; replace hx984_0 := (HB.out.cell (World.block_lt_of_cell? w _ hx984_0)).trans hx984_0; replace p984 := eq_true p984; replace q984 := eq_true q984))
                            go_roundg k2
                            case measure => have := HK1.out; have := HK2.out; omega
                            case rel => exact ⟨(x11_2), (wrap64 (x13_2 + 1)), (by first | rfl | (simp; done) | (simp [*]; done)), H', ⟨by have := HK1.out; have := HK2.out; omega⟩, ⟨by (with_reducible repeat (first | apply Kd.R_alloc | apply Kd.R_drewN | apply Kd.R_drew)); exact HO_11.out⟩, ⟨by repeat (first | (with_reducible first | exact HB.out | apply below_alloc | apply pw_below_drewN | apply below_drew1) | exact HB.out)⟩⟩
                        · rw [if_neg c19] at H
                          exact absurd H (by simp)
                    · rw [if_neg c13] at H
                      have c13b0 : decide (x13_2 < (((rd_T49 l1 x12_1).f1).length : Int)) = false := decide_eq_false c13
                      clear c13
                      have H' := Aside0.mk H
                      clear H
                      have p972 : 0 ≤ (x12_1 : Int) := of_decide_eq_true (by first | (with_reducible assumption) | assumption)
                      have q972 : x12_1 < (l1.length : Int) := of_decide_eq_true (by first | (with_reducible assumption) | assumption)
                      obtain ⟨ad972, A972_1, c972_1, e972, hx972_0, hx972_1, hl972_1, hi972_1⟩ := at_T49 HR1.out x12_1 p972 q972
                      cases e972
                      replace hx972_0 := (HB.out.cell (World.block_lt_of_cell? w _ hx972_0)).trans hx972_0
                      replace hx972_1 := (HB.out.cell (World.block_lt_of_cell? w _ hx972_1)).trans hx972_1
                      have HR972_1 := Aside0.mk hi972_1
                      have HC972_1 := Aside0.mk hl972_1
                      clear hi972_1 hl972_1
                      replace p972 := eq_true p972
                      replace q972 := eq_true q972
                      go_wp2
                      go_roundg k2
                      case measure => have := HK1.out; have := HK2.out; omega
                      case rel => exact ⟨(x11_2), (wrap64 (x12_1 + 1)), (by first | rfl | (simp; done) | (simp [*]; done)), H', ⟨by have := HK1.out; have := HK2.out; omega⟩, ⟨by (with_reducible repeat (first | apply Kd.R_alloc | apply Kd.R_drewN | apply Kd.R_drew)); exact HO_11.out⟩, ⟨by repeat (first | (with_reducible first | exact HB.out | apply below_alloc | apply pw_below_drewN | apply below_drew1) | exact HB.out)⟩⟩
                  · rw [if_neg c12] at H
                    exact absurd H (by simp)
                · rw [if_neg c11] at H
                  exact absurd H (by simp)
          · rw [if_neg c10] at H
            have c10b0 : decide (x12_1 < (l1.length : Int)) = false := decide_eq_false c10
            clear c10
            by_cases c23 : (x11_1.length : Int) > a3
            · rw [if_pos c23] at H
              have c23b0 : decide (a3 < (x11_1.length : Int)) = true := decide_eq_true c23
              clear c23
              simp only [Option.some.injEq, Prod.mk.injEq] at H
              obtain ⟨rfl, rfl⟩ := H
              obtain ⟨Ao24, co24, eo24⟩ := Kd.R_slice HO_11.out
              subst eo24
              go_wp2
              go_ret2
              exact ⟨_, by first | rfl | (simp [errW_none, errW_some] <;> rfl) | (simp [*, errW_none, errW_some] <;> rfl), by first | exact Kd.R_nil _ _ _ _ _ | exact Kd.N_nil _ _ _ _ _ | exact Kd.V_nil _ _ _ _ _ | exact Kd.Q_nil _ _ _ _ _ | exact Kd.S_nil _ _ _ _ _, by repeat (first | (with_reducible first | exact HB.out | apply below_alloc | apply pw_below_drewN | apply below_drew1) | exact HB.out)⟩
            · rw [if_neg c23] at H
              have c23b0 : decide (a3 < (x11_1.length : Int)) = false := decide_eq_false c23
              clear c23
              simp only [Option.some.injEq, Prod.mk.injEq] at H
              obtain ⟨rfl, rfl⟩ := H
              obtain ⟨Ao25, co25, eo25⟩ := Kd.R_slice HO_11.out
              subst eo25
              go_wp2
              go_ret2
              exact ⟨_, by first | rfl | (simp [errW_none, errW_some] <;> rfl) | (simp [*, errW_none, errW_some] <;> rfl), by (with_reducible repeat (first | apply Kd.R_alloc | apply Kd.R_drewN | apply Kd.R_drew)); exact HO_11.out, by repeat (first | (with_reducible first | exact HB.out | apply below_alloc | apply pw_below_drewN | apply below_drew1) | exact HB.out)⟩
    · rw [if_neg c8] at H
      have c8b0 : (t971 == 0) = false := beq_eq_false_iff_ne.mpr c8
      have c8b1 : (t971 != 0) = true := bne_iff_ne.mpr c8
      simp only [Option.some.injEq, Prod.mk.injEq] at H
      obtain ⟨rfl, rfl⟩ := H
      go_enter Try.func88, Try.ntmps88
      go_wp2_with (first | ((with_reducible refine gate_callee (f := 90) rfl ?_); refine goesL_ (some 20) rfl rfl Try.func90 (by kernel_rfl) rfl #[.slice A0 l0.length c0, .slice A1 l1.length c1] rfl (by (try simp only [List.map_toArray, List.map_cons, List.map_nil]); first | done | rfl | (simp only [List.length_drop, List.length_take]; rfl)) ?_; (with_reducible refine (counterfoilref09_Right.calls k _ _ l0 _ _ l1 true _ ?side1 ?side2 ?side3 ?side4 A5.out).mono ?_); (case side1 => repeat (first | exact HR0.out | (with_reducible refine Kd.C_alloc ?_ _) | (with_reducible refine Kd.C_drewN ?_ _) | (with_reducible refine Kd.C_drew ?_))); (case side2 => exact HC0.out); (case side3 => repeat (first | exact HR1.out | (with_reducible refine Kd.C_alloc ?_ _) | (with_reducible refine Kd.C_drewN ?_ _) | (with_reducible refine Kd.C_drew ?_))); (case side4 => exact HC1.out); rintro e w26 ⟨rfl, hb⟩; refine ⟨_, rfl, ?_⟩; have n0_ := Aside0.mk (below_step (by repeat (first | (with_reducible first | exact HB.out | apply below_alloc | apply pw_below_drewN | apply below_drew1) | exact HB.out)) hb); clear HB; have HB := n0_; clear n0_; (try clear hb); (try clear hb2); (try clear hk); (try clear hi)) | ((with_reducible refine gate_callee (f := 107) rfl ?_); refine goesL_ (some 24) rfl rfl Try.func107 (by kernel_rfl) rfl #[.slice A1 l1.length c1, .slice A2 l2.length c2] rfl (by (try simp only [List.map_toArray, List.map_cons, List.map_nil]); first | done | rfl | (simp only [List.length_drop, List.length_take]; rfl)) ?_; (with_reducible refine (counterfoilref07_Check.calls k _ _ l1 _ _ l2 t971 _ ?side1 ?side2 ?side3 ?side4 A7.out).mono ?_); (case side1 => repeat (first | exact (Kd.C_below HR1.out HB.out) | (with_reducible refine Kd.C_alloc ?_ _) | (with_reducible refine Kd.C_drewN ?_ _) | (with_reducible refine Kd.C_drew ?_))); (case side2 => exact HC1.out); (case side3 => repeat (first | exact (Kd.C_below HR2.out HB.out) | (with_reducible refine Kd.C_alloc ?_ _) | (with_reducible refine Kd.C_drewN ?_ _) | (with_reducible refine Kd.C_drew ?_))); (case side4 => exact HC2.out); rintro e w' ⟨rfl, ⟨nd, rfl⟩⟩; refine ⟨_, rfl, ?_⟩))
      go_ret2
      exact ⟨_, by first | rfl | (simp [errW_none, errW_some] <;> rfl) | (simp [*, errW_none, errW_some] <;> rfl), by first | exact Kd.R_nil _ _ _ _ _ | exact Kd.N_nil _ _ _ _ _ | exact Kd.V_nil _ _ _ _ _ | exact Kd.Q_nil _ _ _ _ _ | exact Kd.S_nil _ _ _ _ _, by repeat (first | (with_reducible first | exact HB.out | apply below_alloc | apply pw_below_drewN | apply below_drew1) | exact HB.out)⟩
  · replace c6 := Bool.eq_false_iff.mpr c6
    subst c6
    have H1 : (some (([] : List (S74)), 1)) = some (r1, r2) := by rw [if_neg (show ¬ (false = true) by decide)] at H; exact H
    clear H
    have H := H1
    clear H1
    simp only [Option.some.injEq, Prod.mk.injEq] at H
    obtain ⟨rfl, rfl⟩ := H
    go_enter Try.func88, Try.ntmps88
    go_wp2_with (first | ((with_reducible refine gate_callee (f := 90) rfl ?_); refine goesL_ (some 20) rfl rfl Try.func90 (by kernel_rfl) rfl #[.slice A0 l0.length c0, .slice A1 l1.length c1] rfl (by (try simp only [List.map_toArray, List.map_cons, List.map_nil]); first | done | rfl | (simp only [List.length_drop, List.length_take]; rfl)) ?_; (with_reducible refine (counterfoilref09_Right.calls k _ _ l0 _ _ l1 false _ ?side1 ?side2 ?side3 ?side4 A5.out).mono ?_); (case side1 => repeat (first | exact HR0.out | (with_reducible refine Kd.C_alloc ?_ _) | (with_reducible refine Kd.C_drewN ?_ _) | (with_reducible refine Kd.C_drew ?_))); (case side2 => exact HC0.out); (case side3 => repeat (first | exact HR1.out | (with_reducible refine Kd.C_alloc ?_ _) | (with_reducible refine Kd.C_drewN ?_ _) | (with_reducible refine Kd.C_drew ?_))); (case side4 => exact HC1.out); rintro e w27 ⟨rfl, hb⟩; refine ⟨_, rfl, ?_⟩; have n0_ := Aside0.mk (below_step (by repeat (first | (with_reducible first | exact HB.out | apply below_alloc | apply pw_below_drewN | apply below_drew1) | exact HB.out)) hb); clear HB; have HB := n0_; clear n0_; (try clear hb); (try clear hb2); (try clear hk); (try clear hi)))
    go_ret2
    exact ⟨_, by first | rfl | (simp [errW_none, errW_some] <;> rfl) | (simp [*, errW_none, errW_some] <;> rfl), by first | exact Kd.R_nil _ _ _ _ _ | exact Kd.N_nil _ _ _ _ _ | exact Kd.V_nil _ _ _ _ _ | exact Kd.Q_nil _ _ _ _ _ | exact Kd.S_nil _ _ _ _ _, by repeat (first | (with_reducible first | exact HB.out | apply below_alloc | apply pw_below_drewN | apply below_drew1) | exact HB.out)⟩
def counterfoilref09_Read.f (k : Nat) (l0 : List (S74)) (l1 : List (S49)) (a2 : Int) (a3 : Int) : Option (ByteArray × Int) := (counterfoilref09_Right.f k l0 l1).bind fun t1030 => (if t1030 = true then ((counterfoilref07_Get.f k l1 a2 a3).bind fun bt1031 => (if bt1031.2 = 0 then ((counterfoilref07_Last.f k l0 a2 a3).bind fun bt1033 => (if bt1033.2 = true then (some (bt1033.1, 0)) else (some (bt1031.1, 0)))) else (some ((⟨#[]⟩ : ByteArray), bt1031.2)))) else (some ((⟨#[]⟩ : ByteArray), 1)))
set_option maxHeartbeats 8000000 in
set_option maxRecDepth 100000 in
theorem counterfoilref09_Read.calls (k : Nat) (A0 : Option Addr) (c0 : Nat) (l0 : List (S74)) (A1 : Option Addr) (c1 : Nat) (l1 : List (S49)) (a2 : Int) (a3 : Int) (r1 : ByteArray) (r2 : Int) (w : World) (hr0 : Kd.C k74 w A0 l0.length l0) (hc0 : l0.length ≤ c0) (hr1 : Kd.C k49 w A1 l1.length l1) (hc1 : l1.length ≤ c1) (h : counterfoilref09_Read.f k l0 l1 a2 a3 = some (r1, r2)) :
    Calls Try.prog 92 #[.slice A0 l0.length c0, .slice A1 l1.length c1, .int .i64 a2, .int .i64 a3] w fun e w' => e = .returned (.tuple #[.string r1, .int .i64 r2]) ∧ Below w.heap.size w w' := by
  have HR0 := Aside0.mk hr0
  have HC0 := Aside0.mk hc0
  clear hr0 hc0
  have HR1 := Aside0.mk hr1
  have HC1 := Aside0.mk hc1
  clear hr1 hc1
  have HB := Aside0.mk (Below.refl w.heap.size w)
  have H : ((counterfoilref09_Right.f k l0 l1).bind fun t1030 => (if t1030 = true then ((counterfoilref07_Get.f k l1 a2 a3).bind fun bt1031 => (if bt1031.2 = 0 then ((counterfoilref07_Last.f k l0 a2 a3).bind fun bt1033 => (if bt1033.2 = true then (some (bt1033.1, 0)) else (some (bt1031.1, 0)))) else (some ((⟨#[]⟩ : ByteArray), bt1031.2)))) else (some ((⟨#[]⟩ : ByteArray), 1)))) = some (r1, r2) := h
  clear h
  replace H := Option.bind_eq_some_iff.mp H
  obtain ⟨t1030, A50, H⟩ := H
  replace H : (if t1030 = true then ((counterfoilref07_Get.f k l1 a2 a3).bind fun bt1031 => (if bt1031.2 = 0 then ((counterfoilref07_Last.f k l0 a2 a3).bind fun bt1033 => (if bt1033.2 = true then (some (bt1033.1, 0)) else (some (bt1031.1, 0)))) else (some ((⟨#[]⟩ : ByteArray), bt1031.2)))) else (some ((⟨#[]⟩ : ByteArray), 1))) = some (r1, r2) := H
  have A5 := Aside0.mk A50
  clear A50
  by_cases c6 : t1030 = true
  · subst c6
    have H1 : ((counterfoilref07_Get.f k l1 a2 a3).bind fun bt1031 => (if bt1031.2 = 0 then ((counterfoilref07_Last.f k l0 a2 a3).bind fun bt1033 => (if bt1033.2 = true then (some (bt1033.1, 0)) else (some (bt1031.1, 0)))) else (some ((⟨#[]⟩ : ByteArray), bt1031.2)))) = some (r1, r2) := by rw [if_pos rfl] at H; exact H
    clear H
    have H := H1
    clear H1
    replace H := Option.bind_eq_some_iff.mp H
    obtain ⟨⟨t1031, t1032⟩, A70, H⟩ := H
    replace H : (if t1032 = 0 then ((counterfoilref07_Last.f k l0 a2 a3).bind fun bt1033 => (if bt1033.2 = true then (some (bt1033.1, 0)) else (some (t1031, 0)))) else (some ((⟨#[]⟩ : ByteArray), t1032))) = some (r1, r2) := H
    have A7 := Aside0.mk A70
    clear A70
    by_cases c8 : t1032 = 0
    · rw [if_pos c8] at H
      have c8b0 : (t1032 == 0) = true := beq_iff_eq.mpr c8
      have c8b1 : (t1032 != 0) = false := bne_eq_false_iff_eq.mpr c8
      clear c8
      replace H := Option.bind_eq_some_iff.mp H
      obtain ⟨⟨t1033, t1034⟩, A90, H⟩ := H
      replace H : (if t1034 = true then (some (t1033, 0)) else (some (t1031, 0))) = some (r1, r2) := H
      have A9 := Aside0.mk A90
      clear A90
      by_cases c10 : t1034 = true
      · subst c10
        have H1 : (some (t1033, 0)) = some (r1, r2) := by rw [if_pos rfl] at H; exact H
        clear H
        have H := H1
        clear H1
        simp only [Option.some.injEq, Prod.mk.injEq] at H
        obtain ⟨rfl, rfl⟩ := H
        go_enter Try.func92, Try.ntmps92
        go_wp2_with (first | ((with_reducible refine gate_callee (f := 90) rfl ?_); refine goesL_ (some 16) rfl rfl Try.func90 (by kernel_rfl) rfl #[.slice A0 l0.length c0, .slice A1 l1.length c1] rfl (by (try simp only [List.map_toArray, List.map_cons, List.map_nil]); first | done | rfl | (simp only [List.length_drop, List.length_take]; rfl)) ?_; (with_reducible refine (counterfoilref09_Right.calls k _ _ l0 _ _ l1 true _ ?side1 ?side2 ?side3 ?side4 A5.out).mono ?_); (case side1 => repeat (first | exact HR0.out | (with_reducible refine Kd.C_alloc ?_ _) | (with_reducible refine Kd.C_drewN ?_ _) | (with_reducible refine Kd.C_drew ?_))); (case side2 => exact HC0.out); (case side3 => repeat (first | exact HR1.out | (with_reducible refine Kd.C_alloc ?_ _) | (with_reducible refine Kd.C_drewN ?_ _) | (with_reducible refine Kd.C_drew ?_))); (case side4 => exact HC1.out); rintro e w11 ⟨rfl, hb⟩; refine ⟨_, rfl, ?_⟩; have n0_ := Aside0.mk (below_step (by repeat (first | (with_reducible first | exact HB.out | apply below_alloc | apply pw_below_drewN | apply below_drew1) | exact HB.out)) hb); clear HB; have HB := n0_; clear n0_; (try clear hb); (try clear hb2); (try clear hk); (try clear hi)) | ((with_reducible refine gate_callee (f := 41) rfl ?_); refine goesL_ (some 22) rfl rfl Try.func41 (by kernel_rfl) rfl #[.slice A1 l1.length c1, .int .i64 a2, .int .i64 a3] rfl (by (try simp only [List.map_toArray, List.map_cons, List.map_nil]); first | done | rfl | (simp only [List.length_drop, List.length_take]; rfl)) ?_; (with_reducible refine (counterfoilref07_Get.calls k _ _ l1 a2 a3 t1031 t1032 _ ?side1 ?side2 A7.out).mono ?_); (case side1 => repeat (first | exact (Kd.C_below HR1.out HB.out) | (with_reducible refine Kd.C_alloc ?_ _) | (with_reducible refine Kd.C_drewN ?_ _) | (with_reducible refine Kd.C_drew ?_))); (case side2 => exact HC1.out); rintro e w' ⟨rfl, ⟨nd, rfl⟩⟩; refine ⟨_, rfl, ?_⟩) | ((with_reducible refine gate_callee (f := 108) rfl ?_); refine goesL_ (some 32) rfl rfl Try.func108 (by kernel_rfl) rfl #[.slice A0 l0.length c0, .int .i64 a2, .int .i64 a3] rfl (by (try simp only [List.map_toArray, List.map_cons, List.map_nil]); first | done | rfl | (simp only [List.length_drop, List.length_take]; rfl)) ?_; (with_reducible refine (counterfoilref07_Last.calls k _ _ l0 a2 a3 t1033 true _ ?side1 ?side2 A9.out).mono ?_); (case side1 => repeat (first | exact (Kd.C_below HR0.out (by repeat (first | (with_reducible first | exact HB.out | apply below_alloc | apply pw_below_drewN | apply below_drew1) | exact HB.out))) | (with_reducible refine Kd.C_alloc ?_ _) | (with_reducible refine Kd.C_drewN ?_ _) | (with_reducible refine Kd.C_drew ?_))); (case side2 => exact HC0.out); rintro e w' ⟨rfl, ⟨nd, rfl⟩⟩; refine ⟨_, rfl, ?_⟩))
        go_ret2
        exact ⟨by first | rfl | (simp [errW_none, errW_some] <;> rfl) | (simp [*, errW_none, errW_some] <;> rfl), by repeat (first | (with_reducible first | exact HB.out | apply below_alloc | apply pw_below_drewN | apply below_drew1) | exact HB.out)⟩
      · replace c10 := Bool.eq_false_iff.mpr c10
        subst c10
        have H1 : (some (t1031, 0)) = some (r1, r2) := by rw [if_neg (show ¬ (false = true) by decide)] at H; exact H
        clear H
        have H := H1
        clear H1
        simp only [Option.some.injEq, Prod.mk.injEq] at H
        obtain ⟨rfl, rfl⟩ := H
        go_enter Try.func92, Try.ntmps92
        go_wp2_with (first | ((with_reducible refine gate_callee (f := 90) rfl ?_); refine goesL_ (some 16) rfl rfl Try.func90 (by kernel_rfl) rfl #[.slice A0 l0.length c0, .slice A1 l1.length c1] rfl (by (try simp only [List.map_toArray, List.map_cons, List.map_nil]); first | done | rfl | (simp only [List.length_drop, List.length_take]; rfl)) ?_; (with_reducible refine (counterfoilref09_Right.calls k _ _ l0 _ _ l1 true _ ?side1 ?side2 ?side3 ?side4 A5.out).mono ?_); (case side1 => repeat (first | exact HR0.out | (with_reducible refine Kd.C_alloc ?_ _) | (with_reducible refine Kd.C_drewN ?_ _) | (with_reducible refine Kd.C_drew ?_))); (case side2 => exact HC0.out); (case side3 => repeat (first | exact HR1.out | (with_reducible refine Kd.C_alloc ?_ _) | (with_reducible refine Kd.C_drewN ?_ _) | (with_reducible refine Kd.C_drew ?_))); (case side4 => exact HC1.out); rintro e w12 ⟨rfl, hb⟩; refine ⟨_, rfl, ?_⟩; have n0_ := Aside0.mk (below_step (by repeat (first | (with_reducible first | exact HB.out | apply below_alloc | apply pw_below_drewN | apply below_drew1) | exact HB.out)) hb); clear HB; have HB := n0_; clear n0_; (try clear hb); (try clear hb2); (try clear hk); (try clear hi)) | ((with_reducible refine gate_callee (f := 41) rfl ?_); refine goesL_ (some 22) rfl rfl Try.func41 (by kernel_rfl) rfl #[.slice A1 l1.length c1, .int .i64 a2, .int .i64 a3] rfl (by (try simp only [List.map_toArray, List.map_cons, List.map_nil]); first | done | rfl | (simp only [List.length_drop, List.length_take]; rfl)) ?_; (with_reducible refine (counterfoilref07_Get.calls k _ _ l1 a2 a3 t1031 t1032 _ ?side1 ?side2 A7.out).mono ?_); (case side1 => repeat (first | exact (Kd.C_below HR1.out HB.out) | (with_reducible refine Kd.C_alloc ?_ _) | (with_reducible refine Kd.C_drewN ?_ _) | (with_reducible refine Kd.C_drew ?_))); (case side2 => exact HC1.out); rintro e w' ⟨rfl, ⟨nd, rfl⟩⟩; refine ⟨_, rfl, ?_⟩) | ((with_reducible refine gate_callee (f := 108) rfl ?_); refine goesL_ (some 32) rfl rfl Try.func108 (by kernel_rfl) rfl #[.slice A0 l0.length c0, .int .i64 a2, .int .i64 a3] rfl (by (try simp only [List.map_toArray, List.map_cons, List.map_nil]); first | done | rfl | (simp only [List.length_drop, List.length_take]; rfl)) ?_; (with_reducible refine (counterfoilref07_Last.calls k _ _ l0 a2 a3 t1033 false _ ?side1 ?side2 A9.out).mono ?_); (case side1 => repeat (first | exact (Kd.C_below HR0.out (by repeat (first | (with_reducible first | exact HB.out | apply below_alloc | apply pw_below_drewN | apply below_drew1) | exact HB.out))) | (with_reducible refine Kd.C_alloc ?_ _) | (with_reducible refine Kd.C_drewN ?_ _) | (with_reducible refine Kd.C_drew ?_))); (case side2 => exact HC0.out); rintro e w' ⟨rfl, ⟨nd, rfl⟩⟩; refine ⟨_, rfl, ?_⟩))
        go_ret2
        exact ⟨by first | rfl | (simp [errW_none, errW_some] <;> rfl) | (simp [*, errW_none, errW_some] <;> rfl), by repeat (first | (with_reducible first | exact HB.out | apply below_alloc | apply pw_below_drewN | apply below_drew1) | exact HB.out)⟩
    · rw [if_neg c8] at H
      have c8b0 : (t1032 == 0) = false := beq_eq_false_iff_ne.mpr c8
      have c8b1 : (t1032 != 0) = true := bne_iff_ne.mpr c8
      simp only [Option.some.injEq, Prod.mk.injEq] at H
      obtain ⟨rfl, rfl⟩ := H
      go_enter Try.func92, Try.ntmps92
      go_wp2_with (first | ((with_reducible refine gate_callee (f := 90) rfl ?_); refine goesL_ (some 16) rfl rfl Try.func90 (by kernel_rfl) rfl #[.slice A0 l0.length c0, .slice A1 l1.length c1] rfl (by (try simp only [List.map_toArray, List.map_cons, List.map_nil]); first | done | rfl | (simp only [List.length_drop, List.length_take]; rfl)) ?_; (with_reducible refine (counterfoilref09_Right.calls k _ _ l0 _ _ l1 true _ ?side1 ?side2 ?side3 ?side4 A5.out).mono ?_); (case side1 => repeat (first | exact HR0.out | (with_reducible refine Kd.C_alloc ?_ _) | (with_reducible refine Kd.C_drewN ?_ _) | (with_reducible refine Kd.C_drew ?_))); (case side2 => exact HC0.out); (case side3 => repeat (first | exact HR1.out | (with_reducible refine Kd.C_alloc ?_ _) | (with_reducible refine Kd.C_drewN ?_ _) | (with_reducible refine Kd.C_drew ?_))); (case side4 => exact HC1.out); rintro e w13 ⟨rfl, hb⟩; refine ⟨_, rfl, ?_⟩; have n0_ := Aside0.mk (below_step (by repeat (first | (with_reducible first | exact HB.out | apply below_alloc | apply pw_below_drewN | apply below_drew1) | exact HB.out)) hb); clear HB; have HB := n0_; clear n0_; (try clear hb); (try clear hb2); (try clear hk); (try clear hi)) | ((with_reducible refine gate_callee (f := 41) rfl ?_); refine goesL_ (some 22) rfl rfl Try.func41 (by kernel_rfl) rfl #[.slice A1 l1.length c1, .int .i64 a2, .int .i64 a3] rfl (by (try simp only [List.map_toArray, List.map_cons, List.map_nil]); first | done | rfl | (simp only [List.length_drop, List.length_take]; rfl)) ?_; (with_reducible refine (counterfoilref07_Get.calls k _ _ l1 a2 a3 t1031 t1032 _ ?side1 ?side2 A7.out).mono ?_); (case side1 => repeat (first | exact (Kd.C_below HR1.out HB.out) | (with_reducible refine Kd.C_alloc ?_ _) | (with_reducible refine Kd.C_drewN ?_ _) | (with_reducible refine Kd.C_drew ?_))); (case side2 => exact HC1.out); rintro e w' ⟨rfl, ⟨nd, rfl⟩⟩; refine ⟨_, rfl, ?_⟩))
      go_ret2
      exact ⟨by first | rfl | (simp [errW_none, errW_some] <;> rfl) | (simp [*, errW_none, errW_some] <;> rfl), by repeat (first | (with_reducible first | exact HB.out | apply below_alloc | apply pw_below_drewN | apply below_drew1) | exact HB.out)⟩
  · replace c6 := Bool.eq_false_iff.mpr c6
    subst c6
    have H1 : (some ((⟨#[]⟩ : ByteArray), 1)) = some (r1, r2) := by rw [if_neg (show ¬ (false = true) by decide)] at H; exact H
    clear H
    have H := H1
    clear H1
    simp only [Option.some.injEq, Prod.mk.injEq] at H
    obtain ⟨rfl, rfl⟩ := H
    go_enter Try.func92, Try.ntmps92
    go_wp2_with (first | ((with_reducible refine gate_callee (f := 90) rfl ?_); refine goesL_ (some 16) rfl rfl Try.func90 (by kernel_rfl) rfl #[.slice A0 l0.length c0, .slice A1 l1.length c1] rfl (by (try simp only [List.map_toArray, List.map_cons, List.map_nil]); first | done | rfl | (simp only [List.length_drop, List.length_take]; rfl)) ?_; (with_reducible refine (counterfoilref09_Right.calls k _ _ l0 _ _ l1 false _ ?side1 ?side2 ?side3 ?side4 A5.out).mono ?_); (case side1 => repeat (first | exact HR0.out | (with_reducible refine Kd.C_alloc ?_ _) | (with_reducible refine Kd.C_drewN ?_ _) | (with_reducible refine Kd.C_drew ?_))); (case side2 => exact HC0.out); (case side3 => repeat (first | exact HR1.out | (with_reducible refine Kd.C_alloc ?_ _) | (with_reducible refine Kd.C_drewN ?_ _) | (with_reducible refine Kd.C_drew ?_))); (case side4 => exact HC1.out); rintro e w14 ⟨rfl, hb⟩; refine ⟨_, rfl, ?_⟩; have n0_ := Aside0.mk (below_step (by repeat (first | (with_reducible first | exact HB.out | apply below_alloc | apply pw_below_drewN | apply below_drew1) | exact HB.out)) hb); clear HB; have HB := n0_; clear n0_; (try clear hb); (try clear hb2); (try clear hk); (try clear hi)))
    go_ret2
    exact ⟨by first | rfl | (simp [errW_none, errW_some] <;> rfl) | (simp [*, errW_none, errW_some] <;> rfl), by repeat (first | (with_reducible first | exact HB.out | apply below_alloc | apply pw_below_drewN | apply below_drew1) | exact HB.out)⟩
end Go.Proofs.Ythdhkoeaadahaaa.P
