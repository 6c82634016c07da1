-- MADE BY wip/kit/myprint.py for this seat
import Derived.Test.YtlkfmmjoiadoiaaPx0
import Derived.Test.YtlkfmmjoiadoiaaPx37
namespace Go.Proofs.Ytlkfmmjoiadoiaa.P
open Go.RowKit Go.Proofs.YtlkfmmjoiadoiaaW.PrintWords Go.Proofs.YtlkfmmjoiadoiaaW.PrintLast Go.Proofs.YtlkfmmjoiadoiaaW.PrintMore
attribute [local go_sem] max2_int min2_int max_two min_two max_three min_three max_four min_four   -- for this text's walks alone
set_option linter.unusedVariables false
set_option linter.unusedSimpArgs false

/-! ### counterfoillaw16_awake: function 15 -/
def counterfoillaw16_awake.f (k : Nat)  : Option (Bool) := (wires_Send.f k ([] : List (S24)) 1 (⟨#[97]⟩ : ByteArray)).bind fun bt296 => (if (bt296.1.length : Int) = 1 then (if 0 < (bt296.1.length : Int) then (if ((rd_T24 bt296.1 0).f1).toList = ([97] : List UInt8) then (some (bt296.2 == 0)) else (some false)) else (none)) else (some false))
theorem counterfoillaw16_awake.mono : ∀ k, LeO (counterfoillaw16_awake.f k ) (counterfoillaw16_awake.f (k + 1) ) := by
  intro  k
  unfold counterfoillaw16_awake.f
  repeat' first
      | (with_reducible exact wires_Send.mono _ _ _ _)
      | (with_reducible exact LeO.refl _)
      | (with_reducible exact LeO.none _)
      | (with_reducible refine LeO.ite ?_ ?_)
      | (with_reducible refine LeO.bind ?_ (fun _ => ?_))
      | exact wires_Send.mono _ _ _ _
      | exact LeO.none _
      | refine LeO.ite ?_ ?_
      | refine LeO.bind ?_ (fun _ => ?_)
set_option maxHeartbeats 8000000 in
set_option maxRecDepth 100000 in
theorem counterfoillaw16_awake.calls (k : Nat)  (r : Bool) (w : World) (h : counterfoillaw16_awake.f k  = some r) :
    Calls Try.prog 15 #[] w fun e w' => e = .returned (.bool r) ∧ Below w.heap.size w w' := by
  have hu24 := Try.underlying24
  have HB := Aside0.mk (Below.refl w.heap.size w)
  have H : ((wires_Send.f k ([] : List (S24)) 1 (⟨#[97]⟩ : ByteArray)).bind fun bt296 => (if (bt296.1.length : Int) = 1 then (if 0 < (bt296.1.length : Int) then (if ((rd_T24 bt296.1 0).f1).toList = ([97] : List UInt8) then (some (bt296.2 == 0)) else (some false)) else (none)) else (some false))) = some r := h
  clear h
  replace H := Option.bind_eq_some_iff.mp H
  obtain ⟨⟨t296, t299⟩, A10, H⟩ := H
  replace H : (if (t296.length : Int) = 1 then (if 0 < (t296.length : Int) then (if ((rd_T24 t296 0).f1).toList = ([97] : List UInt8) then (some (t299 == 0)) else (some false)) else (none)) else (some false)) = some r := H
  have A1 := Aside0.mk A10
  clear A10
  by_cases c2 : (t296.length : Int) = 1
  · rw [if_pos c2] at H
    have c2b0 : ((t296.length : Int) == 1) = true := beq_iff_eq.mpr c2
    have c2b1 : ((t296.length : Int) != 1) = false := bne_eq_false_iff_eq.mpr c2
    clear c2
    by_cases c3 : 0 < (t296.length : Int)
    · rw [if_pos c3] at H
      have c3b0 : decide (0 < (t296.length : Int)) = true := decide_eq_true c3
      have c3b1 : decide (0 < t296.length) = true := decide_eq_true (by omega)
      clear c3
      by_cases c4 : ((rd_T24 t296 0).f1).toList = ([97] : List UInt8)
      · rw [if_pos c4] at H
        have c4b0 : (((rd_T24 t296 0).f1).toList == ([97] : List UInt8)) = true := beq_iff_eq.mpr c4
        have c4b1 : (((rd_T24 t296 0).f1).toList != ([97] : List UInt8)) = false := bne_eq_false_iff_eq.mpr c4
        clear c4
        obtain rfl := Option.some.inj H
        go_enter Try.func15, Try.ntmps15
        go_wp2_with (first | ((with_reducible refine gate_callee (f := 16) rfl ?_); refine goesL_ (some 5) rfl rfl Try.func16 (by kernel_rfl) rfl #[.slice none 0 0, .agg #[.int .i64 1, .string (⟨#[97]⟩ : ByteArray)]] rfl (by (try simp only [List.map_toArray, List.map_cons, List.map_nil]); first | done | rfl | (simp only [List.length_drop, List.length_take]; rfl)) ?_; (refine (wires_Send.calls k _ _ ([] : List (S24)) 1 (⟨#[97]⟩ : ByteArray) t296 t299 _ ?side1 ?side2 A1.out).mono ?_); (case side1 => exact Kd.C_nil _ _); (case side2 => exact Nat.le_refl _); rintro e w5 ⟨v297, rfl, ho0, hb⟩; refine ⟨_, rfl, ?_⟩; have n0_ := Aside0.mk (Kd.R_lower ho0 (below_size (by repeat (first | (with_reducible first | exact HB.out | apply below_alloc | apply pw_below_drewN | apply below_drew1) | exact HB.out)))); have n1_ := Aside0.mk (below_step (by repeat (first | (with_reducible first | exact HB.out | apply below_alloc | apply pw_below_drewN | apply below_drew1) | exact HB.out)) hb); clear HB; have HO298 := n0_; have HB := n1_; clear n0_ n1_; (try clear hb); (try clear hb2); (try clear hk); (try clear hi); (try clear ho0); obtain ⟨Ao6, co6, eo6⟩ := Kd.R_slice HO298.out; subst eo6; have p300 : 0 ≤ (0 : Int) := (by omega); have q300 : 0 < (t296.length : Int) := of_decide_eq_true (by first | (with_reducible assumption) | assumption); obtain ⟨ad300, e300, hx300_0, hx300_1⟩ := at_T24 (Kd.R_reads' HO298.out).2.2 0 p300 q300; cases e300; have qi300 : (0 < t296.length) = True := eq_true (by omega); (try rw [show ((0 : Int)).toNat = 0 from rfl] at hx300_0); (try rw [show 0 * 2 = 0 from rfl] at hx300_0); (try rw [Addr.add_zero'] at hx300_0); (try rw [show ((0 : Int)).toNat = 0 from rfl] at hx300_1); (try rw [show 0 * 2 = 0 from rfl] at hx300_1); (try rw [Addr.add_zero'] at hx300_1); replace p300 := eq_true p300; replace q300 := eq_true q300))
        go_ret
        exact ⟨by first | rfl | (simp [errW_none, errW_some] <;> rfl) | (simp [*, errW_none, errW_some] <;> rfl), by repeat (first | (with_reducible first | exact HB.out | apply below_alloc | apply pw_below_drewN | apply below_drew1) | exact HB.out)⟩
      · rw [if_neg c4] at H
        have c4b0 : (((rd_T24 t296 0).f1).toList == ([97] : List UInt8)) = false := beq_eq_false_iff_ne.mpr c4
        have c4b1 : (((rd_T24 t296 0).f1).toList != ([97] : List UInt8)) = true := bne_iff_ne.mpr c4
        obtain rfl := Option.some.inj H
        go_enter Try.func15, Try.ntmps15
        go_wp2_with (first | ((with_reducible refine gate_callee (f := 16) rfl ?_); refine goesL_ (some 5) rfl rfl Try.func16 (by kernel_rfl) rfl #[.slice none 0 0, .agg #[.int .i64 1, .string (⟨#[97]⟩ : ByteArray)]] rfl (by (try simp only [List.map_toArray, List.map_cons, List.map_nil]); first | done | rfl | (simp only [List.length_drop, List.length_take]; rfl)) ?_; (refine (wires_Send.calls k _ _ ([] : List (S24)) 1 (⟨#[97]⟩ : ByteArray) t296 t299 _ ?side1 ?side2 A1.out).mono ?_); (case side1 => exact Kd.C_nil _ _); (case side2 => exact Nat.le_refl _); rintro e w7 ⟨v297, rfl, ho0, hb⟩; refine ⟨_, rfl, ?_⟩; have n0_ := Aside0.mk (Kd.R_lower ho0 (below_size (by repeat (first | (with_reducible first | exact HB.out | apply below_alloc | apply pw_below_drewN | apply below_drew1) | exact HB.out)))); have n1_ := Aside0.mk (below_step (by repeat (first | (with_reducible first | exact HB.out | apply below_alloc | apply pw_below_drewN | apply below_drew1) | exact HB.out)) hb); clear HB; have HO298 := n0_; have HB := n1_; clear n0_ n1_; (try clear hb); (try clear hb2); (try clear hk); (try clear hi); (try clear ho0); obtain ⟨Ao8, co8, eo8⟩ := Kd.R_slice HO298.out; subst eo8; have p300 : 0 ≤ (0 : Int) := (by omega); have q300 : 0 < (t296.length : Int) := of_decide_eq_true (by first | (with_reducible assumption) | assumption); obtain ⟨ad300, e300, hx300_0, hx300_1⟩ := at_T24 (Kd.R_reads' HO298.out).2.2 0 p300 q300; cases e300; have qi300 : (0 < t296.length) = True := eq_true (by omega); (try rw [show ((0 : Int)).toNat = 0 from rfl] at hx300_0); (try rw [show 0 * 2 = 0 from rfl] at hx300_0); (try rw [Addr.add_zero'] at hx300_0); (try rw [show ((0 : Int)).toNat = 0 from rfl] at hx300_1); (try rw [show 0 * 2 = 0 from rfl] at hx300_1); (try rw [Addr.add_zero'] at hx300_1); replace p300 := eq_true p300; replace q300 := eq_true q300))
        go_ret
        exact ⟨by first | rfl | (simp [errW_none, errW_some] <;> rfl) | (simp [*, errW_none, errW_some] <;> rfl), by repeat (first | (with_reducible first | exact HB.out | apply below_alloc | apply pw_below_drewN | apply below_drew1) | exact HB.out)⟩
    · rw [if_neg c3] at H
      exact absurd H (by simp)
  · rw [if_neg c2] at H
    have c2b0 : ((t296.length : Int) == 1) = false := beq_eq_false_iff_ne.mpr c2
    have c2b1 : ((t296.length : Int) != 1) = true := bne_iff_ne.mpr c2
    obtain rfl := Option.some.inj H
    go_enter Try.func15, Try.ntmps15
    go_wp2_with (first | ((with_reducible refine gate_callee (f := 16) rfl ?_); refine goesL_ (some 5) rfl rfl Try.func16 (by kernel_rfl) rfl #[.slice none 0 0, .agg #[.int .i64 1, .string (⟨#[97]⟩ : ByteArray)]] rfl (by (try simp only [List.map_toArray, List.map_cons, List.map_nil]); first | done | rfl | (simp only [List.length_drop, List.length_take]; rfl)) ?_; (refine (wires_Send.calls k _ _ ([] : List (S24)) 1 (⟨#[97]⟩ : ByteArray) t296 t299 _ ?side1 ?side2 A1.out).mono ?_); (case side1 => exact Kd.C_nil _ _); (case side2 => exact Nat.le_refl _); rintro e w9 ⟨v297, rfl, ho0, hb⟩; refine ⟨_, rfl, ?_⟩; have n0_ := Aside0.mk (Kd.R_lower ho0 (below_size (by repeat (first | (with_reducible first | exact HB.out | apply below_alloc | apply pw_below_drewN | apply below_drew1) | exact HB.out)))); have n1_ := Aside0.mk (below_step (by repeat (first | (with_reducible first | exact HB.out | apply below_alloc | apply pw_below_drewN | apply below_drew1) | exact HB.out)) hb); clear HB; have HO298 := n0_; have HB := n1_; clear n0_ n1_; (try clear hb); (try clear hb2); (try clear hk); (try clear hi); (try clear ho0); obtain ⟨Ao10, co10, eo10⟩ := Kd.R_slice HO298.out; subst eo10))
    go_ret
    exact ⟨by first | rfl | (simp [errW_none, errW_some] <;> rfl) | (simp [*, errW_none, errW_some] <;> rfl), by repeat (first | (with_reducible first | exact HB.out | apply below_alloc | apply pw_below_drewN | apply below_drew1) | exact HB.out)⟩

end Go.Proofs.Ytlkfmmjoiadoiaa.P
