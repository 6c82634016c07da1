-- PACKED by wip/kit/pack.py: what the law's proof uses of EFind (printed words and texts of this seat)
import Derived.Test.YthdhkoeaadahaaaUEVGet
namespace Go.Proofs.Ythdhkoeaadahaaa.P
open Go.RowKit Go.Proofs.YthdhkoeaadahaaaW.PrintWords Go.Proofs.YthdhkoeaadahaaaW.PrintLast Go.Proofs.YthdhkoeaadahaaaW.PrintMore
attribute [local go_sem] Oper.semAt_some
set_option linter.unusedVariables false
set_option linter.unusedSimpArgs false
theorem u64_half9 (x : Int) (h0 : 0 ≤ x) (h1 : x ≤ 9000000) : wrap64 (IntKind.u64.wrap (wrap64 x) / 2) = x / 2 := by
  have e1 : wrap64 x = x := by unfold wrap64; omega
  have e2 : IntKind.u64.wrap x = x := by
    unfold IntKind.wrap
    simp [IntKind.bits, IntKind.signed]
    omega
  rw [e1, e2]; unfold wrap64; omega
def PosV (l : List S49) (x : Int) (p : Nat) : Prop := p ≤ l.length ∧ (∀ k, k < p → (rd_T49 l (k : Int)).f0 < x) ∧ ∀ k, p ≤ k → k < l.length → x ≤ (rd_T49 l (k : Int)).f0
def AscV (l : List S49) : Prop := (∀ k, k < l.length → 1 ≤ (rd_T49 l (k : Int)).f0 ∧ (rd_T49 l (k : Int)).f0 ≤ 255) ∧ ∀ i j, i < j → j < l.length → (rd_T49 l (i : Int)).f0 < (rd_T49 l (j : Int)).f0
set_option maxRecDepth 100000 in
set_option maxHeartbeats 2000000 in
theorem cmp_calls (a x : Int) (A : Option Addr) (n c : Nat) (h1 : 1 ≤ a) (h2 : a ≤ 255) (h3 : 1 ≤ x) (h4 : x ≤ 255) (w : World) :
    Calls Try.prog 130 #[.agg #[.int .i64 a, .slice A n c], .int .i64 x] w fun e w' => e = .returned (.int .i64 (a - x)) ∧ Below w.heap.size w w' := by
  have hu49 := Try.underlying49
  go_enter Try.func130, Try.ntmps130
  go_wp2
  go_ret
  exact ⟨rfl, by repeat (first | exact Below.refl _ _ | apply below_alloc | apply pw_below_drewN | apply below_drew1)⟩
set_option maxRecDepth 100000 in
set_option maxHeartbeats 4000000 in
theorem search_calls (A : Option Addr) (c : Nat) (l : List S49) (x : Int) (w : World) (hr : Kd.C k49 w A l.length l) (hc : l.length ≤ c) (hn : l.length ≤ 1000) (hA : AscV l) (h3 : 1 ≤ x) (h4 : x ≤ 255) :
    Calls Try.prog 129 #[.slice A l.length c, .int .i64 x, .func (.func 130) #[] #[]] w fun e w' => (∃ (p : Nat) (b : Bool), PosV l x p ∧ (b = true ↔ p < l.length ∧ (rd_T49 l (p : Int)).f0 = x) ∧ e = .returned (.tuple #[.int .i64 (p : Int), .bool b])) ∧ Below w.heap.size w w' := by
  have hu49 := Try.underlying49
  have HR := Aside0.mk hr
  have HA := Aside0.mk hA
  have HN := Aside0.mk hn
  clear hr hA
  go_enter Try.func129, Try.ntmps129
  go_wp2
  go_loopg [9, 10] l.length (fun gg s9 s10 wr => ∃ (i j : Nat) (zi zj : Int), Aside0 (i ≤ j ∧ j ≤ l.length) ∧ j - i ≤ gg ∧ s9 = .int .i64 zi ∧ s10 = .int .i64 zj ∧ Aside0 (zi = (i : Int)) ∧ Aside0 (zj = (j : Int)) ∧ Aside0 (Below w.heap.size w wr) ∧ Aside0 (∀ k, k < i → (rd_T49 l (k : Int)).f0 < x) ∧ Aside0 (∀ k, j ≤ k → k < l.length → x ≤ (rd_T49 l (k : Int)).f0))
  case atStart => exact ⟨0, l.length, 0, l.length, ⟨Nat.zero_le _, Nat.le_refl _⟩, by omega, rfl, rfl, ⟨rfl⟩, ⟨rfl⟩, ⟨Below.refl _ _⟩, ⟨fun k hk => absurd hk (by omega)⟩, ⟨fun k h h' => absurd h (by omega)⟩⟩
  case round =>
    obtain ⟨i, j, zi, zj, HIJ, hg, rfl, rfl, HZI, HZJ, BW, F1, F2⟩ := hrel
    by_cases hlt : i < j
    · have e0 : decide (zi < zj) = true := decide_eq_true (by have := HZI.out; have := HZJ.out; omega)
      obtain ⟨zh, hzh⟩ : ∃ z, wrap64 (IntKind.u64.wrap (wrap64 (zi + zj)) / 2) = z := ⟨_, rfl⟩
      obtain ⟨q, hq1, hq2, hq3⟩ : ∃ q : Nat, i ≤ q ∧ q < j ∧ zh = (q : Int) := by
        refine ⟨(i + j) / 2, by omega, by omega, ?_⟩
        have h1 := HZI.out; have h2 := HZJ.out; have h5 := HIJ.out; have h6 := HN.out
        rw [← hzh, u64_half9 _ (by omega) (by omega)]; omega
      have hql : q < l.length := by have := HIJ.out; omega
      obtain ⟨z1, hz1⟩ : ∃ z, wrap64 (zh + 1) = z := ⟨_, rfl⟩
      have HZ1 := Aside0.mk (show z1 = ((q + 1 : Nat) : Int) by rw [← hz1]; unfold wrap64; have := HN.out; omega)
      have hz0 : 0 ≤ zh := by omega
      have hz2 : zh < (l.length : Int) := by omega
      obtain ⟨ad, A1, c1, rfl, d0, d1, hl1, hC1⟩ := at_T49 (Kd.C_below HR.out BW.out) zh hz0 hz2
      have hb := HA.out.1 q hql
      have hcall := fun W : World => cmp_calls (rd_T49 l zh).f0 x A1 (rd_T49 l zh).f1.length c1 (by rw [hq3]; exact hb.1) (by rw [hq3]; exact hb.2) h3 h4 W
      have HY := Aside0.mk (show (rd_T49 l (q : Int)).f0 = (rd_T49 l zh).f0 by rw [hq3])
      have HZH := Aside0.mk hq3
      have HQ1 := Aside0.mk hq1
      have HQ2 := Aside0.mk hq2
      generalize rd_T49 l zh = y at d0 d1 hl1 hC1 hcall HY
      have HCALL := Aside0.mk hcall
      have HNN := Aside0.mk hn
      clear hcall hb hq1 hq2 hq3 hlt hC1 hl1 hn hc
      by_cases hcmp : y.f0 - x < 0
      · have e5 : decide (y.f0 - x < 0) = true := decide_eq_true hcmp
        go_wp2_with (go_at_call 130; refine (HCALL.out _).mono ?_; rintro e w2 ⟨rfl, hb⟩; have HB2 := Aside0.mk (below_step BW.out hb); clear hb)
        (try simp only [hzh, hz1])
        go_roundg (j - (q + 1))
        case measure => have := HQ1.out; have := HQ2.out; omega
        case rel =>
          refine ⟨q + 1, j, z1, zj, ⟨by have := HQ2.out; omega, by have := HIJ.out; omega⟩, by omega, by first | rfl | exact congrArg (Value.int .i64) (by first | exact hz1 | omega), rfl, HZ1, HZJ, HB2, ⟨fun k hk => ?_⟩, F2⟩
          rcases Nat.lt_or_ge k q with h9 | h9
          · have := HA.out.2 k q h9 hql
            have := HY.out
            omega
          · obtain rfl : k = q := by omega
            have := HY.out
            omega
      · have e5 : decide (y.f0 - x < 0) = false := decide_eq_false hcmp
        go_wp2_with (go_at_call 130; refine (HCALL.out _).mono ?_; rintro e w2 ⟨rfl, hb⟩; have HB2 := Aside0.mk (below_step BW.out hb); clear hb)
        (try simp only [hzh])
        go_roundg (q - i)
        case measure => have := HQ1.out; have := HQ2.out; omega
        case rel =>
          refine ⟨i, q, zi, zh, ⟨HQ1.out, by omega⟩, by omega, rfl, by first | rfl | exact congrArg (Value.int .i64) (by first | exact hzh | omega), HZI, HZH, HB2, F1, ⟨fun k hk hk2 => ?_⟩⟩
          rcases Nat.lt_or_ge q k with h9 | h9
          · have := HA.out.2 q k h9 hk2
            have := HY.out
            omega
          · obtain rfl : k = q := by omega
            have := HY.out
            omega
    · have e0 : decide (zi < zj) = false := decide_eq_false (by have := HZI.out; have := HZJ.out; omega)
      have hij : j = i := by have := HIJ.out; omega
      have HP := Aside0.mk (show PosV l x i from ⟨by have := HIJ.out; omega, F1.out, fun k hk => F2.out k (by omega)⟩)
      have HZI2 := HZI.out
      by_cases hlast : i < l.length
      · have e1 : decide (zi < (l.length : Int)) = true := decide_eq_true (by omega)
        have hz0 : 0 ≤ zi := by omega
        have hz2 : zi < (l.length : Int) := by omega
        obtain ⟨ad, A1, c1, rfl, d0, d1, hl1, hC1⟩ := at_T49 (Kd.C_below HR.out BW.out) zi hz0 hz2
        have hb := HA.out.1 i hlast
        have hcall := fun W : World => cmp_calls (rd_T49 l zi).f0 x A1 (rd_T49 l zi).f1.length c1 (by rw [HZI2]; exact hb.1) (by rw [HZI2]; exact hb.2) h3 h4 W
        have HY := Aside0.mk (show (rd_T49 l (i : Int)).f0 = (rd_T49 l zi).f0 by rw [HZI2])
        have HZ9 := Aside0.mk HZI2
        generalize rd_T49 l zi = y at d0 d1 hl1 hC1 hcall HY
        have HCALL := Aside0.mk hcall
        clear hcall hb hC1 hl1 HZI2
        obtain ⟨b, hbq⟩ : ∃ b, (y.f0 - x == 0) = b := ⟨_, rfl⟩
        have HBQ := Aside0.mk hbq
        go_wp2_with (go_at_call 130; refine (HCALL.out _).mono ?_; rintro e w2 ⟨rfl, hb⟩; have HB2 := Aside0.mk (below_step BW.out hb); clear hb)
        refine bodyPost_ret (v := .tuple #[.int .i64 zi, .bool b]) ?_ rfl ⟨⟨i, b, HP.out, ?_, ?_⟩, HB2.out⟩
        · simp [results, Try.results129, go_sem]
        · rw [← HBQ.out, beq_iff_eq, HY.out]
          constructor
          · intro h9; exact ⟨hlast, by omega⟩
          · intro h9; omega
        · rw [HZ9.out]
      · have e1 : decide (zi < (l.length : Int)) = false := decide_eq_false (by omega)
        clear HZI2 hij
        go_wp2
        refine bodyPost_ret (v := .tuple #[.int .i64 zi, .bool false]) ?_ rfl ⟨⟨i, false, HP.out, ?_, ?_⟩, BW.out⟩
        · simp [results, Try.results129, go_sem]
        · simp; intro h9; omega
        · rw [HZI.out]
set_option maxRecDepth 100000 in
set_option maxHeartbeats 2000000 in
theorem find_calls (A : Option Addr) (c : Nat) (l : List S49) (x : Int) (w : World) (hr : Kd.C k49 w A l.length l) (hc : l.length ≤ c) (hn : l.length ≤ 1000) (hA : AscV l) (h3 : 1 ≤ x) (h4 : x ≤ 255) :
    Calls Try.prog 109 #[.slice A l.length c, .int .i64 x] w fun e w' => (∃ (p : Nat) (b : Bool), PosV l x p ∧ (b = true ↔ p < l.length ∧ (rd_T49 l (p : Int)).f0 = x) ∧ e = .returned (.tuple #[.int .i64 (p : Int), .bool b])) ∧ Below w.heap.size w w' := by
  have hs := search_calls A c l x w hr hc hn hA h3 h4
  clear hr hA
  go_enter Try.func109, Try.ntmps109
  go_wp2_with (go_at_call 129; refine hs.mono ?_; rintro e w2 ⟨⟨p, b, h5, h6, rfl⟩, hb⟩; have H5 := Aside0.mk h5; have H6 := Aside0.mk h6; clear h5 h6)
  refine bodyPost_ret (v := .tuple #[.int .i64 (p : Int), .bool b]) ?_ rfl ⟨⟨p, b, H5.out, H6.out, rfl⟩, hb⟩
  simp [results, Try.results109, go_sem]
end Go.Proofs.Ythdhkoeaadahaaa.P
