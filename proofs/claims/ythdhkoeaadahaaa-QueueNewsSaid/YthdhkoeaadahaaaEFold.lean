/- The contract of fold.Fold at one write or none. -/
import Derived.Test.YthdhkoeaadahaaaEConcatW
import Derived.RegionCalls
import Derived.Test.YthdhkoeaadahaaaPx9
namespace Go.Proofs.Ythdhkoeaadahaaa.P
open Go.RowKit Go.Proofs.YthdhkoeaadahaaaW.PrintWords Go.Proofs.YthdhkoeaadahaaaW.PrintLast Go.Proofs.YthdhkoeaadahaaaW.PrintMore
attribute [local go_sem] Oper.semAt_some
set_option linter.unusedVariables false
set_option linter.unusedSimpArgs false

def fold_Fold.f (l : List S74) : Option (List S74) := if l.length ≤ 1 then some l else none

set_option maxRecDepth 100000 in
set_option maxHeartbeats 2000000 in
theorem insertion_nop (v : Value) (n : Nat) (hn : n ≤ 1) (w : World) : Calls Try.prog 138 #[v, .int .i64 0, .int .i64 (n : Int), .func (.func 101) #[] #[]] w fun e w' => e = .returned (.tuple #[]) ∧ w' = w := by
  have e0 : decide ((1 : Int) < (n : Int)) = false := decide_eq_false (by omega)
  go_enter Try.func138, Try.ntmps138
  go_wp2
  go_loopg [8] 0 (fun gg s8 wr => s8 = .int .i64 1 ∧ wr = w)
  case atStart => exact ⟨rfl, rfl⟩
  case round =>
    obtain ⟨rfl, rfl⟩ := hrel
    go_wp2
    (try simp only [Exit.inBlock, Exit.then])
    refine bodyPost_end (results_none rfl _ _ _) rfl ?_
    exact ⟨rfl, rfl⟩
set_option maxRecDepth 100000 in
set_option maxHeartbeats 2000000 in
theorem stable_nop (v : Value) (n : Nat) (hn : n ≤ 1) (w : World) : Calls Try.prog 125 #[v, .int .i64 (n : Int), .func (.func 101) #[] #[]] w fun e w' => e = .returned (.tuple #[]) ∧ w' = w := by
  have e0 : decide ((20 : Int) ≤ (n : Int)) = false := decide_eq_false (by omega)
  have e1 : decide ((20 : Int) < (n : Int)) = false := decide_eq_false (by omega)
  go_enter Try.func125, Try.ntmps125
  go_wp2
  go_loopg [7, 8] 0 (fun gg s7 s8 wr => s7 = .int .i64 0 ∧ s8 = .int .i64 20 ∧ wr = w)
  case atStart => exact ⟨rfl, rfl, rfl⟩
  case round =>
    obtain ⟨rfl, rfl, rfl⟩ := hrel
    go_wp2_with (go_at_call 138; refine (insertion_nop _ n hn _).mono ?_; rintro e w2 ⟨rfl, rfl⟩)
    go_loopg [6] 0 (fun gg s6 wr => s6 = .int .i64 20 ∧ wr = w2)
    case atStart => exact ⟨rfl, rfl⟩
    case round =>
      obtain ⟨rfl, rfl⟩ := hrel
      go_wp2
      (try simp only [Exit.inBlock, Exit.then])
      refine bodyPost_end (results_none rfl _ _ _) rfl ?_
      exact ⟨rfl, rfl⟩
set_option maxRecDepth 100000 in
set_option maxHeartbeats 2000000 in
theorem sort_nop (A : Option Addr) (c n : Nat) (hn : n ≤ 1) (w : World) : Calls Try.prog 100 #[.slice A n c, .func (.func 101) #[] #[]] w fun e w' => e = .returned (.tuple #[]) ∧ w' = w := by
  go_enter Try.func100, Try.ntmps100
  go_wp2_with (go_at_call 125; refine (stable_nop _ n hn _).mono ?_; rintro e w2 ⟨rfl, rfl⟩)
  (try simp only [Exit.inBlock, Exit.then])
  refine bodyPost_end (results_none rfl _ _ _) rfl ?_
  exact ⟨rfl, rfl⟩
theorem rdw (l : List S74) (kk : Nat) (h : kk < l.length) : rd_T74 l (kk : Int) = l[kk] := by
  unfold rd_T74; rw [Int.toNat_natCast, List.getD_eq_getElem?_getD, List.getElem?_eq_getElem h, Option.getD_some]
set_option maxRecDepth 100000 in
set_option maxHeartbeats 4000000 in
theorem fold_Fold.calls (A0 : Option Addr) (c0 : Nat) (l0 : List S74) (r : List S74) (w : World) (hr0 : Kd.C k74 w A0 l0.length l0) (hc0 : l0.length ≤ c0) (h : fold_Fold.f l0 = some r) :
    Calls Try.prog 47 #[.slice A0 l0.length c0] w fun e w' => ∃ v0_ : Value, e = .returned v0_ ∧ Kd.R k74 74 w' w.heap.size (fun _ => True) v0_ r ∧ Below w.heap.size w w' := by
  unfold fold_Fold.f at h
  by_cases hl : l0.length ≤ 1
  · rw [if_pos hl] at h
    obtain rfl := Option.some.inj h
    clear h
    have hu74 := Try.underlying74
    have hcl := api_Write_99.calls A0 c0 l0 l0 w hr0 hc0 (by unfold api_Write_99.f; rw [if_pos (by omega)])
    clear hr0
    go_enter Try.func47, Try.ntmps47
    go_wp2_with (first
      | (go_at_call 99; refine hcl.mono ?_; rintro e w2 ⟨v2, rfl, ho, hb⟩; obtain ⟨A2, c2, e2⟩ := Kd.R_slice ho; subst e2; have HC := Aside0.mk (Kd.R_reads' ho).2.2; have HB := Aside0.mk hb; clear ho hb)
      | (go_at_call 100; refine (sort_nop _ _ _ hl _).mono ?_; rintro e w3 ⟨rfl, rfl⟩))
    go_loopg [4, 13] l0.length (fun gg s4 s13 wr => ∃ kk : Nat, kk ≤ l0.length ∧ l0.length - kk ≤ gg ∧ s13 = .int .i64 kk ∧ Aside0 (Below w.heap.size w wr) ∧ Aside0 (Kd.R k74 74 wr w.heap.size (fun _ => True) s4 (l0.take kk)) ∧ Aside0 (kk = 0 → Kd.C k74 wr A2 l0.length l0))
    case atStart => exact ⟨0, by omega, by omega, rfl, HB, ⟨Kd.R_nil _ _ _ _ _⟩, ⟨fun _ => HC.out⟩⟩
    case round =>
      clear HB HC
      obtain ⟨kk, hkk, hg, rfl, BW, HO, AA⟩ := hrel
      by_cases hlt : kk < l0.length
      · obtain rfl : kk = 0 := by omega
        have e0 : decide (((0 : Nat) : Int) < (l0.length : Int)) = true := decide_eq_true (by omega)
        obtain ⟨ad, rfl, d0, d1, d2⟩ := at_T74 (AA.out rfl) ((0 : Nat) : Int) (by omega) (by omega)
        have HX := Aside0.mk (rdw l0 0 hlt)
        obtain ⟨A4, c4, e4⟩ := Kd.R_slice HO.out
        subst e4
        have e1 : decide ((1 : Int) < (l0.length : Int)) = false := decide_eq_false (by omega)
        rw [Int.toNat_natCast] at d0 d1 d2
        generalize rd_T74 l0 ((0 : Nat) : Int) = y at d0 d1 d2 HX
        have d0' : wr.cell? ad = some (.int .i64 y.f0) := d0
        have d1' : wr.cell? ⟨ad.block, ad.off + 1, none⟩ = some (.int .i64 y.f1) := d1
        have d2' : wr.cell? ⟨ad.block, ad.off + 2, none⟩ = some (.string y.f2) := d2
        clear d0 d1 d2
        go_wp2
        go_quiet (fail)
        have HR2 := Aside0.mk (Kd.R_drewN (Kd.R_alloc HO.out (.cells #[.int .i64 y.f0, .int .i64 y.f1, .string y.f2] 74)) nq)
        have HB2 := Aside0.mk (pw_below_drewN (below_alloc BW.out (.cells #[.int .i64 y.f0, .int .i64 y.f1, .string y.f2] 74)) nq)
        have b0 : ((wr.alloc (.cells #[.int .i64 y.f0, .int .i64 y.f1, .string y.f2] 74)).drewN nq).cell? ⟨wr.heap.size, 0, none⟩ = some (.int .i64 y.f0) := by show ((wr.alloc _).cell? _) = _; simp
        have b1 : ((wr.alloc (.cells #[.int .i64 y.f0, .int .i64 y.f1, .string y.f2] 74)).drewN nq).cell? ⟨wr.heap.size, 1, none⟩ = some (.int .i64 y.f1) := by show ((wr.alloc _).cell? _) = _; simp
        have b2 : ((wr.alloc (.cells #[.int .i64 y.f0, .int .i64 y.f1, .string y.f2] 74)).drewN nq).cell? ⟨wr.heap.size, 2, none⟩ = some (.string y.f2) := by show ((wr.alloc _).cell? _) = _; simp
        generalize ((wr.alloc (.cells #[.int .i64 y.f0, .int .i64 y.f1, .string y.f2] 74)).drewN nq) = W2 at HR2 HB2 b0 b1 b2 ⊢
        go_wp2_with ((with_reducible refine gate_builtin (b := .append) (xs := #[.tmp 33, .tmp 35]) rfl ?_); at_builtin; refine Kd.R_append k74 (w0 := w) w.heap.size rfl (.tmp 33) (.tmp 35) 25 74 (.agg #[(.int .i64 0), (.int .i64 0), (.string ⟨#[]⟩)]) 32 rfl Try.underlying25 info74 rfl (by decide) (by omega) _ (l0.take 0) y [.int .i64 y.f0, .int .i64 y.f1, .string y.f2] (fun _ => True) (fun _ => False) rfl rfl ?aP (fun _ hk => hk.elim) ?aF ?aO ?aB ?aS ?aL ?_; (case aP => exact k74_mkM _ _ _ y); (case aF => exact fun _ _ => trivial); (case aO => exact HR2.out); (case aB => exact HB2.out); (case aS => exact HB2.out.size); (case aL => simp); intro v1 w1 ho hb hg hat; have HO1 := Aside0.mk ho; have HB1 := Aside0.mk hb; clear ho hb hg hat)
        go_roundg (l0.length - 1)
        case measure => omega
        case rel =>
          refine ⟨1, by omega, by omega, rfl, HB1, ⟨?_⟩, ⟨fun h => by simp at h⟩⟩
          have e : l0.take 1 = l0.take 0 ++ [y] := by
            rw [HX.out, List.take_succ_eq_append_getElem hlt]
          rw [e]
          exact HO1.out
      · have e0 : decide ((kk : Int) < (l0.length : Int)) = false := decide_eq_false (by omega)
        have hA := HO.out
        rw [List.take_of_length_le (by omega)] at hA
        have HA := Aside0.mk hA
        clear hA HO AA
        go_wp2
        go_ret
        exact ⟨_, rfl, HA.out, BW.out⟩
  · rw [if_neg hl] at h
    exact absurd h (by simp)
end Go.Proofs.Ythdhkoeaadahaaa.P
