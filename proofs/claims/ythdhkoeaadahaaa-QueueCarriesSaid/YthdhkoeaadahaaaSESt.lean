-- PACKED by wip/kit/pack.py: what the law's proof uses of ESt (printed words and texts of this seat)
import Derived.Test.YthdhkoeaadahaaaSEConcatW
import Derived.RegionCalls
import Derived.Test.YthdhkoeaadahaaaSPx6
import Derived.Test.YthdhkoeaadahaaaSSortCore
namespace Go.Proofs.Ythdhkoeaadahaaa.P
open Go.RowKit Go.Proofs.YthdhkoeaadahaaaW.PrintWords Go.Proofs.YthdhkoeaadahaaaW.PrintLast Go.Proofs.YthdhkoeaadahaaaW.PrintMore
attribute [local go_sem] Oper.semAt_some
set_option linter.unusedVariables false
set_option linter.unusedSimpArgs false
set_option maxRecDepth 100000 in
set_option maxHeartbeats 2000000 in
theorem insertion_nop (v : Value) (n : Nat) (hn : n ≤ 1) (w : World) : Calls Try.prog 138 #[v, .int .i64 0, .int .i64 (n : Int), .func (.func 101) #[] #[]] w fun e w' => e = .returned (.tuple #[]) ∧ w' = w := by
  have e0 : decide ((1 : Int) < (n : Int)) = false := decide_eq_false (by omega)
  go_enter Try.func138, Try.ntmps138
  go_wp2
  go_loopg [8] 0 (fun gg s8 wr => s8 = .int .i64 1 ∧ wr = w)
  case atStart => exact ⟨rfl, rfl⟩
  case round =>
    obtain ⟨rfl, rfl⟩ := hrel
    go_wp2
    (try simp only [Exit.inBlock, Exit.then])
    refine bodyPost_end (results_none rfl _ _ _) rfl ?_
    exact ⟨rfl, rfl⟩
set_option maxRecDepth 100000 in
set_option maxHeartbeats 2000000 in
theorem stable_nop (v : Value) (n : Nat) (hn : n ≤ 1) (w : World) : Calls Try.prog 125 #[v, .int .i64 (n : Int), .func (.func 101) #[] #[]] w fun e w' => e = .returned (.tuple #[]) ∧ w' = w := by
  have e0 : decide ((20 : Int) ≤ (n : Int)) = false := decide_eq_false (by omega)
  have e1 : decide ((20 : Int) < (n : Int)) = false := decide_eq_false (by omega)
  go_enter Try.func125, Try.ntmps125
  go_wp2
  go_loopg [7, 8] 0 (fun gg s7 s8 wr => s7 = .int .i64 0 ∧ s8 = .int .i64 20 ∧ wr = w)
  case atStart => exact ⟨rfl, rfl, rfl⟩
  case round =>
    obtain ⟨rfl, rfl, rfl⟩ := hrel
    go_wp2_with (go_at_call 138; refine (insertion_nop _ n hn _).mono ?_; rintro e w2 ⟨rfl, rfl⟩)
    go_loopg [6] 0 (fun gg s6 wr => s6 = .int .i64 20 ∧ wr = w2)
    case atStart => exact ⟨rfl, rfl⟩
    case round =>
      obtain ⟨rfl, rfl⟩ := hrel
      go_wp2
      (try simp only [Exit.inBlock, Exit.then])
      refine bodyPost_end (results_none rfl _ _ _) rfl ?_
      exact ⟨rfl, rfl⟩
set_option maxRecDepth 100000 in
set_option maxHeartbeats 2000000 in
theorem sort_nop (A : Option Addr) (c n : Nat) (hn : n ≤ 1) (w : World) : Calls Try.prog 100 #[.slice A n c, .func (.func 101) #[] #[]] w fun e w' => e = .returned (.tuple #[]) ∧ w' = w := by
  go_enter Try.func100, Try.ntmps100
  go_wp2_with (go_at_call 125; refine (stable_nop _ n hn _).mono ?_; rintro e w2 ⟨rfl, rfl⟩)
  (try simp only [Exit.inBlock, Exit.then])
  refine bodyPost_end (results_none rfl _ _ _) rfl ?_
  exact ⟨rfl, rfl⟩
theorem rdw (l : List S74) (kk : Nat) (h : kk < l.length) : rd_T74 l (kk : Int) = l[kk] := by
  unfold rd_T74; rw [Int.toNat_natCast, List.getD_eq_getElem?_getD, List.getElem?_eq_getElem h, Option.getD_some]
end Go.Proofs.Ythdhkoeaadahaaa.P
namespace Go.Proofs.Ythdhkoeaadahaaa.P
open Go.RowKit Go.Proofs.YthdhkoeaadahaaaW.PrintWords Go.Proofs.YthdhkoeaadahaaaW.PrintLast Go.Proofs.YthdhkoeaadahaaaW.PrintMore Go.Proofs.Ythdhkoeaadahaaa.SortCore
attribute [local go_sem] Oper.semAt_some
set_option linter.unusedVariables false
set_option linter.unusedSimpArgs false
theorem size74 : (Try.prog.info? 74).map (·.size) = some 3 := by kernel_rfl
theorem head74 {w : World} {ad : Addr} {n cap base : Nat} {ok : Nat → Prop} {xs : List S74} (HO : Kd.R k74 74 w base ok (.slice (some ad) n cap) xs) (hn : 0 < n) : ∃ g, ad = ⟨g, 0, none⟩ := by
  obtain ⟨_, inner, hown, _⟩ := HO
  rcases hown.2 with ⟨h2, _⟩ | ⟨g, cap, cur, h2, _⟩
  · cases h2
  · injection h2 with h2
    injection h2 with h2
    exact ⟨g, h2⟩
theorem cells74 {w : World} {g n cap base : Nat} {ok : Nat → Prop} {xs : List S74} (HO : Kd.R k74 74 w base ok (.slice (some ⟨g, 0, none⟩) n cap) xs) (i : Int) (h0 : 0 ≤ i) (hi : i < n) :
    ∀ j u, ([.int .i64 (rd_T74 xs i).f0, .int .i64 (rd_T74 xs i).f1, .string (rd_T74 xs i).f2] : List Value)[j]? = some u → w.cell? ⟨g, i.toNat * 3 + j, none⟩ = some u := by
  have hrr := Kd.R_reads' HO
  obtain ⟨ad, c, e, _, hK, hc⟩ := Kd.C_get hrr.2.2 z74 i h0 (by omega)
  obtain rfl := k74_open hK
  injection e with e
  subst e
  intro j u hu
  have := hc j u hu
  rw [add_plain] at this
  exact this
set_option maxRecDepth 100000 in
theorem st74 {W w0 : World} {base n cap : Nat} {ad : Addr} {xs : List S74} (i : Int) (u : S74) (HO : Kd.R k74 74 W base (fun _ => True) (.slice (some ad) n cap) xs) (h0 : 0 ≤ i) (hi : i < n) (HB : Below base w0 W) :
    ∃ W', (Instr.storeAt 74 (.pointer (some (ad.add (i.toNat * 3)))) (.agg #[.int .i64 u.f0, .int .i64 u.f1, .string u.f2])).run Try.prog W = .ok () W' ∧ Kd.R k74 74 W' base (fun _ => True) (.slice (some ad) n cap) (xs.set i.toNat u) ∧ Below base w0 W' := by
  obtain ⟨g, rfl⟩ := head74 HO (by omega)
  have hce := cells74 HO i h0 hi
  obtain ⟨hrow, hg⟩ := Kd.R_seg (j := 0) (seg := [.int .i64 u.f0, .int .i64 u.f1, .string u.f2]) (x' := u) (okp := fun _ => False) HO i h0 hi rfl hce (show (3 : Nat) ≤ 3 from Nat.le_refl 3) (k74_mkM _ _ _ u) (fun _ h => h.elim)
  have hbg : base ≤ g := Kd.R_base HO g (by simp [Value.ownBlock])
  have hnx : n = xs.length := (Kd.R_reads' HO).1
  have hB : Below base w0 (W.setCells g (i.toNat * 3 + 0) [.int .i64 u.f0, .int .i64 u.f1, .string u.f2]) := HB.trans ⟨hg.os, hg.tape, hg.output, hg.size, fun k hk => by
    rcases Nat.lt_or_ge k W.heap.size with hlt | hge
    · exact hg.block k hlt (fun he => by injection he with he; omega)
    · exact setCells_far _ _ k (by omega)⟩
  rw [Nat.add_zero] at hrow hB
  rw [show k74.sz = 3 from rfl] at hrow
  refine ⟨_, ?_, hrow, hB⟩
  rw [add_plain]
  obtain ⟨_, inner, hown, hr⟩ := HO
  rcases hown.2 with ⟨hv, _⟩ | ⟨g', cap', cur, hv, hb, hh, hnc, hcm, hcs, _⟩
  · cases hv
  injection hv with ha _ hc
  injection ha with ha
  injection ha with hg'
  subst hg'; subst hc
  have hsz : i.toNat * 3 + [Value.int .i64 u.f0, .int .i64 u.f1, .string u.f2].length ≤ cur.size := by
    have h2 : i.toNat * 3 + 3 ≤ n * 3 := by omega
    have h3 : n * 3 ≤ cap * 3 := Nat.mul_le_mul_right _ (by omega)
    have h4 : cur.size = cap * 3 := hcs
    show i.toNat * 3 + 3 ≤ cur.size
    omega
  have hone : ∀ q ∈ [Value.int .i64 u.f0, .int .i64 u.f1, .string u.f2], q.oneCell' = true := by
    intro q hq
    simp only [List.mem_cons, List.not_mem_nil, or_false] at hq
    rcases hq with rfl | rfl | rfl <;> rfl
  have hce2 : (Value.agg #[.int .i64 u.f0, .int .i64 u.f1, .string u.f2]).cells.toList = [Value.int .i64 u.f0, .int .i64 u.f1, .string u.f2] := rfl
  exact run_store_run 74 _ _ hh hce2 size74 hsz hone
theorem put_ {P : Program} {ops : Array Oper} {Q : Exit → Act → World → Prop} {oi : Oper} {a : Act} {w w1 : World} {K : Act → World → Prop} (t : TypeId) (p x : Operand) (u v : Value) (hw : Region.wanted oi (yielded ops a.tmps) = true) (hN : oi.dst = none) (ho : oi.op = .store t p x) (hp : a.eval p = u) (hx : a.eval x = v) (hrun : (Instr.storeAt t u v).run P w = .ok () w1)
    (h : K a w1) : if Region.wanted oi (yielded ops a.tmps) = true then Oper.wp P oi a w K Q else K (a.put none undef) w := by
  refine skip_ hw hN ?_ h
  unfold execOp
  simp only [ho, hp, hx, Sem.run_bind, Sem.run_pure, Result.andThen_ok, hrun]
end Go.Proofs.Ythdhkoeaadahaaa.P
