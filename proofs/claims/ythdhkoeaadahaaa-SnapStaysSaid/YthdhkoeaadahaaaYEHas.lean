-- PACKED by wip/kit/pack.py: what the law's proof uses of EHas (printed words and texts of this seat)
import Derived.Test.YthdhkoeaadahaaaYESt
namespace Go.Proofs.Ythdhkoeaadahaaa.P
open Go.RowKit Go.Proofs.YthdhkoeaadahaaaW.PrintWords Go.Proofs.YthdhkoeaadahaaaW.PrintLast Go.Proofs.YthdhkoeaadahaaaW.PrintMore
attribute [local go_sem] Oper.semAt_some
set_option linter.unusedVariables false
set_option linter.unusedSimpArgs false
def keyB (m : S124) (x : S74) : Bool := x.f0 == m.f0 && x.f1 == m.f1
set_option maxRecDepth 100000 in
set_option maxHeartbeats 4000000 in
theorem has1_calls (m : S124) (x : S74) (g : Nat) (w : World) (hb : w.heap[g]? = some (.cells #[.int .i64 m.f0, .int .i64 m.f1] 124 (0, 0))) :
    Calls Try.prog 137 #[.agg #[.int .i64 x.f0, .int .i64 x.f1, .string x.f2], .pointer (some ⟨g, 0, none⟩)] w fun e w' => e = .returned (.bool (keyB m x)) ∧ Below w.heap.size w w' := by
  have hu74 := Try.underlying74
  have hu124 := Try.underlying124
  have BG := Aside0.mk hb
  have hlt := blk_lt hb
  have c0 : w.cell? ⟨g, 0, none⟩ = some (.int .i64 m.f0) := (blk_cell hb 0).trans rfl
  have c1 : w.cell? ⟨g, 1, none⟩ = some (.int .i64 m.f1) := (blk_cell hb 1).trans rfl
  clear hb
  by_cases h0 : x.f0 = m.f0
  · have e0 : (x.f0 == m.f0) = true := beq_iff_eq.2 h0
    have e1 : decide (x.f0 = m.f0) = true := decide_eq_true h0
    by_cases h1 : x.f1 = m.f1
    · have e2 : (x.f1 == m.f1) = true := beq_iff_eq.2 h1
      have e3 : decide (x.f1 = m.f1) = true := decide_eq_true h1
      have ek : keyB m x = true := by unfold keyB; rw [e0, e2]; rfl
      rw [ek]
      clear ek h0 h1
      go_enter Try.func137, Try.ntmps137
      go_wp2
      go_ret
      exact ⟨rfl, below_alloc (Below.refl _ _) _⟩
    · have e2 : (x.f1 == m.f1) = false := beq_eq_false_iff_ne.2 h1
      have e3 : decide (x.f1 = m.f1) = false := decide_eq_false h1
      have ek : keyB m x = false := by unfold keyB; rw [e0, e2]; rfl
      rw [ek]
      clear ek h0 h1
      go_enter Try.func137, Try.ntmps137
      go_wp2
      go_ret
      exact ⟨rfl, below_alloc (Below.refl _ _) _⟩
  · have e0 : (x.f0 == m.f0) = false := beq_eq_false_iff_ne.2 h0
    have e1 : decide (x.f0 = m.f0) = false := decide_eq_false h0
    have ek : keyB m x = false := by unfold keyB; rw [e0]; rfl
    rw [ek]
    clear ek h0
    go_enter Try.func137, Try.ntmps137
    go_wp2
    go_ret
    exact ⟨rfl, below_alloc (Below.refl _ _) _⟩
set_option maxRecDepth 100000 in
set_option maxHeartbeats 2000000 in
theorem index_has (m : S124) (g : Nat) (A : Option Addr) (c : Nat) (l : List S74) (w : World) (hr : Kd.C k74 w A l.length l) (hc : l.length ≤ c) (hb : w.heap[g]? = some (.cells #[.int .i64 m.f0, .int .i64 m.f1] 124 (0, 0))) :
    Calls Try.prog 142 #[.slice A l.length c, .func (.func 137) #[] #[.pointer (some ⟨g, 0, none⟩)]] w fun e w' => (∃ r : Int, e = .returned (.int .i64 r) ∧ decide (0 ≤ r) = l.any (keyB m)) ∧ Below w.heap.size w w' := by
  have hmx := hr.2.1
  have hu74 := Try.underlying74
  have HR := Aside0.mk hr
  have BG := Aside0.mk hb
  clear hr hb
  go_enter Try.func142, Try.ntmps142
  go_wp2
  go_loopg [5, 8] l.length (fun gg _ s8 wr => ∃ kk : Nat, kk ≤ l.length ∧ l.length - kk ≤ gg ∧ s8 = .int .i64 kk ∧ Aside0 (Below w.heap.size w wr) ∧ Aside0 (∀ j, (h : j < l.length) → j < kk → keyB m l[j] = false))
  case atStart => exact ⟨0, by omega, by omega, rfl, ⟨Below.refl _ _⟩, ⟨fun j _ hj => absurd hj (by omega)⟩⟩
  case round =>
    obtain ⟨kk, hkk, hg, rfl, BW, AA⟩ := hrel
    by_cases hlt : kk < l.length
    · have hltz : (kk : Int) < (l.length : Int) := by omega
      have e0 : decide ((kk : Int) < (l.length : Int)) = true := decide_eq_true hltz
      obtain ⟨ad, rfl, d0, d1, d2⟩ := at_T74 (Kd.C_below HR.out BW.out) (kk : Int) (by omega) hltz
      rw [Int.toNat_natCast] at d0 d1 d2
      have hcall := has1_calls m (rd_T74 l (kk : Int)) g wr (blk_below BG.out (BW.out))
      have EY := Aside0.mk (rdw l kk hlt)
      generalize rd_T74 l (kk : Int) = y at d0 d1 d2 hcall EY
      cases hq : keyB m y with
      | true =>
        rw [hq] at hcall
        go_wp2_with (go_at_call 137; refine hcall.mono ?_; rintro e w' ⟨rfl, hb'⟩)
        go_ret
        refine ⟨⟨_, rfl, ?_⟩, BW.out.trans (hb'.mono BW.out.size)⟩
        rw [decide_eq_true (by omega), eq_comm, List.any_eq_true]
        exact ⟨l[kk], List.getElem_mem hlt, by rw [← EY.out]; exact hq⟩
      | false =>
        rw [hq] at hcall
        go_wp2_with (go_at_call 137; refine hcall.mono ?_; rintro e w' ⟨rfl, hb'⟩)
        go_roundg (l.length - (kk + 1))
        case measure => omega
        case rel =>
          refine ⟨kk + 1, by omega, by omega, by go_num, ⟨BW.out.trans (hb'.mono BW.out.size)⟩, ⟨fun j hj1 hj => ?_⟩⟩
          by_cases e : j = kk
          · subst e
            rw [← EY.out]; exact hq
          · exact AA.out j hj1 (by omega)
    · have hltz : ¬ (kk : Int) < (l.length : Int) := by omega
      go_wp2
      go_ret
      refine ⟨⟨_, rfl, ?_⟩, BW.out⟩
      rw [decide_eq_false (by omega), eq_comm, List.any_eq_false]
      intro x hx
      obtain ⟨j, hj, rfl⟩ := List.getElem_of_mem hx
      rw [AA.out j hj (by omega)]
      simp
set_option maxRecDepth 100000 in
set_option maxHeartbeats 2000000 in
theorem contains_has (m : S124) (g : Nat) (A : Option Addr) (c : Nat) (l : List S74) (w : World) (hr : Kd.C k74 w A l.length l) (hc : l.length ≤ c) (hb : w.heap[g]? = some (.cells #[.int .i64 m.f0, .int .i64 m.f1] 124 (0, 0))) :
    Calls Try.prog 136 #[.slice A l.length c, .func (.func 137) #[] #[.pointer (some ⟨g, 0, none⟩)]] w fun e w' => e = .returned (.bool (l.any (keyB m))) ∧ Below w.heap.size w w' := by
  have hi := index_has m g A c l w hr hc hb
  clear hr hb
  go_enter Try.func136, Try.ntmps136
  go_wp2_with (go_at_call 142; refine hi.mono ?_; rintro e w' ⟨⟨r, rfl, hr⟩, hb'⟩)
  go_ret
  exact ⟨by rw [← hr]; rfl, hb'⟩
set_option maxRecDepth 100000 in
set_option maxHeartbeats 2000000 in
theorem has_calls (m : S124) (A : Option Addr) (c : Nat) (l : List S74) (w : World) (hr : Kd.C k74 w A l.length l) (hc : l.length ≤ c) :
    Calls Try.prog 122 #[.slice A l.length c, .agg #[.int .i64 m.f0, .int .i64 m.f1]] w fun e w' => e = .returned (.bool (l.any (keyB m))) ∧ Below w.heap.size w w' := by
  have hu124 := Try.underlying124
  have hi := contains_has m w.heap.size A c l (w.alloc (.cells #[.int .i64 m.f0, .int .i64 m.f1] 124)) (Kd.C_alloc hr _) hc (blk_new _ _)
  clear hr
  go_enter Try.func122, Try.ntmps122
  go_wp2_with (go_at_call 136; refine hi.mono ?_; rintro e w' ⟨rfl, hb'⟩)
  go_ret
  exact ⟨rfl, (below_alloc (Below.refl _ _) _).trans (hb'.mono (by simp))⟩
set_option maxRecDepth 100000 in
set_option maxHeartbeats 2000000 in
theorem note1_calls (m : S124) (g : Nat) (A : Option Addr) (c : Nat) (l : List S74) (w : World) (hr : Kd.C k74 w A l.length l) (hc : l.length ≤ c) (hb : w.heap[g]? = some (.cells #[.slice A l.length c] 25 (0, 0))) :
    Calls Try.prog 121 #[.agg #[.int .i64 m.f0, .int .i64 m.f1], .pointer (some ⟨g, 0, none⟩)] w fun e w' => e = .returned (.bool (l.any (keyB m))) ∧ Below w.heap.size w w' := by
  have hu124 := Try.underlying124
  have hu25 := Try.underlying25
  have hlt := blk_lt hb
  have c0 : w.cell? ⟨g, 0, none⟩ = some (.slice A l.length c) := (blk_cell hb 0).trans rfl
  have hi := has_calls m A c l (w.alloc (.cells #[.int .i64 m.f0, .int .i64 m.f1] 124)) (Kd.C_alloc hr _) hc
  clear hr hb
  go_enter Try.func121, Try.ntmps121
  go_wp2_with (go_at_call 122; refine hi.mono ?_; rintro e w' ⟨rfl, hb'⟩)
  go_ret
  exact ⟨rfl, (below_alloc (Below.refl _ _) _).trans (hb'.mono (by simp))⟩
end Go.Proofs.Ythdhkoeaadahaaa.P
