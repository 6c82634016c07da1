/- RingPieces' walk: the pieces of any places are those places, in order. -/
import Derived.Test.YtlemimpbmnbpiaaRPieces
namespace Go.Proofs.Ytlemimpbmnbpiaa.PRingPieces
open Go.RowKit Go.Proofs.YtlemimpbmnbpiaaW.PrintWords Go.Proofs.YtlemimpbmnbpiaaW.PrintLast Go.Proofs.YtlemimpbmnbpiaaW.PrintMore
set_option linter.unusedVariables false
set_option linter.unusedSimpArgs false

theorem rright (s a : Int) : counterfoilref04_Right.f s a = some (decide (1 ≤ s ∧ s ≤ 4096 ∧ 0 ≤ a ∧ a < s)) := by
  unfold counterfoilref04_Right.f
  by_cases h1 : 1 ≤ s
  · by_cases h2 : s ≤ 4096
    · by_cases h3 : 0 ≤ a
      · rw [if_pos (by omega), if_pos (by omega), if_pos (by omega)]; simp [h1, h2, h3]
      · rw [if_pos (by omega), if_pos (by omega), if_neg (by omega)]; simp [h3]
    · rw [if_pos (by omega), if_neg (by omega)]; simp [h2]
  · rw [if_neg (by omega)]; simp [h1]
theorem rnext (s a : Int) (h1 : 1 ≤ s) (h2 : s ≤ 4096) (h3 : 0 ≤ a) (h4 : a < s) : counterfoilref04_next.f s a = some ((a + 1) % s) := by
  unfold counterfoilref04_next.f
  have e : wrap64 (s - 1) = s - 1 := by unfold wrap64; omega
  have e2 : wrap64 (a + 1) = a + 1 := by unfold wrap64; omega
  rw [e, e2]
  by_cases h : a = s - 1
  · rw [if_pos h, h, Int.sub_add_cancel, Int.emod_self]
  · rw [if_neg h, Int.emod_eq_of_lt (by omega) (by omega)]
theorem at_eq (s a n : Int) (k : Nat) (h : 1 ≤ s ∧ s ≤ 4096 ∧ 0 ≤ a ∧ a < s) (h5 : 0 ≤ n) (h6 : n ≤ 1099511627776) : ring_At.f (k + 6) s a n = some ((a + n) % s, 0) := by
  unfold ring_At.f
  rw [right1]
  obtain ⟨h1, h2, h3, h4⟩ := h
  have e : wrap64 (a + n) = a + n := by unfold wrap64; omega
  have e2 : Int.tmod (a + n) s = (a + n) % s := Int.tmod_eq_emod_of_nonneg (by omega)
  simp only [Option.bind_some]
  rw [if_pos (by simp [h1, h2, h3, h4]), if_neg (by omega), if_neg (by omega), if_neg (by omega), e, e2]
theorem awake_eq : counterfoillaw04_awake.f 6 = some true := by
  unfold counterfoillaw04_awake.f
  rw [at_eq 5 3 4 0 (by omega) (by omega) (by omega)]
  decide
/-- The places from one on. -/
def placesL (s a : Int) (n : Nat) : List Int := (List.range n).map (fun i : Nat => (a + (i : Int)) % s)
theorem places_succ (s a : Int) (i : Nat) : placesL s a (i + 1) = placesL s a i ++ [(a + (i : Int)) % s] := by
  unfold placesL; rw [List.range_succ, List.map_append]; rfl
theorem places_len (s a : Int) (n : Nat) : (placesL s a n).length = n := by unfold placesL; simp
theorem places_ev (s a : Int) (n : Nat) (h1 : 1 ≤ s) (h2 : s ≤ 4096) (h3 : 0 ≤ a) (h4 : a < s) (hn : n ≤ 4096) : counterfoilref04_Places.f (n + 1) s a (n : Int) = some (placesL s a n) := by
  have loop : ∀ (d i : Nat), i + d = n → counterfoilref04_Places.l0 (d + 1) s (n : Int) (placesL s a i) ((a + (i : Int)) % s) (i : Int) = some (placesL s a n) := by
    intro d
    induction d with
    | zero =>
      intro i hi
      obtain rfl : i = n := by omega
      simp only [counterfoilref04_Places.l0]
      rw [if_neg (by omega)]
    | succ d ih =>
      intro i hi
      have e : wrap64 ((i : Int) + 1) = ((i + 1 : Nat) : Int) := by unfold wrap64; omega
      have hm := Int.emod_nonneg (a + (i : Int)) (show s ≠ 0 by omega)
      have hm2 := Int.emod_lt_of_pos (a + (i : Int)) (show 0 < s by omega)
      have e3 : ((a + (i : Int)) % s + 1) % s = (a + ((i + 1 : Nat) : Int)) % s := by rw [Int.emod_add_emod]; congr 1; omega
      conv => lhs; unfold counterfoilref04_Places.l0
      rw [if_pos (by omega), if_pos (by rw [places_len]; omega), rnext s _ h1 h2 hm hm2, Option.bind_some, e, e3, ← places_succ]
      exact ih (i + 1) (by omega)
  have := loop n 0 (by omega)
  unfold counterfoilref04_Places.f
  have e0 : (a + ((0 : Nat) : Int)) % s = a := by rw [Int.natCast_zero, Int.add_zero]; exact Int.emod_eq_of_lt h3 h4
  rw [e0] at this
  exact this
theorem places_get (s a : Int) (n i : Nat) (h : i < n) : (placesL s a n)[i]? = some ((a + (i : Int)) % s) := by
  unfold placesL
  rw [List.getElem?_map, List.getElem?_eq_getElem (by simpa using h)]
  simp
/-- How many places lie ahead of a piece. -/
def cumP (s a n : Int) (k : Nat) : Int := if k = 0 then 0 else if k = 1 then (if n ≤ s - a then n else s - a) else n
theorem piece_at (s a n : Int) (hs1 : 1 ≤ s) (hs2 : s ≤ 4096) (ha0 : 0 ≤ a) (ha1 : a < s) (hn0 : 0 ≤ n) (hn1 : n ≤ s) (k : Nat) (hk : k < (piecesL s a n).length) :
    ∃ x y : Int, (piecesL s a n)[k]? = some (pc x y) ∧ 1 ≤ y ∧ (k = 0 ∨ x = 0) ∧ k ≤ 1 ∧ 0 ≤ x ∧ x + y ≤ 4096 ∧ cumP s a n (k + 1) = cumP s a n k + y ∧ 0 ≤ cumP s a n k ∧ cumP s a n k + y ≤ n ∧ ∀ j, 0 ≤ j → j < y → (a + (cumP s a n k + j)) % s = x + j := by
  unfold piecesL cumP at *
  by_cases h1 : n ≤ 0
  · rw [if_pos h1] at hk; simp at hk
  · rw [if_neg h1] at hk ⊢
    by_cases h2 : n ≤ s - a
    · rw [if_pos h2] at hk ⊢
      obtain rfl : k = 0 := by simpa using hk
      refine ⟨a, n, rfl, by omega, .inl rfl, by omega, ha0, by omega, by simp [h2], by simp, by simp, fun j h3 h4 => ?_⟩
      rw [if_pos rfl, Int.zero_add]
      exact Int.emod_eq_of_lt (by omega) (by omega)
    · rw [if_neg h2] at hk ⊢
      have hk2 : k = 0 ∨ k = 1 := by simp at hk; omega
      rcases hk2 with rfl | rfl
      · refine ⟨a, s - a, rfl, by omega, .inl rfl, by omega, ha0, by omega, by simp [h2], by simp, by simp; omega, fun j h3 h4 => ?_⟩
        rw [if_pos rfl, Int.zero_add]
        exact Int.emod_eq_of_lt (by omega) (by omega)
      · refine ⟨0, n - (s - a), rfl, by omega, .inr rfl, by omega, by omega, by omega, by simp [h2]; omega, by simp [h2]; omega, by simp [h2]; omega, fun j h3 h4 => ?_⟩
        simp only [h2, if_true, if_false, Nat.one_ne_zero]
        rw [show a + (s - a + j) = j + s by omega, Int.add_emod_right]
        rw [Int.zero_add]
        exact Int.emod_eq_of_lt (by omega) (by omega)
theorem cum_end (s a n : Int) (hn0 : 0 ≤ n) : cumP s a n (piecesL s a n).length = n := by
  unfold piecesL cumP
  by_cases h1 : n ≤ 0
  · rw [if_pos h1]; simp; omega
  · rw [if_neg h1]
    by_cases h2 : n ≤ s - a
    · rw [if_pos h2]; simp [h2]
    · rw [if_neg h2]; simp
theorem pieces_two (s a n : Int) : (piecesL s a n).length ≤ 2 := by
  unfold piecesL
  split
  · simp
  · split <;> simp
theorem at_piece {w : World} {A : Option Addr} {n : Nat} {xs : List (List Value)} {x y : Int} (h : Kd.C (Kd.raw 2) w A n xs) (k : Nat) (hx : xs[k]? = some (pc x y)) :
    ∃ ad, A = some ad ∧ w.cell? (ad.add (k * 2)) = some (.int .i64 x) ∧ w.cell? ⟨(ad.add (k * 2)).block, (ad.add (k * 2)).off + 1, none⟩ = some (.int .i64 y) := by
  obtain ⟨hl, hj⟩ := List.getElem?_eq_some_iff.1 hx
  obtain ⟨ad, e, hc⟩ := h.2.2 (by have := h.1; omega)
  obtain ⟨c, hcl, hK, hcc⟩ := hc k _ hx
  obtain rfl : c = pc x y := hK.1
  exact ⟨ad, e, hcc 0 _ rfl, by rw [← add_field _ _ 1 (by omega)]; exact hcc 1 _ rfl⟩
set_option maxRecDepth 100000 in
set_option maxHeartbeats 4000000 in
theorem law_right (s a : Int) (n : Nat) (hs1 : 1 ≤ s) (hs2 : s ≤ 4096) (ha0 : 0 ≤ a) (ha1 : a < s) (hn1 : (n : Int) ≤ s) (w : World) :
    Calls Try.prog 8 #[.int .i64 s, .int .i64 a, .int .i64 (n : Int)] w fun e w' => e = .returned (.bool true) ∧ Below w.heap.size w w' := by
  have hu36 := Try.underlying36
  have H14 := Aside0.mk (pieces_right s a (n : Int) hs1 hs2 ha0 ha1 (by omega) hn1 w)
  have H15 := Aside0.mk (fun W => counterfoilref04_Right.calls s a true W (by rw [rright]; congr 1; simp; omega))
  have H16 := Aside0.mk (fun W => counterfoilref04_Places.calls (n + 1) s a (n : Int) _ W (places_ev s a n hs1 hs2 ha0 ha1 (by omega)))
  have H11 := Aside0.mk (fun W => counterfoillaw04_awake.calls 6 true W awake_eq)
  have HP := Aside0.mk (piece_at s a (n : Int) hs1 hs2 ha0 ha1 (by omega) hn1)
  have HE := Aside0.mk (cum_end s a (n : Int) (by omega))
  have HPL := Aside0.mk (places_get s a n)
  have HL2 := Aside0.mk (pieces_two s a (n : Int))
  have HLn := Aside0.mk (places_len s a n)
  have hc0 := Aside0.mk (show cumP s a (n : Int) 0 = 0 from rfl)
  generalize placesL s a n = want at H16 HPL HLn
  generalize piecesL s a (n : Int) = ps at H14 HP HE HL2
  generalize cumP s a (n : Int) = cum at HP HE hc0
  go_enter Try.func8, Try.ntmps8
  go_wp2_with (first
    | (go_at_call 14; refine H14.out.mono ?_; rintro e w1 ⟨v, rfl, ho, hb⟩; obtain ⟨A1, c1, rfl⟩ := Kd.R_slice ho; have hrr := Kd.R_reads' ho; have HC1 := Aside0.mk hrr.2.2; have HB1 := Aside0.mk hb; clear ho hb hrr)
    | (go_at_call 15; refine (H15.out _).mono ?_; rintro e w2 ⟨rfl, ⟨nd, rfl⟩⟩)
    | (go_at_call 16; refine (H16.out _).mono ?_; rintro e w3 ⟨v2, rfl, ho, hb⟩; obtain ⟨A2, c2, rfl⟩ := Kd.R_slice ho; have hrr := Kd.R_reads' ho; have HD3 := Aside0.mk hrr.2.2; have HC3 := Aside0.mk (Kd.C_below (Kd.C_drewN HC1.out nd) hb); have HB3 := Aside0.mk (below_step (pw_below_drewN HB1.out nd) hb); clear ho hb hrr))
  rw [HLn.out] at HD3 ⊢
  clear HB1 HC1
  go_loopg [10, 50] 3 (fun gg s10 s50 wr => ∃ kk : Nat, kk ≤ ps.length ∧ ps.length - kk ≤ gg ∧ s50 = .int .i64 kk ∧ s10 = .int .i64 (cum kk) ∧ Aside0 (Below w3.heap.size w3 wr))
  case atStart => exact ⟨0, by omega, by have := HL2.out; omega, rfl, by rw [hc0.out], ⟨Below.refl _ _⟩⟩
  case round =>
    obtain ⟨kk, hkk, hg, rfl, rfl, BW⟩ := hrel
    by_cases hlt : kk < ps.length
    · have e0 : decide ((kk : Int) < (ps.length : Int)) = true := decide_eq_true (by omega)
      obtain ⟨x, y, hx, y1, hx0, k1, x0, xy, hcs, hcp, hcn, hmod⟩ := HP.out kk hlt
      obtain ⟨ad, rfl, d0, d1⟩ := at_piece (Kd.C_below HC3.out BW.out) kk hx
      have HMOD := Aside0.mk hmod
      have HCS := Aside0.mk hcs
      have HX0 := Aside0.mk hx0
      have HX := Aside0.mk hx
      clear hmod hcs hx0 hx
      have hxk : ¬ 0 < kk ∨ x = 0 := by have := HX0.out; omega
      have HXY := Aside0.mk (show 0 ≤ x ∧ x + y ≤ 4096 ∧ 1 ≤ y from ⟨x0, xy, y1⟩)
      have HCC := Aside0.mk (show 0 ≤ cum kk ∧ cum kk + y ≤ (n : Int) from ⟨hcp, hcn⟩)
      generalize wr = wo at *
      obtain ⟨c, hc⟩ : ∃ c, c = cum kk := ⟨_, rfl⟩
      rw [← hc] at HMOD HCS HCC
      have HCK := Aside0.mk hc
      clear hcp hcn hc
      have e5 : 0 < kk → (x != 0) = false := fun h => by rcases hxk with h1 | h1 <;> simp_all
      by_cases hk0 : 0 < kk
      all_goals
        (try have e6 := e5 hk0)
        clear e5 hxk
        go_wp2
        go_loopg [10, 13] y.toNat (fun gg s10 s13 wi => ∃ (j : Nat) (z : Int), (j : Int) ≤ y ∧ y.toNat - j ≤ gg ∧ s13 = .int .i64 j ∧ s10 = .int .i64 z ∧ Aside0 (z = c + j) ∧ Aside0 (Below w3.heap.size w3 wi) ∧ Aside0 (wi.heap[wo.heap.size]? = some (.cells #[.int .i64 x, .int .i64 y] 36 (0, 0))))
        case atStart => exact ⟨0, c, by have := HXY.out; omega, by omega, rfl, by rw [HCK.out], ⟨by simp⟩, ⟨below_alloc BW.out _⟩, ⟨blk_new wo _⟩⟩
        case round =>
          obtain ⟨j, z, hj, hgj, rfl, rfl, HZ, BI, BX⟩ := hrel
          have x0 : wr.cell? ⟨wo.heap.size, 0, none⟩ = some (.int .i64 x) := (blk_cell BX.out 0).trans rfl
          have x1 : wr.cell? ⟨wo.heap.size, 1, none⟩ = some (.int .i64 y) := (blk_cell BX.out 1).trans rfl
          have hxy := HXY.out
          have hcc := HCC.out
          by_cases hjy : (j : Int) < y
          · have e1 : decide ((j : Int) < y) = true := decide_eq_true hjy
            have hz0 : 0 ≤ z := by have := HZ.out; omega
            have hz1 : z < (n : Int) := by have := HZ.out; omega
            have e2 : decide ((n : Int) ≤ z) = false := decide_eq_false (by omega)
            obtain ⟨adw, cw, rfl, _, hK, hcell⟩ := Kd.C_get (Kd.C_below HD3.out BI.out) 0 z hz0 hz1
            have hv : want.getD z.toNat 0 = x + j := by
              rw [List.getD_eq_getElem?_getD, HPL.out z.toNat (by omega), Option.getD_some, ← HMOD.out j (by omega) hjy]
              congr 1
              have := HZ.out
              omega
            have hcw : cw = [.int .i64 (want.getD z.toNat 0)] := hK
            rw [hv] at hcw
            subst hcw
            have k0 : wr.cell? (adw.add z.toNat) = some (.int .i64 (x + j)) := by have h9 := hcell 0 _ rfl; rw [Nat.add_zero, show (Kd.int .i64).sz = 1 from rfl, Nat.mul_one] at h9; exact h9
            clear hcell hK hv
            go_wp2
            go_quiet (fail)
            go_wp2
            go_roundg (y.toNat - (j + 1))
            case measure => omega
            case rel => exact ⟨j + 1, z + 1, by omega, by omega, by go_num, rfl, ⟨by have := HZ.out; omega⟩, ⟨by repeat (first | exact BI.out | apply pw_below_drewN | apply below_drew1)⟩, ⟨by repeat (first | exact BX.out | refine blk_drewN ?_ _ | refine blk_drew ?_)⟩⟩
          · have e1 : decide ((j : Int) < y) = false := decide_eq_false hjy
            have HJ := Aside0.mk (show z = cum (kk + 1) by have := HZ.out; have := HCS.out; omega)
            go_wp2
            go_roundg (ps.length - (kk + 1))
            case measure => omega
            case rel => exact ⟨kk + 1, by omega, by omega, by go_num, by rw [HJ.out], BI⟩
    · have e0 : decide ((kk : Int) < (ps.length : Int)) = false := decide_eq_false (by omega)
      obtain rfl : kk = ps.length := by omega
      have HE2 := HE.out
      rw [HE2]
      go_wp2_with (go_at_call 11; refine (H11.out _).mono ?_; rintro e w4 ⟨rfl, hb⟩)
      go_ret
      exact ⟨rfl, below_step (HB3.out.trans (BW.out.mono HB3.out.size)) hb⟩
set_option maxRecDepth 100000 in
set_option maxHeartbeats 2000000 in
theorem law_wrong (s a n : Int) (t : Bool) (h : decide (1 ≤ s ∧ s ≤ 4096 ∧ 0 ≤ a ∧ a < s) = t) (hw : t = false ∨ t = true ∧ n < 0 ∨ t = true ∧ 0 ≤ n ∧ s < n) (w : World) :
    Calls Try.prog 8 #[.int .i64 s, .int .i64 a, .int .i64 n] w fun e w' => e = .returned (.bool true) ∧ Below w.heap.size w w' := by
  have H14 := Aside0.mk (pieces_wrong s a n t h hw w)
  have H15 := Aside0.mk (fun W => counterfoilref04_Right.calls s a t W (by rw [rright, h]))
  have H11 := Aside0.mk (fun W => counterfoillaw04_awake.calls 6 true W awake_eq)
  clear h
  rcases hw with rfl | ⟨rfl, h0⟩ | ⟨rfl, h0, h1⟩
  all_goals
    go_enter Try.func8, Try.ntmps8
    go_wp2_with (first
      | (go_at_call 14; refine H14.out.mono ?_; rintro e w1 ⟨rfl, hb⟩; have HB1 := Aside0.mk hb; clear hb)
      | (go_at_call 15; refine (H15.out _).mono ?_; rintro e w2 ⟨rfl, ⟨nd, rfl⟩⟩)
      | (go_at_call 11; refine (H11.out _).mono ?_; rintro e w4 ⟨rfl, hb⟩; have HB4 := Aside0.mk hb; clear hb))
    go_ret
    exact ⟨rfl, below_step (pw_below_drewN HB1.out nd) HB4.out⟩
/-- RingPieces is true, whatever it is called with. -/
theorem law_calls (s a n : Int) (w : World) : Calls Try.prog 8 #[.int .i64 s, .int .i64 a, .int .i64 n] w fun e w' => e = .returned (.bool true) ∧ Below w.heap.size w w' := by
  by_cases h : 1 ≤ s ∧ s ≤ 4096 ∧ 0 ≤ a ∧ a < s
  · obtain ⟨h1, h2, h3, h4⟩ := h
    have hd : decide (1 ≤ s ∧ s ≤ 4096 ∧ 0 ≤ a ∧ a < s) = true := decide_eq_true ⟨h1, h2, h3, h4⟩
    by_cases h0 : 0 ≤ n
    · by_cases h5 : n ≤ s
      · obtain ⟨m, rfl⟩ := Int.eq_ofNat_of_zero_le h0
        exact law_right s a m h1 h2 h3 h4 h5 w
      · exact law_wrong s a n true hd (.inr (.inr ⟨rfl, h0, by omega⟩)) w
    · exact law_wrong s a n true hd (.inr (.inl ⟨rfl, by omega⟩)) w
  · exact law_wrong s a n false (decide_eq_false h) (.inl rfl) w
end Go.Proofs.Ytlemimpbmnbpiaa.PRingPieces
