/- The contract of vols.Check. -/
import Derived.Test.YthdhkoeaadahaaaEVGet
namespace Go.Proofs.Ythdhkoeaadahaaa.P
open Go.RowKit Go.Proofs.YthdhkoeaadahaaaW.PrintWords Go.Proofs.YthdhkoeaadahaaaW.PrintLast Go.Proofs.YthdhkoeaadahaaaW.PrintMore
attribute [local go_sem] Oper.semAt_some
set_option linter.unusedVariables false
set_option linter.unusedSimpArgs false

/-- May one write be? -/
def checkW (l : List S49) (x : S74) : Int := if (getV l x.f0 x.f1).2 ≠ 0 then (getV l x.f0 x.f1).2 else if (x.f2.size : Int) > 8 then 5 else 0
def checkL (l : List S49) : List S74 → Int
  | [] => 0
  | x :: r => if checkW l x ≠ 0 then checkW l x else checkL l r
def vols_Check.f (l : List S49) (ws : List S74) : Option Int := some (if rightV l = true then checkL l ws else 1)
theorem rd74 (l : List S74) (kk : Nat) (h : kk < l.length) : rd_T74 l (kk : Int) = l[kk] := by
  unfold rd_T74; rw [Int.toNat_natCast, List.getD_eq_getElem?_getD, List.getElem?_eq_getElem h, Option.getD_some]
theorem drop74 (l : List S74) {i : Nat} (h : i < l.length) : l.drop i = rd_T74 l (i : Int) :: l.drop (i + 1) := by
  rw [List.drop_eq_getElem_cons h, rd74 l i h]

set_option maxRecDepth 100000 in
set_option maxHeartbeats 4000000 in
theorem vols_Check.calls (A0 : Option Addr) (c0 : Nat) (l0 : List S49) (A1 : Option Addr) (c1 : Nat) (l1 : List S74) (r : Int) (w : World) (hr0 : Kd.C k49 w A0 l0.length l0) (hc0 : l0.length ≤ c0) (hr1 : Kd.C k74 w A1 l1.length l1) (hc1 : l1.length ≤ c1) (h : vols_Check.f l0 l1 = some r) :
    Calls Try.prog 59 #[.slice A0 l0.length c0, .slice A1 l1.length c1] w fun e w' => e = .returned (.int .i64 r) ∧ Below w.heap.size w w' := by
  unfold vols_Check.f at h
  injection h with h
  have hR := vols_Right.calls A0 c0 l0 _ w hr0 hc0 rfl
  cases hb : rightV l0 with
  | false =>
    rw [hb] at h hR
    simp at h
    subst h
    clear hr0 hr1
    go_enter Try.func59, Try.ntmps59
    go_wp2_with (go_at_call 66; refine hR.mono ?_; rintro e w2 ⟨rfl, hb⟩)
    go_ret
    exact ⟨rfl, hb⟩
  | true =>
    rw [hb] at h hR
    rw [if_pos rfl] at h
    have hu74 := Try.underlying74
    have hmx := hr1.2.1
    have HAT := Aside0.mk (fun (a1 a2 : Int) (W : World) (hW : Below w.heap.size w W) => (at_calls A0 c0 l0 a1 a2 W (Kd.C_below hr0 hW) hc0).mono (fun e w' hh => show w' = W ∧ _ from ⟨hh.1, at_reads (Kd.C_below hr0 hW) hh.2⟩))
    have HR1 := Aside0.mk hr1
    have HH := Aside0.mk h
    clear hr0 hr1 h hb
    go_enter Try.func59, Try.ntmps59
    go_wp2_with (go_at_call 66; refine hR.mono ?_; rintro e w2 ⟨rfl, hb⟩; have HB := Aside0.mk hb; clear hb)
    go_loopg [14] l1.length (fun gg s14 wr => ∃ kk : Nat, kk ≤ l1.length ∧ l1.length - kk ≤ gg ∧ s14 = .int .i64 kk ∧ Aside0 (Below w.heap.size w wr) ∧ Aside0 (checkL l0 (l1.drop kk) = r))
    case atStart => exact ⟨0, by omega, by omega, rfl, HB, HH⟩
    case round =>
      clear HB
      obtain ⟨kk, hkk, hg, rfl, BW, AA⟩ := hrel
      by_cases hlt : kk < l1.length
      · have e0 : decide ((kk : Int) < (l1.length : Int)) = true := decide_eq_true (by omega)
        obtain ⟨ad, rfl, d0, d1, d2⟩ := at_T74 (Kd.C_below HR1.out BW.out) (kk : Int) (by omega) (by omega)
        rw [Int.toNat_natCast] at d0 d1 d2
        have hA := AA.out
        rw [drop74 l1 hlt, checkL] at hA
        have HA := Aside0.mk hA
        clear hA
        generalize rd_T74 l1 (kk : Int) = y at d0 d1 d2 HA
        have HY := Aside0.mk (HAT.out y.f0 y.f1)
        have hA := HA.out
        clear HA
        unfold checkW at hA
        generalize getV l0 y.f0 y.f1 = q at HY hA
        by_cases hz : q.2 = 0
        · have hA2 : (if (y.f2.size : Int) > 8 then (5 : Int) else checkL l0 (l1.drop (kk + 1))) = r := by
            rw [← hA, hz]
            by_cases h8 : (y.f2.size : Int) > 8
            · simp [h8]
            · simp [h8]
          clear hA
          by_cases h8 : (y.f2.size : Int) > 8
          · rw [if_pos h8] at hA2
            have er : r = 5 := hA2.symm
            subst er
            have e8 : decide ((y.f2.size : Int) > 8) = true := decide_eq_true h8
            go_wp2_with (go_at_call 97; refine (HY.out _ (below_alloc BW.out _)).mono ?_; rintro e w3 ⟨rfl, ⟨p, rfl, hcell, _⟩ | ⟨_, h2, _⟩⟩; rotate_left; exact absurd hz h2)
            go_ret
            exact ⟨rfl, below_alloc BW.out _⟩
          · rw [if_neg h8] at hA2
            have e8 : decide ((y.f2.size : Int) > 8) = false := decide_eq_false h8
            have HN := Aside0.mk hA2
            clear hA2
            go_wp2_with (go_at_call 97; refine (HY.out _ (below_alloc BW.out _)).mono ?_; rintro e w3 ⟨rfl, ⟨p, rfl, hcell, _⟩ | ⟨_, h2, _⟩⟩; rotate_left; exact absurd hz h2)
            go_roundg (l1.length - (kk + 1))
            case measure => omega
            case rel => exact ⟨kk + 1, by omega, by omega, by go_num, ⟨below_alloc BW.out _⟩, HN⟩
        · have e1 : (q.2 != 0) = true := bne_iff_ne.mpr hz
          rw [if_pos hz, if_pos hz] at hA
          obtain ⟨q1, q2⟩ := q
          have er : q2 = r := hA
          subst er
          clear hA
          go_wp2_with (go_at_call 97; refine (HY.out _ (below_alloc BW.out _)).mono ?_; rintro e w3 ⟨rfl, ⟨p, rfl, hcell, h2⟩ | ⟨rfl, h2, _⟩⟩; exact absurd h2 hz)
          go_ret
          exact ⟨rfl, below_alloc BW.out _⟩
      · have e0 : decide ((kk : Int) < (l1.length : Int)) = false := decide_eq_false (by omega)
        have hA := AA.out
        rw [List.drop_eq_nil_of_le (by omega)] at hA
        have er : r = 0 := hA.symm
        subst er
        go_wp2
        go_ret
        exact ⟨rfl, BW.out⟩
end Go.Proofs.Ythdhkoeaadahaaa.P
