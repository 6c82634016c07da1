-- PACKED by wip/kit/pack.py: what the law's proof uses of EVDrop (printed words and texts of this seat)
import Derived.Test.YthdhkoeaadahaaaUEVAdd
namespace Go.Proofs.Ythdhkoeaadahaaa.P
open Go.RowKit Go.Proofs.YthdhkoeaadahaaaW.PrintWords Go.Proofs.YthdhkoeaadahaaaW.PrintLast Go.Proofs.YthdhkoeaadahaaaW.PrintMore
attribute [local go_sem] Oper.semAt_some
set_option linter.unusedVariables false
set_option linter.unusedSimpArgs false
def vols_Drop.f (l : List S49) (a : Int) : Option (List S49 × Int) := some (if rightV l = true then (if 1 ≤ a ∧ a ≤ 255 ∧ hasV l a = true then (delV l (posN l a), 0) else ([], 8)) else ([], 1))
theorem has_lt {l : List S49} {a : Int} (hA : AscV l) (h : hasV l a = true) : posN l a < l.length ∧ (rd_T49 l (posN l a : Int)).f0 = a := by
  unfold hasV at h
  rw [List.any_eq_true] at h
  obtain ⟨y, hy, hya⟩ := h
  obtain ⟨k, hk, rfl⟩ := List.getElem_of_mem hy
  have hya := eq_of_beq hya
  rw [← rd49 l k hk] at hya
  have hP : PosV l a k := ⟨by omega, fun j hj => by have := hA.2 j k hj hk; omega, fun j hj hl => by
    rcases Nat.lt_or_ge k j with h9 | h9
    · have := hA.2 k j h9 hl; omega
    · obtain rfl : j = k := by omega
      omega⟩
  rw [pos_is hP]
  exact ⟨hk, hya⟩
set_option maxRecDepth 100000 in
set_option maxHeartbeats 4000000 in
theorem vols_Drop.calls (A0 : Option Addr) (c0 : Nat) (l0 : List S49) (a1 : Int) (r1 : List S49) (r2 : Int) (w : World) (hr0 : Kd.C k49 w A0 l0.length l0) (hc0 : l0.length ≤ c0) (h : vols_Drop.f l0 a1 = some (r1, r2)) :
    Calls Try.prog 62 #[.slice A0 l0.length c0, .int .i64 a1] w fun e w' => ∃ v0_ : Value, e = .returned (.tuple #[v0_, .int .i64 r2]) ∧ Kd.S k49 49 w' w.heap.size (fun _ => True) v0_ r1 ∧ Below w.heap.size w w' := by
  unfold vols_Drop.f at h
  injection h with h
  have hR := vols_Right.calls A0 c0 l0 _ w hr0 hc0 rfl
  cases h1 : rightV l0 with
  | false =>
    rw [h1] at hR
    rw [h1, if_neg (by simp)] at h
    injection h with e1 e2
    subst e1; subst e2
    clear hr0 h1
    go_enter Try.func62, Try.ntmps62
    go_wp2_with (go_at_call 66; refine hR.mono ?_; rintro e w2 ⟨rfl, hb⟩; have HB := Aside0.mk hb; clear hb)
    refine bodyPost_ret (v := .tuple #[.slice none 0 0, .int .i64 1]) ?_ rfl ⟨_, rfl, Kd.S_nil _ _ _ _ _, HB.out⟩
    simp [results, Try.results62, go_sem]
  | true =>
    rw [h1] at hR
    rw [h1, if_pos rfl] at h
    by_cases h2 : 1 ≤ a1 ∧ a1 ≤ 255
    · obtain ⟨h2, h3⟩ := h2
      have hf := find_is A0 c0 l0 a1 w hr0 hc0 h1 h2 h3
      cases hb : hasV l0 a1 with
      | false =>
        rw [hb, if_neg (by simp)] at h
        injection h with e1 e2
        subst e1; subst e2
        rw [hb] at hf
        have HF := Aside0.mk hf
        clear hr0 h1 hf hb
        generalize ((posN l0 a1 : Nat) : Int) = p at HF
        go_enter Try.func62, Try.ntmps62
        go_wp2_with (first
          | (go_at_call 66; refine hR.mono ?_; rintro e w2 ⟨rfl, hb⟩; have HB := Aside0.mk hb; clear hb)
          | (go_at_call 109; refine (HF.out _ HB.out).mono ?_; rintro e w3 ⟨rfl, hb⟩; have HB3 := Aside0.mk (below_step HB.out hb); clear hb))
        refine bodyPost_ret (v := .tuple #[.slice none 0 0, .int .i64 8]) ?_ rfl ⟨_, rfl, Kd.S_nil _ _ _ _ _, HB3.out⟩
        simp [results, Try.results62, go_sem]
      | true =>
        rw [hb, if_pos ⟨h2, h3, rfl⟩] at h
        injection h with e1 e2
        subst e1; subst e2
        rw [hb] at hf
        have HF := Aside0.mk hf
        obtain ⟨hs1, hs2⟩ := rightV_small h1
        obtain ⟨kc, hkc⟩ := clone_f l0 (by omega) (fun x hx => by have := hs2 x hx; omega)
        have HCL := Aside0.mk (fun (W : World) (hW : Below w.heap.size w W) => vols_clone.calls kc A0 c0 l0 l0 W (Kd.C_below hr0 hW) hc0 hkc)
        have hlt := (has_lt (asc_of h1).1 hb).1
        clear hr0 h1 hf hb hs2 hkc
        generalize posN l0 a1 = p at HF hlt ⊢
        have e1 : (p : Int) + 1 ≤ 1000 := by omega
        go_enter Try.func62, Try.ntmps62
        go_wp2_with (first
          | (go_at_call 66; refine hR.mono ?_; rintro e w2 ⟨rfl, hb⟩; have HB := Aside0.mk hb; clear hb)
          | (go_at_call 109; refine (HF.out _ HB.out).mono ?_; rintro e w3 ⟨rfl, hb⟩; have HB3 := Aside0.mk (below_step HB.out hb); clear hb)
          | (go_at_call 106; refine (HCL.out _ HB3.out).mono ?_; rintro e w4 ⟨v3, rfl, hs, hb⟩; obtain ⟨A3, c3, rfl⟩ := Kd.S_slice hs; have HS4 := Aside0.mk (Kd.S_lower hs HB3.out.size); have HB4 := Aside0.mk (below_step HB3.out hb); clear hs hb)
          | (go_at_call 112; refine (delete_S A3 l0.length c3 p l0 w.heap.size _ HS4.out (by omega) HB4.out.size hlt).mono ?_; rintro e w5 ⟨v5, rfl, hs, hb⟩; have HS5 := Aside0.mk hs; have HB5 := Aside0.mk (HB4.out.trans hb); clear hs hb))
        refine bodyPost_ret (v := .tuple #[v5, .int .i64 0]) ?_ rfl ⟨_, rfl, HS5.out, HB5.out⟩
        simp [results, Try.results62, go_sem]
    · rw [if_neg (fun hh => h2 ⟨hh.1, hh.2.1⟩)] at h
      injection h with e1 e2
      subst e1; subst e2
      clear hr0 h1
      have h3 : a1 < 1 ∨ 1 ≤ a1 ∧ 255 < a1 := by omega
      clear h2
      rcases h3 with h3 | ⟨h3, h4⟩
      all_goals
        go_enter Try.func62, Try.ntmps62
        go_wp2_with (go_at_call 66; refine hR.mono ?_; rintro e w2 ⟨rfl, hb⟩; have HB := Aside0.mk hb; clear hb)
        refine bodyPost_ret (v := .tuple #[.slice none 0 0, .int .i64 8]) ?_ rfl ⟨_, rfl, Kd.S_nil _ _ _ _ _, HB.out⟩
        simp [results, Try.results62, go_sem]
end Go.Proofs.Ythdhkoeaadahaaa.P
