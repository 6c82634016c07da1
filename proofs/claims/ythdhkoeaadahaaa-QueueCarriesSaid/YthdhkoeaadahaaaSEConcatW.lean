-- PACKED by wip/kit/pack.py: what the law's proof uses of EConcatW (printed words and texts of this seat)
import Derived.WalkKit
import Derived.WalkSpells
import Derived.TacticsInMore
import Derived.LoopNIn
import Derived.Test.YthdhkoeaadahaaaSEClone9
namespace Go.Proofs.Ythdhkoeaadahaaa.P
open Go.RowKit Go.Proofs.YthdhkoeaadahaaaW.PrintWords Go.Proofs.YthdhkoeaadahaaaW.PrintLast Go.Proofs.YthdhkoeaadahaaaW.PrintMore
attribute [local go_sem] Oper.semAt_some
set_option linter.unusedVariables false
set_option linter.unusedSimpArgs false
theorem R_front0w {α : Type} {d : Kd α} {e base c n : Nat} {ok : Nat → Prop} {w : World} {ad : Addr} {xs : List α} (h : d.R e w base ok (.slice (some ad) n c) xs) : d.R e w base ok (.slice (some ad) 0 c) ([] : List α) := by
 obtain ⟨h1, inner, ⟨_, hown⟩, _⟩ := h
 refine ⟨h1, [], ⟨by simp, .inr ?_⟩, Reps.none _ _⟩
 rcases hown with ⟨h2, _⟩ | ⟨g, cap, cur, hv, a1, a2, a3, a4, a5, a6⟩
 ·cases h2
 ·cases hv
  exact ⟨g, c, cur, rfl, a1, a2, Nat.zero_le _, a4, a5, by simp⟩
theorem A0qcw_ {p : Prop} (h : p) : Aside0 p := ⟨h⟩
theorem z1qcw_ {α : Type} (l : List α) (i : Nat) (a : α) : l.toArray.setIfInBounds i a = (l.set i a).toArray := List.setIfInBounds_toArray l i a
theorem z2qcw_ {α : Type} {x : α} {xs : List α} {a : α} : (x :: xs).set 0 a = a :: xs := List.set_cons_zero
theorem z3qcw_ {α : Type} {x : α} {xs : List α} {n : Nat} {a : α} : (x :: xs).set (n + 1) a = x :: xs.set n a := List.set_cons_succ
set_option maxRecDepth 100000 in
set_option maxHeartbeats 2000000 in
theorem grow74 (n : Nat) (hn : n ≤ 100000) (w : World) :
  Calls Try.prog 134 #[.slice none 0 0, .int .i64 (n : Int)] w fun e w' => ∃ v : Value, e = .returned v ∧ Kd.R k74 74 w' w.heap.size (fun _ => True) v ([] : List S74) ∧ Below w.heap.size w w' := by
 have hu74 := Try.underlying74
 have e1 : wrap64 ((n : Int) - 0) = (n : Int) := by unfold wrap64; omega
 have h0 : decide ((n : Int) < 0) = false := decide_eq_false (by omega)
 by_cases hz : n = 0
 ·subst hz
  go_enter Try.func134, Try.ntmps134
  go_wp2
  go_ret
  exact ⟨_, rfl, Kd.R_nil _ _ _ _ _, Below.refl _ _⟩
 ·have h1 : decide ((0 : Int) < (n : Int)) = true := decide_eq_true (by omega)
  go_enter Try.func134, Try.ntmps134
  go_wp2_with ((with_reducible refine gate_builtin (b := .append) (xs := #[.tmp 20, .tmp 21]) rfl ?_); at_builtin; refine Kd.R_append_zeros k74 (w0 := w) w.heap.size rfl (.tmp 20) (.tmp 21) 25 3 74 (.agg #[(.int .i64 0), (.int .i64 0), (.string ⟨#[]⟩)]) 32 rfl Try.underlying25 Try.underlying3 info74 rfl (by decide) (by omega) (.slice none 0 0) ([] : List S74) z74 (n : Int) (fun _ => True) rfl rfl (k74_mkM _ _ _ z74) ?aF ?aO (by omega) ?aB ?aS ?aL ?_; (case aF => exact fun _ _ => trivial); (case aO => exact Kd.R_nil _ _ _ _ _); (case aB => exact Below.refl _ _); (case aS => exact Nat.le_refl _); (case aL => simp; omega); intro v1 w1 hR hB hg hat; rw [List.nil_append, Int.toNat_natCast] at hR; obtain ⟨ad, c, rfl⟩ := Kd.R_slice1 hR (by simp; omega); rw [List.length_replicate] at hR; have HR := A0qcw_ (R_front0w hR); have HB := A0qcw_ hB; clear hR hB hg hat)
  go_ret
  exact ⟨_, rfl, HR.out, HB.out⟩
def upToW (a b : Nat) (k : Nat) : Nat := if k = 0 then 0 else if k = 1 then a else a + b
def rowsToW (l1 l2 : List S74) (k : Nat) : List S74 := if k = 0 then [] else if k = 1 then l1 else l1 ++ l2
def api_Write_115.f (l : List (List S74)) : Option (List S74) := match l with
 | [a, b] => if a.length + b.length ≤ 100000 then some (a ++ b) else none
 | _ => none
set_option maxRecDepth 100000 in
set_option maxHeartbeats 4000000 in
theorem concat74 (ad : Addr) (c : Nat) (A1 A2 : Option Addr) (c1 c2 : Nat) (l1 l2 : List S74) (hl : l1.length + l2.length ≤ 100000) (w : World) (h1 : w.cell? ad = some (.slice A1 l1.length c1)) (h2 : w.cell? ⟨ad.block, ad.off + 1, none⟩ = some (.slice A2 l2.length c2))
  (hr1 : Kd.C k74 w A1 l1.length l1) (hr2 : Kd.C k74 w A2 l2.length l2) :
  Calls Try.prog 115 #[.slice (some ad) 2 c] w fun e w' => ∃ v : Value, e = .returned v ∧ Kd.R k74 74 w' w.heap.size (fun _ => True) v (l1 ++ l2) ∧ Below w.heap.size w w' := by
 have hu74 := Try.underlying74
 have hB1 := World.block_lt_of_cell? w _ h1
 have hB2 := World.block_lt_of_cell? w _ h2
 have H1 := A0qcw_ h1
 have H2 := A0qcw_ h2
 have HR1 := A0qcw_ hr1
 have HR2 := A0qcw_ hr2
 clear h1 h2 hr1 hr2
 go_enter Try.func115, Try.ntmps115
 go_wp2
 go_loopg [3, 11] 2 (fun gg v3 v11 wr => ∃ kk : Nat, kk ≤ 2 ∧ 2 - kk ≤ gg ∧ v3 = .int .i64 (upToW l1.length l2.length kk : Nat) ∧ v11 = .int .i64 (kk : Int) ∧ Aside0 (Below w.heap.size w wr))
 case atStart => exact ⟨0, by omega, by omega, rfl, rfl, ⟨Below.refl _ _⟩⟩
 case round =>
  obtain ⟨kk, hkk, hg, rfl, rfl, BW⟩ := hrel
  have d1 := (BW.out.cell hB1).trans H1.out
  have d2 := (BW.out.cell (p := ⟨ad.block, ad.off + 1, none⟩) hB2).trans H2.out
  rcases (show kk = 0 ∨ kk = 1 ∨ kk = 2 by omega) with rfl | rfl | rfl
  ·have e1 : wrap64 (((upToW l1.length l2.length 0 : Nat) : Int) + (l1.length : Int)) = ((upToW l1.length l2.length 1 : Nat) : Int) := by simp [upToW]; unfold wrap64; omega
   have e2 : decide (((upToW l1.length l2.length 1 : Nat) : Int) < 0) = false := decide_eq_false (by omega)
   go_wp2
   go_roundg 1
   case measure => omega
   case rel => exact ⟨1, by omega, by omega, by rw [e1], rfl, BW⟩
  ·have e1 : wrap64 (((upToW l1.length l2.length 1 : Nat) : Int) + (l2.length : Int)) = ((upToW l1.length l2.length 2 : Nat) : Int) := by simp [upToW]; unfold wrap64; omega
   have e2 : decide (((upToW l1.length l2.length 2 : Nat) : Int) < 0) = false := decide_eq_false (by omega)
   go_wp2
   go_roundg 0
   case measure => omega
   case rel => exact ⟨2, by omega, by omega, by rw [e1], rfl, BW⟩
  ·clear d1 d2
   have hgr := grow74 (upToW l1.length l2.length 2) (by simp [upToW]; omega) wr
   go_wp2_with (go_at_call 134; refine hgr.mono ?_; rintro e w2 ⟨v2, rfl, hR, hB2⟩; have HR := A0qcw_ (Kd.R_lower hR BW.out.size); have HB := A0qcw_ (BW.out.trans (hB2.mono BW.out.size)); clear hR hB2)
   go_loopg [6, 27] 2 (fun gg v6 v27 wx => ∃ kk : Nat, kk ≤ 2 ∧ 2 - kk ≤ gg ∧ v27 = .int .i64 (kk : Int) ∧ Aside0 (Kd.R k74 74 wx w.heap.size (fun _ => True) v6 (rowsToW l1 l2 kk)) ∧ Aside0 (Below w.heap.size w wx))
   case atStart => exact ⟨0, by omega, by omega, rfl, HR, HB⟩
   case round =>
    clear HR HB BW
    obtain ⟨kk, hkk, hg, rfl, HO, HB⟩ := hrel
    have d1 := (HB.out.cell hB1).trans H1.out
    have d2 := (HB.out.cell (p := ⟨ad.block, ad.off + 1, none⟩) hB2).trans H2.out
    rcases (show kk = 0 ∨ kk = 1 ∨ kk = 2 by omega) with rfl | rfl | rfl
    ·go_wp2_with ((with_reducible refine gate_builtin (b := .append) (xs := #[.tmp 31, .tmp 32]) rfl ?_); at_builtin; refine Kd.R_append_rows k74 (w0 := w) w.heap.size rfl (.tmp 31) (.tmp 32) 25 74 (.agg #[(.int .i64 0), (.int .i64 0), (.string ⟨#[]⟩)]) 32 rfl Try.underlying25 info74 rfl (by decide) (by omega) _ (rowsToW l1 l2 0) l1 _ _ _ (fun _ => True) (fun _ => False) rfl rfl ?aO ?aR (fun _ _ h => h) (fun _ h => h.elim) (fun _ _ => trivial) ?aB ?aS ?aL ?_; (case aO => exact HO.out); (case aR => exact Kd.C_below HR1.out HB.out); (case aB => exact HB.out); (case aS => exact HB.out.size); (case aL => simp [rowsToW]; omega); intro v152 w5 ho hb hg' hat; have n0_ := A0qcw_ hb; have n1_ := A0qcw_ ho; clear HB HO; clear ho hb hg' hat)
     go_roundg 1
     case measure => omega
     case rel => exact ⟨1, by omega, by omega, rfl, n1_, n0_⟩
    ·go_wp2_with ((with_reducible refine gate_builtin (b := .append) (xs := #[.tmp 31, .tmp 32]) rfl ?_); at_builtin; refine Kd.R_append_rows k74 (w0 := w) w.heap.size rfl (.tmp 31) (.tmp 32) 25 74 (.agg #[(.int .i64 0), (.int .i64 0), (.string ⟨#[]⟩)]) 32 rfl Try.underlying25 info74 rfl (by decide) (by omega) _ (rowsToW l1 l2 1) l2 _ _ _ (fun _ => True) (fun _ => False) rfl rfl ?aO ?aR (fun _ _ h => h) (fun _ h => h.elim) (fun _ _ => trivial) ?aB ?aS ?aL ?_; (case aO => exact HO.out); (case aR => exact Kd.C_below HR2.out HB.out); (case aB => exact HB.out); (case aS => exact HB.out.size); (case aL => simp [rowsToW]; omega); intro v152 w5 ho hb hg' hat; have n0_ := A0qcw_ hb; have n1_ := A0qcw_ ho; clear HB HO; clear ho hb hg' hat)
     go_roundg 0
     case measure => omega
     case rel => exact ⟨2, by omega, by omega, rfl, n1_, n0_⟩
    ·clear d1 d2
     go_wp2
     go_ret
     exact ⟨_, rfl, HO.out, HB.out⟩
theorem api_Write_115.calls (A0 : Option Addr) (c0 : Nat) (l0 : List (List S74)) (r : List S74) (w : World) (hr0 : Kd.C (Kd.slice 74 k74) w A0 l0.length l0) (hc0 : l0.length ≤ c0) (h : api_Write_115.f l0 = some r) :
  Calls Try.prog 115 #[.slice A0 l0.length c0] w fun e w' => ∃ v0_ : Value, e = .returned v0_ ∧ Kd.R k74 74 w' w.heap.size (fun _ => True) v0_ r ∧ Below w.heap.size w w' := by
 match l0, hr0, h with
 | [], _, h => exact absurd h (by simp [api_Write_115.f])
 | [_], _, h => exact absurd h (by simp [api_Write_115.f])
 | _ :: _ :: _ :: _, _, h => exact absurd h (by simp [api_Write_115.f])
 | [a, b], hr0, h =>
  replace h : (if a.length + b.length ≤ 100000 then some (a ++ b) else none) = some r := h
  by_cases hl : a.length + b.length ≤ 100000
  ·rw [if_pos hl] at h
   obtain rfl := Option.some.inj h
   obtain ⟨ad, A1, c1, rfl, e1, _, k1⟩ := at_L3 hr0 0 (by omega) (by simp)
   obtain ⟨ad', A2, c2, e, e2, _, k2⟩ := at_L3 hr0 1 (by omega) (by simp)
   injection e with e
   subst e
   exact concat74 ad c0 A1 A2 c1 c2 a b hl w e1 e2 k1 k2
  ·rw [if_neg hl] at h
   exact absurd h (by simp)
end Go.Proofs.Ythdhkoeaadahaaa.P
