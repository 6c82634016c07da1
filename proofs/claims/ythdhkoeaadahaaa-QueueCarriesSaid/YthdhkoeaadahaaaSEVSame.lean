-- PACKED by wip/kit/pack.py: what the law's proof uses of EVSame (printed words and texts of this seat)
import Derived.Test.YthdhkoeaadahaaaSEVGet
import Derived.RegionCalls
namespace Go.Proofs.Ythdhkoeaadahaaa.P
open Go.RowKit Go.Proofs.YthdhkoeaadahaaaW.PrintWords Go.Proofs.YthdhkoeaadahaaaW.PrintLast Go.Proofs.YthdhkoeaadahaaaW.PrintMore
attribute [local go_sem] Oper.semAt_some
set_option linter.unusedVariables false
set_option linter.unusedSimpArgs false
def eqL (a b : List ByteArray) : Bool := decide (a = b)
theorem eqL_len {a b : List ByteArray} (h : a.length ≠ b.length) : eqL a b = false := decide_eq_false (fun e => h (by rw [e]))
theorem eqL_cons (x y : ByteArray) (a b : List ByteArray) (h : x = y) : eqL (x :: a) (y :: b) = eqL a b := by
 subst h
 unfold eqL
 simp
theorem eqL_ne (x y : ByteArray) (a b : List ByteArray) (h : x ≠ y) : eqL (x :: a) (y :: b) = false := decide_eq_false (fun e => h (List.cons.inj e).1)
theorem cons9 (l : List ByteArray) {i : Nat} (h : i < l.length) : l.drop i = gets9 l i :: l.drop (i + 1) := by
 rw [List.drop_eq_getElem_cons h, gets9_at l i h]
theorem A0qvs_ {p : Prop} (h : p) : Aside0 p := ⟨h⟩
theorem z1qvs_ {α : Type} (l : List α) (i : Nat) (a : α) : l.toArray.setIfInBounds i a = (l.set i a).toArray := List.setIfInBounds_toArray l i a
theorem z2qvs_ {α : Type} {x : α} {xs : List α} {a : α} : (x :: xs).set 0 a = a :: xs := List.set_cons_zero
theorem z3qvs_ {α : Type} {x : α} {xs : List α} {n : Nat} {a : α} : (x :: xs).set (n + 1) a = x :: xs.set n a := List.set_cons_succ
set_option maxRecDepth 100000 in
set_option maxHeartbeats 4000000 in
theorem equal9 (A B : Option Addr) (c d : Nat) (l m : List ByteArray) (w : World) (hr : Kd.C Kd.string w A l.length l) (hs : Kd.C Kd.string w B m.length m) :
  Calls Try.prog 104 #[.slice A l.length c, .slice B m.length d] w fun e w' => e = .returned (.bool (eqL l m)) ∧ Below w.heap.size w w' := by
 have hmx := hr.2.1
 have HR := A0qvs_ hr
 have HS := A0qvs_ hs
 clear hr hs
 by_cases hl : (l.length : Int) = (m.length : Int)
 ·have e0 : ((l.length : Int) != (m.length : Int)) = false := bne_eq_false_iff_eq.mpr hl
  have HLM := A0qvs_ (show l.length = m.length by omega)
  clear hl
  go_enter Try.func104, Try.ntmps104
  go_wp2
  go_loopg [5, 13] l.length (fun gg _ s13 wr => ∃ kk : Nat, kk ≤ l.length ∧ l.length - kk ≤ gg ∧ s13 = .int .i64 kk ∧ Aside0 (Below w.heap.size w wr) ∧ Aside0 (eqL l m = eqL (l.drop kk) (m.drop kk)))
  case atStart => exact ⟨0, by omega, by omega, rfl, ⟨Below.refl _ _⟩, ⟨rfl⟩⟩
  case round =>
   obtain ⟨kk, hkk, hg, rfl, BW, AA⟩ := hrel
   by_cases hlt : kk < l.length
   ·have e1 : decide ((kk : Int) < (l.length : Int)) = true := decide_eq_true (by omega)
    obtain ⟨ad, rfl, c0⟩ := at9 (Kd.C_below HR.out BW.out) kk hlt
    obtain ⟨ad', rfl, c1⟩ := at9 (Kd.C_below HS.out BW.out) kk (by have := HLM.out; omega)
    have hlt2 : kk < m.length := by have := HLM.out; omega
    have e2 : decide ((kk : Int) < (m.length : Int)) = true := decide_eq_true (by omega)
    have hA := AA.out
    rw [cons9 l hlt, cons9 m (by have := HLM.out; omega)] at hA
    have HA := A0qvs_ hA
    clear hA
    generalize gets9 l kk = x at c0 HA
    generalize gets9 m kk = y at c1 HA
    have c0' : wr.drew.cell? (ad.add kk) = some (.string x) := c0
    have c1' : wr.drew.cell? (ad'.add kk) = some (.string y) := c1
    by_cases hxy : x = y
    ·have exy : (x.toList == y.toList) = true := by rw [hxy]; simp
     have hA := HA.out
     rw [eqL_cons _ _ _ _ hxy] at hA
     have HB := A0qvs_ hA
     clear hA hxy HA
     go_wp2
     refine wp_region_any (by kernel_rfl) ?_
     try (change wpAny _ _ _ _ _ _ _ (World.drew _))
     refine wpAny_take (i:=0) (v := ?_) rfl (by kernel_rfl) (by kernel_rfl) (by kernel_rfl) (fun _ _ _ h => h) (Or.inl ⟨by rfl, ?_⟩) ?_; rotate_left; focus (intro w; go_simp; try (with_reducible rfl))
     refine wpAny_take (i:=1) (v := ?_) rfl (by kernel_rfl) (by kernel_rfl) (by kernel_rfl) (fun _ _ _ h => h) (Or.inl ⟨by rfl, ?_⟩) ?_; rotate_left; focus (intro w; go_simp; try (with_reducible rfl))
     refine wpAny_take (i:=2) (v := ?_) rfl (by kernel_rfl) (by kernel_rfl) (by kernel_rfl) (fun _ _ _ h => h) (Or.inl ⟨by rfl, ?_⟩) ?_; rotate_left; focus (intro w; go_simp; try (with_reducible rfl))
     refine wpAny_take (i:=4) (v := ?_) rfl (by kernel_rfl) (by kernel_rfl) (by kernel_rfl) (fun _ _ _ h => h) (Or.inl ⟨by rfl, ?_⟩) ?_; rotate_left; focus (intro w; go_simp; try (with_reducible rfl))
     refine wpAny_take (i:=5) (v := ?_) rfl (by kernel_rfl) (by kernel_rfl) (by kernel_rfl) (fun _ _ _ h => h) (Or.inl ⟨by rfl, ?_⟩) ?_; rotate_left; focus (intro w; go_simp; try (with_reducible rfl))
     refine wpAny_take (i:=6) (v := ?_) rfl (by kernel_rfl) (by kernel_rfl) (by kernel_rfl) (fun _ _ _ h => h) (Or.inl ⟨by rfl, ?_⟩) ?_; rotate_left; focus (intro w; go_simp; try (with_reducible rfl))
     refine wpAny_ready (rs := [3, 7]) (by kernel_rfl) (by simp) ?_
     refine AllReady.cons rfl (fun K hK => ?_) (AllReady.cons rfl (fun K hK => ?_) AllReady.nil)
     ·go_simp
      refine hK _ _ ?_
      clear hK K
      refine wpAny_ready (rs := [7]) (by kernel_rfl) (by simp) ?_
      refine AllReady.cons rfl (fun K hK => ?_) AllReady.nil
      go_simp
      refine hK _ _ ?_
      clear hK K
      refine wpAny_take (i:=8) (v := ?_) rfl (by kernel_rfl) (by kernel_rfl) (by kernel_rfl) (fun _ _ _ h => h) (Or.inl ⟨by rfl, ?_⟩) ?_; rotate_left; focus (intro w; go_simp; try (with_reducible rfl))
      refine wpAny_done (by kernel_rfl) ?_ _
      go_wp2
      go_roundg (l.length - (kk + 1))
      case measure => omega
      case rel => exact ⟨kk + 1, by omega, by omega, by go_num, ⟨below_drew1 BW.out⟩, HB⟩
     ·go_simp
      refine hK _ _ ?_
      clear hK K
      refine wpAny_ready (rs := [3]) (by kernel_rfl) (by simp) ?_
      refine AllReady.cons rfl (fun K hK => ?_) AllReady.nil
      go_simp
      refine hK _ _ ?_
      clear hK K
      refine wpAny_take (i:=8) (v := ?_) rfl (by kernel_rfl) (by kernel_rfl) (by kernel_rfl) (fun _ _ _ h => h) (Or.inl ⟨by rfl, ?_⟩) ?_; rotate_left; focus (intro w; go_simp; try (with_reducible rfl))
      refine wpAny_done (by kernel_rfl) ?_ _
      go_wp2
      go_roundg (l.length - (kk + 1))
      case measure => omega
      case rel => exact ⟨kk + 1, by omega, by omega, by go_num, ⟨below_drew1 BW.out⟩, HB⟩
    ·have exy : (x.toList == y.toList) = false := by
      rw [beq_eq_false_iff_ne]
      intro e
      refine hxy (ByteArray.ext (Array.ext' ?_))
      rw [← ByteArray.toList_eq, ← ByteArray.toList_eq]; exact e
     have er := A0qvs_ (show eqL l m = false by rw [HA.out]; exact eqL_ne _ _ _ _ hxy)
     clear hxy HA
     go_wp2
     refine wp_region_any (by kernel_rfl) ?_
     try (change wpAny _ _ _ _ _ _ _ (World.drew _))
     refine wpAny_take (i:=0) (v := ?_) rfl (by kernel_rfl) (by kernel_rfl) (by kernel_rfl) (fun _ _ _ h => h) (Or.inl ⟨by rfl, ?_⟩) ?_; rotate_left; focus (intro w; go_simp; try (with_reducible rfl))
     refine wpAny_take (i:=1) (v := ?_) rfl (by kernel_rfl) (by kernel_rfl) (by kernel_rfl) (fun _ _ _ h => h) (Or.inl ⟨by rfl, ?_⟩) ?_; rotate_left; focus (intro w; go_simp; try (with_reducible rfl))
     refine wpAny_take (i:=2) (v := ?_) rfl (by kernel_rfl) (by kernel_rfl) (by kernel_rfl) (fun _ _ _ h => h) (Or.inl ⟨by rfl, ?_⟩) ?_; rotate_left; focus (intro w; go_simp; try (with_reducible rfl))
     refine wpAny_take (i:=4) (v := ?_) rfl (by kernel_rfl) (by kernel_rfl) (by kernel_rfl) (fun _ _ _ h => h) (Or.inl ⟨by rfl, ?_⟩) ?_; rotate_left; focus (intro w; go_simp; try (with_reducible rfl))
     refine wpAny_take (i:=5) (v := ?_) rfl (by kernel_rfl) (by kernel_rfl) (by kernel_rfl) (fun _ _ _ h => h) (Or.inl ⟨by rfl, ?_⟩) ?_; rotate_left; focus (intro w; go_simp; try (with_reducible rfl))
     refine wpAny_take (i:=6) (v := ?_) rfl (by kernel_rfl) (by kernel_rfl) (by kernel_rfl) (fun _ _ _ h => h) (Or.inl ⟨by rfl, ?_⟩) ?_; rotate_left; focus (intro w; go_simp; try (with_reducible rfl))
     refine wpAny_ready (rs := [3, 7]) (by kernel_rfl) (by simp) ?_
     refine AllReady.cons rfl (fun K hK => ?_) (AllReady.cons rfl (fun K hK => ?_) AllReady.nil)
     ·go_simp
      refine hK _ _ ?_
      clear hK K
      refine wpAny_ready (rs := [7]) (by kernel_rfl) (by simp) ?_
      refine AllReady.cons rfl (fun K hK => ?_) AllReady.nil
      go_simp
      refine hK _ _ ?_
      clear hK K
      refine wpAny_take (i:=8) (v := ?_) rfl (by kernel_rfl) (by kernel_rfl) (by kernel_rfl) (fun _ _ _ h => h) (Or.inl ⟨by rfl, ?_⟩) ?_; rotate_left; focus (intro w; go_simp; try (with_reducible rfl))
      refine wpAny_done (by kernel_rfl) ?_ _
      go_wp2
      go_ret
      exact ⟨by rw [er.out]; exact rfl, below_drew1 BW.out⟩
     ·go_simp
      refine hK _ _ ?_
      clear hK K
      refine wpAny_ready (rs := [3]) (by kernel_rfl) (by simp) ?_
      refine AllReady.cons rfl (fun K hK => ?_) AllReady.nil
      go_simp
      refine hK _ _ ?_
      clear hK K
      refine wpAny_take (i:=8) (v := ?_) rfl (by kernel_rfl) (by kernel_rfl) (by kernel_rfl) (fun _ _ _ h => h) (Or.inl ⟨by rfl, ?_⟩) ?_; rotate_left; focus (intro w; go_simp; try (with_reducible rfl))
      refine wpAny_done (by kernel_rfl) ?_ _
      go_wp2
      go_ret
      exact ⟨by rw [er.out]; exact rfl, below_drew1 BW.out⟩
   ·have e1 : decide ((kk : Int) < (l.length : Int)) = false := decide_eq_false (by omega)
    have hA := AA.out
    rw [List.drop_eq_nil_of_le (by omega), List.drop_eq_nil_of_le (by have := HLM.out; omega)] at hA
    have er := A0qvs_ (show eqL l m = true from hA)
    clear hA
    go_wp2
    go_ret
    exact ⟨by rw [er.out]; exact rfl, BW.out⟩
 ·have e0 : ((l.length : Int) != (m.length : Int)) = true := bne_iff_ne.mpr hl
  have er := A0qvs_ (eqL_len (a := l) (b := m) (by omega))
  go_enter Try.func104, Try.ntmps104
  go_wp2
  go_ret
  exact ⟨by rw [er.out]; exact rfl, Below.refl _ _⟩
def eqV (x y : S49) : Bool := if x.f0 = y.f0 then eqL x.f1 y.f1 else false
def eqVs : List S49 → List S49 → Bool
 | [], [] => true
 | x :: l, y :: m => eqV x y && eqVs l m
 | _, _ => false
theorem eqVs_len : ∀ {l m : List S49}, l.length ≠ m.length → eqVs l m = false
 | [], [], h => absurd rfl h
 | [], _ :: _, _ => rfl
 | _ :: _, [], _ => rfl
 | x :: l, y :: m, h => by
  rw [eqVs, eqVs_len (l := l) (m := m) (fun e => h (by rw [List.length_cons, List.length_cons, e])), Bool.and_false]
set_option maxRecDepth 100000 in
set_option maxHeartbeats 4000000 in
theorem same1 (x y : S49) (A B : Option Addr) (c d : Nat) (w : World) (hx : Kd.C Kd.string w A x.f1.length x.f1) (hy : Kd.C Kd.string w B y.f1.length y.f1) :
  Calls Try.prog 103 #[.agg #[.int .i64 x.f0, .slice A x.f1.length c], .agg #[.int .i64 y.f0, .slice B y.f1.length d]] w fun e w' => e = .returned (.bool (eqV x y)) ∧ Below w.heap.size w w' := by
 have hu49 := Try.underlying49
 have HC := A0qvs_ (fun (W : World) (hW : Below w.heap.size w W) => equal9 A B c d x.f1 y.f1 W (Kd.C_below hx hW) (Kd.C_below hy hW))
 clear hx hy
 by_cases h : x.f0 = y.f0
 ·have e0 : (x.f0 == y.f0) = true := beq_iff_eq.mpr h
  have er := A0qvs_ (show eqV x y = eqL x.f1 y.f1 by unfold eqV; rw [if_pos h])
  clear h
  generalize eqL x.f1 y.f1 = t at HC er
  go_enter Try.func103, Try.ntmps103
  go_wp2_with (go_at_call 104; refine (HC.out _ (below_alloc (below_alloc (Below.refl _ _) _) _)).mono ?_; rintro e w3 ⟨rfl, hb⟩; have HB := A0qvs_ ((below_alloc (below_alloc (Below.refl w.heap.size w) (.cells #[.int .i64 x.f0, .slice A x.f1.length c] 49)) (.cells #[.int .i64 y.f0, .slice B y.f1.length d] 49)).trans (hb.mono (by simp; omega))); clear hb)
  go_ret
  exact ⟨by rw [er.out]; exact rfl, HB.out⟩
 ·have e0 : (x.f0 == y.f0) = false := beq_eq_false_iff_ne.mpr h
  have er := A0qvs_ (show eqV x y = false by unfold eqV; rw [if_neg h])
  clear h
  go_enter Try.func103, Try.ntmps103
  go_wp2
  go_ret
  exact ⟨by rw [er.out]; exact rfl, below_alloc (below_alloc (Below.refl _ _) _) _⟩
set_option maxRecDepth 100000 in
set_option maxHeartbeats 4000000 in
theorem equalV (A B : Option Addr) (c d : Nat) (l m : List S49) (w : World) (hr : Kd.C k49 w A l.length l) (hs : Kd.C k49 w B m.length m) :
  Calls Try.prog 102 #[.slice A l.length c, .slice B m.length d, .func (.func 103) #[] #[]] w fun e w' => e = .returned (.bool (eqVs l m)) ∧ Below w.heap.size w w' := by
 have hu49 := Try.underlying49
 have hmx := hr.2.1
 have HR := A0qvs_ hr
 have HS := A0qvs_ hs
 clear hr hs
 by_cases hl : (l.length : Int) = (m.length : Int)
 ·have e0 : ((l.length : Int) != (m.length : Int)) = false := bne_eq_false_iff_eq.mpr hl
  have HLM := A0qvs_ (show l.length = m.length by omega)
  clear hl
  go_enter Try.func102, Try.ntmps102
  go_wp2
  go_loopg [7, 17] l.length (fun gg _ s17 wr => ∃ kk : Nat, kk ≤ l.length ∧ l.length - kk ≤ gg ∧ s17 = .int .i64 kk ∧ Aside0 (Below w.heap.size w wr) ∧ Aside0 (eqVs l m = eqVs (l.drop kk) (m.drop kk)))
  case atStart => exact ⟨0, by omega, by omega, rfl, ⟨Below.refl _ _⟩, ⟨rfl⟩⟩
  case round =>
   obtain ⟨kk, hkk, hg, rfl, BW, AA⟩ := hrel
   by_cases hlt : kk < l.length
   ·have hlt2 : kk < m.length := by have := HLM.out; omega
    have e1 : decide ((kk : Int) < (l.length : Int)) = true := decide_eq_true (by omega)
    have e2 : decide ((kk : Int) < (m.length : Int)) = true := decide_eq_true (by omega)
    obtain ⟨ad, A1, c1, rfl, d0, d1, hl1, hC1⟩ := at_T49 (Kd.C_below HR.out BW.out) (kk : Int) (by omega) (by omega)
    obtain ⟨ad', A2, c2, rfl, d2, d3, hl2, hC2⟩ := at_T49 (Kd.C_below HS.out BW.out) (kk : Int) (by omega) (by omega)
    rw [Int.toNat_natCast] at d0 d1 d2 d3
    have hA := AA.out
    rw [drop49 l hlt, drop49 m hlt2, eqVs] at hA
    have HA := A0qvs_ hA
    clear hA
    have HC := A0qvs_ (fun (W : World) (hW : Below wr.heap.size wr W) => same1 (rd_T49 l (kk : Int)) (rd_T49 m (kk : Int)) A1 A2 c1 c2 W (Kd.C_below hC1 hW) (Kd.C_below hC2 hW))
    clear hC1 hC2
    generalize rd_T49 l (kk : Int) = x at d0 d1 hl1 HA HC
    generalize rd_T49 m (kk : Int) = y at d2 d3 hl2 HA HC
    have hB1 := World.block_lt_of_cell? wr _ d2
    have d2' : (wr.alloc (.cells #[.int .i64 x.f0, .slice A1 x.f1.length c1] 49)).cell? (ad'.add (kk * 2)) = some (.int .i64 y.f0) := ((below_alloc (Below.refl _ _) _).cell hB1).trans d2
    have d3' : (wr.alloc (.cells #[.int .i64 x.f0, .slice A1 x.f1.length c1] 49)).cell? ⟨(ad'.add (kk * 2)).block, (ad'.add (kk * 2)).off + 1, none⟩ = some (.slice A2 y.f1.length c2) := ((below_alloc (Below.refl _ _) _).cell (World.block_lt_of_cell? wr _ d3)).trans d3
    cases hq : eqV x y with
    | true =>
     rw [hq] at HC HA
     go_wp2_with (go_at_call 103; refine (HC.out _ (below_alloc (below_alloc (Below.refl _ _) _) _)).mono ?_; rintro e w3 ⟨rfl, hb⟩; have HB := A0qvs_ ((below_alloc (below_alloc BW.out (.cells #[.int .i64 x.f0, .slice A1 x.f1.length c1] 49)) (.cells #[.int .i64 y.f0, .slice A2 y.f1.length c2] 49)).trans (hb.mono (by have := BW.out.size; simp; omega))); clear hb)
     go_roundg (l.length - (kk + 1))
     case measure => omega
     case rel => exact ⟨kk + 1, by omega, by omega, by go_num, HB, ⟨by rw [HA.out]; rfl⟩⟩
    | false =>
     rw [hq] at HC HA
     go_wp2_with (go_at_call 103; refine (HC.out _ (below_alloc (below_alloc (Below.refl _ _) _) _)).mono ?_; rintro e w3 ⟨rfl, hb⟩; have HB := A0qvs_ ((below_alloc (below_alloc BW.out (.cells #[.int .i64 x.f0, .slice A1 x.f1.length c1] 49)) (.cells #[.int .i64 y.f0, .slice A2 y.f1.length c2] 49)).trans (hb.mono (by have := BW.out.size; simp; omega))); clear hb)
     go_ret
     exact ⟨by rw [HA.out]; exact rfl, HB.out⟩
   ·have e1 : decide ((kk : Int) < (l.length : Int)) = false := decide_eq_false (by omega)
    have hA := AA.out
    rw [List.drop_eq_nil_of_le (by omega), List.drop_eq_nil_of_le (by have := HLM.out; omega)] at hA
    have er := A0qvs_ (show eqVs l m = true from hA)
    clear hA
    go_wp2
    go_ret
    exact ⟨by rw [er.out]; exact rfl, BW.out⟩
 ·have e0 : ((l.length : Int) != (m.length : Int)) = true := bne_iff_ne.mpr hl
  have er := A0qvs_ (eqVs_len (l := l) (m := m) (by omega))
  clear hl
  go_enter Try.func102, Try.ntmps102
  go_wp2
  go_ret
  exact ⟨by rw [er.out]; exact rfl, Below.refl _ _⟩
def vols_Same.f (l m : List S49) : Option Bool := some (rightV l && rightV m && eqVs l m)
set_option maxRecDepth 100000 in
set_option maxHeartbeats 4000000 in
theorem vols_Same.calls (A0 : Option Addr) (c0 : Nat) (l0 : List S49) (A1 : Option Addr) (c1 : Nat) (l1 : List S49) (r : Bool) (w : World) (hr0 : Kd.C k49 w A0 l0.length l0) (hc0 : l0.length ≤ c0) (hr1 : Kd.C k49 w A1 l1.length l1) (hc1 : l1.length ≤ c1) (h : vols_Same.f l0 l1 = some r) :
  Calls Try.prog 51 #[.slice A0 l0.length c0, .slice A1 l1.length c1] w fun e w' => e = .returned (.bool r) ∧ Below w.heap.size w w' := by
 unfold vols_Same.f at h
 injection h with h
 subst h
 have h1 := vols_Right.calls A0 c0 l0 _ w hr0 hc0 rfl
 have H2 := A0qvs_ (fun (W : World) (hW : Below w.heap.size w W) => vols_Right.calls A1 c1 l1 _ W (Kd.C_below hr1 hW) hc1 rfl)
 have H3 := A0qvs_ (fun (W : World) (hW : Below w.heap.size w W) => equalV A0 A1 c0 c1 l0 l1 W (Kd.C_below hr0 hW) (Kd.C_below hr1 hW))
 clear hr0 hr1
 generalize rightV l0 = b1 at h1
 generalize rightV l1 = b2 at H2
 generalize eqVs l0 l1 = b3 at H3
 cases b1 with
 | false =>
  go_enter Try.func51, Try.ntmps51
  go_wp2_with (go_at_call 66; refine h1.mono ?_; rintro e w2 ⟨rfl, hb⟩)
  go_ret
  exact ⟨rfl, hb⟩
 | true =>
  cases b2 with
  | false =>
   go_enter Try.func51, Try.ntmps51
   go_wp2_with (first
    | (go_at_call 66; refine (H2.out _ HB.out).mono ?_; rintro e w3 ⟨rfl, hb⟩; have HB3 := A0qvs_ (HB.out.trans (hb.mono HB.out.size)); clear hb)
    | (go_at_call 66; refine h1.mono ?_; rintro e w2 ⟨rfl, hb⟩; have HB := A0qvs_ hb; clear hb))
   go_ret
   exact ⟨rfl, HB3.out⟩
  | true =>
   go_enter Try.func51, Try.ntmps51
   go_wp2_with (first
    | (go_at_call 102; refine (H3.out _ HB3.out).mono ?_; rintro e w4 ⟨rfl, hb⟩; have HB4 := A0qvs_ (HB3.out.trans (hb.mono HB3.out.size)); clear hb)
    | (go_at_call 66; refine (H2.out _ HB.out).mono ?_; rintro e w3 ⟨rfl, hb⟩; have HB3 := A0qvs_ (HB.out.trans (hb.mono HB.out.size)); clear hb)
    | (go_at_call 66; refine h1.mono ?_; rintro e w2 ⟨rfl, hb⟩; have HB := A0qvs_ hb; clear hb))
   go_ret
   exact ⟨by simp, HB4.out⟩
end Go.Proofs.Ythdhkoeaadahaaa.P
