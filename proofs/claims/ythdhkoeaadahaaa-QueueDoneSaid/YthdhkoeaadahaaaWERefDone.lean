-- PACKED by wip/kit/pack.py: what the law's proof uses of ERefDone (printed words and texts of this seat)
import Derived.Test.YthdhkoeaadahaaaWEQDone
namespace Go.Proofs.Ythdhkoeaadahaaa.P
open Go.RowKit Go.Proofs.YthdhkoeaadahaaaW.PrintWords Go.Proofs.YthdhkoeaadahaaaW.PrintLast Go.Proofs.YthdhkoeaadahaaaW.PrintMore
attribute [local go_sem] Oper.semAt_some
set_option linter.unusedVariables false
set_option linter.unusedSimpArgs false
def refdone.T6 : Bool × List (List Nat × List Nat) := (true, [([], []), ([0], [0]), ([], []), ([2], [2]), ([], []), ([3, 4], [3, 4]), ([5], [5]), ([6], [6]), ([1, 7], [1, 7]), ([0, 1, 2, 3, 4, 5, 6, 7, 8], []), ([9, 8, 8, 0, 1, 2, 3, 4, 5, 6, 7, 8], [8, 9])])
def refdone.B6 : List Nat := [0, 1, 0, 4, 0, 28, 60, 124, 255, 511, 1023]
theorem refdone.tab6 : rtab .any (opsOf Try.f85 6) = refdone.T6 := by kernel_rfl
theorem refdone.bits6 : waitsOk refdone.T6.2 refdone.B6 = true := by kernel_rfl
def RowsOf (w : World) (vs : List (List Value)) (xs : List S99) : Prop := vs.length = xs.length ∧ ∀ (j : Nat) x c, xs[j]? = some x → vs[j]? = some c → k99.K w x c
theorem RowsOf.snoc {w : World} {vs : List (List Value)} {xs : List S99} {x : S99} {c : List Value} (h : RowsOf w vs xs) (hk : k99.K w x c) : RowsOf w (vs ++ [c]) (xs ++ [x]) := by
 refine ⟨by rw [List.length_append, List.length_append, h.1, List.length_singleton, List.length_singleton], fun j y d hy hd => ?_⟩
 rcases Nat.lt_trichotomy j xs.length with hlt | rfl | hgt
 ·rw [List.getElem?_append_left hlt] at hy
  rw [List.getElem?_append_left (by rw [h.1]; exact hlt)] at hd
  exact h.2 j y d hy hd
 ·rw [List.getElem?_append_right (Nat.le_refl _), Nat.sub_self] at hy
  rw [← h.1, List.getElem?_append_right (Nat.le_refl _), Nat.sub_self] at hd
  obtain rfl := Option.some.inj hy
  obtain rfl := Option.some.inj hd
  exact hk
 ·rw [List.getElem?_eq_none (by rw [List.length_append, List.length_singleton]; omega)] at hy
  cases hy
theorem C_of_rows {w W : World} {A : Option Addr} {n : Nat} {vs : List (List Value)} {xs : List S99} (hC : Kd.C (Kd.raw 3) W A n vs) (hr : RowsOf w vs xs) (hb : Below w.heap.size w W) : Kd.C k99 W A n xs := by
 obtain ⟨hl, hm, hn⟩ := hC
 refine ⟨by rw [← hr.1]; exact hl, hm, fun h0 => ?_⟩
 obtain ⟨ad, rfl, hc⟩ := hn h0
 refine ⟨ad, rfl, fun j p hj => ?_⟩
 have hjl : j < vs.length := by
  have h1 := (List.getElem?_eq_some_iff.1 hj).1
  have h2 := hr.1
  omega
 obtain ⟨c, h1, h2, h3⟩ := hc j _ (List.getElem?_eq_getElem hjl)
 have e : c = vs[j] := h2.1
 subst e
 exact ⟨_, h1, k99.K_below hb (hr.2 j p _ hj (List.getElem?_eq_getElem hjl)), h3⟩
theorem cell_stays {w W : World} (hb : Below w.heap.size w W) {p : Addr} {v : Value} (h : w.cell? p = some v) : W.cell? p = some v := (hb.cell (World.block_lt_of_cell? _ _ h)).trans h
theorem filter_take {l : List S99} (f : S99 → Bool) {i : Nat} (h : i < l.length) : (l.take (i + 1)).filter f = (l.take i).filter f ++ (if f l[i] = true then [l[i]] else []) := by
 rw [List.take_succ_eq_append_getElem h, List.filter_append, List.filter_cons, List.filter_nil]
theorem A0qrd_ {p : Prop} (h : p) : Aside0 p := ⟨h⟩
theorem z1qrd_ {α : Type} (l : List α) (i : Nat) (a : α) : l.toArray.setIfInBounds i a = (l.set i a).toArray := List.setIfInBounds_toArray l i a
theorem z2qrd_ {α : Type} {x : α} {xs : List α} {a : α} : (x :: xs).set 0 a = a :: xs := List.set_cons_zero
theorem z3qrd_ {α : Type} {x : α} {xs : List α} {n : Nat} {a : α} : (x :: xs).set (n + 1) a = x :: xs.set n a := List.set_cons_succ
abbrev mk0qrd_ : Array Bool := #[false, false, false, false, false, false, false, false, false, false, false]
abbrev mk1qrd_ : Array Bool := #[true, false, false, false, false, false, false, false, false, false, false]
abbrev mk2qrd_ : Array Bool := #[true, false, true, false, false, false, false, false, false, false, false]
abbrev mk3qrd_ : Array Bool := #[true, false, true, false, true, false, false, false, false, false, false]
abbrev mk4qrd_ : Array Bool := #[true, true, true, false, true, false, false, false, false, false, false]
abbrev mk5qrd_ : Array Bool := #[true, true, true, true, true, false, false, false, false, false, false]
abbrev mk6qrd_ : Array Bool := #[true, true, true, true, true, true, false, false, false, false, false]
abbrev mk7qrd_ : Array Bool := #[true, true, true, true, true, true, true, false, false, false, false]
abbrev mk8qrd_ : Array Bool := #[true, true, true, true, true, true, true, true, false, false, false]
abbrev mk9qrd_ : Array Bool := #[true, true, true, true, true, true, true, true, true, false, false]
abbrev mk10qrd_ : Array Bool := #[true, true, true, true, true, true, true, true, true, true, false]
abbrev mk11qrd_ : Array Bool := #[true, true, true, true, true, true, true, true, true, true, true]
set_option maxRecDepth 100000 in
set_option maxHeartbeats 8000000 in
theorem refdone_calls (A0 A1 : Option Addr) (c0 m c1 : Nat) (l : List S99) (a b q : Int) (w : World) (hr0 : Kd.C k99 w A0 l.length l) (hc0 : l.length ≤ c0) (hn : l.length ≤ 1000) :
  Calls Try.prog 85 #[.agg #[.slice A0 l.length c0, .slice A1 m c1, .int .i64 a, .int .i64 b], .int .i64 q] w fun e w' => ∃ A7 c7, e = .returned (.agg #[.slice A7 (l.filter (lateQ q)).length c7, .slice A1 m c1, .int .i64 a, .int .i64 b]) ∧ Kd.C k99 w' A7 (l.filter (lateQ q)).length (l.filter (lateQ q)) ∧ (l.filter (lateQ q)).length ≤ c7 ∧ Below w.heap.size w w' := by
 have hu27 := Try.underlying27
 have hu24 := Try.underlying24
 have hu99 := Try.underlying99
 obtain ⟨n, hnn⟩ : ∃ n, l.length = n := ⟨_, rfl⟩
 rw [hnn] at hr0 hc0 hn ⊢
 have HC := A0qrd_ hr0
 have HN := A0qrd_ hnn
 clear hr0 hnn
 go_enter Try.func85, Try.ntmps85
 go_wp2_with (first
  | ((with_reducible refine gate_dst (N:=2) rfl ?_); refine box_event ?hg (N:=2) ?hd (cs := #[.slice A0 n c0, .slice A1 m c1, .int .i64 a, .int .i64 b]) (t := 27) ?hr ?_; (case hd => rfl); (case hg => rfl); (case hr => first | (go_simp; done) | (go_simp; rfl)); intro g1 hg w1 hbox hb; have BK1 := A0qrd_ hbox; have HB1 := A0qrd_ hb; have GE1 := A0qrd_ (show w.heap.size ≤ g1 by rw [hg]; exact Nat.le_refl _); clear hb hbox hg)
  | ((with_reducible refine gate_dst (N:=4) rfl ?_); refine box_event ?hg (N:=4) ?hd (cs := #[.slice none 0 0, .slice none 0 0, .int .i64 0, .int .i64 0]) (t := 27) ?hr ?_; (case hd => rfl); (case hg => rfl); (case hr => first | (go_simp; done) | (go_simp; rfl)); intro g2 hg w2 hbox hb; have BK2 := A0qrd_ hbox; have BK1_2 := A0qrd_ (blk_below BK1.out hb); have HB2 := A0qrd_ (below_step HB1.out hb); have GE2 := A0qrd_ (show w.heap.size ≤ g2 by rw [hg]; exact HB1.out.size); have NB12 := A0qrd_ (show g1 ≠ g2 by rw [hg]; exact (Nat.ne_of_lt (blk_lt BK1.out))); clear hb hbox hg BK1; have x0 : w2.cell? ⟨g1, 0, none⟩ = some (.slice A0 n c0) := (blk_cell BK1_2.out 0).trans rfl; have x1 : w2.cell? ⟨g1, 1, none⟩ = some (.slice A1 m c1) := (blk_cell BK1_2.out 1).trans rfl; have x2 : w2.cell? ⟨g1, 2, none⟩ = some (.int .i64 a) := (blk_cell BK1_2.out 2).trans rfl; have x3 : w2.cell? ⟨g1, 3, none⟩ = some (.int .i64 b) := (blk_cell BK1_2.out 3).trans rfl)
  | ((with_reducible refine gate_dst (N:=5) rfl ?_); refine box_event ?hg (N:=5) ?hd (cs := #[.slice none 0 0, .slice none 0 0, .int .i64 0, .int .i64 0]) (t := 27) ?hr ?_; (case hd => rfl); (case hg => rfl); (case hr => first | (go_simp; done) | (go_simp; rfl)); intro g3 hg w3 hbox hb; have BK3 := A0qrd_ hbox; have BK1_3 := A0qrd_ (blk_below (by first | exact BK1_2.out | exact blk_drew BK1_2.out) hb); have BK2_3 := A0qrd_ (blk_below (by first | exact BK2.out | exact blk_drew BK2.out) hb); have HB3 := A0qrd_ (below_step (by first | exact HB2.out | exact below_drew1 HB2.out) hb); have GE3 := A0qrd_ (show w.heap.size ≤ g3 by rw [hg]; first | exact HB2.out.size | exact (below_drew1 HB2.out).size); have NB13 := A0qrd_ (show g1 ≠ g3 by rw [hg]; exact (Nat.ne_of_lt (blk_lt (by first | exact BK1_2.out | exact blk_drew BK1_2.out)))); have NB23 := A0qrd_ (show g2 ≠ g3 by rw [hg]; exact (Nat.ne_of_lt (blk_lt (by first | exact BK2.out | exact blk_drew BK2.out)))); clear hb hbox hg BK1_2 BK2 x0 x1 x2 x3; have y0 : w3.cell? ⟨g3, 0, none⟩ = some (.slice none 0 0) := (blk_cell BK3.out 0).trans rfl; have y1 : w3.cell? ⟨g3, 1, none⟩ = some (.slice none 0 0) := (blk_cell BK3.out 1).trans rfl; have y2 : w3.cell? ⟨g3, 2, none⟩ = some (.int .i64 0) := (blk_cell BK3.out 2).trans rfl; have y3 : w3.cell? ⟨g3, 3, none⟩ = some (.int .i64 0) := (blk_cell BK3.out 3).trans rfl; have z0 := blk_frozen BK3.out 0; have z1 := blk_frozen BK3.out 1; have z2 := blk_frozen BK3.out 2; have z3 := blk_frozen BK3.out 3))
 clear y0 y1 y2 y3 z0 z1 z2 z3
 go_loopg [6] n (fun gg s6 wr => ∃ (i : Nat) (z : Int) (v : Value) (vs : List (List Value)), i ≤ n ∧ n - i ≤ gg ∧ Aside0 (z = (i : Int)) ∧ s6 = .int .i64 z ∧ Aside0 (wr.heap[g1]? = some (.cells #[.slice A0 n c0, .slice A1 m c1, .int .i64 a, .int .i64 b] 27 (0, 0))) ∧ Aside0 (wr.heap[g2]? = some (.cells #[.slice none 0 0, .slice none 0 0, .int .i64 0, .int .i64 0] 27 (0, 0))) ∧ Aside0 (wr.heap[g3]? = some (.cells #[v, .slice A1 m c1, .int .i64 a, .int .i64 b] 27 (0, 0))) ∧ Aside0 (Kd.R (Kd.raw 3) 99 wr w.heap.size (fun _ => True) v vs) ∧ Aside0 (RowsOf w vs ((l.take i).filter (lateQ q))) ∧ Aside0 (vs.length ≤ i) ∧ Aside0 (Below w.heap.size w wr))
 case atStart =>
  refine ⟨0, 0, .slice none 0 0, [], by omega, by omega, ⟨rfl⟩, rfl, ⟨(blk_far (p := ⟨g3, 3, none⟩) (blk_far (p := ⟨g3, 2, none⟩) (blk_far (p := ⟨g3, 1, none⟩) (blk_far (p := ⟨g3, 0, none⟩) BK1_3.out NB13.out (.slice none 0 0)) NB13.out (.slice A1 m c1)) NB13.out (.int .i64 a)) NB13.out (.int .i64 b))⟩, ⟨(blk_far (p := ⟨g3, 3, none⟩) (blk_far (p := ⟨g3, 2, none⟩) (blk_far (p := ⟨g3, 1, none⟩) (blk_far (p := ⟨g3, 0, none⟩) BK2_3.out NB23.out (.slice none 0 0)) NB23.out (.slice A1 m c1)) NB23.out (.int .i64 a)) NB23.out (.int .i64 b))⟩, ⟨(blk_put (cs := #[.slice none 0 0, .slice A1 m c1, .int .i64 a, .int .i64 0]) (cs' := #[.slice none 0 0, .slice A1 m c1, .int .i64 a, .int .i64 b]) (blk_put (cs := #[.slice none 0 0, .slice A1 m c1, .int .i64 0, .int .i64 0]) (cs' := #[.slice none 0 0, .slice A1 m c1, .int .i64 a, .int .i64 0]) (blk_put (cs := #[.slice none 0 0, .slice none 0 0, .int .i64 0, .int .i64 0]) (cs' := #[.slice none 0 0, .slice A1 m c1, .int .i64 0, .int .i64 0]) (blk_put (cs := #[.slice none 0 0, .slice none 0 0, .int .i64 0, .int .i64 0]) (cs' := #[.slice none 0 0, .slice none 0 0, .int .i64 0, .int .i64 0]) BK3.out 0 (.slice none 0 0) rfl) 1 (.slice A1 m c1) rfl) 2 (.int .i64 a) rfl) 3 (.int .i64 b) rfl)⟩, ⟨Kd.R_nil _ _ _ _ _⟩, ⟨rfl, fun j x c hx => by simp at hx⟩, ⟨Nat.le_refl _⟩, ⟨below_set (below_set (below_set (below_set HB3.out GE3.out) GE3.out) GE3.out) GE3.out⟩⟩
 case round =>
  clear BK1_3 BK2_3 BK3 HB1 HB2 HB3
  obtain ⟨i, z, v, vs, hi, hg, HZ, rfl, BK1, BK2, BK3, HO, HR, VL, HB⟩ := hrel
  have nb1 := NB12.out
  have nb2 := NB12.out.symm
  have nb3 := NB13.out
  have nb4 := NB13.out.symm
  have nb5 := NB23.out
  have nb6 := NB23.out.symm
  by_cases hlt : i < n
  ·have e0 : decide (z < (n : Int)) = true := decide_eq_true (by have := HZ.out; omega)
   have h1 : 0 ≤ z := by have := HZ.out; omega
   have h2 : z < (n : Int) := by have := HZ.out; omega
   obtain ⟨z1, hz1⟩ : ∃ u, wrap64 (z + 1) = u := ⟨_, rfl⟩
   have HZ1 := A0qrd_ (show z1 = ((i + 1 : Nat) : Int) by have := HZ.out; rw [← hz1]; unfold wrap64; omega)
   have hil : i < l.length := by have := HN.out; omega
   obtain ⟨ad, cc, rfl, hcl, hK, hcc0⟩ := Kd.C_get HC.out z99 z h1 h2
   have hcc : ∀ j u, cc[j]? = some u → w.cell? (ad.add (z.toNat * 3 + j)) = some u := hcc0
   have EY := A0qrd_ (show l.getD z.toNat z99 = l[i] by rw [HZ.out, Int.toNat_natCast, List.getD_eq_getElem?_getD, List.getElem?_eq_getElem hil, Option.getD_some])
   generalize l.getD z.toNat z99 = y at hK EY
   have HK := A0qrd_ hK
   obtain ⟨A2, c2, rfl, _, _⟩ := k99_open hK
   have X0 := A0qrd_ (hcc 0 _ rfl)
   have X1 := A0qrd_ (show w.cell? ⟨(ad.add (z.toNat * 3)).block, (ad.add (z.toNat * 3)).off + 1, none⟩ = some (.int .i64 y.f1) by rw [← add_field _ _ 1 (by omega)]; exact hcc 1 _ rfl)
   have X2 := A0qrd_ (show w.cell? ⟨(ad.add (z.toNat * 3)).block, (ad.add (z.toNat * 3)).off + 2, none⟩ = some (.slice A2 y.f2.length c2) by rw [← add_field _ _ 2 (by omega)]; exact hcc 2 _ rfl)
   clear hcc hcc0 hK hcl
   have d0 := (cell_stays HB.out X0.out)
   have d1 := (cell_stays HB.out X1.out)
   have d2 := (cell_stays HB.out X2.out)
   have x0 : wr.cell? ⟨g1, 0, none⟩ = some (.slice (some ad) n c0) := (blk_cell BK1.out 0).trans rfl
   have x1 : wr.cell? ⟨g1, 1, none⟩ = some (.slice A1 m c1) := (blk_cell BK1.out 1).trans rfl
   have x2 : wr.cell? ⟨g1, 2, none⟩ = some (.int .i64 a) := (blk_cell BK1.out 2).trans rfl
   have x3 : wr.cell? ⟨g1, 3, none⟩ = some (.int .i64 b) := (blk_cell BK1.out 3).trans rfl
   by_cases hq : q < y.f1
   ·have e1 : decide (q < y.f1) = true := decide_eq_true hq
    have e1' : decide (y.f1 > q) = true := e1
    have HF := A0qrd_ (show (l.take (i + 1)).filter (lateQ q) = (l.take i).filter (lateQ q) ++ [y] by
     rw [filter_take (lateQ q) hil, ← EY.out, if_pos (by unfold lateQ; rw [decide_eq_false (by omega)]; rfl)])
    try go_wp2
    have BK1d := A0qrd_ (blk_drew BK1.out)
    have BK2d := A0qrd_ (blk_drew BK2.out)
    have BK3d := A0qrd_ (blk_drew BK3.out)
    have HOd := A0qrd_ (Kd.R_drew HO.out)
    have HBd := A0qrd_ (below_drew1 HB.out)
    have d0 := (cell_stays HBd.out X0.out)
    have d1 := (cell_stays HBd.out X1.out)
    have d2 := (cell_stays HBd.out X2.out)
    refine start_ (n := 11) (S := fun w' => w'.cell? ⟨g3, 0, none⟩ = some (v) ∧ w'.cell? ⟨g3, 1, none⟩ = some (.slice A1 m c1) ∧ w'.cell? ⟨g3, 2, none⟩ = some (.int .i64 a) ∧ w'.cell? ⟨g3, 3, none⟩ = some (.int .i64 b) ∧ w'.cell? ⟨g1, 0, none⟩ = some (.slice (some ad) n c0) ∧ w'.cell? ⟨g1, 1, none⟩ = some (.slice A1 m c1) ∧ w'.cell? ⟨g1, 2, none⟩ = some (.int .i64 a) ∧ w'.cell? ⟨g1, 3, none⟩ = some (.int .i64 b) ∧ w'.cell? (ad.add (z.toNat * 3)) = some (.int .i64 y.f0) ∧ w'.cell? ⟨(ad.add (z.toNat * 3)).block, (ad.add (z.toNat * 3)).off + 1, none⟩ = some (.int .i64 y.f1) ∧ w'.cell? ⟨(ad.add (z.toNat * 3)).block, (ad.add (z.toNat * 3)).off + 2, none⟩ = some (.slice A2 y.f2.length c2)) (ds := [8, 10]) mk0qrd_ (by kernel_rfl) rfl rfl ⟨(blk_cell BK3d.out 0).trans rfl, (blk_cell BK3d.out 1).trans rfl, (blk_cell BK3d.out 2).trans rfl, (blk_cell BK3d.out 3).trans rfl, (blk_cell BK1d.out 0).trans rfl, (blk_cell BK1d.out 1).trans rfl, (blk_cell BK1d.out 2).trans rfl, (blk_cell BK1d.out 3).trans rfl, d0, d1, d2⟩ (fun hHeld => ?_)
    refine with_tabW refdone.tab6 refdone.bits6 (fun HT_ HW_ => ?_)
    clear d0 d1 d2 BK1 BK2 BK3 HO HB
    generalize wr.drew = w19 at BK1d BK2d BK3d HOd HBd hHeld ⊢
    refine pure_ (i:=0) (N:=some 29) (v:=?_) (a':=?_) mk1qrd_ rfl rfl (any_of HT_.out (by kernel_rfl)) (fun _ _ _ h => h) (Or.inl ⟨by rfl, ?_⟩) ?_ ?_
    rotate_left
    ·intro w'
     go_simp
     with_reducible rfl
    rotate_left
    ·simp only [Act.put, z1qrd_, z2qrd_, z3qrd_, i64_w, i32_w]
     rfl
    refine pure_ (i:=2) (N:=some 31) (v:=?_) (a':=?_) mk2qrd_ rfl rfl (any_of HT_.out (by kernel_rfl)) (fun _ _ _ h => h) (Or.inl ⟨by rfl, ?_⟩) ?_ ?_
    rotate_left
    ·intro w'
     go_simp
     with_reducible rfl
    rotate_left
    ·simp only [Act.put, z1qrd_, z2qrd_, z3qrd_, i64_w, i32_w]
     rfl
    refine pure_ (i:=4) (N:=some 33) (v:=?_) (a':=?_) mk3qrd_ rfl rfl (any_of HT_.out (by kernel_rfl)) (fun _ _ _ h => h) (Or.inl ⟨by rfl, ?_⟩) ?_ ?_
    rotate_left
    ·intro w'
     go_simp
     with_reducible rfl
    rotate_left
    ·simp only [Act.put, z1qrd_, z2qrd_, z3qrd_, i64_w, i32_w]
     rfl
    refine take_ (i:=1) (N:=some 30) (v:=?_) (a':=?_) mk4qrd_ rfl rfl (take_ofW HT_.out HW_.out (by kernel_rfl)) (fun _ _ _ h => h) (Or.inl ⟨by rfl, ?_⟩) hHeld ?_ ?_
    rotate_left
    ·rintro w' ⟨s0, s1, s2, s3, s4, s5, s6, s7, s8, s9, s10⟩
     go_simp
     with_reducible rfl
    rotate_left
    ·simp only [Act.put, z1qrd_, z2qrd_, z3qrd_, i64_w, i32_w]
     rfl
    refine take_ (i:=3) (N:=some 32) (v:=?_) (a':=?_) mk5qrd_ rfl rfl (take_ofW HT_.out HW_.out (by kernel_rfl)) (fun _ _ _ h => h) (Or.inl ⟨by rfl, ?_⟩) hHeld ?_ ?_
    rotate_left
    ·rintro w' ⟨s0, s1, s2, s3, s4, s5, s6, s7, s8, s9, s10⟩
     go_simp
     with_reducible rfl
    rotate_left
    ·simp only [Act.put, z1qrd_, z2qrd_, z3qrd_, i64_w, i32_w]
     rfl
    refine pure_ (i:=5) (N:=some 34) (v:=?_) (a':=?_) mk6qrd_ rfl rfl (any_of HT_.out (by kernel_rfl)) (fun _ _ _ h => h) (Or.inl ⟨by rfl, ?_⟩) ?_ ?_
    rotate_left
    ·intro w'
     go_simp
     with_reducible rfl
    rotate_left
    ·simp only [Act.put, z1qrd_, z2qrd_, z3qrd_, i64_w, i32_w]
     rfl
    refine take_ (i:=6) (N:=some 35) (v:=?_) (a':=?_) mk7qrd_ rfl rfl (take_ofW HT_.out HW_.out (by kernel_rfl)) (fun _ _ _ h => h) (Or.inl ⟨by rfl, ?_⟩) hHeld ?_ ?_
    rotate_left
    ·rintro w' ⟨s0, s1, s2, s3, s4, s5, s6, s7, s8, s9, s10⟩
     go_simp
     with_reducible rfl
    rotate_left
    ·simp only [Act.put, z1qrd_, z2qrd_, z3qrd_, i64_w, i32_w]
     rfl
    refine one_ (i:=7) (N:=some 36) mk8qrd_ rfl rfl (one_of HT_.out (by kernel_rfl)) (by decide) (fun K hK => ?_)
    refine value_ (w1 := ?_) (v := ?_) (by rfl) rfl ?_ ?_
    rotate_left 2
    ·go_simp
     constructor
     ·rfl
     ·rfl
    refine hK.out _ _ ⟨(blk_cell (blk_alloc BK3d.out _) 0).trans rfl, (blk_cell (blk_alloc BK3d.out _) 1).trans rfl, (blk_cell (blk_alloc BK3d.out _) 2).trans rfl, (blk_cell (blk_alloc BK3d.out _) 3).trans rfl, (blk_cell (blk_alloc BK1d.out _) 0).trans rfl, (blk_cell (blk_alloc BK1d.out _) 1).trans rfl, (blk_cell (blk_alloc BK1d.out _) 2).trans rfl, (blk_cell (blk_alloc BK1d.out _) 3).trans rfl, (World.cell?_alloc_lt _ _ _ (World.block_lt_of_cell? _ _ (hHeld.2.2.2.2.2.2.2.2.1))).trans (hHeld.2.2.2.2.2.2.2.2.1), (World.cell?_alloc_lt _ _ _ (World.block_lt_of_cell? _ _ (hHeld.2.2.2.2.2.2.2.2.2.1))).trans (hHeld.2.2.2.2.2.2.2.2.2.1), (World.cell?_alloc_lt _ _ _ (World.block_lt_of_cell? _ _ (hHeld.2.2.2.2.2.2.2.2.2.2))).trans (hHeld.2.2.2.2.2.2.2.2.2.2)⟩ (fun hHeld => ?_)
    clear hK K
    refine norm_ (a' := ?_) ?_ ?_
    rotate_left
    ·show Act.put _ (some 36) _ = _
     simp only [Act.put, z1qrd_, z2qrd_, z3qrd_, i64_w, i32_w]
     rfl
    refine last_ (i:=8) (N:=some 37) mk9qrd_ rfl rfl (one_of HT_.out (by kernel_rfl)) (by decide) (fun K hK => ?_)
    refine Kd.R_append_step (Kd.raw 3) (w0 := w) w.heap.size rfl (.tmp 30) (.tmp 36) 24 99 (.agg #[(.int .i64 0), (.int .i64 0), (.slice none 0 0)]) 40 rfl Try.underlying24 cloneInfo99 rfl (by decide) (by omega) v vs [.int .i64 y.f0, .int .i64 y.f1, .slice A2 y.f2.length c2] [.int .i64 y.f0, .int .i64 y.f1, .slice A2 y.f2.length c2] (fun _ => True) (fun _ => False) rfl rfl ?aP (fun _ h => h.elim) (fun _ _ => trivial) ?aO ?aB ?aS ?aL ?_
    (case aP => exact ⟨rfl, rfl, one3 _ _ _ (by rfl) (by rfl) (by rfl)⟩)
    (case aO => exact HOd.out)
    (case aB => exact HBd.out)
    (case aS => exact HBd.out.size)
    (case aL => have := VL.out; omega)
    intro v1 w20 ho hb hgr hat
    obtain ⟨vs2, hv2⟩ : ∃ u, vs ++ [[Value.int .i64 y.f0, Value.int .i64 y.f1, Value.slice A2 y.f2.length c2]] = u := ⟨_, rfl⟩
    rw [hv2] at ho
    have HV2 := A0qrd_ hv2
    clear hv2
    have BK1e := A0qrd_ (blk_grown BK1d.out hgr (Kd.R_ne HOd.out BK1d.out (by decide)))
    have BK2e := A0qrd_ (blk_grown BK2d.out hgr (Kd.R_ne HOd.out BK2d.out (by decide)))
    have BK3e := A0qrd_ (blk_grown BK3d.out hgr (Kd.R_ne HOd.out BK3d.out (by decide)))
    have HOe := A0qrd_ ho
    have HBe := A0qrd_ hb
    obtain ⟨A21, c21, e21⟩ := Kd.R_slice ho
    subst e21
    clear ho hb hgr hat BK1d BK2d BK3d HOd HBd
    refine hK.out _ _ ?_
    clear hK K hHeld
    refine norm_ (a' := ?_) ?_ ?_
    rotate_left
    ·show Act.put _ (some 37) _ = _
     simp only [Act.put, z1qrd_, z2qrd_, z3qrd_, i64_w, i32_w]
     rfl
    refine pure_ (i:=9) (N:=some 38) (v:=?_) (a':=?_) mk10qrd_ rfl rfl (any_of HT_.out (by kernel_rfl)) (fun _ _ _ h => h) (Or.inl ⟨by rfl, ?_⟩) ?_ ?_
    rotate_left
    ·intro w'
     go_simp
     with_reducible rfl
    rotate_left
    ·simp only [Act.put, z1qrd_, z2qrd_, z3qrd_, i64_w, i32_w]
     rfl
    refine last_ (i:=10) (N:=none) mk11qrd_ rfl rfl (one_of HT_.out (by kernel_rfl)) (by decide) (fun K hK => ?_)
    have hs22 : w20.cell? ⟨g3, 0, none⟩ = some v := (blk_cell BK3e.out 0).trans rfl
    have hfs22 := blk_frozen BK3e.out 0
    refine skip_ (w1 := ?_) (by rfl) rfl ?_ ?_
    rotate_left
    ·go_simp
     rfl
    refine hK.out _ _ ?_
    clear hK K
    refine done_ (done_of HT_.out (by kernel_rfl)) ?_
    try go_wp2
    (try simp only [hz1])
    go_roundg (n - (i + 1))
    case measure => omega
    case rel =>
     refine ⟨i + 1, z1, .slice A21 vs2.length c21, vs2, by omega, by omega, HZ1, by first | rfl | exact congrArg (Value.int .i64) hz1 | exact congrArg (Value.int .i64) (by have := HZ.out; have := HZ1.out; omega), ⟨blk_far (p := ⟨g3, 0, none⟩) BK1e.out NB13.out _⟩, ⟨blk_far (p := ⟨g3, 0, none⟩) BK2e.out NB23.out _⟩, ⟨blk_put (cs := #[v, .slice A1 m c1, .int .i64 a, .int .i64 b]) BK3e.out 0 _ rfl⟩, ⟨Kd.R_mono (Kd.R_far (p := ⟨g3, 0, none⟩) (Kd.R_types HOe.out BK3e.out (by decide)) (fun _ hk => hk.2) _) (fun _ _ => trivial)⟩, ⟨by rw [HF.out, ← HV2.out]; exact HR.out.snoc HK.out⟩, ⟨by rw [← HV2.out, List.length_append, List.length_singleton]; have := VL.out; omega⟩, ⟨below_set HBe.out GE3.out⟩⟩
   ·have e1 : decide (q < y.f1) = false := decide_eq_false hq
    have e1' : decide (y.f1 > q) = false := e1
    have HF := A0qrd_ (show (l.take (i + 1)).filter (lateQ q) = (l.take i).filter (lateQ q) by
     rw [filter_take (lateQ q) hil, ← EY.out, if_neg (by unfold lateQ; rw [decide_eq_true (by omega)]; simp), List.append_nil])
    go_wp2
    (try simp only [hz1])
    go_roundg (n - (i + 1))
    case measure => omega
    case rel => exact ⟨i + 1, z1, v, vs, by omega, by omega, HZ1, by first | rfl | exact congrArg (Value.int .i64) hz1 | exact congrArg (Value.int .i64) (by have := HZ.out; have := HZ1.out; omega), BK1, BK2, BK3, HO, ⟨by rw [HF.out]; exact HR.out⟩, ⟨by have := VL.out; omega⟩, HB⟩
  ·have e0 : decide (z < (n : Int)) = false := decide_eq_false (by have := HZ.out; omega)
   obtain ⟨A9, c9, e9⟩ := Kd.R_slice HO.out
   subst e9
   have x0 : wr.cell? ⟨g1, 0, none⟩ = some (.slice A0 n c0) := (blk_cell BK1.out 0).trans rfl
   have x1 : wr.cell? ⟨g1, 1, none⟩ = some (.slice A1 m c1) := (blk_cell BK1.out 1).trans rfl
   have x2 : wr.cell? ⟨g1, 2, none⟩ = some (.int .i64 a) := (blk_cell BK1.out 2).trans rfl
   have x3 : wr.cell? ⟨g1, 3, none⟩ = some (.int .i64 b) := (blk_cell BK1.out 3).trans rfl
   have y0 : wr.cell? ⟨g3, 0, none⟩ = some (.slice A9 vs.length c9) := (blk_cell BK3.out 0).trans rfl
   have y1 : wr.cell? ⟨g3, 1, none⟩ = some (.slice A1 m c1) := (blk_cell BK3.out 1).trans rfl
   have y2 : wr.cell? ⟨g3, 2, none⟩ = some (.int .i64 a) := (blk_cell BK3.out 2).trans rfl
   have y3 : wr.cell? ⟨g3, 3, none⟩ = some (.int .i64 b) := (blk_cell BK3.out 3).trans rfl
   have t0 : wr.cell? ⟨g2, 0, none⟩ = some (.slice none 0 0) := (blk_cell BK2.out 0).trans rfl
   have t1 : wr.cell? ⟨g2, 1, none⟩ = some (.slice none 0 0) := (blk_cell BK2.out 1).trans rfl
   have t2 : wr.cell? ⟨g2, 2, none⟩ = some (.int .i64 0) := (blk_cell BK2.out 2).trans rfl
   have t3 : wr.cell? ⟨g2, 3, none⟩ = some (.int .i64 0) := (blk_cell BK2.out 3).trans rfl
   have q0 := blk_frozen BK2.out 0
   have q1 := blk_frozen BK2.out 1
   have q2 := blk_frozen BK2.out 2
   have q3 := blk_frozen BK2.out 3
   have EV := A0qrd_ (show (l.take i).filter (lateQ q) = l.filter (lateQ q) by rw [List.take_of_length_le (by have := HN.out; omega)])
   go_wp2
   refine bodyPost_ret (results_cell_row rfl _ _ g2 27 #[.slice A9 vs.length c9, .slice A1 m c1, .int .i64 a, .int .i64 b] (0, 0) _ rfl (blk_put (cs := #[.slice A9 vs.length c9, .slice A1 m c1, .int .i64 a, .int .i64 0]) (cs' := #[.slice A9 vs.length c9, .slice A1 m c1, .int .i64 a, .int .i64 b]) (blk_put (cs := #[.slice A9 vs.length c9, .slice A1 m c1, .int .i64 0, .int .i64 0]) (cs' := #[.slice A9 vs.length c9, .slice A1 m c1, .int .i64 a, .int .i64 0]) (blk_put (cs := #[.slice A9 vs.length c9, .slice none 0 0, .int .i64 0, .int .i64 0]) (cs' := #[.slice A9 vs.length c9, .slice A1 m c1, .int .i64 0, .int .i64 0]) (blk_put (cs := #[.slice none 0 0, .slice none 0 0, .int .i64 0, .int .i64 0]) (cs' := #[.slice A9 vs.length c9, .slice none 0 0, .int .i64 0, .int .i64 0]) BK2.out 0 (.slice A9 vs.length c9) rfl) 1 (.slice A1 m c1) rfl) 2 (.int .i64 a) rfl) 3 (.int .i64 b) rfl) Try.underlying27 rfl (by kernel_rfl)) rfl ?_
   have hrr := Kd.R_reads' (Kd.R_mono (Kd.R_far (p := ⟨g2, 3, none⟩) (Kd.R_far (p := ⟨g2, 2, none⟩) (Kd.R_far (p := ⟨g2, 1, none⟩) (Kd.R_far (p := ⟨g2, 0, none⟩) (Kd.R_types HO.out BK2.out (by decide)) (fun _ hk => hk.2) (.slice A9 vs.length c9)) (fun _ hk => hk.2) (.slice A1 m c1)) (fun _ hk => hk.2) (.int .i64 a)) (fun _ hk => hk.2) (.int .i64 b)) (fun _ _ => trivial) : Kd.R (Kd.raw 3) 99 _ w.heap.size (fun _ => True) _ _)
   have hlen : vs.length = (l.filter (lateQ q)).length := by rw [← EV.out]; exact HR.out.1
   have hB := below_set (j := 3) (v := .int .i64 b) (below_set (j := 2) (v := .int .i64 a) (below_set (j := 1) (v := .slice A1 m c1) (below_set (j := 0) (v := .slice A9 vs.length c9) HB.out GE2.out) GE2.out) GE2.out) GE2.out
   have hCC := C_of_rows hrr.2.2 HR.out hB
   rw [EV.out, hlen] at hCC
   refine ⟨A9, c9, by rw [hlen], ?_, hlen ▸ hrr.2.1, ?_⟩
   ·rw [hlen]; exact hCC
   ·exact hB
end Go.Proofs.Ythdhkoeaadahaaa.P
