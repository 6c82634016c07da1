-- PACKED by wip/kit/pack.py: what the law's proof uses of EQClone (printed words and texts of this seat)
import Derived.Test.YthdhkoeaadahaaaSECloneSets
import Derived.Test.YthdhkoeaadahaaaSESt
import Derived.RegionCalls
namespace Go.Proofs.Ythdhkoeaadahaaa.P
open Go.RowKit Go.Proofs.YthdhkoeaadahaaaW.PrintWords Go.Proofs.YthdhkoeaadahaaaW.PrintLast Go.Proofs.YthdhkoeaadahaaaW.PrintMore
attribute [local go_sem] Oper.semAt_some
set_option linter.unusedVariables false
set_option linter.unusedSimpArgs false
def clone5.T : Bool × List (List Nat × List Nat) := (true, [([], []), ([0], [0]), ([], []), ([], []), ([3], [3]), ([], []), ([4, 5], [4, 5]), ([6], [6]), ([7], [7]), ([8], [8]), ([1, 2, 0, 1, 2, 3, 4, 5, 6, 7, 8, 9], [1, 2]), ([10, 0, 1, 2, 3, 4, 5, 6, 7, 8, 9], [10]), ([11, 9, 9, 0, 1, 2, 3, 4, 5, 6, 7, 8, 9], [9, 11])])
def clone5.B : List Nat := [0, 1, 0, 0, 8, 0, 56, 120, 248, 504, 1023, 2047, 4095]
theorem clone5.tab : rtab .any (opsOf Try.f94 5) = clone5.T := by kernel_rfl
theorem clone5.bits : waitsOk clone5.T.2 clone5.B = true := by kernel_rfl
def smallQ (l : List S99) (o : List S74) : Prop := l.length ≤ 1000 ∧ o.length ≤ 100000 ∧ ∀ x ∈ l, x.f2.length ≤ 100000
instance (l : List S99) (o : List S74) : Decidable (smallQ l o) := by unfold smallQ; exact inferInstance
def queue_clone.f (l : List S99) (o : List S74) (a b : Int) : Option (List S99 × List S74 × Int × Int) := if smallQ l o then some (l, o, a, b) else none
theorem rows_of {w : World} {A : Option Addr} {n : Nat} {xs : List S99} (h : Kd.C k99 w A n xs) : ∃ rows : List (List Value), rows.length = n ∧ Kd.C (Kd.raw 3) w A n rows ∧ ∀ (j : Nat) x c, xs[j]? = some x → rows[j]? = some c → k99.K w x c := by
 obtain ⟨hl, hm, hn⟩ := h
 rcases Nat.eq_zero_or_pos n with h0 | h0
 ·subst h0
  exact ⟨[], rfl, ⟨rfl, hm, fun h => absurd h (by omega)⟩, fun j x c _ hc => by simp at hc⟩
 ·obtain ⟨ad, rfl, hc⟩ := hn h0
  have key : ∀ j : Fin n, ∃ c : List Value, c.length = 3 ∧ k99.K w (xs[j.1]'(by have := j.2; omega)) c ∧ ∀ i u, c[i]? = some u → w.cell? (ad.add (j.1 * 3 + i)) = some u := fun j => hc j.1 _ (List.getElem?_eq_getElem (by have := j.2; omega))
  refine ⟨List.ofFn (fun j => Classical.choose (key j)), List.length_ofFn, ⟨List.length_ofFn, hm, fun _ => ⟨ad, rfl, fun j p hj => ?_⟩⟩, fun j x c hx hc' => ?_⟩
  ·obtain ⟨hjl, hjp⟩ := List.getElem?_eq_some_iff.1 hj
   rw [List.length_ofFn] at hjl
   rw [List.getElem_ofFn] at hjp
   obtain ⟨h1, h2, h3⟩ := Classical.choose_spec (key ⟨j, hjl⟩)
   rw [hjp] at h1 h2 h3
   exact ⟨p, h1, ⟨rfl, h1, k99.K_one h2⟩, h3⟩
  ·obtain ⟨hjl, hjp⟩ := List.getElem?_eq_some_iff.1 hc'
   rw [List.length_ofFn] at hjl
   rw [List.getElem_ofFn] at hjp
   obtain ⟨h1, h2, h3⟩ := Classical.choose_spec (key ⟨j, hjl⟩)
   rw [hjp] at h2
   obtain ⟨_, hx2⟩ := List.getElem?_eq_some_iff.1 hx
   rw [hx2] at h2
   exact h2
theorem S_of_raw {W : World} {base : Nat} {ok : Nat → Prop} {v : Value} {rows : List (List Value)} {xs : List S99} {okr : Nat → Prop} (f : Nat → Nat) (hl : rows.length = xs.length) (hR : Kd.R (Kd.raw 3) 99 W base okr v rows) (hok : ∀ k, v.ownBlock = some k → ok k)
  (hM : ∀ (j : Nat) x c, xs[j]? = some x → rows[j]? = some c → k99.M W base (fun k => (ok k ∧ some k ≠ v.ownBlock) ∧ f k = j) x c) : Kd.S k99 99 W base ok v xs := by
 obtain ⟨_, inner, hown, hr⟩ := hR
 refine ⟨f, hok, inner, ?_, ?_, fun j p hj => ?_⟩
 ·rw [List.length_zipIdx, ← hl]; exact hown
 ·rw [List.length_zipIdx, ← hl]; exact hr.1
 ·rw [List.getElem?_zipIdx] at hj
  cases hx : xs[j]? with
  | none => rw [hx] at hj; cases hj
  | some x =>
   rw [hx] at hj
   obtain rfl : (x, 0 + j) = p := Option.some.inj hj
   have hjl : j < rows.length := by have := (List.getElem?_eq_some_iff.1 hx).1; omega
   have hc : rows[j]? = some rows[j] := List.getElem?_eq_getElem hjl
   have h1 := hr.2 j _ hc
   have e : (inner.drop (j * 3)).take 3 = rows[j] := h1.1
   show k99.M W base _ x ((inner.drop (j * 3)).take 3)
   rw [e, Nat.zero_add]
   exact hM j x _ hx hc
def CloneAt (w W : World) (g n c : Nat) (v6 : Value) (l : List S99) (i : Nat) : Prop :=
 ∃ (rows : List (List Value)) (f : Nat → Nat), rows.length = n ∧ Kd.R (Kd.raw 3) 99 W (w.heap.size + 2) (fun k => k = g) (.slice (some ⟨g, 0, none⟩) n c) rows ∧
  (∀ (j : Nat) x c, l[j]? = some x → rows[j]? = some c → j < i → k99.M W (w.heap.size + 2) (fun k => (some k ≠ v6.ownBlock ∧ k ≠ g) ∧ f k = j) x c) ∧ (∀ (j : Nat) x c, l[j]? = some x → rows[j]? = some c → i ≤ j → k99.K w x c)
theorem CloneAt.drew {w W : World} {g n c : Nat} {v6 : Value} {l : List S99} {i : Nat} (h : CloneAt w W g n c v6 l i) : CloneAt w W.drew g n c v6 l i := by
 obtain ⟨rows, f, h1, h2, h3, h4⟩ := h
 exact ⟨rows, f, h1, Kd.R_drew h2, fun j x c hx hc hj => Kd.M_below (h3 j x c hx hc hj) (below_drew1 (Below.refl _ _)), h4⟩
theorem one3 (a b c : Value) (ha : a.oneCell' = true) (hb : b.oneCell' = true) (hc : c.oneCell' = true) : ∀ u ∈ [a, b, c], u.oneCell' = true := by
 intro u hu
 simp only [List.mem_cons, List.not_mem_nil, or_false] at hu
 rcases hu with rfl | rfl | rfl
 ·exact ha
 ·exact hb
 ·exact hc
theorem far1 {N k : Nat} (h : N + 2 ≤ k) : k ≠ N + 1 := by omega
theorem far2 {N k : Nat} (h : N + 2 ≤ k) : k ≠ N := by omega
theorem size25 : (Try.prog.info? 25).map (·.size) = some 1 := by kernel_rfl
theorem CloneAt.cell {w W : World} {g n c : Nat} {ad : Addr} {v6 : Value} {l : List S99} {i : Nat} {z : Int} {x : S99} (h : CloneAt w W g n c v6 l i) (had : (⟨g, 0, none⟩ : Addr) = ad) (hz : z = (i : Int)) (hlt : i < n) (hx : l[i]? = some x) (hB : Below w.heap.size w W) :
  ∃ A cc, W.cell? ⟨(ad.add (z.toNat * 3)).block, (ad.add (z.toNat * 3)).off + 2, none⟩ = some (.slice A x.f2.length cc) ∧ x.f2.length ≤ cc ∧ k74.C w A x.f2.length x.f2 := by
 obtain ⟨rows, f, h1, h2, h3, h4⟩ := h
 have hil : i < rows.length := by omega
 have hK := h4 i x rows[i] hx (List.getElem?_eq_getElem hil) (Nat.le_refl _)
 obtain ⟨A, cc, e, hl, hC⟩ := k99_open hK
 have hrr := Kd.R_reads' h2
 obtain ⟨ad', c', e', _, hK', hc⟩ := Kd.C_get hrr.2.2 [] (i : Int) (by omega) (by omega)
 injection e' with e'
 subst e'
 subst had
 subst hz
 rw [Int.toNat_natCast, List.getD_eq_getElem?_getD, List.getElem?_eq_getElem hil, Option.getD_some] at hK'
 have ec : c' = rows[i] := hK'.1
 have := hc 2 (.slice A x.f2.length cc) (by rw [ec, e]; rfl)
 rw [Int.toNat_natCast, add_plain] at this
 refine ⟨A, cc, ?_, hl, hC⟩
 rw [Int.toNat_natCast, add_plain]
 exact this
theorem A0qcl_ {p : Prop} (h : p) : Aside0 p := ⟨h⟩
theorem z1qcl_ {α : Type} (l : List α) (i : Nat) (a : α) : l.toArray.setIfInBounds i a = (l.set i a).toArray := List.setIfInBounds_toArray l i a
theorem z2qcl_ {α : Type} {x : α} {xs : List α} {a : α} : (x :: xs).set 0 a = a :: xs := List.set_cons_zero
theorem z3qcl_ {α : Type} {x : α} {xs : List α} {n : Nat} {a : α} : (x :: xs).set (n + 1) a = x :: xs.set n a := List.set_cons_succ
abbrev mk0qcl_ : Array Bool := #[false, false, false, false, false, false, false, false, false, false, false, false, false]
abbrev mk1qcl_ : Array Bool := #[true, false, false, false, false, false, false, false, false, false, false, false, false]
abbrev mk2qcl_ : Array Bool := #[true, false, true, false, false, false, false, false, false, false, false, false, false]
abbrev mk3qcl_ : Array Bool := #[true, false, true, true, false, false, false, false, false, false, false, false, false]
abbrev mk4qcl_ : Array Bool := #[true, false, true, true, false, true, false, false, false, false, false, false, false]
abbrev mk5qcl_ : Array Bool := #[true, true, true, true, false, true, false, false, false, false, false, false, false]
abbrev mk6qcl_ : Array Bool := #[true, true, true, true, true, true, false, false, false, false, false, false, false]
abbrev mk7qcl_ : Array Bool := #[true, true, true, true, true, true, true, false, false, false, false, false, false]
abbrev mk8qcl_ : Array Bool := #[true, true, true, true, true, true, true, true, false, false, false, false, false]
abbrev mk9qcl_ : Array Bool := #[true, true, true, true, true, true, true, true, true, false, false, false, false]
abbrev mk10qcl_ : Array Bool := #[true, true, true, true, true, true, true, true, true, true, false, false, false]
abbrev mk11qcl_ : Array Bool := #[true, true, true, true, true, true, true, true, true, true, true, false, false]
abbrev mk12qcl_ : Array Bool := #[true, true, true, true, true, true, true, true, true, true, true, true, false]
abbrev mk13qcl_ : Array Bool := #[true, true, true, true, true, true, true, true, true, true, true, true, true]
set_option maxRecDepth 100000 in
theorem CloneAt.step {w W W2 : World} {g n c : Nat} {ad : Addr} {v6 vv : Value} {l : List S99} {i : Nat} {z : Int} {x : S99} {o : List S74} (h : CloneAt w W g n c v6 l i) (had : (⟨g, 0, none⟩ : Addr) = ad) (hz : z = (i : Int)) (hlt : i < n) (hx : l[i]? = some x)
  (hv : Kd.R k74 74 W2 W.heap.size (fun _ => True) vv x.f2) (hb : Below W.heap.size W W2) (h6 : Kd.R k74 74 W (w.heap.size + 2) (fun k => k ≠ g) v6 o) (hB : Below w.heap.size w W2) :
  ∃ W3, (Instr.storeAt 25 (.pointer (some ⟨(ad.add (z.toNat * 3)).block, (ad.add (z.toNat * 3)).off + 2, none⟩)) vv).run Try.prog W2 = .ok () W3 ∧ CloneAt w W3 g n c v6 l (i + 1) ∧ Kd.R k74 74 W3 (w.heap.size + 2) (fun k => k ≠ g) v6 o ∧ (∀ (gb : Nat) (cs : Array Value), W.heap[gb]? = some (.cells cs 27 (0, 0)) → W3.heap[gb]? = some (.cells cs 27 (0, 0))) ∧ Below w.heap.size w W3 := by
 obtain ⟨rows, f, h1, h2, h3, h4⟩ := h
 subst had
 subst hz
 rw [Int.toNat_natCast, add_plain]
 have hil : i < rows.length := by omega
 have hK := h4 i x rows[i] hx (List.getElem?_eq_getElem hil) (Nat.le_refl _)
 obtain ⟨A, cc, e, hl, hC⟩ := k99_open hK
 have h2b := Kd.R_below h2 hb
 have hrr := Kd.R_reads' h2b
 obtain ⟨ad', c', e', hcl, hK', hc⟩ := Kd.C_get hrr.2.2 [] (i : Int) (by omega) (by omega)
 injection e' with e'
 subst e'
 rw [Int.toNat_natCast, List.getD_eq_getElem?_getD, List.getElem?_eq_getElem hil, Option.getD_some] at hK'
 have ec : c' = rows[i] := hK'.1
 rw [ec, e] at hc
 obtain ⟨Av, cv, rfl⟩ := Kd.R_slice hv
 have hg2 : g < W.heap.size := Kd.R_lt h2 g (by simp [Value.ownBlock])
 have hgb : w.heap.size + 2 ≤ g := Kd.R_base h2 g (by simp [Value.ownBlock])
 obtain ⟨hrow, hg⟩ := Kd.R_seg (j := 2) (seg := [.slice Av x.f2.length cv]) (c := [.int .i64 x.f0, .int .i64 x.f1, .slice A x.f2.length cc]) (x' := [.int .i64 x.f0, .int .i64 x.f1, .slice Av x.f2.length cv]) (okp := fun _ => False) h2b (i : Int) (by omega) (by omega) rfl (fun j u hu => by have := hc j u hu; rw [add_plain] at this; exact this) (show (3 : Nat) ≤ 3 from Nat.le_refl 3) ⟨rfl, rfl, one3 _ _ _ (by rfl) (by rfl) (by rfl)⟩ (fun _ h => h.elim)
 rw [Int.toNat_natCast, show (Kd.raw 3).sz = 3 from rfl] at hrow hg
 have hbw : w.heap.size ≤ W2.heap.size := hB.size
 have hB3 : Below w.heap.size w (W2.setCells g (i * 3 + 2) [.slice Av x.f2.length cv]) := hB.trans ⟨hg.os, hg.tape, hg.output, hg.size, fun k hk => by
  rcases Nat.lt_or_ge k W2.heap.size with hlt | hge
  ·exact hg.block k hlt (fun he => by injection he with he; omega)
  ·exact setCells_far _ _ k (by omega)⟩
 refine ⟨_, ?_, ⟨rows.set i [.int .i64 x.f0, .int .i64 x.f1, .slice Av x.f2.length cv], fun k => if some k = (Value.slice Av x.f2.length cv).ownBlock then i else f k, by rw [List.length_set]; exact h1, hrow, fun j y d hy hd hj => ?_, fun j y d hy hd hj => ?_⟩, ?_, ?_, hB3⟩
 ·obtain ⟨_, inner, hown, hr⟩ := h2b
  rcases hown.2 with ⟨hv', _⟩ | ⟨g', cap', cur, hv', hb', hh, hnc, hcm, hcs, _⟩
  ·cases hv'
  injection hv' with ha _ hc'
  injection ha with ha
  injection ha with hg'
  subst hg'; subst hc'
  have hsz : i * 3 + 2 + [Value.slice Av x.f2.length cv].length ≤ cur.size := by
   have h4 : cur.size = c * 3 := hcs
   have h5 : rows.length ≤ c := hnc
   have h6 : i * 3 + 3 ≤ rows.length * 3 := by omega
   have h7 : rows.length * 3 ≤ c * 3 := Nat.mul_le_mul_right _ h5
   show i * 3 + 2 + 1 ≤ cur.size
   omega
  exact run_store_run 25 _ _ hh (show (Value.slice Av x.f2.length cv).cells.toList = [Value.slice Av x.f2.length cv] from rfl) size25 hsz (fun q hq => by rw [List.mem_singleton.1 hq]; rfl)
 ·by_cases hji : j = i
  ·subst hji
   rw [hx] at hy
   obtain rfl := Option.some.inj hy
   rw [List.getElem?_set_self hil] at hd
   obtain rfl := Option.some.inj hd
   refine k99_mkM _ _ _ x (Kd.R_lower (Kd.R_mono (Kd.R_grown (Kd.R_tight rfl hv) hg (fun k hk he => ?_)) (fun k hk => ?_)) (show w.heap.size + 2 ≤ W.heap.size by omega))
   ·injection he with he
    have := Kd.R_base hv k hk.symm
    omega
   ·have hkb := Kd.R_base hv k hk.symm
    refine ⟨⟨fun h9 => ?_, fun h9 => by omega⟩, if_pos hk⟩
    have := Kd.R_lt h6 k h9.symm
    omega
  ·rw [List.getElem?_set_ne (fun h => hji h.symm)] at hd
   have hm := k99.M_bound (h3 j y d hy hd (by omega))
   have hm2 := Kd.M_grown (Kd.M_below hm hb) hg (fun k hk he => by injection he with he; exact hk.1.1.2 he)
   refine k99.M_mono (fun k hk => ⟨hk.1.1, ?_⟩) hm2
   show (if some k = (Value.slice Av x.f2.length cv).ownBlock then i else f k) = j
   rw [if_neg (fun h9 => ?_)]
   ·exact hk.1.2
   ·have := Kd.R_base hv k h9.symm
    have := hk.2.2.1
    omega
 ·rw [List.getElem?_set_ne (by omega)] at hd
  exact h4 j y d hy hd (by omega)
 ·exact Kd.R_grown (Kd.R_below h6 hb) hg (fun k hk he => by injection he with he; exact hk he)
 ·intro gb cs hbk
  have hne : gb ≠ g := fun he => by
   subst he
   obtain ⟨cells, hcell⟩ := Kd.R_typed h2 gb (by simp [Value.ownBlock])
   rw [hcell] at hbk
   injection hbk with hbk
   injection hbk with _ hbk
   cases hbk
  have hlt9 : gb < W.heap.size := blk_lt hbk
  rw [hg.block gb (by have := hb.size; omega) (fun he => by injection he with he; exact hne he), hb.block gb hlt9]
  exact hbk
theorem CloneAt.done {w W : World} {g n c : Nat} {v6 : Value} {l : List S99} (hl : l.length = n) (h : CloneAt w W g n c v6 l n) (hne : ∀ k, v6.ownBlock = some k → k ≠ g) : Kd.S k99 99 W (w.heap.size + 2) (fun k_ => some k_ ≠ v6.ownBlock) (.slice (some ⟨g, 0, none⟩) n c) l := by
 obtain ⟨rows, f, h1, h2, h3, h4⟩ := h
 refine S_of_raw f (by omega) h2 (fun k hk he => ?_) (fun j x c hx hc => ?_)
 ·have : g = k := by simpa [Value.ownBlock] using hk
  subst this
  exact hne _ he.symm rfl
 ·have hj : j < n := by have := (List.getElem?_eq_some_iff.1 hx).1; omega
  refine k99.M_mono (fun k hk => ⟨⟨hk.1.1, fun he => ?_⟩, hk.2⟩) (h3 j x c hx hc hj)
  have : k = g := by simpa [Value.ownBlock] using he
  exact hk.1.2 this
set_option maxRecDepth 100000 in
set_option maxHeartbeats 8000000 in
theorem clone_gen (A0 A1 : Option Addr) (c0 c1 n : Nat) (a b : Int) (l : List S99) (o : List S74) (w : World) (hl : l.length = n) (hC : Kd.C k99 w A0 n l) (hc0 : n ≤ c0) (hO : Kd.C k74 w A1 o.length o) (hc1 : o.length ≤ c1) (hq : smallQ l o) :
  Calls Try.prog 94 #[.agg #[.slice A0 n c0, .slice A1 o.length c1, .int .i64 a, .int .i64 b]] w fun e w' => ∃ v0 v1 : Value, e = .returned (.agg #[v0, v1, .int .i64 a, .int .i64 b]) ∧ Kd.S k99 99 w' w.heap.size (fun k_ => some k_ ≠ (v1 : Value).ownBlock) v0 l ∧ Kd.R k74 74 w' w.heap.size (fun _ => True) v1 o ∧ Below w.heap.size w w' := by
 have hu27 := Try.underlying27
 have hu99 := Try.underlying99
 obtain ⟨rows, hrl, hrC, hrK⟩ := rows_of hC
 have HRL := A0qcl_ hrl
 have HRK := A0qcl_ hrK
 have HL := A0qcl_ hl
 have HSM := A0qcl_ hq
 have HSETS := A0qcl_ (show ∀ W : World, Below w.heap.size w W → W.heap.size = w.heap.size + 2 → Calls Try.prog 123 #[.slice A0 n c0] W fun e w' => ∃ v : Value, e = .returned v ∧ Kd.R (Kd.raw 3) 99 w' (w.heap.size + 2) (fun _ => True) v rows ∧ Below W.heap.size W w' from fun W hB hz => by
  have h := queue_sets_raw.calls A0 c0 rows rows W (by rw [hrl]; exact Kd.C_below hrC hB) (by rw [hrl]; exact hc0) (by unfold queue_sets_raw.f; rw [if_pos (by have := hq.1; omega)])
  rw [hrl, hz] at h
  rw [hz]
  exact h)
 have HOPEN := A0qcl_ (show ∀ W : World, Below w.heap.size w W → Calls Try.prog 99 #[.slice A1 o.length c1] W fun e w' => ∃ v : Value, e = .returned v ∧ Kd.R k74 74 w' W.heap.size (fun _ => True) v o ∧ Below W.heap.size W w' from fun W hB =>
  api_Write_99.calls A1 c1 o o W (Kd.C_below hO hB) hc1 (by unfold api_Write_99.f; rw [if_pos (by have := hq.2.1; omega)]))
 clear hrl hrK hC hO hrC hl hq
 go_enter Try.func94, Try.ntmps94
 go_upto_region 1 with (fail)
 go_cut [] (fun wc => ∃ (A5 : Option Addr) (c5 : Nat) (A6 : Option Addr) (c6 : Nat), Aside0 (Kd.R (Kd.raw 3) 99 wc (w.heap.size + 2) (fun k => w.heap.size + 2 ≤ k) (.slice A5 n c5) rows) ∧ Aside0 (Kd.R k74 74 wc (w.heap.size + 2) (fun k => w.heap.size + 2 ≤ k) (.slice A6 o.length c6) o) ∧ Aside0 (∀ k, (Value.slice A6 o.length c6).ownBlock = some k → (Value.slice A5 n c5).ownBlock ≠ some k) ∧ Aside0 (wc.heap[w.heap.size]? = some (.cells #[.slice A5 n c5, .slice A6 o.length c6, .int .i64 a, .int .i64 b] 27 (0, 0))) ∧ Aside0 (wc.heap[w.heap.size + 1]? = some (.cells #[.slice none 0 0, .slice none 0 0, .int .i64 0, .int .i64 0] 27 (0, 0))) ∧ Aside0 (Below w.heap.size w wc))
 case first =>
  as_aux_lemma =>
  refine wp_region_any (by kernel_rfl) ?_
  try (change wpAny _ _ _ _ _ _ _ (World.drew _))
  generalize hWe : ((w.alloc (.cells #[.slice A0 n c0, .slice A1 o.length c1, .int .i64 a, .int .i64 b] 27)).alloc (.cells #[.slice none 0 0, .slice none 0 0, .int .i64 0, .int .i64 0] 27)).drew = W
  have hs1 : (w.alloc (.cells #[.slice A0 n c0, .slice A1 o.length c1, .int .i64 a, .int .i64 b] 27)).heap.size = w.heap.size + 1 := by simp
  have BK1 := A0qcl_ (show W.heap[w.heap.size]? = some (.cells #[.slice A0 n c0, .slice A1 o.length c1, .int .i64 a, .int .i64 b] 27 (0, 0)) by rw [← hWe]; exact blk_drew (blk_alloc (blk_new w _) _))
  have BK2 := A0qcl_ (show W.heap[w.heap.size + 1]? = some (.cells #[.slice none 0 0, .slice none 0 0, .int .i64 0, .int .i64 0] 27 (0, 0)) by rw [← hWe, ← hs1]; exact blk_drew (blk_new _ _))
  have HB := A0qcl_ (show Below w.heap.size w W by rw [← hWe]; exact below_drew1 (below_alloc (below_alloc (Below.refl _ _) _) _))
  have hzW : W.heap.size = w.heap.size + 2 := by rw [← hWe]; simp
  clear hWe hs1
  have x0 : W.cell? ⟨w.heap.size, 0, none⟩ = some (.slice A0 n c0) := (blk_cell BK1.out 0).trans rfl
  have x1 : W.cell? ⟨w.heap.size, 1, none⟩ = some (.slice A1 o.length c1) := (blk_cell BK1.out 1).trans rfl
  refine wpAny_take (i:=0) (v := ?_) rfl (by kernel_rfl) (by kernel_rfl) (by kernel_rfl) (fun _ _ _ h => h) (Or.inl ⟨by rfl, ?_⟩) ?_; rotate_left; focus (intro w; go_simp; try (with_reducible rfl))
  refine wpAny_take (i:=3) (v := ?_) rfl (by kernel_rfl) (by kernel_rfl) (by kernel_rfl) (fun _ _ _ h => h) (Or.inl ⟨by rfl, ?_⟩) ?_; rotate_left; focus (intro w; go_simp; try (with_reducible rfl))
  refine wpAny_ready (rs := [1, 4]) (by kernel_rfl) (by simp) ?_
  refine AllReady.cons rfl (fun K hK => ?_) (AllReady.cons rfl (fun K hK => ?_) AllReady.nil)
  ·go_simp
   refine hK _ _ ?_
   clear hK K
   refine wpAny_ready (rs := [2, 4]) (by kernel_rfl) (by simp) ?_
   refine AllReady.cons rfl (fun K hK => ?_) (AllReady.cons rfl (fun K hK => ?_) AllReady.nil)
   ·go_simp
    refine (HSETS.out W HB.out hzW).mono ?_
    rintro e W5 ⟨v5, rfl, hs5, hb5⟩
    obtain ⟨A5, c5, e5⟩ := Kd.R_slice hs5
    rw [HRL.out] at e5
    subst e5
    have BK1b := A0qcl_ (blk_below BK1.out hb5)
    have BK2b := A0qcl_ (blk_below BK2.out hb5)
    have HB5 := A0qcl_ (HB.out.trans (hb5.mono HB.out.size))
    have hz5 : w.heap.size + 2 ≤ W5.heap.size := by have := hb5.size; omega
    have HS5 := A0qcl_ hs5
    clear hs5 hb5
    have y0 : W5.cell? ⟨w.heap.size, 0, none⟩ = some (.slice A0 n c0) := (blk_cell BK1b.out 0).trans rfl
    have y1 : W5.cell? ⟨w.heap.size, 1, none⟩ = some (.slice A1 o.length c1) := (blk_cell BK1b.out 1).trans rfl
    refine hK _ _ ?_
    clear hK K
    refine wpAny_ready (rs := [4]) (by kernel_rfl) (by simp) ?_
    refine AllReady.cons rfl (fun K hK => ?_) AllReady.nil
    go_simp
    refine hK _ _ ?_
    clear hK K
    refine wpAny_take (i:=6) (v := ?_) rfl (by kernel_rfl) (by kernel_rfl) (by kernel_rfl) (fun _ _ _ h => h) (Or.inl ⟨by rfl, ?_⟩) ?_; rotate_left; focus (intro w; go_simp; try (with_reducible rfl))
    refine wpAny_ready (rs := [5]) (by kernel_rfl) (by simp) ?_
    refine AllReady.cons rfl (fun K hK => ?_) AllReady.nil
    go_simp
    refine (HOPEN.out W5 HB5.out).mono ?_
    rintro e W6 ⟨v6, rfl, hr6, hb6⟩
    obtain ⟨A6, c6, e6⟩ := Kd.R_slice hr6
    subst e6
    have BK1c := A0qcl_ (blk_below BK1b.out hb6)
    have BK2c := A0qcl_ (blk_below BK2b.out hb6)
    have HB6 := A0qcl_ (HB5.out.trans (hb6.mono HB5.out.size))
    have HS6 := A0qcl_ (Kd.R_below HS5.out hb6)
    have N56 := A0qcl_ (show ∀ k, (Value.slice A6 o.length c6).ownBlock = some k → (Value.slice A5 n c5).ownBlock ≠ some k from fun k hk he => by have h1 := Kd.R_base hr6 k hk; have h2 := Kd.R_lt HS5.out k he; omega)
    have HR6 := A0qcl_ (Kd.R_lower hr6 hz5)
    clear hr6 hb6 y0 y1
    have y0 : W6.cell? ⟨w.heap.size, 0, none⟩ = some (.slice A0 n c0) := (blk_cell BK1c.out 0).trans rfl
    have y1 : W6.cell? ⟨w.heap.size, 1, none⟩ = some (.slice A1 o.length c1) := (blk_cell BK1c.out 1).trans rfl
    have f0 := blk_frozen BK1c.out 0
    have f1 := blk_frozen BK1c.out 1
    refine hK _ _ ?_
    clear hK K
    refine wpAny_ready (rs := [7]) (by kernel_rfl) (by simp) ?_
    refine AllReady.cons rfl (fun K hK => ?_) AllReady.nil
    go_simp
    refine hK _ _ ?_
    clear hK K
    refine wpAny_take (i:=8) (v := ?_) rfl (by kernel_rfl) (by kernel_rfl) (by kernel_rfl) (fun _ _ _ h => h) (Or.inl ⟨by rfl, ?_⟩) ?_; rotate_left; focus (intro w; go_simp; try (with_reducible rfl))
    refine wpAny_ready (rs := [9]) (by kernel_rfl) (by simp) ?_
    refine AllReady.cons rfl (fun K hK => ?_) AllReady.nil
    go_simp
    refine hK _ _ ?_
    clear hK K
    refine wpAny_done (by kernel_rfl) ?_ _
    clear x0 x1 y0 y1 f0 f1
    have bk7 : ((W6.setCell ⟨w.heap.size, 0, none⟩ (.slice A5 n c5)).setCell ⟨w.heap.size, 1, none⟩ (.slice A6 o.length c6)).heap[w.heap.size]? = some (.cells #[.slice A5 n c5, .slice A6 o.length c6, .int .i64 a, .int .i64 b] 27 (0, 0)) := blk_put (blk_put BK1c.out 0 (.slice A5 n c5) rfl) 1 (.slice A6 o.length c6) rfl
    have bk8 : ((W6.setCell ⟨w.heap.size, 0, none⟩ (.slice A5 n c5)).setCell ⟨w.heap.size, 1, none⟩ (.slice A6 o.length c6)).heap[w.heap.size + 1]? = some (.cells #[.slice none 0 0, .slice none 0 0, .int .i64 0, .int .i64 0] 27 (0, 0)) := (Below.heap_setCell _ _ _ _ (Nat.succ_ne_self _)).trans ((Below.heap_setCell _ _ _ _ (Nat.succ_ne_self _)).trans BK2c.out)
    have hs7 := Kd.R_far (p := ⟨w.heap.size, 1, none⟩) (Kd.R_far (p := ⟨w.heap.size, 0, none⟩) (Kd.R_mono (Kd.R_bound HS6.out) (ok' := fun k => w.heap.size + 2 ≤ k) (fun k hk => hk.2.1)) (fun k hk => far2 hk) (.slice A5 n c5)) (fun k hk => far2 hk) (.slice A6 o.length c6)
    have hr7 := Kd.R_far (p := ⟨w.heap.size, 1, none⟩) (Kd.R_far (p := ⟨w.heap.size, 0, none⟩) (Kd.R_mono (Kd.R_bound HR6.out) (ok' := fun k => w.heap.size + 2 ≤ k) (fun k hk => hk.2.1)) (fun k hk => far2 hk) (.slice A5 n c5)) (fun k hk => far2 hk) (.slice A6 o.length c6)
    have hb7 : Below w.heap.size w ((W6.setCell ⟨w.heap.size, 0, none⟩ (.slice A5 n c5)).setCell ⟨w.heap.size, 1, none⟩ (.slice A6 o.length c6)) := (HB6.out.setCell (Nat.le_refl _) _).setCell (Nat.le_refl _) _
    clear HS6 HR6 HB6 BK1c BK2c
    generalize ((W6.setCell ⟨w.heap.size, 0, none⟩ (.slice A5 n c5)).setCell ⟨w.heap.size, 1, none⟩ (.slice A6 o.length c6)) = W7 at bk7 bk8 hs7 hr7 hb7 ⊢
    have BK7 := A0qcl_ bk7
    have BK8 := A0qcl_ bk8
    have HS7 := A0qcl_ hs7
    have HR7 := A0qcl_ hr7
    have HB7 := A0qcl_ hb7
    clear bk7 bk8 hs7 hr7 hb7
    go_wp2
    go_meet
    case rel => exact ⟨A5, c5, A6, c6, HS7, HR7, N56, BK7, BK8, HB7⟩
   ·go_simp
    refine hK _ _ ?_
    clear hK K
    refine wpAny_ready (rs := [2]) (by kernel_rfl) (by simp) ?_
    refine AllReady.cons rfl (fun K hK => ?_) AllReady.nil
    go_simp
    refine (HSETS.out W HB.out hzW).mono ?_
    rintro e W5 ⟨v5, rfl, hs5, hb5⟩
    obtain ⟨A5, c5, e5⟩ := Kd.R_slice hs5
    rw [HRL.out] at e5
    subst e5
    have BK1b := A0qcl_ (blk_below BK1.out hb5)
    have BK2b := A0qcl_ (blk_below BK2.out hb5)
    have HB5 := A0qcl_ (HB.out.trans (hb5.mono HB.out.size))
    have hz5 : w.heap.size + 2 ≤ W5.heap.size := by have := hb5.size; omega
    have HS5 := A0qcl_ hs5
    clear hs5 hb5
    have y0 : W5.cell? ⟨w.heap.size, 0, none⟩ = some (.slice A0 n c0) := (blk_cell BK1b.out 0).trans rfl
    have y1 : W5.cell? ⟨w.heap.size, 1, none⟩ = some (.slice A1 o.length c1) := (blk_cell BK1b.out 1).trans rfl
    refine hK _ _ ?_
    clear hK K
    refine wpAny_take (i:=6) (v := ?_) rfl (by kernel_rfl) (by kernel_rfl) (by kernel_rfl) (fun _ _ _ h => h) (Or.inl ⟨by rfl, ?_⟩) ?_; rotate_left; focus (intro w; go_simp; try (with_reducible rfl))
    refine wpAny_ready (rs := [5]) (by kernel_rfl) (by simp) ?_
    refine AllReady.cons rfl (fun K hK => ?_) AllReady.nil
    go_simp
    refine (HOPEN.out W5 HB5.out).mono ?_
    rintro e W6 ⟨v6, rfl, hr6, hb6⟩
    obtain ⟨A6, c6, e6⟩ := Kd.R_slice hr6
    subst e6
    have BK1c := A0qcl_ (blk_below BK1b.out hb6)
    have BK2c := A0qcl_ (blk_below BK2b.out hb6)
    have HB6 := A0qcl_ (HB5.out.trans (hb6.mono HB5.out.size))
    have HS6 := A0qcl_ (Kd.R_below HS5.out hb6)
    have N56 := A0qcl_ (show ∀ k, (Value.slice A6 o.length c6).ownBlock = some k → (Value.slice A5 n c5).ownBlock ≠ some k from fun k hk he => by have h1 := Kd.R_base hr6 k hk; have h2 := Kd.R_lt HS5.out k he; omega)
    have HR6 := A0qcl_ (Kd.R_lower hr6 hz5)
    clear hr6 hb6 y0 y1
    have y0 : W6.cell? ⟨w.heap.size, 0, none⟩ = some (.slice A0 n c0) := (blk_cell BK1c.out 0).trans rfl
    have y1 : W6.cell? ⟨w.heap.size, 1, none⟩ = some (.slice A1 o.length c1) := (blk_cell BK1c.out 1).trans rfl
    have f0 := blk_frozen BK1c.out 0
    have f1 := blk_frozen BK1c.out 1
    refine hK _ _ ?_
    clear hK K
    refine wpAny_ready (rs := [7]) (by kernel_rfl) (by simp) ?_
    refine AllReady.cons rfl (fun K hK => ?_) AllReady.nil
    go_simp
    refine hK _ _ ?_
    clear hK K
    refine wpAny_take (i:=8) (v := ?_) rfl (by kernel_rfl) (by kernel_rfl) (by kernel_rfl) (fun _ _ _ h => h) (Or.inl ⟨by rfl, ?_⟩) ?_; rotate_left; focus (intro w; go_simp; try (with_reducible rfl))
    refine wpAny_ready (rs := [9]) (by kernel_rfl) (by simp) ?_
    refine AllReady.cons rfl (fun K hK => ?_) AllReady.nil
    go_simp
    refine hK _ _ ?_
    clear hK K
    refine wpAny_done (by kernel_rfl) ?_ _
    clear x0 x1 y0 y1 f0 f1
    have bk7 : ((W6.setCell ⟨w.heap.size, 0, none⟩ (.slice A5 n c5)).setCell ⟨w.heap.size, 1, none⟩ (.slice A6 o.length c6)).heap[w.heap.size]? = some (.cells #[.slice A5 n c5, .slice A6 o.length c6, .int .i64 a, .int .i64 b] 27 (0, 0)) := blk_put (blk_put BK1c.out 0 (.slice A5 n c5) rfl) 1 (.slice A6 o.length c6) rfl
    have bk8 : ((W6.setCell ⟨w.heap.size, 0, none⟩ (.slice A5 n c5)).setCell ⟨w.heap.size, 1, none⟩ (.slice A6 o.length c6)).heap[w.heap.size + 1]? = some (.cells #[.slice none 0 0, .slice none 0 0, .int .i64 0, .int .i64 0] 27 (0, 0)) := (Below.heap_setCell _ _ _ _ (Nat.succ_ne_self _)).trans ((Below.heap_setCell _ _ _ _ (Nat.succ_ne_self _)).trans BK2c.out)
    have hs7 := Kd.R_far (p := ⟨w.heap.size, 1, none⟩) (Kd.R_far (p := ⟨w.heap.size, 0, none⟩) (Kd.R_mono (Kd.R_bound HS6.out) (ok' := fun k => w.heap.size + 2 ≤ k) (fun k hk => hk.2.1)) (fun k hk => far2 hk) (.slice A5 n c5)) (fun k hk => far2 hk) (.slice A6 o.length c6)
    have hr7 := Kd.R_far (p := ⟨w.heap.size, 1, none⟩) (Kd.R_far (p := ⟨w.heap.size, 0, none⟩) (Kd.R_mono (Kd.R_bound HR6.out) (ok' := fun k => w.heap.size + 2 ≤ k) (fun k hk => hk.2.1)) (fun k hk => far2 hk) (.slice A5 n c5)) (fun k hk => far2 hk) (.slice A6 o.length c6)
    have hb7 : Below w.heap.size w ((W6.setCell ⟨w.heap.size, 0, none⟩ (.slice A5 n c5)).setCell ⟨w.heap.size, 1, none⟩ (.slice A6 o.length c6)) := (HB6.out.setCell (Nat.le_refl _) _).setCell (Nat.le_refl _) _
    clear HS6 HR6 HB6 BK1c BK2c
    generalize ((W6.setCell ⟨w.heap.size, 0, none⟩ (.slice A5 n c5)).setCell ⟨w.heap.size, 1, none⟩ (.slice A6 o.length c6)) = W7 at bk7 bk8 hs7 hr7 hb7 ⊢
    have BK7 := A0qcl_ bk7
    have BK8 := A0qcl_ bk8
    have HS7 := A0qcl_ hs7
    have HR7 := A0qcl_ hr7
    have HB7 := A0qcl_ hb7
    clear bk7 bk8 hs7 hr7 hb7
    go_wp2
    go_meet
    case rel => exact ⟨A5, c5, A6, c6, HS7, HR7, N56, BK7, BK8, HB7⟩
  ·go_simp
   refine hK _ _ ?_
   clear hK K
   refine wpAny_ready (rs := [1]) (by kernel_rfl) (by simp) ?_
   refine AllReady.cons rfl (fun K hK => ?_) AllReady.nil
   go_simp
   refine hK _ _ ?_
   clear hK K
   refine wpAny_ready (rs := [2]) (by kernel_rfl) (by simp) ?_
   refine AllReady.cons rfl (fun K hK => ?_) AllReady.nil
   go_simp
   refine (HSETS.out W HB.out hzW).mono ?_
   rintro e W5 ⟨v5, rfl, hs5, hb5⟩
   obtain ⟨A5, c5, e5⟩ := Kd.R_slice hs5
   rw [HRL.out] at e5
   subst e5
   have BK1b := A0qcl_ (blk_below BK1.out hb5)
   have BK2b := A0qcl_ (blk_below BK2.out hb5)
   have HB5 := A0qcl_ (HB.out.trans (hb5.mono HB.out.size))
   have hz5 : w.heap.size + 2 ≤ W5.heap.size := by have := hb5.size; omega
   have HS5 := A0qcl_ hs5
   clear hs5 hb5
   have y0 : W5.cell? ⟨w.heap.size, 0, none⟩ = some (.slice A0 n c0) := (blk_cell BK1b.out 0).trans rfl
   have y1 : W5.cell? ⟨w.heap.size, 1, none⟩ = some (.slice A1 o.length c1) := (blk_cell BK1b.out 1).trans rfl
   refine hK _ _ ?_
   clear hK K
   refine wpAny_take (i:=6) (v := ?_) rfl (by kernel_rfl) (by kernel_rfl) (by kernel_rfl) (fun _ _ _ h => h) (Or.inl ⟨by rfl, ?_⟩) ?_; rotate_left; focus (intro w; go_simp; try (with_reducible rfl))
   refine wpAny_ready (rs := [5]) (by kernel_rfl) (by simp) ?_
   refine AllReady.cons rfl (fun K hK => ?_) AllReady.nil
   go_simp
   refine (HOPEN.out W5 HB5.out).mono ?_
   rintro e W6 ⟨v6, rfl, hr6, hb6⟩
   obtain ⟨A6, c6, e6⟩ := Kd.R_slice hr6
   subst e6
   have BK1c := A0qcl_ (blk_below BK1b.out hb6)
   have BK2c := A0qcl_ (blk_below BK2b.out hb6)
   have HB6 := A0qcl_ (HB5.out.trans (hb6.mono HB5.out.size))
   have HS6 := A0qcl_ (Kd.R_below HS5.out hb6)
   have N56 := A0qcl_ (show ∀ k, (Value.slice A6 o.length c6).ownBlock = some k → (Value.slice A5 n c5).ownBlock ≠ some k from fun k hk he => by have h1 := Kd.R_base hr6 k hk; have h2 := Kd.R_lt HS5.out k he; omega)
   have HR6 := A0qcl_ (Kd.R_lower hr6 hz5)
   clear hr6 hb6 y0 y1
   have y0 : W6.cell? ⟨w.heap.size, 0, none⟩ = some (.slice A0 n c0) := (blk_cell BK1c.out 0).trans rfl
   have y1 : W6.cell? ⟨w.heap.size, 1, none⟩ = some (.slice A1 o.length c1) := (blk_cell BK1c.out 1).trans rfl
   have f0 := blk_frozen BK1c.out 0
   have f1 := blk_frozen BK1c.out 1
   refine hK _ _ ?_
   clear hK K
   refine wpAny_ready (rs := [7]) (by kernel_rfl) (by simp) ?_
   refine AllReady.cons rfl (fun K hK => ?_) AllReady.nil
   go_simp
   refine hK _ _ ?_
   clear hK K
   refine wpAny_take (i:=8) (v := ?_) rfl (by kernel_rfl) (by kernel_rfl) (by kernel_rfl) (fun _ _ _ h => h) (Or.inl ⟨by rfl, ?_⟩) ?_; rotate_left; focus (intro w; go_simp; try (with_reducible rfl))
   refine wpAny_ready (rs := [9]) (by kernel_rfl) (by simp) ?_
   refine AllReady.cons rfl (fun K hK => ?_) AllReady.nil
   go_simp
   refine hK _ _ ?_
   clear hK K
   refine wpAny_done (by kernel_rfl) ?_ _
   clear x0 x1 y0 y1 f0 f1
   have bk7 : ((W6.setCell ⟨w.heap.size, 0, none⟩ (.slice A5 n c5)).setCell ⟨w.heap.size, 1, none⟩ (.slice A6 o.length c6)).heap[w.heap.size]? = some (.cells #[.slice A5 n c5, .slice A6 o.length c6, .int .i64 a, .int .i64 b] 27 (0, 0)) := blk_put (blk_put BK1c.out 0 (.slice A5 n c5) rfl) 1 (.slice A6 o.length c6) rfl
   have bk8 : ((W6.setCell ⟨w.heap.size, 0, none⟩ (.slice A5 n c5)).setCell ⟨w.heap.size, 1, none⟩ (.slice A6 o.length c6)).heap[w.heap.size + 1]? = some (.cells #[.slice none 0 0, .slice none 0 0, .int .i64 0, .int .i64 0] 27 (0, 0)) := (Below.heap_setCell _ _ _ _ (Nat.succ_ne_self _)).trans ((Below.heap_setCell _ _ _ _ (Nat.succ_ne_self _)).trans BK2c.out)
   have hs7 := Kd.R_far (p := ⟨w.heap.size, 1, none⟩) (Kd.R_far (p := ⟨w.heap.size, 0, none⟩) (Kd.R_mono (Kd.R_bound HS6.out) (ok' := fun k => w.heap.size + 2 ≤ k) (fun k hk => hk.2.1)) (fun k hk => far2 hk) (.slice A5 n c5)) (fun k hk => far2 hk) (.slice A6 o.length c6)
   have hr7 := Kd.R_far (p := ⟨w.heap.size, 1, none⟩) (Kd.R_far (p := ⟨w.heap.size, 0, none⟩) (Kd.R_mono (Kd.R_bound HR6.out) (ok' := fun k => w.heap.size + 2 ≤ k) (fun k hk => hk.2.1)) (fun k hk => far2 hk) (.slice A5 n c5)) (fun k hk => far2 hk) (.slice A6 o.length c6)
   have hb7 : Below w.heap.size w ((W6.setCell ⟨w.heap.size, 0, none⟩ (.slice A5 n c5)).setCell ⟨w.heap.size, 1, none⟩ (.slice A6 o.length c6)) := (HB6.out.setCell (Nat.le_refl _) _).setCell (Nat.le_refl _) _
   clear HS6 HR6 HB6 BK1c BK2c
   generalize ((W6.setCell ⟨w.heap.size, 0, none⟩ (.slice A5 n c5)).setCell ⟨w.heap.size, 1, none⟩ (.slice A6 o.length c6)) = W7 at bk7 bk8 hs7 hr7 hb7 ⊢
   have BK7 := A0qcl_ bk7
   have BK8 := A0qcl_ bk8
   have HS7 := A0qcl_ hs7
   have HR7 := A0qcl_ hr7
   have HB7 := A0qcl_ hb7
   clear bk7 bk8 hs7 hr7 hb7
   go_wp2
   go_meet
   case rel => exact ⟨A5, c5, A6, c6, HS7, HR7, N56, BK7, BK8, HB7⟩
 case rest =>
 clear HSETS HOPEN
 obtain ⟨A5, c5, A6, c6, HS, HR, N56, BK, BK2, HB⟩ := hcut
 rcases Nat.eq_zero_or_pos n with h0 | h0
 ·subst h0
  have hl0 : l = [] := List.eq_nil_of_length_eq_zero HL.out
  subst hl0
  have HSE := A0qcl_ (show Kd.S k99 99 wc (w.heap.size + 2) (fun k_ => some k_ ≠ (Value.slice A6 o.length c6).ownBlock) (.slice A5 0 c5) [] from S_of_raw (fun _ => 0) HRL.out HS.out (fun k hk he => N56.out k he.symm hk) (fun j x c hx _ => by simp at hx))
  have HR6 := HR
  clear HR HS
  have z0 : wc.cell? ⟨w.heap.size, 0, none⟩ = some (.slice A5 0 c5) := (blk_cell BK.out 0).trans rfl
  go_wp2
  clear z0
  go_loopg [3, 15] 0 (fun gg s3 s15 wr => s15 = .int .i64 0 ∧ wr = wc)
  case atStart => exact ⟨rfl, rfl⟩
  case round =>
   obtain ⟨rfl, rfl⟩ := hrel
   have hse := Kd.S_bound HSE.out
   have z0 : wr.cell? ⟨w.heap.size, 0, none⟩ = some (.slice A5 0 c5) := (blk_cell BK.out 0).trans rfl
   have z1 : wr.cell? ⟨w.heap.size, 1, none⟩ = some (.slice A6 o.length c6) := (blk_cell BK.out 1).trans rfl
   have z2 : wr.cell? ⟨w.heap.size, 2, none⟩ = some (.int .i64 a) := (blk_cell BK.out 2).trans rfl
   have z3 : wr.cell? ⟨w.heap.size, 3, none⟩ = some (.int .i64 b) := (blk_cell BK.out 3).trans rfl
   have g0 : wr.cell? ⟨w.heap.size + 1, 0, none⟩ = some (.slice none 0 0) := (blk_cell BK2.out 0).trans rfl
   have g1 : wr.cell? ⟨w.heap.size + 1, 1, none⟩ = some (.slice none 0 0) := (blk_cell BK2.out 1).trans rfl
   have g2 : wr.cell? ⟨w.heap.size + 1, 2, none⟩ = some (.int .i64 0) := (blk_cell BK2.out 2).trans rfl
   have g3 : wr.cell? ⟨w.heap.size + 1, 3, none⟩ = some (.int .i64 0) := (blk_cell BK2.out 3).trans rfl
   have h0 := blk_frozen BK2.out 0
   have h1 := blk_frozen BK2.out 1
   have h2 := blk_frozen BK2.out 2
   have h3 := blk_frozen BK2.out 3
   have hr0 := Kd.R_bound HR6.out
   have bk9 := blk_put (blk_put (blk_put (blk_put BK2.out 0 (.slice A5 0 c5) rfl) 1 (.slice A6 o.length c6) rfl) 2 (.int .i64 a) rfl) 3 (.int .i64 b) rfl
   have HS9 := A0qcl_ (Kd.S_far (p := ⟨w.heap.size + 1, 3, none⟩) (Kd.S_far (p := ⟨w.heap.size + 1, 2, none⟩) (Kd.S_far (p := ⟨w.heap.size + 1, 1, none⟩) (Kd.S_far (p := ⟨w.heap.size + 1, 0, none⟩) hse (fun k hk => far1 hk.2.1) (.slice A5 0 c5)) (fun k hk => far1 hk.2.1) (.slice A6 o.length c6)) (fun k hk => far1 hk.2.1) (.int .i64 a)) (fun k hk => far1 hk.2.1) (.int .i64 b))
   have HR9 := A0qcl_ (Kd.R_far (p := ⟨w.heap.size + 1, 3, none⟩) (Kd.R_far (p := ⟨w.heap.size + 1, 2, none⟩) (Kd.R_far (p := ⟨w.heap.size + 1, 1, none⟩) (Kd.R_far (p := ⟨w.heap.size + 1, 0, none⟩) hr0 (fun k hk => far1 hk.2.1) (.slice A5 0 c5)) (fun k hk => far1 hk.2.1) (.slice A6 o.length c6)) (fun k hk => far1 hk.2.1) (.int .i64 a)) (fun k hk => far1 hk.2.1) (.int .i64 b))
   have HB9 := A0qcl_ ((((HB.out.setCell (p := ⟨w.heap.size + 1, 0, none⟩) (Nat.le_succ _) (.slice A5 0 c5)).setCell (p := ⟨w.heap.size + 1, 1, none⟩) (Nat.le_succ _) (.slice A6 o.length c6)).setCell (p := ⟨w.heap.size + 1, 2, none⟩) (Nat.le_succ _) (.int .i64 a)).setCell (p := ⟨w.heap.size + 1, 3, none⟩) (Nat.le_succ _) (.int .i64 b))
   have BK9 := A0qcl_ bk9
   clear hse hr0 bk9 HSE HR6
   go_wp2
   have k0 := (blk_cell BK9.out 0).trans (show _ = some (.slice A5 0 c5 : Value) from rfl)
   have k1 := (blk_cell BK9.out 1).trans (show _ = some (Value.slice A6 o.length c6) from rfl)
   have k2 := (blk_cell BK9.out 2).trans (show _ = some (Value.int .i64 a) from rfl)
   have k3 := (blk_cell BK9.out 3).trans (show _ = some (Value.int .i64 b) from rfl)
   refine bodyPost_ret (v := .agg #[.slice A5 0 c5, .slice A6 o.length c6, .int .i64 a, .int .i64 b]) ?_ rfl ⟨_, _, rfl, Kd.S_lower (Kd.S_mono HS9.out (fun _ hk => hk.1)) (Nat.le_add_right _ 2), Kd.R_lower (Kd.R_mono HR9.out (fun _ _ => trivial)) (Nat.le_add_right _ 2), HB9.out⟩
   clear HS9 HR9 HB9 BK9
   simp [results, Try.results94, go_sem, k0, k1, k2, k3]
 ·obtain ⟨g, c5', e5, hg5, _⟩ := Kd.R_form HS.out (by have := HRL.out; omega)
  rw [HRL.out] at e5
  injection e5 with eA _ eC
  subst eA
  subst eC
  obtain ⟨ad, had⟩ : ∃ ad : Addr, ⟨g, 0, none⟩ = ad := ⟨_, rfl⟩
  have HCA := A0qcl_ (show CloneAt w wc g n c5 (.slice A6 o.length c6) l 0 from ⟨rows, fun _ => 0, HRL.out, Kd.R_mono (Kd.R_tight rfl HS.out) (fun k hk => by simpa [Value.ownBlock] using hk), fun j x c _ _ hj => absurd hj (Nat.not_lt_zero j), fun j x c hx hc _ => HRK.out j x c hx hc⟩)
  have HR6 := A0qcl_ (show Kd.R k74 74 wc (w.heap.size + 2) (fun k => k ≠ g) (.slice A6 o.length c6) o from Kd.R_mono (Kd.R_tight rfl HR.out) (fun k hk he => N56.out k hk.symm (by rw [he]; simp [Value.ownBlock])))
  rw [had] at BK
  have HAD := A0qcl_ had
  clear had HS HR HRK
  have z0 : wc.cell? ⟨w.heap.size, 0, none⟩ = some (.slice (some ad) n c5) := (blk_cell BK.out 0).trans rfl
  go_wp2
  clear z0
  go_loopg [3, 15] n (fun gg s3 s15 wr => ∃ (i : Nat) (z : Int), i ≤ n ∧ n - i ≤ gg ∧ Aside0 (z = (i : Int)) ∧ s15 = .int .i64 z ∧ Aside0 (CloneAt w wr g n c5 (.slice A6 o.length c6) l i) ∧ Aside0 (Kd.R k74 74 wr (w.heap.size + 2) (fun k => k ≠ g) (.slice A6 o.length c6) o) ∧ Aside0 (wr.heap[w.heap.size]? = some (.cells #[.slice (some ad) n c5, .slice A6 o.length c6, .int .i64 a, .int .i64 b] 27 (0, 0))) ∧ Aside0 (wr.heap[w.heap.size + 1]? = some (.cells #[.slice none 0 0, .slice none 0 0, .int .i64 0, .int .i64 0] 27 (0, 0))) ∧ Aside0 (Below w.heap.size w wr))
  case atStart => exact ⟨0, 0, Nat.zero_le _, Nat.le_refl _, ⟨rfl⟩, rfl, HCA, HR6, BK, BK2, HB⟩
  case round =>
   clear HCA HR6 BK BK2 HB
   obtain ⟨i, z, hin, hg, HZ, rfl, HCA, HR6, BK, BK2, HB⟩ := hrel
   by_cases hlt : i < n
   ·have e0 : decide (z < (n : Int)) = true := decide_eq_true (by have := HZ.out; omega)
    obtain ⟨z1, hz1⟩ : ∃ z1, wrap64 (z + 1) = z1 := ⟨_, rfl⟩
    have HZ1 := A0qcl_ (show z1 = ((i + 1 : Nat) : Int) by have := HZ.out; have := HSM.out.1; have := HL.out; rw [← hz1]; unfold wrap64; omega)
    obtain ⟨x, hx⟩ : ∃ x, l[i]? = some x := ⟨_, List.getElem?_eq_getElem (by have := HL.out; omega)⟩
    have HXX := A0qcl_ hx
    have HLT := A0qcl_ hlt
    obtain ⟨A, cc, hcell, hcc, hC⟩ := CloneAt.cell HCA.out HAD.out HZ.out hlt hx HB.out
    obtain ⟨m, hm⟩ : ∃ m, x.f2.length = m := ⟨_, rfl⟩
    rw [hm] at hcell hcc hC
    have HROW := A0qcl_ hcell
    have HCLN := A0qcl_ (show ∀ W : World, Below w.heap.size w W → Calls Try.prog 99 #[.slice A m cc] W fun e w' => ∃ v : Value, e = .returned v ∧ Kd.R k74 74 w' W.heap.size (fun _ => True) v x.f2 ∧ Below W.heap.size W w' from fun W hW => by
     have h := api_Write_99.calls A cc x.f2 x.f2 W (by rw [hm]; exact Kd.C_below hC hW) (by rw [hm]; exact hcc) (by unfold api_Write_99.f; rw [if_pos (by have := HSM.out.2.2 x (List.mem_of_getElem? hx); omega)])
     rw [hm] at h
     exact h)
    have p1 : (0 ≤ z) = True := eq_true (by have := HZ.out; omega)
    have q1 : (z < (n : Int)) = True := eq_true (by have := HZ.out; omega)
    clear hcell hcc hC hm hx
    go_wp2
    have HCA_1 := A0qcl_ (CloneAt.drew HCA.out)
    have HR6_1 := A0qcl_ (Kd.R_drew HR6.out)
    have BK_1 := A0qcl_ (blk_drew BK.out)
    have BK2_1 := A0qcl_ (blk_drew BK2.out)
    have HB_1 := A0qcl_ (below_drew1 HB.out)
    clear HCA HR6 BK BK2 HB
    have x0 : (wr.drew).cell? ⟨w.heap.size, 0, none⟩ = some (.slice (some ad) n c5) := (blk_cell BK_1.out 0).trans rfl
    have x1 : (wr.drew).cell? ⟨(ad.add (z.toNat * 3)).block, (ad.add (z.toNat * 3)).off + 2, none⟩ = some (.slice A m cc) := HROW.out
    refine start_ (n := 13) (S := fun w' => w'.cell? ⟨w.heap.size, 0, none⟩ = some (.slice (some ad) n c5) ∧ w'.cell? ⟨(ad.add (z.toNat * 3)).block, (ad.add (z.toNat * 3)).off + 2, none⟩ = some (.slice A m cc)) (ds := [12]) mk0qcl_ (by kernel_rfl) rfl rfl ⟨x0, x1⟩ (fun hHeld => ?_); refine with_tabW clone5.tab clone5.bits (fun HT_ HW_ => ?_)
    clear x0 x1 HROW
    generalize wr.drew = w_1 at HCA_1 HR6_1 BK_1 BK2_1 HB_1 hHeld ⊢
    refine pure_ (i:=0) (N:=some 18) (v:=?_) (a':=?_) mk1qcl_ rfl rfl (any_of HT_.out (by kernel_rfl)) (fun _ _ _ h => h) (Or.inl ⟨by rfl, ?_⟩) ?_ ?_
    rotate_left
    ·intro w'
     go_simp
     with_reducible rfl
    rotate_left
    ·simp only [Act.put, z1qcl_, z2qcl_, z3qcl_, i64_w, i32_w]
     rfl
    refine pure_ (i:=2) (N:=some 20) (v:=?_) (a':=?_) mk2qcl_ rfl rfl (any_of HT_.out (by kernel_rfl)) (fun _ _ _ h => h) (Or.inl ⟨by rfl, ?_⟩) ?_ ?_
    rotate_left
    ·intro w'
     go_simp
     with_reducible rfl
    rotate_left
    ·simp only [Act.put, z1qcl_, z2qcl_, z3qcl_, i64_w, i32_w]
     rfl
    refine pure_ (i:=3) (N:=some 21) (v:=?_) (a':=?_) mk3qcl_ rfl rfl (any_of HT_.out (by kernel_rfl)) (fun _ _ _ h => h) (Or.inl ⟨by rfl, ?_⟩) ?_ ?_
    rotate_left
    ·intro w'
     go_simp
     with_reducible rfl
    rotate_left
    ·simp only [Act.put, z1qcl_, z2qcl_, z3qcl_, i64_w, i32_w]
     rfl
    refine pure_ (i:=5) (N:=some 23) (v:=?_) (a':=?_) mk4qcl_ rfl rfl (any_of HT_.out (by kernel_rfl)) (fun _ _ _ h => h) (Or.inl ⟨by rfl, ?_⟩) ?_ ?_
    rotate_left
    ·intro w'
     go_simp
     with_reducible rfl
    rotate_left
    ·simp only [Act.put, z1qcl_, z2qcl_, z3qcl_, i64_w, i32_w]
     rfl
    refine take_ (i:=1) (N:=some 19) (v:=?_) (a':=?_) mk5qcl_ rfl rfl (take_ofW HT_.out HW_.out (by kernel_rfl)) (fun _ _ _ h => h) (Or.inl ⟨by rfl, ?_⟩) hHeld ?_ ?_
    rotate_left
    ·rintro w' ⟨s0, s1⟩
     go_simp
     with_reducible rfl
    rotate_left
    ·simp only [Act.put, z1qcl_, z2qcl_, z3qcl_, i64_w, i32_w]
     rfl
    refine take_ (i:=4) (N:=some 22) (v:=?_) (a':=?_) mk6qcl_ rfl rfl (take_ofW HT_.out HW_.out (by kernel_rfl)) (fun _ _ _ h => h) (Or.inl ⟨by rfl, ?_⟩) hHeld ?_ ?_
    rotate_left
    ·rintro w' ⟨s0, s1⟩
     go_simp
     with_reducible rfl
    rotate_left
    ·simp only [Act.put, z1qcl_, z2qcl_, z3qcl_, i64_w, i32_w]
     rfl
    refine pure_ (i:=6) (N:=some 24) (v:=?_) (a':=?_) mk7qcl_ rfl rfl (any_of HT_.out (by kernel_rfl)) (fun _ _ _ h => h) (Or.inl ⟨by rfl, ?_⟩) ?_ ?_
    rotate_left
    ·intro w'
     go_simp
     with_reducible rfl
    rotate_left
    ·simp only [Act.put, z1qcl_, z2qcl_, z3qcl_, i64_w, i32_w]
     rfl
    refine pure_ (i:=7) (N:=some 25) (v:=?_) (a':=?_) mk8qcl_ rfl rfl (any_of HT_.out (by kernel_rfl)) (fun _ _ _ h => h) (Or.inl ⟨by rfl, ?_⟩) ?_ ?_
    rotate_left
    ·intro w'
     go_simp
     with_reducible rfl
    rotate_left
    ·simp only [Act.put, z1qcl_, z2qcl_, z3qcl_, i64_w, i32_w]
     rfl
    refine take_ (i:=8) (N:=some 26) (v:=?_) (a':=?_) mk9qcl_ rfl rfl (take_ofW HT_.out HW_.out (by kernel_rfl)) (fun _ _ _ h => h) (Or.inl ⟨by rfl, ?_⟩) hHeld ?_ ?_
    rotate_left
    ·rintro w' ⟨s0, s1⟩
     go_simp
     with_reducible rfl
    rotate_left
    ·simp only [Act.put, z1qcl_, z2qcl_, z3qcl_, i64_w, i32_w]
     rfl
    refine one_ (i:=9) (N:=some 27) mk10qcl_ rfl rfl (one_of HT_.out (by kernel_rfl)) (by decide) (fun K hK => ?_)
    refine call_ 99 #[.slice A m cc] (by rfl) rfl (by first | (go_simp; done) | (go_simp; rfl)) ?_
    refine (HCLN.out w_1 HB_1.out).mono ?_
    rintro e w_2 ⟨vv, rfl, hvv, hb⟩
    refine ⟨_, rfl, ?_⟩
    have HVV := A0qcl_ hvv
    have HBW := A0qcl_ hb
    have HB_2 := A0qcl_ (HB_1.out.trans (hb.mono HB_1.out.size))
    obtain ⟨s0, s1⟩ := hHeld
    refine hK.out _ _ ⟨(hb.cell (World.block_lt_of_cell? _ _ s0)).trans s0, (hb.cell (World.block_lt_of_cell? _ _ s1)).trans s1⟩ (fun hHeld => ?_)
    clear hK K HB_1 hvv hb s0 s1
    refine norm_ (a' := ?_) ?_ ?_
    rotate_left
    ·show Act.put _ (some 27) _ = _
     simp only [Act.put, z1qcl_, z2qcl_, z3qcl_, i64_w, i32_w]
     rfl
    refine pure_ (i:=10) (N:=some 28) (v:=?_) (a':=?_) mk11qcl_ rfl rfl (any_of HT_.out (by kernel_rfl)) (fun _ _ _ h => h) (Or.inl ⟨by rfl, ?_⟩) ?_ ?_
    rotate_left
    ·intro w'
     go_simp
     with_reducible rfl
    rotate_left
    ·simp only [Act.put, z1qcl_, z2qcl_, z3qcl_, i64_w, i32_w]
     rfl
    refine pure_ (i:=11) (N:=some 29) (v:=?_) (a':=?_) mk12qcl_ rfl rfl (any_of HT_.out (by kernel_rfl)) (fun _ _ _ h => h) (Or.inl ⟨by rfl, ?_⟩) ?_ ?_
    rotate_left
    ·intro w'
     go_simp
     with_reducible rfl
    rotate_left
    ·simp only [Act.put, z1qcl_, z2qcl_, z3qcl_, i64_w, i32_w]
     rfl
    clear hHeld
    refine last_ (i:=12) (N:=none) mk13qcl_ rfl rfl (one_of HT_.out (by kernel_rfl)) (by decide) (fun K hK => ?_)
    obtain ⟨w_3, hrun, hca, hr6, hbk, hb3⟩ := CloneAt.step HCA_1.out HAD.out HZ.out HLT.out HXX.out HVV.out HBW.out HR6_1.out HB_2.out
    refine put_ 25 (.tmp 29) (.tmp 27) _ _ (by rfl) rfl rfl rfl rfl hrun ?_
    refine hK.out _ _ ?_
    have HCA_3 := A0qcl_ hca
    have HR6_3 := A0qcl_ hr6
    have BK_3 := A0qcl_ (hbk _ _ BK_1.out)
    have BK2_3 := A0qcl_ (hbk _ _ BK2_1.out)
    have HB_3 := A0qcl_ hb3
    clear hK K hrun HCA_1 HR6_1 BK_1 BK2_1 HB_2 HVV HBW hca hr6 hbk hb3
    refine done_ (done_of HT_.out (by kernel_rfl)) ?_
    clear HT_ HW_
    go_wp2
    go_roundg (n - i - 1)
    case measure => omega
    case rel =>
     refine ⟨i + 1, z1, by omega, by omega, HZ1, ?_, HCA_3, HR6_3, BK_3, BK2_3, HB_3⟩
     first | rfl | rw [← hz1] | (simp only [← hz1, i64_w])
   ·have e0 : decide (z < (n : Int)) = false := decide_eq_false (by have := HZ.out; omega)
    have hie : i = n := by omega
    have HSE := A0qcl_ (show Kd.S k99 99 wr (w.heap.size + 2) (fun k_ => some k_ ≠ (Value.slice A6 o.length c6).ownBlock) (.slice (some ad) n c5) l by
     rw [← HAD.out]
     exact CloneAt.done HL.out (hie ▸ HCA.out) (fun k hk => HR6.out.1 k hk))
    clear HCA hie
    have hse := Kd.S_bound HSE.out
    have z0 : wr.cell? ⟨w.heap.size, 0, none⟩ = some (.slice (some ad) n c5) := (blk_cell BK.out 0).trans rfl
    have z1 : wr.cell? ⟨w.heap.size, 1, none⟩ = some (.slice A6 o.length c6) := (blk_cell BK.out 1).trans rfl
    have z2 : wr.cell? ⟨w.heap.size, 2, none⟩ = some (.int .i64 a) := (blk_cell BK.out 2).trans rfl
    have z3 : wr.cell? ⟨w.heap.size, 3, none⟩ = some (.int .i64 b) := (blk_cell BK.out 3).trans rfl
    have g0 : wr.cell? ⟨w.heap.size + 1, 0, none⟩ = some (.slice none 0 0) := (blk_cell BK2.out 0).trans rfl
    have g1 : wr.cell? ⟨w.heap.size + 1, 1, none⟩ = some (.slice none 0 0) := (blk_cell BK2.out 1).trans rfl
    have g2 : wr.cell? ⟨w.heap.size + 1, 2, none⟩ = some (.int .i64 0) := (blk_cell BK2.out 2).trans rfl
    have g3 : wr.cell? ⟨w.heap.size + 1, 3, none⟩ = some (.int .i64 0) := (blk_cell BK2.out 3).trans rfl
    have h0 := blk_frozen BK2.out 0
    have h1 := blk_frozen BK2.out 1
    have h2 := blk_frozen BK2.out 2
    have h3 := blk_frozen BK2.out 3
    have hr0 := Kd.R_bound HR6.out
    have bk9 := blk_put (blk_put (blk_put (blk_put BK2.out 0 (.slice (some ad) n c5) rfl) 1 (.slice A6 o.length c6) rfl) 2 (.int .i64 a) rfl) 3 (.int .i64 b) rfl
    have HS9 := A0qcl_ (Kd.S_far (p := ⟨w.heap.size + 1, 3, none⟩) (Kd.S_far (p := ⟨w.heap.size + 1, 2, none⟩) (Kd.S_far (p := ⟨w.heap.size + 1, 1, none⟩) (Kd.S_far (p := ⟨w.heap.size + 1, 0, none⟩) hse (fun k hk => far1 hk.2.1) (.slice (some ad) n c5)) (fun k hk => far1 hk.2.1) (.slice A6 o.length c6)) (fun k hk => far1 hk.2.1) (.int .i64 a)) (fun k hk => far1 hk.2.1) (.int .i64 b))
    have HR9 := A0qcl_ (Kd.R_far (p := ⟨w.heap.size + 1, 3, none⟩) (Kd.R_far (p := ⟨w.heap.size + 1, 2, none⟩) (Kd.R_far (p := ⟨w.heap.size + 1, 1, none⟩) (Kd.R_far (p := ⟨w.heap.size + 1, 0, none⟩) hr0 (fun k hk => far1 hk.2.1) (.slice (some ad) n c5)) (fun k hk => far1 hk.2.1) (.slice A6 o.length c6)) (fun k hk => far1 hk.2.1) (.int .i64 a)) (fun k hk => far1 hk.2.1) (.int .i64 b))
    have HB9 := A0qcl_ ((((HB.out.setCell (p := ⟨w.heap.size + 1, 0, none⟩) (Nat.le_succ _) (.slice (some ad) n c5)).setCell (p := ⟨w.heap.size + 1, 1, none⟩) (Nat.le_succ _) (.slice A6 o.length c6)).setCell (p := ⟨w.heap.size + 1, 2, none⟩) (Nat.le_succ _) (.int .i64 a)).setCell (p := ⟨w.heap.size + 1, 3, none⟩) (Nat.le_succ _) (.int .i64 b))
    have BK9 := A0qcl_ bk9
    clear hse hr0 bk9 HSE HR6
    go_wp2
    have k0 := (blk_cell BK9.out 0).trans (show _ = some (.slice (some ad) n c5 : Value) from rfl)
    have k1 := (blk_cell BK9.out 1).trans (show _ = some (Value.slice A6 o.length c6) from rfl)
    have k2 := (blk_cell BK9.out 2).trans (show _ = some (Value.int .i64 a) from rfl)
    have k3 := (blk_cell BK9.out 3).trans (show _ = some (Value.int .i64 b) from rfl)
    refine bodyPost_ret (v := .agg #[.slice (some ad) n c5, .slice A6 o.length c6, .int .i64 a, .int .i64 b]) ?_ rfl ⟨_, _, rfl, Kd.S_lower (Kd.S_mono HS9.out (fun _ hk => hk.1)) (Nat.le_add_right _ 2), Kd.R_lower (Kd.R_mono HR9.out (fun _ _ => trivial)) (Nat.le_add_right _ 2), HB9.out⟩
    clear HS9 HR9 HB9 BK9
    simp [results, Try.results94, go_sem, k0, k1, k2, k3]
theorem queue_clone.calls (A0_0 : Option Addr) (c0_0 : Nat) (l0_0 : List S99) (A0_1 : Option Addr) (c0_1 : Nat) (l0_1 : List S74) (a0_2 a0_3 : Int) (r0 : List S99) (r1 : List S74) (r2 r3 : Int) (w : World) (hr0_0 : Kd.C k99 w A0_0 l0_0.length l0_0) (hc0_0 : l0_0.length ≤ c0_0) (hr0_1 : Kd.C k74 w A0_1 l0_1.length l0_1) (hc0_1 : l0_1.length ≤ c0_1) (h : queue_clone.f l0_0 l0_1 a0_2 a0_3 = some (r0, r1, r2, r3)) :
  Calls Try.prog 94 #[.agg #[.slice A0_0 l0_0.length c0_0, .slice A0_1 l0_1.length c0_1, .int .i64 a0_2, .int .i64 a0_3]] w fun e w' => ∃ v0_ v1_ : Value, e = .returned (.agg #[v0_, v1_, .int .i64 r2, .int .i64 r3]) ∧ Kd.S k99 99 w' w.heap.size (fun k_ => some k_ ≠ (v1_ : Value).ownBlock) v0_ r0 ∧ Kd.R k74 74 w' w.heap.size (fun _ => True) v1_ r1 ∧ Below w.heap.size w w' := by
 unfold queue_clone.f at h
 by_cases hh : smallQ l0_0 l0_1
 ·rw [if_pos hh] at h
  injection h with h
  injection h with e0 h
  injection h with e1 h
  injection h with e2 e3
  subst e0; subst e1; subst e2; subst e3
  exact clone_gen A0_0 A0_1 c0_0 c0_1 l0_0.length a0_2 a0_3 l0_0 l0_1 w rfl hr0_0 hc0_0 hr0_1 hc0_1 hh
 ·rw [if_neg hh] at h
  exact absurd h (by simp)
end Go.Proofs.Ythdhkoeaadahaaa.P
