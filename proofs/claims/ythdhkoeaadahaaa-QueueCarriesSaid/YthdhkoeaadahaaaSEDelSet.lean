-- PACKED by wip/kit/pack.py: what the law's proof uses of EClear, EDelNote, EDelSet (printed words and texts of this seat)
import Derived.Test.YthdhkoeaadahaaaSESt
import Derived.Test.YthdhkoeaadahaaaSEQClone
section
namespace Go.Proofs.Ythdhkoeaadahaaa.P
open Go.RowKit Go.Proofs.YthdhkoeaadahaaaW.PrintWords Go.Proofs.YthdhkoeaadahaaaW.PrintLast Go.Proofs.YthdhkoeaadahaaaW.PrintMore
set_option linter.unusedVariables false
set_option linter.unusedSimpArgs false
theorem zeroCells_one {z : Array Value} (h1 : ∀ u ∈ z.toList, u.oneCell' = true) (n : Nat) : ∀ u ∈ (Builtin.zeroCells z n).toList, u.oneCell' = true := by
  intro u hu
  unfold Builtin.zeroCells at hu
  rw [Array.toList_map, List.mem_map] at hu
  obtain ⟨i, hi, rfl⟩ := hu
  rw [Array.mem_toList_iff, Array.mem_range] at hi
  have hz : 0 < z.size := by
    rcases Nat.eq_zero_or_pos z.size with h | h
    · rw [h, Nat.mul_zero] at hi; omega
    · exact h
  have hm : i % z.size < z.size := Nat.mod_lt _ hz
  rw [getElem!_pos z _ hm]
  exact h1 _ (Array.getElem_mem_toList hm)
theorem zeroCells_len (z : Array Value) (n : Nat) : (Builtin.zeroCells z n).toList.length = n * z.size := by
  rw [Array.length_toList, size_zeroCells]
theorem R_beyond {α : Type} {d : Kd α} {W w0 : World} {base g i cap e : Nat} {ok : Nat → Prop} {xs : List α} (HO : Kd.R d e W base ok (.slice (some ⟨g, 0, none⟩) i cap) xs) (o : Nat) (vs : List Value) (ho : i * d.sz ≤ o) (hf : o + vs.length ≤ cap * d.sz) (HB : Below base w0 W) :
    Kd.R d e (W.setCells g o vs) base ok (.slice (some ⟨g, 0, none⟩) i cap) xs ∧ Below base w0 (W.setCells g o vs) ∧ W.grownBy (W.setCells g o vs) (some g) := by
  have hbg : base ≤ g := Kd.R_base HO g (by simp [Value.ownBlock])
  obtain rfl : i = xs.length := (Kd.R_reads' HO).1
  obtain ⟨s1, s2, s3, s4⟩ := setCells_same g vs o W
  have hg : W.grownBy (W.setCells g o vs) (some g) := ⟨s1, s2, s3, by rw [s4]; exact Nat.le_refl _, fun k _ hk => setCells_far vs o k (fun he => hk (by rw [he]))⟩
  have hB : Below base w0 (W.setCells g o vs) := HB.trans ⟨hg.os, hg.tape, hg.output, hg.size, fun k hk => by
    rcases Nat.lt_or_ge k W.heap.size with hlt | hge
    · exact hg.block k hlt (fun he => by injection he with he; omega)
    · exact setCells_far _ _ k (by omega)⟩
  refine ⟨?_, hB, hg⟩
  obtain ⟨h0, inner, hown, hr⟩ := HO
  rcases hown.2 with ⟨hv, _⟩ | ⟨g', cap', cur, hv, hb, hh, hnc, hcm, hcs, ht⟩
  · cases hv
  injection hv with ha _ hc
  injection ha with ha
  injection ha with hg'
  subst hg'; subst hc
  obtain ⟨cur', h3, h4, h5⟩ := setCells_row vs o W cur hh (by rw [hcs]; exact hf)
  have hcl : cur.toList.length = cap * d.sz := by rw [← hcs]; exact Array.length_toList
  have hle : xs.length * d.sz ≤ cap * d.sz := Nat.mul_le_mul_right _ hnc
  refine ⟨h0, inner, ⟨hown.1, .inr ⟨g, cap, cur', rfl, hb, h3, hnc, hcm, by rw [h4, hcs], ?_⟩⟩, hr.imp_ (fun x c hp => ?_)⟩
  · rw [h5, List.append_assoc, List.take_append_of_le_length (by rw [List.length_take, hcl]; omega), List.take_take, Nat.min_eq_left (show xs.length * d.sz ≤ o from ho)]
    exact ht
  · exact Kd.M_grown hp hg (fun k hk he => hk.2 (by rw [he]; rfl))
theorem clear_step {P : Program} {ops : Array Oper} {rest : List Oper} {o : Oper} {a : Act} {Q : Exit → Act → World → Prop} {α : Type} (d : Kd α) {w0 W : World} (base : Nat) (hgd : o.guard = none) (x : Operand) (t e : TypeId) (z : Value)
    (ho : o.op = .call { callee := .builtin .clear, args := #[x], argTypes := #[t] }) (ht : P.underlying t = some (.slice e)) (hv : ∀ w, (zeroValue e).run P w = .ok z w) (hz : z.cells.size = d.sz) (h1 : ∀ u ∈ z.cells.toList, u.oneCell' = true)
    {g i n cap c' : Nat} (xs : List α) (ok : Nat → Prop) (A : Option Addr) (hx : a.eval x = .slice A (n - i) c') (hA : i < n → A = some ⟨g, i * d.sz, none⟩) (hin : i ≤ n) (hs0 : 0 < d.sz)
    (HO : Kd.R d e W base ok (.slice (some ⟨g, 0, none⟩) n cap) xs) (HB : Below base w0 W)
    (h : ∀ w1, Kd.R d e w1 base ok (.slice (some ⟨g, 0, none⟩) i cap) (xs.take i) → Below base w0 w1 → W.grownBy w1 (some g) → wpList P ops Q rest (a.put o.dst (.tuple #[])) w1) : wpList P ops Q (o :: rest) a W := by
  obtain ⟨hn, hnc, _⟩ := Kd.R_reads' HO
  have HT := Kd.R_take HO (m := i) (by omega)
  refine wpList_plain hgd fun K hK => ?_
  rcases Nat.lt_or_ge i n with hlt | hge
  · rw [hA hlt] at hx
    obtain ⟨m, hm⟩ : ∃ m, n - i = m + 1 := ⟨n - i - 1, by omega⟩
    rw [hm] at hx
    have hl := zeroCells_len z.cells (m + 1)
    have hfit : i * d.sz + (Builtin.zeroCells z.cells (m + 1)).toList.length ≤ n * d.sz := by
      rw [hl, hz, ← Nat.add_mul]
      exact Nat.mul_le_mul_right _ (by omega)
    have hfit2 : n * d.sz ≤ cap * d.sz := Nat.mul_le_mul_right _ hnc
    obtain ⟨hR, hB, hg⟩ := R_beyond HT (i * d.sz) (Builtin.zeroCells z.cells (m + 1)).toList (Nat.le_refl _) (by omega) HB
    have hrun : (Builtin.clear_ #[t] o.type #[.slice (some ⟨g, i * d.sz, none⟩) (m + 1) c']).run P W = .ok (.tuple #[]) (W.setCells g (i * d.sz) (Builtin.zeroCells z.cells (m + 1)).toList) := by
      obtain ⟨_, inner, hown, hr⟩ := HO
      rcases hown.2 with ⟨hv', _⟩ | ⟨g', cap', cur, hv', hb, hh, hnc', hcm, hcs, ht'⟩
      · cases hv'
      injection hv' with ha _ hc
      injection ha with ha
      injection ha with hg'
      subst hg'; subst hc
      have hst := run_storeCells_cells (P := P) g (i * d.sz) (Builtin.zeroCells z.cells (m + 1)).toList 0 W (fun j hj => by
          rw [Nat.add_zero, cell_of_row W g _ cur e (0, 0) hh, Array.getElem?_eq_getElem (by rw [hcs]; omega)]; rfl) (fun j hj => by
          rw [Nat.add_zero]; exact blk_frozen hh _) (zeroCells_one h1 _)
      rw [Nat.add_zero] at hst
      simp [Builtin.clear_, run_underlying ht, hv, hst]
    unfold Oper.wp
    simp [execOp, ho, resolve, invoke, builtin, hx, hrun, Result.andThen]
    exact hK _ _ (h _ hR hB hg)
  · obtain rfl : i = n := by omega
    rw [Nat.sub_self] at hx
    have hrun : (Builtin.clear_ #[t] o.type #[.slice A 0 c']).run P W = .ok (.tuple #[]) W := by
      cases A <;> simp [Builtin.clear_, run_underlying ht]
    unfold Oper.wp
    simp [execOp, ho, resolve, invoke, builtin, hx, hrun, Result.andThen]
    exact hK _ _ (h _ HT HB ⟨rfl, rfl, rfl, Nat.le_refl _, fun _ _ _ => rfl⟩)
end Go.Proofs.Ythdhkoeaadahaaa.P
end
section
namespace Go.Proofs.Ythdhkoeaadahaaa.P
open Go.RowKit Go.Proofs.YthdhkoeaadahaaaW.PrintWords Go.Proofs.YthdhkoeaadahaaaW.PrintLast Go.Proofs.YthdhkoeaadahaaaW.PrintMore
attribute [local go_sem] Oper.semAt_some
set_option linter.unusedVariables false
set_option linter.unusedSimpArgs false
def FirstAt {α : Type} (p : α → Bool) (ms : List α) (r : Int) : Prop := (r = -1 ∧ ∀ m ∈ ms, p m = false) ∨ ∃ i : Nat, r = (i : Int) ∧ ∃ (h : i < ms.length), p ms[i] = true ∧ ∀ m ∈ ms.take i, p m = false
theorem drop_succ_eq {α : Type} {ys ms : List α} {j : Nat} (h : ys.drop j = ms.drop j) : ys.drop (j + 1) = ms.drop (j + 1) := by
  have h9 := congrArg (List.drop 1) h
  rw [List.drop_drop, List.drop_drop] at h9
  exact h9
theorem take_snoc_get {α : Type} {ms : List α} {j : Nat} {x : α} (h : ms[j]? = some x) : ms.take (j + 1) = ms.take j ++ [x] := by
  rw [List.take_add_one, h]; rfl
theorem take_set_snoc {α : Type} (l : List α) (i : Nat) (x : α) (h : i < l.length) : (l.set i x).take (i + 1) = l.take i ++ [x] := by
  rw [List.take_succ_eq_append_getElem (by rw [List.length_set]; exact h), List.getElem_set_self, List.take_set_of_le (Nat.le_refl _)]
theorem drop_set_lt {α : Type} (l : List α) (i j : Nat) (x : α) (h : i < j) : (l.set i x).drop j = l.drop j := List.drop_set_of_lt h
end Go.Proofs.Ythdhkoeaadahaaa.P
end
section
namespace Go.Proofs.Ythdhkoeaadahaaa.P
open Go.RowKit Go.Proofs.YthdhkoeaadahaaaW.PrintWords Go.Proofs.YthdhkoeaadahaaaW.PrintLast Go.Proofs.YthdhkoeaadahaaaW.PrintMore
attribute [local go_sem] Oper.semAt_some
set_option linter.unusedVariables false
set_option linter.unusedSimpArgs false
structure Row3 where
 a : Int
 b : Int
 A : Option Addr
 n : Nat
 c : Nat
def z3 : Row3 := ⟨0, 0, none, 0, 0⟩
def enc3 (r : Row3) : List Value := [.int .i64 r.a, .int .i64 r.b, .slice r.A r.n r.c]
def k3 : Kd Row3 := Kd.iso (Kd.raw 3) enc3
def rd3 (l : List Row3) (i : Int) : Row3 := l.getD i.toNat z3
theorem k3_mkM (w : World) (base : Nat) (ok : Nat → Prop) (x : Row3) : k3.M w base ok x (enc3 x) := ⟨rfl, rfl, one3 _ _ _ (by rfl) (by rfl) (by rfl)⟩
theorem at_3 {w : World} {A : Option Addr} {n : Nat} {xs : List Row3} (h : Kd.C k3 w A n xs) (i : Int) (h0 : 0 ≤ i) (h1 : i < n) : ∃ ad, A = some ad ∧ w.cell? (ad.add (i.toNat * 3)) = some (.int .i64 (rd3 xs i).a) ∧ w.cell? ⟨(ad.add (i.toNat * 3)).block, (ad.add (i.toNat * 3)).off + 1, none⟩ = some (.int .i64 (rd3 xs i).b) ∧ w.cell? ⟨(ad.add (i.toNat * 3)).block, (ad.add (i.toNat * 3)).off + 2, none⟩ = some (.slice (rd3 xs i).A (rd3 xs i).n (rd3 xs i).c) := by
 obtain ⟨ad, c, e, _, hK, hc0⟩ := Kd.C_get h z3 i h0 h1
 have hc : ∀ j u, c[j]? = some u → w.cell? (ad.add (i.toNat * 3 + j)) = some u := hc0
 have hK' : c = enc3 (rd3 xs i) := hK.1
 subst hK'
 exact ⟨ad, e, hc 0 _ rfl, by rw [← add_field _ _ 1 (by omega)]; exact hc 1 _ rfl, by rw [← add_field _ _ 2 (by omega)]; exact hc 2 _ rfl⟩
theorem three_cells {W : World} {g o : Nat} {a b d : Value} (h0 : W.cell? ⟨g, o, none⟩ = some a) (h1 : W.cell? ⟨g, o + 1, none⟩ = some b) (h2 : W.cell? ⟨g, o + 2, none⟩ = some d) : ∀ (j : Nat) (u : Value), ([a, b, d] : List Value)[j]? = some u → W.cell? ⟨g, o + j, none⟩ = some u
 | 0, u, h => by obtain rfl := Option.some.inj h; exact h0
 | 1, u, h => by obtain rfl := Option.some.inj h; exact h1
 | 2, u, h => by obtain rfl := Option.some.inj h; exact h2
 | j + 3, u, h => by simp at h
def lateB (q : Int) (x : Row3) : Bool := decide (x.b ≤ q)
theorem A0qds_ {p : Prop} (h : p) : Aside0 p := ⟨h⟩
theorem z1qds_ {α : Type} (l : List α) (i : Nat) (a : α) : l.toArray.setIfInBounds i a = (l.set i a).toArray := List.setIfInBounds_toArray l i a
theorem z2qds_ {α : Type} {x : α} {xs : List α} {a : α} : (x :: xs).set 0 a = a :: xs := List.set_cons_zero
theorem z3qds_ {α : Type} {x : α} {xs : List α} {n : Nat} {a : α} : (x :: xs).set (n + 1) a = x :: xs.set n a := List.set_cons_succ
set_option maxRecDepth 100000 in
set_option maxHeartbeats 2000000 in
theorem late_calls (x : Row3) (g : Nat) (q : Int) (w : World) (hb : w.heap[g]? = some (.cells #[.int .i64 q] 3 (0, 0))) :
  Calls Try.prog 96 #[.agg #[.int .i64 x.a, .int .i64 x.b, .slice x.A x.n x.c], .pointer (some ⟨g, 0, none⟩)] w fun e w' => e = .returned (.bool (lateB q x)) ∧ Below w.heap.size w w' := by
 have hu99 := Try.underlying99
 have hlt := blk_lt hb
 have c0 : w.cell? ⟨g, 0, none⟩ = some (.int .i64 q) := (blk_cell hb 0).trans rfl
 unfold lateB
 clear hb
 go_enter Try.func96, Try.ntmps96
 go_wp2
 go_ret
 exact ⟨rfl, below_alloc (Below.refl _ _) _⟩
theorem zero99 (w : World) : (zeroValue 99).run Try.prog w = .ok (.agg #[.int .i64 0, .int .i64 0, .slice none 0 0]) w := by kernel_rfl
theorem rd3_get (l : List Row3) (i : Nat) (h : i < l.length) : rd3 l (i : Int) = l[i] := by
 unfold rd3; rw [Int.toNat_natCast, List.getD_eq_getElem?_getD, List.getElem?_eq_getElem h, Option.getD_some]
set_option maxRecDepth 100000 in
set_option maxHeartbeats 2000000 in
theorem index_set (g : Nat) (q : Int) (A1 : Option Addr) (c1 : Nat) (ms : List Row3) (w : World) (hb : w.heap[g]? = some (.cells #[.int .i64 q] 3 (0, 0))) (hm : Kd.C k3 w A1 ms.length ms) :
  Calls Try.prog 124 #[.slice A1 ms.length c1, .func (.func 96) #[] #[.pointer (some ⟨g, 0, none⟩)]] w fun e w' => (∃ r : Int, e = .returned (.int .i64 r) ∧ FirstAt (lateB q) ms r) ∧ Below w.heap.size w w' := by
 have hmx := hm.2.1
 have hu99 := Try.underlying99
 have HM := A0qds_ hm
 have BG := A0qds_ hb
 clear hb hm
 go_enter Try.func124, Try.ntmps124
 go_wp2
 go_loopg [5, 8] ms.length (fun gg _ s8 wr => ∃ kk : Nat, kk ≤ ms.length ∧ ms.length - kk ≤ gg ∧ s8 = .int .i64 kk ∧ Aside0 (Below w.heap.size w wr) ∧ Aside0 (∀ m ∈ ms.take kk, lateB q m = false))
 case atStart => exact ⟨0, by omega, by omega, rfl, ⟨Below.refl _ _⟩, ⟨fun m hm => by simp at hm⟩⟩
 case round =>
  obtain ⟨kk, hkk, hg, rfl, BW, AA⟩ := hrel
  by_cases hlt : kk < ms.length
  ·have hltz : (kk : Int) < (ms.length : Int) := by omega
   have e0 : decide ((kk : Int) < (ms.length : Int)) = true := decide_eq_true hltz
   obtain ⟨ad, rfl, d0, d1, d2⟩ := at_3 (Kd.C_below HM.out BW.out) (kk : Int) (by omega) hltz
   rw [Int.toNat_natCast] at d0 d1 d2
   have hcall := late_calls (rd3 ms (kk : Int)) g q wr (blk_below BG.out (BW.out))
   have EY := A0qds_ (rd3_get ms kk hlt)
   generalize rd3 ms (kk : Int) = y at d0 d1 d2 hcall EY
   obtain ⟨b, hq⟩ : ∃ b, lateB q y = b := ⟨_, rfl⟩
   rw [hq] at hcall
   have HQ := A0qds_ (show lateB q ms[kk] = b by rw [← EY.out]; exact hq)
   clear hq
   cases b with
   | true =>
    go_wp2_with (go_at_call 96; refine hcall.mono ?_; rintro e w' ⟨rfl, hb'⟩)
    go_ret
    exact ⟨⟨_, rfl, .inr ⟨kk, rfl, hlt, HQ.out, AA.out⟩⟩, BW.out.trans (hb'.mono BW.out.size)⟩
   | false =>
    go_wp2_with (go_at_call 96; refine hcall.mono ?_; rintro e w' ⟨rfl, hb'⟩)
    go_roundg (ms.length - (kk + 1))
    case measure => omega
    case rel =>
     refine ⟨kk + 1, by omega, by omega, by go_num, ⟨BW.out.trans (hb'.mono BW.out.size)⟩, ⟨fun m hm => ?_⟩⟩
     rw [List.take_succ_eq_append_getElem hlt] at hm
     rcases List.mem_append.1 hm with hm | hm
     ·exact AA.out m hm
     ·rw [List.mem_singleton.1 hm]; exact HQ.out
  ·have hltz : ¬ (kk : Int) < (ms.length : Int) := by omega
   go_wp2
   go_ret
   refine ⟨⟨_, rfl, .inl ⟨rfl, fun m hm => ?_⟩⟩, BW.out⟩
   have := AA.out m (by rw [List.take_of_length_le (by omega)]; exact hm)
   exact this
def Kept0 (w w' : World) (g : Nat) : Prop := w.heap.size ≤ w'.heap.size ∧ ∀ k, k < w.heap.size → k ≠ g → w'.heap[k]? = w.heap[k]?
theorem Kept0.below {w w1 w2 : World} {g : Nat} (h : Kept0 w w1 g) (hb : Below w1.heap.size w1 w2) : Kept0 w w2 g := ⟨Nat.le_trans h.1 hb.size, fun k hk hg => (hb.block k (by have := h.1; omega)).trans (h.2 k hk hg)⟩
theorem Kept0.of (w w2 : World) (g : Nat) (hb : Below w.heap.size w w2) : Kept0 w w2 g := ⟨hb.size, fun k hk _ => hb.block k hk⟩
theorem Kept0.alloc {w w1 : World} {g : Nat} (h : Kept0 w w1 g) (c : Obj) : Kept0 w (w1.alloc c) g := h.below (below_alloc (Below.refl _ _) c)
theorem Kept0.grown {w w1 w2 : World} {g : Nat} (h : Kept0 w w1 g) (hg : w1.grownBy w2 (some g)) : Kept0 w w2 g := ⟨Nat.le_trans h.1 hg.size, fun k hk hne => (hg.block k (by have := h.1; omega) (fun he => by injection he with he; exact hne he)).trans (h.2 k hk hne)⟩
theorem same_at3 {ys ms : List Row3} {j : Nat} (h : ys.drop j = ms.drop j) (hj : j < ms.length) (hl : ys.length = ms.length) : ms[j]? = some (rd3 ys (j : Int)) := by
 have h0 := congrArg (fun q : List Row3 => q[0]?) h
 simp only [List.getElem?_drop, Nat.add_zero] at h0
 rw [← h0, rd3_get ys j (by omega), List.getElem?_eq_getElem]
set_option maxRecDepth 100000 in
set_option maxHeartbeats 8000000 in
theorem delete_set (gq : Nat) (q : Int) (v : Value) (ms : List Row3) (base : Nat) (w0 w : World) (hk : w.heap[gq]? = some (.cells #[.int .i64 q] 3 (0, 0))) (hkb : gq < base) (hsz : base ≤ w0.heap.size)
  (HO0 : Kd.R k3 99 w base (fun _ => True) v ms) (HB0 : Below base w0 w) (hn : ms.length ≤ 1000000) :
  Calls Try.prog 95 #[v, .func (.func 96) #[] #[.pointer (some ⟨gq, 0, none⟩)]] w fun e w' => ∃ v' : Value, e = .returned v' ∧ Kd.R k3 99 w' base (fun _ => True) v' (ms.filter (fun m => !lateB q m)) ∧ Below base w0 w' ∧ v'.ownBlock = v.ownBlock ∧ ∀ k, k < w.heap.size → some k ≠ v.ownBlock → w'.heap[k]? = w.heap[k]? := by
 have hu99 := Try.underlying99
 have hu24 := Try.underlying24
 obtain ⟨A1, c1, e1⟩ := Kd.R_slice HO0
 subst e1
 have hidx := index_set gq q A1 c1 ms w hk (Kd.R_reads' HO0).2.2
 have HO := A0qds_ HO0
 have HB := A0qds_ HB0
 have BG := A0qds_ hk
 have HSZ := A0qds_ hsz
 clear HO0 HB0 hk hsz
 go_enter Try.func95, Try.ntmps95
 go_upto_if 12 with (go_at_call 124; refine hidx.mono ?_; rintro e w2 ⟨⟨r, rfl, hf⟩, hb⟩; have HFA := A0qds_ hf; have HBW := A0qds_ hb; clear hf hb)
 clear hidx
 have HO2 := A0qds_ (Kd.R_below HO.out HBW.out)
 have HB2 := A0qds_ (HB.out.trans (HBW.out.mono (by have := HB.out.size; have := HSZ.out; omega)))
 have BG2 := A0qds_ (blk_below BG.out HBW.out)
 have HK2 := A0qds_ (fun gg => Kept0.of w w2 gg HBW.out)
 clear HO HB BG HBW
 rcases HFA.out with ⟨rfl, hall⟩ | ⟨i0, rfl, hi0, hp0, hpre⟩
 ·have HALL := A0qds_ (show ms.filter (fun m => !lateB q m) = ms by
   rw [List.filter_eq_self]
   intro m hm
   rw [hall m hm]; rfl)
  clear hall HFA
  go_wp2
  go_ret
  exact ⟨_, rfl, by rw [HALL.out]; exact HO2.out, HB2.out, rfl, fun k hk _ => (HK2.out w.heap.size).2 k hk (by omega)⟩
 ·obtain ⟨g, c1', e5, hg5, _⟩ := Kd.R_form HO2.out (by omega)
  injection e5 with eA _ eC
  subst eA
  subst eC
  have HP0 := A0qds_ hp0
  have HPRE := A0qds_ (show (ms.take i0).filter (fun m => !lateB q m) = ms.take i0 by
   rw [List.filter_eq_self]
   intro m hm
   rw [hpre m hm]; rfl)
  clear hp0 hpre HFA
  have e1 : (((i0 : Nat) : Int) == -1) = false := beq_eq_false_iff_ne.2 (by omega)
  have e2 : decide (((i0 : Nat) : Int) = -1) = false := decide_eq_false (by omega)
  obtain ⟨n, hnn⟩ : ∃ n, ms.length = n := ⟨_, rfl⟩
  have HNN := A0qds_ hnn
  rw [hnn] at HO2 hi0 hn ⊢
  clear hnn
  obtain ⟨z0, hz0⟩ : ∃ z, ((i0 : Nat) : Int) = z := ⟨_, rfl⟩
  rw [hz0] at e1 e2 ⊢
  have HZ0 := A0qds_ hz0
  clear hz0
  obtain ⟨z1, hz1⟩ : ∃ z, wrap64 (z0 + 1) = z := ⟨_, rfl⟩
  have HZ1 := A0qds_ (show z1 = ((i0 + 1 : Nat) : Int) by have := HZ0.out; rw [← hz1]; unfold wrap64; omega)
  go_wp2
  (try simp only [hz1])
  go_loopg [5, 6] n (fun gg s5 s6 wr => ∃ (i j : Nat) (zi zj : Int) (ys : List Row3), i < j ∧ j ≤ n ∧ n - j ≤ gg ∧ Aside0 (zi = (i : Int)) ∧ Aside0 (zj = (j : Int)) ∧ s5 = .int .i64 zi ∧ s6 = .int .i64 zj ∧ Aside0 (ys.length = n) ∧ Aside0 (ys.take i = (ms.take j).filter (fun m => !lateB q m)) ∧ Aside0 (ys.drop j = ms.drop j) ∧ Aside0 (Below base w0 wr) ∧ Aside0 (wr.heap[gq]? = some (.cells #[.int .i64 q] 3 (0, 0))) ∧ Aside0 (Kd.R k3 99 wr base (fun _ => True) (.slice (some ⟨g, 0, none⟩) n c1) ys) ∧ Aside0 (Kept0 w wr g))
  case atStart =>
   refine ⟨i0, i0 + 1, z0, z1, ms, by omega, by omega, by omega, ⟨HZ0.out.symm⟩, HZ1, rfl, rfl, HNN, ⟨?_⟩, ⟨rfl⟩, HB2, BG2, HO2, ⟨HK2.out g⟩⟩
   have hlt : i0 < ms.length := by have := HNN.out; omega
   rw [List.take_succ_eq_append_getElem hlt, List.filter_append, HPRE.out, List.filter_cons, HP0.out]
   simp
  case round =>
   clear HB2 BG2 HO2 HK2
   obtain ⟨i, j, zi, zj, ys, hij, hjn, hg, HZI, HZJ, rfl, rfl, HYL, HYT, HYD, HB, BG, HO, HK⟩ := hrel
   by_cases hlt : j < n
   ·have e3 : decide (zj < (n : Int)) = true := decide_eq_true (by have := HZJ.out; omega)
    obtain ⟨zj1, hzj1⟩ : ∃ z, wrap64 (zj + 1) = z := ⟨_, rfl⟩
    have HZJ1 := A0qds_ (show zj1 = ((j + 1 : Nat) : Int) by have := HZJ.out; rw [← hzj1]; unfold wrap64; omega)
    obtain ⟨zi1, hzi1⟩ : ∃ z, wrap64 (zi + 1) = z := ⟨_, rfl⟩
    have HZI1 := A0qds_ (show zi1 = ((i + 1 : Nat) : Int) by have := HZI.out; rw [← hzi1]; unfold wrap64; omega)
    have hr := Kd.R_reads' HO.out
    obtain ⟨ad, ea, d0, d1, d2⟩ := at_3 hr.2.2 zj (by have := HZJ.out; omega) (by have := HZJ.out; have := HYL.out; have := hr.1; omega)
    injection ea with ea
    subst ea
    rw [add_plain] at d0 d1 d2
    have HX := A0qds_ (show ms[j]? = some (rd3 ys zj) by rw [HZJ.out]; exact same_at3 HYD.out (by have := HNN.out; omega) (by have := HYL.out; have := HNN.out; omega))
    generalize rd3 ys zj = x at d0 d1 d2 HX
    have h1 : 0 ≤ zj := by have := HZJ.out; omega
    have h2 : zj < (n : Int) := by have := HZJ.out; omega
    obtain ⟨b, hq⟩ : ∃ b, lateB q x = b := ⟨_, rfl⟩
    have HQ := A0qds_ (show lateB q x = b from hq)
    have HCL := A0qds_ (show ∀ W : World, Below base w0 W → W.heap[gq]? = some (.cells #[.int .i64 q] 3 (0, 0)) → Calls Try.prog 96 #[.agg #[.int .i64 x.a, .int .i64 x.b, .slice x.A x.n x.c], .pointer (some ⟨gq, 0, none⟩)] W fun e w' => e = .returned (.bool b) ∧ Below W.heap.size W w' from fun W hW hG => by
     have h9 := late_calls x gq q W hG
     rw [hq] at h9
     exact h9)
    clear hq hr
    go_upto_if 29 with (go_at_call 96; refine (HCL.out _ (HB.out.alloc (by have := HB.out.size; have := HSZ.out; omega) _) (blk_alloc BG.out _)).mono ?_; rintro e w3 ⟨rfl, hb⟩; have HO3 := A0qds_ (Kd.R_below (Kd.R_alloc HO.out _) hb); have BG3 := A0qds_ (blk_below (blk_alloc BG.out _) hb); have BX3 := A0qds_ (blk_below (blk_new wr _) hb); have HK3 := A0qds_ ((HK.out.alloc _).below hb); have HB3 := A0qds_ ((HB.out.alloc (by have := HB.out.size; have := HSZ.out; omega) _).trans (hb.mono (by have := HB.out.size; have := HSZ.out; simp; omega))); clear hb)
    clear HCL d0 d1 d2
    cases b with
    | true =>
     go_wp2
     (try simp only [hzj1])
     go_roundg (n - j - 1)
     case measure => omega
     case rel =>
      refine ⟨i, j + 1, zi, zj1, ys, by omega, by omega, by omega, HZI, HZJ1, rfl, ?_, HYL, ⟨?_⟩, ⟨?_⟩, HB3, BG3, HO3, HK3⟩
      ·first | rfl | exact congrArg (Value.int .i64) (by have := HZJ.out; have := HZJ1.out; omega)
      ·rw [HYT.out, take_snoc_get HX.out, List.filter_append, List.filter_cons, HQ.out]
       simp
      ·exact drop_succ_eq HYD.out
    | false =>
     have b0 : w3.cell? ⟨wr.heap.size, 0, none⟩ = some (.int .i64 x.a) := (blk_cell BX3.out 0).trans rfl
     have b1 : w3.cell? ⟨wr.heap.size, 1, none⟩ = some (.int .i64 x.b) := (blk_cell BX3.out 1).trans rfl
     have b2 : w3.cell? ⟨wr.heap.size, 2, none⟩ = some (.slice x.A x.n x.c) := (blk_cell BX3.out 2).trans rfl
     have h3 : 0 ≤ zi := by have := HZI.out; omega
     have h4 : zi < (n : Int) := by have := HZI.out; omega
     have hr := Kd.R_reads' HO3.out
     obtain ⟨ad, ea, y0, y1, y2⟩ := at_3 hr.2.2 zi h3 (by have := hr.1; omega)
     injection ea with ea
     subst ea
     rw [add_plain] at y0 y1 y2
     have HYY := A0qds_ (And.intro y0 (And.intro y1 y2))
     have HGE := A0qds_ (show gq ≠ g by omega)
     clear hr y0 y1 y2
     go_wp2_with ((with_reducible refine gate_store (t := 99) (p := 33) (v := .tmp 32) rfl ?_); refine Kd.R_store k3 (w0 := w0) base rfl rfl 99 (.tmp 33) (.tmp 32) rfl 99 (g:=g) (n := n) (cap := c1) zi 0 ys x (.agg #[.int .i64 x.a, .int .i64 x.b, .slice x.A x.n x.c]) [.int .i64 x.a, .int .i64 x.b, .slice x.A x.n x.c] [.int .i64 (rd3 ys zi).a, .int .i64 (rd3 ys zi).b, .slice (rd3 ys zi).A (rd3 ys zi).n (rd3 ys zi).c] (fun _ => True) (fun _ => False) rfl ?sO rfl rfl (by kernel_rfl) ?sU HO3.out h3 h4 rfl ?sC (Nat.le_refl 3) ?sM (fun _ h => h.elim) HB3.out ?_; (case sO => rfl); (case sU => intro q hq; simp only [List.mem_cons, List.not_mem_nil, or_false] at hq; rcases hq with rfl | rfl | rfl <;> rfl); (case sC => exact three_cells HYY.out.1 HYY.out.2.1 HYY.out.2.2); (case sM => exact k3_mkM _ _ _ x); intro w4 ho hb hgr; have HO4 := A0qds_ ho; have HB4 := A0qds_ hb; have BG4 := A0qds_ ((hgr.block gq (blk_lt BG3.out) (fun he => by injection he with he; exact HGE.out he)).trans BG3.out); have HK4 := A0qds_ (HK3.out.grown hgr); clear ho hb hgr)
     go_roundg (n - j - 1)
     case measure => omega
     case rel =>
      refine ⟨i + 1, j + 1, zi1, zj1, ys.set zi.toNat x, by omega, by omega, by omega, HZI1, HZJ1, ?_, ?_, ⟨by rw [List.length_set]; exact HYL.out⟩, ⟨?_⟩, ⟨?_⟩, HB4, BG4, HO4, HK4⟩
      ·first | rfl | exact congrArg (Value.int .i64) (by have := HZI.out; have := HZI1.out; omega)
      ·first | rfl | exact congrArg (Value.int .i64) (by have := HZJ.out; have := HZJ1.out; omega)
      ·rw [show zi.toNat = i by have := HZI.out; omega, take_set_snoc _ _ _ (by have := HYL.out; omega), HYT.out, take_snoc_get HX.out, List.filter_append, List.filter_cons, HQ.out]
       simp
      ·rw [show zi.toNat = i by have := HZI.out; omega, drop_set_lt _ _ _ _ (by omega)]
       exact drop_succ_eq HYD.out
   ·have e3 : decide (zj < (n : Int)) = false := decide_eq_false (by have := HZJ.out; omega)
    have hjn2 : j = n := by omega
    have HFIN := A0qds_ (show ys.take i = ms.filter (fun m => !lateB q m) by
     rw [HYT.out, hjn2, List.take_of_length_le (by have := HNN.out; omega)])
    have h1 : 0 ≤ zi := by have := HZI.out; omega
    have h2 : zi ≤ (n : Int) := by have := HZI.out; omega
    have hcap : n ≤ c1 := (Kd.R_reads' HO.out).2.1
    have hzt : zi.toNat = i := by have := HZI.out; omega
    have HZT := A0qds_ hzt
    have hle9 : zi.toNat ≤ n := by omega
    clear hzt
    go_wp2_with ((with_reducible refine gate_builtin (b := .clear) (xs := #[.tmp 38]) rfl ?_); refine clear_step k3 (w0 := w0) base rfl (.tmp 38) 24 99 (.agg #[.int .i64 0, .int .i64 0, .slice none 0 0]) rfl Try.underlying24 zero99 rfl (by intro u hu; simp only [Value.cells, List.mem_cons, List.not_mem_nil, or_false] at hu; rcases hu with rfl | rfl | rfl <;> rfl) (g:=g) (i:=zi.toNat) (n := n) (cap := c1) ys (fun _ => True) _ rfl ?cA hle9 (by decide) HO.out HB.out ?_; (case cA => intro h9; first | rfl | (rw [if_neg (by omega)]; rfl) | (split <;> first | rfl | (exfalso; omega)) | (simp [show c1 ≠ zi.toNat by omega]; done) | (exfalso; omega)); intro w4 ho hb hgg; have HO4 := A0qds_ ho; have HB4 := A0qds_ hb; have HK4 := A0qds_ (HK.out.grown hgg); clear ho hb hgg)
    all_goals (go_ret; refine ⟨_, rfl, ?_, HB4.out, rfl, fun k hk hne => HK4.out.2 k hk (fun he => hne (by rw [he]; rfl))⟩; rw [← HFIN.out, ← HZT.out]; first | exact HO4.out | (have h9 : c1 = zi.toNat := (by omega); have h8 := HO4.out; rw [h9] at h8; exact h8))
end Go.Proofs.Ythdhkoeaadahaaa.P
end
