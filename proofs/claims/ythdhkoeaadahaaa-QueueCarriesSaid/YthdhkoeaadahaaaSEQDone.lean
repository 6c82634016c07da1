-- PACKED by wip/kit/pack.py: what the law's proof uses of EQDone (printed words and texts of this seat)
import Derived.Test.YthdhkoeaadahaaaSEDelSet
import Derived.Test.YthdhkoeaadahaaaSPx8
namespace Go.Proofs.Ythdhkoeaadahaaa.P
open Go.RowKit Go.Proofs.YthdhkoeaadahaaaW.PrintWords Go.Proofs.YthdhkoeaadahaaaW.PrintLast Go.Proofs.YthdhkoeaadahaaaW.PrintMore
attribute [local go_sem] Oper.semAt_some
set_option linter.unusedVariables false
set_option linter.unusedSimpArgs false
theorem R_enc {W : World} {base : Nat} {v : Value} {rs : List Row3} (h : Kd.R k3 99 W base (fun _ => True) v rs) : Kd.R (Kd.raw 3) 99 W base (fun _ => True) v (rs.map enc3) := by
 obtain ⟨h0, inner, ho, hr⟩ := h
 refine ⟨h0, inner, by rw [List.length_map]; exact ho, by rw [List.length_map]; exact hr.1, fun j p hj => ?_⟩
 rw [List.getElem?_map] at hj
 obtain ⟨r, hr', rfl⟩ := Option.map_eq_some_iff.1 hj
 exact hr.2 j r hr'
theorem raw_of_S {W : World} {base : Nat} {ok : Nat → Prop} {v : Value} {xs : List S99} (h : Kd.S k99 99 W base ok v xs) :
  ∃ (f : Nat → Nat) (rows : List Row3), rows.length = xs.length ∧ (∀ k, v.ownBlock = some k → ok k) ∧ Kd.R k3 99 W base (fun _ => True) v rows ∧ ∀ (j : Nat) x r, xs[j]? = some x → rows[j]? = some r → k99.M W base (fun k => (ok k ∧ some k ≠ v.ownBlock) ∧ f k = j) x (enc3 r) := by
 obtain ⟨f, hok, inner, hown, hr⟩ := h
 rw [List.length_zipIdx] at hown
 have hsz := hr.1
 rw [List.length_zipIdx] at hsz
 have key : ∀ j : Fin xs.length, ∃ r : Row3, k99.M W base (fun k => (ok k ∧ some k ≠ v.ownBlock) ∧ f k = j.1) (xs[j.1]'j.2) (enc3 r) ∧ (inner.drop (j.1 * 3)).take 3 = enc3 r := by
  intro j
  have hM : k99.M W base (fun k => (ok k ∧ some k ≠ v.ownBlock) ∧ f k = j.1) (xs[j.1]'j.2) ((inner.drop (j.1 * 3)).take 3) := hr.2 j.1 (xs[j.1]'j.2, j.1) (Kd.zip_at (List.getElem?_eq_getElem j.2))
  obtain ⟨v2, e, hR⟩ := k99_openM hM
  obtain ⟨A, c, rfl⟩ := Kd.R_slice hR
  refine ⟨⟨(xs[j.1]'j.2).f0, (xs[j.1]'j.2).f1, A, _, c⟩, ?_, e⟩
  rw [e] at hM
  exact hM
 refine ⟨f, List.ofFn (fun j => Classical.choose (key j)), List.length_ofFn, hok, ⟨fun _ _ => trivial, inner, by rw [List.length_ofFn]; exact hown, by rw [List.length_ofFn]; exact hsz, fun j p hj => ?_⟩, fun j x r hx hr' => ?_⟩
 ·obtain ⟨hjl, hjp⟩ := List.getElem?_eq_some_iff.1 hj
  rw [List.length_ofFn] at hjl
  rw [List.getElem_ofFn] at hjp
  have h2 := (Classical.choose_spec (key ⟨j, hjl⟩)).2
  rw [hjp] at h2
  show k3.M W base _ p ((inner.drop (j * 3)).take 3)
  rw [h2]
  exact k3_mkM _ _ _ p
 ·obtain ⟨hjl, hjp⟩ := List.getElem?_eq_some_iff.1 hr'
  rw [List.length_ofFn] at hjl
  rw [List.getElem_ofFn] at hjp
  have h2 := (Classical.choose_spec (key ⟨j, hjl⟩)).1
  rw [hjp] at h2
  obtain ⟨_, hx2⟩ := List.getElem?_eq_some_iff.1 hx
  rw [hx2] at h2
  exact h2
theorem filt_idx {α : Type} (p : α → Bool) : ∀ (zs : List α) (i : Nat) (z : α), (zs.filter p)[i]? = some z → ∃ j, zs[j]? = some z ∧ ((zs.take j).filter p).length = i ∧ p z = true
 | [], i, z, h => by simp at h
 | y :: ys, i, z, h => by
  cases hp : p y with
  | true =>
   rw [List.filter_cons_of_pos hp] at h
   cases i with
   | zero =>
    obtain rfl : y = z := by simpa using h
    exact ⟨0, rfl, rfl, hp⟩
   | succ i =>
    obtain ⟨j, h1, h2, h3⟩ := filt_idx p ys i z (by simpa using h)
    exact ⟨j + 1, by simpa using h1, by rw [List.take_succ_cons, List.filter_cons_of_pos hp, List.length_cons, h2], h3⟩
  | false =>
   rw [List.filter_cons_of_neg (by simp [hp])] at h
   obtain ⟨j, h1, h2, h3⟩ := filt_idx p ys i z h
   exact ⟨j + 1, by simpa using h1, by rw [List.take_succ_cons, List.filter_cons_of_neg (by simp [hp]), h2], h3⟩
theorem enc3_b {W : World} {base : Nat} {ok : Nat → Prop} {x : S99} {r : Row3} (h : k99.M W base ok x (enc3 r)) : r.b = x.f1 := by
 obtain ⟨v2, e, _⟩ := k99_openM h
 have h1 := congrArg (fun l : List Value => l[1]?) e
 injection h1 with h1
 injection h1
def lateQ (q : Int) (s : S99) : Bool := !decide (s.f1 ≤ q)
theorem S_filter {W W' : World} {base : Nat} {ok : Nat → Prop} {v v' : Value} {xs : List S99} {q : Int} {f : Nat → Nat} {rows : List Row3} (hl : rows.length = xs.length) (hok : ∀ k, v.ownBlock = some k → ok k)
  (hM : ∀ (j : Nat) x r, xs[j]? = some x → rows[j]? = some r → k99.M W base (fun k => (ok k ∧ some k ≠ v.ownBlock) ∧ f k = j) x (enc3 r)) (hR : Kd.R k3 99 W' base (fun _ => True) v' (rows.filter (fun r => !lateB q r))) (hv : v'.ownBlock = v.ownBlock) (hk : ∀ k, k < W.heap.size → some k ≠ v.ownBlock → W'.heap[k]? = W.heap[k]?) :
  Kd.S k99 99 W' base ok v' (xs.filter (lateQ q)) := by
 have h1 : (rows.zip xs).map Prod.fst = rows := List.map_fst_zip (by omega)
 have h2 : (rows.zip xs).map Prod.snd = xs := List.map_snd_zip (by omega)
 have hz : ∀ (j : Nat) z, (rows.zip xs)[j]? = some z → rows[j]? = some z.1 ∧ xs[j]? = some z.2 := fun j z hj => by
  constructor
  ·rw [← h1, List.getElem?_map, hj]; rfl
  ·rw [← h2, List.getElem?_map, hj]; rfl
 have hb : ∀ z ∈ rows.zip xs, lateQ q z.2 = !lateB q z.1 := fun z hz' => by
  obtain ⟨j, hj⟩ := List.getElem?_of_mem hz'
  obtain ⟨e1, e2⟩ := hz j z hj
  have := enc3_b (hM j z.2 z.1 e2 e1)
  unfold lateQ lateB
  rw [this]
 have f1 : rows.filter (fun r => !lateB q r) = ((rows.zip xs).filter (fun z => !lateB q z.1)).map Prod.fst := by
  conv => lhs; rw [← h1]
  rw [List.filter_map]; rfl
 have f2 : xs.filter (lateQ q) = ((rows.zip xs).filter (fun z => !lateB q z.1)).map Prod.snd := by
  conv => lhs; rw [← h2]
  rw [List.filter_map]
  congr 1
  exact List.filter_congr (fun z hz' => hb z hz')
 rw [f1] at hR
 rw [f2]
 refine S_of_raw (fun k => (((rows.zip xs).take (f k)).filter (fun z => !lateB q z.1)).length) (by simp only [List.length_map]) (R_enc hR) (fun k h => hok k (hv ▸ h)) (fun j x c hx hc => ?_)
 rw [List.getElem?_map] at hx
 rw [List.getElem?_map, List.getElem?_map] at hc
 obtain ⟨z, hz1, rfl⟩ := Option.map_eq_some_iff.1 hx
 rw [hz1] at hc
 obtain rfl : enc3 z.1 = c := Option.some.inj hc
 obtain ⟨j0, hj0, hlen, _⟩ := filt_idx _ _ _ _ hz1
 obtain ⟨e1, e2⟩ := hz j0 z hj0
 refine k99.M_mono (fun k hk' => ⟨⟨hk'.1.1, hv ▸ hk'.1.2⟩, ?_⟩) (Kd.M_step (hM j0 z.2 z.1 e2 e1) (fun k hok' hlt => hk k hlt hok'.1.2))
 show (((rows.zip xs).take (f k)).filter (fun z => !lateB q z.1)).length = j
 rw [hk'.2]
 exact hlen
theorem delete_sets (g : Nat) (q : Int) (A5 A6 : Option Addr) (c5 c6 : Nat) (l : List S99) (o : List S74) (base : Nat) (W : World) (hk : W.heap[g]? = some (.cells #[.int .i64 q] 3 (0, 0))) (hg : g < base) (hb : base ≤ W.heap.size) (hn : l.length ≤ 1000)
  (hS : Kd.S k99 99 W base (fun k_ => some k_ ≠ (Value.slice A6 o.length c6).ownBlock) (.slice A5 l.length c5) l) (hO : Kd.R k74 74 W base (fun _ => True) (.slice A6 o.length c6) o) :
  Calls Try.prog 95 #[.slice A5 l.length c5, .func (.func 96) #[] #[.pointer (some ⟨g, 0, none⟩)]] W fun e w' => ∃ A7 c7, e = .returned (.slice A7 (l.filter (lateQ q)).length c7) ∧ Kd.S k99 99 w' base (fun k_ => some k_ ≠ (Value.slice A6 o.length c6).ownBlock) (.slice A7 (l.filter (lateQ q)).length c7) (l.filter (lateQ q)) ∧ Kd.R k74 74 w' base (fun _ => True) (.slice A6 o.length c6) o ∧ Below base W w' := by
 obtain ⟨f, rows, hl, hok, hR, hM⟩ := raw_of_S hS
 refine (delete_set g q _ rows base W W hk hg hb hR (Below.refl base W) (by omega)).mono ?_
 rintro e w' ⟨v', rfl, hR', hB, hv, hkp⟩
 have hS' := S_filter hl hok hM hR' hv hkp
 obtain ⟨A7, c7, rfl⟩ := Kd.R_slice (Kd.S_R hS')
 refine ⟨A7, c7, rfl, hS', ?_, hB⟩
 refine Kd.R_mono (Kd.R_step (Kd.R_bound hO) (fun k hk' hlt => hkp k hlt (fun he => ?_))) (fun _ _ => trivial)
 obtain ⟨_, _, _, t, ht, cells', hc'⟩ := hk'
 obtain ⟨cells, hc⟩ := Kd.R_typed (Kd.S_R hS) k he.symm
 rw [hc'] at hc
 injection hc with hc
 injection hc with _ hc
 exact (show ∀ t, t ∈ 74 :: k74.E → t ≠ 99 by decide) t ht hc
def queue_Done.f (k : Nat) (l0_0 : List S99) (l0_1 : List S74) (a0_2 a0_3 a1 : Int) : Option (List S99 × List S74 × Int × Int × Int) := (queue_Right.f k l0_0 l0_1 a0_2 a0_3).bind fun t => if t = true then (if smallQ l0_0 l0_1 then some (l0_0.filter (lateQ a1), l0_1, a0_2, a0_3, 0) else none) else some ([], [], 0, 0, 1)
theorem queue_Done.mono : ∀ a0 a1 a2 a3 a4 k, LeO (queue_Done.f k a0 a1 a2 a3 a4) (queue_Done.f (k + 1) a0 a1 a2 a3 a4) := by
 intro a0 a1 a2 a3 a4 k
 unfold queue_Done.f
 exact LeO.bind (queue_Right.mono a0 a1 a2 a3 k) (fun _ => LeO.refl _)
theorem A0qdo_ {p : Prop} (h : p) : Aside0 p := ⟨h⟩
theorem z1qdo_ {α : Type} (l : List α) (i : Nat) (a : α) : l.toArray.setIfInBounds i a = (l.set i a).toArray := List.setIfInBounds_toArray l i a
theorem z2qdo_ {α : Type} {x : α} {xs : List α} {a : α} : (x :: xs).set 0 a = a :: xs := List.set_cons_zero
theorem z3qdo_ {α : Type} {x : α} {xs : List α} {n : Nat} {a : α} : (x :: xs).set (n + 1) a = x :: xs.set n a := List.set_cons_succ
set_option maxRecDepth 100000 in
set_option maxHeartbeats 8000000 in
theorem queue_Done.calls (k : Nat) (A0_0 : Option Addr) (c0_0 : Nat) (l0_0 : List S99) (A0_1 : Option Addr) (c0_1 : Nat) (l0_1 : List S74) (a0_2 a0_3 a1 : Int) (r0 : List S99) (r1 : List S74) (r2 r3 r4 : Int) (w : World) (hr0_0 : Kd.C k99 w A0_0 l0_0.length l0_0) (hc0_0 : l0_0.length ≤ c0_0) (hr0_1 : Kd.C k74 w A0_1 l0_1.length l0_1) (hc0_1 : l0_1.length ≤ c0_1) (h : queue_Done.f k l0_0 l0_1 a0_2 a0_3 a1 = some (r0, r1, r2, r3, r4)) :
  Calls Try.prog 36 #[.agg #[.slice A0_0 l0_0.length c0_0, .slice A0_1 l0_1.length c0_1, .int .i64 a0_2, .int .i64 a0_3], .int .i64 a1] w fun e w' => ∃ v0_ v1_ : Value, e = .returned (.tuple #[.agg #[v0_, v1_, .int .i64 r2, .int .i64 r3], .int .i64 r4]) ∧ Kd.S k99 99 w' w.heap.size (fun k_ => some k_ ≠ (v1_ : Value).ownBlock) v0_ r0 ∧ Kd.R k74 74 w' w.heap.size (fun _ => True) v1_ r1 ∧ Below w.heap.size w w' := by
 have hu27 := Try.underlying27
 have hu24 := Try.underlying24
 have hu99 := Try.underlying99
 have H : (queue_Right.f k l0_0 l0_1 a0_2 a0_3).bind (fun t => if t = true then (if smallQ l0_0 l0_1 then some (l0_0.filter (lateQ a1), l0_1, a0_2, a0_3, 0) else none) else some ([], [], 0, 0, 1)) = some (r0, r1, r2, r3, r4) := h
 clear h
 obtain ⟨t, hA, H1⟩ := Option.bind_eq_some_iff.mp H
 clear H
 have HCR := A0qdo_ (show ∀ W : World, Below w.heap.size w W → Calls Try.prog 75 #[.agg #[.slice A0_0 l0_0.length c0_0, .slice A0_1 l0_1.length c0_1, .int .i64 a0_2, .int .i64 a0_3]] W fun e w' => e = .returned (.bool t) ∧ Below W.heap.size W w' from fun W hW => queue_Right.calls k A0_0 c0_0 l0_0 A0_1 c0_1 l0_1 a0_2 a0_3 t W (Kd.C_below hr0_0 hW) hc0_0 (Kd.C_below hr0_1 hW) hc0_1 hA)
 clear hA
 cases t with
 | false =>
  have H2 : some (([] : List S99), ([] : List S74), (0 : Int), (0 : Int), (1 : Int)) = some (r0, r1, r2, r3, r4) := by rw [if_neg (by decide)] at H1; exact H1
  clear H1 hr0_0 hr0_1
  simp only [Option.some.injEq, Prod.mk.injEq] at H2
  obtain ⟨rfl, rfl, rfl, rfl, rfl⟩ := H2
  go_enter Try.func36, Try.ntmps36
  go_wp2_with (first
   | ((with_reducible refine gate_dst (N:=2) rfl ?_); refine box_event ?hg (N:=2) ?hd (cs := #[.slice A0_0 l0_0.length c0_0, .slice A0_1 l0_1.length c0_1, .int .i64 a0_2, .int .i64 a0_3]) (t := 27) ?hr ?_; (case hd => rfl); (case hg => rfl); (case hr => first | (go_simp; done) | (go_simp; rfl)); intro g1 hg w1 hbox hb; have BK1 := A0qdo_ hbox; have HB1 := A0qdo_ hb; have GE1 := A0qdo_ (show w.heap.size ≤ g1 by rw [hg]; exact Nat.le_refl _); clear hb hbox hg)
   | ((with_reducible refine gate_dst (N:=3) rfl ?_); refine box_event ?hg (N:=3) ?hd (cs := #[.int .i64 a1]) (t := 3) ?hr ?_; (case hd => rfl); (case hg => rfl); (case hr => first | (go_simp; done) | (go_simp; rfl)); intro g2 hg w2 hbox hb; have BK2 := A0qdo_ hbox; have BK1_2 := A0qdo_ (blk_below BK1.out hb); have HB2 := A0qdo_ (below_step HB1.out hb); have GE2 := A0qdo_ (show w.heap.size ≤ g2 by rw [hg]; exact HB1.out.size); have NB12 := A0qdo_ (show g1 ≠ g2 by rw [hg]; exact (Nat.ne_of_lt (blk_lt BK1.out))); clear hb hbox hg BK1)
   | ((with_reducible refine gate_dst (N:=4) rfl ?_); refine box_event ?hg (N:=4) ?hd (cs := #[.slice none 0 0, .slice none 0 0, .int .i64 0, .int .i64 0]) (t := 27) ?hr ?_; (case hd => rfl); (case hg => rfl); (case hr => first | (go_simp; done) | (go_simp; rfl)); intro g3 hg w3 hbox hb; have BK3_3 := A0qdo_ hbox; have BK1_3 := A0qdo_ (blk_below BK1_2.out hb); have BK2_3 := A0qdo_ (blk_below BK2.out hb); have HB3 := A0qdo_ (below_step HB2.out hb); have GE3 := A0qdo_ (show w.heap.size ≤ g3 by rw [hg]; exact HB2.out.size); have NB13 := A0qdo_ (show g1 ≠ g3 by rw [hg]; exact (Nat.ne_of_lt (blk_lt BK1_2.out))); have NB23 := A0qdo_ (show g2 ≠ g3 by rw [hg]; exact (Nat.ne_of_lt (blk_lt BK2.out))); clear hb hbox hg BK1_2 BK2; have x0 : w3.cell? ⟨g1, 0, none⟩ = some (.slice A0_0 l0_0.length c0_0) := (blk_cell BK1_3.out 0).trans rfl; have x1 : w3.cell? ⟨g1, 1, none⟩ = some (.slice A0_1 l0_1.length c0_1) := (blk_cell BK1_3.out 1).trans rfl; have x2 : w3.cell? ⟨g1, 2, none⟩ = some (.int .i64 a0_2) := (blk_cell BK1_3.out 2).trans rfl; have x3 : w3.cell? ⟨g1, 3, none⟩ = some (.int .i64 a0_3) := (blk_cell BK1_3.out 3).trans rfl)
   | (go_at_call 75; refine (HCR.out _ HB3.out).mono ?_; rintro e w4 ⟨rfl, hb⟩; have BK1_4 := A0qdo_ (blk_below BK1_3.out hb); have BK2_4 := A0qdo_ (blk_below BK2_3.out hb); have BK3_4 := A0qdo_ (blk_below BK3_3.out hb); have HB4 := A0qdo_ (below_step HB3.out hb); clear hb x0 x1 x2 x3; have y0 : w4.cell? ⟨g3, 0, none⟩ = some (.slice none 0 0) := (blk_cell BK3_4.out 0).trans rfl; have y1 : w4.cell? ⟨g3, 1, none⟩ = some (.slice none 0 0) := (blk_cell BK3_4.out 1).trans rfl; have y2 : w4.cell? ⟨g3, 2, none⟩ = some (.int .i64 0) := (blk_cell BK3_4.out 2).trans rfl; have y3 : w4.cell? ⟨g3, 3, none⟩ = some (.int .i64 0) := (blk_cell BK3_4.out 3).trans rfl; have z0 := blk_frozen BK3_4.out 0; have z1 := blk_frozen BK3_4.out 1; have z2 := blk_frozen BK3_4.out 2; have z3 := blk_frozen BK3_4.out 3))
  refine bodyPost_ret (results_ct rfl _ _ g3 27 #[.slice none 0 0, .slice none 0 0, .int .i64 0, .int .i64 0] (0, 0) _ rfl (by (with_reducible repeat (first | refine blk_drewN ?_ _ | refine blk_drew ?_ | refine blk_alloc ?_ _)); refine blk_put (cs := #[.slice none 0 0, .slice none 0 0, .int .i64 0, .int .i64 0]) ?_ 3 _ rfl; refine blk_put (cs := #[.slice none 0 0, .slice none 0 0, .int .i64 0, .int .i64 0]) ?_ 2 _ rfl; refine blk_put (cs := #[.slice none 0 0, .slice none 0 0, .int .i64 0, .int .i64 0]) ?_ 1 _ rfl; refine blk_put (cs := #[.slice none 0 0, .slice none 0 0, .int .i64 0, .int .i64 0]) ?_ 0 _ rfl; exact BK3_4.out) Try.underlying27 rfl (by kernel_rfl)) rfl ?_
  exact ⟨_, _, rfl, Kd.S_nil _ _ _ _ _, Kd.R_nil _ _ _ _ _, by repeat (first | exact HB4.out | refine below_set ?_ GE3.out | apply below_drew1)⟩
 | true =>
  by_cases hs : smallQ l0_0 l0_1
  ·have H2 : some (l0_0.filter (lateQ a1), l0_1, a0_2, a0_3, (0 : Int)) = some (r0, r1, r2, r3, r4) := by rw [if_pos rfl, if_pos hs] at H1; exact H1
   clear H1
   simp only [Option.some.injEq, Prod.mk.injEq] at H2
   obtain ⟨rfl, rfl, rfl, rfl, rfl⟩ := H2
   have HCC := A0qdo_ (show ∀ W : World, Below w.heap.size w W → Calls Try.prog 94 #[.agg #[.slice A0_0 l0_0.length c0_0, .slice A0_1 l0_1.length c0_1, .int .i64 a0_2, .int .i64 a0_3]] W fun e w' => ∃ v0_ v1_ : Value, e = .returned (.agg #[v0_, v1_, .int .i64 a0_2, .int .i64 a0_3]) ∧ Kd.S k99 99 w' W.heap.size (fun k_ => some k_ ≠ (v1_ : Value).ownBlock) v0_ l0_0 ∧ Kd.R k74 74 w' W.heap.size (fun _ => True) v1_ l0_1 ∧ Below W.heap.size W w' from fun W hW => queue_clone.calls A0_0 c0_0 l0_0 A0_1 c0_1 l0_1 a0_2 a0_3 l0_0 l0_1 a0_2 a0_3 W (Kd.C_below hr0_0 hW) hc0_0 (Kd.C_below hr0_1 hW) hc0_1 (by unfold queue_clone.f; rw [if_pos hs]))
   have HSM := A0qdo_ hs.1
   clear hs hr0_0 hr0_1
   go_enter Try.func36, Try.ntmps36
   go_wp2_with (first
   | ((with_reducible refine gate_dst (N:=2) rfl ?_); refine box_event ?hg (N:=2) ?hd (cs := #[.slice A0_0 l0_0.length c0_0, .slice A0_1 l0_1.length c0_1, .int .i64 a0_2, .int .i64 a0_3]) (t := 27) ?hr ?_; (case hd => rfl); (case hg => rfl); (case hr => first | (go_simp; done) | (go_simp; rfl)); intro g1 hg w1 hbox hb; have BK1 := A0qdo_ hbox; have HB1 := A0qdo_ hb; have GE1 := A0qdo_ (show w.heap.size ≤ g1 by rw [hg]; exact Nat.le_refl _); clear hb hbox hg)
   | ((with_reducible refine gate_dst (N:=3) rfl ?_); refine box_event ?hg (N:=3) ?hd (cs := #[.int .i64 a1]) (t := 3) ?hr ?_; (case hd => rfl); (case hg => rfl); (case hr => first | (go_simp; done) | (go_simp; rfl)); intro g2 hg w2 hbox hb; have BK2 := A0qdo_ hbox; have BK1_2 := A0qdo_ (blk_below BK1.out hb); have HB2 := A0qdo_ (below_step HB1.out hb); have GE2 := A0qdo_ (show w.heap.size ≤ g2 by rw [hg]; exact HB1.out.size); have NB12 := A0qdo_ (show g1 ≠ g2 by rw [hg]; exact (Nat.ne_of_lt (blk_lt BK1.out))); clear hb hbox hg BK1)
   | ((with_reducible refine gate_dst (N:=4) rfl ?_); refine box_event ?hg (N:=4) ?hd (cs := #[.slice none 0 0, .slice none 0 0, .int .i64 0, .int .i64 0]) (t := 27) ?hr ?_; (case hd => rfl); (case hg => rfl); (case hr => first | (go_simp; done) | (go_simp; rfl)); intro g3 hg w3 hbox hb; have BK3_3 := A0qdo_ hbox; have BK1_3 := A0qdo_ (blk_below BK1_2.out hb); have BK2_3 := A0qdo_ (blk_below BK2.out hb); have HB3 := A0qdo_ (below_step HB2.out hb); have GE3 := A0qdo_ (show w.heap.size ≤ g3 by rw [hg]; exact HB2.out.size); have NB13 := A0qdo_ (show g1 ≠ g3 by rw [hg]; exact (Nat.ne_of_lt (blk_lt BK1_2.out))); have NB23 := A0qdo_ (show g2 ≠ g3 by rw [hg]; exact (Nat.ne_of_lt (blk_lt BK2.out))); clear hb hbox hg BK1_2 BK2; have x0 : w3.cell? ⟨g1, 0, none⟩ = some (.slice A0_0 l0_0.length c0_0) := (blk_cell BK1_3.out 0).trans rfl; have x1 : w3.cell? ⟨g1, 1, none⟩ = some (.slice A0_1 l0_1.length c0_1) := (blk_cell BK1_3.out 1).trans rfl; have x2 : w3.cell? ⟨g1, 2, none⟩ = some (.int .i64 a0_2) := (blk_cell BK1_3.out 2).trans rfl; have x3 : w3.cell? ⟨g1, 3, none⟩ = some (.int .i64 a0_3) := (blk_cell BK1_3.out 3).trans rfl)
   | (go_at_call 75; refine (HCR.out _ HB3.out).mono ?_; rintro e w4 ⟨rfl, hb⟩; have BK1_4 := A0qdo_ (blk_below BK1_3.out hb); have BK2_4 := A0qdo_ (blk_below BK2_3.out hb); have BK3_4 := A0qdo_ (blk_below BK3_3.out hb); have HB4 := A0qdo_ (below_step HB3.out hb); clear hb x0 x1 x2 x3; have x0 : w4.cell? ⟨g1, 0, none⟩ = some (.slice A0_0 l0_0.length c0_0) := (blk_cell BK1_4.out 0).trans rfl; have x1 : w4.cell? ⟨g1, 1, none⟩ = some (.slice A0_1 l0_1.length c0_1) := (blk_cell BK1_4.out 1).trans rfl; have x2 : w4.cell? ⟨g1, 2, none⟩ = some (.int .i64 a0_2) := (blk_cell BK1_4.out 2).trans rfl; have x3 : w4.cell? ⟨g1, 3, none⟩ = some (.int .i64 a0_3) := (blk_cell BK1_4.out 3).trans rfl)
   | (go_at_call 94; refine (HCC.out _ HB4.out).mono ?_; rintro e w5 ⟨v0, v1, rfl, hs, ho, hb⟩; obtain ⟨A6, c6, rfl⟩ := Kd.R_slice ho; obtain ⟨A5, c5, rfl⟩ := Kd.R_slice (Kd.S_R hs); have BK1_5 := A0qdo_ (blk_below BK1_4.out hb); have BK2_5 := A0qdo_ (blk_below BK2_4.out hb); have BK3_5 := A0qdo_ (blk_below BK3_4.out hb); have HB5 := A0qdo_ (below_step HB4.out hb); have HSZ5 := A0qdo_ hb.size; have HS5 := A0qdo_ hs; have HO5 := A0qdo_ ho; clear hs ho hb x0 x1 x2 x3; have x0 : w5.cell? ⟨g1, 0, none⟩ = some (.slice A0_0 l0_0.length c0_0) := (blk_cell BK1_5.out 0).trans rfl; have x1 : w5.cell? ⟨g1, 1, none⟩ = some (.slice A0_1 l0_1.length c0_1) := (blk_cell BK1_5.out 1).trans rfl; have x2 : w5.cell? ⟨g1, 2, none⟩ = some (.int .i64 a0_2) := (blk_cell BK1_5.out 2).trans rfl; have x3 : w5.cell? ⟨g1, 3, none⟩ = some (.int .i64 a0_3) := (blk_cell BK1_5.out 3).trans rfl; have z0 := blk_frozen BK1_5.out 0; have z1 := blk_frozen BK1_5.out 1; have z2 := blk_frozen BK1_5.out 2; have z3 := blk_frozen BK1_5.out 3)
   | (go_at_call 95; refine (delete_sets g2 a1 A5 A6 c5 c6 l0_0 l0_1 w4.heap.size _ (blk_far (p := ⟨g1, 3, none⟩) (blk_far (p := ⟨g1, 2, none⟩) (blk_far (p := ⟨g1, 1, none⟩) (blk_far (p := ⟨g1, 0, none⟩) BK2_5.out NB12.out.symm (.slice A5 l0_0.length c5)) NB12.out.symm (.slice A6 l0_1.length c6)) NB12.out.symm (.int .i64 a0_2)) NB12.out.symm (.int .i64 a0_3)) (blk_lt BK2_4.out) (by simpa using HSZ5.out) HSM.out (Kd.S_mono (Kd.S_far (p := ⟨g1, 3, none⟩) (Kd.S_far (p := ⟨g1, 2, none⟩) (Kd.S_far (p := ⟨g1, 1, none⟩) (Kd.S_far (p := ⟨g1, 0, none⟩) (Kd.S_types HS5.out BK1_5.out (by decide)) (fun _ hk => hk.2) (.slice A5 l0_0.length c5)) (fun _ hk => hk.2) (.slice A6 l0_1.length c6)) (fun _ hk => hk.2) (.int .i64 a0_2)) (fun _ hk => hk.2) (.int .i64 a0_3)) (fun _ hk => hk.1)) (Kd.R_mono (Kd.R_far (p := ⟨g1, 3, none⟩) (Kd.R_far (p := ⟨g1, 2, none⟩) (Kd.R_far (p := ⟨g1, 1, none⟩) (Kd.R_far (p := ⟨g1, 0, none⟩) (Kd.R_types HO5.out BK1_5.out (by decide)) (fun _ hk => hk.2) (.slice A5 l0_0.length c5)) (fun _ hk => hk.2) (.slice A6 l0_1.length c6)) (fun _ hk => hk.2) (.int .i64 a0_2)) (fun _ hk => hk.2) (.int .i64 a0_3)) (fun _ hk => hk.1))).mono ?_; rintro e w6 ⟨A7, c7, rfl, hs, ho, hb⟩; have BK1_6 := A0qdo_ ((hb.block g1 (blk_lt BK1_4.out)).trans (blk_put (cs := #[.slice A5 l0_0.length c5, .slice A6 l0_1.length c6, .int .i64 a0_2, .int .i64 a0_3]) (cs' := #[.slice A5 l0_0.length c5, .slice A6 l0_1.length c6, .int .i64 a0_2, .int .i64 a0_3]) (blk_put (cs := #[.slice A5 l0_0.length c5, .slice A6 l0_1.length c6, .int .i64 a0_2, .int .i64 a0_3]) (cs' := #[.slice A5 l0_0.length c5, .slice A6 l0_1.length c6, .int .i64 a0_2, .int .i64 a0_3]) (blk_put (cs := #[.slice A5 l0_0.length c5, .slice A0_1 l0_1.length c0_1, .int .i64 a0_2, .int .i64 a0_3]) (cs' := #[.slice A5 l0_0.length c5, .slice A6 l0_1.length c6, .int .i64 a0_2, .int .i64 a0_3]) (blk_put (cs := #[.slice A0_0 l0_0.length c0_0, .slice A0_1 l0_1.length c0_1, .int .i64 a0_2, .int .i64 a0_3]) (cs' := #[.slice A5 l0_0.length c5, .slice A0_1 l0_1.length c0_1, .int .i64 a0_2, .int .i64 a0_3]) BK1_5.out 0 (.slice A5 l0_0.length c5) rfl) 1 (.slice A6 l0_1.length c6) rfl) 2 (.int .i64 a0_2) rfl) 3 (.int .i64 a0_3) rfl)); have BK3_6 := A0qdo_ ((hb.block g3 (blk_lt BK3_4.out)).trans (blk_far (p := ⟨g1, 3, none⟩) (blk_far (p := ⟨g1, 2, none⟩) (blk_far (p := ⟨g1, 1, none⟩) (blk_far (p := ⟨g1, 0, none⟩) BK3_5.out NB13.out.symm (.slice A5 l0_0.length c5)) NB13.out.symm (.slice A6 l0_1.length c6)) NB13.out.symm (.int .i64 a0_2)) NB13.out.symm (.int .i64 a0_3))); have HB6 := A0qdo_ ((below_set (below_set (below_set (below_set HB5.out GE1.out) GE1.out) GE1.out) GE1.out).trans (hb.mono HB4.out.size)); have HS6 := A0qdo_ (Kd.S_lower hs HB4.out.size); have HO6 := A0qdo_ (Kd.R_lower ho HB4.out.size); clear hs ho hb x0 x1 x2 x3 z0 z1 z2 z3 HS5 HO5 HSZ5; have nb1 := NB13.out; have nb2 := NB13.out.symm; have x0 : w6.cell? ⟨g1, 0, none⟩ = some (.slice A5 l0_0.length c5) := (blk_cell BK1_6.out 0).trans rfl; have x1 : w6.cell? ⟨g1, 1, none⟩ = some (.slice A6 l0_1.length c6) := (blk_cell BK1_6.out 1).trans rfl; have x2 : w6.cell? ⟨g1, 2, none⟩ = some (.int .i64 a0_2) := (blk_cell BK1_6.out 2).trans rfl; have x3 : w6.cell? ⟨g1, 3, none⟩ = some (.int .i64 a0_3) := (blk_cell BK1_6.out 3).trans rfl; have z0 := blk_frozen BK1_6.out 0; have y0 : w6.cell? ⟨g3, 0, none⟩ = some (.slice none 0 0) := (blk_cell BK3_6.out 0).trans rfl; have y1 : w6.cell? ⟨g3, 1, none⟩ = some (.slice none 0 0) := (blk_cell BK3_6.out 1).trans rfl; have y2 : w6.cell? ⟨g3, 2, none⟩ = some (.int .i64 0) := (blk_cell BK3_6.out 2).trans rfl; have y3 : w6.cell? ⟨g3, 3, none⟩ = some (.int .i64 0) := (blk_cell BK3_6.out 3).trans rfl; have q0 := blk_frozen BK3_6.out 0; have q1 := blk_frozen BK3_6.out 1; have q2 := blk_frozen BK3_6.out 2; have q3 := blk_frozen BK3_6.out 3))
   refine bodyPost_ret (results_ct rfl _ _ g3 27 #[.slice A7 (l0_0.filter (lateQ a1)).length c7, .slice A6 l0_1.length c6, .int .i64 a0_2, .int .i64 a0_3] (0, 0) _ rfl (blk_put (cs := #[.slice A7 (l0_0.filter (lateQ a1)).length c7, .slice A6 l0_1.length c6, .int .i64 a0_2, .int .i64 0]) (cs' := #[.slice A7 (l0_0.filter (lateQ a1)).length c7, .slice A6 l0_1.length c6, .int .i64 a0_2, .int .i64 a0_3]) (blk_put (cs := #[.slice A7 (l0_0.filter (lateQ a1)).length c7, .slice A6 l0_1.length c6, .int .i64 0, .int .i64 0]) (cs' := #[.slice A7 (l0_0.filter (lateQ a1)).length c7, .slice A6 l0_1.length c6, .int .i64 a0_2, .int .i64 0]) (blk_put (cs := #[.slice A7 (l0_0.filter (lateQ a1)).length c7, .slice none 0 0, .int .i64 0, .int .i64 0]) (cs' := #[.slice A7 (l0_0.filter (lateQ a1)).length c7, .slice A6 l0_1.length c6, .int .i64 0, .int .i64 0]) (blk_put (cs := #[.slice none 0 0, .slice none 0 0, .int .i64 0, .int .i64 0]) (cs' := #[.slice A7 (l0_0.filter (lateQ a1)).length c7, .slice none 0 0, .int .i64 0, .int .i64 0]) (blk_far (p := ⟨g1, 0, none⟩) BK3_6.out NB13.out.symm (.slice A7 (l0_0.filter (lateQ a1)).length c7)) 0 (.slice A7 (l0_0.filter (lateQ a1)).length c7) rfl) 1 (.slice A6 l0_1.length c6) rfl) 2 (.int .i64 a0_2) rfl) 3 (.int .i64 a0_3) rfl) Try.underlying27 rfl (by kernel_rfl)) rfl ?_
   exact ⟨_, _, rfl, (Kd.S_mono (Kd.S_far (p := ⟨g3, 3, none⟩) (Kd.S_far (p := ⟨g3, 2, none⟩) (Kd.S_far (p := ⟨g3, 1, none⟩) (Kd.S_far (p := ⟨g3, 0, none⟩) (Kd.S_far (p := ⟨g1, 0, none⟩) (Kd.S_types (Kd.S_types HS6.out BK1_6.out (by decide)) BK3_6.out (by decide)) (fun _ hk => hk.1.2) (.slice A7 (l0_0.filter (lateQ a1)).length c7)) (fun _ hk => hk.2) (.slice A7 (l0_0.filter (lateQ a1)).length c7)) (fun _ hk => hk.2) (.slice A6 l0_1.length c6)) (fun _ hk => hk.2) (.int .i64 a0_2)) (fun _ hk => hk.2) (.int .i64 a0_3)) (fun _ hk => hk.1.1)), (Kd.R_mono (Kd.R_far (p := ⟨g3, 3, none⟩) (Kd.R_far (p := ⟨g3, 2, none⟩) (Kd.R_far (p := ⟨g3, 1, none⟩) (Kd.R_far (p := ⟨g3, 0, none⟩) (Kd.R_far (p := ⟨g1, 0, none⟩) (Kd.R_types (Kd.R_types HO6.out BK1_6.out (by decide)) BK3_6.out (by decide)) (fun _ hk => hk.1.2) (.slice A7 (l0_0.filter (lateQ a1)).length c7)) (fun _ hk => hk.2) (.slice A7 (l0_0.filter (lateQ a1)).length c7)) (fun _ hk => hk.2) (.slice A6 l0_1.length c6)) (fun _ hk => hk.2) (.int .i64 a0_2)) (fun _ hk => hk.2) (.int .i64 a0_3)) (fun _ _ => trivial)), (below_set (below_set (below_set (below_set (below_set HB6.out GE1.out) GE3.out) GE3.out) GE3.out) GE3.out)⟩
  ·rw [if_pos rfl, if_neg hs] at H1
   exact absurd H1 (by simp)
end Go.Proofs.Ythdhkoeaadahaaa.P
