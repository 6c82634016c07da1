-- PACKED by wip/kit/pack.py: what the law's proof uses of ERaw (printed words and texts of this seat)
import Derived.Test.YthdhkoeaadahaaaUEClear
import Derived.Lib.Overlaps
namespace Go.Proofs.Ythdhkoeaadahaaa.P
open Go.RowKit Go.Proofs.YthdhkoeaadahaaaW.PrintWords Go.Proofs.YthdhkoeaadahaaaW.PrintLast Go.Proofs.YthdhkoeaadahaaaW.PrintMore
set_option linter.unusedVariables false
set_option linter.unusedSimpArgs false
theorem raw_of_Sg {α : Type} {d : Kd α} {e : Nat} {W : World} {base : Nat} {ok : Nat → Prop} {v : Value} {xs : List α} (h : Kd.S d e W base ok v xs) :
    ∃ (f : Nat → Nat) (rows : List (List Value)), rows.length = xs.length ∧ (∀ k, v.ownBlock = some k → ok k) ∧ Kd.R (Kd.raw d.sz) e W base (fun _ => True) v rows ∧
      ∀ (j : Nat) x c, xs[j]? = some x → rows[j]? = some c → d.M W base (fun k => (ok k ∧ some k ≠ v.ownBlock) ∧ f k = j) x c := by
  obtain ⟨f, hok, inner, hown, hr⟩ := h
  rw [List.length_zipIdx] at hown
  have hsz := hr.1
  rw [List.length_zipIdx] at hsz
  have key : ∀ (j : Nat) x, xs[j]? = some x → d.M W base (fun k => (ok k ∧ some k ≠ v.ownBlock) ∧ f k = j) x ((inner.drop (j * d.sz)).take d.sz) := fun j x hx => hr.2 j (x, j) (Kd.zip_at hx)
  refine ⟨f, (List.range xs.length).map (fun j => (inner.drop (j * d.sz)).take d.sz), by simp, hok, ⟨fun _ _ => trivial, inner, by rw [List.length_map, List.length_range]; exact hown, by rw [List.length_map, List.length_range]; exact hsz, fun j p hj => ?_⟩, fun j x c hx hc => ?_⟩
  · rw [List.getElem?_map] at hj
    obtain ⟨j', hj', rfl⟩ := Option.map_eq_some_iff.1 hj
    obtain ⟨hl, hj2⟩ := List.getElem?_eq_some_iff.1 hj'
    rw [List.length_range] at hl
    rw [List.getElem_range] at hj2
    subst hj2
    have hx := List.getElem?_eq_getElem hl
    have hK := d.K_of_M (key j _ hx)
    exact ⟨rfl, d.K_len hK, d.K_one hK⟩
  · rw [List.getElem?_map] at hc
    obtain ⟨j', hj', rfl⟩ := Option.map_eq_some_iff.1 hc
    obtain ⟨hl, hj2⟩ := List.getElem?_eq_some_iff.1 hj'
    rw [List.getElem_range] at hj2
    subst hj2
    exact key j x hx
theorem S_of_rawg {α : Type} {d : Kd α} {e : Nat} {W : World} {base : Nat} {ok okr : Nat → Prop} {v : Value} {rows : List (List Value)} {xs : List α} (f : Nat → Nat) (hl : rows.length = xs.length) (hR : Kd.R (Kd.raw d.sz) e W base okr v rows) (hok : ∀ k, v.ownBlock = some k → ok k)
    (hM : ∀ (j : Nat) x c, xs[j]? = some x → rows[j]? = some c → d.M W base (fun k => (ok k ∧ some k ≠ v.ownBlock) ∧ f k = j) x c) : Kd.S d e W base ok v xs := by
  obtain ⟨_, inner, hown, hr⟩ := hR
  refine ⟨f, hok, inner, ?_, ?_, fun j p hj => ?_⟩
  · rw [List.length_zipIdx, ← hl]; exact hown
  · rw [List.length_zipIdx, ← hl]; exact hr.1
  · rw [List.getElem?_zipIdx] at hj
    cases hx : xs[j]? with
    | none => rw [hx] at hj; cases hj
    | some x =>
      rw [hx] at hj
      obtain rfl : (x, 0 + j) = p := Option.some.inj hj
      have hjl : j < rows.length := by have := (List.getElem?_eq_some_iff.1 hx).1; omega
      have hc : rows[j]? = some rows[j] := List.getElem?_eq_getElem hjl
      have h1 := hr.2 j _ hc
      have e1 : (inner.drop (j * d.sz)).take d.sz = rows[j] := h1.1
      show d.M W base _ x ((inner.drop (j * d.sz)).take d.sz)
      rw [e1, Nat.zero_add]
      exact hM j x _ hx hc
theorem R_lay {sz e : Nat} {W w0 : World} {base g n cap : Nat} {rows ys : List (List Value)} {inner : List Value} (HO : Kd.R (Kd.raw sz) e W base (fun _ => True) (.slice (some ⟨g, 0, none⟩) n cap) rows) (i : Nat) (hi : i ≤ n) (hf : i + ys.length ≤ cap)
    (hys : Reps (fun x cs => cs = x ∧ cs.length = sz ∧ ∀ u ∈ cs, u.oneCell' = true) sz ys inner) (HB : Below base w0 W) :
    Kd.R (Kd.raw sz) e (W.setCells g (i * sz) inner) base (fun _ => True) (.slice (some ⟨g, 0, none⟩) (rows.take i ++ ys ++ rows.drop (i + ys.length)).length cap) (rows.take i ++ ys ++ rows.drop (i + ys.length)) ∧ Below base w0 (W.setCells g (i * sz) inner) ∧ W.grownBy (W.setCells g (i * sz) inner) (some g) := by
  have hbg : base ≤ g := Kd.R_base HO g (by simp [Value.ownBlock])
  obtain rfl : n = rows.length := (Kd.R_reads' HO).1
  obtain ⟨s1, s2, s3, s4⟩ := setCells_same g inner (i * sz) W
  have hg : W.grownBy (W.setCells g (i * sz) inner) (some g) := ⟨s1, s2, s3, by rw [s4]; exact Nat.le_refl _, fun k _ hk => setCells_far inner _ k (fun he => hk (by rw [he]))⟩
  have hB : Below base w0 (W.setCells g (i * sz) inner) := HB.trans ⟨hg.os, hg.tape, hg.output, hg.size, fun k hk => by
    rcases Nat.lt_or_ge k W.heap.size with hlt | hge
    · exact hg.block k hlt (fun he => by injection he with he; omega)
    · exact setCells_far _ _ k (by omega)⟩
  refine ⟨?_, hB, hg⟩
  obtain ⟨h0, inn, hown, hr⟩ := HO
  rcases hown.2 with ⟨hv, _⟩ | ⟨g', cap', cur, hv, hb, hh, hnc, hcm, hcs, ht⟩
  · cases hv
  injection hv with ha _ hc
  injection ha with ha
  injection ha with hg'
  subst hg'; subst hc
  have hcs : cur.size = cap * sz := hcs
  have ht : cur.toList.take (rows.length * sz) = inn := ht
  have hil : inner.length = ys.length * sz := hys.1
  have hfit : i * sz + inner.length ≤ cap * sz := by rw [hil, ← Nat.add_mul]; exact Nat.mul_le_mul_right _ hf
  obtain ⟨cur', h3, h4, h5⟩ := setCells_row inner (i * sz) W cur hh (by rw [hcs]; exact hfit)
  have hcl : cur.toList.length = cap * sz := by rw [← hcs]; exact Array.length_toList
  have hrr : Reps (fun x cs => cs = x ∧ cs.length = sz ∧ ∀ u ∈ cs, u.oneCell' = true) sz rows inn := hr
  have hrep := Kd.reps_append (Kd.reps_append (Kd.reps_take (m := i) hrr hi) hys) (Kd.reps_drop (m := i + ys.length) hrr)
  obtain ⟨L, hL⟩ : ∃ L, L = rows.take i ++ ys ++ rows.drop (i + ys.length) := ⟨_, rfl⟩
  rw [← hL] at hrep ⊢
  have hLl : L.length = i + ys.length + (rows.length - (i + ys.length)) := by rw [hL]; simp; omega
  have hLc : L.length ≤ cap := by have hnc' : rows.length ≤ cap := hnc; omega
  have hinn : inn.length = rows.length * sz := hrr.1
  have e1 : (i + ys.length) * sz = i * sz + inner.length := by rw [Nat.add_mul, hil]
  have e2 : L.length * sz = i * sz + inner.length + (rows.length * sz - (i * sz + inner.length)) := by
    rw [hLl, Nat.add_mul, Nat.sub_mul, e1]
  have e3 : i * sz ≤ rows.length * sz := Nat.mul_le_mul_right _ hi
  have e4 : rows.length * sz ≤ cap * sz := Nat.mul_le_mul_right _ hnc
  refine ⟨fun _ _ => trivial, inn.take (i * sz) ++ inner ++ inn.drop ((i + ys.length) * sz), ⟨hrep.1, .inr ⟨g, cap, cur', rfl, hb, h3, hLc, hcm, by rw [h4]; exact hcs, ?_⟩⟩, hrep⟩
  rw [h5, show L.length * (Kd.raw sz).sz = L.length * sz from rfl, e2, e1, ← ht]
  show List.take _ (cur.toList.take (i * sz) ++ inner ++ cur.toList.drop (i * sz + inner.length)) = (cur.toList.take (rows.length * sz)).take (i * sz) ++ inner ++ (cur.toList.take (rows.length * sz)).drop (i * sz + inner.length)
  rw [List.take_take, Nat.min_eq_left e3, List.take_append, List.take_of_length_le (show (cur.toList.take (i * sz) ++ inner).length ≤ _ by simp; omega)]
  congr 1
  rw [List.drop_take]
  congr 1
  simp only [List.length_append, List.length_take, hcl]
  omega
theorem run_copy_cells_sz {P : Program} (w : World) (dT sT ty elem : TypeId) (g o dLen dCap : Nat) (a : Addr) (sLen sCap sz : Nat) (cs : List Value)
    (hu : P.underlying dT = some (.slice elem)) (hs : (P.info? elem).map (·.size) = some sz) (hn : cs.length = Nat.min sLen dLen * sz) (hsrc : ∀ j v, cs[j]? = some v → w.cell? (a.add j) = some v)
    (hc : ∀ j, j < cs.length → (w.cell? ⟨g, o + j, none⟩).isSome = true) (hf : ∀ j, j < cs.length → w.frozen? ⟨g, o + j, none⟩ = false) (h1 : ∀ v ∈ cs, v.oneCell' = true) :
    (Builtin.copy_ #[dT, sT] ty #[.slice (some ⟨g, o, none⟩) dLen dCap, .slice (some a) sLen sCap]).run P w = .ok (goInt (Nat.min sLen dLen)) (w.setCells g o cs) := by
  have hl := run_loadCells_list (P := P) w a cs hsrc
  have hst := run_storeCells_cells (P := P) g o cs 0 w (by simpa using hc) (by simpa using hf) h1
  rw [Nat.add_zero] at hst
  cases hq : P.info? elem with
  | none => simp [hq] at hs
  | some i =>
    have hi : i.size = sz := by simpa [hq] using hs
    rw [hn] at hl
    simp [Builtin.copy_, run_underlying hu, Builtin.lenOf, Builtin.firstCells, sizeOf, typeInfo, hq, hi, hl, hst]
theorem R_copy_run {P : Program} {sz e : Nat} {W w0 : World} {base g n cap : Nat} {rows ys : List (List Value)} (dT sT ty : TypeId) (hu : P.underlying dT = some (.slice e)) (hs : (P.info? e).map (·.size) = some sz) (hs0 : 0 < sz)
    (HO : Kd.R (Kd.raw sz) e W base (fun _ => True) (.slice (some ⟨g, 0, none⟩) n cap) rows) (i : Nat) (hi : i ≤ n) (dLen dCap : Nat) (ad : Addr) (sLen sCap q : Nat) (hq : q = Nat.min sLen dLen) (hf : i + q ≤ cap) (hys : Kd.C (Kd.raw sz) W (some ad) q ys) (HB : Below base w0 W) :
    ∃ w1, (Builtin.copy_ #[dT, sT] ty #[.slice (some ⟨g, i * sz, none⟩) dLen dCap, .slice (some ad) sLen sCap]).run P W = .ok (goInt q) w1 ∧
      Kd.R (Kd.raw sz) e w1 base (fun _ => True) (.slice (some ⟨g, 0, none⟩) (rows.take i ++ ys ++ rows.drop (i + ys.length)).length cap) (rows.take i ++ ys ++ rows.drop (i + ys.length)) ∧ Below base w0 w1 ∧ W.grownBy w1 (some g) := by
  obtain ⟨inner, hrep, hcell⟩ := ReadsRow.inner_ hys
  have hyl : ys.length = q := hys.1
  have hone : ∀ u ∈ inner, u.oneCell' = true := Kd.reps_one hrep hs0 (fun _ _ hp => hp.2.2)
  have hil : inner.length = q * sz := by rw [← hyl]; exact hrep.1
  obtain ⟨h1, h2, h3⟩ := R_lay HO i hi (by rw [hyl]; exact hf) hrep HB
  refine ⟨_, ?_, h1, h2, h3⟩
  obtain ⟨_, inn, hown, hr⟩ := HO
  rcases hown.2 with ⟨hv, _⟩ | ⟨g', cap', cur, hv, hb, hh, hnc, hcm, hcs, ht⟩
  · cases hv
  injection hv with ha _ hc
  injection ha with ha
  injection ha with hg'
  subst hg'; subst hc
  have hfit : i * sz + inner.length ≤ cap * sz := by rw [hil, ← Nat.add_mul]; exact Nat.mul_le_mul_right _ hf
  rw [hq]
  refine run_copy_cells_sz W dT sT ty e g (i * sz) dLen dCap ad sLen sCap sz inner hu hs (by rw [hil, hq]) hcell (fun j hj => ?_) (fun j _ => blk_frozen hh _) hone
  rw [cell_of_row W g _ cur e (0, 0) hh, Array.getElem?_eq_getElem (by have : cur.size = cap * sz := hcs; omega)]
  rfl
theorem wp_copy_rows {P : Program} {ops : Array Oper} {rest : List Oper} {o : Oper} {a : Act} {Q : Exit → Act → World → Prop} {sz e : Nat} {W w0 : World} {base g n cap : Nat} {rows ys : List (List Value)} (hgd : o.guard = none) (d s : Operand) (dT sT : TypeId)
    (ho : o.op = .call { callee := .builtin .copy, args := #[d, s], argTypes := #[dT, sT] }) (hu : P.underlying dT = some (.slice e)) (hs : (P.info? e).map (·.size) = some sz) (hs0 : 0 < sz) (i : Nat) {dp sp : Option Addr} {dLen dCap sLen sCap : Nat} (ad : Addr) (q : Nat)
    (hd : a.eval d = .slice dp dLen dCap) (hsv : a.eval s = .slice sp sLen sCap) (hdp : dp = some ⟨g, i * sz, none⟩) (hsp : sp = some ad) (hq : q = Nat.min sLen dLen) (hi : i ≤ n) (hf : i + q ≤ cap)
    (HO : Kd.R (Kd.raw sz) e W base (fun _ => True) (.slice (some ⟨g, 0, none⟩) n cap) rows) (hys : Kd.C (Kd.raw sz) W (some ad) q ys) (HB : Below base w0 W)
    (h : ∀ w1, Kd.R (Kd.raw sz) e w1 base (fun _ => True) (.slice (some ⟨g, 0, none⟩) (rows.take i ++ ys ++ rows.drop (i + ys.length)).length cap) (rows.take i ++ ys ++ rows.drop (i + ys.length)) → Below base w0 w1 → W.grownBy w1 (some g) → wpList P ops Q rest (a.put o.dst (goInt q)) w1) :
    wpList P ops Q (o :: rest) a W := by
  subst hdp; subst hsp
  obtain ⟨w1, hrun, h1, h2, h3⟩ := R_copy_run (P := P) dT sT o.type hu hs hs0 HO i hi dLen dCap ad sLen sCap q hq hf hys HB
  refine wpList_plain hgd fun K hK => ?_
  unfold Oper.wp
  simp [execOp, ho, resolve, invoke, builtin, hd, hsv, hrun, Result.andThen]
  exact hK _ _ (h _ h1 h2 h3)
theorem step_copy_rows {P : Program} {ops : Array Oper} {o : Oper} {a : Act} {K : Act → World → Prop} {Q : Exit → Act → World → Prop} {E : Prop} {sz e : Nat} {W w0 : World} {base g n cap : Nat} {rows ys : List (List Value)} (hgd : o.guard = none) (d s : Operand) (dT sT : TypeId)
    (ho : o.op = .call { callee := .builtin .copy, args := #[d, s], argTypes := #[dT, sT] }) (hu : P.underlying dT = some (.slice e)) (hs : (P.info? e).map (·.size) = some sz) (hs0 : 0 < sz) (i : Nat) {dp sp : Option Addr} {dLen dCap sLen sCap : Nat} (ad : Addr) (q : Nat)
    (hd : a.eval d = .slice dp dLen dCap) (hsv : a.eval s = .slice sp sLen sCap) (hdp : dp = some ⟨g, i * sz, none⟩) (hsp : sp = some ad) (hq : q = Nat.min sLen dLen) (hi : i ≤ n) (hf : i + q ≤ cap)
    (HO : Kd.R (Kd.raw sz) e W base (fun _ => True) (.slice (some ⟨g, 0, none⟩) n cap) rows) (hys : Kd.C (Kd.raw sz) W (some ad) q ys) (HB : Below base w0 W)
    (h : ∀ w1, Kd.R (Kd.raw sz) e w1 base (fun _ => True) (.slice (some ⟨g, 0, none⟩) (rows.take i ++ ys ++ rows.drop (i + ys.length)).length cap) (rows.take i ++ ys ++ rows.drop (i + ys.length)) → Below base w0 w1 → W.grownBy w1 (some g) → K (a.put o.dst (goInt q)) w1) :
    if Region.wanted o (yielded ops a.tmps) = true then Oper.wp P o a W K Q else E := by
  subst hdp; subst hsp
  obtain ⟨w1, hrun, h1, h2, h3⟩ := R_copy_run (P := P) dT sT o.type hu hs hs0 HO i hi dLen dCap ad sLen sCap q hq hf hys HB
  have hw : Region.wanted o (yielded ops a.tmps) = true := by simp [Region.wanted, hgd]
  rw [if_pos hw]
  unfold Oper.wp
  simp [execOp, ho, resolve, invoke, builtin, hd, hsv, hrun, Result.andThen]
  exact h _ h1 h2 h3
theorem wp_grow_zeros {P : Program} {ops : Array Oper} {rest : List Oper} {o : Oper} {a : Act} {Q : Exit → Act → World → Prop} {W w0 : World} {base : Nat} {rows : List (List Value)} (hgd : o.guard = none) (s x : Operand) (t ti e : TypeId) (z : Value) (sz bytes : Nat)
    (ho : o.op = .call { callee := .builtin .append, args := #[s, x], argTypes := #[t, ti] })
    (ht : P.underlying t = some (.slice e)) {k : IntKind} (hti : P.underlying ti = some (.int k)) (hinfo : (P.info? e).map (fun i => (i.zero, i.size, i.bytes)) = some (some z, sz, bytes)) (hz : z.cells.size = sz) (hs0 : 0 < sz) (hb0 : 0 < bytes) (hz1 : ∀ u ∈ z.cells.toList, u.oneCell' = true)
    (A : Option Addr) (cap m : Nat) {kx : IntKind} (hs : a.eval s = .slice A rows.length cap) (hx : a.eval x = .int kx (m : Int)) (hC : Kd.C (Kd.raw sz) W A rows.length rows) (hroom : cap < rows.length + m) (hl : (rows.length + m) * bytes ≤ 140737488355328) (hbase : base ≤ W.heap.size) (HB : Below base w0 W)
    (h : ∀ w1 c1, Kd.R (Kd.raw sz) e w1 base (fun _ => True) (.slice (some ⟨W.heap.size, 0, none⟩) (rows.length + m) c1) (rows ++ List.replicate m z.cells.toList) → Below base w0 w1 → Below W.heap.size W w1 → wpList P ops Q rest (a.put o.dst (.slice (some ⟨W.heap.size, 0, none⟩) (rows.length + m) c1)) w1) :
    wpList P ops Q (o :: rest) a W := by
  obtain ⟨i0, hi, hzz⟩ := Option.map_eq_some_iff.1 hinfo
  simp only [Prod.mk.injEq] at hzz
  obtain ⟨hz0, hz1', hz2⟩ := hzz
  subst hz1'
  subst hz2
  obtain ⟨olds, hrep, hfirst⟩ : ∃ olds, Reps (fun x cs => cs = x ∧ cs.length = i0.size ∧ ∀ u ∈ cs, u.oneCell' = true) i0.size rows olds ∧ (Builtin.firstCells i0.size rows.length (.slice A rows.length cap)).run P W.drew = .ok olds.toArray W.drew := by
    cases A with
    | none =>
      have h0 : rows = [] := by
        rcases Nat.eq_zero_or_pos rows.length with h0 | h0
        · exact List.eq_nil_of_length_eq_zero h0
        · obtain ⟨ad, h, _⟩ := hC.2.2 h0
          cases h
      subst h0
      exact ⟨[], Reps.none _ _, by simp [Builtin.firstCells]⟩
    | some ad =>
      obtain ⟨inner, hr, hcell⟩ := ReadsRow.inner_ hC
      exact ⟨inner, hr, run_firstCells_some (P := P) W.drew i0.size rows.length _ rows.length cap inner hr.1 (by simpa using hcell)⟩
  have hnM : Reps (fun x cs => cs = x ∧ cs.length = i0.size ∧ ∀ u ∈ cs, u.oneCell' = true) i0.size (List.replicate m z.cells.toList) (Builtin.zeroCells z.cells m).toList := Kd.reps_zeros hz hs0 ⟨rfl, by rw [Array.length_toList]; exact hz, hz1⟩ m
  obtain ⟨news, hnews⟩ : ∃ news, news = (Builtin.zeroCells z.cells m).toList := ⟨_, rfl⟩
  have hna : Builtin.zeroCells z.cells m = news.toArray := by rw [hnews]
  rw [← hnews] at hnM
  have hm0 : m ≠ 0 ∨ m = 0 := by omega
  have hle : rows.length + m ≤ 140737488355328 := Nat.le_trans (Nat.le_mul_of_pos_right _ hb0) hl
  have h63 : rows.length + m ≤ maxLen := by simp only [maxLen]; omega
  have hw : IntKind.i64.wrap (m : Int) = m := by rw [IntKind.wrap_i64]; omega
  have hw0 : IntKind.i64.wrap 0 = 0 := by rw [IntKind.wrap_i64]; rfl
  have hneg : ¬ ((m : Int) < 0) := by omega
  have hmb : m * i0.bytes ≤ 140737488355328 := Nat.le_trans (Nat.mul_le_mul_right _ (Nat.le_add_left m rows.length)) hl
  have hbig : ¬ (281474976710656 < (m : Int) * (i0.bytes : Int)) := by
    rw [← Int.natCast_mul]
    omega
  have hsn : i0.size ≠ 0 := by omega
  have hn : ¬ (rows.length + m ≤ cap) := by omega
  have h63' : ¬ (9223372036854775807 < ((rows.length : Int) + (m : Int))) := by omega
  have h48' : ¬ (281474976710656 < Builtin.nextslicecap (rows.length + m) cap * i0.bytes) := by have := growslice_fits hroom hl; omega
  obtain ⟨c1, hc1⟩ : ∃ c1, c1 = grownCap W (rows.length + m) cap e := ⟨_, rfl⟩
  have hge : rows.length + m ≤ c1 := by rw [hc1]; exact grownCap_ge W (rows.length + m) cap e
  have hcm : c1 ≤ maxLen := by rw [hc1]; exact grownCap_le_maxLen W (rows.length + m) cap e h63
  have hrun : (Builtin.append_ #[t, ti] o.type #[.slice A rows.length cap, .int kx m]).run P W = .ok (.slice (some ⟨W.heap.size, 0, none⟩) (rows.length + m) c1) (W.drew.alloc (.cells (olds.toArray ++ news.toArray ++ Builtin.zeroCells z.cells (c1 - (rows.length + m))) e)) := by
    rw [hc1]
    by_cases hm : m = 0
    · have hnl : news = [] := List.eq_nil_of_length_eq_zero (by have := hnM.1; rw [this, List.length_replicate, hm, Nat.zero_mul])
      subst hm
      rw [hnl]
      simp only [Nat.add_zero] at hn h63' h48' ⊢
      have h63'' : ¬ (9223372036854775807 < (rows.length : Int)) := by omega
      simp [Builtin.append_, run_underlying ht, run_underlying hti, sizeOf, typeInfo, zeroValue, hi, hz0, asInt, asIntOf, hw0, hn, h63'', h48', Question.forced, hfirst, newRow, grownCap]
    · have hmz : ¬ (m * i0.size = 0) := Nat.mul_ne_zero hm hsn
      simp [Builtin.append_, run_underlying ht, run_underlying hti, sizeOf, typeInfo, zeroValue, hi, hz0, asInt, asIntOf, hw, hneg, hbig, hn, h63', h48', Question.forced, hfirst, newRow, grownCap, hmz, hna]
      congr 2
      apply Array.ext'
      simp [List.append_assoc]
  have hlen : (olds ++ news).length = (rows.length + m) * i0.size := by
    rw [List.length_append, hrep.1, hnM.1, List.length_replicate, Nat.add_mul]
  have hR : Kd.R (Kd.raw i0.size) e (W.drew.alloc (.cells (olds.toArray ++ news.toArray ++ Builtin.zeroCells z.cells (c1 - (rows.length + m))) e)) base (fun _ => True) (.slice (some ⟨W.heap.size, 0, none⟩) (rows.length + m) c1) (rows ++ List.replicate m z.cells.toList) := by
    have hLL : (rows ++ List.replicate m z.cells.toList).length = rows.length + m := by simp
    refine ⟨fun _ _ => trivial, olds ++ news, ?_, Kd.reps_append hrep hnM⟩
    rw [hLL]
    refine ⟨hlen, .inr ⟨W.heap.size, c1, _, rfl, hbase, heap_alloc_new W.drew _, hge, hcm, ?_, ?_⟩⟩
    · simp only [Array.size_append, List.size_toArray, size_zeroCells, hz, hrep.1, hnM.1, List.length_replicate, ← Nat.add_mul]
      show _ = c1 * i0.size
      congr 1
      omega
    · simp only [Array.toList_append, List.append_assoc]
      rw [← List.append_assoc]
      show List.take ((rows.length + m) * i0.size) _ = _
      rw [← hlen]
      exact List.take_left
  have hb1 : Below W.heap.size W (W.drew.alloc (.cells (olds.toArray ++ news.toArray ++ Builtin.zeroCells z.cells (c1 - (rows.length + m))) e)) := below_alloc (below_drew1 (Below.refl _ _)) _
  refine wpList_plain hgd fun K hK => ?_
  unfold Oper.wp execOp
  simp only [ho, resolve, invoke, builtin, Sem.run_bind, Sem.run_pure, Result.andThen_ok, List.map_toArray, List.map_cons, List.map_nil, hs, hx, hrun]
  exact hK _ _ (h _ c1 hR (HB.trans (hb1.mono hbase)) hb1)
end Go.Proofs.Ythdhkoeaadahaaa.P
