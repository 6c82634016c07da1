-- PACKED by wip/kit/pack.py: what the law's proof uses of EClear (printed words and texts of this seat)
import Derived.Test.YthdhkoeaadahaaaUEConcatW
import Derived.RegionCalls
import Derived.Test.YthdhkoeaadahaaaUPx0
import Derived.Test.YthdhkoeaadahaaaUSortCore
namespace Go.Proofs.Ythdhkoeaadahaaa.P
open Go.RowKit Go.Proofs.YthdhkoeaadahaaaW.PrintWords Go.Proofs.YthdhkoeaadahaaaW.PrintLast Go.Proofs.YthdhkoeaadahaaaW.PrintMore
set_option linter.unusedVariables false
set_option linter.unusedSimpArgs false
theorem zeroCells_one {z : Array Value} (h1 : ∀ u ∈ z.toList, u.oneCell' = true) (n : Nat) : ∀ u ∈ (Builtin.zeroCells z n).toList, u.oneCell' = true := by
  intro u hu
  unfold Builtin.zeroCells at hu
  rw [Array.toList_map, List.mem_map] at hu
  obtain ⟨i, hi, rfl⟩ := hu
  rw [Array.mem_toList_iff, Array.mem_range] at hi
  have hz : 0 < z.size := by
    rcases Nat.eq_zero_or_pos z.size with h | h
    · rw [h, Nat.mul_zero] at hi; omega
    · exact h
  have hm : i % z.size < z.size := Nat.mod_lt _ hz
  rw [getElem!_pos z _ hm]
  exact h1 _ (Array.getElem_mem_toList hm)
theorem zeroCells_len (z : Array Value) (n : Nat) : (Builtin.zeroCells z n).toList.length = n * z.size := by
  rw [Array.length_toList, size_zeroCells]
theorem R_beyond {α : Type} {d : Kd α} {W w0 : World} {base g i cap e : Nat} {ok : Nat → Prop} {xs : List α} (HO : Kd.R d e W base ok (.slice (some ⟨g, 0, none⟩) i cap) xs) (o : Nat) (vs : List Value) (ho : i * d.sz ≤ o) (hf : o + vs.length ≤ cap * d.sz) (HB : Below base w0 W) :
    Kd.R d e (W.setCells g o vs) base ok (.slice (some ⟨g, 0, none⟩) i cap) xs ∧ Below base w0 (W.setCells g o vs) ∧ W.grownBy (W.setCells g o vs) (some g) := by
  have hbg : base ≤ g := Kd.R_base HO g (by simp [Value.ownBlock])
  obtain rfl : i = xs.length := (Kd.R_reads' HO).1
  obtain ⟨s1, s2, s3, s4⟩ := setCells_same g vs o W
  have hg : W.grownBy (W.setCells g o vs) (some g) := ⟨s1, s2, s3, by rw [s4]; exact Nat.le_refl _, fun k _ hk => setCells_far vs o k (fun he => hk (by rw [he]))⟩
  have hB : Below base w0 (W.setCells g o vs) := HB.trans ⟨hg.os, hg.tape, hg.output, hg.size, fun k hk => by
    rcases Nat.lt_or_ge k W.heap.size with hlt | hge
    · exact hg.block k hlt (fun he => by injection he with he; omega)
    · exact setCells_far _ _ k (by omega)⟩
  refine ⟨?_, hB, hg⟩
  obtain ⟨h0, inner, hown, hr⟩ := HO
  rcases hown.2 with ⟨hv, _⟩ | ⟨g', cap', cur, hv, hb, hh, hnc, hcm, hcs, ht⟩
  · cases hv
  injection hv with ha _ hc
  injection ha with ha
  injection ha with hg'
  subst hg'; subst hc
  obtain ⟨cur', h3, h4, h5⟩ := setCells_row vs o W cur hh (by rw [hcs]; exact hf)
  have hcl : cur.toList.length = cap * d.sz := by rw [← hcs]; exact Array.length_toList
  have hle : xs.length * d.sz ≤ cap * d.sz := Nat.mul_le_mul_right _ hnc
  refine ⟨h0, inner, ⟨hown.1, .inr ⟨g, cap, cur', rfl, hb, h3, hnc, hcm, by rw [h4, hcs], ?_⟩⟩, hr.imp_ (fun x c hp => ?_)⟩
  · rw [h5, List.append_assoc, List.take_append_of_le_length (by rw [List.length_take, hcl]; omega), List.take_take, Nat.min_eq_left (show xs.length * d.sz ≤ o from ho)]
    exact ht
  · exact Kd.M_grown hp hg (fun k hk he => hk.2 (by rw [he]; rfl))
theorem clear_step {P : Program} {ops : Array Oper} {rest : List Oper} {o : Oper} {a : Act} {Q : Exit → Act → World → Prop} {α : Type} (d : Kd α) {w0 W : World} (base : Nat) (hgd : o.guard = none) (x : Operand) (t e : TypeId) (z : Value)
    (ho : o.op = .call { callee := .builtin .clear, args := #[x], argTypes := #[t] }) (ht : P.underlying t = some (.slice e)) (hv : ∀ w, (zeroValue e).run P w = .ok z w) (hz : z.cells.size = d.sz) (h1 : ∀ u ∈ z.cells.toList, u.oneCell' = true)
    {g i n cap c' : Nat} (xs : List α) (ok : Nat → Prop) (A : Option Addr) (hx : a.eval x = .slice A (n - i) c') (hA : i < n → A = some ⟨g, i * d.sz, none⟩) (hin : i ≤ n) (hs0 : 0 < d.sz)
    (HO : Kd.R d e W base ok (.slice (some ⟨g, 0, none⟩) n cap) xs) (HB : Below base w0 W)
    (h : ∀ w1, Kd.R d e w1 base ok (.slice (some ⟨g, 0, none⟩) i cap) (xs.take i) → Below base w0 w1 → W.grownBy w1 (some g) → wpList P ops Q rest (a.put o.dst (.tuple #[])) w1) : wpList P ops Q (o :: rest) a W := by
  obtain ⟨hn, hnc, _⟩ := Kd.R_reads' HO
  have HT := Kd.R_take HO (m := i) (by omega)
  refine wpList_plain hgd fun K hK => ?_
  rcases Nat.lt_or_ge i n with hlt | hge
  · rw [hA hlt] at hx
    obtain ⟨m, hm⟩ : ∃ m, n - i = m + 1 := ⟨n - i - 1, by omega⟩
    rw [hm] at hx
    have hl := zeroCells_len z.cells (m + 1)
    have hfit : i * d.sz + (Builtin.zeroCells z.cells (m + 1)).toList.length ≤ n * d.sz := by
      rw [hl, hz, ← Nat.add_mul]
      exact Nat.mul_le_mul_right _ (by omega)
    have hfit2 : n * d.sz ≤ cap * d.sz := Nat.mul_le_mul_right _ hnc
    obtain ⟨hR, hB, hg⟩ := R_beyond HT (i * d.sz) (Builtin.zeroCells z.cells (m + 1)).toList (Nat.le_refl _) (by omega) HB
    have hrun : (Builtin.clear_ #[t] o.type #[.slice (some ⟨g, i * d.sz, none⟩) (m + 1) c']).run P W = .ok (.tuple #[]) (W.setCells g (i * d.sz) (Builtin.zeroCells z.cells (m + 1)).toList) := by
      obtain ⟨_, inner, hown, hr⟩ := HO
      rcases hown.2 with ⟨hv', _⟩ | ⟨g', cap', cur, hv', hb, hh, hnc', hcm, hcs, ht'⟩
      · cases hv'
      injection hv' with ha _ hc
      injection ha with ha
      injection ha with hg'
      subst hg'; subst hc
      have hst := run_storeCells_cells (P := P) g (i * d.sz) (Builtin.zeroCells z.cells (m + 1)).toList 0 W (fun j hj => by
          rw [Nat.add_zero, cell_of_row W g _ cur e (0, 0) hh, Array.getElem?_eq_getElem (by rw [hcs]; omega)]; rfl) (fun j hj => by
          rw [Nat.add_zero]; exact blk_frozen hh _) (zeroCells_one h1 _)
      rw [Nat.add_zero] at hst
      simp [Builtin.clear_, run_underlying ht, hv, hst]
    unfold Oper.wp
    simp [execOp, ho, resolve, invoke, builtin, hx, hrun, Result.andThen]
    exact hK _ _ (h _ hR hB hg)
  · obtain rfl : i = n := by omega
    rw [Nat.sub_self] at hx
    have hrun : (Builtin.clear_ #[t] o.type #[.slice A 0 c']).run P W = .ok (.tuple #[]) W := by
      cases A <;> simp [Builtin.clear_, run_underlying ht]
    unfold Oper.wp
    simp [execOp, ho, resolve, invoke, builtin, hx, hrun, Result.andThen]
    exact hK _ _ (h _ HT HB ⟨rfl, rfl, rfl, Nat.le_refl _, fun _ _ _ => rfl⟩)
end Go.Proofs.Ythdhkoeaadahaaa.P
