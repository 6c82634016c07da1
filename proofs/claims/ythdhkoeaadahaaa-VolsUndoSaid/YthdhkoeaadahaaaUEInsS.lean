-- PACKED by wip/kit/pack.py: what the law's proof uses of EInsS (printed words and texts of this seat)
import Derived.Test.YthdhkoeaadahaaaUEDelV
import Derived.Test.YthdhkoeaadahaaaUEVGet
namespace Go.Proofs.Ythdhkoeaadahaaa.P
open Go.RowKit Go.Proofs.YthdhkoeaadahaaaW.PrintWords Go.Proofs.YthdhkoeaadahaaaW.PrintLast Go.Proofs.YthdhkoeaadahaaaW.PrintMore
set_option linter.unusedVariables false
set_option linter.unusedSimpArgs false
def insV (l : List S49) (p : Nat) (y : S49) : List S49 := l.take p ++ [y] ++ l.drop p
def delV (l : List S49) (p : Nat) : List S49 := l.take p ++ l.drop (p + 1)
theorem ins_at {α : Type} (l : List α) (p : Nat) (y : α) (hp : p ≤ l.length) (j : Nat) : (l.take p ++ [y] ++ l.drop p)[j]? = if j < p then l[j]? else if j = p then some y else l[j - 1]? := by
  have e : (l.take p).length = p := by rw [List.length_take]; omega
  by_cases h1 : j < p
  · rw [if_pos h1, List.append_assoc, List.getElem?_append_left (by omega), List.getElem?_take, if_pos h1]
  · rw [if_neg h1]
    by_cases h2 : j = p
    · subst h2
      rw [if_pos rfl, List.append_assoc, List.getElem?_append_right (by omega), e, Nat.sub_self]
      rfl
    · rw [if_neg h2, List.getElem?_append_right (by rw [List.length_append, e, List.length_singleton]; omega), List.getElem?_drop, List.length_append, e, List.length_singleton]
      congr 1
      omega
theorem del_at {α : Type} (l : List α) (p : Nat) (hp : p ≤ l.length) (j : Nat) : (l.take p ++ l.drop (p + 1))[j]? = if j < p then l[j]? else l[j + 1]? := by
  have e : (l.take p).length = p := by rw [List.length_take]; omega
  by_cases h1 : j < p
  · rw [if_pos h1, List.getElem?_append_left (by omega), List.getElem?_take, if_pos h1]
  · rw [if_neg h1, List.getElem?_append_right (by omega), List.getElem?_drop, e]
    congr 1
    omega
theorem M49_away {W : World} {base : Nat} {ok : Nat → Prop} {x : S49} {c : List Value} {rows : List (List Value)} {okr : Nat → Prop} {v : Value} {sz : Nat} (h : k49.M W base ok x c) (hR : Kd.R (Kd.raw sz) 49 W base okr v rows) : k49.M W base (fun k => ok k ∧ some k ≠ v.ownBlock) x c := by
  cases hv : v.ownBlock with
  | none => exact k49.M_mono (fun k hk => ⟨hk, by simp⟩) h
  | some g =>
    obtain ⟨cells, hc⟩ := Kd.R_typed hR g hv
    exact k49.M_mono (fun k hk => ⟨hk.1, fun he => hk.2 (by injection he)⟩) (Kd.M_types h hc (by decide))
theorem insert_raw (A : Option Addr) (n c p vb : Nat) (rows : List (List Value)) (pc : List Value) (base : Nat) (W : World) (hR : Kd.R (Kd.raw 2) 49 W base (fun _ => True) (.slice A n c) rows) (hv : W.heap[vb]? = some (.cells pc.toArray 49 (0, 0))) (hl : pc.length = 2) (h1 : ∀ u ∈ pc, u.oneCell' = true) (hn : n ≤ 1000) (hb : base ≤ W.heap.size) (hp : p ≤ n) (hvg : some vb ≠ (Value.slice A n c).ownBlock) :
    Calls Try.prog 110 #[.slice A n c, .int .i64 (p : Int), .slice (some ⟨vb, 0, none⟩) 1 1] W fun e w' => ∃ v' : Value, e = .returned v' ∧ Kd.R (Kd.raw 2) 49 w' base (fun _ => True) v' (rows.take p ++ [pc] ++ rows.drop p) ∧ Below base W w' ∧ ∀ k, k < W.heap.size → some k ≠ (Value.slice A n c).ownBlock → w'.heap[k]? = W.heap[k]? := by
  obtain ⟨hln, hcap, hC⟩ := Kd.R_reads' hR
  by_cases he : p = n
  · subst he
    rw [hln, List.take_length, List.drop_length, List.append_nil]
    rw [hln] at hR hn
    exact insert_end A rows.length c vb rows pc base W hR hv hl h1 hn hb
  · have hlt : p < n := by omega
    obtain ⟨g, cap, hve, _, _, _⟩ := Kd.R_form hR (by omega)
    injection hve with hA _ _
    subst hA
    by_cases hroom : c < n + 1
    · exact (insert_grow g n c p vb rows pc base W hR hv hl h1 hn hb hlt hroom).mono (fun e w' ⟨v', a1, a2, a3, a4⟩ => ⟨v', a1, a2, a3, fun k hk _ => a4 k hk⟩)
    · exact (insert_shift g n c p vb rows pc base W hR hv hl h1 hn hb hlt (by omega) (fun h => hvg (by rw [h]; rfl))).mono (fun e w' ⟨v', a1, a2, a3, a4⟩ => ⟨v', a1, a2, a3, fun k hk hne => a4 k hk (fun h => hne (by rw [h]; rfl))⟩)
theorem insert_S (A A5 : Option Addr) (n c c5 p vb : Nat) (l : List S49) (y : S49) (base : Nat) (W : World) (hS : Kd.S k49 49 W base (fun k => some k ≠ (Value.slice A5 y.f1.length c5).ownBlock) (.slice A n c) l) (hB : Kd.R Kd.string 9 W base (fun _ => True) (.slice A5 y.f1.length c5) y.f1)
    (hv : W.heap[vb]? = some (.cells #[.int .i64 y.f0, .slice A5 y.f1.length c5] 49 (0, 0))) (hn : n ≤ 1000) (hb : base ≤ W.heap.size) (hp : p ≤ n) (hvg : some vb ≠ (Value.slice A n c).ownBlock) :
    Calls Try.prog 110 #[.slice A n c, .int .i64 (p : Int), .slice (some ⟨vb, 0, none⟩) 1 1] W fun e w' => ∃ v' : Value, e = .returned v' ∧ Kd.S k49 49 w' base (fun _ => True) v' (insV l p y) ∧ Below base W w' := by
  obtain ⟨f, rows, hl, hok, hR, hM⟩ := raw_of_Sg hS
  have hln := (Kd.R_reads' hR).1
  have hpl : p ≤ l.length := by omega
  have hpr : p ≤ rows.length := by omega
  have hBt := Kd.R_tight rfl hB
  have hBne : ∀ k, some k = (Value.slice A5 y.f1.length c5).ownBlock → some k ≠ (Value.slice A n c).ownBlock := fun k hk h2 => by
    exact hok k h2.symm hk
  refine (insert_raw A n c p vb rows [.int .i64 y.f0, .slice A5 y.f1.length c5] base W hR hv rfl (by intro u hu; simp only [List.mem_cons, List.not_mem_nil, or_false] at hu; rcases hu with rfl | rfl <;> rfl) hn hb hp hvg).mono ?_
  rintro e w' ⟨v', rfl, hR', hB', hk'⟩
  refine ⟨v', rfl, ?_, hB'⟩
  refine S_of_rawg (fun k => if some k = (Value.slice A5 y.f1.length c5).ownBlock then p else if f k < p then f k else f k + 1) (by unfold insV; simp; omega) hR' (fun _ _ => trivial) (fun j x c0 hx hc => ?_)
  unfold insV at hx
  rw [ins_at l p y hpl] at hx
  rw [ins_at rows p _ hpr] at hc
  have old : ∀ (q : Nat), l[q]? = some x → rows[q]? = some c0 → k49.M w' base (fun k => ((some k ≠ (Value.slice A5 y.f1.length c5).ownBlock ∧ some k ≠ (Value.slice A n c).ownBlock) ∧ f k = q) ∧ some k ≠ v'.ownBlock) x c0 := fun q h1 h2 =>
    M49_away (Kd.M_step (hM q x c0 h1 h2) (fun k hok2 hlt => hk' k hlt hok2.1.2)) hR'
  by_cases h1 : j < p
  · rw [if_pos h1] at hx hc
    exact k49.M_mono (fun k hk => ⟨⟨trivial, hk.2⟩, by rw [if_neg hk.1.1.1, if_pos (by rw [hk.1.2]; exact h1)]; exact hk.1.2⟩) (old j hx hc)
  · rw [if_neg h1] at hx hc
    by_cases h2 : j = p
    · rw [if_pos h2] at hx hc
      obtain rfl := Option.some.inj hx
      obtain rfl := Option.some.inj hc
      have hB2 := Kd.R_step (w1 := w') hBt (fun k hk hlt => hk' k hlt (hBne k hk))
      exact k49.M_mono (fun k hk => ⟨⟨trivial, hk.2⟩, by rw [if_pos hk.1]; exact h2.symm⟩) (M49_away (k49_mkM _ _ _ y hB2) hR')
    · rw [if_neg h2] at hx hc
      exact k49.M_mono (fun k hk => ⟨⟨trivial, hk.2⟩, by rw [if_neg hk.1.1.1, if_neg (by rw [hk.1.2]; omega), hk.1.2]; omega⟩) (old (j - 1) hx hc)
theorem delete_S (A : Option Addr) (n c p : Nat) (l : List S49) (base : Nat) (W : World) (hS : Kd.S k49 49 W base (fun _ => True) (.slice A n c) l) (hn : n ≤ 1000) (hb : base ≤ W.heap.size) (hp : p < n) :
    Calls Try.prog 112 #[.slice A n c, .int .i64 (p : Int), .int .i64 ((p : Int) + 1)] W fun e w' => ∃ v' : Value, e = .returned v' ∧ Kd.S k49 49 w' base (fun _ => True) v' (delV l p) ∧ Below base W w' := by
  obtain ⟨f, rows, hl, hok, hR, hM⟩ := raw_of_Sg hS
  have hln := (Kd.R_reads' hR).1
  obtain ⟨g, cap, hve, _, _, _⟩ := Kd.R_form hR (by omega)
  injection hve with hA _ _
  subst hA
  refine (delete_row g n c p rows base W hR hn hb hp).mono ?_
  rintro e w' ⟨v', rfl, hR', hB', hk', hv'⟩
  refine ⟨v', rfl, ?_, hB'⟩
  refine S_of_rawg (fun k => if f k < p then f k else f k - 1) (by unfold delV; simp; omega) hR' (fun _ _ => trivial) (fun j x c0 hx hc => ?_)
  unfold delV at hx
  rw [del_at l p (by omega)] at hx
  rw [del_at rows p (by omega)] at hc
  have old : ∀ (q : Nat), l[q]? = some x → rows[q]? = some c0 → k49.M w' base (fun k => ((True ∧ some k ≠ (Value.slice (some ⟨g, 0, none⟩) n c).ownBlock) ∧ f k = q) ∧ some k ≠ v'.ownBlock) x c0 := fun q h1 h2 =>
    M49_away (Kd.M_step (hM q x c0 h1 h2) (fun k hok2 hlt => hk' k hlt (fun he => hok2.1.2 (by rw [he]; rfl)))) hR'
  by_cases h1 : j < p
  · rw [if_pos h1] at hx hc
    exact k49.M_mono (fun k hk => ⟨⟨trivial, hk.2⟩, by rw [if_pos (by rw [hk.1.2]; exact h1)]; exact hk.1.2⟩) (old j hx hc)
  · rw [if_neg h1] at hx hc
    exact k49.M_mono (fun k hk => ⟨⟨trivial, hk.2⟩, by rw [if_neg (by rw [hk.1.2]; omega), hk.1.2]; omega⟩) (old (j + 1) hx hc)
end Go.Proofs.Ythdhkoeaadahaaa.P
