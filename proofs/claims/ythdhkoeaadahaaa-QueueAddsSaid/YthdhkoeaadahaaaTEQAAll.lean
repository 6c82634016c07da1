-- PACKED by wip/kit/pack.py: what the law's proof uses of EQAAll (printed words and texts of this seat)
import Derived.Test.YthdhkoeaadahaaaTEQA00
import Derived.Test.YthdhkoeaadahaaaTEQA01
import Derived.Test.YthdhkoeaadahaaaTEQA10
import Derived.Test.YthdhkoeaadahaaaTEQA11
import Derived.Test.YthdhkoeaadahaaaTEQAWrong
import Derived.Test.YthdhkoeaadahaaaTQueueCore
import Derived.Test.YthdhkoeaadahaaaTPx4
import Derived.Test.YthdhkoeaadahaaaTGood
import Derived.Test.YthdhkoeaadahaaaTFoldPure
import Derived.Test.YthdhkoeaadahaaaTQBig
import Derived.Test.YthdhkoeaadahaaaTQAwake
import Derived.Test.YthdhkoeaadahaaaTPx85
import Derived.Test.YthdhkoeaadahaaaTPx86
namespace Go.Proofs.Ythdhkoeaadahaaa.P
open Go.RowKit Go.Proofs.YthdhkoeaadahaaaW.PrintWords Go.Proofs.YthdhkoeaadahaaaW.PrintLast Go.Proofs.YthdhkoeaadahaaaW.PrintMore Go.Proofs.Ythdhkoeaadahaaa.FoldCore Go.Proofs.Ythdhkoeaadahaaa.QueueCore Go.Proofs.Ythdhkoeaadahaaa.DoneCore Go.Proofs.Ythdhkoeaadahaaa.QBig Go.Proofs.Ythdhkoeaadahaaa.QAwake
set_option linter.unusedVariables false
theorem evk2 {α : Type} {f : Nat → Option α} {r : α} (h : Ev f r) : ∃ k, f k = some r := by
  obtain ⟨k, hk⟩ := h
  exact ⟨k, hk k (Nat.le_refl _)⟩
theorem add_max {l : List S99} {o ws : List S74} {a b : Int} {t : Bool} (hr : Ev (fun k => queue_Right.f k l o a b) t) (h : t = false ∨ b = 1099511627776) : Ev (fun k => queue_Add.f k l o a b ws) ([], [], 0, 0, 1) := by
  have no : Ev (fun k => queue_Add.j0 k ws true l o a b) ([], [], 0, 0, 1) := by
    refine Ev.succ ?_
    simp only [queue_Add.j0]
    exact Ev.pos (by simp) (Ev.now _)
  unfold queue_Add.f
  refine Ev.bind hr ?_
  cases t with
  | false => exact Ev.neg (by simp) no
  | true =>
    rcases h with h | h
    · cases h
    · subst h
      exact Ev.pos rfl no
theorem cut_none {l : List S99} {o : List S74} {a b : Int} (hr : Ev (fun k => queue_Right.f k l o a b) true) (h : b = a) : Ev (fun k => queue_Cut.f k l o a b) ([], [], 0, 0, 8) := by
  unfold queue_Cut.f
  exact Ev.bind hr (Ev.pos rfl (Ev.pos h (Ev.now _)))
theorem cut_wrong {l : List S99} {o : List S74} {a b : Int} (hr : Ev (fun k => queue_Right.f k l o a b) false) : Ev (fun k => queue_Cut.f k l o a b) ([], [], 0, 0, 1) := by
  unfold queue_Cut.f
  exact Ev.bind hr (Ev.neg (by simp) (Ev.now _))
theorem refadd_ev (l : List S99) (o ws : List S74) (a b : Int) (ho : o.length ≤ 60) (hw : ws.length ≤ 60) (hb : b < 1099511627776) (hb0 : 0 ≤ b) : Ev (fun k => counterfoilref12_Add.f k l o a b ws) (l, foldW (o ++ ws), a, b + 1) := by
  unfold counterfoilref12_Add.f counterfoilref08_Join.f
  have hj : Ev (fun _ : Nat => (if ([] : List S74).length + o.length < 4398046511104 then ((some (([] : List S74) ++ o : List S74)).bind fun y151 => (if y151.length + ws.length < 4398046511104 then (some (y151 ++ ws)) else none)) else none)) (o ++ ws) := by
    refine Ev.const ?_
    rw [if_pos (by simp; omega), Option.bind_some, List.nil_append, if_pos (by omega)]
  refine Ev.bind hj (Ev.bind (rfold_ev (o ++ ws) (by rw [List.length_append]; omega)) ?_)
  have e : wrap64 (b + 1) = b + 1 := by unfold wrap64; omega
  rw [e]
  exact Ev.now _
theorem refcut_f (l : List S99) (o : List S74) (a b : Int) (hl : l.length ≤ 20) : counterfoilref12_Cut.f l o a b = some (l ++ [⟨a, b, o⟩], [], b, b) := by
  unfold counterfoilref12_Cut.f
  rw [if_pos (by simp; omega), Option.bind_some, Option.bind_some, List.nil_append, if_pos (by simp; omega)]
theorem v99 {W : World} {A : Option Addr} {c : Nat} {l : List S99} (h : Kd.C k99 W A l.length l) (hc : l.length ≤ c) : Kd.V k99 99 W W.heap.size (fun k => k < W.heap.size) (.slice A l.length c) l := Kd.V_mk hc (Kd.C_F k99_heap h)
theorem v74 {W : World} {A : Option Addr} {c : Nat} {l : List S74} (h : Kd.C k74 W A l.length l) (hc : l.length ≤ c) : Kd.V k74 74 W W.heap.size (fun k => k < W.heap.size) (.slice A l.length c) l := Kd.V_mk hc (Kd.C_F k74_heap h)
theorem queueadds_calls (A0 A1 AW : Option Addr) (c0 c1 cw : Nat) (l : List S99) (o ws : List S74) (a b : Int) (w : World) (hr0 : Kd.C k99 w A0 l.length l) (hc0 : l.length ≤ c0) (hr1 : Kd.C k74 w A1 o.length o) (hc1 : o.length ≤ c1) (hrw : Kd.C k74 w AW ws.length ws) (hcw : ws.length ≤ cw) :
    Calls Try.prog 19 #[.agg #[.slice A0 l.length c0, .slice A1 o.length c1, .int .i64 a, .int .i64 b], .slice AW ws.length cw] w fun e w' => e = .returned (.bool true) ∧ Below w.heap.size w w' := by
  obtain ⟨t, ht, hsm⟩ := small_ev l o a b
  obtain ⟨k30, e30⟩ := evk2 ht
  obtain ⟨k73, e73⟩ := evk2 awake12
  have h30 := fun (W : World) (hW : Below w.heap.size w W) => counterfoilref12_Small.calls k30 A0 c0 l A1 c1 o a b t W (Kd.C_below hr0 hW) hc0 (Kd.C_below hr1 hW) hc1 e30
  have h73 := fun (W : World) (_ : Below w.heap.size w W) => counterfoillaw12_awake.calls k73 true W e73
  cases t with
  | false => exact add_dull1 A0 A1 AW c0 c1 cw l o ws a b w h30 h73
  | true =>
    by_cases hws : 60 < ws.length
    · exact add_dull2 A0 A1 AW c0 c1 cw l o ws a b w hws h30 h73
    obtain ⟨h1, h2, h3⟩ := hsm rfl
    have hsq := smallQ_of h1 h3 h2
    have hrt := right_ev l o a b h1 h3 h2
    obtain ⟨k77, e77⟩ := evk2 (rright_ev l o a b h1 h3 h2)
    obtain ⟨k75, e75⟩ := evk2 hrt
    have h77 := fun (W : World) (hW : Below w.heap.size w W) => counterfoilref12_Right.calls k77 A0 c0 l A1 c1 o a b _ W (Kd.C_below hr0 hW) hc0 (Kd.C_below hr1 hW) hc1 e77
    have h75 := fun (W : World) (hW : Below w.heap.size w W) => queue_Right.calls k75 A0 c0 l A1 c1 o a b _ W (Kd.C_below hr0 hW) hc0 (Kd.C_below hr1 hW) hc1 e75
    have add := fun (k : Nat) (x : List S99) (y : List S74) (p q r : Int) (W : World) (hW : Below w.heap.size w W) (h : queue_Add.f k l o a b ws = some (x, y, p, q, r)) => queue_Add.calls k A0 c0 l A1 c1 o a b AW cw ws x y p q r W (Kd.C_below hr0 hW) hc0 (Kd.C_below hr1 hW) hc1 (Kd.C_below hrw hW) hcw h
    have cut := fun (k : Nat) (x : List S99) (y : List S74) (p q r : Int) (W : World) (hW : Below w.heap.size w W) (h : queue_Cut.f k l o a b = some (x, y, p, q, r)) => queue_Cut.calls k A0 c0 l A1 c1 o a b x y p q r W (Kd.C_below hr0 hW) hc0 (Kd.C_below hr1 hW) hc1 h
    have n99 : ∀ (W : World) (A : Option Addr), Kd.C k99 W A ([] : List S99).length [] := fun W A => ⟨rfl, by simp, fun h => absurd h (by simp)⟩
    have n74 : ∀ (W : World) (A : Option Addr), Kd.C k74 W A ([] : List S74).length [] := fun W A => ⟨rfl, by simp, fun h => absurd h (by simp)⟩
    obtain ⟨kz, ez⟩ := evk2 (qequal_self [] [] 0 0 (by simp) (fun i hi => by simp at hi) (by simp))
    have h72z := fun (W : World) (A5 A6 : Option Addr) (c5 c6 : Nat) => counterfoilref12_Equal.calls kz A5 c5 [] A6 c6 [] 0 0 none 0 [] none 0 [] 0 0 true W (n99 W A5) (Nat.zero_le _) (n74 W A6) (Nat.zero_le _) (n99 W none) (Nat.le_refl _) (n74 W none) (Nat.le_refl _) ez
    have addE : ∀ (k : Nat), queue_Add.f k l o a b ws = some ([], [], 0, 0, 1) → ∀ W : World, Below w.heap.size w W → Calls Try.prog 78 #[.agg #[.slice A0 l.length c0, .slice A1 o.length c1, .int .i64 a, .int .i64 b], .slice AW ws.length cw] W fun e w' => ∃ A5 c5 A6 c6, e = .returned (.tuple #[.agg #[.slice A5 0 c5, .slice A6 0 c6, .int .i64 0, .int .i64 0], .int .i64 1]) ∧ Below W.heap.size W w' := fun k hk W hW => by
      refine (add k _ _ _ _ _ W hW hk).mono ?_
      rintro e w' ⟨v0, v1, rfl, hs, ho, hb⟩
      obtain ⟨A6, c6, rfl⟩ := Kd.R_slice ho
      obtain ⟨A5, c5, rfl⟩ := Kd.R_slice (Kd.S_R hs)
      exact ⟨A5, c5, A6, c6, rfl, hb⟩
    have cutE : ∀ (k : Nat) (r : Int), queue_Cut.f k l o a b = some ([], [], 0, 0, r) → ∀ W : World, Below w.heap.size w W → Calls Try.prog 79 #[.agg #[.slice A0 l.length c0, .slice A1 o.length c1, .int .i64 a, .int .i64 b]] W fun e w' => ∃ B5 d5 B6 d6, e = .returned (.tuple #[.agg #[.slice B5 0 d5, .slice B6 0 d6, .int .i64 0, .int .i64 0], .int .i64 r]) ∧ Below W.heap.size W w' := fun k r hk W hW => by
      refine (cut k _ _ _ _ _ W hW hk).mono ?_
      rintro e w' ⟨v0, v1, rfl, hs, ho, hb⟩
      obtain ⟨A6, c6, rfl⟩ := Kd.R_slice ho
      obtain ⟨A5, c5, rfl⟩ := Kd.R_slice (Kd.S_R hs)
      exact ⟨A5, c5, A6, c6, rfl, hb⟩
    cases hq : qB o a b l (tailP l a) with
    | false =>
      rw [hq] at h77 h75 hrt
      obtain ⟨k78, e78⟩ := evk2 (add_max (ws := ws) hrt (.inl rfl))
      obtain ⟨k79, e79⟩ := evk2 (cut_wrong hrt)
      exact add_wrong A0 A1 AW c0 c1 cw l o ws a b w hws h30 h77 h75 h73 (addE k78 e78) (cutE k79 1 e79) h72z
    | true =>
      rw [hq] at h77 h75 hrt
      have hfit := (fitB_iff b).1 (qB_end hq).2
      have fw : (foldW (o ++ ws)).length ≤ 120 := by have := foldW_length (o ++ ws); rw [List.length_append] at this; omega
      obtain ⟨ka, ea⟩ := evk2 (qequal_self l (foldW (o ++ ws)) a (b + 1) (by omega) (fun i hi => by have := h3 i hi; omega) (by omega))
      have hsb : ∀ i : Nat, i < (l ++ [(⟨a, b, o⟩ : S99)]).length → (rd_T99 (l ++ [(⟨a, b, o⟩ : S99)]) (i : Int)).f2.length ≤ 100000 := fun i hi => by
        rw [rd99 _ i hi]
        rw [List.length_append, List.length_singleton] at hi
        by_cases hil : i < l.length
        · rw [List.getElem_append_left hil, ← rd99 l i hil]
          have := h3 i hil; omega
        · rw [List.getElem_append_right (by omega)]
          simp only [show i - l.length = 0 by omega, List.getElem_cons_zero]
          omega
      obtain ⟨kb, eb⟩ := evk2 (qequal_self (l ++ [(⟨a, b, o⟩ : S99)]) [] b b (by rw [List.length_append, List.length_singleton]; omega) hsb (by simp))
      have h72a := fun (W : World) (A5 A6 A7 A8 : Option Addr) (c5 c6 c7 c8 : Nat) g1 l1 g2 l2 g3 l3 g4 l4 => counterfoilref12_Equal.calls ka A5 c5 l A6 c6 (foldW (o ++ ws)) a (b + 1) A7 c7 l A8 c8 (foldW (o ++ ws)) a (b + 1) true W g1 l1 g2 l2 g3 l3 g4 l4 ea
      have h72b := fun (W : World) (A5 A6 A7 A8 : Option Addr) (c5 c6 c7 c8 : Nat) g1 l1 g2 l2 g3 l3 g4 l4 => counterfoilref12_Equal.calls kb A5 c5 (l ++ [(⟨a, b, o⟩ : S99)]) A6 c6 [] b b A7 c7 (l ++ [(⟨a, b, o⟩ : S99)]) A8 c8 [] b b true W g1 l1 g2 l2 g3 l3 g4 l4 eb
      have h81 : ∀ W : World, Below w.heap.size w W → Calls Try.prog 81 #[.agg #[.slice A0 l.length c0, .slice A1 o.length c1, .int .i64 a, .int .i64 b]] W fun e w' => ∃ A7 c7 A8 c8, e = .returned (.agg #[.slice A7 (l ++ [(⟨a, b, o⟩ : S99)]).length c7, .slice A8 ([] : List S74).length c8, .int .i64 b, .int .i64 b]) ∧ Kd.C k99 w' A7 (l ++ [(⟨a, b, o⟩ : S99)]).length (l ++ [(⟨a, b, o⟩ : S99)]) ∧ (l ++ [(⟨a, b, o⟩ : S99)]).length ≤ c7 ∧ Kd.C k74 w' A8 ([] : List S74).length [] ∧ ([] : List S74).length ≤ c8 ∧ Below W.heap.size W w' := fun W hW => by
        refine (counterfoilref12_Cut.calls (fun k => k < W.heap.size) A0 c0 l (fun k => k < W.heap.size) A1 c1 o a b _ _ _ _ W (v99 (Kd.C_below hr0 hW) hc0) (v74 (Kd.C_below hr1 hW) hc1) (refcut_f l o a b h1)).mono ?_
        rintro e w' ⟨v0, v1, rfl, hs, ho, hb⟩
        obtain ⟨A8, c8, rfl⟩ := Kd.R_slice ho
        obtain ⟨A7, c7, rfl, hl7, hC7⟩ := Kd.N_reads hs
        exact ⟨A7, c7, A8, c8, rfl, hC7, hl7, (Kd.R_reads' ho).2.2, (Kd.R_reads' ho).2.1, hb⟩
      by_cases hmax : b = 1099511627776
      · obtain ⟨k78, e78⟩ := evk2 (add_max (ws := ws) hrt (.inr hmax))
        by_cases hba : b = a
        · obtain ⟨k79, e79⟩ := evk2 (cut_none hrt hba)
          exact add_right00 A0 A1 AW c0 c1 cw l o ws a b w hws hmax hba h30 h77 h75 h73 (addE k78 e78) (cutE k79 8 e79) h72z
        · obtain ⟨k79, e79⟩ := evk2 (cut_big l o a b hsq hq hba)
          exact add_right01 A0 A1 AW c0 c1 cw l o ws a b w hws (l ++ [(⟨a, b, o⟩ : S99)]) [] b b hmax hba h30 h77 h75 h73 (addE k78 e78) (fun W hW => cut k79 _ _ _ _ _ W hW e79) h81 h72b h72z
      · obtain ⟨k78, e78⟩ := evk2 (add_big l o ws a b hsq (by omega) hq (by omega))
        obtain ⟨k80, e80⟩ := evk2 (refadd_ev l o ws a b h2 (by omega) (by omega) hfit.1)
        have h80 : ∀ W : World, Below w.heap.size w W → Calls Try.prog 80 #[.agg #[.slice A0 l.length c0, .slice A1 o.length c1, .int .i64 a, .int .i64 b], .slice AW ws.length cw] W fun e w' => ∃ A7 c7 A8 c8, e = .returned (.agg #[.slice A7 l.length c7, .slice A8 (foldW (o ++ ws)).length c8, .int .i64 a, .int .i64 (b + 1)]) ∧ Kd.C k99 w' A7 l.length l ∧ l.length ≤ c7 ∧ Kd.C k74 w' A8 (foldW (o ++ ws)).length (foldW (o ++ ws)) ∧ (foldW (o ++ ws)).length ≤ c8 ∧ Below W.heap.size W w' := fun W hW => by
          refine (counterfoilref12_Add.calls k80 (fun k => k < W.heap.size) A0 c0 l A1 c1 o a b AW cw ws _ _ _ _ W (v99 (Kd.C_below hr0 hW) hc0) (Kd.C_below hr1 hW) hc1 (Kd.C_below hrw hW) hcw e80).mono ?_
          rintro e w' ⟨v0, v1, rfl, hs, ho, hb⟩
          obtain ⟨A8, c8, rfl⟩ := Kd.R_slice ho
          obtain ⟨A7, c7, rfl⟩ := Kd.V_slice hs
          exact ⟨A7, c7, A8, c8, rfl, (Kd.V_reads' hs).2.2, (Kd.V_reads' hs).2.1, (Kd.R_reads' ho).2.2, (Kd.R_reads' ho).2.1, hb⟩
        by_cases hba : b = a
        · obtain ⟨k79, e79⟩ := evk2 (cut_none hrt hba)
          exact add_right10 A0 A1 AW c0 c1 cw l o ws a b w hws l (foldW (o ++ ws)) a (b + 1) hmax hba h30 h77 h75 h73 (fun W hW => add k78 _ _ _ _ _ W hW e78) h80 h72a (cutE k79 8 e79) h72z
        · obtain ⟨k79, e79⟩ := evk2 (cut_big l o a b hsq hq hba)
          exact add_right11 A0 A1 AW c0 c1 cw l o ws a b w hws l (foldW (o ++ ws)) a (b + 1) (l ++ [(⟨a, b, o⟩ : S99)]) [] b b hmax hba h30 h77 h75 h73 (fun W hW => add k78 _ _ _ _ _ W hW e78) h80 h72a (fun W hW => cut k79 _ _ _ _ _ W hW e79) h81 h72b
end Go.Proofs.Ythdhkoeaadahaaa.P
