-- PACKED by wip/kit/pack.py: what the law's proof uses of EQDAll (printed words and texts of this seat)
import Derived.Test.YthdhkoeaadahaaaWEQDLaw
import Derived.Test.YthdhkoeaadahaaaWEQDWrong
import Derived.Test.YthdhkoeaadahaaaWEQDull
import Derived.Test.YthdhkoeaadahaaaWQAll
import Derived.Test.YthdhkoeaadahaaaWQAwake
import Derived.Test.YthdhkoeaadahaaaWLagCore
import Derived.Test.YthdhkoeaadahaaaWFoldPure
import Derived.Test.YthdhkoeaadahaaaWPx3
import Derived.Test.YthdhkoeaadahaaaWPx5
namespace Go.Proofs.Ythdhkoeaadahaaa.P
open Go.RowKit Go.Proofs.YthdhkoeaadahaaaW.PrintWords Go.Proofs.YthdhkoeaadahaaaW.PrintLast Go.Proofs.YthdhkoeaadahaaaW.PrintMore Go.Proofs.Ythdhkoeaadahaaa.FoldCore Go.Proofs.Ythdhkoeaadahaaa.QueueCore Go.Proofs.Ythdhkoeaadahaaa.DoneCore Go.Proofs.Ythdhkoeaadahaaa.QBig Go.Proofs.Ythdhkoeaadahaaa.QAwake
set_option linter.unusedVariables false
theorem evk {α : Type} {f : Nat → Option α} {r : α} (h : Ev f r) : ∃ k, f k = some r := by
  obtain ⟨k, hk⟩ := h
  exact ⟨k, hk k (Nat.le_refl _)⟩
theorem queuedone_calls (A0 A1 : Option Addr) (c0 c1 : Nat) (l : List S99) (o : List S74) (a b q : Int) (w : World) (hr0 : Kd.C k99 w A0 l.length l) (hc0 : l.length ≤ c0) (hr1 : Kd.C k74 w A1 o.length o) (hc1 : o.length ≤ c1) (hgl : ∀ z ∈ l, good99 z) (hgo : ∀ z ∈ o, good74 z) :
    Calls Try.prog 22 #[.agg #[.slice A0 l.length c0, .slice A1 o.length c1, .int .i64 a, .int .i64 b], .int .i64 q] w fun e w' => e = .returned (.bool true) ∧ Below w.heap.size w w' := by
  obtain ⟨t, ht, hsm⟩ := small_ev l o a b
  obtain ⟨k30, e30⟩ := evk ht
  obtain ⟨k73, e73⟩ := evk awake12
  have h30 := fun (W : World) (hW : Below w.heap.size w W) => counterfoilref12_Small.calls k30 A0 c0 l A1 c1 o a b t W (Kd.C_below hr0 hW) hc0 (Kd.C_below hr1 hW) hc1 e30
  have h73 := fun (W : World) (_ : Below w.heap.size w W) => counterfoillaw12_awake.calls k73 true W e73
  cases t with
  | false => exact law_dull A0 A1 c0 c1 l o a b q w h30 h73
  | true =>
    obtain ⟨h1, h2, h3⟩ := hsm rfl
    have bo := bytesS_le (l := o) (fun z hz => (hgo z hz).2.2)
    have ba := bytesS_le (LagCore.ball l hgl)
    have hal := allW_len (l := l) l.length 0 (by omega) h3
    rw [List.drop_zero] at hal
    obtain ⟨k77, e77⟩ := evk (rright_ev l o a b h1 h3 h2)
    obtain ⟨k76, e76⟩ := evk (qtail_ev l o a b h1 h3 h2)
    have h77 := fun (W : World) (hW : Below w.heap.size w W) => counterfoilref12_Right.calls k77 A0 c0 l A1 c1 o a b _ W (Kd.C_below hr0 hW) hc0 (Kd.C_below hr1 hW) hc1 e77
    have h76 := fun (W : World) (hW : Below w.heap.size w W) => queue_Tail.calls k76 A0 c0 l A1 c1 o a b _ W (Kd.C_below hr0 hW) hc0 (Kd.C_below hr1 hW) hc1 e76
    cases hq : qB o a b l (tailP l a) with
    | true =>
      rw [hq] at h77 h76
      rw [if_pos rfl] at h76
      obtain ⟨k36, e36⟩ := evk (done_ev l o a b q h1 h3 h2 hq)
      obtain ⟨kl, e74⟩ := evk (load_ev l o a b h1 h3 h2 hq (by omega))
      obtain ⟨k82, e82⟩ := evk (all_ev l o a b h1 h3 h2 hq)
      obtain ⟨k83, e83⟩ := evk (joined_ev l o a b h1 h3 h2)
      obtain ⟨_, e84⟩ := evk (rtail_ev l o a b)
      have fl : (l.filter (lateQ q)).length ≤ 20 := Nat.le_trans (List.length_filter_le _ _) h1
      have fs := small_filter h3 (lateQ q)
      obtain ⟨k72, e72⟩ := evk (qequal_self (l.filter (lateQ q)) o a b (by omega) (fun i hi => by have := fs i hi; omega) (by omega))
      have eb : bytesS (allW l ++ o) = bytesS o + bytesS (allW l) := by rw [bytesS_app]; omega
      obtain ⟨k56, e56⟩ := evk (rbytes_ev (allW l ++ o) (by rw [List.length_append]; omega) (by omega))
      rw [eb] at e56
      obtain ⟨k52, e52⟩ := evk (rfold_ev (allW l ++ o) (by rw [List.length_append]; omega))
      obtain ⟨k49, e49⟩ := evk (eqw_self (foldW (allW l ++ o)) (by have := foldW_length (allW l ++ o); rw [List.length_append] at this; omega))
      exact law_right A0 A1 c0 c1 l o a b q w
        (fun W hW => queue_Done.calls k36 A0 c0 l A1 c1 o a b q _ _ _ _ _ W (Kd.C_below hr0 hW) hc0 (Kd.C_below hr1 hW) hc1 e36)
        (wrap64 (b - tailP l a)) (bytesS o + bytesS (allW l)) (tailP l a) (allW l ++ o) (foldW (allW l ++ o)) rfl
        (fun W hW => refdone_calls A0 A1 c0 o.length c1 l a b q W (Kd.C_below hr0 hW) hc0 (by omega))
        (fun W A5 A6 A7 c5 c6 c7 hW g5 l5 g6 l6 g7 l7 => counterfoilref12_Equal.calls k72 A5 c5 _ A6 c6 o a b A7 c7 _ A1 c1 o a b true W g5 l5 g6 l6 g7 l7 (Kd.C_below hr1 hW) hc1 e72)
        h76
        (fun W A c g lc => (counterfoilref08_Bytes.calls k56 A c _ _ W g lc e56).mono (fun e w' h => ⟨h.1, h.2.below⟩))
        (fun W A c g lc => counterfoilref08_Fold.calls k52 A c _ _ W g lc e52)
        (fun W A B c d g lc g' lc' => (counterfoilref08_Equal.calls k49 A c _ B d _ true W g lc g' lc' e49).mono (fun e w' h => ⟨h.1, h.2.below⟩))
        h73
        (fun W hW => queue_Load.calls kl A0 c0 l A1 c1 o a b _ _ W (Kd.C_below hr0 hW) hc0 (Kd.C_below hr1 hW) hc1 e74)
        (fun W hW => queue_All.calls k82 A0 c0 l A1 c1 o a b _ W (Kd.C_below hr0 hW) hc0 (Kd.C_below hr1 hW) hc1 e82)
        h77
        (fun W hW => counterfoilref12_Joined.calls k83 A0 c0 l A1 c1 o a b _ W (Kd.C_below hr0 hW) hc0 (Kd.C_below hr1 hW) hc1 e83)
        (fun W hW => counterfoilref12_Tail.calls A0 c0 l A1 c1 o a b _ W (Kd.C_below hr0 hW) hc0 (Kd.C_below hr1 hW) hc1 e84)
        h30
    | false =>
      rw [hq] at h77 h76
      rw [if_neg (by simp)] at h76
      have hr := right_ev l o a b h1 h3 h2
      rw [hq] at hr
      have d0 : Ev (fun k => queue_Done.f k l o a b q) ([], [], 0, 0, 1) := by
        unfold queue_Done.f
        exact Ev.bind hr (Ev.neg (by simp) (Ev.now _))
      have l0 : Ev (fun k => queue_Load.f k l o a b) (0, 0) := by
        unfold queue_Load.f
        exact Ev.bind hr (Ev.neg (by simp) (Ev.now _))
      obtain ⟨k36, e36⟩ := evk d0
      obtain ⟨kl, e74⟩ := evk l0
      obtain ⟨k82, e82⟩ := evk (all_no l o a b h1 h3 h2 hq)
      obtain ⟨k72, e72⟩ := evk (qequal_self [] [] 0 0 (by simp) (fun i hi => by simp at hi) (by simp))
      have n99 : ∀ (W : World) (A : Option Addr), Kd.C k99 W A ([] : List S99).length [] := fun W A => ⟨rfl, by simp, fun h => absurd h (by simp)⟩
      have n74 : ∀ (W : World) (A : Option Addr), Kd.C k74 W A ([] : List S74).length [] := fun W A => ⟨rfl, by simp, fun h => absurd h (by simp)⟩
      refine law_wrong A0 A1 c0 c1 l o a b q w h30 (fun W hW => ?_) (fun W hW => queue_Load.calls kl A0 c0 l A1 c1 o a b _ _ W (Kd.C_below hr0 hW) hc0 (Kd.C_below hr1 hW) hc1 e74) (fun W hW => ?_) h77 (fun W A5 A6 c5 c6 hW => counterfoilref12_Equal.calls k72 A5 c5 [] A6 c6 [] 0 0 none 0 [] none 0 [] 0 0 true W (n99 W A5) (Nat.zero_le _) (n74 W A6) (Nat.zero_le _) (n99 W none) (Nat.le_refl _) (n74 W none) (Nat.le_refl _) e72) h76 h73
      · refine (queue_Done.calls k36 A0 c0 l A1 c1 o a b q _ _ _ _ _ W (Kd.C_below hr0 hW) hc0 (Kd.C_below hr1 hW) hc1 e36).mono ?_
        rintro e w' ⟨v0, v1, rfl, hs, ho, hb⟩
        obtain ⟨A6, c6, rfl⟩ := Kd.R_slice ho
        obtain ⟨A5, c5, rfl⟩ := Kd.R_slice (Kd.S_R hs)
        exact ⟨A5, c5, A6, c6, rfl, hb⟩
      · refine (queue_All.calls k82 A0 c0 l A1 c1 o a b _ W (Kd.C_below hr0 hW) hc0 (Kd.C_below hr1 hW) hc1 e82).mono ?_
        rintro e w' ⟨v0, rfl, ho, hb⟩
        obtain ⟨A8, c8, rfl⟩ := Kd.R_slice ho
        exact ⟨A8, c8, rfl, hb⟩
end Go.Proofs.Ythdhkoeaadahaaa.P
