-- PACKED by wip/kit/pack.py: what the law's proof uses of PureLagBounds (printed words and texts of this seat)
import Derived.Test.YthdhkoeaadahaaaXLagCore
import Derived.Test.YthdhkoeaadahaaaXQBig
import Derived.Test.YthdhkoeaadahaaaXPx92
import Derived.Test.YthdhkoeaadahaaaXGood
namespace Go.Proofs.Ythdhkoeaadahaaa.Pure
open Go.RowKit Go.Proofs.Ythdhkoeaadahaaa.P Go.Proofs.Ythdhkoeaadahaaa.FoldCore Go.Proofs.Ythdhkoeaadahaaa.QueueCore Go.Proofs.Ythdhkoeaadahaaa.LagCore Go.Proofs.Ythdhkoeaadahaaa.DoneCore Go.Proofs.Ythdhkoeaadahaaa.QBig Go.Proofs.YthdhkoeaadahaaaW.PrintWords Go.Proofs.YthdhkoeaadahaaaW.PrintLast Go.Proofs.YthdhkoeaadahaaaW.PrintMore
set_option linter.unusedVariables false
theorem judge_big (x y : Int) (h : Bool) (l : List S99) (o : List S74) (a b : Int) (ws : List S74) (hsq : smallQ l o) (hw : ws.length ≤ 60) (hb : bytesS o + bytesS (allW l) + bytesS ws ≤ 9223372036854775807) (hbd : boundB x y = true) (hq : qB o a b l (tailP l a) = true) :
    Ev (fun k => lag_Judge.f k x y h l o a b ws) (verdict (decide (b - tailP l a < x) && decide (bytesS o + bytesS (allW l) + bytesS ws ≤ y)) h) := by
  have n1 := bytesS_nn o
  have n2 := bytesS_nn (allW l)
  have n3 := bytesS_nn ws
  unfold lag_Judge.f
  have hr := right_big l o a b hsq
  rw [hq] at hr
  refine Ev.bind (hbd ▸ bound_ev x y h) (Ev.pos rfl (Ev.bind hr ?_))
  obtain ⟨b1, b2⟩ := (fitB_iff _).1 (qB_end hq).2
  obtain ⟨t1, t2⟩ := (fitB_iff _).1 (qB_tail hq)
  have hld := load_big l o a b hsq hq (by omega)
  have e1 : wrap64 (b - tailP l a) = b - tailP l a := by unfold wrap64; omega
  rw [e1] at hld
  refine Ev.succ ?_
  simp only [lag_Judge.j0]
  refine Ev.neg (by simp) (Ev.bind hld ?_)
  by_cases h1 : b - tailP l a < x
  · refine Ev.pos h1 (Ev.bind (bytes_ev ws (by omega) (by omega)) ?_)
    rw [decide_eq_true h1, Bool.true_and]
    rw [show wrap64 (bytesS o + bytesS (allW l) + bytesS ws) = bytesS o + bytesS (allW l) + bytesS ws by unfold wrap64; omega]
    exact verdict_ev (decide (bytesS o + bytesS (allW l) + bytesS ws ≤ y)) x y h
  · refine Ev.neg h1 ?_
    rw [decide_eq_false h1, Bool.false_and]
    exact verdict_ev false x y h
structure Waits (x y : Int) (m n : Nat) (l : List S99) (o : List S74) (a b : Int) : Prop where
  right : qB o a b l (tailP l a) = true
  sets : l.length ≤ m
  opens : o.length ≤ 10 * n
  each : ∀ s ∈ l, s.f2.length ≤ 10 * n
  upto : b ≤ n
  txns : b - tailP l a ≤ x
  bytes : bytesS o + bytesS (allW l) ≤ y
theorem Waits.small {x y : Int} {m n : Nat} {l : List S99} {o : List S74} {a b : Int} (h : Waits x y m n l o a b) (hm : m ≤ 1000) (hn : n ≤ 1000) : smallQ l o :=
  ⟨by have := h.sets; omega, by have := h.opens; omega, fun s hs => by have := h.each s hs; omega⟩
theorem Waits.grow {x y : Int} {m n m' n' : Nat} {l : List S99} {o : List S74} {a b : Int} (h : Waits x y m n l o a b) (hm : m ≤ m') (hn : n ≤ n') : Waits x y m' n' l o a b :=
  ⟨h.right, by have := h.sets; omega, by have := h.opens; omega, fun s hs => by have := h.each s hs; omega, by have := h.upto; omega, h.txns, h.bytes⟩
theorem Waits.add {x y : Int} {m n : Nat} {l : List S99} {o ws : List S74} {a b : Int} (h : Waits x y m n l o a b) (hn : n ≤ 1000) (hw : ws.length ≤ 10) (ht : b - tailP l a < x) (hb : bytesS o + bytesS (allW l) + bytesS ws ≤ y) : Waits x y m (n + 1) l (foldW (o ++ ws)) a (b + 1) := by
  have h1 := foldW_length (o ++ ws)
  have h2 := bytesS_fold (o ++ ws)
  rw [List.length_append] at h1
  rw [bytesS_app] at h2
  exact ⟨qB_more (foldB_fold _) (by have := h.upto; omega) h.right, h.sets, by have := h.opens; omega, fun s hs => by have := h.each s hs; omega, by have := h.upto; omega, by omega, by omega⟩
theorem tail_snoc (l : List S99) (a b : Int) (o : List S74) : tailP (l ++ [⟨a, b, o⟩]) b = tailP l a := by
  cases l with
  | nil => rfl
  | cons s r => rfl
theorem Waits.cut {x y : Int} {m n : Nat} {l : List S99} {o : List S74} {a b : Int} (h : Waits x y m n l o a b) (hb : b ≠ a) : Waits x y (m + 1) n (l ++ [⟨a, b, o⟩]) [] b b := by
  refine ⟨by rw [tail_snoc]; exact qB_cut hb h.right, by rw [List.length_append, List.length_singleton]; have := h.sets; omega, by simp, fun s hs => ?_, h.upto, by rw [tail_snoc]; exact h.txns, ?_⟩
  · rcases List.mem_append.1 hs with hs | hs
    · exact h.each s hs
    · rw [List.mem_singleton.1 hs]; exact h.opens
  · have := h.bytes
    rw [allW_app, bytesS_app]
    simp only [bytesS, allW, List.append_nil]
    omega
theorem Waits.done {x y : Int} {m n : Nat} {l : List S99} {o : List S74} {a b : Int} (h : Waits x y m n l o a b) (q : Int) : Waits x y m n (l.filter (lateQ q)) o a b := by
  obtain ⟨h1, h2, h3⟩ := done_right q h.right
  exact ⟨h1, Nat.le_trans (List.length_filter_le _ _) h.sets, h.opens, fun s hs => h.each s (List.mem_filter.1 hs).1, h.upto, by have := h.txns; omega, by have := h.bytes; omega⟩
theorem LagBounds : counterfoillaw13_LagBounds.Pure := by
  intro x y h ls cut take _ _ hls _ _
  suffices H : Ev (fun k => counterfoillaw13_LagBounds.f k x y h ls cut take) true by
    obtain ⟨k, hk⟩ := H
    exact ⟨k, hk k (Nat.le_refl _)⟩
  unfold counterfoillaw13_LagBounds.f
  refine Ev.bind (bound_ev x y h) ?_
  cases hbd : boundB x y with
  | false =>
    have hj := judge_ev x y h [] [] 0 0 [] (by simp) (fun i hi => by simp at hi) (by simp) (by simp) (by simp [bytesS, allW])
    have e : judgeV x y h [] [] 0 0 [] = 0 := by unfold judgeV; rw [hbd]; rfl
    rw [e] at hj
    exact Ev.neg (by simp) (Ev.bind hj (Ev.pos rfl (Ev.bind awake_ev (Ev.now _))))
  | true =>
    have hyb : 1 ≤ x ∧ 1 ≤ y ∧ y ≤ 1099511627776 := by
      unfold boundB at hbd
      simp only [Bool.and_eq_true, decide_eq_true_eq] at hbd
      omega
    have stop : ∀ (z : Int) (l : List S99) (o : List S74) (a b : Int), Ev (fun k => counterfoillaw13_LagBounds.j1 k ls cut take z false x y h l o a b) true := fun z l o a b => by
      refine Ev.succ ?_
      simp only [counterfoillaw13_LagBounds.j1]
      exact Ev.neg (by simp) (Ev.bind awake_ev (Ev.now _))
    have loop : ∀ (d i : Nat) (l : List S99) (o : List S74) (a b : Int), i + d = 40 → Waits x y i i l o a b → Ev (fun k => counterfoillaw13_LagBounds.l0 k ls cut take (i : Int) x y h l o a b) true := by
      intro d
      induction d with
      | zero =>
        intro i l o a b hi hW
        refine Ev.succ ?_
        simp only [counterfoillaw13_LagBounds.l0]
        by_cases hlt : (i : Int) < (ls.length : Int)
        · refine Ev.pos hlt ?_
          rw [decide_eq_false (by omega)]
          exact stop _ l o a b
        · exact Ev.neg hlt (stop _ l o a b)
      | succ d ih =>
        intro i l o a b hi hW
        refine Ev.succ ?_
        simp only [counterfoillaw13_LagBounds.l0]
        by_cases hlt : (i : Int) < (ls.length : Int)
        · refine Ev.pos hlt ?_
          rw [decide_eq_true (by omega)]
          have e6 : ∀ (l : List S99) (o : List S74) (a b : Int), Waits x y (i + 1) (i + 1) l o a b → Ev (fun k => counterfoillaw13_LagBounds.j6 k ls cut take (i : Int) x y h l o a b) true := fun l o a b hW => by
            obtain ⟨b1, b2⟩ := (fitB_iff _).1 (qB_end hW.right).2
            obtain ⟨t1, t2⟩ := (fitB_iff _).1 (qB_tail hW.right)
            have hs := hW.small (by omega) (by omega)
            have ht := hW.txns
            have hy := hW.bytes
            have hld := load_big l o a b hs hW.right (by omega)
            rw [show wrap64 (b - tailP l a) = b - tailP l a by unfold wrap64; omega] at hld
            have hr := right_big l o a b hs
            rw [hW.right] at hr
            have nx := ih (i + 1) l o a b (by omega) hW
            refine Ev.succ ?_
            simp only [counterfoillaw13_LagBounds.j6]
            rw [wrap_succ (by omega)]
            exact Ev.bind hld (Ev.neg (by simp only; omega) (Ev.neg (by simp only; omega) (Ev.bind hr (Ev.pos rfl nx))))
          have e5 : ∀ (t : Bool) (l : List S99) (o : List S74) (a b : Int), (t = true → 0 < l.length) → Waits x y (i + 1) (i + 1) l o a b → Ev (fun k => counterfoillaw13_LagBounds.j5 k ls cut take (i : Int) t x y h l o a b) true := fun t l o a b ht hW => by
            refine Ev.succ ?_
            simp only [counterfoillaw13_LagBounds.j5]
            cases t with
            | false => exact Ev.neg (by simp) (e6 l o a b hW)
            | true =>
              have := ht rfl
              exact Ev.pos rfl (Ev.pos (by omega) (Ev.bind (done_big l o a b _ (hW.small (by omega) (by omega)) hW.right) (e6 _ o a b (hW.done _))))
          have e4 : ∀ (l : List S99) (o : List S74) (a b : Int), Waits x y (i + 1) (i + 1) l o a b → Ev (fun k => counterfoillaw13_LagBounds.j4 k ls cut take (i : Int) x y h l o a b) true := fun l o a b hW => by
            refine Ev.succ ?_
            simp only [counterfoillaw13_LagBounds.j4]
            by_cases h1 : (i : Int) < (take.length : Int)
            · refine Ev.pos h1 (Ev.pos (by omega) ?_)
              cases rdOf false take (i : Int) with
              | true => exact Ev.pos rfl (e5 _ l o a b (fun ht => by simpa using ht) hW)
              | false => exact Ev.neg (by simp) (e5 false l o a b (fun ht => by simp at ht) hW)
            · exact Ev.neg h1 (e5 false l o a b (fun ht => by simp at ht) hW)
          have e3 : ∀ (t : Bool) (l : List S99) (o : List S74) (a b : Int), (t = true → b > a) → Waits x y i (i + 1) l o a b → Ev (fun k => counterfoillaw13_LagBounds.j3 k ls cut take (i : Int) t x y h l o a b) true := fun t l o a b ht hW => by
            refine Ev.succ ?_
            simp only [counterfoillaw13_LagBounds.j3]
            cases t with
            | false => exact Ev.neg (by simp) (e4 l o a b (hW.grow (by omega) (by omega)))
            | true =>
              have := ht rfl
              exact Ev.pos rfl (Ev.bind (cut_big l o a b (hW.small (by omega) (by omega)) hW.right (by omega)) (e4 _ _ _ _ (hW.cut (by omega))))
          have e2 : ∀ (l : List S99) (o : List S74) (a b : Int), Waits x y i (i + 1) l o a b → Ev (fun k => counterfoillaw13_LagBounds.j2 k ls cut take (i : Int) x y h l o a b) true := fun l o a b hW => by
            refine Ev.succ ?_
            simp only [counterfoillaw13_LagBounds.j2]
            by_cases h1 : (i : Int) < (cut.length : Int)
            · refine Ev.pos h1 (Ev.pos (by omega) ?_)
              cases rdOf false cut (i : Int) with
              | true => exact Ev.pos rfl (e3 _ l o a b (fun ht => by simpa using ht) hW)
              | false => exact Ev.neg (by simp) (e3 false l o a b (fun ht => by simp at ht) hW)
            · exact Ev.neg h1 (e3 false l o a b (fun ht => by simp at ht) hW)
          refine Ev.succ ?_
          simp only [counterfoillaw13_LagBounds.j1]
          refine Ev.pos (by trivial) (Ev.pos (by omega) (Ev.pos hlt ?_))
          have hmem : rd_L3 ls (i : Int) ∈ ls := by
            unfold rd_L3
            rw [Int.toNat_natCast, List.getD_eq_getElem?_getD, List.getElem?_eq_getElem (by omega), Option.getD_some]
            exact List.getElem_mem (by omega)
          generalize rd_L3 ls (i : Int) = ws at hmem ⊢
          have nx := ih (i + 1) l o a b (by omega) (hW.grow (by omega) (by omega))
          by_cases h10 : (ws.length : Int) > 10
          · refine Ev.pos h10 ?_
            rw [wrap_succ (by omega)]
            exact nx
          · refine Ev.neg h10 ?_
            have bw := bytesS_le (l := ws) (fun z hz => ((hls.2.2 ws hmem).2.2 z hz).2.2)
            have n3 := bytesS_nn ws
            have hby := hW.bytes
            have hj := judge_big x y h l o a b ws (hW.small (by omega) (by omega)) (by omega) (by omega) hbd hW.right
            refine Ev.bind hj ?_
            by_cases ht : b - tailP l a < x ∧ bytesS o + bytesS (allW l) + bytesS ws ≤ y
            · rw [decide_eq_true ht.1, decide_eq_true ht.2]
              have hup := hW.upto
              have hop := hW.opens
              exact Ev.pos (by simp [verdict]) (Ev.bind (add_big l o ws a b (hW.small (by omega) (by omega)) (by omega) hW.right (by omega)) (Ev.pos rfl (e2 l (foldW (o ++ ws)) a (b + 1) (hW.add (by omega) (by omega) ht.1 ht.2))))
            · have e : (decide (b - tailP l a < x) && decide (bytesS o + bytesS (allW l) + bytesS ws ≤ y)) = false := by
                rw [← Bool.not_eq_true, Bool.and_eq_true, decide_eq_true_eq, decide_eq_true_eq]; exact ht
              rw [e]
              have hW' : Waits x y i (i + 1) l o a b := hW.grow (Nat.le_refl _) (by omega)
              cases h with
              | true => exact Ev.neg (by simp [verdict]) (Ev.pos (by simp [verdict]) (Ev.pos rfl (e2 l o a b hW')))
              | false => exact Ev.neg (by simp [verdict]) (Ev.neg (by simp [verdict]) (Ev.pos (by simp [verdict]) (Ev.neg (by simp) (e2 l o a b hW'))))
        · exact Ev.neg hlt (stop _ l o a b)
    have hnew : Ev (fun _ => queue_New.f 0) ([], [], 0, 0, 0) := by
      unfold queue_New.f
      exact Ev.bind (fits_ev 0) (Ev.pos (by decide) (Ev.now _))
    refine Ev.pos rfl (Ev.bind hnew (Ev.pos rfl ?_))
    exact loop 40 0 [] [] 0 0 (by omega) ⟨by simp [qB, endB, fitB, foldB_nil, lastB, tailP], by simp, by simp, fun s hs => by simp at hs, by simp, by simp [tailP]; omega, by simp [bytesS, allW]; omega⟩
end Go.Proofs.Ythdhkoeaadahaaa.Pure
