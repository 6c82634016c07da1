-- PACKED by wip/kit/pack.py: what the law's proof uses of LagCore (printed words and texts of this seat)
import Derived.Test.YthdhkoeaadahaaaXQueueCore
import Derived.Test.YthdhkoeaadahaaaXPx4
import Derived.Test.YthdhkoeaadahaaaXGood
namespace Go.Proofs.Ythdhkoeaadahaaa.LagCore
open Go.RowKit Go.Proofs.Ythdhkoeaadahaaa.P Go.Proofs.Ythdhkoeaadahaaa.FoldCore Go.Proofs.Ythdhkoeaadahaaa.QueueCore Go.Proofs.YthdhkoeaadahaaaW.PrintWords Go.Proofs.YthdhkoeaadahaaaW.PrintLast Go.Proofs.YthdhkoeaadahaaaW.PrintMore
set_option linter.unusedVariables false
def boundB (x y : Int) : Bool := decide (x ≥ 1) && (decide (x ≤ 1099511627776) && (decide (y ≥ 1) && decide (y ≤ 1099511627776)))
theorem bound_ev (x y : Int) (h : Bool) : Ev (fun _ => lag_Right.f x y h) (boundB x y) := by
  have e : boundB x y = (decide (mn x y ≥ 1) && decide (mx x y ≤ 1099511627776)) := by
    unfold boundB mn mx
    rw [Bool.eq_iff_iff]
    simp only [Bool.and_eq_true, decide_eq_true_eq]
    split <;> split <;> omega
  rw [e]
  unfold lag_Right.f
  exact Ev.gateP (X := fun _ => some (decide (mx x y ≤ 1099511627776))) (fun _ => Ev.now _)
def verdict (t h : Bool) : Int := if t = true then 1 else if h = true then 2 else 3
theorem verdict_ev (t : Bool) (x y : Int) (h : Bool) : Ev (fun k => lag_Judge.j1 k t x y h) (verdict t h) := by
  refine Ev.succ ?_
  simp only [lag_Judge.j1]
  cases t with
  | true => exact Ev.pos (by simp) (Ev.now _)
  | false =>
    refine Ev.neg (by simp) ?_
    cases h with
    | true => exact Ev.pos (by simp) (Ev.now _)
    | false => exact Ev.neg (by simp) (Ev.now _)
noncomputable def judgeV (x y : Int) (h : Bool) (l : List S99) (o : List S74) (a b : Int) (ws : List S74) : Int :=
  if boundB x y = true then (if qB o a b l (tailP l a) = true then verdict (decide (b - tailP l a < x) && decide (bytesS o + bytesS (allW l) + bytesS ws ≤ y)) h else 0) else 0
theorem judge_ev (x y : Int) (h : Bool) (l : List S99) (o : List S74) (a b : Int) (ws : List S74) (hl : l.length ≤ 20) (hs : smallL l) (ho : o.length ≤ 60) (hw : ws.length ≤ 60) (hb : bytesS o + bytesS (allW l) + bytesS ws ≤ 9223372036854775807) :
    Ev (fun k => lag_Judge.f k x y h l o a b ws) (judgeV x y h l o a b ws) := by
  have n1 := bytesS_nn o
  have n2 := bytesS_nn (allW l)
  have n3 := bytesS_nn ws
  have no : Ev (fun k => lag_Judge.j0 k ws true x y h l o a b) 0 := by
    refine Ev.succ ?_
    simp only [lag_Judge.j0]
    exact Ev.pos (by simp) (Ev.now _)
  unfold lag_Judge.f judgeV
  cases hbd : boundB x y with
  | false =>
    rw [if_neg (by simp)]
    exact Ev.bind (hbd ▸ bound_ev x y h) (Ev.neg (by simp) no)
  | true =>
    rw [if_pos rfl]
    have hr := right_ev l o a b hl hs ho
    suffices H : Ev (fun k => lag_Judge.j0 k ws (!(qB o a b l (tailP l a))) x y h l o a b) (if qB o a b l (tailP l a) = true then verdict (decide (b - tailP l a < x) && decide (bytesS o + bytesS (allW l) + bytesS ws ≤ y)) h else 0) from
      Ev.bind (hbd ▸ bound_ev x y h) (Ev.pos rfl (Ev.bind hr H))
    cases hq : qB o a b l (tailP l a) with
    | false => exact no
    | true =>
      rw [if_pos rfl]
      obtain ⟨b1, b2⟩ := (fitB_iff _).1 (qB_end hq).2
      obtain ⟨t1, t2⟩ := (fitB_iff _).1 (qB_tail hq)
      have hld := load_ev l o a b hl hs ho hq (by omega)
      have e1 : wrap64 (b - tailP l a) = b - tailP l a := by unfold wrap64; omega
      rw [e1] at hld
      refine Ev.succ ?_
      simp only [lag_Judge.j0]
      refine Ev.neg (by simp) (Ev.bind hld ?_)
      by_cases h1 : b - tailP l a < x
      · refine Ev.pos h1 (Ev.bind (bytes_ev ws (by omega) (by omega)) ?_)
        rw [decide_eq_true h1, Bool.true_and]
        rw [show wrap64 (bytesS o + bytesS (allW l) + bytesS ws) = bytesS o + bytesS (allW l) + bytesS ws by unfold wrap64; omega]
        exact verdict_ev (decide (bytesS o + bytesS (allW l) + bytesS ws ≤ y)) x y h
      · refine Ev.neg h1 ?_
        rw [decide_eq_false h1, Bool.false_and]
        exact verdict_ev false x y h
theorem foldB_nil : foldB [] = true := (foldB_iff []).2 (fun j hj => by simp at hj)
theorem awake_ev : Ev (fun k => counterfoillaw13_awake.f k) true := by
  unfold counterfoillaw13_awake.f
  have h1 := (judge_ev 2 100 true [] [] 0 0 [] (by simp) (fun i hi => by simp at hi) (by simp) (by simp) (by simp [bytesS, allW]))
  have h2 := (judge_ev 2 100 true [] [] 0 2 [] (by simp) (fun i hi => by simp at hi) (by simp) (by simp) (by simp [bytesS, allW]))
  have e1 : judgeV 2 100 true [] [] 0 0 [] = 1 := by simp [judgeV, boundB, qB, endB, tailP, fitB, foldB_nil, lastB, verdict, bytesS, allW]
  have e2 : judgeV 2 100 true [] [] 0 2 [] = 2 := by simp [judgeV, boundB, qB, endB, tailP, fitB, foldB_nil, lastB, verdict, bytesS, allW]
  rw [e1] at h1
  rw [e2] at h2
  exact Ev.bind h1 (Ev.pos rfl (Ev.bind h2 (Ev.pos rfl (Ev.now _))))
theorem ball : ∀ m : List S99, (∀ z ∈ m, good99 z) → ∀ z ∈ allW m, z.f2.size ≤ 140737488351232 := by
  intro m
  induction m with
  | nil => intro _ z hz; simp [allW] at hz
  | cons s r ih =>
    intro hm z hz
    rw [allW] at hz
    rcases List.mem_append.1 hz with hz | hz
    · exact ((hm s List.mem_cons_self).2.2.2.2 z hz).2.2
    · exact ih (fun z' hz' => hm z' (List.mem_cons_of_mem _ hz')) z hz
end Go.Proofs.Ythdhkoeaadahaaa.LagCore
