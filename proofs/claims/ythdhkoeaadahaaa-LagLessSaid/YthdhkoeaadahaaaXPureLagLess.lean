-- PACKED by wip/kit/pack.py: what the law's proof uses of PureLagLess (printed words and texts of this seat)
import Derived.Test.YthdhkoeaadahaaaXLagCore
import Derived.Test.YthdhkoeaadahaaaXDoneCore
import Derived.Test.YthdhkoeaadahaaaXPx22
import Derived.Test.YthdhkoeaadahaaaXGood
namespace Go.Proofs.Ythdhkoeaadahaaa.Pure
open Go.RowKit Go.Proofs.Ythdhkoeaadahaaa.P Go.Proofs.Ythdhkoeaadahaaa.FoldCore Go.Proofs.Ythdhkoeaadahaaa.QueueCore Go.Proofs.Ythdhkoeaadahaaa.LagCore Go.Proofs.Ythdhkoeaadahaaa.DoneCore Go.Proofs.YthdhkoeaadahaaaW.PrintWords Go.Proofs.YthdhkoeaadahaaaW.PrintLast Go.Proofs.YthdhkoeaadahaaaW.PrintMore
set_option linter.unusedVariables false
theorem judge_one {x y : Int} {h : Bool} {l : List S99} {o : List S74} {a b : Int} {ws : List S74} : judgeV x y h l o a b ws = 1 ↔ boundB x y = true ∧ qB o a b l (tailP l a) = true ∧ b - tailP l a < x ∧ bytesS o + bytesS (allW l) + bytesS ws ≤ y := by
  unfold judgeV
  cases boundB x y with
  | false => simp
  | true =>
    cases qB o a b l (tailP l a) with
    | false => simp
    | true =>
      rw [if_pos rfl, if_pos rfl]
      unfold verdict
      by_cases h1 : b - tailP l a < x ∧ bytesS o + bytesS (allW l) + bytesS ws ≤ y
      · rw [decide_eq_true h1.1, decide_eq_true h1.2]; simp [h1]
      · have e : (decide (b - tailP l a < x) && decide (bytesS o + bytesS (allW l) + bytesS ws ≤ y)) = false := by
          rw [← Bool.not_eq_true, Bool.and_eq_true, decide_eq_true_eq, decide_eq_true_eq]; exact h1
        rw [e]
        cases h <;> simp <;> omega
theorem LagLess : counterfoillaw13_LagLess.Pure := by
  intro x y h l o a b ws q _ _ hl ho _ _ hw _
  suffices H : Ev (fun k => counterfoillaw13_LagLess.f k x y h l o a b ws q) true by
    obtain ⟨k, hk⟩ := H
    exact ⟨k, hk k (Nat.le_refl _)⟩
  unfold counterfoillaw13_LagLess.f
  have dull : Ev (fun k => counterfoillaw13_LagLess.j0 k ws q true x y h l o a b) true := by
    refine Ev.succ ?_
    simp only [counterfoillaw13_LagLess.j0]
    exact Ev.pos (by simp) (Ev.bind awake_ev (Ev.now _))
  obtain ⟨t, ht, hsm⟩ := small_ev l o a b
  refine Ev.bind ht ?_
  cases t with
  | false => exact Ev.neg (by simp) dull
  | true =>
    obtain ⟨h1, h2, h3⟩ := hsm rfl
    refine Ev.pos rfl ?_
    by_cases h4 : (ws.length : Int) > 60
    · exact Ev.pos h4 dull
    refine Ev.neg h4 ?_
    have bo := bytesS_le (l := o) (fun z hz => (ho.2.2 z hz).2.2)
    have bw := bytesS_le (l := ws) (fun z hz => (hw.2.2 z hz).2.2)
    have ba := bytesS_le (ball l hl.2.2)
    have hal := allW_len (l := l) l.length 0 (by omega) h3
    rw [List.drop_zero] at hal
    have n1 := bytesS_nn o
    have n3 := bytesS_nn ws
    have hb : bytesS o + bytesS (allW l) + bytesS ws ≤ 9223372036854775807 := by omega
    refine Ev.bind (judge_ev x y h l o a b ws h1 h3 h2 (by omega) hb) ?_
    by_cases h5 : judgeV x y h l o a b ws = 1
    · rw [show (judgeV x y h l o a b ws != 1) = false by rw [h5]; rfl]
      obtain ⟨g1, g2, g3, g4⟩ := judge_one.1 h5
      obtain ⟨r1, r2, r3⟩ := done_right q g2
      have hfl : (l.filter (lateQ q)).length ≤ 20 := Nat.le_trans (List.length_filter_le _ _) h1
      have hfs := small_filter h3 (lateQ q)
      have j1 := judge_ev x y h (l.filter (lateQ q)) o a b ws hfl hfs h2 (by omega) (by omega)
      have j2 := judge_ev x y h (l.filter (lateQ q)) o a b [] hfl hfs h2 (by simp) (by simp only [bytesS]; omega)
      rw [judge_one.2 ⟨g1, r1, by omega, by omega⟩] at j1
      rw [judge_one.2 ⟨g1, r1, by omega, by simp only [bytesS]; omega⟩] at j2
      refine Ev.succ ?_
      simp only [counterfoillaw13_LagLess.j0]
      exact Ev.neg (by simp) (Ev.bind (done_ev l o a b q h1 h3 h2 g2) (Ev.pos rfl (Ev.bind j1 (Ev.pos rfl (Ev.bind j2 (Ev.pos rfl (Ev.bind awake_ev (Ev.now _))))))))
    · rw [show (judgeV x y h l o a b ws != 1) = true from bne_iff_ne.2 h5]
      exact dull
end Go.Proofs.Ythdhkoeaadahaaa.Pure
