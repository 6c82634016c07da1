/- Each commit is of the epoch that the reference finds, and what is right is told alike; no condition. -/
import Derived.Test.YtlkfmmjoiadoiaaLineCore2
import Derived.Test.YtlkfmmjoiadoiaaLineCore4
import Derived.Test.YtlkfmmjoiadoiaaPx12
namespace Go.Proofs.Ytlkfmmjoiadoiaa.Pure
open Go.RowKit Go.Proofs.Ytlkfmmjoiadoiaa.P Go.Proofs.Ytlkfmmjoiadoiaa.LineCore Go.Proofs.YtlkfmmjoiadoiaaW.PrintWords Go.Proofs.YtlkfmmjoiadoiaaW.PrintLast
theorem repoch_loop (l : List S61) (s : Int) (hl : l.length ≤ 100) (d : Nat) : ∀ (i : Nat) (e : Int), i + d = l.length → Ev (fun k => counterfoilref11_Epoch.l0 k l s e (i : Int)) (goS e (l.drop i) s) := by
  induction d with
  | zero =>
    intro i e hi
    refine Ev.succ ?_
    simp only [counterfoilref11_Epoch.l0]
    rw [List.drop_eq_nil_of_le (by omega)]
    exact Ev.neg (by omega) (Ev.now _)
  | succ d ih =>
    intro i e hi
    refine Ev.succ ?_
    simp only [counterfoilref11_Epoch.l0]
    rw [drop_cons l (by omega), goS]
    refine Ev.pos (by omega) (Ev.pos (by omega) ?_)
    by_cases h : (rd_T61 l (i : Int)).f1 < s
    · refine Ev.pos h ?_
      rw [if_pos h, wrap_succ (by omega)]
      exact ih (i + 1) _ (by omega)
    · refine Ev.neg h ?_
      rw [if_neg h]
      exact Ev.now _
theorem LineEpochs : counterfoillaw11_LineEpochs.Pure := by
  intro l q s _ _ _
  refine Ev.rounds ?_
  have hA := Ev.bind awake_ev (f := fun _ t => some t) (Ev.now true)
  unfold counterfoillaw11_LineEpochs.f
  by_cases g : (l.length : Int) > 100
  · exact Ev.pos g hA
  refine Ev.neg g (Ev.bind (placed_ev l q) (Ev.bind (rplaced_ev l q) (Ev.neg (by simp) (Ev.bind (rplaced_ev l q) ?_))))
  have hno : epochS l q s = 0 → Ev (fun k => counterfoillaw11_LineEpochs.j0 k s true l q) true := by
    intro h
    refine Ev.succ ?_
    simp only [counterfoillaw11_LineEpochs.j0]
    exact Ev.pos (by simp) (Ev.bind (epoch_ev l q s) (Ev.pos h hA))
  cases hp : placedS l q with
  | false => exact Ev.neg (by simp) (hno (by unfold epochS; rw [hp, if_neg (by simp)]))
  | true =>
    refine Ev.pos rfl ?_
    by_cases h1 : s < 1
    · exact Ev.pos h1 (hno (by unfold epochS; rw [hp, if_pos rfl, if_pos h1]))
    refine Ev.neg h1 ?_
    by_cases h2 : s > q
    · rw [decide_eq_true h2]
      exact hno (by unfold epochS; rw [hp, if_pos rfl, if_neg h1, if_pos h2])
    rw [decide_eq_false h2]
    have hc := (right_len (Bool.and_eq_true_iff.1 hp).1).2.2.2
    have e : epochS l q s = goS 0 l s := by
      unfold epochS
      rw [hp, if_pos rfl, if_neg h1, if_neg h2]
      exact lastOf_goS s l.length l rfl (fun i j hij hj => (chain_mono hc i j hij hj).1)
    refine Ev.succ ?_
    simp only [counterfoillaw11_LineEpochs.j0]
    refine Ev.neg (by simp) (Ev.bind (epoch_ev l q s) (Ev.bind (a := goS 0 l s) ?_ (Ev.pos e hA)))
    exact repoch_loop l s (by omega) l.length 0 0 (by omega)
end Go.Proofs.Ytlkfmmjoiadoiaa.Pure
