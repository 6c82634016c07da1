/- A queue begins as the reference says; no condition. -/
import Derived.Test.YthdhkoeaadahaaaPx109
import Derived.Test.YthdhkoeaadahaaaPx107
import Derived.Test.YthdhkoeaadahaaaPx105
import Derived.Test.YthdhkoeaadahaaaPx21
import Derived.Test.YthdhkoeaadahaaaPx14
import Derived.Test.YthdhkoeaadahaaaPx13
import Derived.Test.YthdhkoeaadahaaaPx108
import Derived.Test.YthdhkoeaadahaaaPx104
import Derived.Test.YthdhkoeaadahaaaPx11
import Derived.Test.YthdhkoeaadahaaaPx12
import Derived.Test.YthdhkoeaadahaaaPx10
import Derived.Test.YthdhkoeaadahaaaPx5
namespace Go.Proofs.Ythdhkoeaadahaaa.Pure
open Go.RowKit Go.Proofs.Ythdhkoeaadahaaa.P Go.Proofs.YthdhkoeaadahaaaW.PrintWords Go.Proofs.YthdhkoeaadahaaaW.PrintLast
set_option linter.unusedVariables false

section
variable {α β : Type} {A B g : Nat → Option α} {r : α} {c : Prop} [Decidable c]
theorem Ev.pos (h : c) (hA : Ev A r) : Ev (fun k => if c then A k else B k) r := by simpa only [if_pos h] using hA
theorem Ev.neg (h : ¬ c) (hB : Ev B r) : Ev (fun k => if c then A k else B k) r := by simpa only [if_neg h] using hB
theorem Ev.succ (h : Ev (fun k => g (k + 1)) r) : Ev g r := Ev.step (fun _ => rfl) h
theorem Ev.const {a : Option α} (h : a = some r) : Ev (fun _ => a) r := ⟨0, fun _ _ => h⟩
theorem Ev.upward (K : Nat) (h : g K = some r) (hm : ∀ k, LeO (g k) (g (k + 1))) : Ev g r := by
  refine ⟨K, fun k hk => ?_⟩
  induction hk with
  | refl => exact h
  | step _ ih => exact hm _ _ ih
end
theorem awake12 : Ev (fun k => counterfoillaw12_awake.f k) true := Ev.upward 60 (by decide +kernel) counterfoillaw12_awake.mono
theorem folded0 : Ev (fun k => fold_Folded.f k []) true := Ev.upward 3 (by decide +kernel) (fun k => fold_Folded.mono [] k)
theorem bytes0 : Ev (fun k => fold_Bytes.f k []) 0 := Ev.upward 3 (by decide +kernel) (fun k => fold_Bytes.mono [] k)
theorem requal0 : Ev (fun k => counterfoilref08_Equal.f k [] []) true := Ev.upward 3 (by decide +kernel) (fun k => counterfoilref08_Equal.mono [] [] k)
theorem fits_yes {s : Int} (h0 : 0 ≤ s) (h1 : s ≤ 1099511627776) : Ev (fun _ => queue_fits.f s) true := by
  refine Ev.const ?_
  unfold queue_fits.f
  rw [if_pos (by omega), decide_eq_true h1]
theorem tail0 (s : Int) : Ev (fun _ => queue_tail.f [] [] s s) s := by
  refine Ev.const ?_
  unfold queue_tail.f
  rw [if_neg (by simp)]
theorem right0 {s : Int} (h0 : 0 ≤ s) (h1 : s ≤ 1099511627776) : Ev (fun k => queue_Right.f k [] [] s s) true := by
  unfold queue_Right.f
  refine Ev.bind (tail0 s) (Ev.succ ?_)
  simp only [queue_Right.l0]
  exact Ev.neg (by simp) (Ev.pos (by simp) (Ev.bind (fits_yes h0 h1) (Ev.pos (by simp) (Ev.pos (by omega) (Ev.bind (fits_yes h0 h1) (Ev.pos (by simp) (Ev.bind folded0 (Ev.pos (by simp) (Ev.neg (by omega) (Ev.now _))))))))))
theorem load0 {s : Int} (h0 : 0 ≤ s) (h1 : s ≤ 1099511627776) : Ev (fun k => queue_Load.f k [] [] s s) (0, 0) := by
  unfold queue_Load.f
  refine Ev.bind (right0 h0 h1) (Ev.pos (by simp) (Ev.bind bytes0 (Ev.succ ?_)))
  simp only [queue_Load.l0]
  refine Ev.neg (by simp) (Ev.bind (tail0 s) ?_)
  have e : wrap64 (s - s) = 0 := by unfold wrap64; omega
  rw [e]
  exact Ev.now _
theorem tailq0 {s : Int} (h0 : 0 ≤ s) (h1 : s ≤ 1099511627776) : Ev (fun k => queue_Tail.f k [] [] s s) s := by
  unfold queue_Tail.f
  exact Ev.bind (right0 h0 h1) (Ev.pos (by simp) (Ev.bind (tail0 s) (Ev.now _)))
theorem qequal0 (s : Int) : Ev (fun k => counterfoilref12_Equal.f k [] [] s s [] [] s s) true := by
  unfold counterfoilref12_Equal.f
  refine Ev.pos rfl (Ev.pos rfl (Ev.pos rfl (Ev.bind requal0 (Ev.succ ?_))))
  simp only [counterfoilref12_Equal.j0]
  refine Ev.neg (by simp) (Ev.succ ?_)
  simp only [counterfoilref12_Equal.l0]
  exact Ev.neg (by simp) (Ev.now _)
def newP (s : Int) : List S99 × List S74 × Int × Int × Int := if 0 ≤ s ∧ s ≤ 1099511627776 then ([], [], s, s, 0) else ([], [], 0, 0, 1)
theorem new_ev (s : Int) : Ev (fun _ => queue_New.f s) (newP s) := by
  unfold queue_New.f newP
  by_cases h : 0 ≤ s ∧ s ≤ 1099511627776
  · rw [if_pos h]
    exact Ev.bind (fits_yes h.1 h.2) (Ev.pos (by simp) (Ev.now _))
  · rw [if_neg h]
    have hf : Ev (fun _ => queue_fits.f s) false := by
      refine Ev.const ?_
      unfold queue_fits.f
      by_cases h0 : s ≥ 0
      · rw [if_pos h0, decide_eq_false (by omega)]
      · rw [if_neg h0]
    exact Ev.bind hf (Ev.neg (by simp) (Ev.now _))
theorem QueueNews : counterfoillaw12_QueueNews.Pure := by
  intro s _
  suffices h : Ev (fun k => counterfoillaw12_QueueNews.f k s) true by
    obtain ⟨k, hk⟩ := h
    exact ⟨k, hk k (Nat.le_refl _)⟩
  unfold counterfoillaw12_QueueNews.f
  refine Ev.bind (new_ev s) ?_
  have refuse : ¬ (0 ≤ s ∧ s ≤ 1099511627776) → Ev (fun k => counterfoillaw12_QueueNews.j0 k s (newP s).2.2.2.2 true (newP s).1 (newP s).2.1 (newP s).2.2.1 (newP s).2.2.2.1) true := by
    intro h
    have e : newP s = ([], [], 0, 0, 1) := if_neg h
    rw [e]
    refine Ev.succ ?_
    simp only [counterfoillaw12_QueueNews.j0]
    exact Ev.pos (by simp) (Ev.bind (qequal0 0) (Ev.pos (by simp) (Ev.pos (by simp) (Ev.bind awake12 (Ev.now _)))))
  by_cases h0 : s < 0
  · exact Ev.pos h0 (refuse (by omega))
  refine Ev.neg h0 ?_
  by_cases h1 : s > 1099511627776
  · rw [decide_eq_true h1]
    exact refuse (by omega)
  rw [decide_eq_false h1]
  have e : newP s = ([], [], s, s, 0) := if_pos (by omega)
  rw [e]
  have g0 : 0 ≤ s := by omega
  have g1 : s ≤ 1099511627776 := by omega
  refine Ev.succ ?_
  simp only [counterfoillaw12_QueueNews.j0]
  exact Ev.neg (by simp) (Ev.bind (load0 g0 g1) (Ev.bind (qequal0 s) (Ev.pos (by simp) (Ev.pos (by simp) (Ev.bind (right0 g0 g1) (Ev.pos (by simp) (Ev.pos (by simp) (Ev.pos (by simp) (Ev.bind (tailq0 g0 g1) (Ev.pos (by simp) (Ev.bind awake12 (Ev.now _))))))))))))
end Go.Proofs.Ythdhkoeaadahaaa.Pure
