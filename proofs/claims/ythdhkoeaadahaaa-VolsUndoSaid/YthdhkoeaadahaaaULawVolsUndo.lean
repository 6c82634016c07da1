/- The row of the law VolsUndo: out of its plain statement (YthdhkoeaadahaaaPureVolsUndo) and its printed contract; no condition. -/
import Derived.Test.YthdhkoeaadahaaaRows
import Derived.Test.YthdhkoeaadahaaaUPx77
import Derived.Test.YthdhkoeaadahaaaUPureVolsUndo
import Derived.WalkKit
import Derived.ProofKit
import Derived.OpenShut
import Derived.ShutString
import Derived.ChangeOld
import Derived.Below
import Derived.SizedLaws
import Derived.Test.YthdhkoeaadahaaaUOpens
import Derived.Test.YthdhkoeaadahaaaUGood
import Derived.Test.YthdhkoeaadahaaaUHead
namespace Go.Proofs.Ythdhkoeaadahaaa.volsUndo
open Go.ChangeShapes Go.WideShapes Go.ChangeAt Go.RowKit Go.Proofs.YthdhkoeaadahaaaW.PrintWords Go.Proofs.Ythdhkoeaadahaaa.P Go.Proofs.Ythdhkoeaadahaaa.Opens
open Go.ChangeMaps (open_string shut_string)
set_option linter.unusedVariables false
theorem own : ownKnob Try.prog.godebug = none := by kernel_rfl
theorem laidOut : laidOutB Try.prog = true := by kernel_rfl
set_option maxRecDepth 100000 in
set_option maxHeartbeats 2000000 in
theorem lifted (os : Os) (started : os.Started) (H : Type) (enc : TypeId × Value → H) :
    ReturnsInHanded {} Try.checked os 15 .any (Rows.volsUndoSpec.pre6 enc Try.prog Try.f15 Rows.volsUndoRow.domain false) (Rows.volsUndoSpec.post enc Try.prog Try.f15 false true false false) := by
  refine returnsInHanded_of_change_sized (C := Try.checked) own started (by kernel_rfl) Try.func15
    (ChangeSpec.witness6 (enc := enc) (C := Try.checked) false ⟨#[], #[.slice none 0 0, .int .i64 0, .int .i64 0], []⟩ 8 (by kernel_rfl) (by kernel_rfl) (by kernel_rfl) (by kernel_rfl)) ?_
  intro W base args ds gs before hval0 hW hcnd hsz0 _
  have hsz : (DataW.weightsEach Try.prog (Try.f15.params.toList ++ Rows.volsUndoSpec.plain.varTypes Try.prog) (ds ++ gs)).all (· ≤ reachBytes) = true := hsz0
  have hval : ∀ (j : Nat) t v, Try.f15.params[j]? = some t → args[j]? = some v → Value.okWide Try.prog W .any base t v := hval0
  have hW' := hW
  obtain ⟨p, q, hA0, hV, rfl, hfz, hnd⟩ := hW
  have hA : DataW.TrodAll enc Try.prog W 0 (fun _ => true) true Try.f15.params.toList args.toList ds p := hA0
  rw [Try.params15] at hA hval hsz
  obtain ⟨v0, vs0, d0, ds0, p0, q0, hargs, rfl, rfl, h0, r0⟩ := trodAll_cons hA
  obtain ⟨v1, vs1, d1, ds1, p1, q1, rfl, rfl, rfl, h1, r1⟩ := trodAll_cons r0
  obtain ⟨v2, vs2, d2, ds2, p2, q2, rfl, rfl, rfl, h2, r2⟩ := trodAll_cons r1
  obtain ⟨rfl, rfl, rfl⟩ := trodAll_nil r2
  obtain rfl : args = #[v0, v1, v2] := by cases args; simp_all
  obtain ⟨rfl, rfl⟩ := trodVars_none hV
  obtain ⟨A0, n0, c0, rfl⟩ := okWide_slice Try.underlying37 (hval 0 37 v0 rfl rfl)
  have k0 := h0
  have lt0 : ∀ x ∈ p0, x.block < W.heap.size := by obtain ⟨m, hm⟩ := k0; exact DataW.trod_lt m _ _ _ hm
  obtain ⟨l0, K0, b0⟩ : ∃ x : List (S49), ((Kd.slice 49 k49)).K W x [.slice A0 n0 c0] ∧ (fun xs : List (S49) => xs.length * 32 ≤ 140737488351232 ∧ xs.length ≤ maxLen ∧ ∀ x ∈ xs, good49 x) x := by
    obtain ⟨fuel, hf⟩ := h0
    exact (Opens.slice Try.underlying37 (by kernel_rfl) (show Try.prog.bytesOf 49 = 32 by kernel_rfl) opens49) H enc W fuel _ _ _ hf (weights_arg hsz (j := 0) rfl rfl)
  obtain ⟨A0', c0', e0, m0, g0⟩ := K0
  simp only [List.cons.injEq, Value.slice.injEq, and_true] at e0
  obtain ⟨rfl, rfl, rfl⟩ := e0
  obtain ⟨a1, rfl, rfl, rfl, w1⟩ := open_int Try.underlying3 (hval 1 3 v1 rfl rfl) h1
  obtain ⟨a2, rfl, rfl, rfl, w2⟩ := open_int Try.underlying3 (hval 2 3 v2 rfl rfl) h2
  clear hA0 hval0 hsz0 hsz
  obtain ⟨k, h⟩ := Pure.VolsUndo l0 a1 a2 b0 w1 w2
  refine (counterfoillaw07_VolsUndo.calls k _ _ l0 a1 a2 true W g0 m0 h).mono ?_
  rintro e W' ⟨rfl, bel0⟩
  have bel : Below W.heap.size W W' := bel0
  exact ⟨_, rfl, _, _, _, [], _, [], hW', trodAll_mk1 (shut_bool Try.underlying4 _), (trodAll_cons_mk (Below.trod laidOut (by kernel_rfl) (of_decide_eq_true (by kernel_rfl)) k0 bel lt0) (trodAll_cons_mk (shut_int Try.underlying3 w1) (trodAll_cons_mk (shut_int Try.underlying3 w2) trodAll_mk0))), rfl, bel.frame _, fun h => by cases h⟩
theorem closed : joinedFacts Try.pinned.checked.prog 15 Try.f15 Rows.volsUndoSpec Rows.volsUndoRow = true := by
  unfold joinedFacts
  simp only [Bool.and_eq_true]
  and_intros
  all_goals (first | with_reducible exact Head.mayEnter' | with_reducible exact Head.lifted' rfl | with_reducible exact Head.made' rfl | (as_aux_lemma => kernel_rfl))
theorem over : Rows.volsUndoRow.holds Try.pinned (OpenSpec.ofChange Rows.volsUndoSpec) :=
  OpenClaim.holds_of_wide 15 Try.f15 rfl rfl rfl rfl rfl rfl rfl ⟨rfl, rfl, rfl, rfl, rfl⟩ rfl rfl rfl rfl rfl (by kernel_rfl) Try.func15 closed
    (of_decide_eq_true (by kernel_rfl)) (by unfold Func.isWrapper; first | (rw [if_pos (by decide +kernel)]; kernel_rfl) | (rw [if_neg (by decide +kernel)]; exact ⟨rfl, rfl⟩))
    (fun os started H enc _ => lifted os started H enc)
theorem proved : Rows.VolsUndoSaid := over
end Go.Proofs.Ythdhkoeaadahaaa.volsUndo
namespace Go.Proofs.Ythdhkoeaadahaaa
theorem volsUndo_holds : Rows.VolsUndoSaid := volsUndo.proved
end Go.Proofs.Ythdhkoeaadahaaa
