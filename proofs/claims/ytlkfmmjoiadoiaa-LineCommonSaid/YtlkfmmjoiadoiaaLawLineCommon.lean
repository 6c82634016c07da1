/- The row of the law LineCommon: out of its plain statement (YtlkfmmjoiadoiaaPureLineCommon) and its printed contract; no condition. -/
import Derived.Test.YtlkfmmjoiadoiaaRows
import Derived.Test.YtlkfmmjoiadoiaaPx22
import Derived.Test.YtlkfmmjoiadoiaaPureLineCommon
import Derived.WalkKit
import Derived.ProofKit
import Derived.OpenShut
import Derived.ShutString
import Derived.ChangeOld
import Derived.Below
import Derived.SizedLaws
import Derived.Test.YtlkfmmjoiadoiaaOpens
import Derived.Test.YtlkfmmjoiadoiaaGood
import Derived.Test.YtlkfmmjoiadoiaaHead
namespace Go.Proofs.Ytlkfmmjoiadoiaa.lineCommon
open Go.ChangeShapes Go.WideShapes Go.ChangeAt Go.RowKit Go.Proofs.YtlkfmmjoiadoiaaW.PrintWords Go.Proofs.Ytlkfmmjoiadoiaa.P Go.Proofs.Ytlkfmmjoiadoiaa.Opens
open Go.ChangeMaps (open_string shut_string)
set_option linter.unusedVariables false
theorem own : ownKnob Try.prog.godebug = none := by kernel_rfl
theorem laidOut : laidOutB Try.prog = true := by kernel_rfl
set_option maxRecDepth 100000 in
set_option maxHeartbeats 2000000 in
theorem lifted (os : Os) (started : os.Started) (H : Type) (enc : TypeId × Value → H) :
    ReturnsInHanded {} Try.checked os 8 .any (Rows.lineCommonSpec.pre6 enc Try.prog Try.f8 Rows.lineCommonRow.domain false) (Rows.lineCommonSpec.post enc Try.prog Try.f8 false true false false) := by
  refine returnsInHanded_of_change_sized (C := Try.checked) own started (by kernel_rfl) Try.func8
    (ChangeSpec.witness6 (enc := enc) (C := Try.checked) false ⟨#[], #[.agg #[.slice none 0 0, .int .i64 0], .agg #[.slice none 0 0, .int .i64 0]], []⟩ 8 (by kernel_rfl) (by kernel_rfl) (by kernel_rfl) (by kernel_rfl)) ?_
  intro W base args ds gs before hval0 hW hcnd hsz0 _
  have hsz : (DataW.weightsEach Try.prog (Try.f8.params.toList ++ Rows.lineCommonSpec.plain.varTypes Try.prog) (ds ++ gs)).all (· ≤ reachBytes) = true := hsz0
  have hval : ∀ (j : Nat) t v, Try.f8.params[j]? = some t → args[j]? = some v → Value.okWide Try.prog W .any base t v := hval0
  have hW' := hW
  obtain ⟨p, q, hA0, hV, rfl, hfz, hnd⟩ := hW
  have hA : DataW.TrodAll enc Try.prog W 0 (fun _ => true) true Try.f8.params.toList args.toList ds p := hA0
  rw [Try.params8] at hA hval hsz
  obtain ⟨v0, vs0, d0, ds0, p0, q0, hargs, rfl, rfl, h0, r0⟩ := trodAll_cons hA
  obtain ⟨v1, vs1, d1, ds1, p1, q1, rfl, rfl, rfl, h1, r1⟩ := trodAll_cons r0
  obtain ⟨rfl, rfl, rfl⟩ := trodAll_nil r1
  obtain rfl : args = #[v0, v1] := by cases args; simp_all
  obtain ⟨rfl, rfl⟩ := trodVars_none hV
  obtain ⟨cs0, rfl⟩ := okWide_agg Try.underlying39 (hval 0 39 v0 rfl rfl)
  have k0 := h0
  have lt0 : ∀ x ∈ p0, x.block < W.heap.size := by obtain ⟨m, hm⟩ := k0; exact DataW.trod_lt m _ _ _ hm
  obtain ⟨x0, K0, b0⟩ : ∃ x : S39, k39.K W x cs0 ∧ good39 x := by
    obtain ⟨fuel, hf⟩ := h0
    exact opens39 H enc W fuel _ _ _ (by simpa [Value.cells] using hf) (weights_arg hsz (j := 0) rfl rfl)
  obtain ⟨A0_0, c0_0, rfl, m0_0, g0_0⟩ := k39_open K0
  obtain ⟨cs1, rfl⟩ := okWide_agg Try.underlying39 (hval 1 39 v1 rfl rfl)
  have k1 := h1
  have lt1 : ∀ x ∈ p1, x.block < W.heap.size := by obtain ⟨m, hm⟩ := k1; exact DataW.trod_lt m _ _ _ hm
  obtain ⟨x1, K1, b1⟩ : ∃ x : S39, k39.K W x cs1 ∧ good39 x := by
    obtain ⟨fuel, hf⟩ := h1
    exact opens39 H enc W fuel _ _ _ (by simpa [Value.cells] using hf) (weights_arg hsz (j := 1) rfl rfl)
  obtain ⟨A1_0, c1_0, rfl, m1_0, g1_0⟩ := k39_open K1
  clear hA0 hval0 hsz0 hsz
  obtain ⟨k, h⟩ := Pure.LineCommon x0.f0 x0.f1 x1.f0 x1.f1 b0.1 b0.2 b1.1 b1.2
  refine (counterfoillaw11_LineCommon.calls k _ _ x0.f0 x0.f1 _ _ x1.f0 x1.f1 true W g0_0 m0_0 g1_0 m1_0 h).mono ?_
  rintro e W' ⟨rfl, bel0⟩
  have bel : Below W.heap.size W W' := bel0
  exact ⟨_, rfl, _, _, _, [], _, [], hW', trodAll_mk1 (shut_bool Try.underlying4 _), (trodAll_cons_mk (Below.trod laidOut (by kernel_rfl) (of_decide_eq_true (by kernel_rfl)) k0 bel lt0) (trodAll_cons_mk (Below.trod laidOut (by kernel_rfl) (of_decide_eq_true (by kernel_rfl)) k1 bel lt1) trodAll_mk0)), rfl, bel.frame _, fun h => by cases h⟩
theorem closed : joinedFacts Try.pinned.checked.prog 8 Try.f8 Rows.lineCommonSpec Rows.lineCommonRow = true := by
  unfold joinedFacts
  simp only [Bool.and_eq_true]
  and_intros
  all_goals (first | with_reducible exact Head.mayEnter' | with_reducible exact Head.lifted' rfl | with_reducible exact Head.made' rfl | (as_aux_lemma => kernel_rfl))
theorem over : Rows.lineCommonRow.holds Try.pinned (OpenSpec.ofChange Rows.lineCommonSpec) :=
  OpenClaim.holds_of_wide 8 Try.f8 rfl rfl rfl rfl rfl rfl rfl ⟨rfl, rfl, rfl, rfl, rfl⟩ rfl rfl rfl rfl rfl (by kernel_rfl) Try.func8 closed
    (of_decide_eq_true (by kernel_rfl)) (by unfold Func.isWrapper; first | (rw [if_pos (by decide +kernel)]; kernel_rfl) | (rw [if_neg (by decide +kernel)]; exact ⟨rfl, rfl⟩))
    (fun os started H enc _ => lifted os started H enc)
theorem proved : Rows.LineCommonSaid := over
#print axioms proved
end Go.Proofs.Ytlkfmmjoiadoiaa.lineCommon
namespace Go.Proofs.Ytlkfmmjoiadoiaa
/-- The row, under a short name, for the claim. -/
theorem lineCommon_holds : Rows.LineCommonSaid := lineCommon.proved
end Go.Proofs.Ytlkfmmjoiadoiaa
