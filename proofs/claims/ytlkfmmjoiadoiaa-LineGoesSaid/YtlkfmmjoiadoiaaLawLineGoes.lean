/- The row of the law LineGoes: out of its plain statement (YtlkfmmjoiadoiaaPureLineGoes) and its printed contract; no condition. -/
import Derived.Test.YtlkfmmjoiadoiaaRows
import Derived.Test.YtlkfmmjoiadoiaaPx29
import Derived.Test.YtlkfmmjoiadoiaaPureLineGoes
import Derived.WalkKit
import Derived.ProofKit
import Derived.OpenShut
import Derived.ShutString
import Derived.ChangeOld
import Derived.Below
import Derived.SizedLaws
import Derived.Test.YtlkfmmjoiadoiaaOpens
import Derived.Test.YtlkfmmjoiadoiaaGood
import Derived.Test.YtlkfmmjoiadoiaaHead
namespace Go.Proofs.Ytlkfmmjoiadoiaa.lineGoes
open Go.ChangeShapes Go.WideShapes Go.ChangeAt Go.RowKit Go.Proofs.YtlkfmmjoiadoiaaW.PrintWords Go.Proofs.Ytlkfmmjoiadoiaa.P Go.Proofs.Ytlkfmmjoiadoiaa.Opens
open Go.ChangeMaps (open_string shut_string)
set_option linter.unusedVariables false
theorem own : ownKnob Try.prog.godebug = none := by kernel_rfl
theorem laidOut : laidOutB Try.prog = true := by kernel_rfl
set_option maxRecDepth 100000 in
set_option maxHeartbeats 2000000 in
theorem lifted (os : Os) (started : os.Started) (H : Type) (enc : TypeId × Value → H) :
    ReturnsInHanded {} Try.checked os 12 .any (Rows.lineGoesSpec.pre6 enc Try.prog Try.f12 Rows.lineGoesRow.domain false) (Rows.lineGoesSpec.post enc Try.prog Try.f12 false true false false) := by
  refine returnsInHanded_of_change_sized (C := Try.checked) own started (by kernel_rfl) Try.func12
    (ChangeSpec.witness6 (enc := enc) (C := Try.checked) false ⟨#[], #[.agg #[.slice none 0 0, .int .i64 0], .int .i64 0, .int .i64 0], []⟩ 8 (by kernel_rfl) (by kernel_rfl) (by kernel_rfl) (by kernel_rfl)) ?_
  intro W base args ds gs before hval0 hW hcnd hsz0 _
  have hsz : (DataW.weightsEach Try.prog (Try.f12.params.toList ++ Rows.lineGoesSpec.plain.varTypes Try.prog) (ds ++ gs)).all (· ≤ reachBytes) = true := hsz0
  have hval : ∀ (j : Nat) t v, Try.f12.params[j]? = some t → args[j]? = some v → Value.okWide Try.prog W .any base t v := hval0
  have hW' := hW
  obtain ⟨p, q, hA0, hV, rfl, hfz, hnd⟩ := hW
  have hA : DataW.TrodAll enc Try.prog W 0 (fun _ => true) true Try.f12.params.toList args.toList ds p := hA0
  rw [Try.params12] at hA hval hsz
  obtain ⟨v0, vs0, d0, ds0, p0, q0, hargs, rfl, rfl, h0, r0⟩ := trodAll_cons hA
  obtain ⟨v1, vs1, d1, ds1, p1, q1, rfl, rfl, rfl, h1, r1⟩ := trodAll_cons r0
  obtain ⟨v2, vs2, d2, ds2, p2, q2, rfl, rfl, rfl, h2, r2⟩ := trodAll_cons r1
  obtain ⟨rfl, rfl, rfl⟩ := trodAll_nil r2
  obtain rfl : args = #[v0, v1, v2] := by cases args; simp_all
  obtain ⟨rfl, rfl⟩ := trodVars_none hV
  obtain ⟨cs0, rfl⟩ := okWide_agg Try.underlying39 (hval 0 39 v0 rfl rfl)
  have k0 := h0
  have lt0 : ∀ x ∈ p0, x.block < W.heap.size := by obtain ⟨m, hm⟩ := k0; exact DataW.trod_lt m _ _ _ hm
  obtain ⟨x0, K0, b0⟩ : ∃ x : S39, k39.K W x cs0 ∧ good39 x := by
    obtain ⟨fuel, hf⟩ := h0
    exact opens39 H enc W fuel _ _ _ (by simpa [Value.cells] using hf) (weights_arg hsz (j := 0) rfl rfl)
  obtain ⟨A0_0, c0_0, rfl, m0_0, g0_0⟩ := k39_open K0
  obtain ⟨a1, rfl, rfl, rfl, w1⟩ := open_int Try.underlying3 (hval 1 3 v1 rfl rfl) h1
  obtain ⟨a2, rfl, rfl, rfl, w2⟩ := open_int Try.underlying3 (hval 2 3 v2 rfl rfl) h2
  clear hA0 hval0 hsz0 hsz
  obtain ⟨k, h⟩ := Pure.LineGoes x0.f0 x0.f1 a1 a2 b0.1 b0.2 w1 w2
  refine (counterfoillaw11_LineGoes.calls k _ _ x0.f0 x0.f1 a1 a2 true W g0_0 m0_0 h).mono ?_
  rintro e W' ⟨rfl, bel0⟩
  have bel : Below W.heap.size W W' := bel0
  exact ⟨_, rfl, _, _, _, [], _, [], hW', trodAll_mk1 (shut_bool Try.underlying4 _), (trodAll_cons_mk (Below.trod laidOut (by kernel_rfl) (of_decide_eq_true (by kernel_rfl)) k0 bel lt0) (trodAll_cons_mk (shut_int Try.underlying3 w1) (trodAll_cons_mk (shut_int Try.underlying3 w2) trodAll_mk0))), rfl, bel.frame _, fun h => by cases h⟩
theorem closed : joinedFacts Try.pinned.checked.prog 12 Try.f12 Rows.lineGoesSpec Rows.lineGoesRow = true := by
  unfold joinedFacts
  simp only [Bool.and_eq_true]
  and_intros
  all_goals (first | with_reducible exact Head.mayEnter' | with_reducible exact Head.lifted' rfl | with_reducible exact Head.made' rfl | (as_aux_lemma => kernel_rfl))
theorem over : Rows.lineGoesRow.holds Try.pinned (OpenSpec.ofChange Rows.lineGoesSpec) :=
  OpenClaim.holds_of_wide 12 Try.f12 rfl rfl rfl rfl rfl rfl rfl ⟨rfl, rfl, rfl, rfl, rfl⟩ rfl rfl rfl rfl rfl (by kernel_rfl) Try.func12 closed
    (of_decide_eq_true (by kernel_rfl)) (by unfold Func.isWrapper; first | (rw [if_pos (by decide +kernel)]; kernel_rfl) | (rw [if_neg (by decide +kernel)]; exact ⟨rfl, rfl⟩))
    (fun os started H enc _ => lifted os started H enc)
theorem proved : Rows.LineGoesSaid := over
#print axioms proved
end Go.Proofs.Ytlkfmmjoiadoiaa.lineGoes
namespace Go.Proofs.Ytlkfmmjoiadoiaa
/-- The row, under a short name, for the claim. -/
theorem lineGoes_holds : Rows.LineGoesSaid := lineGoes.proved
end Go.Proofs.Ytlkfmmjoiadoiaa
