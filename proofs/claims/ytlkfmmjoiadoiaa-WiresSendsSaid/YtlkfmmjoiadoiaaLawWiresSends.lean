/- The row of the law WiresSends: out of its plain statement (YtlkfmmjoiadoiaaPureWiresSends) and its printed contract; no condition. -/
import Derived.Test.YtlkfmmjoiadoiaaRows
import Derived.Test.YtlkfmmjoiadoiaaPx42
import Derived.Test.YtlkfmmjoiadoiaaPureWiresSends
import Derived.WalkKit
import Derived.ProofKit
import Derived.OpenShut
import Derived.ShutString
import Derived.ChangeOld
import Derived.Below
import Derived.SizedLaws
import Derived.Test.YtlkfmmjoiadoiaaOpens
import Derived.Test.YtlkfmmjoiadoiaaGood
import Derived.Test.YtlkfmmjoiadoiaaHead
namespace Go.Proofs.Ytlkfmmjoiadoiaa.wiresSends
open Go.ChangeShapes Go.WideShapes Go.ChangeAt Go.RowKit Go.Proofs.YtlkfmmjoiadoiaaW.PrintWords Go.Proofs.Ytlkfmmjoiadoiaa.P Go.Proofs.Ytlkfmmjoiadoiaa.Opens
open Go.ChangeMaps (open_string shut_string)
set_option linter.unusedVariables false
theorem own : ownKnob Try.prog.godebug = none := by kernel_rfl
theorem laidOut : laidOutB Try.prog = true := by kernel_rfl
set_option maxRecDepth 100000 in
set_option maxHeartbeats 2000000 in
theorem lifted (os : Os) (started : os.Started) (H : Type) (enc : TypeId × Value → H) :
    ReturnsInHanded {} Try.checked os 3 .any (Rows.wiresSendsSpec.pre6 enc Try.prog Try.f3 Rows.wiresSendsRow.domain false) (Rows.wiresSendsSpec.post enc Try.prog Try.f3 false true false false) := by
  refine returnsInHanded_of_change_sized (C := Try.checked) own started (by kernel_rfl) Try.func3
    (ChangeSpec.witness6 (enc := enc) (C := Try.checked) false ⟨#[], #[.slice none 0 0, .agg #[.int .i64 0, .string ByteArray.empty]], []⟩ 8 (by kernel_rfl) (by kernel_rfl) (by kernel_rfl) (by kernel_rfl)) ?_
  intro W base args ds gs before hval0 hW hcnd hsz0 _
  have hsz : (DataW.weightsEach Try.prog (Try.f3.params.toList ++ Rows.wiresSendsSpec.plain.varTypes Try.prog) (ds ++ gs)).all (· ≤ reachBytes) = true := hsz0
  have hval : ∀ (j : Nat) t v, Try.f3.params[j]? = some t → args[j]? = some v → Value.okWide Try.prog W .any base t v := hval0
  have hW' := hW
  obtain ⟨p, q, hA0, hV, rfl, hfz, hnd⟩ := hW
  have hA : DataW.TrodAll enc Try.prog W 0 (fun _ => true) true Try.f3.params.toList args.toList ds p := hA0
  rw [Try.params3] at hA hval hsz
  obtain ⟨v0, vs0, d0, ds0, p0, q0, hargs, rfl, rfl, h0, r0⟩ := trodAll_cons hA
  obtain ⟨v1, vs1, d1, ds1, p1, q1, rfl, rfl, rfl, h1, r1⟩ := trodAll_cons r0
  obtain ⟨rfl, rfl, rfl⟩ := trodAll_nil r1
  obtain rfl : args = #[v0, v1] := by cases args; simp_all
  obtain ⟨rfl, rfl⟩ := trodVars_none hV
  obtain ⟨A0, n0, c0, rfl⟩ := okWide_slice Try.underlying22 (hval 0 22 v0 rfl rfl)
  have k0 := h0
  have lt0 : ∀ x ∈ p0, x.block < W.heap.size := by obtain ⟨m, hm⟩ := k0; exact DataW.trod_lt m _ _ _ hm
  obtain ⟨l0, K0, b0⟩ : ∃ x : List (S24), ((Kd.slice 24 k24)).K W x [.slice A0 n0 c0] ∧ (fun xs : List (S24) => xs.length * 24 ≤ 140737488351232 ∧ xs.length ≤ maxLen ∧ ∀ x ∈ xs, good24 x) x := by
    obtain ⟨fuel, hf⟩ := h0
    exact (Opens.slice Try.underlying22 (by kernel_rfl) (show Try.prog.bytesOf 24 = 24 by kernel_rfl) opens24) H enc W fuel _ _ _ hf (weights_arg hsz (j := 0) rfl rfl)
  obtain ⟨A0', c0', e0, m0, g0⟩ := K0
  simp only [List.cons.injEq, Value.slice.injEq, and_true] at e0
  obtain ⟨rfl, rfl, rfl⟩ := e0
  obtain ⟨cs1, rfl⟩ := okWide_agg Try.underlying24 (hval 1 24 v1 rfl rfl)
  have k1 := h1
  have lt1 : ∀ x ∈ p1, x.block < W.heap.size := by obtain ⟨m, hm⟩ := k1; exact DataW.trod_lt m _ _ _ hm
  obtain ⟨x1, K1, b1⟩ : ∃ x : S24, k24.K W x cs1 ∧ good24 x := by
    obtain ⟨fuel, hf⟩ := h1
    exact opens24 H enc W fuel _ _ _ (by simpa [Value.cells] using hf) (weights_arg hsz (j := 1) rfl rfl)
  obtain rfl := k24_open K1
  clear hA0 hval0 hsz0 hsz
  obtain ⟨k, h⟩ := Pure.WiresSends l0 x1.f0 x1.f1 b0 b1.1 b1.2
  refine (counterfoillaw16_WiresSends.calls k _ _ l0 x1.f0 x1.f1 true W g0 m0 h).mono ?_
  rintro e W' ⟨rfl, bel0⟩
  have bel : Below W.heap.size W W' := bel0
  exact ⟨_, rfl, _, _, _, [], _, [], hW', trodAll_mk1 (shut_bool Try.underlying4 _), (trodAll_cons_mk (Below.trod laidOut (by kernel_rfl) (of_decide_eq_true (by kernel_rfl)) k0 bel lt0) (trodAll_cons_mk (Below.trod laidOut (by kernel_rfl) (of_decide_eq_true (by kernel_rfl)) k1 bel lt1) trodAll_mk0)), rfl, bel.frame _, fun h => by cases h⟩
theorem closed : joinedFacts Try.pinned.checked.prog 3 Try.f3 Rows.wiresSendsSpec Rows.wiresSendsRow = true := by
  unfold joinedFacts
  simp only [Bool.and_eq_true]
  and_intros
  all_goals (first | with_reducible exact Head.mayEnter' | with_reducible exact Head.lifted' rfl | with_reducible exact Head.made' rfl | (as_aux_lemma => kernel_rfl))
theorem over : Rows.wiresSendsRow.holds Try.pinned (OpenSpec.ofChange Rows.wiresSendsSpec) :=
  OpenClaim.holds_of_wide 3 Try.f3 rfl rfl rfl rfl rfl rfl rfl ⟨rfl, rfl, rfl, rfl, rfl⟩ rfl rfl rfl rfl rfl (by kernel_rfl) Try.func3 closed
    (of_decide_eq_true (by kernel_rfl)) (by unfold Func.isWrapper; first | (rw [if_pos (by decide +kernel)]; kernel_rfl) | (rw [if_neg (by decide +kernel)]; exact ⟨rfl, rfl⟩))
    (fun os started H enc _ => lifted os started H enc)
theorem proved : Rows.WiresSendsSaid := over
#print axioms proved
end Go.Proofs.Ytlkfmmjoiadoiaa.wiresSends
namespace Go.Proofs.Ytlkfmmjoiadoiaa
/-- The row, under a short name, for the claim. -/
theorem wiresSends_holds : Rows.WiresSendsSaid := wiresSends.proved
end Go.Proofs.Ytlkfmmjoiadoiaa
