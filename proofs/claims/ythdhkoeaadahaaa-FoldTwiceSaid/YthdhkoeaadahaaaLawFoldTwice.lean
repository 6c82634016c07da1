/- The row of the law FoldTwice: out of its plain statement (YthdhkoeaadahaaaPureFoldTwice) and its printed contract; no condition. -/
import Derived.Test.YthdhkoeaadahaaaRows
import Derived.Test.YthdhkoeaadahaaaPx53
import Derived.Test.YthdhkoeaadahaaaPureFoldTwice
import Derived.WalkKit
import Derived.ProofKit
import Derived.OpenShut
import Derived.ShutString
import Derived.ChangeOld
import Derived.Below
import Derived.SizedLaws
import Derived.Test.YthdhkoeaadahaaaOpens
import Derived.Test.YthdhkoeaadahaaaGood
import Derived.Test.YthdhkoeaadahaaaHead
namespace Go.Proofs.Ythdhkoeaadahaaa.foldTwice
open Go.ChangeShapes Go.WideShapes Go.ChangeAt Go.RowKit Go.Proofs.YthdhkoeaadahaaaW.PrintWords Go.Proofs.Ythdhkoeaadahaaa.P Go.Proofs.Ythdhkoeaadahaaa.Opens
open Go.ChangeMaps (open_string shut_string)
set_option linter.unusedVariables false
theorem own : ownKnob Try.prog.godebug = none := by kernel_rfl
theorem laidOut : laidOutB Try.prog = true := by kernel_rfl
set_option maxRecDepth 100000 in
set_option maxHeartbeats 2000000 in
theorem lifted (os : Os) (started : os.Started) (H : Type) (enc : TypeId × Value → H) :
    ReturnsInHanded {} Try.checked os 7 .any (Rows.foldTwiceSpec.pre6 enc Try.prog Try.f7 Rows.foldTwiceRow.domain false) (Rows.foldTwiceSpec.post enc Try.prog Try.f7 false true false false) := by
  refine returnsInHanded_of_change_sized (C := Try.checked) own started (by kernel_rfl) Try.func7
    (ChangeSpec.witness6 (enc := enc) (C := Try.checked) false ⟨#[], #[.slice none 0 0], []⟩ 8 (by kernel_rfl) (by kernel_rfl) (by kernel_rfl) (by kernel_rfl)) ?_
  intro W base args ds gs before hval0 hW hcnd hsz0 _
  have hsz : (DataW.weightsEach Try.prog (Try.f7.params.toList ++ Rows.foldTwiceSpec.plain.varTypes Try.prog) (ds ++ gs)).all (· ≤ reachBytes) = true := hsz0
  have hval : ∀ (j : Nat) t v, Try.f7.params[j]? = some t → args[j]? = some v → Value.okWide Try.prog W .any base t v := hval0
  have hW' := hW
  obtain ⟨p, q, hA0, hV, rfl, hfz, hnd⟩ := hW
  have hA : DataW.TrodAll enc Try.prog W 0 (fun _ => true) true Try.f7.params.toList args.toList ds p := hA0
  rw [Try.params7] at hA hval hsz
  obtain ⟨v0, vs0, d0, ds0, p0, q0, hargs, rfl, rfl, h0, r0⟩ := trodAll_cons hA
  obtain ⟨rfl, rfl, rfl⟩ := trodAll_nil r0
  obtain rfl : args = #[v0] := by cases args; simp_all
  obtain ⟨rfl, rfl⟩ := trodVars_none hV
  obtain ⟨A0, n0, c0, rfl⟩ := okWide_slice Try.underlying25 (hval 0 25 v0 rfl rfl)
  have k0 := h0
  have lt0 : ∀ x ∈ p0, x.block < W.heap.size := by obtain ⟨m, hm⟩ := k0; exact DataW.trod_lt m _ _ _ hm
  obtain ⟨l0, K0, b0⟩ : ∃ x : List (S74), ((Kd.slice 74 k74)).K W x [.slice A0 n0 c0] ∧ (fun xs : List (S74) => xs.length * 32 ≤ 140737488351232 ∧ xs.length ≤ maxLen ∧ ∀ x ∈ xs, good74 x) x := by
    obtain ⟨fuel, hf⟩ := h0
    exact (Opens.slice Try.underlying25 (by kernel_rfl) (show Try.prog.bytesOf 74 = 32 by kernel_rfl) opens74) H enc W fuel _ _ _ hf (weights_arg hsz (j := 0) rfl rfl)
  obtain ⟨A0', c0', e0, m0, g0⟩ := K0
  simp only [List.cons.injEq, Value.slice.injEq, and_true] at e0
  obtain ⟨rfl, rfl, rfl⟩ := e0
  clear hA0 hval0 hsz0 hsz
  obtain ⟨k, h⟩ := Pure.FoldTwice l0 b0
  refine (counterfoillaw08_FoldTwice.calls k _ _ l0 true W g0 m0 h).mono ?_
  rintro e W' ⟨rfl, bel0⟩
  have bel : Below W.heap.size W W' := bel0
  exact ⟨_, rfl, _, _, _, [], _, [], hW', trodAll_mk1 (shut_bool Try.underlying4 _), (trodAll_cons_mk (Below.trod laidOut (by kernel_rfl) (of_decide_eq_true (by kernel_rfl)) k0 bel lt0) trodAll_mk0), rfl, bel.frame _, fun h => by cases h⟩
theorem closed : joinedFacts Try.pinned.checked.prog 7 Try.f7 Rows.foldTwiceSpec Rows.foldTwiceRow = true := by
  unfold joinedFacts
  simp only [Bool.and_eq_true]
  and_intros
  all_goals (first | with_reducible exact Head.mayEnter' | with_reducible exact Head.lifted' rfl | with_reducible exact Head.made' rfl | (as_aux_lemma => kernel_rfl))
theorem over : Rows.foldTwiceRow.holds Try.pinned (OpenSpec.ofChange Rows.foldTwiceSpec) :=
  OpenClaim.holds_of_wide 7 Try.f7 rfl rfl rfl rfl rfl rfl rfl ⟨rfl, rfl, rfl, rfl, rfl⟩ rfl rfl rfl rfl rfl (by kernel_rfl) Try.func7 closed
    (of_decide_eq_true (by kernel_rfl)) (by unfold Func.isWrapper; first | (rw [if_pos (by decide +kernel)]; kernel_rfl) | (rw [if_neg (by decide +kernel)]; exact ⟨rfl, rfl⟩))
    (fun os started H enc _ => lifted os started H enc)
theorem proved : Rows.FoldTwiceSaid := over
#print axioms proved
end Go.Proofs.Ythdhkoeaadahaaa.foldTwice
namespace Go.Proofs.Ythdhkoeaadahaaa
/-- The row, under a short name, for the claim. -/
theorem foldTwice_holds : Rows.FoldTwiceSaid := foldTwice.proved
end Go.Proofs.Ythdhkoeaadahaaa
