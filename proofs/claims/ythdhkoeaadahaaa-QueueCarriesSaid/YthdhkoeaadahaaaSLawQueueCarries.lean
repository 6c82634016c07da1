/- The row of the law QueueCarries: out of its plain statement (YthdhkoeaadahaaaPureQueueCarries) and its printed contract; no condition. -/
import Derived.Test.YthdhkoeaadahaaaRows
import Derived.Test.YthdhkoeaadahaaaSPx104
import Derived.Test.YthdhkoeaadahaaaSPureQueueCarries
import Derived.WalkKit
import Derived.ProofKit
import Derived.OpenShut
import Derived.ShutString
import Derived.ChangeOld
import Derived.Below
import Derived.SizedLaws
import Derived.Test.YthdhkoeaadahaaaSOpens
import Derived.Test.YthdhkoeaadahaaaSGood
import Derived.Test.YthdhkoeaadahaaaSHead
namespace Go.Proofs.Ythdhkoeaadahaaa.queueCarries
open Go.ChangeShapes Go.WideShapes Go.ChangeAt Go.RowKit Go.Proofs.YthdhkoeaadahaaaW.PrintWords Go.Proofs.Ythdhkoeaadahaaa.P Go.Proofs.Ythdhkoeaadahaaa.Opens
open Go.ChangeMaps (open_string shut_string)
set_option linter.unusedVariables false
theorem own : ownKnob Try.prog.godebug = none := by kernel_rfl
theorem laidOut : laidOutB Try.prog = true := by kernel_rfl
set_option maxRecDepth 100000 in
set_option maxHeartbeats 2000000 in
theorem lifted (os : Os) (started : os.Started) (H : Type) (enc : TypeId × Value → H) :
    ReturnsInHanded {} Try.checked os 29 .any (Rows.queueCarriesSpec.pre6 enc Try.prog Try.f29 Rows.queueCarriesRow.domain false) (Rows.queueCarriesSpec.post enc Try.prog Try.f29 false true false false) := by
  refine returnsInHanded_of_change_sized (C := Try.checked) own started (by kernel_rfl) Try.func29
    (ChangeSpec.witness6 (enc := enc) (C := Try.checked) false ⟨#[], #[.slice none 0 0, .slice none 0 0, .slice none 0 0, .slice none 0 0], []⟩ 8 (by kernel_rfl) (by kernel_rfl) (by kernel_rfl) (by kernel_rfl)) ?_
  intro W base args ds gs before hval0 hW hcnd hsz0 _
  have hsz : (DataW.weightsEach Try.prog (Try.f29.params.toList ++ Rows.queueCarriesSpec.plain.varTypes Try.prog) (ds ++ gs)).all (· ≤ reachBytes) = true := hsz0
  have hval : ∀ (j : Nat) t v, Try.f29.params[j]? = some t → args[j]? = some v → Value.okWide Try.prog W .any base t v := hval0
  have hW' := hW
  obtain ⟨p, q, hA0, hV, rfl, hfz, hnd⟩ := hW
  have hA : DataW.TrodAll enc Try.prog W 0 (fun _ => true) true Try.f29.params.toList args.toList ds p := hA0
  rw [Try.params29] at hA hval hsz
  obtain ⟨v0, vs0, d0, ds0, p0, q0, hargs, rfl, rfl, h0, r0⟩ := trodAll_cons hA
  obtain ⟨v1, vs1, d1, ds1, p1, q1, rfl, rfl, rfl, h1, r1⟩ := trodAll_cons r0
  obtain ⟨v2, vs2, d2, ds2, p2, q2, rfl, rfl, rfl, h2, r2⟩ := trodAll_cons r1
  obtain ⟨v3, vs3, d3, ds3, p3, q3, rfl, rfl, rfl, h3, r3⟩ := trodAll_cons r2
  obtain ⟨rfl, rfl, rfl⟩ := trodAll_nil r3
  obtain rfl : args = #[v0, v1, v2, v3] := by cases args; simp_all
  obtain ⟨rfl, rfl⟩ := trodVars_none hV
  obtain ⟨A0, n0, c0, rfl⟩ := okWide_slice Try.underlying37 (hval 0 37 v0 rfl rfl)
  have k0 := h0
  have lt0 : ∀ x ∈ p0, x.block < W.heap.size := by obtain ⟨m, hm⟩ := k0; exact DataW.trod_lt m _ _ _ hm
  obtain ⟨l0, K0, b0⟩ : ∃ x : List (S49), ((Kd.slice 49 k49)).K W x [.slice A0 n0 c0] ∧ (fun xs : List (S49) => xs.length * 32 ≤ 140737488351232 ∧ xs.length ≤ maxLen ∧ ∀ x ∈ xs, good49 x) x := by
    obtain ⟨fuel, hf⟩ := h0
    exact (Opens.slice Try.underlying37 (by kernel_rfl) (show Try.prog.bytesOf 49 = 32 by kernel_rfl) opens49) H enc W fuel _ _ _ hf (weights_arg hsz (j := 0) rfl rfl)
  obtain ⟨A0', c0', e0, m0, g0⟩ := K0
  simp only [List.cons.injEq, Value.slice.injEq, and_true] at e0
  obtain ⟨rfl, rfl, rfl⟩ := e0
  obtain ⟨A1, n1, c1, rfl⟩ := okWide_slice Try.underlying96 (hval 1 96 v1 rfl rfl)
  have k1 := h1
  have lt1 : ∀ x ∈ p1, x.block < W.heap.size := by obtain ⟨m, hm⟩ := k1; exact DataW.trod_lt m _ _ _ hm
  obtain ⟨l1, K1, b1⟩ : ∃ x : List (List (S74)), ((Kd.slice 25 (Kd.slice 74 k74))).K W x [.slice A1 n1 c1] ∧ (fun xs : List (List (S74)) => xs.length * 24 ≤ 140737488351232 ∧ xs.length ≤ maxLen ∧ ∀ x ∈ xs, (fun xs : List (S74) => xs.length * 32 ≤ 140737488351232 ∧ xs.length ≤ maxLen ∧ ∀ x ∈ xs, good74 x) x) x := by
    obtain ⟨fuel, hf⟩ := h1
    exact (Opens.slice Try.underlying96 (by kernel_rfl) (show Try.prog.bytesOf 25 = 24 by kernel_rfl) (Opens.slice Try.underlying25 (by kernel_rfl) (show Try.prog.bytesOf 74 = 32 by kernel_rfl) opens74)) H enc W fuel _ _ _ hf (weights_arg hsz (j := 1) rfl rfl)
  obtain ⟨A1', c1', e1, m1, g1⟩ := K1
  simp only [List.cons.injEq, Value.slice.injEq, and_true] at e1
  obtain ⟨rfl, rfl, rfl⟩ := e1
  obtain ⟨A2, n2, c2, rfl⟩ := okWide_slice Try.underlying97 (hval 2 97 v2 rfl rfl)
  have k2 := h2
  have lt2 : ∀ x ∈ p2, x.block < W.heap.size := by obtain ⟨m, hm⟩ := k2; exact DataW.trod_lt m _ _ _ hm
  obtain ⟨l2, K2, b2⟩ : ∃ x : List Bool, ((Kd.slice 4 Kd.bool)).K W x [.slice A2 n2 c2] ∧ (fun xs : List Bool => xs.length * 1 ≤ 140737488351232 ∧ xs.length ≤ maxLen ∧ ∀ x ∈ xs, (fun _ : Bool => True) x) x := by
    obtain ⟨fuel, hf⟩ := h2
    exact (Opens.slice Try.underlying97 (by kernel_rfl) (show Try.prog.bytesOf 4 = 1 by kernel_rfl) (Opens.bool Try.underlying4)) H enc W fuel _ _ _ hf (weights_arg hsz (j := 2) rfl rfl)
  obtain ⟨A2', c2', e2, m2, g2⟩ := K2
  simp only [List.cons.injEq, Value.slice.injEq, and_true] at e2
  obtain ⟨rfl, rfl, rfl⟩ := e2
  obtain ⟨A3, n3, c3, rfl⟩ := okWide_slice Try.underlying97 (hval 3 97 v3 rfl rfl)
  have k3 := h3
  have lt3 : ∀ x ∈ p3, x.block < W.heap.size := by obtain ⟨m, hm⟩ := k3; exact DataW.trod_lt m _ _ _ hm
  obtain ⟨l3, K3, b3⟩ : ∃ x : List Bool, ((Kd.slice 4 Kd.bool)).K W x [.slice A3 n3 c3] ∧ (fun xs : List Bool => xs.length * 1 ≤ 140737488351232 ∧ xs.length ≤ maxLen ∧ ∀ x ∈ xs, (fun _ : Bool => True) x) x := by
    obtain ⟨fuel, hf⟩ := h3
    exact (Opens.slice Try.underlying97 (by kernel_rfl) (show Try.prog.bytesOf 4 = 1 by kernel_rfl) (Opens.bool Try.underlying4)) H enc W fuel _ _ _ hf (weights_arg hsz (j := 3) rfl rfl)
  obtain ⟨A3', c3', e3, m3, g3⟩ := K3
  simp only [List.cons.injEq, Value.slice.injEq, and_true] at e3
  obtain ⟨rfl, rfl, rfl⟩ := e3
  clear hA0 hval0 hsz0 hsz
  obtain ⟨k, h⟩ := Pure.QueueCarries l0 l1 l2 l3 b0 b1 b2 b3
  refine (counterfoillaw12_QueueCarries.calls k _ _ l0 _ _ l1 _ _ l2 _ _ l3 true W g0 m0 g1 m1 g2 m2 g3 m3 h).mono ?_
  rintro e W' ⟨rfl, bel0⟩
  have bel : Below W.heap.size W W' := bel0
  exact ⟨_, rfl, _, _, _, [], _, [], hW', trodAll_mk1 (shut_bool Try.underlying4 _), (trodAll_cons_mk (Below.trod laidOut (by kernel_rfl) (of_decide_eq_true (by kernel_rfl)) k0 bel lt0) (trodAll_cons_mk (Below.trod laidOut (by kernel_rfl) (of_decide_eq_true (by kernel_rfl)) k1 bel lt1) (trodAll_cons_mk (Below.trod laidOut (by kernel_rfl) (of_decide_eq_true (by kernel_rfl)) k2 bel lt2) (trodAll_cons_mk (Below.trod laidOut (by kernel_rfl) (of_decide_eq_true (by kernel_rfl)) k3 bel lt3) trodAll_mk0)))), rfl, bel.frame _, fun h => by cases h⟩
set_option maxHeartbeats 4000000 in
theorem closed : joinedFacts Try.pinned.checked.prog 29 Try.f29 Rows.queueCarriesSpec Rows.queueCarriesRow = true := by
  unfold joinedFacts
  simp only [Bool.and_eq_true]
  and_intros
  all_goals (first | with_reducible exact Head.mayEnter' | with_reducible exact Head.lifted' rfl | with_reducible exact Head.made' rfl | (as_aux_lemma => kernel_rfl))
theorem over : Rows.queueCarriesRow.holds Try.pinned (OpenSpec.ofChange Rows.queueCarriesSpec) :=
  OpenClaim.holds_of_wide 29 Try.f29 rfl rfl rfl rfl rfl rfl rfl ⟨rfl, rfl, rfl, rfl, rfl⟩ rfl rfl rfl rfl rfl (by kernel_rfl) Try.func29 closed
    (of_decide_eq_true (by kernel_rfl)) (by unfold Func.isWrapper; first | (rw [if_pos (by decide +kernel)]; kernel_rfl) | (rw [if_neg (by decide +kernel)]; exact ⟨rfl, rfl⟩))
    (fun os started H enc _ => lifted os started H enc)
theorem proved : Rows.QueueCarriesSaid := over
end Go.Proofs.Ythdhkoeaadahaaa.queueCarries
namespace Go.Proofs.Ythdhkoeaadahaaa
theorem queueCarries_holds : Rows.QueueCarriesSaid := queueCarries.proved
end Go.Proofs.Ythdhkoeaadahaaa
