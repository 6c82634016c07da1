-- PACKED by wip/kit/pack.py: what the law's proof uses of Head (printed words and texts of this seat)
import Derived.Test.YthdhkoeaadahaaaRows
import Derived.KernelRfl
import Derived.JoinedOf
namespace Go.Proofs.Ythdhkoeaadahaaa.Head
def words : List (List Nat) := [[104, 97, 114, 110, 101, 115, 115], [52, 55, 102, 57, 102, 54, 55, 99, 53, 52, 102, 101, 101, 101, 49, 54, 56, 52, 98, 56, 57, 50, 53, 97, 49, 102, 54, 97, 99, 98, 53, 51, 54, 54, 48, 57, 100, 48, 54, 50, 53, 56, 55, 54, 49, 51, 48, 56, 56, 55, 53, 48, 51, 52, 57, 102, 57, 97, 100, 57, 100, 49, 102, 57], [99, 117, 116], [97, 116], [99, 111, 117, 110, 116, 101, 114, 102, 111, 105, 108, 47, 99, 111, 117, 110, 116, 101, 114, 102, 111, 105, 108, 108, 97, 119, 49, 51, 46, 76, 97, 103, 74, 117, 100, 103, 101, 115], [99, 111, 117, 110, 116, 101, 114, 102, 111, 105, 108, 47, 99, 111, 117, 110, 116, 101, 114, 102, 111, 105, 108, 108, 97, 119, 49, 51, 46, 76, 97, 103, 76, 101, 115, 115], [99, 111, 117, 110, 116, 101, 114, 102, 111, 105, 108, 47, 99, 111, 117, 110, 116, 101, 114, 102, 111, 105, 108, 108, 97, 119, 48, 55, 46, 86, 111, 108, 115, 71, 101, 116, 115], [99, 111, 117, 110, 116, 101, 114, 102, 111, 105, 108, 47, 99, 111, 117, 110, 116, 101, 114, 102, 111, 105, 108, 108, 97, 119, 48, 55, 46, 86, 111, 108, 115, 83, 105, 122, 101, 115], [99, 111, 117, 110, 116, 101, 114, 102, 111, 105, 108, 47, 99, 111, 117, 110, 116, 101, 114, 102, 111, 105, 108, 108, 97, 119, 48, 56, 46, 70, 111, 108, 100, 84, 119, 105, 99, 101], [99, 111, 117, 110, 116, 101, 114, 102, 111, 105, 108, 47, 99, 111, 117, 110, 116, 101, 114, 102, 111, 105, 108, 108, 97, 119, 48, 55, 46, 86, 111, 108, 115, 83, 97, 109, 101], [99, 111, 117, 110, 116, 101, 114, 102, 111, 105, 108, 47, 99, 111, 117, 110, 116, 101, 114, 102, 111, 105, 108, 108, 97, 119, 48, 56, 46, 70, 111, 108, 100, 84, 101, 108, 108, 115], [99, 111, 117, 110, 116, 101, 114, 102, 111, 105, 108, 47, 99, 111, 117, 110, 116, 101, 114, 102, 111, 105, 108, 108, 97, 119, 48, 55, 46, 86, 111, 108, 115, 65, 112, 112, 108, 105, 101, 115], [99, 111, 117, 110, 116, 101, 114, 102, 111, 105, 108, 47, 99, 111, 117, 110, 116, 101, 114, 102, 111, 105, 108, 108, 97, 119, 48, 55, 46, 86, 111, 108, 115, 80, 97, 114, 116, 115], [99, 111, 117, 110, 116, 101, 114, 102, 111, 105, 108, 47, 99, 111, 117, 110, 116, 101, 114, 102, 111, 105, 108, 108, 97, 119, 48, 55, 46, 86, 111, 108, 115, 83, 104, 97, 112, 101, 115], [99, 111, 117, 110, 116, 101, 114, 102, 111, 105, 108, 47, 99, 111, 117, 110, 116, 101, 114, 102, 111, 105, 108, 108, 97, 119, 48, 56, 46, 70, 111, 108, 100, 77, 101, 114, 103, 101, 115], [99, 111, 117, 110, 116, 101, 114, 102, 111, 105, 108, 47, 99, 111, 117, 110, 116, 101, 114, 102, 111, 105, 108, 108, 97, 119, 48, 55, 46, 86, 111, 108, 115, 83, 116, 97, 121], [99, 111, 117, 110, 116, 101, 114, 102, 111, 105, 108, 47, 99, 111, 117, 110, 116, 101, 114, 102, 111, 105, 108, 108, 97, 119, 48, 55, 46, 86, 111, 108, 115, 85, 110, 100, 111], [99, 111, 117, 110, 116, 101, 114, 102, 111, 105, 108, 47, 99, 111, 117, 110, 116, 101, 114, 102, 111, 105, 108, 108, 97, 119, 48, 56, 46, 70, 111, 108, 100, 80, 105, 99, 107, 115], [99, 111, 117, 110, 116, 101, 114, 102, 111, 105, 108, 47, 99, 111, 117, 110, 116, 101, 114, 102, 111, 105, 108, 108, 97, 119, 48, 56, 46, 70, 111, 108, 100, 68, 111, 101, 115], [99, 111, 117, 110, 116, 101, 114, 102, 111, 105, 108, 47, 99, 111, 117, 110, 116, 101, 114, 102, 111, 105, 108, 108, 97, 119, 49, 50, 46, 81, 117, 101, 117, 101, 78, 101, 119, 115], [99, 111, 117, 110, 116, 101, 114, 102, 111, 105, 108, 47, 99, 111, 117, 110, 116, 101, 114, 102, 111, 105, 108, 108, 97, 119, 49, 50, 46, 81, 117, 101, 117, 101, 65, 100, 100, 115], [99, 111, 117, 110, 116, 101, 114, 102, 111, 105, 108, 47, 99, 111, 117, 110, 116, 101, 114, 102, 111, 105, 108, 108, 97, 119, 49, 50, 46, 81, 117, 101, 117, 101, 84, 119, 105, 99, 101], [99, 111, 117, 110, 116, 101, 114, 102, 111, 105, 108, 47, 99, 111, 117, 110, 116, 101, 114, 102, 111, 105, 108, 108, 97, 119, 48, 56, 46, 70, 111, 108, 100, 84, 97, 107, 101, 115], [99, 111, 117, 110, 116, 101, 114, 102, 111, 105, 108, 47, 99, 111, 117, 110, 116, 101, 114, 102, 111, 105, 108, 108, 97, 119, 49, 50, 46, 81, 117, 101, 117, 101, 68, 111, 110, 101], [99, 111, 117, 110, 116, 101, 114, 102, 111, 105, 108, 47, 99, 111, 117, 110, 116, 101, 114, 102, 111, 105, 108, 108, 97, 119, 49, 51, 46, 76, 97, 103, 66, 111, 117, 110, 100, 115], [99, 111, 117, 110, 116, 101, 114, 102, 111, 105, 108, 47, 99, 111, 117, 110, 116, 101, 114, 102, 111, 105, 108, 108, 97, 119, 48, 57, 46, 83, 110, 97, 112, 78, 111, 116, 101, 115], [99, 111, 117, 110, 116, 101, 114, 102, 111, 105, 108, 47, 99, 111, 117, 110, 116, 101, 114, 102, 111, 105, 108, 108, 97, 119, 48, 57, 46, 83, 110, 97, 112, 82, 111, 111, 109], [99, 111, 117, 110, 116, 101, 114, 102, 111, 105, 108, 47, 99, 111, 117, 110, 116, 101, 114, 102, 111, 105, 108, 108, 97, 119, 48, 57, 46, 83, 110, 97, 112, 82, 101, 97, 100, 115], [99, 111, 117, 110, 116, 101, 114, 102, 111, 105, 108, 47, 99, 111, 117, 110, 116, 101, 114, 102, 111, 105, 108, 108, 97, 119, 48, 57, 46, 83, 110, 97, 112, 65, 108, 105, 107, 101], [99, 111, 117, 110, 116, 101, 114, 102, 111, 105, 108, 47, 99, 111, 117, 110, 116, 101, 114, 102, 111, 105, 108, 108, 97, 119, 48, 57, 46, 83, 110, 97, 112, 83, 116, 97, 121, 115], [99, 111, 117, 110, 116, 101, 114, 102, 111, 105, 108, 47, 99, 111, 117, 110, 116, 101, 114, 102, 111, 105, 108, 108, 97, 119, 49, 50, 46, 81, 117, 101, 117, 101, 67, 97, 114, 114, 105, 101, 115]]
def joined : List (List Nat) → List Nat
  | [] => []
  | [w] => w
  | w :: v :: r => w ++ 32 :: joined (v :: r)
theorem plainSign : ∀ n, n < 128 → n ≠ 32 → Char.ofNat n ≠ Char.ofNat 32 := by decide
theorem split_one : ∀ (w : List Char), (∀ c ∈ w, c ≠ Char.ofNat 32) → wordsSigns w = [w]
  | [], _ => rfl
  | c :: w, h => by
    have ih := split_one w (fun d hd => h d (List.mem_cons_of_mem _ hd))
    have hc := h c List.mem_cons_self
    unfold wordsSigns
    split
    · simp_all
    · rename_i heq
      exact absurd (List.cons.inj heq).1 hc
    · rename_i c' r' _ heq
      obtain ⟨rfl, rfl⟩ := List.cons.inj heq
      rw [ih]
theorem split_more : ∀ (w r : List Char), (∀ c ∈ w, c ≠ Char.ofNat 32) → wordsSigns (w ++ Char.ofNat 32 :: r) = w :: wordsSigns r
  | [], _, _ => rfl
  | c :: w, r, h => by
    have ih := split_more w r (fun d hd => h d (List.mem_cons_of_mem _ hd))
    have hc := h c List.mem_cons_self
    rw [List.cons_append]
    conv => lhs; unfold wordsSigns
    split
    · simp_all
    · rename_i heq
      exact absurd (List.cons.inj heq).1 hc
    · rename_i c' r' _ heq
      obtain ⟨rfl, rfl⟩ := List.cons.inj heq
      rw [ih]
theorem apart : ∀ ws : List (List Nat), ws ≠ [] → (ws.all fun w => w.all fun n => decide (n < 128) && decide (n ≠ 32)) = true → wordsSigns ((joined ws).map Char.ofNat) = ws.map (·.map Char.ofNat)
  | [], h, _ => absurd rfl h
  | [w], _, h => by
    simp only [joined, List.map_cons, List.map_nil]
    refine split_one _ fun c hc => ?_
    obtain ⟨n, hn, rfl⟩ := List.mem_map.1 hc
    simp only [List.all_cons, List.all_nil, Bool.and_true, List.all_eq_true, Bool.and_eq_true, decide_eq_true_eq] at h
    exact plainSign n (h n hn).1 (h n hn).2
  | w :: v :: r, _, h => by
    rw [List.all_cons, Bool.and_eq_true] at h
    have ih := apart (v :: r) (by simp) h.2
    simp only [joined, List.map_append, List.map_cons] at ih ⊢
    rw [split_more _ _ (fun c hc => ?_), ih]
    obtain ⟨n, hn, rfl⟩ := List.mem_map.1 hc
    have h1 := h.1
    simp only [List.all_eq_true, Bool.and_eq_true, decide_eq_true_eq] at h1
    exact plainSign n (h1 n hn).1 (h1 n hn).2
def word : String := "harness 47f9f67c54feee1684b8925a1f6acb536609d062587613088750349f9ad9d1f9 cut at counterfoil/counterfoillaw13.LagJudges counterfoil/counterfoillaw13.LagLess counterfoil/counterfoillaw07.VolsGets counterfoil/counterfoillaw07.VolsSizes counterfoil/counterfoillaw08.FoldTwice counterfoil/counterfoillaw07.VolsSame counterfoil/counterfoillaw08.FoldTells counterfoil/counterfoillaw07.VolsApplies counterfoil/counterfoillaw07.VolsParts counterfoil/counterfoillaw07.VolsShapes counterfoil/counterfoillaw08.FoldMerges counterfoil/counterfoillaw07.VolsStay counterfoil/counterfoillaw07.VolsUndo counterfoil/counterfoillaw08.FoldPicks counterfoil/counterfoillaw08.FoldDoes counterfoil/counterfoillaw12.QueueNews counterfoil/counterfoillaw12.QueueAdds counterfoil/counterfoillaw12.QueueTwice counterfoil/counterfoillaw08.FoldTakes counterfoil/counterfoillaw12.QueueDone counterfoil/counterfoillaw13.LagBounds counterfoil/counterfoillaw09.SnapNotes counterfoil/counterfoillaw09.SnapRoom counterfoil/counterfoillaw09.SnapReads counterfoil/counterfoillaw09.SnapAlike counterfoil/counterfoillaw09.SnapStays counterfoil/counterfoillaw12.QueueCarries"
theorem isWord : Try.prog.initOrder = word := by kernel_rfl
theorem bytes : word.toByteArray = List.utf8Encode ((joined words).map Char.ofNat) := by kernel_rfl
theorem text : Try.prog.initOrder = String.ofList ((joined words).map Char.ofNat) := isWord.trans (String.toByteArray_inj.1 (bytes.trans String.toByteArray_ofList.symm))
theorem head : wordsSigns Try.prog.initOrder.toList = words.map (·.map Char.ofNat) := by rw [text, String.toList_ofList, apart words (by decide) (by kernel_rfl)]
def cutSigns : List Char := [99, 117, 116].map Char.ofNat
theorem behind : ∃ rest, behindMainWord (wordsSigns Try.prog.initOrder.toList) = cutSigns :: rest := by
  rw [head]
  exact ⟨(words.drop 3).map (·.map Char.ofNat), by kernel_rfl⟩
theorem strip (rest : List (List Char)) : stripLifts liftWords (cutSigns :: rest) = ([], cutSigns :: rest) := by kernel_rfl
theorem notGc : (cutSigns == "gc".toList) = false := by kernel_rfl
theorem notSpec : (cutSigns == "spec".toList) = false := by kernel_rfl
theorem notCarried : (cutSigns == "carried".toList) = false := by kernel_rfl
theorem isCut : (some cutSigns == some "cut".toList) = true := by kernel_rfl
theorem isCut' : (cutSigns == "cut".toList) = true := by kernel_rfl
theorem notCarried' : (some cutSigns == some "carried".toList) = false := by kernel_rfl
theorem later : Try.prog.laysLater = false := by kernel_rfl
theorem reflect : Try.prog.bearsReflect = false := by kernel_rfl
theorem door : Try.prog.doorFits [] = true := by kernel_rfl
theorem mayEnter_of {P : Program} {rest : List (List Char)} (h : behindMainWord (wordsSigns P.initOrder.toList) = cutSigns :: rest) (later : P.laysLater = false) (reflect : P.bearsReflect = false) (door : P.doorFits [] = true) : P.mayEnter = true := by
  unfold Program.mayEnter
  rw [h]
  simp only [strip, notGc, notSpec, notCarried, List.head?_cons, isCut, later, reflect, door, Bool.not_false, Bool.or_true, Bool.and_true, List.contains_nil]
theorem lifts_of {P : Program} {rest : List (List Char)} (h : behindMainWord (wordsSigns P.initOrder.toList) = cutSigns :: rest) : P.liftsFinal = false := by
  unfold Program.liftsFinal Program.headLifts
  rw [h]
  simp only [strip, List.head?_cons, isCut, notCarried', Bool.false_and, if_true, List.contains_nil, Bool.or_false]
theorem made_of {P : Program} {rest : List (List Char)} (h : behindMainWord (wordsSigns P.initOrder.toList) = cutSigns :: rest) : P.make = some .cut := by
  unfold Program.make
  rw [h]
  simp only [notGc, notSpec, isCut', Bool.or_false, Bool.false_eq_true, if_false, Bool.true_or, if_true]
theorem mayEnter : Try.prog.mayEnter = true := by
  obtain ⟨rest, h⟩ := behind
  exact mayEnter_of h later reflect door
theorem lifts : Try.prog.liftsFinal = false := by
  obtain ⟨rest, h⟩ := behind
  exact lifts_of h
theorem made : Try.prog.make = some .cut := by
  obtain ⟨rest, h⟩ := behind
  exact made_of h
theorem mayEnter' : Try.pinned.checked.prog.mayEnter = true := mayEnter
theorem lifted' {b : Bool} (h : b = false) : (b == Try.pinned.checked.prog.liftsFinal) = true := by
  have e : Try.pinned.checked.prog.liftsFinal = false := lifts
  rw [e, h]; rfl
theorem made' {m : Make} (h : m = .cut) : (Try.pinned.checked.prog.make == some m) = true := by
  have e : Try.pinned.checked.prog.make = some .cut := made
  rw [e, h]; rfl
end Go.Proofs.Ythdhkoeaadahaaa.Head
