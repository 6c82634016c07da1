-- PACKED by wip/kit/pack.py: what the law's proof uses of Opens (printed words and texts of this seat)
import Derived.Test.YthdhkoeaadahaaaSWMore
import Derived.ChangeArms
import Derived.Deep.Slices
import Derived.SizedLaws
import Derived.WideShapes
namespace Go.Proofs.Ythdhkoeaadahaaa.Opens
open Go.RowKit Go.Proofs.YthdhkoeaadahaaaW.PrintWords Go.Deep Go.WideShapes
set_option linter.unusedVariables false
def Opens (P : Program) (T : TypeId) {α : Type} (d : Kd α) (G : α → Prop) : Prop :=
  ∀ (H : Type) (enc : TypeId × Value → H) (w : World) (fuel : Nat) (cs : List Value) (dd : DataW H) (ps : List MemPlace),
    DataW.trod enc P w 0 (fun _ => true) true fuel T cs = some (dd, ps) → (∀ n ∈ DataW.weights P T dd, n ≤ reachBytes) → ∃ x : α, d.K w x cs ∧ G x
section
variable {P : Program} {T : TypeId}
theorem Opens.int {k : IntKind} (hu : P.underlying T = some (.int k)) : Opens P T (Kd.int k) (fun x => (Lit.int k x).wf = true) := by
  intro H enc w fuel cs dd ps h _
  obtain ⟨n, rfl, _, hw⟩ := DataW.trod_int hu h
  exact ⟨n, rfl, hw⟩
theorem Opens.bool (hu : P.underlying T = some .bool) : Opens P T Kd.bool (fun _ => True) := by
  intro H enc w fuel cs dd ps h _
  obtain ⟨b, rfl, _⟩ := DataW.trod_bool hu h
  exact ⟨b, rfl, trivial⟩
theorem Opens.string (hu : P.underlying T = some .string) : Opens P T Kd.string (fun s => s.size ≤ 140737488351232) := by
  intro H enc w fuel cs dd ps h hw
  obtain ⟨s, rfl, e, _⟩ := DataW.trod_string hu h
  obtain ⟨rfl, _⟩ := Prod.mk.inj e
  refine ⟨s, rfl, ?_⟩
  have := hw s.data.toList.length (by simp [DataW.weights])
  rw [Array.length_toList] at this
  exact this
theorem weights_of_all {H : Type} {e : TypeId} : ∀ {l : List (DataW H)} {d : DataW H}, d ∈ l → ∀ n ∈ d.weights P e, n ∈ DataW.weightsAll P e l
  | d0 :: r, d, hd, n, hn => by
    simp only [DataW.weightsAll, List.mem_append]
    rcases List.mem_cons.1 hd with rfl | hd
    · exact .inl hn
    · exact .inr (weights_of_all hd n hn)
  | [], _, hd, _, _ => by simp at hd
theorem Opens.slice {e : TypeId} {α : Type} [Inhabited α] {d : Kd α} {G : α → Prop} (hu : P.underlying T = some (.slice e)) (hs : P.cellsOf e = d.sz) {B : Nat} (hB : P.bytesOf e = B) (h : Opens P e d G) :
    Opens P T (Kd.slice e d) (fun xs => xs.length * B ≤ 140737488351232 ∧ xs.length ≤ maxLen ∧ ∀ x ∈ xs, G x) := by
  intro H enc w fuel cs dd ps ht hw
  rcases open_slice hu ht with ⟨rfl, _⟩ | ⟨a, len, cap, m, n, D, Pl, rfl, _, hl, hm, hmm, e1, hx⟩
  · exact ⟨[], ⟨none, 0, rfl, Nat.le_refl _, rfl, by simp, fun hp => absurd hp (by simp)⟩, by simp, by simp [maxLen], by simp⟩
  · obtain ⟨rfl, _⟩ := Prod.mk.inj e1
    simp only [if_true] at hmm
    subst hmm
    have key : ∀ i, i < len → ∃ x : α, (∃ c, c.length = d.sz ∧ d.K w x c ∧ ∀ j u, c[j]? = some u → w.cell? (a.add (i * d.sz + j)) = some u) ∧ G x := by
      intro i hi
      obtain ⟨c, hc, hr⟩ := hx i (by omega)
      obtain ⟨x, hk, hg⟩ := h H enc w n c (D i) (Pl i) hr (fun q hq => hw q (by
        simp only [DataW.weights, hu, List.mem_cons, List.mem_append]
        exact .inr (.inl (weights_of_all (List.mem_map.2 ⟨i, List.mem_range.2 hi, rfl⟩) q hq))))
      obtain ⟨_, hlen, hcell⟩ := World.cells?_some hc
      refine ⟨x, ⟨c, by rw [hlen, hs], hk, fun j u hj => ?_⟩, hg⟩
      have hjl : j < P.cellsOf e := by rw [← hlen]; exact (List.getElem?_eq_some_iff.1 hj).1
      have := hcell j hjl
      rw [hj, Go.Deep.add_add, hs] at this
      exact this
    obtain ⟨f, hf⟩ := choose_lt key
    have hml : len ≤ 9223372036854775807 := by simp only [maxLen] at hm; omega
    refine ⟨(List.range len).map f, ⟨some a, m, by simp, by simpa using hl, by simp, by simpa using hml, fun hp => ⟨a, rfl, fun j p hj => ?_⟩⟩, ?_, by simp; omega, ?_⟩
    · have hjl : j < len := by have := (List.getElem?_eq_some_iff.1 hj).1; simpa using this
      have : f j = p := by simpa [hjl] using hj
      subst this
      exact (hf j hjl).1
    · have := hw ((len + (m - len)) * P.bytesOf e) (by simp [DataW.weights, hu])
      rw [hB] at this
      have h1 : len * B ≤ (len + (m - len)) * B := Nat.mul_le_mul_right _ (by omega)
      simp only [List.length_map, List.length_range]
      exact Nat.le_trans h1 this
    · intro x hx
      obtain ⟨j, hj, rfl⟩ := List.mem_map.1 hx
      exact (hf j (List.mem_range.1 hj)).2
def OpensF (P : Program) (fs : List Field) (off : Nat) {α : Type} (d : Kd α) (G : α → Prop) : Prop :=
  ∀ (H : Type) (enc : TypeId × Value → H) (w : World) (fuel : Nat) (cs : List Value) (xs : List (DataW H × List MemPlace)),
    xs.length = fs.length → (∀ (i : Nat) (f : Field), fs[i]? = some f → DataW.trod enc P w 0 (fun _ => true) true fuel f.type ((cs.drop f.offset).take (P.cellsOf f.type)) = xs[i]?) → cs.length = off + d.sz →
    (∀ n ∈ DataW.weightsEach P (fs.map (·.type)) (xs.map (·.1)), n ≤ reachBytes) → ∃ x : α, d.K w x (cs.drop off) ∧ G x
theorem OpensF.one {f : Field} {off : Nat} {α : Type} {d : Kd α} {G : α → Prop} (ho : f.offset = off) (hs : P.cellsOf f.type = d.sz) (h : Opens P f.type d G) : OpensF P [f] off d G := by
  intro H enc w fuel cs xs hl ht hc hw
  have h0 := ht 0 f rfl
  match xs, hl with
  | [(dd, ps)], _ =>
    rw [ho, hs, List.take_of_length_le (by simp; omega)] at h0
    exact h H enc w fuel _ dd ps h0 (fun n hn => hw n (by simp [DataW.weightsEach]; exact hn))
theorem OpensF.cons {f : Field} {fs : List Field} {off : Nat} {α β : Type} {a : Kd α} {b : Kd β} {G : α → Prop} {K : β → Prop} (ho : f.offset = off) (hs : P.cellsOf f.type = a.sz) (h : Opens P f.type a G) (hf : OpensF P fs (off + a.sz) b K) :
    OpensF P (f :: fs) off (Kd.pair a b) (fun x => G x.1 ∧ K x.2) := by
  intro H enc w fuel cs xs hl ht hc hw
  have h0 := ht 0 f rfl
  match xs, hl with
  | (dd, ps) :: ys, hl =>
    rw [ho, hs] at h0
    have hc' : cs.length = off + (a.sz + b.sz) := hc
    obtain ⟨x, hx, gx⟩ := h H enc w fuel _ dd ps h0 (fun n hn => hw n (by simp [DataW.weightsEach]; exact .inl hn))
    obtain ⟨y, hy, gy⟩ := hf H enc w fuel cs ys (by simpa using hl) (fun i g hg => by simpa using ht (i + 1) g (by simpa using hg)) (by omega) (fun n hn => hw n (by simp [DataW.weightsEach]; exact .inr (by simpa using hn)))
    exact ⟨(x, y), ⟨(cs.drop off).take a.sz, cs.drop (off + a.sz), by rw [← List.drop_drop]; exact (List.take_append_drop _ _).symm, hx, hy⟩, gx, gy⟩
theorem Opens.struct {fs : List Field} {α β : Type} {d : Kd α} {G : α → Prop} {f : β → α} (g : α → β) (hg : ∀ x, f (g x) = x) {G' : β → Prop} (hG : ∀ y, G (f y) → G' y)
    (hu : P.underlying T = some (.struct fs.toArray)) (hs : P.cellsOf T = d.sz) (h : OpensF P fs 0 d G) : Opens P T (Kd.iso d f) G' := by
  intro H enc w fuel cs dd ps ht hw
  obtain ⟨xs, n, _, e, hl, hlen, hx⟩ := DataW.trod_struct hu ht
  obtain ⟨rfl, _⟩ := Prod.mk.inj e
  obtain ⟨x, hk, gx⟩ := h H enc w n cs xs (by simpa using hlen) (fun i q hq => hx i q (by simpa using hq)) (by omega) (fun q hq => hw q (by simp only [DataW.weights, hu]; simpa using hq))
  refine ⟨g x, ?_, hG _ (by rw [hg]; exact gx)⟩
  show d.K w (f (g x)) cs
  rw [hg]
  simpa using hk
theorem weights_arg {H : Type} {ts : List TypeId} {ds : List (DataW H)} (h : (DataW.weightsEach P ts ds).all (· ≤ reachBytes) = true) {j : Nat} {d : DataW H} (ht : ts[j]? = some T) (hd : ds[j]? = some d) : ∀ n ∈ DataW.weights P T d, n ≤ reachBytes := by
  intro n hn
  have := List.all_eq_true.1 h _ (DataW.weights_mem_each ht hd n hn)
  simpa using this
end
end Go.Proofs.Ythdhkoeaadahaaa.Opens
