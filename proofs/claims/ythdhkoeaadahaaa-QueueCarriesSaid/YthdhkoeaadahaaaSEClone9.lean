-- PACKED by wip/kit/pack.py: what the law's proof uses of EClone74, EClone9 (printed words and texts of this seat)
import Derived.WalkSpells
import Derived.Test.YthdhkoeaadahaaaSPx0
section
namespace Go.Proofs.Ythdhkoeaadahaaa.P
open Go.RowKit Go.Proofs.YthdhkoeaadahaaaW.PrintWords Go.Proofs.YthdhkoeaadahaaaW.PrintLast Go.Proofs.YthdhkoeaadahaaaW.PrintMore
set_option linter.unusedVariables false
set_option linter.unusedSimpArgs false
theorem cloneInfo74 : (Try.prog.info? 74).map (fun i => (i.zero, i.size, i.bytes)) = some (some (.agg #[(.int .i64 0), (.int .i64 0), (.string ⟨#[]⟩)]), 3, 32) := by kernel_rfl
theorem clone_empty74 (w : World) : Kd.R k74 74 (w.alloc (.cells #[] 74)) w.heap.size (fun _ => True) (.slice (some ⟨w.heap.size, 0, none⟩) ([] : List S74).length 0) [] :=
  ⟨fun _ _ => trivial, [], by have := World.ownsRow_lit (base := w.heap.size) (e := 74) (size := (k74).sz) w #[] 0 (Nat.le_refl _) (by simp [maxLen]) (by simp); simpa using this, Reps.none _ _⟩
def api_Write_99.f (l0 : List S74) : Option (List S74) := if l0.length < 4398046511104 then some l0 else none
set_option maxHeartbeats 4000000 in
set_option maxRecDepth 100000 in
theorem api_Write_99.calls (A0 : Option Addr) (c0 : Nat) (l0 : List S74) (r : List S74) (w : World) (hr0 : Kd.C k74 w A0 l0.length l0) (hc0 : l0.length ≤ c0) (h : api_Write_99.f l0 = some r) :
    Calls Try.prog 99 #[.slice A0 l0.length c0] w fun e w' => ∃ v0_ : Value, e = .returned (v0_) ∧ Kd.R k74 74 w' w.heap.size (fun _ => True) v0_ r ∧ Below w.heap.size w w' := by
  unfold api_Write_99.f at h
  by_cases c3 : l0.length < 4398046511104
  · rw [if_pos c3] at h
    obtain rfl := Option.some.inj h
    clear h
    have LM := Aside0.mk c3
    have HR0 := Aside0.mk hr0
    have HB := Aside0.mk (Below.refl w.heap.size w)
    clear hr0 c3
    rcases A0 with _ | ad
    · have hl : l0.length = 0 := by
        rcases Nat.eq_zero_or_pos l0.length with h0 | h0
        · exact h0
        · obtain ⟨ad, h, _⟩ := HR0.out.2.2 h0
          cases h
      obtain rfl : l0 = [] := List.eq_nil_of_length_eq_zero hl
      clear hl
      have hq : ∀ W : World, (Go.binOp .eql 25 (.slice none 0 c0) (.slice none 0 0)).run Try.prog W = .ok (.bool true) W := fun W => Lib.run_eql_slice_nil W 25 74 none 0 c0 0 0 Try.underlying25
      go_enter Try.func99, Try.ntmps99
      go_wp2
      go_ret
      exact ⟨_, rfl, Kd.R_nil _ _ _ _ _, Below.refl _ _⟩
    · have hq : ∀ W : World, (Go.binOp .eql 25 (.slice (some ad) l0.length c0) (.slice none 0 0)).run Try.prog W = .ok (.bool false) W := fun W => Lib.run_eql_slice_nil W 25 74 (some ad) l0.length c0 0 0 Try.underlying25
      go_enter Try.func99, Try.ntmps99
      go_wp2_with ((with_reducible refine gate_builtin (b := .append) (xs := #[.tmp 5, .tmp 6]) rfl ?_); at_builtin; refine Kd.R_append_rows k74 (w0 := w) w.heap.size rfl (.tmp 5) (.tmp 6) 25 74 (.agg #[(.int .i64 0), (.int .i64 0), (.string ⟨#[]⟩)]) 32 rfl Try.underlying25 cloneInfo74 rfl (by decide) (by omega) (.slice (some ⟨w.heap.size, 0, none⟩) 0 0) ([] : List S74) l0 _ _ _ (fun _ => True) (fun _ => False) rfl rfl ?aO ?aR (fun _ _ h => h) (fun _ h => h.elim) (fun _ _ => trivial) ?aB ?aS ?aL ?_; (case aR => exact Kd.C_alloc HR0.out _); (case aB => exact below_alloc HB.out _); (case aS => simp); (case aL => have := LM.out; simp; omega); (case aO => exact clone_empty74 w); intro v152 w5 ho hb hg hat; rw [List.nil_append] at ho; have n0_ := Aside0.mk (hb); have n1_ := Aside0.mk (ho); clear HB; have HB := n0_; have HO153 := n1_; clear n0_ n1_; clear ho hb hg hat)
      go_ret
      exact ⟨_, rfl, HO153.out, HB.out⟩
  · rw [if_neg c3] at h
    exact absurd h (by simp)
end Go.Proofs.Ythdhkoeaadahaaa.P
end
section
namespace Go.Proofs.Ythdhkoeaadahaaa.P
open Go.RowKit Go.Proofs.YthdhkoeaadahaaaW.PrintWords Go.Proofs.YthdhkoeaadahaaaW.PrintLast Go.Proofs.YthdhkoeaadahaaaW.PrintMore
set_option linter.unusedVariables false
set_option linter.unusedSimpArgs false
theorem cloneInfo9 : (Try.prog.info? 9).map (fun i => (i.zero, i.size, i.bytes)) = some (some (.string ⟨#[]⟩), 1, 16) := by kernel_rfl
theorem clone_empty9 (w : World) : Kd.R Kd.string 9 (w.alloc (.cells #[] 9)) w.heap.size (fun _ => True) (.slice (some ⟨w.heap.size, 0, none⟩) ([] : List ByteArray).length 0) [] :=
  ⟨fun _ _ => trivial, [], by have := World.ownsRow_lit (base := w.heap.size) (e := 9) (size := (Kd.string).sz) w #[] 0 (Nat.le_refl _) (by simp [maxLen]) (by simp); simpa using this, Reps.none _ _⟩
def slices_Clone_string_string.f (l0 : List ByteArray) : Option (List ByteArray) := if l0.length < 4398046511104 then some l0 else none
set_option maxHeartbeats 4000000 in
set_option maxRecDepth 100000 in
theorem slices_Clone_string_string.calls (A0 : Option Addr) (c0 : Nat) (l0 : List ByteArray) (r : List ByteArray) (w : World) (hr0 : Kd.C Kd.string w A0 l0.length l0) (hc0 : l0.length ≤ c0) (h : slices_Clone_string_string.f l0 = some r) :
    Calls Try.prog 128 #[.slice A0 l0.length c0] w fun e w' => ∃ v0_ : Value, e = .returned (v0_) ∧ Kd.R Kd.string 9 w' w.heap.size (fun _ => True) v0_ r ∧ Below w.heap.size w w' := by
  unfold slices_Clone_string_string.f at h
  by_cases c3 : l0.length < 4398046511104
  · rw [if_pos c3] at h
    obtain rfl := Option.some.inj h
    clear h
    have LM := Aside0.mk c3
    have HR0 := Aside0.mk hr0
    have HB := Aside0.mk (Below.refl w.heap.size w)
    clear hr0 c3
    rcases A0 with _ | ad
    · have hl : l0.length = 0 := by
        rcases Nat.eq_zero_or_pos l0.length with h0 | h0
        · exact h0
        · obtain ⟨ad, h, _⟩ := HR0.out.2.2 h0
          cases h
      obtain rfl : l0 = [] := List.eq_nil_of_length_eq_zero hl
      clear hl
      have hq : ∀ W : World, (Go.binOp .eql 47 (.slice none 0 c0) (.slice none 0 0)).run Try.prog W = .ok (.bool true) W := fun W => Lib.run_eql_slice_nil W 47 9 none 0 c0 0 0 Try.underlying47
      go_enter Try.func128, Try.ntmps128
      go_wp2
      go_ret
      exact ⟨_, rfl, Kd.R_nil _ _ _ _ _, Below.refl _ _⟩
    · have hq : ∀ W : World, (Go.binOp .eql 47 (.slice (some ad) l0.length c0) (.slice none 0 0)).run Try.prog W = .ok (.bool false) W := fun W => Lib.run_eql_slice_nil W 47 9 (some ad) l0.length c0 0 0 Try.underlying47
      go_enter Try.func128, Try.ntmps128
      go_wp2_with ((with_reducible refine gate_builtin (b := .append) (xs := #[.tmp 5, .tmp 6]) rfl ?_); at_builtin; refine Kd.R_append_rows Kd.string (w0 := w) w.heap.size rfl (.tmp 5) (.tmp 6) 47 9 (.string ⟨#[]⟩) 16 rfl Try.underlying47 cloneInfo9 rfl (by decide) (by omega) (.slice (some ⟨w.heap.size, 0, none⟩) 0 0) ([] : List ByteArray) l0 _ _ _ (fun _ => True) (fun _ => False) rfl rfl ?aO ?aR (fun _ _ h => h) (fun _ h => h.elim) (fun _ _ => trivial) ?aB ?aS ?aL ?_; (case aR => exact Kd.C_alloc HR0.out _); (case aB => exact below_alloc HB.out _); (case aS => simp); (case aL => have := LM.out; simp; omega); (case aO => exact clone_empty9 w); intro v152 w5 ho hb hg hat; rw [List.nil_append] at ho; have n0_ := Aside0.mk (hb); have n1_ := Aside0.mk (ho); clear HB; have HB := n0_; have HO153 := n1_; clear n0_ n1_; clear ho hb hg hat)
      go_ret
      exact ⟨_, rfl, HO153.out, HB.out⟩
  · rw [if_neg c3] at h
    exact absurd h (by simp)
end Go.Proofs.Ythdhkoeaadahaaa.P
end
