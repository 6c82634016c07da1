-- PACKED by wip/kit/pack.py: what the law's proof uses of ECloneSets (printed words and texts of this seat)
import Derived.WalkSpells
import Derived.Test.YthdhkoeaadahaaaSPx0
namespace Go.Proofs.Ythdhkoeaadahaaa.P
open Go.RowKit Go.Proofs.YthdhkoeaadahaaaW.PrintWords Go.Proofs.YthdhkoeaadahaaaW.PrintLast Go.Proofs.YthdhkoeaadahaaaW.PrintMore
set_option linter.unusedVariables false
set_option linter.unusedSimpArgs false
theorem cloneInfo99 : (Try.prog.info? 99).map (fun i => (i.zero, i.size, i.bytes)) = some (some (.agg #[(.int .i64 0), (.int .i64 0), (.slice none 0 0)]), 3, 40) := by kernel_rfl
theorem clone_empty99 (w : World) : Kd.R (Kd.raw 3) 99 (w.alloc (.cells #[] 99)) w.heap.size (fun _ => True) (.slice (some ⟨w.heap.size, 0, none⟩) ([] : List (List Value)).length 0) [] :=
  ⟨fun _ _ => trivial, [], by have := World.ownsRow_lit (base := w.heap.size) (e := 99) (size := ((Kd.raw 3)).sz) w #[] 0 (Nat.le_refl _) (by simp [maxLen]) (by simp); simpa using this, Reps.none _ _⟩
def queue_sets_raw.f (l0 : List (List Value)) : Option (List (List Value)) := if l0.length < 1000000 then some l0 else none
set_option maxHeartbeats 4000000 in
set_option maxRecDepth 100000 in
theorem queue_sets_raw.calls (A0 : Option Addr) (c0 : Nat) (l0 : List (List Value)) (r : List (List Value)) (w : World) (hr0 : Kd.C (Kd.raw 3) w A0 l0.length l0) (hc0 : l0.length ≤ c0) (h : queue_sets_raw.f l0 = some r) :
    Calls Try.prog 123 #[.slice A0 l0.length c0] w fun e w' => ∃ v0_ : Value, e = .returned (v0_) ∧ Kd.R (Kd.raw 3) 99 w' w.heap.size (fun _ => True) v0_ r ∧ Below w.heap.size w w' := by
  unfold queue_sets_raw.f at h
  by_cases c3 : l0.length < 1000000
  · rw [if_pos c3] at h
    obtain rfl := Option.some.inj h
    clear h
    have LM := Aside0.mk c3
    have HR0 := Aside0.mk hr0
    have HB := Aside0.mk (Below.refl w.heap.size w)
    clear hr0 c3
    rcases A0 with _ | ad
    · have hl : l0.length = 0 := by
        rcases Nat.eq_zero_or_pos l0.length with h0 | h0
        · exact h0
        · obtain ⟨ad, h, _⟩ := HR0.out.2.2 h0
          cases h
      obtain rfl : l0 = [] := List.eq_nil_of_length_eq_zero hl
      clear hl
      have hq : ∀ W : World, (Go.binOp .eql 24 (.slice none 0 c0) (.slice none 0 0)).run Try.prog W = .ok (.bool true) W := fun W => Lib.run_eql_slice_nil W 24 99 none 0 c0 0 0 Try.underlying24
      go_enter Try.func123, Try.ntmps123
      go_wp2
      go_ret
      exact ⟨_, rfl, Kd.R_nil _ _ _ _ _, Below.refl _ _⟩
    · have hq : ∀ W : World, (Go.binOp .eql 24 (.slice (some ad) l0.length c0) (.slice none 0 0)).run Try.prog W = .ok (.bool false) W := fun W => Lib.run_eql_slice_nil W 24 99 (some ad) l0.length c0 0 0 Try.underlying24
      go_enter Try.func123, Try.ntmps123
      go_wp2_with ((with_reducible refine gate_builtin (b := .append) (xs := #[.tmp 5, .tmp 6]) rfl ?_); at_builtin; refine Kd.R_append_rows (Kd.raw 3) (w0 := w) w.heap.size rfl (.tmp 5) (.tmp 6) 24 99 (.agg #[(.int .i64 0), (.int .i64 0), (.slice none 0 0)]) 40 rfl Try.underlying24 cloneInfo99 rfl (by decide) (by omega) (.slice (some ⟨w.heap.size, 0, none⟩) 0 0) ([] : List (List Value)) l0 _ _ _ (fun _ => True) (fun _ => False) rfl rfl ?aO ?aR (fun _ _ h => h) (fun _ h => h.elim) (fun _ _ => trivial) ?aB ?aS ?aL ?_; (case aR => exact Kd.C_alloc HR0.out _); (case aB => exact below_alloc HB.out _); (case aS => simp); (case aL => have := LM.out; simp; omega); (case aO => exact clone_empty99 w); intro v152 w5 ho hb hg hat; rw [List.nil_append] at ho; have n0_ := Aside0.mk (hb); have n1_ := Aside0.mk (ho); clear HB; have HB := n0_; have HO153 := n1_; clear n0_ n1_; clear ho hb hg hat)
      go_ret
      exact ⟨_, rfl, HO153.out, HB.out⟩
  · rw [if_neg c3] at h
    exact absurd h (by simp)
end Go.Proofs.Ythdhkoeaadahaaa.P
