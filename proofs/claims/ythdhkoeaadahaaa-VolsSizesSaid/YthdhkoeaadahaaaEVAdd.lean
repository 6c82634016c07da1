/- The contract of vols.Add at no volumes. -/
import Derived.Test.YthdhkoeaadahaaaEVRight
import Derived.RegionCalls
import Derived.Test.YthdhkoeaadahaaaPx43
namespace Go.Proofs.Ythdhkoeaadahaaa.P
open Go.RowKit Go.Proofs.YthdhkoeaadahaaaW.PrintWords Go.Proofs.YthdhkoeaadahaaaW.PrintLast Go.Proofs.YthdhkoeaadahaaaW.PrintMore
attribute [local go_sem] Oper.semAt_some
set_option linter.unusedVariables false
set_option linter.unusedSimpArgs false

def vols_Add.f (l : List S49) (a n : Int) : Option (List S49 × Int) := if l.isEmpty = true ∧ a = 7 ∧ n = 2 then some ([⟨7, [⟨#[]⟩, ⟨#[]⟩]⟩], 0) else none


set_option maxRecDepth 100000 in
set_option maxHeartbeats 2000000 in
theorem clone_nil (A : Option Addr) (c : Nat) (w : World) : Calls Try.prog 106 #[.slice A 0 c] w fun e w' => e = .returned (.slice none 0 0) ∧ w' = w := by
  go_enter Try.func106, Try.ntmps106
  go_wp2
  go_loopg [3, 8] 0 (fun gg s3 s8 wr => s3 = .slice none 0 0 ∧ s8 = .int .i64 0 ∧ wr = w)
  case atStart => exact ⟨rfl, rfl, rfl⟩
  case round =>
    obtain ⟨rfl, rfl, rfl⟩ := hrel
    go_wp2
    go_ret
    exact ⟨rfl, rfl⟩

set_option maxRecDepth 100000 in
set_option maxHeartbeats 2000000 in
theorem search_nil (A : Option Addr) (c : Nat) (x : Int) (w : World) : Calls Try.prog 129 #[.slice A 0 c, .int .i64 x, .func (.func 130) #[] #[]] w fun e w' => e = .returned (.tuple #[.int .i64 0, .bool false]) ∧ w' = w := by
  go_enter Try.func129, Try.ntmps129
  go_wp2
  go_loopg [9, 10] 0 (fun gg s9 s10 wr => s9 = .int .i64 0 ∧ s10 = .int .i64 0 ∧ wr = w)
  case atStart => exact ⟨rfl, rfl, rfl⟩
  case round =>
    obtain ⟨rfl, rfl, rfl⟩ := hrel
    go_wp2
    refine bodyPost_ret (v := .tuple #[.int .i64 0, .bool false]) ?_ rfl ⟨rfl, rfl⟩
    simp [results, Try.results129, go_sem]
set_option maxRecDepth 100000 in
set_option maxHeartbeats 2000000 in
theorem find_nil (A : Option Addr) (c : Nat) (x : Int) (w : World) : Calls Try.prog 109 #[.slice A 0 c, .int .i64 x] w fun e w' => e = .returned (.tuple #[.int .i64 0, .bool false]) ∧ w' = w := by
  go_enter Try.func109, Try.ntmps109
  go_wp2_with (go_at_call 129; refine (search_nil _ _ _ _).mono ?_; rintro e w2 ⟨rfl, rfl⟩)
  refine bodyPost_ret (v := .tuple #[.int .i64 0, .bool false]) ?_ rfl ⟨rfl, rfl⟩
  simp [results, Try.results109, go_sem]
set_option maxRecDepth 100000 in
set_option maxHeartbeats 2000000 in
theorem insert_nil (p : S49) (cs : List Value) (W : World) (b : Nat) (hp : k49.M W b (fun _ => True) p cs) (hb : b ≤ W.heap.size) : Calls Try.prog 110 #[.slice none 0 0, .int .i64 0, .slice (some ⟨W.heap.size, 0, none⟩) 1 1] (W.alloc (.cells cs.toArray 49)) fun e w' => ∃ v : Value, e = .returned v ∧ Kd.S k49 49 w' b (fun _ => True) v [p] ∧ Below b W w' := by
  have hu49 := Try.underlying49
  go_enter Try.func110, Try.ntmps110
  go_wp2_with ((with_reducible refine gate_builtin (b := .append) (xs := #[.tmp 23, .tmp 24]) rfl ?_); at_builtin; refine Kd.S_append k49 (w0 := W) b rfl (.tmp 23) (.tmp 24) 37 49 (.agg #[(.int .i64 0), (.slice none 0 0)]) 32 rfl Try.underlying37 info49 rfl (by decide) (by omega) (.slice none 0 0) ([] : List S49) p cs (fun _ => True) (fun _ => True) rfl rfl ?aP (fun k hk => ⟨trivial, by simp [Value.ownBlock]⟩) (fun _ _ => trivial) ?aO ?aB ?aS ?aL ?_; (case aP => exact hp); (case aO => exact Kd.S_nil _ _ _ _ _); (case aB => exact Below.refl _ _); (case aS => exact hb); (case aL => simp); intro v1 w1 hR hB hg hat; rw [List.nil_append] at hR; have HR := Aside0.mk hR; have HB := Aside0.mk hB; clear hR hB hg hat)
  go_ret
  exact ⟨_, rfl, HR.out, HB.out⟩

set_option maxRecDepth 100000 in
set_option maxHeartbeats 4000000 in
theorem add_seven (A : Option Addr) (c : Nat) (w : World) : Calls Try.prog 60 #[.slice A 0 c, .int .i64 7, .int .i64 2] w fun e w' => ∃ v : Value, e = .returned (.tuple #[v, .int .i64 0]) ∧ Kd.S k49 49 w' w.heap.size (fun _ => True) v [⟨7, [⟨#[]⟩, ⟨#[]⟩]⟩] ∧ Below w.heap.size w w' := by
  have hu49 := Try.underlying49
  have hr : ∀ W : World, Calls Try.prog 66 #[.slice A 0 c] W fun e w' => e = .returned (.bool true) ∧ Below W.heap.size W w' := fun W => vols_Right.calls A c [] true W ⟨rfl, by simp, fun h => absurd h (Nat.lt_irrefl 0)⟩ (Nat.zero_le _) (by decide +kernel)
  have hsz : ∀ W : World, Calls Try.prog 98 #[.int .i64 2] W fun e w' => e = .returned (.bool true) ∧ Drawn0 W w' := fun W => vols_size.calls _ _ W (by decide +kernel)
  go_enter Try.func60, Try.ntmps60
  go_wp2_with (first
    | (go_at_call 66; refine (hr _).mono ?_; rintro e w2 ⟨rfl, hb⟩; have HB := Aside0.mk hb; clear hb)
    | (go_at_call 98; refine (hsz _).mono ?_; rintro e w2 ⟨rfl, ⟨m, rfl⟩⟩)
    | (go_at_call 109; refine (find_nil _ _ _ _).mono ?_; rintro e w2 ⟨rfl, rfl⟩))
  refine wp_region_any (by kernel_rfl) ?_
  try (change wpAny _ _ _ _ _ _ _ (World.drew _))
  refine wpAny_take (i := 0) (v := ?_) rfl (by kernel_rfl) (by kernel_rfl) (by kernel_rfl) (fun _ _ _ h => h) (Or.inl ⟨by rfl, ?_⟩) ?_; rotate_left; focus (intro w; go_simp; try (with_reducible rfl))
  refine wpAny_take (i := 2) (v := ?_) rfl (by kernel_rfl) (by kernel_rfl) (by kernel_rfl) (fun _ _ _ h => h) (Or.inl ⟨by rfl, ?_⟩) ?_; rotate_left; focus (intro w; go_simp; try (with_reducible rfl))
  refine wpAny_take (i := 3) (v := ?_) rfl (by kernel_rfl) (by kernel_rfl) (by kernel_rfl) (fun _ _ _ h => h) (Or.inl ⟨by rfl, ?_⟩) ?_; rotate_left; focus (intro w; go_simp; try (with_reducible rfl))
  refine wpAny_take (i := 4) (v := ?_) rfl (by kernel_rfl) (by kernel_rfl) (by kernel_rfl) (fun _ _ _ h => h) (Or.inl ⟨by rfl, ?_⟩) ?_; rotate_left; focus (intro w; go_simp; try (with_reducible rfl))
  have HBW := Aside0.mk (show Below w.heap.size w (w2.drewN m).drew from below_drew1 (pw_below_drewN HB.out m))
  generalize (w2.drewN m).drew = W0 at HBW ⊢
  clear HB
  have hs0 := HBW.out.size
  refine wpAny_ready (rs := [1, 5]) (by kernel_rfl) (by simp) ?_
  refine AllReady.cons rfl (fun K hK => ?_) (AllReady.cons rfl (fun K hK => ?_) AllReady.nil)
  · go_simp
    refine (clone_nil _ _ _).mono ?_
    rintro e w5 ⟨rfl, rfl⟩
    refine hK _ _ ?_
    clear hK K
    refine wpAny_ready (rs := [5]) (by kernel_rfl) (by simp) ?_
    refine AllReady.cons rfl (fun K hK => ?_) AllReady.nil
    refine Kd.R_make_step Kd.string (w0 := w) w.heap.size 9 (by rfl) (N := 43) rfl 47 _ _ rfl 2 rfl rfl Try.underlying47 (.string ⟨#[]⟩) 16 info9 rfl (by decide) (by omega) (⟨#[]⟩ : ByteArray) (ok := fun _ => True) (okp := fun _ => True) rfl (fun _ hk => hk) trivial (by omega) (by decide) HBW.out hs0 ?_
    intro v5 w5 hr5 hb5 hg5 hat5
    obtain ⟨A5, c5, rfl⟩ := Kd.R_slice hr5
    have HR5 := Aside0.mk hr5
    have HB5 := Aside0.mk hb5
    clear hr5 hb5 hg5 hat5
    refine hK _ _ ?_
    clear hK K
    refine wpAny_take (i := 6) (v := ?_) rfl (by kernel_rfl) (by kernel_rfl) (by kernel_rfl) (fun _ _ _ h => h) (Or.inl ⟨by rfl, ?_⟩) ?_; rotate_left; focus (intro w; go_simp; try (with_reducible rfl))
    refine wpAny_ready (rs := [7]) (by kernel_rfl) (by simp) ?_
    refine AllReady.cons rfl (fun K hK => ?_) AllReady.nil
    go_simp
    refine hK _ _ ?_
    clear hK K
    refine wpAny_ready (rs := [8]) (by kernel_rfl) (by simp) ?_
    refine AllReady.cons rfl (fun K hK => ?_) AllReady.nil
    go_simp
    refine (insert_nil ⟨7, [⟨#[]⟩, ⟨#[]⟩]⟩ [.int .i64 7, .slice A5 (List.replicate (Int.toNat 2) (⟨#[]⟩ : ByteArray)).length c5] w5 w.heap.size (k49_mkM _ _ _ _ HR5.out) HB5.out.size).mono ?_
    rintro e w6 ⟨v6, rfl, h6, b6⟩
    have HR6 := Aside0.mk h6
    have HB6 := Aside0.mk (HB5.out.trans b6)
    clear h6 b6
    refine hK _ _ ?_
    clear hK K
    refine wpAny_take (i := 9) (v := ?_) rfl (by kernel_rfl) (by kernel_rfl) (by kernel_rfl) (fun _ _ _ h => h) (Or.inl ⟨by rfl, ?_⟩) ?_; rotate_left; focus (intro w; go_simp; try (with_reducible rfl))
    refine wpAny_take (i := 10) (v := ?_) rfl (by kernel_rfl) (by kernel_rfl) (by kernel_rfl) (fun _ _ _ h => h) (Or.inl ⟨by rfl, ?_⟩) ?_; rotate_left; focus (intro w; go_simp; try (with_reducible rfl))
    refine wpAny_done (by kernel_rfl) ?_ _
    go_wp2
    refine bodyPost_ret (v := .tuple #[v6, .int .i64 0]) ?_ rfl ⟨v6, rfl, HR6.out, HB6.out⟩
    simp [results, Try.results60, go_sem, Act.put]
  · refine Kd.R_make_step Kd.string (w0 := w) w.heap.size 9 (by rfl) (N := 43) rfl 47 _ _ rfl 2 rfl rfl Try.underlying47 (.string ⟨#[]⟩) 16 info9 rfl (by decide) (by omega) (⟨#[]⟩ : ByteArray) (ok := fun _ => True) (okp := fun _ => True) rfl (fun _ hk => hk) trivial (by omega) (by decide) HBW.out hs0 ?_
    intro v5 w5 hr5 hb5 hg5 hat5
    obtain ⟨A5, c5, rfl⟩ := Kd.R_slice hr5
    have HR5 := Aside0.mk hr5
    have HB5 := Aside0.mk hb5
    clear hr5 hb5 hg5 hat5
    refine hK _ _ ?_
    clear hK K
    refine wpAny_take (i := 6) (v := ?_) rfl (by kernel_rfl) (by kernel_rfl) (by kernel_rfl) (fun _ _ _ h => h) (Or.inl ⟨by rfl, ?_⟩) ?_; rotate_left; focus (intro w; go_simp; try (with_reducible rfl))
    refine wpAny_ready (rs := [1, 7]) (by kernel_rfl) (by simp) ?_
    refine AllReady.cons rfl (fun K hK => ?_) (AllReady.cons rfl (fun K hK => ?_) AllReady.nil)
    · go_simp
      refine (clone_nil _ _ _).mono ?_
      rintro e w5 ⟨rfl, rfl⟩
      refine hK _ _ ?_
      clear hK K
      refine wpAny_ready (rs := [7]) (by kernel_rfl) (by simp) ?_
      refine AllReady.cons rfl (fun K hK => ?_) AllReady.nil
      go_simp
      refine hK _ _ ?_
      clear hK K
      refine wpAny_ready (rs := [8]) (by kernel_rfl) (by simp) ?_
      refine AllReady.cons rfl (fun K hK => ?_) AllReady.nil
      go_simp
      refine (insert_nil ⟨7, [⟨#[]⟩, ⟨#[]⟩]⟩ [.int .i64 7, .slice A5 (List.replicate (Int.toNat 2) (⟨#[]⟩ : ByteArray)).length c5] w5 w.heap.size (k49_mkM _ _ _ _ HR5.out) HB5.out.size).mono ?_
      rintro e w6 ⟨v6, rfl, h6, b6⟩
      have HR6 := Aside0.mk h6
      have HB6 := Aside0.mk (HB5.out.trans b6)
      clear h6 b6
      refine hK _ _ ?_
      clear hK K
      refine wpAny_take (i := 9) (v := ?_) rfl (by kernel_rfl) (by kernel_rfl) (by kernel_rfl) (fun _ _ _ h => h) (Or.inl ⟨by rfl, ?_⟩) ?_; rotate_left; focus (intro w; go_simp; try (with_reducible rfl))
      refine wpAny_take (i := 10) (v := ?_) rfl (by kernel_rfl) (by kernel_rfl) (by kernel_rfl) (fun _ _ _ h => h) (Or.inl ⟨by rfl, ?_⟩) ?_; rotate_left; focus (intro w; go_simp; try (with_reducible rfl))
      refine wpAny_done (by kernel_rfl) ?_ _
      go_wp2
      refine bodyPost_ret (v := .tuple #[v6, .int .i64 0]) ?_ rfl ⟨v6, rfl, HR6.out, HB6.out⟩
      simp [results, Try.results60, go_sem, Act.put]
    · go_simp
      refine hK _ _ ?_
      clear hK K
      refine wpAny_ready (rs := [1]) (by kernel_rfl) (by simp) ?_
      refine AllReady.cons rfl (fun K hK => ?_) AllReady.nil
      go_simp
      refine (clone_nil _ _ _).mono ?_
      rintro e w5 ⟨rfl, rfl⟩
      refine hK _ _ ?_
      clear hK K
      refine wpAny_ready (rs := [8]) (by kernel_rfl) (by simp) ?_
      refine AllReady.cons rfl (fun K hK => ?_) AllReady.nil
      go_simp
      refine (insert_nil ⟨7, [⟨#[]⟩, ⟨#[]⟩]⟩ [.int .i64 7, .slice A5 (List.replicate (Int.toNat 2) (⟨#[]⟩ : ByteArray)).length c5] w5 w.heap.size (k49_mkM _ _ _ _ HR5.out) HB5.out.size).mono ?_
      rintro e w6 ⟨v6, rfl, h6, b6⟩
      have HR6 := Aside0.mk h6
      have HB6 := Aside0.mk (HB5.out.trans b6)
      clear h6 b6
      refine hK _ _ ?_
      clear hK K
      refine wpAny_take (i := 9) (v := ?_) rfl (by kernel_rfl) (by kernel_rfl) (by kernel_rfl) (fun _ _ _ h => h) (Or.inl ⟨by rfl, ?_⟩) ?_; rotate_left; focus (intro w; go_simp; try (with_reducible rfl))
      refine wpAny_take (i := 10) (v := ?_) rfl (by kernel_rfl) (by kernel_rfl) (by kernel_rfl) (fun _ _ _ h => h) (Or.inl ⟨by rfl, ?_⟩) ?_; rotate_left; focus (intro w; go_simp; try (with_reducible rfl))
      refine wpAny_done (by kernel_rfl) ?_ _
      go_wp2
      refine bodyPost_ret (v := .tuple #[v6, .int .i64 0]) ?_ rfl ⟨v6, rfl, HR6.out, HB6.out⟩
      simp [results, Try.results60, go_sem, Act.put]
theorem vols_Add.calls (A0 : Option Addr) (c0 : Nat) (l0 : List S49) (a1 a2 : Int) (r1 : List S49) (r2 : Int) (w : World) (hr0 : Kd.C k49 w A0 l0.length l0) (hc0 : l0.length ≤ c0) (h : vols_Add.f l0 a1 a2 = some (r1, r2)) :
    Calls Try.prog 60 #[.slice A0 l0.length c0, .int .i64 a1, .int .i64 a2] w fun e w' => ∃ v0_ : Value, e = .returned (.tuple #[v0_, .int .i64 r2]) ∧ Kd.S k49 49 w' w.heap.size (fun _ => True) v0_ r1 ∧ Below w.heap.size w w' := by
  unfold vols_Add.f at h
  by_cases hh : l0.isEmpty = true ∧ a1 = 7 ∧ a2 = 2
  · rw [if_pos hh] at h
    obtain ⟨h0, rfl, rfl⟩ := hh
    obtain rfl := List.isEmpty_iff.1 h0
    injection h with h
    injection h with e1 e2
    subst e1; subst e2
    exact add_seven A0 c0 w
  · rw [if_neg hh] at h
    exact absurd h (by simp)
end Go.Proofs.Ythdhkoeaadahaaa.P
