-- PACKED by wip/kit/pack.py: what the law's proof uses of EVAdd (printed words and texts of this seat)
import Derived.Test.YthdhkoeaadahaaaUVPlace
import Derived.Test.YthdhkoeaadahaaaUEVApply
import Derived.RegionCalls
import Derived.Test.YthdhkoeaadahaaaUPx24
namespace Go.Proofs.Ythdhkoeaadahaaa.P
open Go.RowKit Go.Proofs.YthdhkoeaadahaaaW.PrintWords Go.Proofs.YthdhkoeaadahaaaW.PrintLast Go.Proofs.YthdhkoeaadahaaaW.PrintMore
attribute [local go_sem] Oper.semAt_some
set_option linter.unusedVariables false
set_option linter.unusedSimpArgs false
def newV (a n : Int) : S49 := ⟨a, List.replicate n.toNat ⟨#[]⟩⟩
def vols_Add.f (l : List S49) (a n : Int) : Option (List S49 × Int) := some (if rightV l = true ∧ 1 ≤ a ∧ a ≤ 255 ∧ sizeB n = true then (if hasV l a = true then ([], 9) else if 4 ≤ l.length then ([], 6) else (insV l (posN l a) (newV a n), 0)) else ([], 1))
theorem insert_Sm (A A5 : Option Addr) (n c c5 p vb m : Nat) (l : List S49) (y : S49) (base : Nat) (W : World) (hm : m = y.f1.length) (hS : Kd.S k49 49 W base (fun k => some k ≠ (Value.slice A5 m c5).ownBlock) (.slice A n c) l) (hB : Kd.R Kd.string 9 W base (fun _ => True) (.slice A5 m c5) y.f1)
    (hv : W.heap[vb]? = some (.cells #[.int .i64 y.f0, .slice A5 m c5] 49 (0, 0))) (hn : n ≤ 1000) (hb : base ≤ W.heap.size) (hp : p ≤ n) (hvg : some vb ≠ (Value.slice A n c).ownBlock) :
    Calls Try.prog 110 #[.slice A n c, .int .i64 (p : Int), .slice (some ⟨vb, 0, none⟩) 1 1] W fun e w' => ∃ v' : Value, e = .returned v' ∧ Kd.S k49 49 w' base (fun _ => True) v' (insV l p y) ∧ Below base W w' := by
  subst hm
  exact insert_S A A5 n c c5 p vb l y base W hS hB hv hn hb hp hvg
theorem size_of (n : Int) (b : Bool) (h : sizeB n = b) (W : World) : Calls Try.prog 98 #[.int .i64 n] W fun e w' => e = .returned (.bool b) ∧ Drawn0 W w' := by
  refine vols_size.calls n b W ?_
  rw [← h]
  unfold vols_size.f sizeB
  split <;> rfl
set_option maxRecDepth 100000 in
set_option maxHeartbeats 4000000 in
theorem add_no (A : Option Addr) (c : Nat) (l : List S49) (a n : Int) (w : World) (hr : Kd.C k49 w A l.length l) (hc : l.length ≤ c) (h : ¬ (rightV l = true ∧ 1 ≤ a ∧ a ≤ 255 ∧ sizeB n = true)) :
    Calls Try.prog 60 #[.slice A l.length c, .int .i64 a, .int .i64 n] w fun e w' => e = .returned (.tuple #[.slice none 0 0, .int .i64 1]) ∧ Below w.heap.size w w' := by
  have hR := vols_Right.calls A c l _ w hr hc rfl
  have hz := size_of n _ rfl
  clear hr
  cases h1 : rightV l with
  | false =>
    rw [h1] at hR
    go_enter Try.func60, Try.ntmps60
    go_wp2_with (go_at_call 66; refine hR.mono ?_; rintro e w2 ⟨rfl, hb⟩; have HB := Aside0.mk hb; clear hb)
    go_ret2
    exact ⟨rfl, HB.out⟩
  | true =>
    rw [h1] at hR
    by_cases h2 : 1 ≤ a
    · by_cases h3 : a ≤ 255
      · have h4 : sizeB n = false := by cases hq : sizeB n with
          | false => rfl
          | true => exact absurd ⟨h1, h2, h3, hq⟩ h
        rw [h4] at hz
        clear h h1 h4
        go_enter Try.func60, Try.ntmps60
        go_wp2_with (first
          | (go_at_call 66; refine hR.mono ?_; rintro e w2 ⟨rfl, hb⟩; have HB := Aside0.mk hb; clear hb)
          | (go_at_call 98; refine (hz _).mono ?_; rintro e w2 ⟨rfl, ⟨m, rfl⟩⟩))
        go_ret2
        exact ⟨rfl, pw_below_drewN HB.out _⟩
      · clear h h1
        go_enter Try.func60, Try.ntmps60
        go_wp2_with (go_at_call 66; refine hR.mono ?_; rintro e w2 ⟨rfl, hb⟩; have HB := Aside0.mk hb; clear hb)
        go_ret2
        exact ⟨rfl, HB.out⟩
    · clear h h1
      go_enter Try.func60, Try.ntmps60
      go_wp2_with (go_at_call 66; refine hR.mono ?_; rintro e w2 ⟨rfl, hb⟩; have HB := Aside0.mk hb; clear hb)
      go_ret2
      exact ⟨rfl, HB.out⟩
theorem find_is (A : Option Addr) (c : Nat) (l : List S49) (a : Int) (w : World) (hr : Kd.C k49 w A l.length l) (hc : l.length ≤ c) (hR : rightV l = true) (h3 : 1 ≤ a) (h4 : a ≤ 255) (W : World) (hW : Below w.heap.size w W) :
    Calls Try.prog 109 #[.slice A l.length c, .int .i64 a] W fun e w' => e = .returned (.tuple #[.int .i64 ((posN l a : Nat) : Int), .bool (hasV l a)]) ∧ Below W.heap.size W w' := by
  obtain ⟨hA, hn⟩ := asc_of hR
  refine (find_calls A c l a W (Kd.C_below hr hW) hc (by omega) hA h3 h4).mono ?_
  rintro e w' ⟨⟨p, b, h5, h6, rfl⟩, hb⟩
  exact ⟨by rw [pos_is h5, has_is hA h5 h6], hb⟩
set_option maxRecDepth 100000 in
set_option maxHeartbeats 4000000 in
theorem add_there (A : Option Addr) (c : Nat) (l : List S49) (a n : Int) (w : World) (hr : Kd.C k49 w A l.length l) (hc : l.length ≤ c) (h1 : rightV l = true) (h2 : 1 ≤ a) (h3 : a ≤ 255) (h4 : sizeB n = true) (b : Bool) (h5 : hasV l a = b) (h6 : b = false → 4 ≤ l.length) :
    Calls Try.prog 60 #[.slice A l.length c, .int .i64 a, .int .i64 n] w fun e w' => e = .returned (.tuple #[.slice none 0 0, .int .i64 (if b = true then 9 else 6)]) ∧ Below w.heap.size w w' := by
  have hR := vols_Right.calls A c l true w hr hc (by unfold vols_Right.f; rw [h1])
  have hz := size_of n _ h4
  have hf := find_is A c l a w hr hc h1 h2 h3
  rw [h5] at hf
  have HF := Aside0.mk hf
  clear hr h1 h4 h5 hf
  generalize ((posN l a : Nat) : Int) = p at HF
  cases b with
  | true =>
    go_enter Try.func60, Try.ntmps60
    go_wp2_with (first
      | (go_at_call 66; refine hR.mono ?_; rintro e w2 ⟨rfl, hb⟩; have HB := Aside0.mk hb; clear hb)
      | (go_at_call 98; refine (hz _).mono ?_; rintro e w2 ⟨rfl, ⟨m, rfl⟩⟩)
      | (go_at_call 109; refine (HF.out _ (pw_below_drewN HB.out m)).mono ?_; rintro e w3 ⟨rfl, hb⟩; have HB3 := Aside0.mk (below_step (pw_below_drewN HB.out m) hb); clear hb))
    go_ret2
    exact ⟨rfl, HB3.out⟩
  | false =>
    have e1 : decide ((4 : Int) ≤ (l.length : Int)) = true := decide_eq_true (by have := h6 rfl; omega)
    clear h6
    go_enter Try.func60, Try.ntmps60
    go_wp2_with (first
      | (go_at_call 66; refine hR.mono ?_; rintro e w2 ⟨rfl, hb⟩; have HB := Aside0.mk hb; clear hb)
      | (go_at_call 98; refine (hz _).mono ?_; rintro e w2 ⟨rfl, ⟨m, rfl⟩⟩)
      | (go_at_call 109; refine (HF.out _ (pw_below_drewN HB.out m)).mono ?_; rintro e w3 ⟨rfl, hb⟩; have HB3 := Aside0.mk (below_step (pw_below_drewN HB.out m) hb); clear hb))
    go_ret2
    exact ⟨rfl, HB3.out⟩
set_option maxRecDepth 100000 in
set_option maxHeartbeats 8000000 in
theorem add_yes (A : Option Addr) (c : Nat) (l : List S49) (a n : Int) (w : World) (hr : Kd.C k49 w A l.length l) (hc : l.length ≤ c) (h1 : rightV l = true) (h2 : 1 ≤ a) (h3 : a ≤ 255) (h4 : sizeB n = true) (h5 : hasV l a = false) (h6 : ¬ 4 ≤ l.length) :
    Calls Try.prog 60 #[.slice A l.length c, .int .i64 a, .int .i64 n] w fun e w' => ∃ v : Value, e = .returned (.tuple #[v, .int .i64 0]) ∧ Kd.S k49 49 w' w.heap.size (fun _ => True) v (insV l (posN l a) (newV a n)) ∧ Below w.heap.size w w' := by
  have hu49 := Try.underlying49
  have hR := vols_Right.calls A c l true w hr hc (by unfold vols_Right.f; rw [h1])
  have hz := size_of n _ h4
  have hf := find_is A c l a w hr hc h1 h2 h3
  rw [h5] at hf
  have HF := Aside0.mk hf
  have hn0 : 0 ≤ n := by
    unfold sizeB at h4
    by_cases h : n ≥ 1
    · omega
    · rw [if_neg h] at h4; cases h4
  have hn1 : n.toNat * 16 ≤ 281474976710656 := by
    unfold sizeB at h4
    by_cases h : n ≥ 1
    · rw [if_pos h] at h4; have := of_decide_eq_true h4; omega
    · rw [if_neg h] at h4; cases h4
  obtain ⟨hs1, hs2⟩ := rightV_small h1
  obtain ⟨kc, hkc⟩ := clone_f l (by omega) (fun x hx => by have := hs2 x hx; omega)
  have HCL := Aside0.mk (fun (W : World) (hW : Below w.heap.size w W) => vols_clone.calls kc A c l l W (Kd.C_below hr hW) hc hkc)
  obtain ⟨p, hp⟩ : ∃ p, p = posN l a := ⟨_, rfl⟩
  have hpn : p ≤ l.length := by rw [hp]; exact List.length_filter_le _ _
  rw [← hp] at HF ⊢
  clear hr h1 h4 h5 hf hs1 hs2 hkc hp
  have e1 : decide ((4 : Int) ≤ (l.length : Int)) = false := decide_eq_false (by omega)
  go_enter Try.func60, Try.ntmps60
  go_wp2_with (first
    | (go_at_call 66; refine hR.mono ?_; rintro e w2 ⟨rfl, hb⟩; have HB := Aside0.mk hb; clear hb)
    | (go_at_call 98; refine (hz _).mono ?_; rintro e w2 ⟨rfl, ⟨m, rfl⟩⟩)
    | (go_at_call 109; refine (HF.out _ (pw_below_drewN HB.out m)).mono ?_; rintro e w3 ⟨rfl, hb⟩; have HB3 := Aside0.mk (below_step (pw_below_drewN HB.out m) hb); clear hb))
  refine wp_region_any (by kernel_rfl) ?_
  try (change wpAny _ _ _ _ _ _ _ (World.drew _))
  refine wpAny_take (i := 0) (v := ?_) rfl (by kernel_rfl) (by kernel_rfl) (by kernel_rfl) (fun _ _ _ h => h) (Or.inl ⟨by rfl, ?_⟩) ?_; rotate_left; focus (intro w; go_simp; try (with_reducible rfl))
  refine wpAny_take (i := 2) (v := ?_) rfl (by kernel_rfl) (by kernel_rfl) (by kernel_rfl) (fun _ _ _ h => h) (Or.inl ⟨by rfl, ?_⟩) ?_; rotate_left; focus (intro w; go_simp; try (with_reducible rfl))
  refine wpAny_take (i := 3) (v := ?_) rfl (by kernel_rfl) (by kernel_rfl) (by kernel_rfl) (fun _ _ _ h => h) (Or.inl ⟨by rfl, ?_⟩) ?_; rotate_left; focus (intro w; go_simp; try (with_reducible rfl))
  refine wpAny_take (i := 4) (v := ?_) rfl (by kernel_rfl) (by kernel_rfl) (by kernel_rfl) (fun _ _ _ h => h) (Or.inl ⟨by rfl, ?_⟩) ?_; rotate_left; focus (intro w; go_simp; try (with_reducible rfl))
  have HBW := Aside0.mk (show Below w.heap.size w w3.drew from below_drew1 HB3.out)
  generalize w3.drew = W0 at HBW ⊢
  clear HB HB3
  have hs0 := HBW.out.size
  refine wpAny_ready (rs := [1, 5]) (by kernel_rfl) (by simp) ?_
  refine AllReady.cons rfl (fun K hK => ?_) (AllReady.cons rfl (fun K hK => ?_) AllReady.nil)
  · go_simp
    refine (HCL.out _ HBW.out).mono ?_
    rintro e w4 ⟨v3, rfl, hs4, hb4⟩
    obtain ⟨A3, c3, rfl⟩ := Kd.S_slice hs4
    have HS4 := Aside0.mk (Kd.S_lower hs4 hs0)
    have HBW0 := Aside0.mk HBW.out
    clear HBW
    have HBW := Aside0.mk (HBW0.out.trans (hb4.mono hs0))
    clear hs4 hb4 HBW0 hs0
    have hs0 := HBW.out.size
    refine hK _ _ ?_
    clear hK K
    refine wpAny_ready (rs := [5]) (by kernel_rfl) (by simp) ?_
    refine AllReady.cons rfl (fun K hK => ?_) AllReady.nil
    refine Kd.R_make_step Kd.string (w0 := w) w.heap.size 9 (by rfl) (N := 43) rfl 47 _ _ rfl n rfl rfl Try.underlying47 (.string ⟨#[]⟩) 16 info9 rfl (by decide) (by omega) (⟨#[]⟩ : ByteArray) (ok := fun _ => True) (okp := fun _ => True) rfl (fun _ hk => hk) trivial hn0 hn1 HBW.out hs0 ?_
    intro v5 w5 hr5 hb5 hg5 hat5
    obtain ⟨A5, c5, rfl⟩ := Kd.R_slice hr5
    rw [List.length_replicate] at hr5 hat5 ⊢
    have HR5 := Aside0.mk hr5
    have HB5 := Aside0.mk hb5
    have HG5 := Aside0.mk hg5
    have HAT5 := Aside0.mk hat5
    clear hr5 hb5 hg5 hat5
    refine hK _ _ ?_
    clear hK K
    refine wpAny_take (i := 6) (v := ?_) rfl (by kernel_rfl) (by kernel_rfl) (by kernel_rfl) (fun _ _ _ h => h) (Or.inl ⟨by rfl, ?_⟩) ?_; rotate_left; focus (intro w; go_simp; try (with_reducible rfl))
    refine wpAny_ready (rs := [7]) (by kernel_rfl) (by simp) ?_
    refine AllReady.cons rfl (fun K hK => ?_) AllReady.nil
    go_simp
    refine hK _ _ ?_
    clear hK K
    have HS5 := Aside0.mk (Kd.S_elder' HS4.out (fun k hk => by obtain ⟨b, hb, hle⟩ := HAT5.out; rw [hb] at hk; injection hk with hk; omega) ⟨HG5.out.os, HG5.out.tape, HG5.out.output, HG5.out.size, fun k hk => HG5.out.block k hk (by simp)⟩)
    have HN9 := Aside0.mk (show some w5.heap.size ≠ (Value.slice A3 l.length c3).ownBlock from fun he => by have := Kd.S_lt HS5.out _ he.symm; omega)
    have HS9 := Aside0.mk (Kd.S_alloc (Kd.S_mono HS5.out (fun k hk => hk.2)) (.cells #[.int .i64 a, .slice A5 n.toNat c5] 49))
    have HR9 := Aside0.mk (Kd.R_alloc HR5.out (.cells #[.int .i64 a, .slice A5 n.toNat c5] 49))
    have HV9 := Aside0.mk (blk_new w5 (.cells #[.int .i64 a, .slice A5 n.toNat c5] 49))
    have HB9 := Aside0.mk (below_alloc HB5.out (.cells #[.int .i64 a, .slice A5 n.toNat c5] 49))
    refine wpAny_ready (rs := [8]) (by kernel_rfl) (by simp) ?_
    refine AllReady.cons rfl (fun K hK => ?_) AllReady.nil
    go_simp
    refine (insert_Sm A3 A5 l.length c3 c5 p _ n.toNat l (newV a n) w.heap.size _ List.length_replicate.symm HS9.out HR9.out HV9.out (by omega) HB9.out.size hpn HN9.out).mono ?_
    rintro e w6 ⟨v6, rfl, h6, b6⟩
    have HR6 := Aside0.mk h6
    have HB6 := Aside0.mk (HB9.out.trans b6)
    clear h6 b6
    refine hK _ _ ?_
    clear hK K
    refine wpAny_take (i := 9) (v := ?_) rfl (by kernel_rfl) (by kernel_rfl) (by kernel_rfl) (fun _ _ _ h => h) (Or.inl ⟨by rfl, ?_⟩) ?_; rotate_left; focus (intro w; go_simp; try (with_reducible rfl))
    refine wpAny_take (i := 10) (v := ?_) rfl (by kernel_rfl) (by kernel_rfl) (by kernel_rfl) (fun _ _ _ h => h) (Or.inl ⟨by rfl, ?_⟩) ?_; rotate_left; focus (intro w; go_simp; try (with_reducible rfl))
    refine wpAny_done (by kernel_rfl) ?_ _
    go_wp2
    refine bodyPost_ret (v := .tuple #[v6, .int .i64 0]) ?_ rfl ⟨v6, rfl, HR6.out, HB6.out⟩
    simp [results, Try.results60, go_sem, Act.put]
  · refine Kd.R_make_step Kd.string (w0 := w) w.heap.size 9 (by rfl) (N := 43) rfl 47 _ _ rfl n rfl rfl Try.underlying47 (.string ⟨#[]⟩) 16 info9 rfl (by decide) (by omega) (⟨#[]⟩ : ByteArray) (ok := fun _ => True) (okp := fun _ => True) rfl (fun _ hk => hk) trivial hn0 hn1 HBW.out hs0 ?_
    intro v5 w5 hr5 hb5 hg5 hat5
    obtain ⟨A5, c5, rfl⟩ := Kd.R_slice hr5
    rw [List.length_replicate] at hr5 hat5 ⊢
    have HR5 := Aside0.mk hr5
    have HB5 := Aside0.mk hb5
    have HG5 := Aside0.mk hg5
    have HAT5 := Aside0.mk hat5
    clear hr5 hb5 hg5 hat5
    refine hK _ _ ?_
    clear hK K
    refine wpAny_take (i := 6) (v := ?_) rfl (by kernel_rfl) (by kernel_rfl) (by kernel_rfl) (fun _ _ _ h => h) (Or.inl ⟨by rfl, ?_⟩) ?_; rotate_left; focus (intro w; go_simp; try (with_reducible rfl))
    have hs5 := HB5.out.size
    refine wpAny_ready (rs := [1, 7]) (by kernel_rfl) (by simp) ?_
    refine AllReady.cons rfl (fun K hK => ?_) (AllReady.cons rfl (fun K hK => ?_) AllReady.nil)
    · go_simp
      refine (HCL.out _ HB5.out).mono ?_
      rintro e w4 ⟨v3, rfl, hs4, hb4⟩
      obtain ⟨A3, c3, rfl⟩ := Kd.S_slice hs4
      have HS4 := Aside0.mk (Kd.S_lower (Kd.S_new' hs4 (Kd.R_lt HR5.out)) hs5)
      have HB4 := Aside0.mk (HB5.out.trans (hb4.mono hs5))
      have HR4 := Aside0.mk (Kd.R_below HR5.out hb4)
      clear hs4 hb4
      refine hK _ _ ?_
      clear hK K
      refine wpAny_ready (rs := [7]) (by kernel_rfl) (by simp) ?_
      refine AllReady.cons rfl (fun K hK => ?_) AllReady.nil
      go_simp
      refine hK _ _ ?_
      clear hK K
      have HN9 := Aside0.mk (show some w4.heap.size ≠ (Value.slice A3 l.length c3).ownBlock from fun he => by have := Kd.S_lt HS4.out _ he.symm; omega)
      have HS9 := Aside0.mk (Kd.S_alloc (Kd.S_mono HS4.out (fun k hk => hk.2)) (.cells #[.int .i64 a, .slice A5 n.toNat c5] 49))
      have HR9 := Aside0.mk (Kd.R_alloc HR4.out (.cells #[.int .i64 a, .slice A5 n.toNat c5] 49))
      have HV9 := Aside0.mk (blk_new w4 (.cells #[.int .i64 a, .slice A5 n.toNat c5] 49))
      have HB9 := Aside0.mk (below_alloc HB4.out (.cells #[.int .i64 a, .slice A5 n.toNat c5] 49))
      refine wpAny_ready (rs := [8]) (by kernel_rfl) (by simp) ?_
      refine AllReady.cons rfl (fun K hK => ?_) AllReady.nil
      go_simp
      refine (insert_Sm A3 A5 l.length c3 c5 p _ n.toNat l (newV a n) w.heap.size _ List.length_replicate.symm HS9.out HR9.out HV9.out (by omega) HB9.out.size hpn HN9.out).mono ?_
      rintro e w6 ⟨v6, rfl, h6, b6⟩
      have HR6 := Aside0.mk h6
      have HB6 := Aside0.mk (HB9.out.trans b6)
      clear h6 b6
      refine hK _ _ ?_
      clear hK K
      refine wpAny_take (i := 9) (v := ?_) rfl (by kernel_rfl) (by kernel_rfl) (by kernel_rfl) (fun _ _ _ h => h) (Or.inl ⟨by rfl, ?_⟩) ?_; rotate_left; focus (intro w; go_simp; try (with_reducible rfl))
      refine wpAny_take (i := 10) (v := ?_) rfl (by kernel_rfl) (by kernel_rfl) (by kernel_rfl) (fun _ _ _ h => h) (Or.inl ⟨by rfl, ?_⟩) ?_; rotate_left; focus (intro w; go_simp; try (with_reducible rfl))
      refine wpAny_done (by kernel_rfl) ?_ _
      go_wp2
      refine bodyPost_ret (v := .tuple #[v6, .int .i64 0]) ?_ rfl ⟨v6, rfl, HR6.out, HB6.out⟩
      simp [results, Try.results60, go_sem, Act.put]
    · go_simp
      refine hK _ _ ?_
      clear hK K
      have HR8 := Aside0.mk (Kd.R_alloc HR5.out (.cells #[.int .i64 a, .slice A5 n.toNat c5] 49))
      have HV8 := Aside0.mk (blk_new w5 (.cells #[.int .i64 a, .slice A5 n.toNat c5] 49))
      have HB8 := Aside0.mk (below_alloc HB5.out (.cells #[.int .i64 a, .slice A5 n.toNat c5] 49))
      have hs8 := HB8.out.size
      refine wpAny_ready (rs := [1]) (by kernel_rfl) (by simp) ?_
      refine AllReady.cons rfl (fun K hK => ?_) AllReady.nil
      go_simp
      refine (HCL.out _ HB8.out).mono ?_
      rintro e w4 ⟨v3, rfl, hs4, hb4⟩
      obtain ⟨A3, c3, rfl⟩ := Kd.S_slice hs4
      have HN9 := Aside0.mk (show some w5.heap.size ≠ (Value.slice A3 l.length c3).ownBlock from fun he => by have := Kd.S_base hs4 _ he.symm; have := blk_lt HV8.out; omega)
      have HS9 := Aside0.mk (Kd.S_mono (Kd.S_lower (Kd.S_new' hs4 (Kd.R_lt HR8.out)) hs8) (fun k hk => hk.2))
      have HR9 := Aside0.mk (Kd.R_below HR8.out hb4)
      have HV9 := Aside0.mk (blk_below HV8.out hb4)
      have HB9 := Aside0.mk (HB8.out.trans (hb4.mono hs8))
      clear hs4 hb4
      refine hK _ _ ?_
      clear hK K
      refine wpAny_ready (rs := [8]) (by kernel_rfl) (by simp) ?_
      refine AllReady.cons rfl (fun K hK => ?_) AllReady.nil
      go_simp
      refine (insert_Sm A3 A5 l.length c3 c5 p _ n.toNat l (newV a n) w.heap.size _ List.length_replicate.symm HS9.out HR9.out HV9.out (by omega) HB9.out.size hpn HN9.out).mono ?_
      rintro e w6 ⟨v6, rfl, h6, b6⟩
      have HR6 := Aside0.mk h6
      have HB6 := Aside0.mk (HB9.out.trans b6)
      clear h6 b6
      refine hK _ _ ?_
      clear hK K
      refine wpAny_take (i := 9) (v := ?_) rfl (by kernel_rfl) (by kernel_rfl) (by kernel_rfl) (fun _ _ _ h => h) (Or.inl ⟨by rfl, ?_⟩) ?_; rotate_left; focus (intro w; go_simp; try (with_reducible rfl))
      refine wpAny_take (i := 10) (v := ?_) rfl (by kernel_rfl) (by kernel_rfl) (by kernel_rfl) (fun _ _ _ h => h) (Or.inl ⟨by rfl, ?_⟩) ?_; rotate_left; focus (intro w; go_simp; try (with_reducible rfl))
      refine wpAny_done (by kernel_rfl) ?_ _
      go_wp2
      refine bodyPost_ret (v := .tuple #[v6, .int .i64 0]) ?_ rfl ⟨v6, rfl, HR6.out, HB6.out⟩
      simp [results, Try.results60, go_sem, Act.put]
theorem vols_Add.calls (A0 : Option Addr) (c0 : Nat) (l0 : List S49) (a1 a2 : Int) (r1 : List S49) (r2 : Int) (w : World) (hr0 : Kd.C k49 w A0 l0.length l0) (hc0 : l0.length ≤ c0) (h : vols_Add.f l0 a1 a2 = some (r1, r2)) :
    Calls Try.prog 60 #[.slice A0 l0.length c0, .int .i64 a1, .int .i64 a2] w fun e w' => ∃ v0_ : Value, e = .returned (.tuple #[v0_, .int .i64 r2]) ∧ Kd.S k49 49 w' w.heap.size (fun _ => True) v0_ r1 ∧ Below w.heap.size w w' := by
  unfold vols_Add.f at h
  injection h with h
  by_cases h1 : rightV l0 = true ∧ 1 ≤ a1 ∧ a1 ≤ 255 ∧ sizeB a2 = true
  · rw [if_pos h1] at h
    obtain ⟨g1, g2, g3, g4⟩ := h1
    cases hb : hasV l0 a1 with
    | true =>
      rw [hb, if_pos rfl] at h
      injection h with e1 e2
      subst e1; subst e2
      refine (add_there A0 c0 l0 a1 a2 w hr0 hc0 g1 g2 g3 g4 true hb (fun h => by cases h)).mono ?_
      rintro e w' ⟨rfl, hb⟩
      exact ⟨_, rfl, Kd.S_nil _ _ _ _ _, hb⟩
    | false =>
      rw [hb, if_neg (by simp)] at h
      by_cases h6 : 4 ≤ l0.length
      · rw [if_pos h6] at h
        injection h with e1 e2
        subst e1; subst e2
        refine (add_there A0 c0 l0 a1 a2 w hr0 hc0 g1 g2 g3 g4 false hb (fun _ => h6)).mono ?_
        rintro e w' ⟨rfl, hb⟩
        exact ⟨_, rfl, Kd.S_nil _ _ _ _ _, hb⟩
      · rw [if_neg h6] at h
        injection h with e1 e2
        subst e1; subst e2
        exact add_yes A0 c0 l0 a1 a2 w hr0 hc0 g1 g2 g3 g4 hb h6
  · rw [if_neg h1] at h
    injection h with e1 e2
    subst e1; subst e2
    refine (add_no A0 c0 l0 a1 a2 w hr0 hc0 h1).mono ?_
    rintro e w' ⟨rfl, hb⟩
    exact ⟨_, rfl, Kd.S_nil _ _ _ _ _, hb⟩
end Go.Proofs.Ythdhkoeaadahaaa.P
