-- PACKED by wip/kit/pack.py: what the law's proof uses of EDelNote (printed words and texts of this seat)
import Derived.Test.YthdhkoeaadahaaaYEHas
import Derived.Test.YthdhkoeaadahaaaYEClear
namespace Go.Proofs.Ythdhkoeaadahaaa.P
open Go.RowKit Go.Proofs.YthdhkoeaadahaaaW.PrintWords Go.Proofs.YthdhkoeaadahaaaW.PrintLast Go.Proofs.YthdhkoeaadahaaaW.PrintMore
attribute [local go_sem] Oper.semAt_some
set_option linter.unusedVariables false
set_option linter.unusedSimpArgs false
def FirstAt {α : Type} (p : α → Bool) (ms : List α) (r : Int) : Prop := (r = -1 ∧ ∀ m ∈ ms, p m = false) ∨ ∃ i : Nat, r = (i : Int) ∧ ∃ (h : i < ms.length), p ms[i] = true ∧ ∀ m ∈ ms.take i, p m = false
def keptB (l : List S74) (m : S124) : Bool := l.any (keyB m)
theorem zero124 (w : World) : (zeroValue 124).run Try.prog w = .ok (.agg #[.int .i64 0, .int .i64 0]) w := by kernel_rfl
theorem rd124 (l : List S124) (i : Nat) (h : i < l.length) : rd_T124 l (i : Int) = l[i] := by
  unfold rd_T124; rw [Int.toNat_natCast, List.getD_eq_getElem?_getD, List.getElem?_eq_getElem h, Option.getD_some]
set_option maxRecDepth 100000 in
set_option maxHeartbeats 2000000 in
theorem index_note (g : Nat) (A : Option Addr) (c : Nat) (l : List S74) (A1 : Option Addr) (c1 : Nat) (ms : List S124) (w : World) (hr : Kd.C k74 w A l.length l) (hc : l.length ≤ c) (hb : w.heap[g]? = some (.cells #[.slice A l.length c] 25 (0, 0))) (hm : Kd.C k124 w A1 ms.length ms) :
    Calls Try.prog 135 #[.slice A1 ms.length c1, .func (.func 121) #[] #[.pointer (some ⟨g, 0, none⟩)]] w fun e w' => (∃ r : Int, e = .returned (.int .i64 r) ∧ FirstAt (keptB l) ms r) ∧ Below w.heap.size w w' := by
  have hmx := hm.2.1
  have hu124 := Try.underlying124
  have HR := Aside0.mk hr
  have HM := Aside0.mk hm
  have BG := Aside0.mk hb
  clear hr hb hm
  go_enter Try.func135, Try.ntmps135
  go_wp2
  go_loopg [5, 8] ms.length (fun gg _ s8 wr => ∃ kk : Nat, kk ≤ ms.length ∧ ms.length - kk ≤ gg ∧ s8 = .int .i64 kk ∧ Aside0 (Below w.heap.size w wr) ∧ Aside0 (∀ m ∈ ms.take kk, keptB l m = false))
  case atStart => exact ⟨0, by omega, by omega, rfl, ⟨Below.refl _ _⟩, ⟨fun m hm => by simp at hm⟩⟩
  case round =>
    obtain ⟨kk, hkk, hg, rfl, BW, AA⟩ := hrel
    by_cases hlt : kk < ms.length
    · have hltz : (kk : Int) < (ms.length : Int) := by omega
      have e0 : decide ((kk : Int) < (ms.length : Int)) = true := decide_eq_true hltz
      obtain ⟨ad, rfl, d0, d1⟩ := at_T124 (Kd.C_below HM.out BW.out) (kk : Int) (by omega) hltz
      rw [Int.toNat_natCast] at d0 d1
      have hcall := note1_calls (rd_T124 ms (kk : Int)) g A c l wr (Kd.C_below HR.out BW.out) hc (blk_below BG.out (BW.out))
      have EY := Aside0.mk (rd124 ms kk hlt)
      generalize rd_T124 ms (kk : Int) = y at d0 d1 hcall EY
      obtain ⟨b, hq⟩ : ∃ b, l.any (keyB y) = b := ⟨_, rfl⟩
      rw [hq] at hcall
      have HQ := Aside0.mk (show keptB l ms[kk] = b by rw [← EY.out]; exact hq)
      clear hq
      cases b with
      | true =>
        go_wp2_with (go_at_call 121; refine hcall.mono ?_; rintro e w' ⟨rfl, hb'⟩)
        go_ret
        exact ⟨⟨_, rfl, .inr ⟨kk, rfl, hlt, HQ.out, AA.out⟩⟩, BW.out.trans (hb'.mono BW.out.size)⟩
      | false =>
        go_wp2_with (go_at_call 121; refine hcall.mono ?_; rintro e w' ⟨rfl, hb'⟩)
        go_roundg (ms.length - (kk + 1))
        case measure => omega
        case rel =>
          refine ⟨kk + 1, by omega, by omega, by go_num, ⟨BW.out.trans (hb'.mono BW.out.size)⟩, ⟨fun m hm => ?_⟩⟩
          rw [List.take_succ_eq_append_getElem hlt] at hm
          rcases List.mem_append.1 hm with hm | hm
          · exact AA.out m hm
          · rw [List.mem_singleton.1 hm]; exact HQ.out
    · have hltz : ¬ (kk : Int) < (ms.length : Int) := by omega
      go_wp2
      go_ret
      refine ⟨⟨_, rfl, .inl ⟨rfl, fun m hm => ?_⟩⟩, BW.out⟩
      have := AA.out m (by rw [List.take_of_length_le (by omega)]; exact hm)
      exact this
theorem same_at {ys ms : List S124} {j : Nat} (h : ys.drop j = ms.drop j) (hj : j < ms.length) (hl : ys.length = ms.length) : ms[j]? = some (rd_T124 ys (j : Int)) := by
  have h0 := congrArg (fun q : List S124 => q[0]?) h
  simp only [List.getElem?_drop, Nat.add_zero] at h0
  rw [← h0, rd124 ys j (by omega), List.getElem?_eq_getElem]
theorem drop_succ_eq {α : Type} {ys ms : List α} {j : Nat} (h : ys.drop j = ms.drop j) : ys.drop (j + 1) = ms.drop (j + 1) := by
  have h9 := congrArg (List.drop 1) h
  rw [List.drop_drop, List.drop_drop] at h9
  exact h9
theorem two_cells {W : World} {g o : Nat} {a b : Value} (h0 : W.cell? ⟨g, o, none⟩ = some a) (h1 : W.cell? ⟨g, o + 1, none⟩ = some b) : ∀ (j : Nat) (u : Value), ([a, b] : List Value)[j]? = some u → W.cell? ⟨g, o + j, none⟩ = some u
  | 0, u, h => by obtain rfl := Option.some.inj h; exact h0
  | 1, u, h => by obtain rfl := Option.some.inj h; exact h1
  | j + 2, u, h => by simp at h
theorem take_snoc_get {α : Type} {ms : List α} {j : Nat} {x : α} (h : ms[j]? = some x) : ms.take (j + 1) = ms.take j ++ [x] := by
  rw [List.take_add_one, h]; rfl
theorem take_set_snoc {α : Type} (l : List α) (i : Nat) (x : α) (h : i < l.length) : (l.set i x).take (i + 1) = l.take i ++ [x] := by
  rw [List.take_succ_eq_append_getElem (by rw [List.length_set]; exact h), List.getElem_set_self, List.take_set_of_le (Nat.le_refl _)]
theorem drop_set_lt {α : Type} (l : List α) (i j : Nat) (x : α) (h : i < j) : (l.set i x).drop j = l.drop j := List.drop_set_of_lt h
set_option maxRecDepth 100000 in
set_option maxHeartbeats 8000000 in
theorem delete_note (gq : Nat) (A : Option Addr) (c : Nat) (l : List S74) (v : Value) (ms : List S124) (base : Nat) (w0 w : World) (hF : Kd.C k74 w0 A l.length l) (hc : l.length ≤ c) (hk : w.heap[gq]? = some (.cells #[.slice A l.length c] 25 (0, 0))) (hkb : gq < base) (hsz : base = w0.heap.size)
    (HO0 : Kd.R k124 124 w base (fun _ => True) v ms) (HB0 : Below base w0 w) (hn : ms.length ≤ 1000000) :
    Calls Try.prog 120 #[v, .func (.func 121) #[] #[.pointer (some ⟨gq, 0, none⟩)]] w fun e w' => ∃ v' : Value, e = .returned v' ∧ Kd.R k124 124 w' base (fun _ => True) v' (ms.filter (fun m => !keptB l m)) ∧ Below base w0 w' := by
  have hu124 := Try.underlying124
  have hu61 := Try.underlying61
  obtain ⟨A1, c1, e1⟩ := Kd.R_slice HO0
  subst e1
  have hBw : Below w0.heap.size w0 w := hsz ▸ HB0
  have hidx := index_note gq A c l A1 c1 ms w (Kd.C_below hF hBw) hc hk (Kd.R_reads' HO0).2.2
  have HO := Aside0.mk HO0
  have HB := Aside0.mk HB0
  have HF := Aside0.mk hF
  have BG := Aside0.mk hk
  have HSZ := Aside0.mk hsz
  clear HO0 HB0 hF hk hBw hsz
  go_enter Try.func120, Try.ntmps120
  go_upto_if 12 with (go_at_call 135; refine hidx.mono ?_; rintro e w2 ⟨⟨r, rfl, hf⟩, hb⟩; have HFA := Aside0.mk hf; have HBW := Aside0.mk hb; clear hf hb)
  clear hidx
  have HO2 := Aside0.mk (Kd.R_below HO.out HBW.out)
  have HB2 := Aside0.mk (HB.out.trans (HBW.out.mono (by have := HB.out.size; have := HSZ.out; omega)))
  have BG2 := Aside0.mk (blk_below BG.out HBW.out)
  clear HO HB BG HBW
  rcases HFA.out with ⟨rfl, hall⟩ | ⟨i0, rfl, hi0, hp0, hpre⟩
  · have HALL := Aside0.mk (show ms.filter (fun m => !keptB l m) = ms by
      rw [List.filter_eq_self]
      intro m hm
      rw [hall m hm]; rfl)
    clear hall HFA
    go_wp2
    go_ret
    exact ⟨_, rfl, by rw [HALL.out]; exact HO2.out, HB2.out⟩
  · obtain ⟨g, c1', e5, hg5, _⟩ := Kd.R_form HO2.out (by omega)
    injection e5 with eA _ eC
    subst eA
    subst eC
    have HP0 := Aside0.mk hp0
    have HPRE := Aside0.mk (show (ms.take i0).filter (fun m => !keptB l m) = ms.take i0 by
      rw [List.filter_eq_self]
      intro m hm
      rw [hpre m hm]; rfl)
    clear hp0 hpre HFA
    have e1 : (((i0 : Nat) : Int) == -1) = false := beq_eq_false_iff_ne.2 (by omega)
    have e2 : decide (((i0 : Nat) : Int) = -1) = false := decide_eq_false (by omega)
    obtain ⟨n, hnn⟩ : ∃ n, ms.length = n := ⟨_, rfl⟩
    have HNN := Aside0.mk hnn
    rw [hnn] at HO2 hi0 hn ⊢
    clear hnn
    obtain ⟨z0, hz0⟩ : ∃ z, ((i0 : Nat) : Int) = z := ⟨_, rfl⟩
    rw [hz0] at e1 e2 ⊢
    have HZ0 := Aside0.mk hz0
    clear hz0
    obtain ⟨z1, hz1⟩ : ∃ z, wrap64 (z0 + 1) = z := ⟨_, rfl⟩
    have HZ1 := Aside0.mk (show z1 = ((i0 + 1 : Nat) : Int) by have := HZ0.out; rw [← hz1]; unfold wrap64; omega)
    go_wp2
    (try simp only [hz1])
    go_loopg [5, 6] n (fun gg s5 s6 wr => ∃ (i j : Nat) (zi zj : Int) (ys : List S124), i < j ∧ j ≤ n ∧ n - j ≤ gg ∧ Aside0 (zi = (i : Int)) ∧ Aside0 (zj = (j : Int)) ∧ s5 = .int .i64 zi ∧ s6 = .int .i64 zj ∧ Aside0 (ys.length = n) ∧ Aside0 (ys.take i = (ms.take j).filter (fun m => !keptB l m)) ∧ Aside0 (ys.drop j = ms.drop j) ∧ Aside0 (Below base w0 wr) ∧ Aside0 (wr.heap[gq]? = some (.cells #[.slice A l.length c] 25 (0, 0))) ∧ Aside0 (Kd.R k124 124 wr base (fun _ => True) (.slice (some ⟨g, 0, none⟩) n c1) ys))
    case atStart =>
      refine ⟨i0, i0 + 1, z0, z1, ms, by omega, by omega, by omega, ⟨HZ0.out.symm⟩, HZ1, rfl, rfl, HNN, ⟨?_⟩, ⟨rfl⟩, HB2, BG2, HO2⟩
      have hlt : i0 < ms.length := by have := HNN.out; omega
      rw [List.take_succ_eq_append_getElem hlt, List.filter_append, HPRE.out, List.filter_cons, HP0.out]
      simp
    case round =>
      clear HB2 BG2 HO2
      obtain ⟨i, j, zi, zj, ys, hij, hjn, hg, HZI, HZJ, rfl, rfl, HYL, HYT, HYD, HB, BG, HO⟩ := hrel
      by_cases hlt : j < n
      · have e3 : decide (zj < (n : Int)) = true := decide_eq_true (by have := HZJ.out; omega)
        obtain ⟨zj1, hzj1⟩ : ∃ z, wrap64 (zj + 1) = z := ⟨_, rfl⟩
        have HZJ1 := Aside0.mk (show zj1 = ((j + 1 : Nat) : Int) by have := HZJ.out; rw [← hzj1]; unfold wrap64; omega)
        obtain ⟨zi1, hzi1⟩ : ∃ z, wrap64 (zi + 1) = z := ⟨_, rfl⟩
        have HZI1 := Aside0.mk (show zi1 = ((i + 1 : Nat) : Int) by have := HZI.out; rw [← hzi1]; unfold wrap64; omega)
        have hr := Kd.R_reads' HO.out
        obtain ⟨ad, ea, d0, d1⟩ := at_T124 hr.2.2 zj (by have := HZJ.out; omega) (by have := HZJ.out; have := HYL.out; have := hr.1; omega)
        injection ea with ea
        subst ea
        rw [add_plain] at d0 d1
        have HX := Aside0.mk (show ms[j]? = some (rd_T124 ys zj) by rw [HZJ.out]; exact same_at HYD.out (by have := HNN.out; omega) (by have := HYL.out; have := HNN.out; omega))
        generalize rd_T124 ys zj = x at d0 d1 HX
        have h1 : 0 ≤ zj := by have := HZJ.out; omega
        have h2 : zj < (n : Int) := by have := HZJ.out; omega
        obtain ⟨b, hq⟩ : ∃ b, l.any (keyB x) = b := ⟨_, rfl⟩
        have HQ := Aside0.mk (show keptB l x = b from hq)
        have HCL := Aside0.mk (show ∀ W : World, Below base w0 W → W.heap[gq]? = some (.cells #[.slice A l.length c] 25 (0, 0)) → Calls Try.prog 121 #[.agg #[.int .i64 x.f0, .int .i64 x.f1], .pointer (some ⟨gq, 0, none⟩)] W fun e w' => e = .returned (.bool b) ∧ Below W.heap.size W w' from fun W hW hG => by
          have h9 := note1_calls x gq A c l W (Kd.C_below HF.out (HSZ.out ▸ hW)) hc hG
          rw [hq] at h9
          exact h9)
        clear hq hr
        go_upto_if 29 with (go_at_call 121; refine (HCL.out _ (HB.out.alloc (by have := HB.out.size; have := HSZ.out; omega) _) (blk_alloc BG.out _)).mono ?_; rintro e w3 ⟨rfl, hb⟩; have HO3 := Aside0.mk (Kd.R_below (Kd.R_alloc HO.out _) hb); have BG3 := Aside0.mk (blk_below (blk_alloc BG.out _) hb); have BX3 := Aside0.mk (blk_below (blk_new wr _) hb); have HB3 := Aside0.mk ((HB.out.alloc (by have := HB.out.size; have := HSZ.out; omega) _).trans (hb.mono (by have := HB.out.size; have := HSZ.out; simp; omega))); clear hb)
        clear HCL d0 d1
        cases b with
        | true =>
          go_wp2
          (try simp only [hzj1])
          go_roundg (n - j - 1)
          case measure => omega
          case rel =>
            refine ⟨i, j + 1, zi, zj1, ys, by omega, by omega, by omega, HZI, HZJ1, rfl, ?_, HYL, ⟨?_⟩, ⟨?_⟩, HB3, BG3, HO3⟩
            · first | rfl | exact congrArg (Value.int .i64) (by have := HZJ.out; have := HZJ1.out; omega)
            · rw [HYT.out, take_snoc_get HX.out, List.filter_append, List.filter_cons, HQ.out]
              simp
            · exact drop_succ_eq HYD.out
        | false =>
          have b0 : w3.cell? ⟨wr.heap.size, 0, none⟩ = some (.int .i64 x.f0) := (blk_cell BX3.out 0).trans rfl
          have b1 : w3.cell? ⟨wr.heap.size, 1, none⟩ = some (.int .i64 x.f1) := (blk_cell BX3.out 1).trans rfl
          have h3 : 0 ≤ zi := by have := HZI.out; omega
          have h4 : zi < (n : Int) := by have := HZI.out; omega
          have hr := Kd.R_reads' HO3.out
          obtain ⟨ad, ea, y0, y1⟩ := at_T124 hr.2.2 zi h3 (by have := hr.1; omega)
          injection ea with ea
          subst ea
          rw [add_plain] at y0 y1
          have HYY := Aside0.mk (And.intro y0 y1)
          have HGE := Aside0.mk (show gq ≠ g by omega)
          clear hr y0 y1
          go_wp2_with ((with_reducible refine gate_store (t := 124) (p := 33) (v := .tmp 32) rfl ?_); refine Kd.R_store k124 (w0 := w0) base rfl rfl 124 (.tmp 33) (.tmp 32) rfl 124 (g := g) (n := n) (cap := c1) zi 0 ys x (.agg #[.int .i64 x.f0, .int .i64 x.f1]) [.int .i64 x.f0, .int .i64 x.f1] [.int .i64 (rd_T124 ys zi).f0, .int .i64 (rd_T124 ys zi).f1] (fun _ => True) (fun _ => False) rfl ?sO rfl rfl (by kernel_rfl) ?sU HO3.out h3 h4 rfl ?sC (Nat.le_refl 2) ?sM (fun _ h => h.elim) HB3.out ?_; (case sO => rfl); (case sU => intro q hq; simp only [List.mem_cons, List.not_mem_nil, or_false] at hq; rcases hq with rfl | rfl <;> rfl); (case sC => exact two_cells HYY.out.1 HYY.out.2); (case sM => exact k124_mkM _ _ _ x); intro w4 ho hb hgr; have HO4 := Aside0.mk ho; have HB4 := Aside0.mk hb; have BG4 := Aside0.mk ((hgr.block gq (blk_lt BG3.out) (fun he => by injection he with he; exact HGE.out he)).trans BG3.out); clear ho hb hgr)
          go_roundg (n - j - 1)
          case measure => omega
          case rel =>
            refine ⟨i + 1, j + 1, zi1, zj1, ys.set zi.toNat x, by omega, by omega, by omega, HZI1, HZJ1, ?_, ?_, ⟨by rw [List.length_set]; exact HYL.out⟩, ⟨?_⟩, ⟨?_⟩, HB4, BG4, HO4⟩
            · first | rfl | exact congrArg (Value.int .i64) (by have := HZI.out; have := HZI1.out; omega)
            · first | rfl | exact congrArg (Value.int .i64) (by have := HZJ.out; have := HZJ1.out; omega)
            · rw [show zi.toNat = i by have := HZI.out; omega, take_set_snoc _ _ _ (by have := HYL.out; omega), HYT.out, take_snoc_get HX.out, List.filter_append, List.filter_cons, HQ.out]
              simp
            · rw [show zi.toNat = i by have := HZI.out; omega, drop_set_lt _ _ _ _ (by omega)]
              exact drop_succ_eq HYD.out
      · have e3 : decide (zj < (n : Int)) = false := decide_eq_false (by have := HZJ.out; omega)
        have hjn2 : j = n := by omega
        have HFIN := Aside0.mk (show ys.take i = ms.filter (fun m => !keptB l m) by
          rw [HYT.out, hjn2, List.take_of_length_le (by have := HNN.out; omega)])
        have h1 : 0 ≤ zi := by have := HZI.out; omega
        have h2 : zi ≤ (n : Int) := by have := HZI.out; omega
        have hcap : n ≤ c1 := (Kd.R_reads' HO.out).2.1
        have hzt : zi.toNat = i := by have := HZI.out; omega
        have HZT := Aside0.mk hzt
        have hle9 : zi.toNat ≤ n := by omega
        clear hzt
        go_wp2_with ((with_reducible refine gate_builtin (b := .clear) (xs := #[.tmp 38]) rfl ?_); refine clear_step k124 (w0 := w0) base rfl (.tmp 38) 61 124 (.agg #[.int .i64 0, .int .i64 0]) rfl Try.underlying61 zero124 rfl (by intro u hu; simp only [Value.cells, List.mem_cons, List.not_mem_nil, or_false] at hu; rcases hu with rfl | rfl <;> rfl) (g := g) (i := zi.toNat) (n := n) (cap := c1) ys (fun _ => True) _ rfl ?cA hle9 (by decide) HO.out HB.out ?_; (case cA => intro h9; first | rfl | (rw [if_neg (by omega)]; rfl) | (split <;> first | rfl | (exfalso; omega)) | (simp [show c1 ≠ zi.toNat by omega]; done) | (exfalso; omega)); intro w4 ho hb hgg; have HO4 := Aside0.mk ho; have HB4 := Aside0.mk hb; clear ho hb hgg)
        all_goals (go_ret; refine ⟨_, rfl, ?_, HB4.out⟩; rw [← HFIN.out, ← HZT.out]; first | exact HO4.out | (have h9 : c1 = zi.toNat := (by omega); have h8 := HO4.out; rw [h9] at h8; exact h8))
end Go.Proofs.Ythdhkoeaadahaaa.P
