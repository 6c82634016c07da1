-- PACKED by wip/kit/pack.py: what the law's proof uses of EVResize (printed words and texts of this seat)
import Derived.Test.YthdhkoeaadahaaaUEVDrop
namespace Go.Proofs.Ythdhkoeaadahaaa.P
open Go.RowKit Go.Proofs.YthdhkoeaadahaaaW.PrintWords Go.Proofs.YthdhkoeaadahaaaW.PrintLast Go.Proofs.YthdhkoeaadahaaaW.PrintMore
attribute [local go_sem] Oper.semAt_some
set_option linter.unusedVariables false
set_option linter.unusedSimpArgs false
def sizedB (b : List ByteArray) (n : Nat) : List ByteArray := b.take n ++ List.replicate (n - b.length) ⟨#[]⟩
def resV (l : List S49) (p : Nat) (n : Int) : List S49 := l.set p ⟨(rd_T49 l (p : Int)).f0, sizedB (rd_T49 l (p : Int)).f1 n.toNat⟩
def vols_Resize.f (l : List S49) (a n : Int) : Option (List S49 × Int) := some (if rightV l = true ∧ sizeB n = true then (if hasV l a = true then (resV l (posN l a) n, 0) else ([], 8)) else ([], 1))
theorem rawString {W : World} {base : Nat} {ok : Nat → Prop} {v : Value} {xs : List ByteArray} (h : Kd.R Kd.string 9 W base ok v xs) : Kd.R (Kd.raw 1) 9 W base ok v (xs.map (fun s => [.string s])) := by
  obtain ⟨h0, inner, ho, hr⟩ := h
  refine ⟨h0, inner, by rw [List.length_map]; exact ho, by rw [List.length_map]; exact hr.1, fun j p hj => ?_⟩
  rw [List.getElem?_map] at hj
  obtain ⟨s, hs, rfl⟩ := Option.map_eq_some_iff.1 hj
  have h2 : (inner.drop (j * 1)).take 1 = [.string s] := hr.2 j s hs
  show (inner.drop (j * 1)).take 1 = [.string s] ∧ ((inner.drop (j * 1)).take 1).length = 1 ∧ ∀ u ∈ (inner.drop (j * 1)).take 1, u.oneCell' = true
  rw [h2]
  exact ⟨rfl, rfl, fun u hu => by obtain rfl := List.mem_singleton.1 hu; rfl⟩
theorem rawString_back {W : World} {base : Nat} {ok : Nat → Prop} {v : Value} {xs : List ByteArray} (h : Kd.R (Kd.raw 1) 9 W base ok v (xs.map (fun s => [.string s]))) : Kd.R Kd.string 9 W base ok v xs := by
  obtain ⟨h0, inner, ho, hr⟩ := h
  rw [List.length_map] at ho
  have h1 := hr.1
  rw [List.length_map] at h1
  refine ⟨h0, inner, ho, h1, fun j s hj => ?_⟩
  have h2 := hr.2 j [.string s] (by rw [List.getElem?_map, hj]; rfl)
  exact h2.1
theorem rawString_C {W : World} {A : Option Addr} {n : Nat} {xs : List ByteArray} (h : Kd.C Kd.string W A n xs) : Kd.C (Kd.raw 1) W A n (xs.map (fun s => [.string s])) := by
  refine ⟨by rw [List.length_map]; exact h.1, h.2.1, fun h0 => ?_⟩
  obtain ⟨ad, e, hc⟩ := h.2.2 h0
  refine ⟨ad, e, fun j p hj => ?_⟩
  rw [List.getElem?_map] at hj
  obtain ⟨s, hs, rfl⟩ := Option.map_eq_some_iff.1 hj
  obtain ⟨c, hcl, hK, hcc⟩ := hc j s hs
  have hK : c = [.string s] := hK
  subst hK
  exact ⟨_, rfl, ⟨rfl, rfl, fun u hu => by obtain rfl := List.mem_singleton.1 hu; rfl⟩, hcc⟩
theorem size9 : (Try.prog.info? 9).map (·.size) = some 1 := by kernel_rfl
theorem two_cells {W : World} {g o : Nat} {a b : Value} (h0 : W.cell? ⟨g, o, none⟩ = some a) (h1 : W.cell? ⟨g, o + 1, none⟩ = some b) : ∀ (j : Nat) (u : Value), ([a, b] : List Value)[j]? = some u → W.cell? ⟨g, o + j, none⟩ = some u
  | 0, u, h => by obtain rfl := Option.some.inj h; exact h0
  | 1, u, h => by obtain rfl := Option.some.inj h; exact h1
  | j + 2, u, h => by simp at h
theorem right_some : ∀ (l : List S49) (last : Int), rightFrom last l = true → ∀ x ∈ l, 1 ≤ x.f1.length
  | [], _, _, x, hx => by simp at hx
  | y :: r, last, h, x, hx => by
    rw [rightFrom, Bool.and_eq_true] at h
    rcases List.mem_cons.1 hx with rfl | hx
    · have h1 := h.1
      unfold badV sizeB at h1
      by_cases h2 : (x.f1.length : Int) ≥ 1
      · omega
      · rw [if_neg h2] at h1
        simp at h1
    · exact right_some r _ h.2 x hx
set_option maxRecDepth 100000 in
set_option maxHeartbeats 4000000 in
theorem resize_none (A : Option Addr) (c : Nat) (l : List S49) (a n : Int) (w : World) (hr : Kd.C k49 w A l.length l) (hc : l.length ≤ c) (h1 : rightV l = true) (h4 : sizeB n = true) (hno : ∀ k, k < l.length → (rd_T49 l (k : Int)).f0 ≠ a) :
    Calls Try.prog 64 #[.slice A l.length c, .int .i64 a, .int .i64 n] w fun e w' => e = .returned (.tuple #[.slice none 0 0, .int .i64 8]) ∧ Below w.heap.size w w' := by
  have hu49 := Try.underlying49
  have hR := vols_Right.calls A c l true w hr hc (by unfold vols_Right.f; rw [h1])
  have hz := size_of n _ h4
  have hn0 : 1 ≤ n ∧ n ≤ 32 := by
    unfold sizeB at h4
    by_cases h : n ≥ 1
    · rw [if_pos h] at h4; have := of_decide_eq_true h4; omega
    · rw [if_neg h] at h4; cases h4
  obtain ⟨hs1, hs2⟩ := rightV_small h1
  obtain ⟨kc, hkc⟩ := clone_f l (by omega) (fun x hx => by have := hs2 x hx; omega)
  have HCL := Aside0.mk (fun (W : World) (hW : Below w.heap.size w W) => vols_clone.calls kc A c l l W (Kd.C_below hr hW) hc hkc)
  have HNO := Aside0.mk hno
  clear hr h1 h4 hs2 hkc hno
  go_enter Try.func64, Try.ntmps64
  go_wp2_with (first
    | (go_at_call 66; refine hR.mono ?_; rintro e w2 ⟨rfl, hb⟩; have HB := Aside0.mk hb; clear hb)
    | (go_at_call 98; refine (hz _).mono ?_; rintro e w2 ⟨rfl, ⟨m, rfl⟩⟩)
    | (go_at_call 106; refine (HCL.out _ (pw_below_drewN HB.out m)).mono ?_; rintro e w4 ⟨v3, rfl, hs, hb⟩; obtain ⟨A3, c3, rfl⟩ := Kd.S_slice hs; have HS4 := Aside0.mk (Kd.S_lower hs (pw_below_drewN HB.out m).size); have HB4 := Aside0.mk (below_step (pw_below_drewN HB.out m) hb); clear hs hb))
  go_loopg [23] l.length (fun gg s23 wr => ∃ kk : Nat, kk ≤ l.length ∧ l.length - kk ≤ gg ∧ s23 = .int .i64 kk ∧ wr = w4)
  case atStart => exact ⟨0, by omega, by omega, rfl, rfl⟩
  case round =>
    obtain ⟨kk, hkk, hg, rfl, rfl⟩ := hrel
    by_cases hlt : kk < l.length
    · have e0 : decide ((kk : Int) < (l.length : Int)) = true := decide_eq_true (by omega)
      obtain ⟨ad, A1, c1, rfl, d0, d1, hl1, hC1⟩ := at_T49 (Kd.R_reads' (Kd.S_R HS4.out)).2.2 (kk : Int) (by omega) (by omega)
      rw [Int.toNat_natCast] at d0 d1
      have h9 := HNO.out kk hlt
      generalize rd_T49 l (kk : Int) = y at d0 d1 hl1 hC1 h9
      have e1 : (y.f0 == a) = false := by simpa using h9
      clear h9 hC1
      go_wp2
      go_roundg (l.length - (kk + 1))
      case measure => omega
      case rel => exact ⟨kk + 1, by omega, by omega, by go_num, rfl⟩
    · have e0 : decide ((kk : Int) < (l.length : Int)) = false := decide_eq_false (by omega)
      go_wp2
      refine bodyPost_ret (v := .tuple #[.slice none 0 0, .int .i64 8]) ?_ rfl ⟨rfl, HB4.out⟩
      simp [results, Try.results64, go_sem]
theorem Kd.M_bound' {α : Type} {d : Kd α} {w : World} {base : Nat} {ok : Nat → Prop} {x : α} {cs : List Value} (h : d.M w base ok x cs) : d.M w base (fun k => ok k ∧ k < w.heap.size) x cs := d.M_mono (fun k hk => ⟨hk.1, hk.2.2.1⟩) (d.M_bound h)
theorem sized_map (b : List ByteArray) (n : Nat) : (List.map (fun s => [Value.string s]) (List.replicate n ⟨#[]⟩)).take 0 ++ (b.take (Nat.min b.length n)).map (fun s => [Value.string s]) ++ (List.map (fun s => [Value.string s]) (List.replicate n ⟨#[]⟩)).drop (0 + ((b.take (Nat.min b.length n)).map (fun s => [Value.string s])).length) = (sizedB b n).map (fun s => [Value.string s]) := by
  unfold sizedB
  rw [List.take_zero, List.nil_append, List.map_append, Nat.zero_add, List.length_map, List.length_take]
  have e1 : b.take (Nat.min b.length n) = b.take n := by
    rcases Nat.lt_or_ge n b.length with h | h
    · congr 1; exact Nat.min_eq_right (by omega)
    · rw [List.take_of_length_le (show b.length ≤ n from h), List.take_of_length_le (by exact Nat.le_of_eq (Nat.min_eq_left h).symm)]
  rw [e1]
  congr 1
  rw [← List.map_drop, List.drop_replicate]
  congr 2
  have : Nat.min b.length n = min b.length n := rfl
  omega
theorem sized_len (b : List ByteArray) (n : Nat) : (sizedB b n).length = n := by
  unfold sizedB
  rw [List.length_append, List.length_take, List.length_replicate]
  omega
set_option maxRecDepth 100000 in
set_option maxHeartbeats 8000000 in
theorem resize_some (A : Option Addr) (c : Nat) (l : List S49) (a n : Int) (w : World) (hr : Kd.C k49 w A l.length l) (hc : l.length ≤ c) (h1 : rightV l = true) (h4 : sizeB n = true) (p : Nat) (hp : p < l.length) (hpa : (rd_T49 l (p : Int)).f0 = a) (hpb : ∀ k, k < p → (rd_T49 l (k : Int)).f0 ≠ a) :
    Calls Try.prog 64 #[.slice A l.length c, .int .i64 a, .int .i64 n] w fun e w' => ∃ v : Value, e = .returned (.tuple #[v, .int .i64 0]) ∧ Kd.S k49 49 w' w.heap.size (fun _ => True) v (resV l p n) ∧ Below w.heap.size w w' := by
  have hu49 := Try.underlying49
  have hR := vols_Right.calls A c l true w hr hc (by unfold vols_Right.f; rw [h1])
  have hz := size_of n _ h4
  have hn0 : 1 ≤ n ∧ n ≤ 32 := by
    unfold sizeB at h4
    by_cases h : n ≥ 1
    · rw [if_pos h] at h4; have := of_decide_eq_true h4; omega
    · rw [if_neg h] at h4; cases h4
  obtain ⟨hs1, hs2⟩ := rightV_small h1
  obtain ⟨kc, hkc⟩ := clone_f l (by omega) (fun x hx => by have := hs2 x hx; omega)
  have HCL := Aside0.mk (fun (W : World) (hW : Below w.heap.size w W) => vols_clone.calls kc A c l l W (Kd.C_below hr hW) hc hkc)
  have hlen := (right_some l 0 (by unfold rightV at h1; rw [Bool.and_eq_true] at h1; exact h1.1)) _ (List.getElem_mem hp)
  have HLEN := Aside0.mk hlen
  have HNO := Aside0.mk hpb
  have HPA := Aside0.mk hpa
  clear hr h1 h4 hs2 hkc hpb hpa hlen
  go_enter Try.func64, Try.ntmps64
  go_wp2_with (first
    | (go_at_call 66; refine hR.mono ?_; rintro e w2 ⟨rfl, hb⟩; have HB := Aside0.mk hb; clear hb)
    | (go_at_call 98; refine (hz _).mono ?_; rintro e w2 ⟨rfl, ⟨m, rfl⟩⟩)
    | (go_at_call 106; refine (HCL.out _ (pw_below_drewN HB.out m)).mono ?_; rintro e w4 ⟨v3, rfl, hs, hb⟩; obtain ⟨A3, c3, rfl⟩ := Kd.S_slice hs; have HS4 := Aside0.mk (Kd.S_lower hs (pw_below_drewN HB.out m).size); have HB4 := Aside0.mk (below_step (pw_below_drewN HB.out m) hb); clear hs hb))
  go_loopg [23] l.length (fun gg s23 wr => ∃ kk : Nat, kk ≤ p ∧ l.length - kk ≤ gg ∧ s23 = .int .i64 kk ∧ wr = w4)
  case atStart => exact ⟨0, by omega, by omega, rfl, rfl⟩
  case round =>
    obtain ⟨kk, hkk, hg, rfl, rfl⟩ := hrel
    have e0 : decide ((kk : Int) < (l.length : Int)) = true := decide_eq_true (by omega)
    by_cases hlt : kk < p
    · obtain ⟨ad, A1, c1, rfl, d0, d1, hl1, hC1⟩ := at_T49 (Kd.R_reads' (Kd.S_R HS4.out)).2.2 (kk : Int) (by omega) (by omega)
      rw [Int.toNat_natCast] at d0 d1
      have h9 := HNO.out kk hlt
      generalize rd_T49 l (kk : Int) = y at d0 d1 hl1 hC1 h9
      have e1 : (y.f0 == a) = false := by simpa using h9
      clear h9 hC1
      go_wp2
      go_roundg (l.length - (kk + 1))
      case measure => omega
      case rel => exact ⟨kk + 1, by omega, by omega, by go_num, rfl⟩
    · obtain rfl : kk = p := by omega
      obtain ⟨f, rows, hl, hok, hRr, hM⟩ := raw_of_Sg HS4.out
      obtain ⟨g, cp, hve, hbg, hgl, cells, hcells⟩ := Kd.R_form hRr (by omega)
      rw [hl] at hve
      injection hve with hA3 _ hc3
      subst hA3; subst hc3
      have hyl : l[kk]? = some (rd_T49 l (kk : Int)) := by rw [rd49 l kk hp]; exact List.getElem?_eq_getElem hp
      obtain ⟨cc, hccr⟩ : ∃ cc, rows[kk]? = some cc := ⟨_, List.getElem?_eq_getElem (by omega)⟩
      obtain ⟨v1, ec, hR1⟩ := k49_openM (hM kk _ _ hyl hccr)
      subst ec
      have hlen2 : 1 ≤ (rd_T49 l (kk : Int)).f1.length := by rw [rd49 l kk hp]; exact HLEN.out
      have hya : (rd_T49 l (kk : Int)).f0 = a := HPA.out
      have HRES := Aside0.mk (show resV l kk n = l.set kk ⟨(rd_T49 l (kk : Int)).f0, sizedB (rd_T49 l (kk : Int)).f1 n.toNat⟩ from rfl)
      clear HPA
      generalize rd_T49 l (kk : Int) = y at *
      have HYA := Aside0.mk hya
      have e1 : (y.f0 == a) = true := beq_iff_eq.2 hya
      clear hya
      obtain ⟨g1, c1, hv1, hbg1, hgl1, cells1, hcells1⟩ := Kd.R_form hR1 (by omega)
      subst hv1
      have hC := (Kd.R_reads' hRr).2.2
      obtain ⟨ad', ead, hcx⟩ := hC.2.2 (by omega)
      injection ead with ead
      subst ead
      obtain ⟨cq, hcl, hK, hcell⟩ := hcx kk _ hccr
      obtain rfl : cq = [.int .i64 y.f0, .slice (some ⟨g1, 0, none⟩) y.f1.length c1] := hK.1
      have x0 : wr.cell? ⟨g, kk * 2, none⟩ = some (.int .i64 y.f0) := by have h9 := hcell 0 _ rfl; rw [add_plain] at h9; exact h9
      have x1 : wr.cell? ⟨g, kk * 2 + 1, none⟩ = some (.slice (some ⟨g1, 0, none⟩) y.f1.length c1) := by have h9 := hcell 1 _ rfl; rw [add_plain] at h9; exact h9
      have HX1 := Aside0.mk x1
      have HX0 := Aside0.mk x0
      have HRR := Aside0.mk hRr
      have HR1 := Aside0.mk hR1
      have HM := Aside0.mk hM
      have HROW := Aside0.mk hccr
      have HYL := Aside0.mk hyl
      have HL := Aside0.mk hl
      clear hC hcx hK hcell hRr hR1 hM hccr hyl hl hcells hcells1 hok
      obtain ⟨q, hq⟩ : ∃ q, q = Nat.min y.f1.length n.toNat := ⟨_, rfl⟩
      have hq1 : q ≤ y.f1.length := by rw [hq]; exact Nat.min_le_left _ _
      have hq2 : q ≤ n.toNat := by rw [hq]; exact Nat.min_le_right _ _
      have HQ := Aside0.mk hq
      clear hq
      go_wp2_with (first
        | ((with_reducible refine gate_dst (N := 34) rfl ?_); refine Kd.R_make Kd.string (w0 := w) w.heap.size 9 rfl rfl 47 _ _ rfl n rfl rfl Try.underlying47 (.string ⟨#[]⟩) 16 info9 rfl (by decide) (by omega) (⟨#[]⟩ : ByteArray) (ok := fun _ => True) (okp := fun _ => True) rfl (fun _ hk => hk) trivial (by omega) (by omega) HB4.out HB4.out.size ?_; intro v5 w5 hr5 hb5 hg5 hat5; obtain ⟨g5, c5, hv5, hbg5, hgl5, cells5, hcells5⟩ := Kd.R_form hr5 (by rw [List.length_replicate]; omega); subst hv5; rw [List.length_replicate] at hr5 hat5 ⊢; have HR5 := Aside0.mk hr5; have HB5 := Aside0.mk hb5; have HG5 := Aside0.mk hg5; have HAT5 := Aside0.mk (show wr.heap.size ≤ g5 by obtain ⟨b, hb1, hb2⟩ := hat5; simp [Value.ownBlock] at hb1; omega); clear hr5 hb5 hg5 hat5 hcells5 x0 x1; have x0 := HG5.out.cell HX0.out (by simp); have x1 := HG5.out.cell HX1.out (by simp))
        | ((with_reducible refine gate_builtin (b := .copy) (xs := #[.tmp 35, .tmp 40]) rfl ?_); refine wp_copy_rows (sz := 1) (w0 := w) (base := w.heap.size) (g := g5) (n := n.toNat) (cap := c5) (rows := (List.replicate n.toNat (⟨#[]⟩ : ByteArray)).map (fun s => [Value.string s])) (ys := (y.f1.take q).map (fun s => [Value.string s])) rfl (.tmp 35) (.tmp 40) 47 47 rfl Try.underlying47 size9 (by decide) 0 ⟨g1, 0, none⟩ q rfl rfl ?cD rfl HQ.out (Nat.zero_le _) ?cF (rawString HR5.out) ?cY HB5.out ?_; (case cD => first | rfl | simp); (case cF => have := (Kd.R_reads' HR5.out).2.1; omega); (case cY => have h9 := rawString_C (Kd.C_take (m := q) (Kd.R_reads' (Kd.R_grown HR1.out HG5.out (fun k hk => by simp))).2.2 hq1); rw [List.length_take, Nat.min_eq_left hq1] at h9; exact h9); intro w6 hr hB hg; rw [HQ.out, sized_map] at hr; have hr2 := rawString_back hr; rw [List.length_map, sized_len] at hr2; have HR6 := Aside0.mk hr2; have HB6 := Aside0.mk hB; have HG6 := Aside0.mk hg; have hne6 : g ≠ g5 := (by have := HAT5.out; omega); have x0' := HG6.out.cell x0 (by simp; exact hne6); have x1' := HG6.out.cell x1 (by simp; exact hne6); have HNE6 := Aside0.mk hne6; have HXX := Aside0.mk (And.intro x0' x1'); have HRR6 := Aside0.mk (Kd.R_mono (ok' := fun _ => True) (Kd.R_grown (Kd.R_tight rfl (Kd.R_grown HRR.out HG5.out (fun k hk => by simp))) HG6.out (fun k hk he => hne6 (by have h1 := hk; rw [he] at h1; simp [Value.ownBlock] at h1; exact h1.symm))) (fun _ _ => trivial)); clear hr hr2 hB hg x0 x1 hne6)
        | ((with_reducible refine gate_store (t := 47) (p := 46) (v := .tmp 44) rfl ?_); refine Kd.R_store (Kd.raw 2) (w0 := w) w.heap.size rfl rfl 47 (.tmp 46) (.tmp 44) rfl 49 (g := g) (n := l.length) (cap := c3) (kk : Int) 1 rows [.int .i64 y.f0, .slice (some ⟨g5, 0, none⟩) n.toNat c5] (.slice (some ⟨g5, 0, none⟩) n.toNat c5) [.slice (some ⟨g5, 0, none⟩) n.toNat c5] [.int .i64 y.f0, .slice (some ⟨g1, 0, none⟩) y.f1.length c1] (fun _ => True) (fun _ => False) rfl ?sO rfl rfl (by kernel_rfl) ?sU HRR6.out (by omega) (by omega) rfl ?sC (Nat.le_refl 2) ?sM (fun _ h => h.elim) HB6.out ?_; (case sO => rfl); (case sU => intro q hq; rw [List.mem_singleton.1 hq]; rfl); (case sC => exact two_cells HXX.out.1 HXX.out.2); (case sM => exact ⟨rfl, rfl, fun u hu => by simp only [List.take, List.drop, List.length, List.cons_append, List.nil_append, List.mem_cons, List.not_mem_nil, or_false] at hu; rcases hu with rfl | rfl <;> rfl⟩); intro w7 ho hb hgr; have HO7 := Aside0.mk ho; have HB7 := Aside0.mk hb; have HG7 := Aside0.mk hgr; clear ho hb hgr))
      refine bodyPost_ret (v := .tuple #[.slice (some ⟨g, 0, none⟩) l.length c3, .int .i64 0]) ?_ rfl ⟨_, rfl, ?_, HB7.out⟩
      · simp [results, Try.results64, go_sem]
      · rw [HRES.out]
        have hO := HO7.out
        rw [Int.toNat_natCast] at hO
        have hsz5 := HG5.out.size
        have hsz6 := HG6.out.size
        have old : ∀ (j : Nat) x cc, l[j]? = some x → rows[j]? = some cc → k49.M w7 w.heap.size (fun k => ((some k ≠ (Value.slice (some ⟨g5, 0, none⟩) n.toNat c5).ownBlock) ∧ f k = j) ∧ some k ≠ (Value.slice (some ⟨g, 0, none⟩) l.length c3).ownBlock) x cc := fun j x cc h1 h2 => by
          have m1 := Kd.M_bound' (HM.out j x cc h1 h2)
          refine k49.M_mono (fun k hk => ?_) (Kd.M_step (w1 := w7) m1 (fun k hk hlt => ?_))
          · refine ⟨⟨?_, hk.1.2⟩, hk.1.1.2⟩
            intro he
            simp [Value.ownBlock] at he
            have := hk.2
            have := HAT5.out
            omega
          · have hkg : k ≠ g := fun he => hk.1.1.2 (by rw [he]; rfl)
            have hk5 : k ≠ g5 := by have := hk.2; have := HAT5.out; omega
            rw [HG7.out.block k (by omega) (fun he => by injection he with he; exact hkg he), HG6.out.block k (by omega) (fun he => by injection he with he; exact hk5 he)]
            exact HG5.out.block k hlt (by simp)
        refine S_of_rawg (fun k => if some k = (Value.slice (some ⟨g5, 0, none⟩) n.toNat c5).ownBlock then kk else f k) (by rw [List.length_set, List.length_set]; exact HL.out) hO (fun _ _ => trivial) (fun j x cc hx hc => ?_)
        by_cases hj : j = kk
        · subst hj
          rw [List.getElem?_set_self hp] at hx
          rw [List.getElem?_set_self (by have := HL.out; omega)] at hc
          obtain rfl := Option.some.inj hx
          obtain rfl := Option.some.inj hc
          have r7 := Kd.R_step (w1 := w7) (Kd.R_tight rfl HR6.out) (fun k hk hlt => HG7.out.block k hlt (fun he => by
            have h1 := hk; rw [he] at h1; simp [Value.ownBlock] at h1; exact HNE6.out h1))
          refine k49.M_mono (fun k hk => ⟨⟨trivial, ?_⟩, by rw [if_pos hk]⟩) (k49_mkM _ _ _ (⟨y.f0, sizedB y.f1 n.toNat⟩ : S49) r7)
          intro he
          have h1 := hk; rw [he] at h1; simp [Value.ownBlock] at h1; exact HNE6.out h1
        · rw [List.getElem?_set_ne (fun he => hj he.symm)] at hx hc
          exact k49.M_mono (fun k hk => ⟨⟨trivial, hk.2⟩, by rw [if_neg hk.1.1]; exact hk.1.2⟩) (old j x cc hx hc)
set_option maxRecDepth 100000 in
set_option maxHeartbeats 2000000 in
theorem resize_no (A : Option Addr) (c : Nat) (l : List S49) (a n : Int) (w : World) (hr : Kd.C k49 w A l.length l) (hc : l.length ≤ c) (h : ¬ (rightV l = true ∧ sizeB n = true)) :
    Calls Try.prog 64 #[.slice A l.length c, .int .i64 a, .int .i64 n] w fun e w' => e = .returned (.tuple #[.slice none 0 0, .int .i64 1]) ∧ Below w.heap.size w w' := by
  have hR := vols_Right.calls A c l _ w hr hc rfl
  have hz := size_of n _ rfl
  clear hr
  cases h1 : rightV l with
  | false =>
    rw [h1] at hR
    go_enter Try.func64, Try.ntmps64
    go_wp2_with (go_at_call 66; refine hR.mono ?_; rintro e w2 ⟨rfl, hb⟩; have HB := Aside0.mk hb; clear hb)
    refine bodyPost_ret (v := .tuple #[.slice none 0 0, .int .i64 1]) ?_ rfl ⟨rfl, HB.out⟩
    simp [results, Try.results64, go_sem]
  | true =>
    rw [h1] at hR
    have h4 : sizeB n = false := by cases hq : sizeB n with
      | false => rfl
      | true => exact absurd ⟨h1, hq⟩ h
    rw [h4] at hz
    clear h h1 h4
    go_enter Try.func64, Try.ntmps64
    go_wp2_with (first
      | (go_at_call 66; refine hR.mono ?_; rintro e w2 ⟨rfl, hb⟩; have HB := Aside0.mk hb; clear hb)
      | (go_at_call 98; refine (hz _).mono ?_; rintro e w2 ⟨rfl, ⟨m, rfl⟩⟩))
    refine bodyPost_ret (v := .tuple #[.slice none 0 0, .int .i64 1]) ?_ rfl ⟨rfl, pw_below_drewN HB.out _⟩
    simp [results, Try.results64, go_sem]
theorem vols_Resize.calls (A0 : Option Addr) (c0 : Nat) (l0 : List S49) (a1 a2 : Int) (r1 : List S49) (r2 : Int) (w : World) (hr0 : Kd.C k49 w A0 l0.length l0) (hc0 : l0.length ≤ c0) (h : vols_Resize.f l0 a1 a2 = some (r1, r2)) :
    Calls Try.prog 64 #[.slice A0 l0.length c0, .int .i64 a1, .int .i64 a2] w fun e w' => ∃ v0_ : Value, e = .returned (.tuple #[v0_, .int .i64 r2]) ∧ Kd.S k49 49 w' w.heap.size (fun _ => True) v0_ r1 ∧ Below w.heap.size w w' := by
  unfold vols_Resize.f at h
  injection h with h
  by_cases h1 : rightV l0 = true ∧ sizeB a2 = true
  · rw [if_pos h1] at h
    obtain ⟨g1, g2⟩ := h1
    have hA := (asc_of g1).1
    cases hb : hasV l0 a1 with
    | true =>
      rw [hb, if_pos rfl] at h
      injection h with e1 e2
      subst e1; subst e2
      obtain ⟨h2, h3⟩ := has_lt hA hb
      exact resize_some A0 c0 l0 a1 a2 w hr0 hc0 g1 g2 _ h2 h3 (fun k hk => by have := hA.2 k _ hk h2; omega)
    | false =>
      rw [hb, if_neg (by simp)] at h
      injection h with e1 e2
      subst e1; subst e2
      refine (resize_none A0 c0 l0 a1 a2 w hr0 hc0 g1 g2 (fun k hk he => ?_)).mono ?_
      · unfold hasV at hb
        rw [List.any_eq_false] at hb
        exact hb _ (List.getElem_mem hk) (by rw [← rd49 l0 k hk]; exact beq_iff_eq.2 he)
      · rintro e w' ⟨rfl, hb⟩
        exact ⟨_, rfl, Kd.S_nil _ _ _ _ _, hb⟩
  · rw [if_neg h1] at h
    injection h with e1 e2
    subst e1; subst e2
    refine (resize_no A0 c0 l0 a1 a2 w hr0 hc0 h1).mono ?_
    rintro e w' ⟨rfl, hb⟩
    exact ⟨_, rfl, Kd.S_nil _ _ _ _ _, hb⟩
end Go.Proofs.Ythdhkoeaadahaaa.P
