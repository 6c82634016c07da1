/- The contract of wires.Turn. -/
import Derived.Test.YtlkfmmjoiadoiaaETake
namespace Go.Proofs.Ytlkfmmjoiadoiaa.P
open Go.RowKit Go.Proofs.YtlkfmmjoiadoiaaW.PrintWords Go.Proofs.YtlkfmmjoiadoiaaW.PrintLast Go.Proofs.YtlkfmmjoiadoiaaW.PrintMore
attribute [local go_sem] Oper.semAt_some
set_option linter.unusedVariables false
set_option linter.unusedSimpArgs false

/-- A text, one byte of it turned. -/
def turnedS (s : ByteArray) (p b : Int) : ByteArray := strOfNums ((bytesOf s).set p.toNat (Go.bits .xor .u8 (bt s p) b))
def wires_Turn.f (l : List S24) (a p b : Int) : Option (List S24 × Int) :=
  (wires_at.f l a).bind fun t => if t = 0 then (if p < 0 then some ([], 1) else if p ≥ ((rd_T24 l a).f1.size : Int) then some ([], 1) else some (l.set a.toNat ⟨(rd_T24 l a).f0, turnedS (rd_T24 l a).f1 p b⟩, 0)) else some ([], t)

theorem bytesWorld_free (w : World) (e : TypeId) (s : ByteArray) (j : Nat) (hj : j < s.size) : (Lib.bytesWorld w e s).frozen? ⟨w.heap.size, j, none⟩ = false := by
  unfold World.frozen?
  rw [show (Lib.bytesWorld w e s).heap[w.heap.size]? = _ from Lib.bytesWorld_at_new w e s]
  have h : j < (Lib.bytesCells w e s).size := by
    unfold Lib.bytesCells
    simp
    have : s.data.size = s.size := rfl
    omega
  simp
  omega
theorem bytesWorld_get (w : World) (e : TypeId) (s : ByteArray) (p : Int) (h0 : 0 ≤ p) (hp : p < (s.size : Int)) : (Lib.bytesWorld w e s).cell? ⟨w.heap.size, p.toNat, none⟩ = some (.int .u8 (bt s p)) := by
  have h : p.toNat < s.size := by omega
  rw [Lib.bytesWorld_cell w e s p.toNat h, ← rd_bytesOf]
  have h' : p.toNat < s.data.toList.length := by rw [data_length]; exact h
  simp [rd, bytesOf, List.getD_eq_getElem?_getD, List.getElem?_eq_getElem h', h']
theorem bytes_turned (w : World) (e : TypeId) (s : ByteArray) (p x : Int) (h0 : 0 ≤ p) (hp : p < (s.size : Int)) (hs : s.size ≤ 9223372036854775807) :
    ReadsInt ((Lib.bytesWorld w e s).setCell ⟨w.heap.size, p.toNat, none⟩ (.int .u8 x)) .u8 (some ⟨w.heap.size, 0, none⟩) s.size ((bytesOf s).set p.toNat x) := by
  have hr := bytes_reads w e s hs
  refine ⟨by rw [List.length_set]; exact bytesOf_length s, hs, fun _ => ⟨_, rfl, fun j hj => ?_⟩⟩
  obtain ⟨ad, he, hc⟩ := hr.2.2 (by omega)
  injection he with he
  subst he
  have h1 := hc j hj
  rw [add_plain] at h1 ⊢
  by_cases e : j = p.toNat
  · subst e
    rw [World.cell?_setCell_same _ _ _ h1]
    have : p.toNat < (bytesOf s).length := by rw [bytesOf_length]; exact hj
    simp [List.getD_eq_getElem?_getD, this]
  · rw [World.cell?_setCell_other _ _ _ _ (by intro h; injection h with _ h; exact e h.symm), h1]
    simp [List.getD_eq_getElem?_getD, List.getElem?_set, Ne.symm e]
theorem R_slice2 {α : Type} {d : Kd α} {e base : Nat} {ok : Nat → Prop} {w : World} {v : Value} {xs : List α} (h : d.R e w base ok v xs) (hn : 0 < xs.length) : ∃ (g c : Nat), v = .slice (some ⟨g, 0, none⟩) xs.length c := by
  obtain ⟨ad, c, hv⟩ := Kd.R_slice1 h hn
  obtain ⟨_, inner, hown, _⟩ := h
  rcases hown.2 with ⟨h2, _⟩ | ⟨g, cap, cur, h2, _⟩
  · rw [hv] at h2; cases h2
  · exact ⟨g, cap, h2⟩
theorem cells24 {w : World} {g n cap base : Nat} {ok : Nat → Prop} {xs : List S24} (HO : Kd.R k24 24 w base ok (.slice (some ⟨g, 0, none⟩) n cap) xs) (i : Int) (h0 : 0 ≤ i) (hi : i < n) :
    ∀ j u, ([.int .i64 (rd_T24 xs i).f0, .string (rd_T24 xs i).f1] : List Value)[j]? = some u → w.cell? ⟨g, i.toNat * 2 + j, none⟩ = some u := by
  have hrr := Kd.R_reads' HO
  obtain ⟨ad, c, e, _, hK, hc⟩ := Kd.C_get hrr.2.2 z24 i h0 (by omega)
  obtain rfl := k24_open hK
  injection e with e
  subst e
  intro j u hu
  have := hc j u hu
  rw [add_plain] at this
  exact this

theorem frozen24 {w : World} {g n cap base : Nat} {ok : Nat → Prop} {xs : List S24} (HO : Kd.R k24 24 w base ok (.slice (some ⟨g, 0, none⟩) n cap) xs) (o : Nat) : w.frozen? ⟨g, o, none⟩ = false := by
  obtain ⟨_, inner, hown, _⟩ := HO
  rcases hown.2 with ⟨hv, _⟩ | ⟨g', cap', cur, hv, _, hh, _⟩
  · cases hv
  · injection hv with ha _ hc
    injection ha with ha
    injection ha with hg'
    subst hg'
    exact blk_frozen hh _
set_option maxRecDepth 100000 in
set_option maxHeartbeats 4000000 in
theorem turn_no (A : Option Addr) (c : Nat) (l : List S24) (a p b t : Int) (w : World) (hr : Kd.C k24 w A l.length l) (hc : l.length ≤ c) (ht : wires_at.f l a = some t) (h0 : t ≠ 0) :
    Calls Try.prog 33 #[.slice A l.length c, .int .i64 a, .int .i64 p, .int .u8 b] w fun e w' => e = .returned (.tuple #[.slice none 0 0, .int .i64 t]) ∧ Below w.heap.size w w' := by
  have hb0 : (t != 0) = true := bne_iff_ne.mpr h0
  have hat := wires_at.calls A c l a t w hr hc ht
  clear hr
  go_enter Try.func33, Try.ntmps33
  go_wp2_with (go_at_call 49; refine hat.mono ?_; rintro e w2 ⟨rfl, hb⟩)
  refine bodyPost_ret (v := .tuple #[.slice none 0 0, .int .i64 t]) ?_ rfl ⟨rfl, hb⟩
  simp [results, Try.results33, go_sem]

set_option maxRecDepth 100000 in
set_option maxHeartbeats 4000000 in
theorem turn_arg (A : Option Addr) (c : Nat) (l : List S24) (a p b : Int) (w : World) (hr : Kd.C k24 w A l.length l) (hc : l.length ≤ c) (ht : wires_at.f l a = some 0) (hp : p < 0 ∨ p ≥ ((rd_T24 l a).f1.size : Int)) :
    Calls Try.prog 33 #[.slice A l.length c, .int .i64 a, .int .i64 p, .int .u8 b] w fun e w' => e = .returned (.tuple #[.slice none 0 0, .int .i64 1]) ∧ Below w.heap.size w w' := by
  have hu24 := Try.underlying24
  have hu78 := Try.underlying78
  obtain ⟨hl, ha0, ha1⟩ := at_zero ht
  have hat := wires_at.calls A c l a 0 w hr hc ht
  obtain ⟨ad, rfl, c0, c1⟩ := at_T24 hr a ha0 ha1
  clear hr
  generalize (rd_T24 l a).f1 = s at c1 hp
  have kb : ∀ W : World, (convert 9 78 (.string s)).run Try.prog W = .ok (.slice (some ⟨W.heap.size, 0, none⟩) s.size (grownCap W s.size 0 5)) (Lib.bytesWorld W 5 s) := fun W => print_bytes 9 78 5 Try.underlying9 Try.underlying78 Try.underlying5 s W
  have hB1 := World.block_lt_of_cell? w _ c1
  by_cases h0 : p < 0
  · have d0 : decide (p < 0) = true := decide_eq_true h0
    go_enter Try.func33, Try.ntmps33
    go_wp2_with (go_at_call 49; refine hat.mono ?_; rintro e w2 ⟨rfl, hb⟩; have f1 := (hb.cell hB1).trans c1; have hB2 := Aside0.mk (bytes_below hb hb.size 5 s); clear hb)
    refine bodyPost_ret (v := .tuple #[.slice none 0 0, .int .i64 1]) ?_ rfl ⟨rfl, hB2.out⟩
    simp [results, Try.results33, go_sem]
  · have d0 : decide (p < 0) = false := decide_eq_false h0
    have h1 : p ≥ (s.size : Int) := hp.resolve_left h0
    have d1 : decide (p ≥ (s.size : Int)) = true := decide_eq_true h1
    have d2 : decide ((s.size : Int) ≤ p) = true := decide_eq_true h1
    go_enter Try.func33, Try.ntmps33
    go_wp2_with (go_at_call 49; refine hat.mono ?_; rintro e w2 ⟨rfl, hb⟩; have f1 := (hb.cell hB1).trans c1; have hB2 := Aside0.mk (bytes_below hb hb.size 5 s); clear hb)
    refine bodyPost_ret (v := .tuple #[.slice none 0 0, .int .i64 1]) ?_ rfl ⟨rfl, hB2.out⟩
    simp [results, Try.results33, go_sem]

set_option maxRecDepth 100000 in
set_option maxHeartbeats 4000000 in
theorem turn_yes (A : Option Addr) (c : Nat) (l : List S24) (a p b : Int) (w : World) (hr : Kd.C k24 w A l.length l) (hc : l.length ≤ c) (ht : wires_at.f l a = some 0) (hp0 : 0 ≤ p) (hp1 : p < ((rd_T24 l a).f1.size : Int)) (hz : (rd_T24 l a).f1.size ≤ 9223372036854775807) :
    Calls Try.prog 33 #[.slice A l.length c, .int .i64 a, .int .i64 p, .int .u8 b] w fun e w' => ∃ v : Value, e = .returned (.tuple #[v, .int .i64 0]) ∧ Kd.R k24 24 w' w.heap.size (fun _ => True) v (l.set a.toNat ⟨(rd_T24 l a).f0, turnedS (rd_T24 l a).f1 p b⟩) ∧ Below w.heap.size w w' := by
  have hu24 := Try.underlying24
  have hu78 := Try.underlying78
  obtain ⟨hl, ha0, ha1⟩ := at_zero ht
  have hat := wires_at.calls A c l a 0 w hr hc ht
  obtain ⟨ad, rfl, c0, c1⟩ := at_T24 hr a ha0 ha1
  have HR := Aside0.mk hr
  clear hr
  obtain ⟨s, hs⟩ : ∃ s, s = (rd_T24 l a).f1 := ⟨_, rfl⟩
  rw [← hs] at c1 hp1 hz ⊢
  have HS := Aside0.mk hs
  clear hs
  have kb : ∀ W : World, (convert 9 78 (.string s)).run Try.prog W = .ok (.slice (some ⟨W.heap.size, 0, none⟩) s.size (grownCap W s.size 0 5)) (Lib.bytesWorld W 5 s) := fun W => print_bytes 9 78 5 Try.underlying9 Try.underlying78 Try.underlying5 s W
  have hB1 := World.block_lt_of_cell? w _ c1
  have d0 : decide (p < 0) = false := decide_eq_false (by omega)
  have d1 : decide (p ≥ (s.size : Int)) = false := decide_eq_false (by omega)
  have d2 : decide ((s.size : Int) ≤ p) = false := decide_eq_false (by omega)
  have hz' : p.toNat < s.size := by omega
  have HCL := Aside0.mk (fun (W : World) (hW : Below w.heap.size w W) => wires_Packet_43.calls (some ad) c l l W (Kd.C_below HR.out hW) hc (by unfold wires_Packet_43.f; rw [if_pos (by omega)]))
  go_enter Try.func33, Try.ntmps33
  go_wp2_with (first
    | (go_at_call 49; refine hat.mono ?_; rintro e w2 ⟨rfl, hb⟩; have f1 := (hb.cell hB1).trans c1; have hB2 := Aside0.mk (bytes_below hb hb.size 5 s); have g1 := bytesWorld_get w2 5 s p hp0 hp1; have g2 := bytesWorld_free w2 5 s p.toNat hz'; have HZ2 := Aside0.mk hb.size; clear hb)
    | (go_at_call 43; refine (HCL.out _ (hB2.out.setCell HZ2.out _)).mono ?_; rintro e w3 ⟨v, rfl, ho, hb⟩; have hbr := (bytes_turned w2 5 s p (Go.bits .xor .u8 (bt s p) b) hp0 hp1 hz).below hb; have ks := string_of_reads (P := Try.prog) (c := grownCap w2 s.size 0 5) Try.underlying78 Try.underlying5 Try.underlying9 hbr; obtain ⟨g, c2, rfl⟩ := R_slice2 ho (by omega); have hce := cells24 ho a ha0 (by omega); have f47 := hce 1 _ rfl; have fr := frozen24 ho; have HB3 := Aside0.mk ((hB2.out.setCell HZ2.out _).trans (hb.mono ((hB2.out.setCell HZ2.out _).size))); have HO := Aside0.mk (Kd.R_lower ho ((hB2.out.setCell HZ2.out _).size)); have HC := Aside0.mk hce; clear ho hb hbr hce g1 g2))
  refine bodyPost_ret (v := .tuple #[.slice (some ⟨g, 0, none⟩) l.length c2, .int .i64 0]) ?_ rfl ⟨_, rfl, ?_, ?_⟩
  · simp [results, Try.results33, go_sem]
  · exact (Kd.R_seg (j := 1) (seg := [.string (turnedS s p b)]) (x' := ⟨(rd_T24 l a).f0, turnedS s p b⟩) (okp := fun _ => False) (c := [.int .i64 (rd_T24 l a).f0, .string (rd_T24 l a).f1]) HO.out a ha0 (by omega) rfl HC.out (show (2 : Nat) ≤ 2 from Nat.le_refl 2) (k24_mkM _ _ _ ⟨(rd_T24 l a).f0, turnedS s p b⟩) (fun _ h => h.elim)).1
  · exact HB3.out.setCell (Kd.R_base HO.out g (by simp [Value.ownBlock])) _

theorem at_small {l : List S24} {a : Int} (h : wires_at.f l a = some 0) : (rd_T24 l a).f1.size ≤ 4103 := by
  obtain ⟨_, h0, h1⟩ := at_zero h
  unfold wires_at.f wires_Right.f at h
  rw [Option.bind_some] at h
  by_cases c : (decide ((l.length : Int) ≤ 256) && !(l.any bad24)) = true
  · have h2 := (Bool.and_eq_true_iff.1 c).2
    rw [Bool.not_eq_true', List.any_eq_false] at h2
    obtain ⟨i, rfl⟩ := Int.eq_ofNat_of_zero_le h0
    have hi : i < l.length := by omega
    have := h2 (rd_T24 l (i : Int)) (by rw [rd_get l i hi]; exact List.getElem_mem hi)
    unfold bad24 at this
    simp at this
    omega
  · rw [if_neg c] at h; simp at h
theorem wires_Turn.calls (A0 : Option Addr) (c0 : Nat) (l0 : List S24) (a1 a2 a3 : Int) (r1 : List S24) (r2 : Int) (w : World) (hr0 : Kd.C k24 w A0 l0.length l0) (hc0 : l0.length ≤ c0) (h : wires_Turn.f l0 a1 a2 a3 = some (r1, r2)) :
    Calls Try.prog 33 #[.slice A0 l0.length c0, .int .i64 a1, .int .i64 a2, .int .u8 a3] w fun e w' => ∃ v0_ : Value, e = .returned (.tuple #[v0_, .int .i64 r2]) ∧ Kd.R k24 24 w' w.heap.size (fun _ => True) v0_ r1 ∧ Below w.heap.size w w' := by
  unfold wires_Turn.f at h
  obtain ⟨t, ht, h⟩ := Option.bind_eq_some_iff.1 h
  by_cases h0 : t = 0
  · rw [if_pos h0] at h
    subst h0
    by_cases h1 : a2 < 0
    · rw [if_pos h1] at h
      injection h with h
      injection h with e1 e2
      subst e1; subst e2
      exact (turn_arg A0 c0 l0 a1 a2 a3 w hr0 hc0 ht (.inl h1)).mono (fun e w' hh => ⟨_, hh.1, Kd.R_nil _ _ _ _ _, hh.2⟩)
    · rw [if_neg h1] at h
      by_cases h2 : a2 ≥ ((rd_T24 l0 a1).f1.size : Int)
      · rw [if_pos h2] at h
        injection h with h
        injection h with e1 e2
        subst e1; subst e2
        exact (turn_arg A0 c0 l0 a1 a2 a3 w hr0 hc0 ht (.inr h2)).mono (fun e w' hh => ⟨_, hh.1, Kd.R_nil _ _ _ _ _, hh.2⟩)
      · rw [if_neg h2] at h
        injection h with h
        injection h with e1 e2
        subst e1; subst e2
        have := at_small ht
        exact turn_yes A0 c0 l0 a1 a2 a3 w hr0 hc0 ht (by omega) (by omega) (by omega)
  · rw [if_neg h0] at h
    injection h with h
    injection h with e1 e2
    subst e1; subst e2
    exact (turn_no A0 c0 l0 a1 a2 a3 t w hr0 hc0 ht h0).mono (fun e w' hh => ⟨_, hh.1, Kd.R_nil _ _ _ _ _, hh.2⟩)
end Go.Proofs.Ytlkfmmjoiadoiaa.P
