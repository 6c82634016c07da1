/- What taking, doubling and turning come to; the reference's turned text; bytes turned twice; lists compared. -/
import Derived.Test.YtlkfmmjoiadoiaaWiresCore
import Derived.Test.YtlkfmmjoiadoiaaETurn
import Derived.Test.YtlkfmmjoiadoiaaPx50
import Derived.Test.YtlkfmmjoiadoiaaPx51
namespace Go.Proofs.Ytlkfmmjoiadoiaa.WiresCore
open Go.RowKit Go.Proofs.Ytlkfmmjoiadoiaa.P Go.Proofs.YtlkfmmjoiadoiaaW.PrintWords Go.Proofs.YtlkfmmjoiadoiaaW.PrintLast
set_option linter.unusedVariables false

def atP (l : List S24) (a : Int) : Int := if rightP l = true then (if a < 0 then 8 else if a ≥ (l.length : Int) then 8 else 0) else 1
theorem at_f (l : List S24) (a : Int) : wires_at.f l a = some (atP l a) := by
  unfold wires_at.f atP
  show (wires_Right.f l).bind _ = _
  rw [show wires_Right.f l = some (rightP l) from rfl, Option.bind_some]
  cases h : rightP l with
  | false => simp
  | true =>
    simp only [if_true]
    by_cases h1 : a < 0
    · simp [h1]
    · by_cases h2 : a ≥ (l.length : Int)
      · simp [h1, h2]
      · simp [h1, h2]
def takeP (l : List S24) (a : Int) : List S24 × Int × ByteArray × Int := if atP l a = 0 then (l.take a.toNat ++ l.drop (a.toNat + 1), (rd_T24 l a).f0, (rd_T24 l a).f1, 0) else ([], 0, ⟨#[]⟩, atP l a)
theorem take_ev (l : List S24) (a : Int) : Ev (fun _ => wires_Take.f l a) (takeP l a) := by
  refine Ev.const ?_
  unfold wires_Take.f takeP
  rw [at_f, Option.bind_some]
  by_cases h : atP l a = 0 <;> simp [h]
theorem atP_zero {l : List S24} {a : Int} (h : atP l a = 0) : rightP l = true ∧ 0 ≤ a ∧ a < (l.length : Int) := by
  unfold atP at h
  by_cases h0 : rightP l = true
  · rw [if_pos h0] at h
    by_cases h1 : a < 0
    · rw [if_pos h1] at h; simp at h
    · rw [if_neg h1] at h
      by_cases h2 : a ≥ (l.length : Int)
      · rw [if_pos h2] at h; simp at h
      · exact ⟨h0, by omega, by omega⟩
  · rw [if_neg h0] at h; simp at h
def twiceP (l : List S24) (a : Int) : List S24 × Int := if atP l a = 0 then sendS l (rd_T24 l a) else ([], atP l a)
theorem twice_ev (l : List S24) (a : Int) : Ev (fun k => wires_Twice.f k l a) (twiceP l a) := by
  unfold wires_Twice.f twiceP
  refine Ev.bind (Ev.const (at_f l a)) ?_
  by_cases h : atP l a = 0
  · obtain ⟨_, h1, h2⟩ := atP_zero h
    rw [if_pos h]
    exact Ev.pos h (Ev.pos h1 (Ev.pos h2 (Ev.bind (send_ev l (rd_T24 l a)) (Ev.now _))))
  · rw [if_neg h]
    exact Ev.neg h (Ev.now _)
def turnP (l : List S24) (a p b : Int) : List S24 × Int :=
  if atP l a = 0 then (if p < 0 then ([], 1) else if p ≥ ((rd_T24 l a).f1.size : Int) then ([], 1) else (l.set a.toNat ⟨(rd_T24 l a).f0, turnedS (rd_T24 l a).f1 p b⟩, 0)) else ([], atP l a)
theorem turn_ev (l : List S24) (a p b : Int) : Ev (fun _ => wires_Turn.f l a p b) (turnP l a p b) := by
  refine Ev.const ?_
  unfold wires_Turn.f turnP
  rw [at_f, Option.bind_some]
  by_cases h : atP l a = 0
  · rw [if_pos h, if_pos h]
    by_cases h1 : p < 0
    · rw [if_pos h1, if_pos h1]
    · rw [if_neg h1, if_neg h1]
      by_cases h2 : p ≥ ((rd_T24 l a).f1.size : Int)
      · rw [if_pos h2, if_pos h2]
      · rw [if_neg h2, if_neg h2]
  · rw [if_neg h, if_neg h]

theorem ofNums_bytes (s : ByteArray) : (bytesOf s).map (fun n : Int => UInt8.ofNat n.toNat) = s.data.toList := by
  unfold bytesOf
  rw [List.map_map]
  conv => rhs; rw [← List.map_id s.data.toList]
  refine List.map_congr_left fun b _ => ?_
  simp
theorem turnedS_data (s : ByteArray) (p b : Int) : (turnedS s p b).data.toList = s.data.toList.set p.toNat (UInt8.ofNat (Go.bits .xor .u8 (bt s p) b).toNat) := by
  unfold turnedS
  rw [strOfNums_data, List.map_set, ofNums_bytes]
theorem turnedS_size (s : ByteArray) (p b : Int) : (turnedS s p b).size = s.size := by
  unfold turnedS
  rw [strOfNums_size, List.length_set, bytesOf_length]
theorem turned_eq (s : ByteArray) (p b : Int) (h0 : 0 ≤ p) (h1 : p < (s.size : Int)) :
    (s.extract 0 p.toNat ++ strOfNums [Go.bits .xor .u8 (bt s p) b]) ++ s.extract (p.toNat + 1) s.size = turnedS s p b := by
  refine ByteArray.ext (Array.ext' ?_)
  rw [turnedS_data]
  have hl : s.data.toList.length = s.size := data_length s
  have hp : p.toNat < s.data.toList.length := by omega
  rw [List.set_eq_take_append_cons_drop, if_pos hp]
  simp only [ByteArray.data_append, ByteArray.data_extract, Array.toList_append, Array.toList_extract, strOfNums_data, List.map_cons, List.map_nil, List.extract_eq_take_drop, List.drop_zero, Nat.sub_zero, List.append_assoc, List.singleton_append]
  rw [List.take_of_length_le (l := s.data.toList.drop (p.toNat + 1)) (by rw [List.length_drop]; omega)]
theorem turned_ev (s : ByteArray) (p b : Int) (h0 : 0 ≤ p) (h1 : p < (s.size : Int)) (hs : s.size ≤ 10000) : Ev (fun _ => counterfoilref16_Turned.f s p b) (turnedS s p b) := by
  refine Ev.const ?_
  have ew : wrap64 (p + 1) = p + 1 := by unfold wrap64; omega
  have e1 : (s.extract 0 p.toNat).size = p.toNat := by simp; omega
  have e2 : (strOfNums [Go.bits .xor .u8 (bt s p) b]).size = 1 := by rw [strOfNums_size]; rfl
  have e3 : (p + 1).toNat = p.toNat + 1 := by omega
  have e4 : (s.extract (p.toNat + 1) s.size).size = s.size - (p.toNat + 1) := by simp
  unfold counterfoilref16_Turned.f
  rw [if_pos h0, if_pos (by omega), if_pos h1, Option.bind_some, if_pos (by rw [e1, e2]; omega), ew, e3, if_pos (by omega), if_pos (by omega), if_pos (by rw [ByteArray.size_append, e1, e2, e4]; omega), turned_eq s p b h0 h1]

/-- Two lists compared. -/
theorem same_any (l : List S24) (m : List S35) (hb : l.length ≤ 1000) : ∃ t, Ev (fun k => counterfoillaw16_same.f k l m) t ∧ (t = true ↔ l.map toR = m) := by
  have loop : ∀ (d i : Nat), i + d = l.length → m.length = l.length → ∃ t, Ev (fun k => counterfoillaw16_same.l0 k l m (l.length : Int) (i : Int)) t ∧ (t = true ↔ (l.drop i).map toR = m.drop i) := by
    intro d
    induction d with
    | zero =>
      intro i hi hm
      refine ⟨true, Ev.succ ?_, ?_⟩
      · simp only [counterfoillaw16_same.l0]
        exact Ev.neg (by omega) (Ev.now _)
      · rw [List.drop_eq_nil_of_le (by omega), List.drop_eq_nil_of_le (by omega)]
        simp
    | succ d ih =>
      intro i hi hm
      obtain ⟨t, ht, hiff⟩ := ih (i + 1) (by omega) hm
      have hd : (l.drop i).map toR = m.drop i ↔ toR (rd_T24 l (i : Int)) = rd_T35 m (i : Int) ∧ (l.drop (i + 1)).map toR = m.drop (i + 1) := by
        rw [drop24 l (i := i) (by omega), drop35 m (i := i) (by omega), List.map_cons, List.cons.injEq]
      by_cases h1 : (rd_T24 l (i : Int)).f0 = (rd_T35 m (i : Int)).f0
      · by_cases h2 : (rd_T24 l (i : Int)).f1.toList = (rd_T35 m (i : Int)).f1.toList
        · refine ⟨t, Ev.succ ?_, ?_⟩
          · simp only [counterfoillaw16_same.l0]
            rw [wrap_succ (by omega)]
            exact Ev.pos (by omega) (Ev.pos (by omega) (Ev.pos (by omega) (Ev.pos (by omega) (Ev.pos h1 (Ev.pos h2 ht)))))
          · rw [hiff, hd]
            have h3 : (rd_T24 l (i : Int)).f1 = (rd_T35 m (i : Int)).f1 := by
              refine ByteArray.ext (Array.ext' ?_)
              rw [← ByteArray.toList_eq, ← ByteArray.toList_eq]; exact h2
            constructor
            · intro h
              exact ⟨by unfold toR; rw [h1, h3], h⟩
            · exact fun h => h.2
        · refine ⟨false, Ev.succ ?_, ?_⟩
          · simp only [counterfoillaw16_same.l0]
            exact Ev.pos (by omega) (Ev.pos (by omega) (Ev.pos (by omega) (Ev.pos (by omega) (Ev.pos h1 (Ev.neg h2 (Ev.now _))))))
          · rw [hd]
            refine ⟨fun h => by simp at h, fun h => absurd ?_ h2⟩
            have := h.1
            rw [← this]; rfl
      · refine ⟨false, Ev.succ ?_, ?_⟩
        · simp only [counterfoillaw16_same.l0]
          exact Ev.pos (by omega) (Ev.pos (by omega) (Ev.pos (by omega) (Ev.pos (by omega) (Ev.neg h1 (Ev.now _)))))
        · rw [hd]
          refine ⟨fun h => by simp at h, fun h => absurd ?_ h1⟩
          have := h.1
          rw [← this]; rfl
  unfold counterfoillaw16_same.f
  by_cases h : (l.length : Int) = (m.length : Int)
  · obtain ⟨t, ht, hiff⟩ := loop l.length 0 (by omega) (by omega)
    exact ⟨t, Ev.pos h ht, by simpa using hiff⟩
  · refine ⟨false, Ev.neg h (Ev.now _), ⟨fun h => by simp at h, fun e => absurd ?_ h⟩⟩
    rw [← e]; simp

/-- What a right list's packets are. -/
theorem right_at {l : List S24} (h : rightP l = true) {i : Nat} (hi : i < l.length) : siteB (rd_T24 l (i : Int)).f0 = true ∧ (rd_T24 l (i : Int)).f1.size ≤ 4103 := by
  unfold rightP at h
  have h2 := (Bool.and_eq_true_iff.1 h).2
  rw [Bool.not_eq_true', List.any_eq_false] at h2
  have := h2 (rd_T24 l (i : Int)) (by rw [rd_get l i hi]; exact List.getElem_mem hi)
  unfold bad24 at this
  simp at this
  exact ⟨this.1, by omega⟩
theorem map_set_put (l : List S24) {i : Nat} (hi : i < l.length) (y : S24) : (l.set i y).map toR = (l.map toR).take i ++ ([toR y] ++ (l.map toR).drop (i + 1)) := by
  rw [List.map_set, List.set_eq_take_append_cons_drop, if_pos (by simpa using hi)]
  rfl

/-! Bytes turned twice. -/
theorem xor_nat (x y : Nat) (hx : x < 256) (hy : y < 256) : Go.bits .xor .u8 (x : Int) (y : Int) = ((x ^^^ y : Nat) : Int) ∧ x ^^^ y < 256 := by
  have hlt : x ^^^ y < 2 ^ 8 := Nat.xor_lt_two_pow (by omega) (by omega)
  refine ⟨?_, by omega⟩
  have hx' : x % 2 ^ IntKind.u8.bits = x := Nat.mod_eq_of_lt hx
  have hy' : y % 2 ^ IntKind.u8.bits = y := Nat.mod_eq_of_lt hy
  simp only [bits, BitVec.ofInt_natCast, BitVec.toNat_xor, BitVec.toNat_ofNat, hx', hy']
  exact wraps_u8 _ (Int.natCast_nonneg _) (by exact_mod_cast hlt)
theorem bt_nat (s : ByteArray) (p : Int) : ∃ x : Nat, bt s p = (x : Int) ∧ x < 256 := by
  obtain ⟨h1, h2⟩ := bt_range s p
  exact ⟨(bt s p).toNat, by omega, by omega⟩
theorem bt_list (s : ByteArray) {p : Int} (h0 : 0 ≤ p) (h1 : p < (s.size : Int)) : s.data.toList[p.toNat]? = some (UInt8.ofNat (bt s p).toNat) := by
  have hl : s.data.toList.length = s.size := data_length s
  have hp : p.toNat < s.data.toList.length := by omega
  rw [List.getElem?_eq_getElem hp, ← rd_bytesOf]
  unfold rd bytesOf
  rw [List.getD_eq_getElem?_getD, List.getElem?_map, List.getElem?_eq_getElem hp]
  simp
theorem bt_turned (s : ByteArray) (p b : Int) (h0 : 0 ≤ p) (h1 : p < (s.size : Int)) (y : Nat) (hb : b = (y : Int)) (hy : y < 256) : bt (turnedS s p b) p = Go.bits .xor .u8 (bt s p) b := by
  obtain ⟨x, hx, hx2⟩ := bt_nat s p
  obtain ⟨e, hlt⟩ := xor_nat x y hx2 hy
  have hsz := turnedS_size s p b
  have hl : (turnedS s p b).data.toList.length = s.size := by rw [data_length, hsz]
  rw [← rd_bytesOf]
  unfold rd bytesOf
  rw [turnedS_data, List.getD_eq_getElem?_getD, List.getElem?_map, List.getElem?_set_self (by rw [data_length]; omega), hx, hb, e]
  simp
  rw [Nat.mod_eq_of_lt hx2, Nat.mod_eq_of_lt hy]
theorem turned_twice (s : ByteArray) (p b : Int) (h0 : 0 ≤ p) (h1 : p < (s.size : Int)) (y : Nat) (hb : b = (y : Int)) (hy : y < 256) : turnedS (turnedS s p b) p b = s := by
  refine ByteArray.ext (Array.ext' ?_)
  rw [turnedS_data, turnedS_data, bt_turned s p b h0 h1 y hb hy, List.set_set]
  obtain ⟨x, hx, hx2⟩ := bt_nat s p
  obtain ⟨e, hlt⟩ := xor_nat x y hx2 hy
  obtain ⟨e2, _⟩ := xor_nat (x ^^^ y) y hlt hy
  have hg := bt_list s h0 h1
  rw [hx, hb, e, e2, Nat.xor_assoc, Nat.xor_self, Nat.xor_zero]
  rw [hx] at hg
  have hl : s.data.toList.length = s.size := data_length s
  have hp : p.toNat < s.data.toList.length := by omega
  rw [List.getElem?_eq_getElem hp] at hg
  injection hg with hg
  rw [← hg]
  exact List.set_getElem_self hp
theorem turned_same (s : ByteArray) (p b : Int) (h0 : 0 ≤ p) (h1 : p < (s.size : Int)) (y : Nat) (hb : b = (y : Int)) (hy : y < 256) : turnedS s p b = s ↔ b = 0 := by
  obtain ⟨x, hx, hx2⟩ := bt_nat s p
  obtain ⟨e, hlt⟩ := xor_nat x y hx2 hy
  constructor
  · intro h
    have h2 := bt_turned s p b h0 h1 y hb hy
    rw [h, hx, hb, e] at h2
    have h3 : x = x ^^^ y := by omega
    have h4 : y = 0 := by
      have := congrArg (x ^^^ ·) h3
      simp only [Nat.xor_self] at this
      rw [← Nat.xor_assoc, Nat.xor_self, Nat.zero_xor] at this
      omega
    omega
  · intro h
    refine ByteArray.ext (Array.ext' ?_)
    have h4 : y = 0 := by omega
    subst h4
    have hg := bt_list s h0 h1
    rw [turnedS_data, hx, hb, e, Nat.xor_zero]
    rw [hx] at hg
    have hl : s.data.toList.length = s.size := data_length s
    have hp : p.toNat < s.data.toList.length := by omega
    rw [List.getElem?_eq_getElem hp] at hg
    injection hg with hg
    rw [Int.toNat_natCast] at hg ⊢
    rw [← hg]
    exact List.set_getElem_self hp
end Go.Proofs.Ytlkfmmjoiadoiaa.WiresCore
