-- PACKED by wip/kit/pack.py: what the law's proof uses of EVApply (printed words and texts of this seat)
import Derived.Test.YthdhkoeaadahaaaSEVGet
import Derived.Test.YthdhkoeaadahaaaSPx24
namespace Go.Proofs.Ythdhkoeaadahaaa.P
open Go.RowKit Go.Proofs.YthdhkoeaadahaaaW.PrintWords Go.Proofs.YthdhkoeaadahaaaW.PrintLast Go.Proofs.YthdhkoeaadahaaaW.PrintMore
attribute [local go_sem] Oper.semAt_some
set_option linter.unusedVariables false
set_option linter.unusedSimpArgs false
def putV : List S49 → Int → Int → ByteArray → List S49
 | [], _, _, _ => []
 | x :: r, v, b, s => if x.f0 = v then ⟨x.f0, x.f1.set b.toNat s⟩ :: r else x :: putV r v b s
def putW (l : List S49) (x : S74) : List S49 := putV l x.f0 x.f1 x.f2
def checkV (l : List S49) (ws : List S74) : Int := if rightV l = true then checkL l ws else 1
def applyV (l : List S49) (ws : List S74) : List S49 := ws.foldl putW l
def vols_Apply.f (l : List S49) (ws : List S74) : Option (List S49 × Int) := some (if checkV l ws = 0 then (applyV l ws, 0) else ([], checkV l ws))
theorem putV_length : ∀ (l : List S49) (v b : Int) (s : ByteArray), (putV l v b s).length = l.length
 | [], _, _, _ => rfl
 | x :: r, v, b, s => by
  unfold putV
  split
  ·rfl
  ·rw [List.length_cons, putV_length r, List.length_cons]
theorem getV_cons_pos {x : S49} {r : List S49} {v b : Int} (h : x.f0 = v) : getV (x :: r) v b = if b < 0 ∨ b ≥ (x.f1.length : Int) then (⟨#[]⟩, 10) else (gets9 x.f1 b.toNat, 0) := by
 unfold getV; rw [List.find?_cons_of_pos (by simp [h])]
theorem getV_cons_neg {x : S49} {r : List S49} {v b : Int} (h : ¬ x.f0 = v) : getV (x :: r) v b = getV r v b := by
 unfold getV; rw [List.find?_cons_of_neg (by simp [h])]
theorem put_err : ∀ (l : List S49) (v b : Int) (s : ByteArray) (v' b' : Int), (getV (putV l v b s) v' b').2 = (getV l v' b').2
 | [], _, _, _, _, _ => rfl
 | x :: r, v, b, s, v', b' => by
  unfold putV
  by_cases h : x.f0 = v
  ·rw [if_pos h]
   by_cases h' : x.f0 = v'
   ·rw [getV_cons_pos (x := ⟨x.f0, x.f1.set b.toNat s⟩) h', getV_cons_pos h']
    show (if b' < 0 ∨ b' ≥ ((x.f1.set b.toNat s).length : Int) then ((⟨#[]⟩ : ByteArray), (10 : Int)) else (gets9 (x.f1.set b.toNat s) b'.toNat, 0)).2 = _
    rw [List.length_set]
    split <;> rfl
   ·rw [getV_cons_neg (x := ⟨x.f0, x.f1.set b.toNat s⟩) h', getV_cons_neg h']
  ·rw [if_neg h]
   by_cases h' : x.f0 = v'
   ·rw [getV_cons_pos h', getV_cons_pos h']
   ·rw [getV_cons_neg h', getV_cons_neg h', put_err r]
theorem first_put : ∀ {l : List S49} {v : Int} {kk : Nat} (b : Int) (s : ByteArray), FirstV l v kk → putV l v b s = l.set kk ⟨(rd_T49 l (kk : Int)).f0, (rd_T49 l (kk : Int)).f1.set b.toNat s⟩
 | [], v, kk, b, s, h => absurd h.1 (by simp)
 | x :: r, v, 0, b, s, h => by
  have h3 : x.f0 = v := h.2.2
  unfold putV
  rw [if_pos h3]
  rfl
 | x :: r, v, kk + 1, b, s, h => by
  obtain ⟨h1, h2, h3⟩ := h
  have hne : ¬ x.f0 = v := h2 0 (by simp) (by omega)
  have e : rd_T49 (x :: r) ((kk + 1 : Nat) : Int) = rd_T49 r (kk : Int) := by
   unfold rd_T49
   rw [Int.toNat_natCast, Int.toNat_natCast]
   rfl
  have hF : FirstV r v kk := ⟨by simpa using h1, fun j hj hlt => by have := h2 (j + 1) (by simpa using hj) (by omega); exact this, by rw [← e]; exact h3⟩
  unfold putV
  rw [if_neg hne, first_put b s hF, e]
  rfl
theorem getE_some {l : List S49} {v b : Int} (h : (getV l v b).2 = 0) : ∃ x, l.find? (fun x => x.f0 == v) = some x ∧ 0 ≤ b ∧ b < (x.f1.length : Int) := by
 unfold getV at h
 cases hf : l.find? (fun x => x.f0 == v) with
 | none => rw [hf] at h; simp at h
 | some x =>
  rw [hf] at h
  by_cases hb : b < 0 ∨ b ≥ (x.f1.length : Int)
  ·simp only [if_pos hb] at h; simp at h
  ·exact ⟨x, rfl, by omega, by omega⟩
theorem at_own {W : World} {base n cap : Nat} {ok : Nat → Prop} {A : Option Addr} {l : List S49} {v b : Int} {e : Ending} (HS : Kd.S k49 49 W base ok (.slice A n cap) l) (hz : (getV l v b).2 = 0) (h : AtV W A l v b e) :
  ∃ (g : Nat) (q : ByteArray), e = .returned (.tuple #[.pointer (some ⟨g, b.toNat, none⟩), .int .i64 0]) ∧ W.cell? ⟨g, b.toNat, none⟩ = some (.string q) ∧ W.frozen? ⟨g, b.toNat, none⟩ = false ∧ base ≤ g ∧
   ∀ s, Kd.S k49 49 (W.setCell ⟨g, b.toNat, none⟩ (.string s)) base ok (.slice A n cap) (putV l v b s) := by
 obtain ⟨x, hx, hb0, hb1⟩ := getE_some hz
 rcases h with ⟨kk, hF, h⟩ | ⟨h, _⟩
 ·have hxe : x = rd_T49 l (kk : Int) := by rw [first_find hF] at hx; exact (Option.some.inj hx).symm
  subst hxe
  rcases h with ⟨hb, _⟩ | ⟨_, ad, Ad1, c1, rfl, hcell, rfl⟩
  ·omega
  ·have hn := (Kd.S_reads' HS).1
   obtain ⟨oki, c, hcl, hM, hcc, hoki, back⟩ := Kd.S_borrow HS z49 (kk : Int) (by omega) (by have := hF.1; omega)
   have hM' : k49.M W base oki (rd_T49 l (kk : Int)) c := hM
   obtain ⟨v1, rfl, hR⟩ := k49_openM hM'
   have h1 := hcc 1 _ rfl
   rw [Int.toNat_natCast] at h1
   have e1 : ad.add (kk * k49.sz + 1) = ⟨(ad.add (kk * 2)).block, (ad.add (kk * 2)).off + 1, none⟩ := add_field _ _ 1 (by omega)
   rw [e1, hcell] at h1
   obtain ⟨g, cp, hv, hbg, _, _⟩ := Kd.R_form hR (by omega)
   have h1' := Option.some.inj h1
   rw [hv] at h1'
   injection h1' with h1' _ _
   injection h1' with h1'
   subst h1'
   rw [hv] at hR
   obtain ⟨k1, k2⟩ := Kd.R_celln (⟨#[]⟩ : ByteArray) hR b hb0 (by omega)
   refine ⟨g, _, by rw [add_plain], k1, k2, hbg, fun s => ?_⟩
   obtain ⟨p1, p2⟩ := Kd.R_putg hR b s
   have hokg : oki g := hR.1 g (by simp [Value.ownBlock])
   have hM2 : k49.M (W.setCell ⟨g, b.toNat, none⟩ (.string s)) base oki ⟨(rd_T49 l (kk : Int)).f0, (rd_T49 l (kk : Int)).f1.set b.toNat s⟩ [.int .i64 (rd_T49 l (kk : Int)).f0, v1] := k49_mkM _ _ _ _ (by
    show Kd.string.R 9 _ base oki v1 ((rd_T49 l (kk : Int)).f1.set b.toNat s)
    rw [hv]; exact p1)
   have := back p2 (fun k hk => by injection hk with hk; subst hk; exact hokg) hM2
   rw [Int.toNat_natCast] at this
   rw [first_put b s hF]
   exact this
 ·rw [none_find h] at hx
  cases hx
theorem rightFrom_small : ∀ (l : List S49) (last : Int), rightFrom last l = true → ∀ x ∈ l, x.f1.length ≤ 32
 | [], _, _, x, hx => by simp at hx
 | y :: r, last, h, x, hx => by
  rw [rightFrom, Bool.and_eq_true] at h
  rcases List.mem_cons.1 hx with rfl | hx
  ·have h1 := h.1
   unfold badV sizeB at h1
   by_cases h2 : (x.f1.length : Int) ≥ 1
   ·rw [if_pos h2] at h1
    by_cases h3 : (x.f1.length : Int) ≤ 32
    ·omega
    ·rw [decide_eq_false (p := (x.f1.length : Int) ≤ 32) h3] at h1
     simp at h1
   ·omega
  ·exact rightFrom_small r _ h.2 x hx
theorem rightV_small {l : List S49} (h : rightV l = true) : l.length ≤ 4 ∧ ∀ x ∈ l, x.f1.length ≤ 32 := by
 unfold rightV at h
 rw [Bool.and_eq_true] at h
 have := of_decide_eq_true h.2
 exact ⟨by omega, rightFrom_small l 0 h.1⟩
theorem clone_f (l : List S49) (h : l.length ≤ 1000) (hb : ∀ x ∈ l, x.f1.length ≤ 1000) : ∃ k, vols_clone.f k l = some l := by
 have loop : ∀ (d i : Nat) (o : List S49), i + d = l.length → o.length = i → vols_clone.l0 (d + 1) o l (l.length : Int) (i : Int) = some (o ++ l.drop i) := by
  intro d
  induction d with
  | zero =>
   intro i o hi ho
   simp only [vols_clone.l0]
   rw [if_neg (by omega), List.drop_eq_nil_of_le (by omega), List.append_nil]
  | succ d ih =>
   intro i o hi ho
   have hlt : i < l.length := by omega
   have hx : (rd_T49 l (i : Int)).f1.length ≤ 1000 := hb _ (by rw [rd49 l i hlt]; exact List.getElem_mem hlt)
   have hc : slices_Clone_string_string.f (rd_T49 l (i : Int)).f1 = some (rd_T49 l (i : Int)).f1 := by unfold slices_Clone_string_string.f; rw [if_pos (by omega)]
   have ew : wrap64 ((i : Int) + 1) = ((i + 1 : Nat) : Int) := by unfold wrap64; omega
   have e : vols_clone.l0 (d + 1 + 1) o l (l.length : Int) (i : Int) = vols_clone.l0 (d + 1) (o ++ [(⟨(rd_T49 l (i : Int)).f0, (rd_T49 l (i : Int)).f1⟩ : S49)]) l (l.length : Int) (wrap64 ((i : Int) + 1)) := by
    conv => lhs; unfold vols_clone.l0
    rw [if_pos (by omega), if_pos (by omega), if_pos (by omega), hc, Option.bind_some, if_pos (by omega)]
   rw [e, ew, ih (i + 1) _ (by omega) (by simp; omega), drop49 l hlt, List.append_assoc]
   rfl
 exact ⟨l.length + 1, by
  have := loop l.length 0 [] (by omega) rfl
  unfold vols_clone.f
  simpa using this⟩
theorem checkL_at : ∀ (l : List S49) (ws : List S74), checkL l ws = 0 → ∀ x ∈ ws, (getV l x.f0 x.f1).2 = 0
 | _, [], _, x, hx => by simp at hx
 | l, y :: r, h, x, hx => by
  unfold checkL at h
  by_cases hy : checkW l y ≠ 0
  ·rw [if_pos hy] at h; exact absurd h hy
  ·rw [if_neg hy] at h
   rcases List.mem_cons.1 hx with rfl | hx
   ·unfold checkW at hy
    by_cases hz : (getV l x.f0 x.f1).2 ≠ 0
    ·rw [if_pos hz] at hy; exact absurd hz hy
    ·exact Decidable.not_not.1 hz
   ·exact checkL_at l r h x hx
theorem applyV_err (l : List S49) (v b : Int) : ∀ (ws : List S74) (m : List S49), (getV m v b).2 = (getV l v b).2 → (getV (ws.foldl putW m) v b).2 = (getV l v b).2
 | [], m, h => h
 | x :: r, m, h => by
  rw [List.foldl_cons]
  exact applyV_err l v b r _ ((put_err m x.f0 x.f1 x.f2 v b).trans h)
theorem A0qva_ {p : Prop} (h : p) : Aside0 p := ⟨h⟩
theorem z1qva_ {α : Type} (l : List α) (i : Nat) (a : α) : l.toArray.setIfInBounds i a = (l.set i a).toArray := List.setIfInBounds_toArray l i a
theorem z2qva_ {α : Type} {x : α} {xs : List α} {a : α} : (x :: xs).set 0 a = a :: xs := List.set_cons_zero
theorem z3qva_ {α : Type} {x : α} {xs : List α} {n : Nat} {a : α} : (x :: xs).set (n + 1) a = x :: xs.set n a := List.set_cons_succ
set_option maxRecDepth 100000 in
set_option maxHeartbeats 4000000 in
theorem vols_Apply.calls (A0 : Option Addr) (c0 : Nat) (l0 : List S49) (A1 : Option Addr) (c1 : Nat) (l1 : List S74) (r1 : List S49) (r2 : Int) (w : World) (hr0 : Kd.C k49 w A0 l0.length l0) (hc0 : l0.length ≤ c0) (hr1 : Kd.C k74 w A1 l1.length l1) (hc1 : l1.length ≤ c1) (h : vols_Apply.f l0 l1 = some (r1, r2)) :
  Calls Try.prog 57 #[.slice A0 l0.length c0, .slice A1 l1.length c1] w fun e w' => ∃ v0_ : Value, e = .returned (.tuple #[v0_, .int .i64 r2]) ∧ Kd.S k49 49 w' w.heap.size (fun _ => True) v0_ r1 ∧ Below w.heap.size w w' := by
 unfold vols_Apply.f at h
 injection h with h
 have hck := vols_Check.calls A0 c0 l0 A1 c1 l1 (checkV l0 l1) w hr0 hc0 hr1 hc1 rfl
 by_cases hz : checkV l0 l1 = 0
 ·rw [if_pos hz] at h
  injection h with e1 e2
  subst e1; subst e2
  rw [hz] at hck
  have hrt : rightV l0 = true := by
   unfold checkV at hz
   by_cases h : rightV l0 = true
   ·exact h
   ·rw [if_neg h] at hz; simp at hz
  have hcl : checkL l0 l1 = 0 := by unfold checkV at hz; rw [if_pos hrt] at hz; exact hz
  obtain ⟨hs1, hs2⟩ := rightV_small hrt
  obtain ⟨kc, hkc⟩ := clone_f l0 (by omega) (fun x hx => by have := hs2 x hx; omega)
  have hu74 := Try.underlying74
  have hmx := hr1.2.1
  have HCL := A0qva_ (fun (W : World) (hW : Below w.heap.size w W) => vols_clone.calls kc A0 c0 l0 l0 W (Kd.C_below hr0 hW) hc0 hkc)
  have HR1 := A0qva_ hr1
  have HAT := A0qva_ (checkL_at l0 l1 hcl)
  clear hr0 hr1 hkc hz hcl hrt hs1 hs2
  go_enter Try.func57, Try.ntmps57
  go_wp2_with (first
   | (go_at_call 59; refine hck.mono ?_; rintro e w2 ⟨rfl, hb⟩; have HB := A0qva_ hb; clear hb)
   | (go_at_call 106; refine (HCL.out _ HB.out).mono ?_; rintro e w3 ⟨v3, rfl, ho, hb⟩; have HO := A0qva_ (Kd.S_lower ho HB.out.size); have HB3 := A0qva_ (HB.out.trans (hb.mono HB.out.size)); clear ho hb HB))
  obtain ⟨A3, c3, ev3⟩ := Kd.S_slice HO.out
  subst ev3
  go_loopg [22] l1.length (fun gg s22 wr => ∃ kk : Nat, kk ≤ l1.length ∧ l1.length - kk ≤ gg ∧ s22 = .int .i64 kk ∧ Aside0 (Below w.heap.size w wr) ∧ Aside0 (Kd.S k49 49 wr w.heap.size (fun _ => True) (.slice A3 l0.length c3) (applyV l0 (l1.take kk))))
  case atStart => exact ⟨0, by omega, by omega, rfl, HB3, HO⟩
  case round =>
   clear HB3 HO
   obtain ⟨kk, hkk, hg, rfl, BW, AA⟩ := hrel
   by_cases hlt : kk < l1.length
   ·have e0 : decide ((kk : Int) < (l1.length : Int)) = true := decide_eq_true (by omega)
    obtain ⟨ad, rfl, d0, d1, d2⟩ := at_T74 (Kd.C_below HR1.out BW.out) (kk : Int) (by omega) (by omega)
    rw [Int.toNat_natCast] at d0 d1 d2
    have hz : (getV (applyV l0 (l1.take kk)) (rd_T74 l1 (kk : Int)).f0 (rd_T74 l1 (kk : Int)).f1).2 = 0 := (applyV_err l0 _ _ (l1.take kk) l0 rfl).trans (HAT.out _ (by rw [rd74 l1 kk hlt]; exact List.getElem_mem hlt))
    have hnext : applyV l0 (l1.take (kk + 1)) = putV (applyV l0 (l1.take kk)) (rd_T74 l1 (kk : Int)).f0 (rd_T74 l1 (kk : Int)).f1 (rd_T74 l1 (kk : Int)).f2 := by
     unfold applyV
     rw [List.take_succ_eq_append_getElem hlt, List.foldl_append, rd74 l1 kk hlt]
     rfl
    have HN := A0qva_ hnext
    clear hnext
    have hS := Kd.S_alloc AA.out (.cells #[.int .i64 (rd_T74 l1 (kk : Int)).f0, .int .i64 (rd_T74 l1 (kk : Int)).f1, .string (rd_T74 l1 (kk : Int)).f2] 74)
    clear AA
    generalize applyV l0 (l1.take kk) = cur at hz HN hS
    generalize rd_T74 l1 (kk : Int) = y at d0 d1 d2 hz HN hS
    have hrd := Kd.S_reads' hS
    have hat := (at_calls A3 c3 cur y.f0 y.f1 _ hrd.2.2 (by omega)).mono (fun e w' hh => show w' = _ ∧ _ from ⟨hh.1, at_own hS hz hh.2⟩)
    have elen := hrd.1
    rw [← elen] at hat
    have HBB := A0qva_ (below_alloc BW.out (.cells #[.int .i64 y.f0, .int .i64 y.f1, .string y.f2] 74))
    clear hS hrd hz elen
    go_wp2_with (go_at_call 97; refine hat.mono ?_; rintro e w4 ⟨rfl, g, q, rfl, k1, k2, k3, k4⟩; have K3 := A0qva_ k3; have K4 := A0qva_ k4; clear k3 k4)
    go_roundg (l1.length - (kk + 1))
    case measure => omega
    case rel =>
     refine ⟨kk + 1, by omega, by omega, by go_num, ⟨HBB.out.setCell K3.out _⟩, ⟨?_⟩⟩
     rw [HN.out]
     exact K4.out y.f2
   ·have e0 : decide ((kk : Int) < (l1.length : Int)) = false := decide_eq_false (by omega)
    have hA := AA.out
    rw [List.take_of_length_le (by omega)] at hA
    have HA := A0qva_ hA
    clear hA AA
    go_wp2
    refine bodyPost_ret (v := .tuple #[.slice A3 l0.length c3, .int .i64 0]) ?_ rfl ⟨_, rfl, HA.out, BW.out⟩
    simp [results, Try.results57, go_sem]
 ·rw [if_neg hz] at h
  injection h with e1 e2
  subst e1; subst e2
  have e0 : (checkV l0 l1 != 0) = true := bne_iff_ne.mpr hz
  clear hr0 hr1
  generalize checkV l0 l1 = t at hck e0
  go_enter Try.func57, Try.ntmps57
  go_wp2_with (go_at_call 59; refine hck.mono ?_; rintro e w2 ⟨rfl, hb⟩)
  refine bodyPost_ret (v := .tuple #[.slice none 0 0, .int .i64 t]) ?_ rfl ⟨_, rfl, Kd.S_nil _ _ _ _ _, hb⟩
  simp [results, Try.results57, go_sem]
end Go.Proofs.Ythdhkoeaadahaaa.P
