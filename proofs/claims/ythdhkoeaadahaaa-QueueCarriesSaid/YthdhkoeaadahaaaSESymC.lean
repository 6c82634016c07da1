-- PACKED by wip/kit/pack.py: what the law's proof uses of ESymC (printed words and texts of this seat)
import Derived.Test.YthdhkoeaadahaaaSESymB
namespace Go.Proofs.Ythdhkoeaadahaaa.P
open Go.RowKit Go.Proofs.YthdhkoeaadahaaaW.PrintWords Go.Proofs.YthdhkoeaadahaaaW.PrintLast Go.Proofs.YthdhkoeaadahaaaW.PrintMore Go.Proofs.Ythdhkoeaadahaaa.SortCore
attribute [local go_sem] Oper.semAt_some
set_option linter.unusedVariables false
set_option linter.unusedSimpArgs false
def symC35.T : Bool × List (List Nat × List Nat) := (true, [([], []), ([], []), ([], []), ([], []), ([2, 3], [2, 3]), ([1, 4], [1, 4]), ([5], [5]), ([], []), ([], []), ([7, 8], [7, 8]), ([9], [9]), ([0, 6, 10], [0, 6, 10]), ([11], [11]), ([12], [12])])
def symC35.B : List Nat := [0, 0, 0, 0, 12, 30, 62, 0, 0, 384, 896, 2047, 4095, 8191]
theorem symC35.tab : rtab .any (opsOf Try.f139 35) = symC35.T := by kernel_rfl
theorem symC35.bits : waitsOk symC35.T.2 symC35.B = true := by kernel_rfl
theorem sym_parts {A B : List S74} (hA : Sorted ltW A) (hB : Sorted ltW B) (t s : Nat) (hs : s ≤ A.length) (ht : t ≤ B.length)
  (F1 : s = 0 ∨ t = B.length ∨ ∃ b a, B[t]? = some b ∧ A[s - 1]? = some a ∧ ltW b a = false) (F2 : s = A.length ∨ t = 0 ∨ ∃ b a, B[t - 1]? = some b ∧ A[s]? = some a ∧ ltW b a = true) :
  ∃ A1 A2 B1 B2, A = A1 ++ A2 ∧ B = B1 ++ B2 ∧ A1.length = s ∧ A2.length = A.length - s ∧ B1.length = t ∧ B2.length = B.length - t ∧ Sorted ltW A1 ∧ Sorted ltW A2 ∧ Sorted ltW B1 ∧ Sorted ltW B2 ∧ isort ltW (A ++ B) = isort ltW (A1 ++ B1) ++ isort ltW (A2 ++ B2) := by
 have hA' := hA
 have hB' := hB
 rw [← List.take_append_drop s A] at hA'
 rw [← List.take_append_drop t B] at hB'
 obtain ⟨a1, a2, _⟩ := sorted_append.1 hA'
 obtain ⟨b1, b2, _⟩ := sorted_append.1 hB'
 refine ⟨A.take s, A.drop s, B.take t, B.drop t, (List.take_append_drop _ _).symm, (List.take_append_drop _ _).symm, by rw [List.length_take]; omega, List.length_drop, by rw [List.length_take]; omega, List.length_drop, a1, a2, b1, b2, sym_cut weakW hA hB s t hs ht ?_ ?_⟩
 ·rcases F1 with h | h | ⟨b, a, h1, h2, h3⟩
  ·exact .inl h
  ·exact .inr (.inl h)
  ·refine .inr (.inr (fun h h' => ?_))
   rw [(List.getElem?_eq_some_iff.1 h1).2, (List.getElem?_eq_some_iff.1 h2).2]
   exact h3
 ·rcases F2 with h | h | ⟨b, a, h1, h2, h3⟩
  ·exact .inl h
  ·exact .inr (.inl h)
  ·refine .inr (.inr (fun h h' => ?_))
   rw [(List.getElem?_eq_some_iff.1 h1).2, (List.getElem?_eq_some_iff.1 h2).2]
   exact h3
theorem A0qsc_ {p : Prop} (h : p) : Aside0 p := ⟨h⟩
theorem z1qsc_ {α : Type} (l : List α) (i : Nat) (a : α) : l.toArray.setIfInBounds i a = (l.set i a).toArray := List.setIfInBounds_toArray l i a
theorem z2qsc_ {α : Type} {x : α} {xs : List α} {a : α} : (x :: xs).set 0 a = a :: xs := List.set_cons_zero
theorem z3qsc_ {α : Type} {x : α} {xs : List α} {n : Nat} {a : α} : (x :: xs).set (n + 1) a = x :: xs.set n a := List.set_cons_succ
abbrev mk0qsc_ : Array Bool := #[false, false, false, false, false, false, false, false, false, false, false, false, false, false]
abbrev mk1qsc_ : Array Bool := #[true, false, false, false, false, false, false, false, false, false, false, false, false, false]
abbrev mk2qsc_ : Array Bool := #[true, true, false, false, false, false, false, false, false, false, false, false, false, false]
abbrev mk3qsc_ : Array Bool := #[true, true, true, false, false, false, false, false, false, false, false, false, false, false]
abbrev mk4qsc_ : Array Bool := #[true, true, true, true, false, false, false, false, false, false, false, false, false, false]
abbrev mk5qsc_ : Array Bool := #[true, true, true, true, true, false, false, false, false, false, false, false, false, false]
abbrev mk6qsc_ : Array Bool := #[true, true, true, true, true, true, false, false, false, false, false, false, false, false]
abbrev mk7qsc_ : Array Bool := #[true, true, true, true, true, true, false, true, false, false, false, false, false, false]
abbrev mk8qsc_ : Array Bool := #[true, true, true, true, true, true, false, true, true, false, false, false, false, false]
abbrev mk9qsc_ : Array Bool := #[true, true, true, true, true, true, false, true, true, true, false, false, false, false]
abbrev mk10qsc_ : Array Bool := #[true, true, true, true, true, true, true, true, true, true, false, false, false, false]
abbrev mk11qsc_ : Array Bool := #[true, true, true, true, true, true, true, true, true, true, true, false, false, false]
abbrev mk12qsc_ : Array Bool := #[true, true, true, true, true, true, true, true, true, true, true, true, false, false]
abbrev mk13qsc_ : Array Bool := #[true, true, true, true, true, true, true, true, true, true, true, true, true, false]
abbrev mk14qsc_ : Array Bool := #[true, true, true, true, true, true, true, true, true, true, true, true, true, true]
set_option maxRecDepth 100000 in
set_option maxHeartbeats 8000000 in
theorem sym_gen (n cap base : Nat) (ad : Addr) (P A B S : List S74) (w0 w : World) (hAs : Sorted ltW A) (hBs : Sorted ltW B) (hA2 : 2 ≤ A.length) (hB2 : 2 ≤ B.length)
  (hREC : ∀ (P' A' B' S' : List S74) (W : World), Sorted ltW A' → Sorted ltW B' → A' ≠ [] → B' ≠ [] → A'.length + B'.length < A.length + B.length → Kd.R k74 74 W base (fun _ => True) (.slice (some ad) n cap) (P' ++ A' ++ B' ++ S') → Below base w0 W → ∀ (za zm zb : Int), za = (P'.length : Int) → zm = ((P'.length + A'.length : Nat) : Int) → zb = ((P'.length + A'.length + B'.length : Nat) : Int) →
   Calls Try.prog 139 #[.slice (some ad) n cap, .int .i64 za, .int .i64 zm, .int .i64 zb, .func (.func 101) #[] #[]] W fun e w' => e = .returned (.tuple #[]) ∧ Kd.R k74 74 w' base (fun _ => True) (.slice (some ad) n cap) (P' ++ isort ltW (A' ++ B') ++ S') ∧ Below base w0 w')
  (HO0 : Kd.R k74 74 w base (fun _ => True) (.slice (some ad) n cap) (P ++ A ++ B ++ S)) (HB0 : Below base w0 w) (hb0 : base ≤ w0.heap.size) (hn : n ≤ 1000000) (za zm zb : Int) (ea : za = (P.length : Int)) (em : zm = ((P.length + A.length : Nat) : Int)) (eb : zb = ((P.length + A.length + B.length : Nat) : Int)) :
  Calls Try.prog 139 #[.slice (some ad) n cap, .int .i64 za, .int .i64 zm, .int .i64 zb, .func (.func 101) #[] #[]] w fun e w' => e = .returned (.tuple #[]) ∧ Kd.R k74 74 w' base (fun _ => True) (.slice (some ad) n cap) (P ++ isort ltW (A ++ B) ++ S) ∧ Below base w0 w' := by
 have hu74 := Try.underlying74
 have HLEN := A0qsc_ (show P.length + A.length + B.length + S.length = n by have h1 := (Kd.R_reads' HO0).1; simp only [List.length_append] at h1; omega)
 have HO := A0qsc_ HO0
 have HB := A0qsc_ HB0
 have EA := A0qsc_ ea
 have EM := A0qsc_ em
 have EB := A0qsc_ eb
 have HSA := A0qsc_ hAs
 have HSB := A0qsc_ hBs
 have HREC := A0qsc_ hREC
 have G2 := A0qsc_ (And.intro hA2 hB2)
 obtain ⟨zd, hzd⟩ : ∃ z, IntKind.i64.wrap (zm - za) = z := ⟨_, rfl⟩
 have e1 : (zd == 1) = false := beq_eq_false_iff_ne.2 (by rw [← hzd, i64_w]; have := HLEN.out; unfold wrap64; omega)
 have e2 : decide (zd = 1) = false := decide_eq_false (beq_eq_false_iff_ne.1 e1)
 obtain ⟨zf, hzf⟩ : ∃ z, IntKind.i64.wrap (zb - zm) = z := ⟨_, rfl⟩
 have e3 : (zf == 1) = false := beq_eq_false_iff_ne.2 (by rw [← hzf, i64_w]; have := HLEN.out; unfold wrap64; omega)
 have e4 : decide (zf = 1) = false := decide_eq_false (beq_eq_false_iff_ne.1 e3)
 obtain ⟨hh, hhh⟩ : ∃ hh : Nat, (A.length + B.length) / 2 = hh := ⟨_, rfl⟩
 have HH := A0qsc_ hhh
 obtain ⟨zh, hzh⟩ : ∃ z, wrap64 (IntKind.u64.wrap (wrap64 (za + zb)) / 2) = z := ⟨_, rfl⟩
 have HMID := A0qsc_ (show zh = ((P.length + hh : Nat) : Int) by
  have h1 := EA.out; have h2 := EB.out; have h3 := HLEN.out
  rw [← hzh, u64_half _ (by omega) (by omega)]; omega)
 obtain ⟨zn, hzn⟩ : ∃ z, wrap64 (zh + zm) = z := ⟨_, rfl⟩
 have HZN := A0qsc_ (show zn = ((P.length + hh + (P.length + A.length) : Nat) : Int) by
  have h1 := HMID.out; have h2 := EM.out; have h3 := HLEN.out
  rw [← hzn]; unfold wrap64; omega)
 clear HO0 HB0 ea eb em hAs hBs hA2 hB2 hREC hhh
 go_enter Try.func139, Try.ntmps139
 go_upto_if 140 with (fail)
 (try simp only [hzh, hzn])
 go_cut [20, 21] (fun s20 s21 wc => ∃ (s0 r0 : Nat) (zs zr : Int), s20 = .int .i64 zs ∧ s21 = .int .i64 zr ∧ Aside0 (zs = ((P.length + s0 : Nat) : Int)) ∧ Aside0 (zr = ((P.length + r0 : Nat) : Int)) ∧ Aside0 (s0 ≤ r0 ∧ r0 ≤ A.length ∧ r0 ≤ hh ∧ hh - s0 ≤ B.length) ∧ Aside0 (s0 = 0 ∨ hh - s0 = B.length) ∧ Aside0 (r0 = A.length ∨ r0 = hh) ∧ Aside0 (Below base w0 wc) ∧ Aside0 (Kd.R k74 74 wc base (fun _ => True) (.slice (some ad) n cap) (P ++ A ++ B ++ S)))
 case first =>
  by_cases c1 : hh < A.length
  ·have d1 : decide (zm > zh) = true := decide_eq_true (by have := EM.out; have := HMID.out; omega)
   have d2 : decide (zh < zm) = true := d1
   (try rw [d1])
   obtain ⟨zq, hzq⟩ : ∃ z, wrap64 (zn - zb) = z := ⟨_, rfl⟩
   have HZQ := A0qsc_ (show zq = ((P.length + (hh - B.length) : Nat) : Int) by
    have h1 := HZN.out; have h2 := EB.out; have h3 := HLEN.out; have h4 := HH.out
    rw [← hzq]; unfold wrap64; omega)
   go_wp2
   go_meet
   case rel => exact ⟨hh - B.length, hh, _, _, rfl, rfl, HZQ, HMID, ⟨by have := HH.out; omega⟩, ⟨by have := HH.out; omega⟩, ⟨.inr rfl⟩, HB, HO⟩
  ·have d1 : decide (zm > zh) = false := decide_eq_false (by have := EM.out; have := HMID.out; omega)
   have d2 : decide (zh < zm) = false := d1
   (try rw [d1])
   go_wp2
   go_meet
   case rel => exact ⟨0, A.length, _, _, rfl, rfl, EA, EM, ⟨by have := HH.out; omega⟩, ⟨.inl rfl⟩, ⟨.inl rfl⟩, HB, HO⟩
 case rest =>
 clear HO HB
 obtain ⟨s0, r0, zs, zr, rfl, rfl, HZS, HZR, HR0, HS0, HR1, HB, HO⟩ := hcut
 obtain ⟨zp, hzp⟩ : ∃ z, wrap64 (zn - 1) = z := ⟨_, rfl⟩
 have HZP := A0qsc_ (show zp = zn - 1 by have := HZN.out; have := HLEN.out; have := HH.out; rw [← hzp]; unfold wrap64; omega)
 go_wp2
 go_loopg [20, 21] (r0 - s0) (fun gg s20 s21 wr => ∃ (s r : Nat) (zs zr : Int), Aside0 (s0 ≤ s ∧ s ≤ r ∧ r ≤ r0) ∧ Aside0 (s = s0 ∨ ∃ b a, B[hh - s]? = some b ∧ A[s - 1]? = some a ∧ ltW b a = false) ∧ Aside0 (r = r0 ∨ ∃ b a, B[hh - r - 1]? = some b ∧ A[r]? = some a ∧ ltW b a = true) ∧ r - s ≤ gg ∧ Aside0 (zs = ((P.length + s : Nat) : Int)) ∧ Aside0 (zr = ((P.length + r : Nat) : Int)) ∧ s20 = .int .i64 zs ∧ s21 = .int .i64 zr ∧ Aside0 (Below base w0 wr) ∧ Aside0 (Kd.R k74 74 wr base (fun _ => True) (.slice (some ad) n cap) (P ++ A ++ B ++ S)))
 case atStart =>
  exact ⟨s0, r0, zs, zr, ⟨Nat.le_refl _, HR0.out.1, Nat.le_refl _⟩, ⟨.inl rfl⟩, ⟨.inl rfl⟩, Nat.le_refl _, HZS, HZR, rfl, rfl, HB, HO⟩
 case round =>
  clear HO HB HZS HZR
  obtain ⟨s, r, zs, zr, HSR, F1, F2, hg, HZS, HZR, rfl, rfl, HB, HO⟩ := hrel
  by_cases hlt : s < r
  ·as_aux_lemma =>
   have e0 : decide (zs < zr) = true := decide_eq_true (by have := HZS.out; have := HZR.out; omega)
   obtain ⟨zc, hzc⟩ : ∃ z, wrap64 (IntKind.u64.wrap (wrap64 (zs + zr)) / 2) = z := ⟨_, rfl⟩
   obtain ⟨q, hq1, hq2, hq3⟩ : ∃ q : Nat, s ≤ q ∧ q < r ∧ zc = ((P.length + q : Nat) : Int) := by
    refine ⟨(s + r) / 2, by omega, by omega, ?_⟩
    have h1 := HZS.out; have h2 := HZR.out; have h3 := HLEN.out; have h4 := HSR.out; have h5 := HR0.out
    rw [← hzc, u64_half _ (by omega) (by omega)]; omega
   have hqA : q < A.length := by have := HSR.out; have := HR0.out; omega
   have hqB : hh - 1 - q < B.length := by have := HSR.out; have := HR0.out; omega
   have hqh : q < hh := by have := HSR.out; have := HR0.out; omega
   obtain ⟨z1, hz1⟩ : ∃ z, wrap64 (zc + 1) = z := ⟨_, rfl⟩
   have HZ1 := A0qsc_ (show z1 = ((P.length + (q + 1) : Nat) : Int) by have := HLEN.out; rw [← hz1]; unfold wrap64; omega)
   obtain ⟨zi, hzi⟩ : ∃ z, IntKind.i64.wrap (zp - zc) = z := ⟨_, rfl⟩
   have hzi3 : zi = ((P.length + A.length + (hh - 1 - q) : Nat) : Int) := by have := HLEN.out; have := HZP.out; have := HZN.out; rw [← hzi, i64_w]; unfold wrap64; omega
   obtain ⟨a, ha⟩ : ∃ a, A[q] = a := ⟨_, rfl⟩
   obtain ⟨b, hb⟩ : ∃ b, B[hh - 1 - q] = b := ⟨_, rfl⟩
   have HA9 := A0qsc_ (show A[q]? = some a by rw [List.getElem?_eq_getElem hqA, ha])
   have HB9 := A0qsc_ (show B[hh - 1 - q]? = some b by rw [List.getElem?_eq_getElem hqB, hb])
   have HZC := A0qsc_ hq3
   have HQ := A0qsc_ (And.intro hq1 hq2)
   have HQH := A0qsc_ hqh
   obtain ⟨bo, o, hbo, ho, eo⟩ := order_is b a
   have HBO := A0qsc_ hbo
   have HOR := A0qsc_ (fun (W : World) => fold_order.calls 5 b.f0 b.f1 b.f2 a.f0 a.f1 a.f2 o W ho)
   have HV := A0qsc_ (show rd_T74 (P ++ A ++ B ++ S) zi = b ∧ rd_T74 (P ++ A ++ B ++ S) zc = a by
    constructor
    ·have e : P ++ A ++ B ++ S = (P ++ A ++ B.take (hh - 1 - q)) ++ b :: (B.drop (hh - 1 - q + 1) ++ S) := by
      have : B = B.take (hh - 1 - q) ++ b :: B.drop (hh - 1 - q + 1) := by rw [← hb, ← List.drop_eq_getElem_cons hqB, List.take_append_drop]
      conv => lhs; rw [this]
      simp
     rw [e]
     exact rd_at _ _ _ _ (by rw [hzi3]; simp only [List.length_append, List.length_take]; omega)
    ·have e : P ++ A ++ B ++ S = (P ++ A.take q) ++ a :: (A.drop (q + 1) ++ (B ++ S)) := by
      have : A = A.take q ++ a :: A.drop (q + 1) := by rw [← ha, ← List.drop_eq_getElem_cons hqA, List.take_append_drop]
      conv => lhs; rw [this]
      simp
     rw [e]
     exact rd_at _ _ _ _ (by rw [hq3]; simp only [List.length_append, List.length_take]; omega))
   have p1 : (0 ≤ zi) = True := eq_true (by omega)
   have q1 : (zi < (n : Int)) = True := eq_true (by have := HLEN.out; omega)
   have p2 : (0 ≤ zc) = True := eq_true (by omega)
   have q2 : (zc < (n : Int)) = True := eq_true (by have := HLEN.out; omega)
   clear ha hb hq1 hq2 hq3 hbo ho hzi3
   go_wp2
   have HO_1 := A0qsc_ (Kd.R_drew HO.out)
   have HB_1 := A0qsc_ (below_drew1 HB.out)
   clear HO HB
   have hC := (Kd.R_reads' HO_1.out)
   have hC2 := hC.2.2
   rw [← hC.1] at hC2
   obtain ⟨ad1, ea, x0, x1, x2⟩ := at_T74 hC2 zi (of_eq_true p1) (of_eq_true q1)
   obtain rfl : ad = ad1 := by injection ea
   obtain ⟨ad1, ea, y0, y1, y2⟩ := at_T74 hC2 zc (of_eq_true p2) (of_eq_true q2)
   obtain rfl : ad = ad1 := by injection ea
   rw [HV.out.1] at x0 x1 x2
   rw [HV.out.2] at y0 y1 y2
   clear hC hC2 ea
   refine start_ (n := 14) (S := fun w' => w'.cell? (ad.add (zi.toNat * 3)) = some (.int .i64 b.f0) ∧ w'.cell? ⟨(ad.add (zi.toNat * 3)).block, (ad.add (zi.toNat * 3)).off + 1, none⟩ = some (.int .i64 b.f1) ∧ w'.cell? ⟨(ad.add (zi.toNat * 3)).block, (ad.add (zi.toNat * 3)).off + 2, none⟩ = some (.string b.f2) ∧ w'.cell? (ad.add (zc.toNat * 3)) = some (.int .i64 a.f0) ∧ w'.cell? ⟨(ad.add (zc.toNat * 3)).block, (ad.add (zc.toNat * 3)).off + 1, none⟩ = some (.int .i64 a.f1) ∧ w'.cell? ⟨(ad.add (zc.toNat * 3)).block, (ad.add (zc.toNat * 3)).off + 2, none⟩ = some (.string a.f2)) (ds := []) mk0qsc_ (by kernel_rfl) rfl rfl ⟨x0, x1, x2, y0, y1, y2⟩ (fun hHeld => ?_); refine with_tabW symC35.tab symC35.bits (fun HT_ HW_ => ?_)
   clear x0 x1 x2 y0 y1 y2
   generalize wr.drew = w_1 at HO_1 HB_1 hHeld ⊢
   refine pure_ (i:=0) (N:=some 158) (v:=?_) (a':=?_) mk1qsc_ rfl rfl (any_of HT_.out (by kernel_rfl)) (fun _ _ _ h => h) (Or.inl ⟨by rfl, ?_⟩) ?_ ?_
   rotate_left
   ·intro w'
    go_simp
    with_reducible rfl
   rotate_left
   ·simp only [Act.put, z1qsc_, z2qsc_, z3qsc_, i64_w, i32_w]
    rfl
   refine pure_ (i:=1) (N:=some 159) (v:=?_) (a':=?_) mk2qsc_ rfl rfl (any_of HT_.out (by kernel_rfl)) (fun _ _ _ h => h) (Or.inl ⟨by rfl, ?_⟩) ?_ ?_
   rotate_left
   ·intro w'
    go_simp
    with_reducible rfl
   rotate_left
   ·simp only [Act.put, z1qsc_, z2qsc_, z3qsc_, i64_w, i32_w]
    rfl
   refine pure_ (i:=2) (N:=some 160) (v:=?_) (a':=?_) mk3qsc_ rfl rfl (any_of HT_.out (by kernel_rfl)) (fun _ _ _ h => h) (Or.inl ⟨by rfl, ?_⟩) ?_ ?_
   rotate_left
   ·intro w'
    go_simp
    with_reducible rfl
   rotate_left
   ·simp only [Act.put, z1qsc_, z2qsc_, z3qsc_, i64_w, i32_w]
    rfl
   refine pure_ (i:=3) (N:=some 161) (v:=?_) (a':=?_) mk4qsc_ rfl rfl (any_of HT_.out (by kernel_rfl)) (fun _ _ _ h => h) (Or.inl ⟨by rfl, ?_⟩) ?_ ?_
   rotate_left
   ·intro w'
    go_simp
    with_reducible rfl
   rotate_left
   ·simp only [Act.put, z1qsc_, z2qsc_, z3qsc_, i64_w, i32_w]
    rfl
   refine pure_ (i:=4) (N:=some 162) (v:=?_) (a':=?_) mk5qsc_ rfl rfl (any_of HT_.out (by kernel_rfl)) (fun _ _ _ h => h) (Or.inl ⟨by rfl, ?_⟩) ?_ ?_
   rotate_left
   ·intro w'
    go_simp
    with_reducible rfl
   rotate_left
   ·simp only [Act.put, z1qsc_, z2qsc_, z3qsc_, i64_w, i32_w]
    rfl
   refine pure_ (i:=5) (N:=some 163) (v:=?_) (a':=?_) mk6qsc_ rfl rfl (any_of HT_.out (by kernel_rfl)) (fun _ _ _ h => h) (Or.inl ⟨by rfl, ?_⟩) ?_ ?_
   rotate_left
   ·intro w'
    go_simp
    with_reducible rfl
   rotate_left
   ·simp only [Act.put, z1qsc_, z2qsc_, z3qsc_, i64_w, i32_w]
    rfl
   refine pure_ (i:=7) (N:=some 165) (v:=?_) (a':=?_) mk7qsc_ rfl rfl (any_of HT_.out (by kernel_rfl)) (fun _ _ _ h => h) (Or.inl ⟨by rfl, ?_⟩) ?_ ?_
   rotate_left
   ·intro w'
    go_simp
    with_reducible rfl
   rotate_left
   ·simp only [Act.put, z1qsc_, z2qsc_, z3qsc_, i64_w, i32_w]
    rfl
   refine pure_ (i:=8) (N:=some 166) (v:=?_) (a':=?_) mk8qsc_ rfl rfl (any_of HT_.out (by kernel_rfl)) (fun _ _ _ h => h) (Or.inl ⟨by rfl, ?_⟩) ?_ ?_
   rotate_left
   ·intro w'
    go_simp
    with_reducible rfl
   rotate_left
   ·simp only [Act.put, z1qsc_, z2qsc_, z3qsc_, i64_w, i32_w]
    rfl
   refine pure_ (i:=9) (N:=some 167) (v:=?_) (a':=?_) mk9qsc_ rfl rfl (any_of HT_.out (by kernel_rfl)) (fun _ _ _ h => h) (Or.inl ⟨by rfl, ?_⟩) ?_ ?_
   rotate_left
   ·intro w'
    go_simp
    with_reducible rfl
   rotate_left
   ·simp only [Act.put, z1qsc_, z2qsc_, z3qsc_, i64_w, i32_w]
    rfl
   refine take_ (i:=6) (N:=some 164) (v:=?_) (a':=?_) mk10qsc_ rfl rfl (take_ofW HT_.out HW_.out (by kernel_rfl)) (fun _ _ _ h => h) (Or.inl ⟨by rfl, ?_⟩) hHeld ?_ ?_
   rotate_left
   ·rintro w' ⟨s0, s1, s2, s3, s4, s5⟩
    go_simp
    with_reducible rfl
   rotate_left
   ·simp only [Act.put, z1qsc_, z2qsc_, z3qsc_, i64_w, i32_w]
    rfl
   refine take_ (i:=10) (N:=some 168) (v:=?_) (a':=?_) mk11qsc_ rfl rfl (take_ofW HT_.out HW_.out (by kernel_rfl)) (fun _ _ _ h => h) (Or.inl ⟨by rfl, ?_⟩) hHeld ?_ ?_
   rotate_left
   ·rintro w' ⟨s0, s1, s2, s3, s4, s5⟩
    go_simp
    with_reducible rfl
   rotate_left
   ·simp only [Act.put, z1qsc_, z2qsc_, z3qsc_, i64_w, i32_w]
    rfl
   refine one_ (i:=11) (N:=some 169) mk12qsc_ rfl rfl (one_of HT_.out (by kernel_rfl)) (by decide) (fun K hK => ?_)
   refine call_ 101 #[.agg #[.int .i64 b.f0, .int .i64 b.f1, .string b.f2], .agg #[.int .i64 a.f0, .int .i64 a.f1, .string a.f2]] (by rfl) rfl (by first | (go_simp; done) | (go_simp; rfl)) ?_
   refine (HOR.out w_1).mono ?_
   rintro e w_2 ⟨rfl, hb⟩
   refine ⟨_, rfl, ?_⟩
   have HO_2 := A0qsc_ (Kd.R_below HO_1.out hb)
   have HB_2 := A0qsc_ (HB_1.out.trans (hb.mono (Nat.le_trans hb0 HB_1.out.size)))
   obtain ⟨s0, s1, s2, s3, s4, s5⟩ := hHeld
   refine hK.out _ _ ⟨(hb.cell (World.block_lt_of_cell? _ _ s0)).trans s0, (hb.cell (World.block_lt_of_cell? _ _ s1)).trans s1, (hb.cell (World.block_lt_of_cell? _ _ s2)).trans s2, (hb.cell (World.block_lt_of_cell? _ _ s3)).trans s3, (hb.cell (World.block_lt_of_cell? _ _ s4)).trans s4, (hb.cell (World.block_lt_of_cell? _ _ s5)).trans s5⟩ (fun hHeld => ?_)
   clear hK K HO_1 HB_1 hb s0 s1 s2 s3 s4 s5
   refine norm_ (a' := ?_) ?_ ?_
   rotate_left
   ·show Act.put _ (some 169) _ = _
    simp only [Act.put, z1qsc_, z2qsc_, z3qsc_, i64_w, i32_w]
    rfl
   refine pure_ (i:=12) (N:=some 170) (v:=?_) (a':=?_) mk13qsc_ rfl rfl (any_of HT_.out (by kernel_rfl)) (fun _ _ _ h => h) (Or.inl ⟨by rfl, ?_⟩) ?_ ?_
   rotate_left
   ·intro w'
    go_simp
    with_reducible rfl
   rotate_left
   ·simp only [Act.put, z1qsc_, z2qsc_, z3qsc_, i64_w, i32_w]
    rfl
   refine pure_ (i:=13) (N:=some 171) (v:=?_) (a':=?_) mk14qsc_ rfl rfl (any_of HT_.out (by kernel_rfl)) (fun _ _ _ h => h) (Or.inl ⟨by rfl, ?_⟩) ?_ ?_
   rotate_left
   ·intro w'
    go_simp
    with_reducible rfl
   rotate_left
   ·simp only [Act.put, z1qsc_, z2qsc_, z3qsc_, i64_w, i32_w]
    rfl
   refine done_ (done_of HT_.out (by kernel_rfl)) ?_
   clear hHeld HT_ HW_
   cases bo with
   | true =>
    clear HV
    go_wp2
    go_roundg (q - s)
    case measure => have := HQ.out; omega
    case rel =>
     refine ⟨s, q, zs, zc, ⟨by have := HQ.out; have := HSR.out; omega⟩, F1, ⟨.inr ⟨b, a, ?_, HA9.out, HBO.out⟩⟩, by omega, HZS, HZC, rfl, ?_, HB_2, HO_2⟩
     ·rw [show hh - q - 1 = hh - 1 - q by omega]; exact HB9.out
     ·first | rfl | rw [← hzc] | (simp only [← hzc, i64_w])
   | false =>
    clear HV
    go_wp2
    go_roundg (r - q - 1)
    case measure => have := HQ.out; omega
    case rel =>
     refine ⟨q + 1, r, z1, zr, ⟨by have := HQ.out; have := HSR.out; omega⟩, ⟨.inr ⟨b, a, ?_, HA9.out, HBO.out⟩⟩, F2, by omega, HZ1, HZR, ?_, rfl, HB_2, HO_2⟩
     ·rw [show hh - (q + 1) = hh - 1 - q by omega]; exact HB9.out
     ·first | rfl | rw [← hz1] | (simp only [← hz1, i64_w])
  ·as_aux_lemma =>
   have e0 : decide (zs < zr) = false := decide_eq_false (by have := HZS.out; have := HZR.out; omega)
   have hsr : r = s := by have := HSR.out; omega
   subst hsr
   obtain ⟨A1, A2, B1, B2, hA12, hB12, la1, la2, lb1, lb2, sa1, sa2, sb1, sb2, hcut2⟩ := sym_parts HSA.out HSB.out (hh - r) r (by have := HSR.out; have := HR0.out; omega) (by have := HSR.out; have := HR0.out; omega) (by
    rcases F1.out with h | h
    ·rcases HS0.out with h2 | h2
     ·exact .inl (by omega)
     ·exact .inr (.inl (by rw [h]; exact h2))
    ·exact .inr (.inr h)) (by
    rcases F2.out with h | h
    ·rcases HR1.out with h2 | h2
     ·exact .inl (by omega)
     ·exact .inr (.inl (by omega))
    ·exact .inr (.inr h))
   have HCUT := A0qsc_ hcut2
   have LA1 := A0qsc_ la1
   have LA2 := A0qsc_ (show A1.length + A2.length = A.length by rw [la1, la2]; have := HSR.out; have := HR0.out; omega)
   have LB1 := A0qsc_ (show A1.length + B1.length = hh ∧ 1 ≤ hh ∧ hh < A.length + B.length by rw [la1, lb1]; have := HSR.out; have := HR0.out; have := HH.out; have := G2.out; omega)
   have LB2 := A0qsc_ (show B1.length + B2.length = B.length by rw [lb1, lb2]; have := HSR.out; have := HR0.out; omega)
   have SA1 := A0qsc_ sa1
   have SA2 := A0qsc_ sa2
   have SB1 := A0qsc_ sb1
   have SB2 := A0qsc_ sb2
   obtain ⟨ze, hze⟩ : ∃ z, wrap64 (zn - zs) = z := ⟨_, rfl⟩
   have HZE := A0qsc_ (show ze = ((P.length + A.length + B1.length : Nat) : Int) by have := HZN.out; have := HZS.out; have := HLEN.out; have := HSR.out; have := HR0.out; rw [← hze, lb1]; unfold wrap64; omega)
   have HO1 := A0qsc_ (show Kd.R k74 74 _ base (fun _ => True) (.slice (some ad) n cap) (P ++ A1 ++ A2 ++ B1 ++ B2 ++ S) from (show P ++ A ++ B ++ S = P ++ A1 ++ A2 ++ B1 ++ B2 ++ S by rw [hA12, hB12]; simp) ▸ HO.out)
   clear HO hcut2 la1 la2 lb1 lb2 sa1 sa2 sb1 sb2 hA12 hB12 F1 F2 hg
   have HO := HO1
   clear HO1
   go_upto_region 39 with (fail)
   (try simp only [hze])
   go_cut [185] (fun sx wc => ∃ bb : Bool, sx = .bool bb ∧ Aside0 (bb = decide (0 < A2.length ∧ 0 < B1.length)) ∧ Aside0 (Below base w0 wc) ∧ Aside0 (Kd.R k74 74 wc base (fun _ => True) (.slice (some ad) n cap) (P ++ A1 ++ A2 ++ B1 ++ B2 ++ S)))
   case first =>
    as_aux_lemma =>
    by_cases c1 : 0 < A2.length
    ·have d1 : decide (zs < zm) = true := decide_eq_true (by have := LA1.out; have := LA2.out; have := LB1.out; have := LB2.out; have := EA.out; have := EM.out; have := EB.out; have := HZS.out; have := HZE.out; have := HMID.out; omega)
     by_cases c2 : 0 < B1.length
     ·have d2 : decide (zm < ze) = true := decide_eq_true (by have := LA1.out; have := LA2.out; have := LB1.out; have := LB2.out; have := EA.out; have := EM.out; have := EB.out; have := HZS.out; have := HZE.out; have := HMID.out; omega)
      go_wp2
      go_meet
      case rel => exact ⟨_, rfl, ⟨(decide_eq_true ⟨by omega, by omega⟩).symm⟩, HB, HO⟩
     ·have d2 : decide (zm < ze) = false := decide_eq_false (by have := LA1.out; have := LA2.out; have := LB1.out; have := LB2.out; have := EA.out; have := EM.out; have := EB.out; have := HZS.out; have := HZE.out; have := HMID.out; omega)
      go_wp2
      go_meet
      case rel => exact ⟨_, rfl, ⟨(decide_eq_false (by omega)).symm⟩, HB, HO⟩
    ·have d1 : decide (zs < zm) = false := decide_eq_false (by have := LA1.out; have := LA2.out; have := LB1.out; have := LB2.out; have := EA.out; have := EM.out; have := EB.out; have := HZS.out; have := HZE.out; have := HMID.out; omega)
     go_wp2
     go_meet
     case rel => exact ⟨_, rfl, ⟨(decide_eq_false (by omega)).symm⟩, HB, HO⟩
   case rest =>
   as_aux_lemma =>
   clear HO HB
   obtain ⟨bb, rfl, HBB, HB, HO⟩ := hcut
   go_upto_if 185 with (fail)
   go_cut [] (fun wc => Aside0 (Below base w0 wc) ∧ Aside0 (Kd.R k74 74 wc base (fun _ => True) (.slice (some ad) n cap) (P ++ A1 ++ B1 ++ A2 ++ B2 ++ S)))
   case first =>
    as_aux_lemma =>
    cases bb with
    | true =>
     have hne := of_decide_eq_true HBB.out.symm
     have n1 : A2 ≠ [] := List.ne_nil_of_length_pos hne.1
     have n2 : B1 ≠ [] := List.ne_nil_of_length_pos hne.2
     have HCL := A0qsc_ (fun W H1 H2 => rotate_calls n cap base ad (P ++ A1) A2 B1 (B2 ++ S) w0 W n1 n2 H1 H2 hb0 hn zs zm ze (by have := LA1.out; have := LA2.out; have := LB1.out; have := LB2.out; have := EA.out; have := EM.out; have := EB.out; have := HZS.out; have := HZE.out; have := HMID.out; simp only [List.length_append]; omega) (by have := LA1.out; have := LA2.out; have := LB1.out; have := LB2.out; have := EA.out; have := EM.out; have := EB.out; have := HZS.out; have := HZE.out; have := HMID.out; simp only [List.length_append]; omega) (by have := LA1.out; have := LA2.out; have := LB1.out; have := LB2.out; have := EA.out; have := EM.out; have := EB.out; have := HZS.out; have := HZE.out; have := HMID.out; simp only [List.length_append]; omega))
     have HO1 := A0qsc_ (show Kd.R k74 74 _ base (fun _ => True) (.slice (some ad) n cap) ((P ++ A1) ++ A2 ++ B1 ++ (B2 ++ S)) by have h := HO.out; simpa using h)
     clear HO
     go_wp2_with (go_at_call 143; refine (HCL.out _ HO1.out HB.out).mono ?_; rintro e w2 ⟨rfl, ho, hb⟩; have HO2 := A0qsc_ ho; have HB2 := A0qsc_ hb; clear ho hb HO1 HB HCL)
     go_meet
     case rel => exact ⟨HB2, ⟨by have h := HO2.out; simpa using h⟩⟩
    | false =>
     have hne := of_decide_eq_false HBB.out.symm
     have HO1 := A0qsc_ (show Kd.R k74 74 _ base (fun _ => True) (.slice (some ad) n cap) (P ++ A1 ++ B1 ++ A2 ++ B2 ++ S) from (show P ++ A1 ++ A2 ++ B1 ++ B2 ++ S = P ++ A1 ++ B1 ++ A2 ++ B2 ++ S by
      rcases Nat.eq_zero_or_pos A2.length with h | h
      ·rw [List.eq_nil_of_length_eq_zero h]; simp
      ·rw [List.eq_nil_of_length_eq_zero (show B1.length = 0 by omega)]; simp) ▸ HO.out)
     clear HO
     go_wp2
     go_meet
     case rel => exact ⟨HB, HO1⟩
   case rest =>
   as_aux_lemma =>
   clear HO HB
   obtain ⟨HB, HO⟩ := hcut
   go_upto_region 41 with (fail)
   (try simp only [hze])
   go_cut [199] (fun sx wc => ∃ bb : Bool, sx = .bool bb ∧ Aside0 (bb = decide (0 < A1.length ∧ 0 < B1.length)) ∧ Aside0 (Below base w0 wc) ∧ Aside0 (Kd.R k74 74 wc base (fun _ => True) (.slice (some ad) n cap) (P ++ A1 ++ B1 ++ A2 ++ B2 ++ S)))
   case first =>
    as_aux_lemma =>
    by_cases c1 : 0 < A1.length
    ·have d1 : decide (za < zs) = true := decide_eq_true (by have := LA1.out; have := LA2.out; have := LB1.out; have := LB2.out; have := EA.out; have := EM.out; have := EB.out; have := HZS.out; have := HZE.out; have := HMID.out; omega)
     by_cases c2 : 0 < B1.length
     ·have d2 : decide (zs < zh) = true := decide_eq_true (by have := LA1.out; have := LA2.out; have := LB1.out; have := LB2.out; have := EA.out; have := EM.out; have := EB.out; have := HZS.out; have := HZE.out; have := HMID.out; omega)
      go_wp2
      go_meet
      case rel => exact ⟨_, rfl, ⟨(decide_eq_true ⟨by omega, by omega⟩).symm⟩, HB, HO⟩
     ·have d2 : decide (zs < zh) = false := decide_eq_false (by have := LA1.out; have := LA2.out; have := LB1.out; have := LB2.out; have := EA.out; have := EM.out; have := EB.out; have := HZS.out; have := HZE.out; have := HMID.out; omega)
      go_wp2
      go_meet
      case rel => exact ⟨_, rfl, ⟨(decide_eq_false (by omega)).symm⟩, HB, HO⟩
    ·have d1 : decide (za < zs) = false := decide_eq_false (by have := LA1.out; have := LA2.out; have := LB1.out; have := LB2.out; have := EA.out; have := EM.out; have := EB.out; have := HZS.out; have := HZE.out; have := HMID.out; omega)
     go_wp2
     go_meet
     case rel => exact ⟨_, rfl, ⟨(decide_eq_false (by omega)).symm⟩, HB, HO⟩
   case rest =>
   as_aux_lemma =>
   clear HO HB
   obtain ⟨bb, rfl, HBB, HB, HO⟩ := hcut
   go_upto_if 199 with (fail)
   go_cut [] (fun wc => Aside0 (Below base w0 wc) ∧ Aside0 (Kd.R k74 74 wc base (fun _ => True) (.slice (some ad) n cap) (P ++ isort ltW (A1 ++ B1) ++ A2 ++ B2 ++ S)))
   case first =>
    as_aux_lemma =>
    cases bb with
    | true =>
     have hne := of_decide_eq_true HBB.out.symm
     have n1 : A1 ≠ [] := List.ne_nil_of_length_pos hne.1
     have n2 : B1 ≠ [] := List.ne_nil_of_length_pos hne.2
     have HCL := A0qsc_ (fun W H1 H2 => HREC.out P A1 B1 (A2 ++ B2 ++ S) W SA1.out SB1.out n1 n2 (by have := LA1.out; have := LA2.out; have := LB1.out; have := LB2.out; have := EA.out; have := EM.out; have := EB.out; have := HZS.out; have := HZE.out; have := HMID.out; omega) H1 H2 za zs zh (by have := LA1.out; have := LA2.out; have := LB1.out; have := LB2.out; have := EA.out; have := EM.out; have := EB.out; have := HZS.out; have := HZE.out; have := HMID.out; omega) (by have := LA1.out; have := LA2.out; have := LB1.out; have := LB2.out; have := EA.out; have := EM.out; have := EB.out; have := HZS.out; have := HZE.out; have := HMID.out; omega) (by have := LA1.out; have := LA2.out; have := LB1.out; have := LB2.out; have := EA.out; have := EM.out; have := EB.out; have := HZS.out; have := HZE.out; have := HMID.out; omega))
     have HO1 := A0qsc_ (show Kd.R k74 74 _ base (fun _ => True) (.slice (some ad) n cap) (P ++ A1 ++ B1 ++ (A2 ++ B2 ++ S)) by have h := HO.out; simpa using h)
     clear HO
     go_wp2_with (go_at_call 139; refine (HCL.out _ HO1.out HB.out).mono ?_; rintro e w2 ⟨rfl, ho, hb⟩; have HO2 := A0qsc_ ho; have HB2 := A0qsc_ hb; clear ho hb HO1 HB HCL)
     go_meet
     case rel => exact ⟨HB2, ⟨by have h := HO2.out; simpa using h⟩⟩
    | false =>
     have hne := of_decide_eq_false HBB.out.symm
     have HO1 := A0qsc_ (show Kd.R k74 74 _ base (fun _ => True) (.slice (some ad) n cap) (P ++ isort ltW (A1 ++ B1) ++ A2 ++ B2 ++ S) from (show P ++ A1 ++ B1 ++ A2 ++ B2 ++ S = P ++ isort ltW (A1 ++ B1) ++ A2 ++ B2 ++ S by
      rcases Nat.eq_zero_or_pos A1.length with h | h
      ·have e := List.eq_nil_of_length_eq_zero h
       rw [e, List.nil_append, isort_id weakW SB1.out]; simp
      ·have e := List.eq_nil_of_length_eq_zero (show B1.length = 0 by omega)
       rw [e]; simp only [List.append_nil]; rw [isort_id weakW SA1.out]) ▸ HO.out)
     clear HO
     go_wp2
     go_meet
     case rel => exact ⟨HB, HO1⟩
   case rest =>
   as_aux_lemma =>
   clear HO HB
   obtain ⟨HB, HO⟩ := hcut
   go_upto_region 43 with (fail)
   (try simp only [hze])
   go_cut [213] (fun sx wc => ∃ bb : Bool, sx = .bool bb ∧ Aside0 (bb = decide (0 < A2.length ∧ 0 < B2.length)) ∧ Aside0 (Below base w0 wc) ∧ Aside0 (Kd.R k74 74 wc base (fun _ => True) (.slice (some ad) n cap) (P ++ isort ltW (A1 ++ B1) ++ A2 ++ B2 ++ S)))
   case first =>
    as_aux_lemma =>
    by_cases c1 : 0 < A2.length
    ·have d1 : decide (zh < ze) = true := decide_eq_true (by have := LA1.out; have := LA2.out; have := LB1.out; have := LB2.out; have := EA.out; have := EM.out; have := EB.out; have := HZS.out; have := HZE.out; have := HMID.out; omega)
     by_cases c2 : 0 < B2.length
     ·have d2 : decide (ze < zb) = true := decide_eq_true (by have := LA1.out; have := LA2.out; have := LB1.out; have := LB2.out; have := EA.out; have := EM.out; have := EB.out; have := HZS.out; have := HZE.out; have := HMID.out; omega)
      go_wp2
      go_meet
      case rel => exact ⟨_, rfl, ⟨(decide_eq_true ⟨by omega, by omega⟩).symm⟩, HB, HO⟩
     ·have d2 : decide (ze < zb) = false := decide_eq_false (by have := LA1.out; have := LA2.out; have := LB1.out; have := LB2.out; have := EA.out; have := EM.out; have := EB.out; have := HZS.out; have := HZE.out; have := HMID.out; omega)
      go_wp2
      go_meet
      case rel => exact ⟨_, rfl, ⟨(decide_eq_false (by omega)).symm⟩, HB, HO⟩
    ·have d1 : decide (zh < ze) = false := decide_eq_false (by have := LA1.out; have := LA2.out; have := LB1.out; have := LB2.out; have := EA.out; have := EM.out; have := EB.out; have := HZS.out; have := HZE.out; have := HMID.out; omega)
     go_wp2
     go_meet
     case rel => exact ⟨_, rfl, ⟨(decide_eq_false (by omega)).symm⟩, HB, HO⟩
   case rest =>
   as_aux_lemma =>
   clear HO HB
   obtain ⟨bb, rfl, HBB, HB, HO⟩ := hcut
   cases bb with
   | true =>
    have hne := of_decide_eq_true HBB.out.symm
    have n1 : A2 ≠ [] := List.ne_nil_of_length_pos hne.1
    have n2 : B2 ≠ [] := List.ne_nil_of_length_pos hne.2
    have HCL := A0qsc_ (fun W H1 H2 => HREC.out (P ++ isort ltW (A1 ++ B1)) A2 B2 S W SA2.out SB2.out n1 n2 (by have := LA1.out; have := LA2.out; have := LB1.out; have := LB2.out; have := EA.out; have := EM.out; have := EB.out; have := HZS.out; have := HZE.out; have := HMID.out; omega) H1 H2 zh ze zb (by have := LA1.out; have := LA2.out; have := LB1.out; have := LB2.out; have := EA.out; have := EM.out; have := EB.out; have := HZS.out; have := HZE.out; have := HMID.out; simp only [List.length_append, isort_length]; omega) (by have := LA1.out; have := LA2.out; have := LB1.out; have := LB2.out; have := EA.out; have := EM.out; have := EB.out; have := HZS.out; have := HZE.out; have := HMID.out; simp only [List.length_append, isort_length]; omega) (by have := LA1.out; have := LA2.out; have := LB1.out; have := LB2.out; have := EA.out; have := EM.out; have := EB.out; have := HZS.out; have := HZE.out; have := HMID.out; simp only [List.length_append, isort_length]; omega))
    have HO1 := A0qsc_ (show Kd.R k74 74 _ base (fun _ => True) (.slice (some ad) n cap) ((P ++ isort ltW (A1 ++ B1)) ++ A2 ++ B2 ++ S) by have h := HO.out; simpa using h)
    clear HO
    go_wp2_with (go_at_call 139; refine (HCL.out _ HO1.out HB.out).mono ?_; rintro e w2 ⟨rfl, ho, hb⟩; have HO2 := A0qsc_ ho; have HB2 := A0qsc_ hb; clear ho hb HO1 HB HCL)
    (try simp only [Exit.inBlock, Exit.then])
    refine bodyPost_end (results_none rfl _ _ _) rfl ?_
    exact ⟨rfl, by rw [HCUT.out]; have h := HO2.out; simpa using h, HB2.out⟩
   | false =>
    have hne := of_decide_eq_false HBB.out.symm
    have HO1 := A0qsc_ (show Kd.R k74 74 _ base (fun _ => True) (.slice (some ad) n cap) (P ++ isort ltW (A1 ++ B1) ++ isort ltW (A2 ++ B2) ++ S) from (show P ++ isort ltW (A1 ++ B1) ++ A2 ++ B2 ++ S = P ++ isort ltW (A1 ++ B1) ++ isort ltW (A2 ++ B2) ++ S by
     rcases Nat.eq_zero_or_pos A2.length with h | h
     ·have e := List.eq_nil_of_length_eq_zero h
      rw [e, List.nil_append, isort_id weakW SB2.out]; simp
     ·have e := List.eq_nil_of_length_eq_zero (show B2.length = 0 by omega)
      rw [e]; simp only [List.append_nil]; rw [isort_id weakW SA2.out]) ▸ HO.out)
    clear HO
    go_wp2
    (try simp only [Exit.inBlock, Exit.then])
    refine bodyPost_end (results_none rfl _ _ _) rfl ?_
    exact ⟨rfl, by rw [HCUT.out]; have h := HO1.out; simpa using h, HB.out⟩
end Go.Proofs.Ythdhkoeaadahaaa.P
