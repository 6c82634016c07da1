-- PACKED by wip/kit/pack.py: what the law's proof uses of ESymB (printed words and texts of this seat)
import Derived.Test.YthdhkoeaadahaaaSERot
import Derived.Test.YthdhkoeaadahaaaSSortCore
namespace Go.Proofs.Ythdhkoeaadahaaa.P
open Go.RowKit Go.Proofs.YthdhkoeaadahaaaW.PrintWords Go.Proofs.YthdhkoeaadahaaaW.PrintLast Go.Proofs.YthdhkoeaadahaaaW.PrintMore Go.Proofs.Ythdhkoeaadahaaa.SortCore
attribute [local go_sem] Oper.semAt_some
set_option linter.unusedVariables false
set_option linter.unusedSimpArgs false
def symA5.T : Bool × List (List Nat × List Nat) := (true, [([], []), ([], []), ([], []), ([1, 2], [1, 2]), ([3], [3]), ([], []), ([], []), ([5, 6], [5, 6]), ([7], [7]), ([0, 4, 8], [0, 4, 8]), ([9], [9])])
def symA5.B : List Nat := [0, 0, 0, 6, 14, 0, 0, 96, 224, 511, 1023]
theorem symA5.tab : rtab .any (opsOf Try.f139 5) = symA5.T := by kernel_rfl
theorem symA5.bits : waitsOk symA5.T.2 symA5.B = true := by kernel_rfl
def symA11.T : Bool × List (List Nat × List Nat) := (true, [([], []), ([], []), ([], []), ([], []), ([3], [3]), ([], []), ([], []), ([6], [6]), ([5, 7], [5, 7]), ([8], [8]), ([], []), ([], []), ([10, 11], [10, 11]), ([12], [12]), ([0, 1, 0, 1, 5, 6, 7, 8, 9, 13], [0, 1]), ([14, 9, 0, 1, 5, 6, 7, 8, 9, 13], [9, 14]), ([2, 4, 0, 1, 2, 3, 4, 5, 6, 7, 8, 9, 10, 11, 12, 13, 14, 15], [2, 4]), ([16, 13, 15, 0, 1, 2, 3, 4, 5, 6, 7, 8, 9, 10, 11, 12, 13, 14, 15], [13, 16])])
def symA11.B : List Nat := [0, 0, 0, 0, 8, 0, 0, 64, 224, 480, 0, 0, 3072, 7168, 16355, 32739, 65535, 131071]
theorem symA11.tab : rtab .any (opsOf Try.f139 11) = symA11.T := by kernel_rfl
theorem symA11.bits : waitsOk symA11.T.2 symA11.B = true := by kernel_rfl
theorem order_is (x y : S74) : ∃ (bo : Bool) (o : Int), ltW x y = bo ∧ fold_order.f 5 x.f0 x.f1 x.f2 y.f0 y.f1 y.f2 = some o ∧ decide (o < 0) = bo := by
 obtain ⟨o, ho, ho1, ho2⟩ := order_f x y
 refine ⟨ltW x y, o, rfl, ho, ?_⟩
 cases hbo : ltW x y with
 | true => exact decide_eq_true (ho1 hbo)
 | false => exact decide_eq_false (ho2 hbo)
theorem u64_half (x : Int) (h0 : 0 ≤ x) (h1 : x ≤ 9000000) : wrap64 (IntKind.u64.wrap (wrap64 x) / 2) = x / 2 := by
 have e1 : wrap64 x = x := by unfold wrap64; omega
 have e2 : IntKind.u64.wrap x = x := by
  unfold IntKind.wrap
  simp [IntKind.bits, IntKind.signed]
  omega
 rw [e1, e2]; unfold wrap64; omega
theorem rd_at (X Y : List S74) (y : S74) (z : Int) (h : z = (X.length : Int)) : rd_T74 (X ++ y :: Y) z = y := by
 rw [h]; exact rd_mid X y Y
theorem A0qsb_ {p : Prop} (h : p) : Aside0 p := ⟨h⟩
theorem z1qsb_ {α : Type} (l : List α) (i : Nat) (a : α) : l.toArray.setIfInBounds i a = (l.set i a).toArray := List.setIfInBounds_toArray l i a
theorem z2qsb_ {α : Type} {x : α} {xs : List α} {a : α} : (x :: xs).set 0 a = a :: xs := List.set_cons_zero
theorem z3qsb_ {α : Type} {x : α} {xs : List α} {n : Nat} {a : α} : (x :: xs).set (n + 1) a = x :: xs.set n a := List.set_cons_succ
abbrev mk0qsb_ : Array Bool := #[false, false, false, false, false, false, false, false, false, false, false]
abbrev mk1qsb_ : Array Bool := #[true, false, false, false, false, false, false, false, false, false, false]
abbrev mk2qsb_ : Array Bool := #[true, true, false, false, false, false, false, false, false, false, false]
abbrev mk3qsb_ : Array Bool := #[true, true, true, false, false, false, false, false, false, false, false]
abbrev mk4qsb_ : Array Bool := #[true, true, true, true, false, false, false, false, false, false, false]
abbrev mk5qsb_ : Array Bool := #[true, true, true, true, false, true, false, false, false, false, false]
abbrev mk6qsb_ : Array Bool := #[true, true, true, true, false, true, true, false, false, false, false]
abbrev mk7qsb_ : Array Bool := #[true, true, true, true, false, true, true, true, false, false, false]
abbrev mk8qsb_ : Array Bool := #[true, true, true, true, true, true, true, true, false, false, false]
abbrev mk9qsb_ : Array Bool := #[true, true, true, true, true, true, true, true, true, false, false]
abbrev mk10qsb_ : Array Bool := #[true, true, true, true, true, true, true, true, true, true, false]
abbrev mk11qsb_ : Array Bool := #[true, true, true, true, true, true, true, true, true, true, true]
abbrev mk12qsb_ : Array Bool := #[false, false, false, false, false, false, false, false, false, false, false, false, false, false, false, false, false, false]
abbrev mk13qsb_ : Array Bool := #[true, false, false, false, false, false, false, false, false, false, false, false, false, false, false, false, false, false]
abbrev mk14qsb_ : Array Bool := #[true, true, false, false, false, false, false, false, false, false, false, false, false, false, false, false, false, false]
abbrev mk15qsb_ : Array Bool := #[true, true, true, false, false, false, false, false, false, false, false, false, false, false, false, false, false, false]
abbrev mk16qsb_ : Array Bool := #[true, true, true, true, false, false, false, false, false, false, false, false, false, false, false, false, false, false]
abbrev mk17qsb_ : Array Bool := #[true, true, true, true, true, false, false, false, false, false, false, false, false, false, false, false, false, false]
abbrev mk18qsb_ : Array Bool := #[true, true, true, true, true, true, false, false, false, false, false, false, false, false, false, false, false, false]
abbrev mk19qsb_ : Array Bool := #[true, true, true, true, true, true, true, false, false, false, false, false, false, false, false, false, false, false]
abbrev mk20qsb_ : Array Bool := #[true, true, true, true, true, true, true, true, false, false, false, false, false, false, false, false, false, false]
abbrev mk21qsb_ : Array Bool := #[true, true, true, true, true, true, true, true, true, false, false, false, false, false, false, false, false, false]
abbrev mk22qsb_ : Array Bool := #[true, true, true, true, true, true, true, true, true, false, true, false, false, false, false, false, false, false]
abbrev mk23qsb_ : Array Bool := #[true, true, true, true, true, true, true, true, true, false, true, true, false, false, false, false, false, false]
abbrev mk24qsb_ : Array Bool := #[true, true, true, true, true, true, true, true, true, false, true, true, true, false, false, false, false, false]
abbrev mk25qsb_ : Array Bool := #[true, true, true, true, true, true, true, true, true, true, true, true, true, false, false, false, false, false]
abbrev mk26qsb_ : Array Bool := #[true, true, true, true, true, true, true, true, true, true, true, true, true, true, false, false, false, false]
abbrev mk27qsb_ : Array Bool := #[true, true, true, true, true, true, true, true, true, true, true, true, true, true, true, false, false, false]
abbrev mk28qsb_ : Array Bool := #[true, true, true, true, true, true, true, true, true, true, true, true, true, true, true, true, false, false]
abbrev mk29qsb_ : Array Bool := #[true, true, true, true, true, true, true, true, true, true, true, true, true, true, true, true, true, false]
abbrev mk30qsb_ : Array Bool := #[true, true, true, true, true, true, true, true, true, true, true, true, true, true, true, true, true, true]
abbrev mk31qsb_ : Array Bool := #[false, false, false, false, false, false, false, false, false, false, false, false]
abbrev mk32qsb_ : Array Bool := #[true, false, false, false, false, false, false, false, false, false, false, false]
abbrev mk33qsb_ : Array Bool := #[true, true, false, false, false, false, false, false, false, false, false, false]
abbrev mk34qsb_ : Array Bool := #[true, true, true, false, false, false, false, false, false, false, false, false]
abbrev mk35qsb_ : Array Bool := #[true, true, true, true, false, false, false, false, false, false, false, false]
abbrev mk36qsb_ : Array Bool := #[true, true, true, true, false, true, false, false, false, false, false, false]
abbrev mk37qsb_ : Array Bool := #[true, true, true, true, false, true, true, false, false, false, false, false]
abbrev mk38qsb_ : Array Bool := #[true, true, true, true, false, true, true, true, false, false, false, false]
abbrev mk39qsb_ : Array Bool := #[true, true, true, true, true, true, true, true, false, false, false, false]
abbrev mk40qsb_ : Array Bool := #[true, true, true, true, true, true, true, true, true, false, false, false]
abbrev mk41qsb_ : Array Bool := #[true, true, true, true, true, true, true, true, true, true, false, false]
abbrev mk42qsb_ : Array Bool := #[true, true, true, true, true, true, true, true, true, true, true, false]
abbrev mk43qsb_ : Array Bool := #[true, true, true, true, true, true, true, true, true, true, true, true]
set_option maxRecDepth 100000 in
set_option maxHeartbeats 8000000 in
theorem sym_front (n cap base : Nat) (ad : Addr) (P : List S74) (x : S74) (B S : List S74) (w0 w : World) (hBs : Sorted ltW B) (HO0 : Kd.R k74 74 w base (fun _ => True) (.slice (some ad) n cap) (P ++ [x] ++ B ++ S)) (HB0 : Below base w0 w) (hb0 : base ≤ w0.heap.size) (hn : n ≤ 1000000) (za zm zb : Int) (ea : za = (P.length : Int)) (em : zm = ((P.length + 1 : Nat) : Int)) (eb : zb = ((P.length + 1 + B.length : Nat) : Int)) :
  Calls Try.prog 139 #[.slice (some ad) n cap, .int .i64 za, .int .i64 zm, .int .i64 zb, .func (.func 101) #[] #[]] w fun e w' => e = .returned (.tuple #[]) ∧ Kd.R k74 74 w' base (fun _ => True) (.slice (some ad) n cap) (P ++ isort ltW ([x] ++ B) ++ S) ∧ Below base w0 w' := by
 have hu74 := Try.underlying74
 have HLEN := A0qsb_ (show P.length + 1 + B.length + S.length = n by have h1 := (Kd.R_reads' HO0).1; simp only [List.length_append, List.length_singleton] at h1; omega)
 have HO := A0qsb_ HO0
 have HB := A0qsb_ HB0
 have EA := A0qsb_ ea
 have EM := A0qsb_ em
 have EB := A0qsb_ eb
 have HS := A0qsb_ hBs
 obtain ⟨zd, hzd⟩ : ∃ z, IntKind.i64.wrap (zm - za) = z := ⟨_, rfl⟩
 have e1 : (zd == 1) = true := beq_iff_eq.2 (by rw [← hzd, i64_w]; have := HLEN.out; unfold wrap64; omega)
 have e2 : decide (zd = 1) = true := decide_eq_true (beq_iff_eq.1 e1)
 clear HO0 HB0 ea eb em hBs
 go_enter Try.func139, Try.ntmps139
 go_wp2
 go_loopg [10, 11] B.length (fun gg s10 s11 wr => ∃ (i j : Nat) (zi zj : Int), Aside0 (i ≤ j ∧ j ≤ B.length) ∧ Aside0 (i = 0 ∨ ∀ (h : i - 1 < B.length), ltW B[i - 1] x = true) ∧ Aside0 (j = B.length ∨ ∀ (h : j < B.length), ltW B[j] x = false) ∧ j - i ≤ gg ∧ Aside0 (zi = ((P.length + 1 + i : Nat) : Int)) ∧ Aside0 (zj = ((P.length + 1 + j : Nat) : Int)) ∧ s10 = .int .i64 zi ∧ s11 = .int .i64 zj ∧ Aside0 (Below base w0 wr) ∧ Aside0 (Kd.R k74 74 wr base (fun _ => True) (.slice (some ad) n cap) (P ++ [x] ++ B ++ S)))
 case atStart =>
  exact ⟨0, B.length, zm, zb, ⟨Nat.zero_le _, Nat.le_refl _⟩, ⟨.inl rfl⟩, ⟨.inl rfl⟩, by omega, EM, EB, rfl, rfl, HB, HO⟩
 case round =>
  clear HO HB
  obtain ⟨i, j, zi, zj, HIJ, F1, F2, hg, HZI, HZJ, rfl, rfl, HB, HO⟩ := hrel
  by_cases hlt : i < j
  ·have e0 : decide (zi < zj) = true := decide_eq_true (by have := HZI.out; have := HZJ.out; omega)
   obtain ⟨zh, hzh⟩ : ∃ z, wrap64 (IntKind.u64.wrap (wrap64 (zi + zj)) / 2) = z := ⟨_, rfl⟩
   obtain ⟨q, hq1, hq2, hq3⟩ : ∃ q : Nat, i ≤ q ∧ q < j ∧ zh = ((P.length + 1 + q : Nat) : Int) := by
    refine ⟨(i + j) / 2, by omega, by omega, ?_⟩
    have h1 := HZI.out; have h2 := HZJ.out; have h3 := HLEN.out; have h4 := HIJ.out
    rw [← hzh, u64_half _ (by omega) (by omega)]; omega
   have hqB : q < B.length := by have := HIJ.out; omega
   obtain ⟨z1, hz1⟩ : ∃ z, wrap64 (zh + 1) = z := ⟨_, rfl⟩
   have HZ1 := A0qsb_ (show z1 = ((P.length + 1 + (q + 1) : Nat) : Int) by have := HLEN.out; rw [← hz1]; unfold wrap64; omega)
   obtain ⟨y, hy⟩ : ∃ y, B[q] = y := ⟨_, rfl⟩
   have HY := A0qsb_ hy
   have HZH := A0qsb_ hq3
   have HQ := A0qsb_ hq1
   have HQ2 := A0qsb_ hq2
   have HQB := A0qsb_ hqB
   obtain ⟨bo, o, hbo, ho, eo⟩ := order_is y x
   have HBO := A0qsb_ hbo
   have HOR := A0qsb_ (fun (W : World) => fold_order.calls 5 y.f0 y.f1 y.f2 x.f0 x.f1 x.f2 o W ho)
   have HV := A0qsb_ (show rd_T74 (P ++ [x] ++ B ++ S) zh = y ∧ rd_T74 (P ++ [x] ++ B ++ S) za = x by
    constructor
    ·have e : P ++ [x] ++ B ++ S = (P ++ [x] ++ B.take q) ++ y :: (B.drop (q + 1) ++ S) := by
      have : B = B.take q ++ y :: B.drop (q + 1) := by rw [← hy, ← List.drop_eq_getElem_cons hqB, List.take_append_drop]
      conv => lhs; rw [this]
      simp
     rw [e]
     exact rd_at _ _ _ _ (by rw [hq3]; simp; omega)
    ·have e : P ++ [x] ++ B ++ S = P ++ x :: (B ++ S) := by simp
     rw [e]
     exact rd_at _ _ _ _ EA.out)
   have p1 : (0 ≤ zh) = True := eq_true (by omega)
   have q1 : (zh < (n : Int)) = True := eq_true (by have := HLEN.out; omega)
   have p2 : (0 ≤ za) = True := eq_true (by have := EA.out; omega)
   have q2 : (za < (n : Int)) = True := eq_true (by have := EA.out; have := HLEN.out; omega)
   clear hy hq1 hq2 hq3 hbo ho
   go_wp2
   have HO_1 := A0qsb_ (Kd.R_drew HO.out)
   have HB_1 := A0qsb_ (below_drew1 HB.out)
   clear HO HB
   have hC := (Kd.R_reads' HO_1.out)
   have hC2 := hC.2.2
   rw [← hC.1] at hC2
   obtain ⟨ad1, ea, x0, x1, x2⟩ := at_T74 hC2 zh (of_eq_true p1) (of_eq_true q1)
   obtain rfl : ad = ad1 := by injection ea
   obtain ⟨ad1, ea, y0, y1, y2⟩ := at_T74 hC2 za (of_eq_true p2) (of_eq_true q2)
   obtain rfl : ad = ad1 := by injection ea
   rw [HV.out.1] at x0 x1 x2
   rw [HV.out.2] at y0 y1 y2
   clear hC hC2 ea
   refine start_ (n := 11) (S := fun w' => w'.cell? (ad.add (zh.toNat * 3)) = some (.int .i64 y.f0) ∧ w'.cell? ⟨(ad.add (zh.toNat * 3)).block, (ad.add (zh.toNat * 3)).off + 1, none⟩ = some (.int .i64 y.f1) ∧ w'.cell? ⟨(ad.add (zh.toNat * 3)).block, (ad.add (zh.toNat * 3)).off + 2, none⟩ = some (.string y.f2) ∧ w'.cell? (ad.add (za.toNat * 3)) = some (.int .i64 x.f0) ∧ w'.cell? ⟨(ad.add (za.toNat * 3)).block, (ad.add (za.toNat * 3)).off + 1, none⟩ = some (.int .i64 x.f1) ∧ w'.cell? ⟨(ad.add (za.toNat * 3)).block, (ad.add (za.toNat * 3)).off + 2, none⟩ = some (.string x.f2)) (ds := []) mk0qsb_ (by kernel_rfl) rfl rfl ⟨x0, x1, x2, y0, y1, y2⟩ (fun hHeld => ?_); refine with_tabW symA5.tab symA5.bits (fun HT_ HW_ => ?_)
   clear x0 x1 x2 y0 y1 y2
   generalize wr.drew = w_1 at HO_1 HB_1 hHeld ⊢
   refine pure_ (i:=0) (N:=some 40) (v:=?_) (a':=?_) mk1qsb_ rfl rfl (any_of HT_.out (by kernel_rfl)) (fun _ _ _ h => h) (Or.inl ⟨by rfl, ?_⟩) ?_ ?_
   rotate_left
   ·intro w'
    go_simp
    with_reducible rfl
   rotate_left
   ·simp only [Act.put, z1qsb_, z2qsb_, z3qsb_, i64_w, i32_w]
    rfl
   refine pure_ (i:=1) (N:=some 41) (v:=?_) (a':=?_) mk2qsb_ rfl rfl (any_of HT_.out (by kernel_rfl)) (fun _ _ _ h => h) (Or.inl ⟨by rfl, ?_⟩) ?_ ?_
   rotate_left
   ·intro w'
    go_simp
    with_reducible rfl
   rotate_left
   ·simp only [Act.put, z1qsb_, z2qsb_, z3qsb_, i64_w, i32_w]
    rfl
   refine pure_ (i:=2) (N:=some 42) (v:=?_) (a':=?_) mk3qsb_ rfl rfl (any_of HT_.out (by kernel_rfl)) (fun _ _ _ h => h) (Or.inl ⟨by rfl, ?_⟩) ?_ ?_
   rotate_left
   ·intro w'
    go_simp
    with_reducible rfl
   rotate_left
   ·simp only [Act.put, z1qsb_, z2qsb_, z3qsb_, i64_w, i32_w]
    rfl
   refine pure_ (i:=3) (N:=some 43) (v:=?_) (a':=?_) mk4qsb_ rfl rfl (any_of HT_.out (by kernel_rfl)) (fun _ _ _ h => h) (Or.inl ⟨by rfl, ?_⟩) ?_ ?_
   rotate_left
   ·intro w'
    go_simp
    with_reducible rfl
   rotate_left
   ·simp only [Act.put, z1qsb_, z2qsb_, z3qsb_, i64_w, i32_w]
    rfl
   refine pure_ (i:=5) (N:=some 45) (v:=?_) (a':=?_) mk5qsb_ rfl rfl (any_of HT_.out (by kernel_rfl)) (fun _ _ _ h => h) (Or.inl ⟨by rfl, ?_⟩) ?_ ?_
   rotate_left
   ·intro w'
    go_simp
    with_reducible rfl
   rotate_left
   ·simp only [Act.put, z1qsb_, z2qsb_, z3qsb_, i64_w, i32_w]
    rfl
   refine pure_ (i:=6) (N:=some 46) (v:=?_) (a':=?_) mk6qsb_ rfl rfl (any_of HT_.out (by kernel_rfl)) (fun _ _ _ h => h) (Or.inl ⟨by rfl, ?_⟩) ?_ ?_
   rotate_left
   ·intro w'
    go_simp
    with_reducible rfl
   rotate_left
   ·simp only [Act.put, z1qsb_, z2qsb_, z3qsb_, i64_w, i32_w]
    rfl
   refine pure_ (i:=7) (N:=some 47) (v:=?_) (a':=?_) mk7qsb_ rfl rfl (any_of HT_.out (by kernel_rfl)) (fun _ _ _ h => h) (Or.inl ⟨by rfl, ?_⟩) ?_ ?_
   rotate_left
   ·intro w'
    go_simp
    with_reducible rfl
   rotate_left
   ·simp only [Act.put, z1qsb_, z2qsb_, z3qsb_, i64_w, i32_w]
    rfl
   refine take_ (i:=4) (N:=some 44) (v:=?_) (a':=?_) mk8qsb_ rfl rfl (take_ofW HT_.out HW_.out (by kernel_rfl)) (fun _ _ _ h => h) (Or.inl ⟨by rfl, ?_⟩) hHeld ?_ ?_
   rotate_left
   ·rintro w' ⟨s0, s1, s2, s3, s4, s5⟩
    go_simp
    with_reducible rfl
   rotate_left
   ·simp only [Act.put, z1qsb_, z2qsb_, z3qsb_, i64_w, i32_w]
    rfl
   refine take_ (i:=8) (N:=some 48) (v:=?_) (a':=?_) mk9qsb_ rfl rfl (take_ofW HT_.out HW_.out (by kernel_rfl)) (fun _ _ _ h => h) (Or.inl ⟨by rfl, ?_⟩) hHeld ?_ ?_
   rotate_left
   ·rintro w' ⟨s0, s1, s2, s3, s4, s5⟩
    go_simp
    with_reducible rfl
   rotate_left
   ·simp only [Act.put, z1qsb_, z2qsb_, z3qsb_, i64_w, i32_w]
    rfl
   refine one_ (i:=9) (N:=some 49) mk10qsb_ rfl rfl (one_of HT_.out (by kernel_rfl)) (by decide) (fun K hK => ?_)
   refine call_ 101 #[.agg #[.int .i64 y.f0, .int .i64 y.f1, .string y.f2], .agg #[.int .i64 x.f0, .int .i64 x.f1, .string x.f2]] (by rfl) rfl (by first | (go_simp; done) | (go_simp; rfl)) ?_
   refine (HOR.out w_1).mono ?_
   rintro e w_2 ⟨rfl, hb⟩
   refine ⟨_, rfl, ?_⟩
   have HO_2 := A0qsb_ (Kd.R_below HO_1.out hb)
   have HB_2 := A0qsb_ (HB_1.out.trans (hb.mono (Nat.le_trans hb0 HB_1.out.size)))
   obtain ⟨s0, s1, s2, s3, s4, s5⟩ := hHeld
   refine hK.out _ _ ⟨(hb.cell (World.block_lt_of_cell? _ _ s0)).trans s0, (hb.cell (World.block_lt_of_cell? _ _ s1)).trans s1, (hb.cell (World.block_lt_of_cell? _ _ s2)).trans s2, (hb.cell (World.block_lt_of_cell? _ _ s3)).trans s3, (hb.cell (World.block_lt_of_cell? _ _ s4)).trans s4, (hb.cell (World.block_lt_of_cell? _ _ s5)).trans s5⟩ (fun hHeld => ?_)
   clear hK K HO_1 HB_1 hb s0 s1 s2 s3 s4 s5
   refine norm_ (a' := ?_) ?_ ?_
   rotate_left
   ·show Act.put _ (some 49) _ = _
    simp only [Act.put, z1qsb_, z2qsb_, z3qsb_, i64_w, i32_w]
    rfl
   refine pure_ (i:=10) (N:=some 50) (v:=?_) (a':=?_) mk11qsb_ rfl rfl (any_of HT_.out (by kernel_rfl)) (fun _ _ _ h => h) (Or.inl ⟨by rfl, ?_⟩) ?_ ?_
   rotate_left
   ·intro w'
    go_simp
    with_reducible rfl
   rotate_left
   ·simp only [Act.put, z1qsb_, z2qsb_, z3qsb_, i64_w, i32_w]
    rfl
   refine done_ (done_of HT_.out (by kernel_rfl)) ?_
   clear hHeld HT_ HW_
   cases bo with
   | true =>
    clear HV
    go_wp2
    go_roundg (j - q - 1)
    case measure => have := HQ.out; have := HQ2.out; omega
    case rel =>
     refine ⟨q + 1, j, z1, zj, ⟨by have := HQ2.out; have := HIJ.out; omega⟩, ⟨.inr (fun h => ?_)⟩, F2, by omega, HZ1, HZJ, ?_, rfl, HB_2, HO_2⟩
     ·have e := HY.out
      have e2 := HBO.out
      rw [← e] at e2
      exact e2
     ·first | rfl | rw [← hz1] | (simp only [← hz1, i64_w])
   | false =>
    clear HV
    go_wp2
    go_roundg (q - i)
    case measure => have := HQ.out; have := HQ2.out; omega
    case rel =>
     refine ⟨i, q, zi, zh, ⟨by have := HQ.out; have := HQB.out; omega⟩, F1, ⟨.inr (fun h => ?_)⟩, by omega, HZI, HZH, rfl, ?_, HB_2, HO_2⟩
     ·have e := HY.out
      have e2 := HBO.out
      rw [← e] at e2
      exact e2
     ·first | rfl | rw [← hzh] | (simp only [← hzh, i64_w])
  ·have e0 : decide (zi < zj) = false := decide_eq_false (by have := HZI.out; have := HZJ.out; omega)
   have hij : i = j := by have := HIJ.out; omega
   have HCUT := A0qsb_ (front_cut weakW HS.out i (by have := HIJ.out; omega) F1.out (by rw [hij]; exact F2.out))
   obtain ⟨ze, hze⟩ : ∃ z, IntKind.i64.wrap (zi - 1) = z := ⟨_, rfl⟩
   have hze' : wrap64 (zi - 1) = ze := by rw [← hze, i64_w]
   have HZE := A0qsb_ (show ze = ((P.length + i : Nat) : Int) by have := HZI.out; have := HLEN.out; have := HIJ.out; rw [← hze']; unfold wrap64; omega)
   have hiB : i ≤ B.length := by have := HIJ.out; omega
   have HIB := A0qsb_ hiB
   clear hij hiB F1 F2 hg
   go_wp2
   go_loopg [13] i (fun gg s13 wr => ∃ (q : Nat) (zk : Int), Aside0 (q ≤ i) ∧ i - q ≤ gg ∧ Aside0 (zk = ((P.length + q : Nat) : Int)) ∧ s13 = .int .i64 zk ∧ Aside0 (Below base w0 wr) ∧ Aside0 (Kd.R k74 74 wr base (fun _ => True) (.slice (some ad) n cap) (P ++ (B.take q ++ x :: B.drop q) ++ S)))
   case atStart =>
    exact ⟨0, za, ⟨Nat.zero_le _⟩, by omega, ⟨by have := EA.out; omega⟩, rfl, HB, ⟨by have h := HO.out; simpa using h⟩⟩
   case round =>
    clear HO HB
    obtain ⟨q, zk, HQ, hg, HZK, rfl, HB, HO⟩ := hrel
    by_cases hlt2 : q < i
    ·have e3 : decide (zk < ze) = true := decide_eq_true (by have := HZK.out; have := HZE.out; omega)
     have hqB : q < B.length := by have := HIB.out; omega
     obtain ⟨y, hy⟩ : ∃ y, B[q] = y := ⟨_, rfl⟩
     obtain ⟨z2, hz2⟩ : ∃ z, IntKind.i64.wrap (zk + 1) = z := ⟨_, rfl⟩
     have HZ2 := A0qsb_ (show z2 = ((P.length + (q + 1) : Nat) : Int) by have := HLEN.out; have := HZK.out; rw [← hz2, i64_w]; unfold wrap64; omega)
     have hd : B.drop q = y :: B.drop (q + 1) := by rw [← hy]; exact List.drop_eq_getElem_cons hqB
     have ht : B.take (q + 1) = B.take q ++ [y] := by rw [← hy]; exact List.take_succ_eq_append_getElem hqB
     have el : P ++ (B.take q ++ x :: B.drop q) ++ S = (P ++ B.take q) ++ x :: (y :: (B.drop (q + 1) ++ S)) := by rw [hd]; simp
     have hlen : (P ++ B.take q).length = P.length + q := by rw [List.length_append, List.length_take]; omega
     have HV := A0qsb_ (show rd_T74 (P ++ (B.take q ++ x :: B.drop q) ++ S) zk = x ∧ rd_T74 (P ++ (B.take q ++ x :: B.drop q) ++ S) z2 = y by
      constructor
      ·rw [el]; exact rd_at _ _ _ _ (by rw [hlen]; exact HZK.out)
      ·rw [el, show (P ++ B.take q) ++ x :: (y :: (B.drop (q + 1) ++ S)) = ((P ++ B.take q) ++ [x]) ++ y :: (B.drop (q + 1) ++ S) by simp]; exact rd_at _ _ _ _ (by rw [List.length_append, hlen]; exact HZ2.out))
     have HSET := A0qsb_ (show ((P ++ (B.take q ++ x :: B.drop q) ++ S).set zk.toNat y).set z2.toNat x = P ++ (B.take (q + 1) ++ x :: B.drop (q + 1)) ++ S by
      have h1 : zk.toNat = (P ++ B.take q).length := by rw [hlen, HZK.out]; omega
      have h2 : z2.toNat = (P ++ B.take q).length + 1 + ([] : List S74).length := by rw [hlen, HZ2.out]; simp; omega
      rw [el, h1, h2]
      have := set2 (P ++ B.take q) [] (B.drop (q + 1) ++ S) x y
      rw [List.nil_append] at this
      rw [this, ht]
      simp)
     have p1 : (0 ≤ zk) = True := eq_true (by have := HZK.out; omega)
     have q1 : (zk < (n : Int)) = True := eq_true (by have := HZK.out; have := HLEN.out; omega)
     have p2 : (0 ≤ z2) = True := eq_true (by have := HZ2.out; omega)
     have q2 : (z2 < (n : Int)) = True := eq_true (by have := HZ2.out; have := HLEN.out; omega)
     clear el hlen hd ht hy
     go_wp2
     have HO_1 := A0qsb_ (Kd.R_drew HO.out)
     have HB_1 := A0qsb_ (below_drew1 HB.out)
     clear HO HB
     have hC := (Kd.R_reads' HO_1.out)
     have hC2 := hC.2.2
     rw [← hC.1] at hC2
     obtain ⟨ad1, ea, x0, x1, x2⟩ := at_T74 hC2 zk (of_eq_true p1) (of_eq_true q1)
     obtain rfl : ad = ad1 := by injection ea
     obtain ⟨ad1, ea, y0, y1, y2⟩ := at_T74 hC2 z2 (of_eq_true p2) (of_eq_true q2)
     obtain rfl : ad = ad1 := by injection ea
     rw [HV.out.1] at x0 x1 x2
     rw [HV.out.2] at y0 y1 y2
     clear hC hC2 ea
     refine start_ (n := 18) (S := fun w' => w'.cell? (ad.add (zk.toNat * 3)) = some (.int .i64 x.f0) ∧ w'.cell? ⟨(ad.add (zk.toNat * 3)).block, (ad.add (zk.toNat * 3)).off + 1, none⟩ = some (.int .i64 x.f1) ∧ w'.cell? ⟨(ad.add (zk.toNat * 3)).block, (ad.add (zk.toNat * 3)).off + 2, none⟩ = some (.string x.f2) ∧ w'.cell? (ad.add (z2.toNat * 3)) = some (.int .i64 y.f0) ∧ w'.cell? ⟨(ad.add (z2.toNat * 3)).block, (ad.add (z2.toNat * 3)).off + 1, none⟩ = some (.int .i64 y.f1) ∧ w'.cell? ⟨(ad.add (z2.toNat * 3)).block, (ad.add (z2.toNat * 3)).off + 2, none⟩ = some (.string y.f2)) (ds := [15, 17]) mk12qsb_ (by kernel_rfl) rfl rfl ⟨x0, x1, x2, y0, y1, y2⟩ (fun hHeld => ?_); refine with_tabW symA11.tab symA11.bits (fun HT_ HW_ => ?_)
     clear x0 x1 x2 y0 y1 y2
     generalize wr.drew = w_1 at HO_1 HB_1 hHeld ⊢
     refine pure_ (i:=0) (N:=some 61) (v:=?_) (a':=?_) mk13qsb_ rfl rfl (any_of HT_.out (by kernel_rfl)) (fun _ _ _ h => h) (Or.inl ⟨by rfl, ?_⟩) ?_ ?_
     rotate_left
     ·intro w'
      go_simp
      with_reducible rfl
     rotate_left
     ·simp only [Act.put, z1qsb_, z2qsb_, z3qsb_, i64_w, i32_w]
      rfl
     refine pure_ (i:=1) (N:=some 62) (v:=?_) (a':=?_) mk14qsb_ rfl rfl (any_of HT_.out (by kernel_rfl)) (fun _ _ _ h => h) (Or.inl ⟨by rfl, ?_⟩) ?_ ?_
     rotate_left
     ·intro w'
      go_simp
      with_reducible rfl
     rotate_left
     ·simp only [Act.put, z1qsb_, z2qsb_, z3qsb_, i64_w, i32_w]
      rfl
     refine pure_ (i:=2) (N:=some 63) (v:=?_) (a':=?_) mk15qsb_ rfl rfl (any_of HT_.out (by kernel_rfl)) (fun _ _ _ h => h) (Or.inl ⟨by rfl, ?_⟩) ?_ ?_
     rotate_left
     ·intro w'
      go_simp
      with_reducible rfl
     rotate_left
     ·simp only [Act.put, z1qsb_, z2qsb_, z3qsb_, i64_w, i32_w]
      rfl
     refine pure_ (i:=3) (N:=some 64) (v:=?_) (a':=?_) mk16qsb_ rfl rfl (any_of HT_.out (by kernel_rfl)) (fun _ _ _ h => h) (Or.inl ⟨by rfl, ?_⟩) ?_ ?_
     rotate_left
     ·intro w'
      go_simp
      with_reducible rfl
     rotate_left
     ·simp only [Act.put, z1qsb_, z2qsb_, z3qsb_, i64_w, i32_w]
      rfl
     refine pure_ (i:=4) (N:=some 65) (v:=?_) (a':=?_) mk17qsb_ rfl rfl (any_of HT_.out (by kernel_rfl)) (fun _ _ _ h => h) (Or.inl ⟨by rfl, ?_⟩) ?_ ?_
     rotate_left
     ·intro w'
      go_simp
      with_reducible rfl
     rotate_left
     ·simp only [Act.put, z1qsb_, z2qsb_, z3qsb_, i64_w, i32_w]
      rfl
     refine pure_ (i:=5) (N:=some 66) (v:=?_) (a':=?_) mk18qsb_ rfl rfl (any_of HT_.out (by kernel_rfl)) (fun _ _ _ h => h) (Or.inl ⟨by rfl, ?_⟩) ?_ ?_
     rotate_left
     ·intro w'
      go_simp
      with_reducible rfl
     rotate_left
     ·simp only [Act.put, z1qsb_, z2qsb_, z3qsb_, i64_w, i32_w]
      rfl
     refine pure_ (i:=6) (N:=some 67) (v:=?_) (a':=?_) mk19qsb_ rfl rfl (any_of HT_.out (by kernel_rfl)) (fun _ _ _ h => h) (Or.inl ⟨by rfl, ?_⟩) ?_ ?_
     rotate_left
     ·intro w'
      go_simp
      with_reducible rfl
     rotate_left
     ·simp only [Act.put, z1qsb_, z2qsb_, z3qsb_, i64_w, i32_w]
      rfl
     refine pure_ (i:=7) (N:=some 68) (v:=?_) (a':=?_) mk20qsb_ rfl rfl (any_of HT_.out (by kernel_rfl)) (fun _ _ _ h => h) (Or.inl ⟨by rfl, ?_⟩) ?_ ?_
     rotate_left
     ·intro w'
      go_simp
      with_reducible rfl
     rotate_left
     ·simp only [Act.put, z1qsb_, z2qsb_, z3qsb_, i64_w, i32_w]
      rfl
     refine pure_ (i:=8) (N:=some 69) (v:=?_) (a':=?_) mk21qsb_ rfl rfl (any_of HT_.out (by kernel_rfl)) (fun _ _ _ h => h) (Or.inl ⟨by rfl, ?_⟩) ?_ ?_
     rotate_left
     ·intro w'
      go_simp
      with_reducible rfl
     rotate_left
     ·simp only [Act.put, z1qsb_, z2qsb_, z3qsb_, i64_w, i32_w]
      rfl
     refine pure_ (i:=10) (N:=some 71) (v:=?_) (a':=?_) mk22qsb_ rfl rfl (any_of HT_.out (by kernel_rfl)) (fun _ _ _ h => h) (Or.inl ⟨by rfl, ?_⟩) ?_ ?_
     rotate_left
     ·intro w'
      go_simp
      with_reducible rfl
     rotate_left
     ·simp only [Act.put, z1qsb_, z2qsb_, z3qsb_, i64_w, i32_w]
      rfl
     refine pure_ (i:=11) (N:=some 72) (v:=?_) (a':=?_) mk23qsb_ rfl rfl (any_of HT_.out (by kernel_rfl)) (fun _ _ _ h => h) (Or.inl ⟨by rfl, ?_⟩) ?_ ?_
     rotate_left
     ·intro w'
      go_simp
      with_reducible rfl
     rotate_left
     ·simp only [Act.put, z1qsb_, z2qsb_, z3qsb_, i64_w, i32_w]
      rfl
     refine pure_ (i:=12) (N:=some 73) (v:=?_) (a':=?_) mk24qsb_ rfl rfl (any_of HT_.out (by kernel_rfl)) (fun _ _ _ h => h) (Or.inl ⟨by rfl, ?_⟩) ?_ ?_
     rotate_left
     ·intro w'
      go_simp
      with_reducible rfl
     rotate_left
     ·simp only [Act.put, z1qsb_, z2qsb_, z3qsb_, i64_w, i32_w]
      rfl
     refine take_ (i:=9) (N:=some 70) (v:=?_) (a':=?_) mk25qsb_ rfl rfl (take_ofW HT_.out HW_.out (by kernel_rfl)) (fun _ _ _ h => h) (Or.inl ⟨by rfl, ?_⟩) hHeld ?_ ?_
     rotate_left
     ·rintro w' ⟨s0, s1, s2, s3, s4, s5⟩
      go_simp
      with_reducible rfl
     rotate_left
     ·simp only [Act.put, z1qsb_, z2qsb_, z3qsb_, i64_w, i32_w]
      rfl
     refine take_ (i:=13) (N:=some 74) (v:=?_) (a':=?_) mk26qsb_ rfl rfl (take_ofW HT_.out HW_.out (by kernel_rfl)) (fun _ _ _ h => h) (Or.inl ⟨by rfl, ?_⟩) hHeld ?_ ?_
     rotate_left
     ·rintro w' ⟨s0, s1, s2, s3, s4, s5⟩
      go_simp
      with_reducible rfl
     rotate_left
     ·simp only [Act.put, z1qsb_, z2qsb_, z3qsb_, i64_w, i32_w]
      rfl
     refine pure_ (i:=14) (N:=some 75) (v:=?_) (a':=?_) mk27qsb_ rfl rfl (any_of HT_.out (by kernel_rfl)) (fun _ _ _ h => h) (Or.inl ⟨by rfl, ?_⟩) ?_ ?_
     rotate_left
     ·intro w'
      go_simp
      with_reducible rfl
     rotate_left
     ·simp only [Act.put, z1qsb_, z2qsb_, z3qsb_, i64_w, i32_w]
      rfl
     clear hHeld
     refine last_ (i:=15) (N:=none) mk28qsb_ rfl rfl (one_of HT_.out (by kernel_rfl)) (by decide) (fun K hK => ?_)
     obtain ⟨w_2, hrun, ho, hb⟩ := st74 zk y HO_1.out (of_eq_true p1) (of_eq_true q1) HB_1.out
     refine put_ 74 (.tmp 75) (.tmp 70) _ _ (by rfl) rfl rfl rfl rfl hrun ?_
     refine hK.out _ _ ?_
     clear hK K hrun HO_1 HB_1
     have HO_2 := A0qsb_ ho
     have HB_2 := A0qsb_ hb
     clear ho hb
     refine pure_ (i:=16) (N:=some 76) (v:=?_) (a':=?_) mk29qsb_ rfl rfl (any_of HT_.out (by kernel_rfl)) (fun _ _ _ h => h) (Or.inl ⟨by rfl, ?_⟩) ?_ ?_
     rotate_left
     ·intro w'
      go_simp
      with_reducible rfl
     rotate_left
     ·simp only [Act.put, z1qsb_, z2qsb_, z3qsb_, i64_w, i32_w]
      rfl
     refine last_ (i:=17) (N:=none) mk30qsb_ rfl rfl (one_of HT_.out (by kernel_rfl)) (by decide) (fun K hK => ?_)
     obtain ⟨w_3, hrun, ho, hb⟩ := st74 z2 x HO_2.out (of_eq_true p2) (of_eq_true q2) HB_2.out
     refine put_ 74 (.tmp 76) (.tmp 74) _ _ (by rfl) rfl rfl rfl rfl hrun ?_
     refine hK.out _ _ ?_
     clear hK K hrun HO_2 HB_2
     have HO_3 := A0qsb_ ho
     have HB_3 := A0qsb_ hb
     clear ho hb
     refine done_ (done_of HT_.out (by kernel_rfl)) ?_
     clear HT_ HW_
     have HO_4 := A0qsb_ (HSET.out ▸ HO_3.out)
     clear HO_3 HSET HV
     go_wp2
     go_roundg (i - q - 1)
     case measure => omega
     case rel =>
      refine ⟨q + 1, z2, ⟨by omega⟩, by omega, HZ2, ?_, HB_3, HO_4⟩
      first | rfl | rw [← hz2] | (simp only [← hz2, i64_w])
    ·have e3 : decide (zk < ze) = false := decide_eq_false (by have := HZK.out; have := HZE.out; omega)
     have hqi : q = i := by have := HQ.out; omega
     have HD := A0qsb_ (show Kd.R k74 74 wr base (fun _ => True) (.slice (some ad) n cap) (P ++ isort ltW ([x] ++ B) ++ S) by rw [HCUT.out, ← hqi]; exact HO.out)
     clear HO hqi
     go_wp2
     exact bodyPost_ret (v := .tuple #[]) (results_none rfl _ _ _) rfl ⟨rfl, HD.out, HB.out⟩
end Go.Proofs.Ythdhkoeaadahaaa.P
namespace Go.Proofs.Ythdhkoeaadahaaa.P
open Go.RowKit Go.Proofs.YthdhkoeaadahaaaW.PrintWords Go.Proofs.YthdhkoeaadahaaaW.PrintLast Go.Proofs.YthdhkoeaadahaaaW.PrintMore Go.Proofs.Ythdhkoeaadahaaa.SortCore
attribute [local go_sem] Oper.semAt_some
set_option linter.unusedVariables false
set_option linter.unusedSimpArgs false
def symB17.T : Bool × List (List Nat × List Nat) := (true, [([], []), ([], []), ([], []), ([1, 2], [1, 2]), ([3], [3]), ([], []), ([], []), ([5, 6], [5, 6]), ([7], [7]), ([0, 4, 8], [0, 4, 8]), ([9], [9]), ([10], [10])])
def symB17.B : List Nat := [0, 0, 0, 6, 14, 0, 0, 96, 224, 511, 1023, 2047]
theorem symB17.tab : rtab .any (opsOf Try.f139 17) = symB17.T := by kernel_rfl
theorem symB17.bits : waitsOk symB17.T.2 symB17.B = true := by kernel_rfl
def symB23.T : Bool × List (List Nat × List Nat) := (true, [([], []), ([], []), ([], []), ([], []), ([3], [3]), ([], []), ([], []), ([6], [6]), ([5, 7], [5, 7]), ([8], [8]), ([], []), ([], []), ([10, 11], [10, 11]), ([12], [12]), ([0, 1, 0, 1, 5, 6, 7, 8, 9, 13], [0, 1]), ([14, 9, 0, 1, 5, 6, 7, 8, 9, 13], [9, 14]), ([2, 4, 0, 1, 2, 3, 4, 5, 6, 7, 8, 9, 10, 11, 12, 13, 14, 15], [2, 4]), ([16, 13, 15, 0, 1, 2, 3, 4, 5, 6, 7, 8, 9, 10, 11, 12, 13, 14, 15], [13, 16])])
def symB23.B : List Nat := [0, 0, 0, 0, 8, 0, 0, 64, 224, 480, 0, 0, 3072, 7168, 16355, 32739, 65535, 131071]
theorem symB23.tab : rtab .any (opsOf Try.f139 23) = symB23.T := by kernel_rfl
theorem symB23.bits : waitsOk symB23.T.2 symB23.B = true := by kernel_rfl
set_option maxRecDepth 100000 in
set_option maxHeartbeats 8000000 in
theorem sym_back (n cap base : Nat) (ad : Addr) (P A : List S74) (y : S74) (S : List S74) (w0 w : World) (hAs : Sorted ltW A) (hA1 : A.length ≠ 1) (HO0 : Kd.R k74 74 w base (fun _ => True) (.slice (some ad) n cap) (P ++ A ++ [y] ++ S)) (HB0 : Below base w0 w) (hb0 : base ≤ w0.heap.size) (hn : n ≤ 1000000) (za zm zb : Int) (ea : za = (P.length : Int)) (em : zm = ((P.length + A.length : Nat) : Int)) (eb : zb = ((P.length + A.length + 1 : Nat) : Int)) :
  Calls Try.prog 139 #[.slice (some ad) n cap, .int .i64 za, .int .i64 zm, .int .i64 zb, .func (.func 101) #[] #[]] w fun e w' => e = .returned (.tuple #[]) ∧ Kd.R k74 74 w' base (fun _ => True) (.slice (some ad) n cap) (P ++ isort ltW (A ++ [y]) ++ S) ∧ Below base w0 w' := by
 have hu74 := Try.underlying74
 have HLEN := A0qsb_ (show P.length + A.length + 1 + S.length = n by have h1 := (Kd.R_reads' HO0).1; simp only [List.length_append, List.length_singleton] at h1; omega)
 have HO := A0qsb_ HO0
 have HB := A0qsb_ HB0
 have EA := A0qsb_ ea
 have EM := A0qsb_ em
 have EB := A0qsb_ eb
 have HS := A0qsb_ hAs
 obtain ⟨zd, hzd⟩ : ∃ z, IntKind.i64.wrap (zm - za) = z := ⟨_, rfl⟩
 have e1 : (zd == 1) = false := beq_eq_false_iff_ne.2 (by rw [← hzd, i64_w]; have := HLEN.out; unfold wrap64; omega)
 have e2 : decide (zd = 1) = false := decide_eq_false (beq_eq_false_iff_ne.1 e1)
 obtain ⟨zf, hzf⟩ : ∃ z, IntKind.i64.wrap (zb - zm) = z := ⟨_, rfl⟩
 have e3 : (zf == 1) = true := beq_iff_eq.2 (by rw [← hzf, i64_w]; have := HLEN.out; unfold wrap64; omega)
 have e4 : decide (zf = 1) = true := decide_eq_true (beq_iff_eq.1 e3)
 clear HO0 HB0 ea eb em hAs hA1
 go_enter Try.func139, Try.ntmps139
 go_wp2
 go_loopg [14, 15] A.length (fun gg s14 s15 wr => ∃ (i j : Nat) (zi zj : Int), Aside0 (i ≤ j ∧ j ≤ A.length) ∧ Aside0 (i = 0 ∨ ∀ (h : i - 1 < A.length), ltW y A[i - 1] = false) ∧ Aside0 (j = A.length ∨ ∀ (h : j < A.length), ltW y A[j] = true) ∧ j - i ≤ gg ∧ Aside0 (zi = ((P.length + i : Nat) : Int)) ∧ Aside0 (zj = ((P.length + j : Nat) : Int)) ∧ s14 = .int .i64 zi ∧ s15 = .int .i64 zj ∧ Aside0 (Below base w0 wr) ∧ Aside0 (Kd.R k74 74 wr base (fun _ => True) (.slice (some ad) n cap) (P ++ A ++ [y] ++ S)))
 case atStart =>
  exact ⟨0, A.length, za, zm, ⟨Nat.zero_le _, Nat.le_refl _⟩, ⟨.inl rfl⟩, ⟨.inl rfl⟩, by omega, EA, EM, rfl, rfl, HB, HO⟩
 case round =>
  clear HO HB
  obtain ⟨i, j, zi, zj, HIJ, F1, F2, hg, HZI, HZJ, rfl, rfl, HB, HO⟩ := hrel
  by_cases hlt : i < j
  ·have e0 : decide (zi < zj) = true := decide_eq_true (by have := HZI.out; have := HZJ.out; omega)
   obtain ⟨zh, hzh⟩ : ∃ z, wrap64 (IntKind.u64.wrap (wrap64 (zi + zj)) / 2) = z := ⟨_, rfl⟩
   obtain ⟨q, hq1, hq2, hq3⟩ : ∃ q : Nat, i ≤ q ∧ q < j ∧ zh = ((P.length + q : Nat) : Int) := by
    refine ⟨(i + j) / 2, by omega, by omega, ?_⟩
    have h1 := HZI.out; have h2 := HZJ.out; have h3 := HLEN.out; have h4 := HIJ.out
    rw [← hzh, u64_half _ (by omega) (by omega)]; omega
   have hqA : q < A.length := by have := HIJ.out; omega
   obtain ⟨z1, hz1⟩ : ∃ z, wrap64 (zh + 1) = z := ⟨_, rfl⟩
   have HZ1 := A0qsb_ (show z1 = ((P.length + (q + 1) : Nat) : Int) by have := HLEN.out; rw [← hz1]; unfold wrap64; omega)
   obtain ⟨v, hv⟩ : ∃ v, A[q] = v := ⟨_, rfl⟩
   have HY := A0qsb_ hv
   have HZH := A0qsb_ hq3
   have HQ := A0qsb_ hq1
   have HQ2 := A0qsb_ hq2
   have HQA := A0qsb_ hqA
   obtain ⟨bo, o, hbo, ho, eo⟩ := order_is y v
   have HBO := A0qsb_ hbo
   have HOR := A0qsb_ (fun (W : World) => fold_order.calls 5 y.f0 y.f1 y.f2 v.f0 v.f1 v.f2 o W ho)
   have HV := A0qsb_ (show rd_T74 (P ++ A ++ [y] ++ S) zm = y ∧ rd_T74 (P ++ A ++ [y] ++ S) zh = v by
    constructor
    ·have e : P ++ A ++ [y] ++ S = (P ++ A) ++ y :: S := by simp
     rw [e]
     exact rd_at _ _ _ _ (by rw [EM.out]; simp)
    ·have e : P ++ A ++ [y] ++ S = (P ++ A.take q) ++ v :: (A.drop (q + 1) ++ y :: S) := by
      have : A = A.take q ++ v :: A.drop (q + 1) := by rw [← hv, ← List.drop_eq_getElem_cons hqA, List.take_append_drop]
      conv => lhs; rw [this]
      simp
     rw [e]
     exact rd_at _ _ _ _ (by rw [hq3]; simp; omega))
   have p1 : (0 ≤ zm) = True := eq_true (by have := EM.out; omega)
   have q1 : (zm < (n : Int)) = True := eq_true (by have := EM.out; have := HLEN.out; omega)
   have p2 : (0 ≤ zh) = True := eq_true (by omega)
   have q2 : (zh < (n : Int)) = True := eq_true (by have := HLEN.out; omega)
   clear hv hq1 hq2 hq3 hbo ho
   go_wp2
   have HO_1 := A0qsb_ (Kd.R_drew HO.out)
   have HB_1 := A0qsb_ (below_drew1 HB.out)
   clear HO HB
   have hC := (Kd.R_reads' HO_1.out)
   have hC2 := hC.2.2
   rw [← hC.1] at hC2
   obtain ⟨ad1, ea, x0, x1, x2⟩ := at_T74 hC2 zm (of_eq_true p1) (of_eq_true q1)
   obtain rfl : ad = ad1 := by injection ea
   obtain ⟨ad1, ea, y0, y1, y2⟩ := at_T74 hC2 zh (of_eq_true p2) (of_eq_true q2)
   obtain rfl : ad = ad1 := by injection ea
   rw [HV.out.1] at x0 x1 x2
   rw [HV.out.2] at y0 y1 y2
   clear hC hC2 ea
   refine start_ (n := 12) (S := fun w' => w'.cell? (ad.add (zm.toNat * 3)) = some (.int .i64 y.f0) ∧ w'.cell? ⟨(ad.add (zm.toNat * 3)).block, (ad.add (zm.toNat * 3)).off + 1, none⟩ = some (.int .i64 y.f1) ∧ w'.cell? ⟨(ad.add (zm.toNat * 3)).block, (ad.add (zm.toNat * 3)).off + 2, none⟩ = some (.string y.f2) ∧ w'.cell? (ad.add (zh.toNat * 3)) = some (.int .i64 v.f0) ∧ w'.cell? ⟨(ad.add (zh.toNat * 3)).block, (ad.add (zh.toNat * 3)).off + 1, none⟩ = some (.int .i64 v.f1) ∧ w'.cell? ⟨(ad.add (zh.toNat * 3)).block, (ad.add (zh.toNat * 3)).off + 2, none⟩ = some (.string v.f2)) (ds := []) mk31qsb_ (by kernel_rfl) rfl rfl ⟨x0, x1, x2, y0, y1, y2⟩ (fun hHeld => ?_); refine with_tabW symB17.tab symB17.bits (fun HT_ HW_ => ?_)
   clear x0 x1 x2 y0 y1 y2
   generalize wr.drew = w_1 at HO_1 HB_1 hHeld ⊢
   refine pure_ (i:=0) (N:=some 92) (v:=?_) (a':=?_) mk32qsb_ rfl rfl (any_of HT_.out (by kernel_rfl)) (fun _ _ _ h => h) (Or.inl ⟨by rfl, ?_⟩) ?_ ?_
   rotate_left
   ·intro w'
    go_simp
    with_reducible rfl
   rotate_left
   ·simp only [Act.put, z1qsb_, z2qsb_, z3qsb_, i64_w, i32_w]
    rfl
   refine pure_ (i:=1) (N:=some 93) (v:=?_) (a':=?_) mk33qsb_ rfl rfl (any_of HT_.out (by kernel_rfl)) (fun _ _ _ h => h) (Or.inl ⟨by rfl, ?_⟩) ?_ ?_
   rotate_left
   ·intro w'
    go_simp
    with_reducible rfl
   rotate_left
   ·simp only [Act.put, z1qsb_, z2qsb_, z3qsb_, i64_w, i32_w]
    rfl
   refine pure_ (i:=2) (N:=some 94) (v:=?_) (a':=?_) mk34qsb_ rfl rfl (any_of HT_.out (by kernel_rfl)) (fun _ _ _ h => h) (Or.inl ⟨by rfl, ?_⟩) ?_ ?_
   rotate_left
   ·intro w'
    go_simp
    with_reducible rfl
   rotate_left
   ·simp only [Act.put, z1qsb_, z2qsb_, z3qsb_, i64_w, i32_w]
    rfl
   refine pure_ (i:=3) (N:=some 95) (v:=?_) (a':=?_) mk35qsb_ rfl rfl (any_of HT_.out (by kernel_rfl)) (fun _ _ _ h => h) (Or.inl ⟨by rfl, ?_⟩) ?_ ?_
   rotate_left
   ·intro w'
    go_simp
    with_reducible rfl
   rotate_left
   ·simp only [Act.put, z1qsb_, z2qsb_, z3qsb_, i64_w, i32_w]
    rfl
   refine pure_ (i:=5) (N:=some 97) (v:=?_) (a':=?_) mk36qsb_ rfl rfl (any_of HT_.out (by kernel_rfl)) (fun _ _ _ h => h) (Or.inl ⟨by rfl, ?_⟩) ?_ ?_
   rotate_left
   ·intro w'
    go_simp
    with_reducible rfl
   rotate_left
   ·simp only [Act.put, z1qsb_, z2qsb_, z3qsb_, i64_w, i32_w]
    rfl
   refine pure_ (i:=6) (N:=some 98) (v:=?_) (a':=?_) mk37qsb_ rfl rfl (any_of HT_.out (by kernel_rfl)) (fun _ _ _ h => h) (Or.inl ⟨by rfl, ?_⟩) ?_ ?_
   rotate_left
   ·intro w'
    go_simp
    with_reducible rfl
   rotate_left
   ·simp only [Act.put, z1qsb_, z2qsb_, z3qsb_, i64_w, i32_w]
    rfl
   refine pure_ (i:=7) (N:=some 99) (v:=?_) (a':=?_) mk38qsb_ rfl rfl (any_of HT_.out (by kernel_rfl)) (fun _ _ _ h => h) (Or.inl ⟨by rfl, ?_⟩) ?_ ?_
   rotate_left
   ·intro w'
    go_simp
    with_reducible rfl
   rotate_left
   ·simp only [Act.put, z1qsb_, z2qsb_, z3qsb_, i64_w, i32_w]
    rfl
   refine take_ (i:=4) (N:=some 96) (v:=?_) (a':=?_) mk39qsb_ rfl rfl (take_ofW HT_.out HW_.out (by kernel_rfl)) (fun _ _ _ h => h) (Or.inl ⟨by rfl, ?_⟩) hHeld ?_ ?_
   rotate_left
   ·rintro w' ⟨s0, s1, s2, s3, s4, s5⟩
    go_simp
    with_reducible rfl
   rotate_left
   ·simp only [Act.put, z1qsb_, z2qsb_, z3qsb_, i64_w, i32_w]
    rfl
   refine take_ (i:=8) (N:=some 100) (v:=?_) (a':=?_) mk40qsb_ rfl rfl (take_ofW HT_.out HW_.out (by kernel_rfl)) (fun _ _ _ h => h) (Or.inl ⟨by rfl, ?_⟩) hHeld ?_ ?_
   rotate_left
   ·rintro w' ⟨s0, s1, s2, s3, s4, s5⟩
    go_simp
    with_reducible rfl
   rotate_left
   ·simp only [Act.put, z1qsb_, z2qsb_, z3qsb_, i64_w, i32_w]
    rfl
   refine one_ (i:=9) (N:=some 101) mk41qsb_ rfl rfl (one_of HT_.out (by kernel_rfl)) (by decide) (fun K hK => ?_)
   refine call_ 101 #[.agg #[.int .i64 y.f0, .int .i64 y.f1, .string y.f2], .agg #[.int .i64 v.f0, .int .i64 v.f1, .string v.f2]] (by rfl) rfl (by first | (go_simp; done) | (go_simp; rfl)) ?_
   refine (HOR.out w_1).mono ?_
   rintro e w_2 ⟨rfl, hb⟩
   refine ⟨_, rfl, ?_⟩
   have HO_2 := A0qsb_ (Kd.R_below HO_1.out hb)
   have HB_2 := A0qsb_ (HB_1.out.trans (hb.mono (Nat.le_trans hb0 HB_1.out.size)))
   obtain ⟨s0, s1, s2, s3, s4, s5⟩ := hHeld
   refine hK.out _ _ ⟨(hb.cell (World.block_lt_of_cell? _ _ s0)).trans s0, (hb.cell (World.block_lt_of_cell? _ _ s1)).trans s1, (hb.cell (World.block_lt_of_cell? _ _ s2)).trans s2, (hb.cell (World.block_lt_of_cell? _ _ s3)).trans s3, (hb.cell (World.block_lt_of_cell? _ _ s4)).trans s4, (hb.cell (World.block_lt_of_cell? _ _ s5)).trans s5⟩ (fun hHeld => ?_)
   clear hK K HO_1 HB_1 hb s0 s1 s2 s3 s4 s5
   refine norm_ (a' := ?_) ?_ ?_
   rotate_left
   ·show Act.put _ (some 101) _ = _
    simp only [Act.put, z1qsb_, z2qsb_, z3qsb_, i64_w, i32_w]
    rfl
   refine pure_ (i:=10) (N:=some 102) (v:=?_) (a':=?_) mk42qsb_ rfl rfl (any_of HT_.out (by kernel_rfl)) (fun _ _ _ h => h) (Or.inl ⟨by rfl, ?_⟩) ?_ ?_
   rotate_left
   ·intro w'
    go_simp
    with_reducible rfl
   rotate_left
   ·simp only [Act.put, z1qsb_, z2qsb_, z3qsb_, i64_w, i32_w]
    rfl
   refine pure_ (i:=11) (N:=some 103) (v:=?_) (a':=?_) mk43qsb_ rfl rfl (any_of HT_.out (by kernel_rfl)) (fun _ _ _ h => h) (Or.inl ⟨by rfl, ?_⟩) ?_ ?_
   rotate_left
   ·intro w'
    go_simp
    with_reducible rfl
   rotate_left
   ·simp only [Act.put, z1qsb_, z2qsb_, z3qsb_, i64_w, i32_w]
    rfl
   refine done_ (done_of HT_.out (by kernel_rfl)) ?_
   clear hHeld HT_ HW_
   cases bo with
   | true =>
    clear HV
    go_wp2
    go_roundg (q - i)
    case measure => have := HQ.out; have := HQ2.out; omega
    case rel =>
     refine ⟨i, q, zi, zh, ⟨by have := HQ.out; have := HQA.out; omega⟩, F1, ⟨.inr (fun h => ?_)⟩, by omega, HZI, HZH, rfl, ?_, HB_2, HO_2⟩
     ·have e := HY.out
      have e2 := HBO.out
      rw [← e] at e2
      exact e2
     ·first | rfl | rw [← hzh] | (simp only [← hzh, i64_w])
   | false =>
    clear HV
    go_wp2
    go_roundg (j - q - 1)
    case measure => have := HQ.out; have := HQ2.out; omega
    case rel =>
     refine ⟨q + 1, j, z1, zj, ⟨by have := HQ2.out; have := HIJ.out; omega⟩, ⟨.inr (fun h => ?_)⟩, F2, by omega, HZ1, HZJ, ?_, rfl, HB_2, HO_2⟩
     ·have e := HY.out
      have e2 := HBO.out
      rw [← e] at e2
      exact e2
     ·first | rfl | rw [← hz1] | (simp only [← hz1, i64_w])
  ·have e0 : decide (zi < zj) = false := decide_eq_false (by have := HZI.out; have := HZJ.out; omega)
   have hij : i = j := by have := HIJ.out; omega
   have HCUT := A0qsb_ (back_cut weakW HS.out i (by have := HIJ.out; omega) F1.out (by rw [hij]; exact F2.out))
   have hiA : i ≤ A.length := by have := HIJ.out; omega
   have HIA := A0qsb_ hiA
   clear hij hiA F1 F2 hg
   go_wp2
   go_loopg [17] (A.length - i) (fun gg s17 wr => ∃ (q : Nat) (zk : Int), Aside0 (i ≤ q ∧ q ≤ A.length) ∧ q - i ≤ gg ∧ Aside0 (zk = ((P.length + q : Nat) : Int)) ∧ s17 = .int .i64 zk ∧ Aside0 (Below base w0 wr) ∧ Aside0 (Kd.R k74 74 wr base (fun _ => True) (.slice (some ad) n cap) (P ++ (A.take q ++ y :: A.drop q) ++ S)))
   case atStart =>
    exact ⟨A.length, zm, ⟨HIA.out, Nat.le_refl _⟩, Nat.le_refl _, EM, rfl, HB, ⟨by have h := HO.out; simpa using h⟩⟩
   case round =>
    clear HO HB
    obtain ⟨q, zk, HQ, hg, HZK, rfl, HB, HO⟩ := hrel
    by_cases hlt2 : i < q
    ·have e5 : decide (zk > zi) = true := decide_eq_true (by have := HZK.out; have := HZI.out; omega)
     have e6 : decide (zi < zk) = true := e5
     obtain ⟨p, rfl⟩ : ∃ p, q = p + 1 := ⟨q - 1, by omega⟩
     have hpA : p < A.length := by have := HQ.out; omega
     obtain ⟨v, hv⟩ : ∃ v, A[p] = v := ⟨_, rfl⟩
     obtain ⟨z2, hz2⟩ : ∃ z, IntKind.i64.wrap (zk - 1) = z := ⟨_, rfl⟩
     have HZ2 := A0qsb_ (show z2 = ((P.length + p : Nat) : Int) by have := HLEN.out; have := HZK.out; rw [← hz2, i64_w]; unfold wrap64; omega)
     have hd : A.drop p = v :: A.drop (p + 1) := by rw [← hv]; exact List.drop_eq_getElem_cons hpA
     have ht : A.take (p + 1) = A.take p ++ [v] := by rw [← hv]; exact List.take_succ_eq_append_getElem hpA
     have hlen : (A.take p).length = p := by rw [List.length_take]; omega
     have HV := A0qsb_ (show rd_T74 (P ++ (A.take (p + 1) ++ y :: A.drop (p + 1)) ++ S) zk = y ∧ rd_T74 (P ++ (A.take (p + 1) ++ y :: A.drop (p + 1)) ++ S) z2 = v by
      rw [ht]
      constructor
      ·rw [show P ++ (A.take p ++ [v] ++ y :: A.drop (p + 1)) ++ S = (P ++ A.take p ++ [v]) ++ y :: (A.drop (p + 1) ++ S) by simp]
       exact rd_at _ _ _ _ (by rw [HZK.out]; simp only [List.length_append, List.length_singleton, hlen]; omega)
      ·rw [show P ++ (A.take p ++ [v] ++ y :: A.drop (p + 1)) ++ S = (P ++ A.take p) ++ v :: (y :: (A.drop (p + 1) ++ S)) by simp]
       exact rd_at _ _ _ _ (by rw [HZ2.out]; simp only [List.length_append, hlen]))
     have HSET := A0qsb_ (show ((P ++ (A.take (p + 1) ++ y :: A.drop (p + 1)) ++ S).set zk.toNat v).set z2.toNat y = P ++ (A.take p ++ y :: A.drop p) ++ S by
      have h1 : zk.toNat = P.length + ((A.take p).length + 1) := by rw [hlen, HZK.out]; omega
      have h2 : z2.toNat = P.length + (A.take p).length := by rw [hlen, HZ2.out]; omega
      rw [ht, h1, h2, hd]
      exact swap_mid P (A.take p) (A.drop (p + 1)) S y v)
     have p1 : (0 ≤ zk) = True := eq_true (by have := HZK.out; omega)
     have q1 : (zk < (n : Int)) = True := eq_true (by have := HZK.out; have := HLEN.out; omega)
     have p2 : (0 ≤ z2) = True := eq_true (by have := HZ2.out; omega)
     have q2 : (z2 < (n : Int)) = True := eq_true (by have := HZ2.out; have := HLEN.out; omega)
     clear hlen hd ht hv
     go_wp2
     have HO_1 := A0qsb_ (Kd.R_drew HO.out)
     have HB_1 := A0qsb_ (below_drew1 HB.out)
     clear HO HB
     have hC := (Kd.R_reads' HO_1.out)
     have hC2 := hC.2.2
     rw [← hC.1] at hC2
     obtain ⟨ad1, ea, x0, x1, x2⟩ := at_T74 hC2 zk (of_eq_true p1) (of_eq_true q1)
     obtain rfl : ad = ad1 := by injection ea
     obtain ⟨ad1, ea, y0, y1, y2⟩ := at_T74 hC2 z2 (of_eq_true p2) (of_eq_true q2)
     obtain rfl : ad = ad1 := by injection ea
     rw [HV.out.1] at x0 x1 x2
     rw [HV.out.2] at y0 y1 y2
     clear hC hC2 ea
     refine start_ (n := 18) (S := fun w' => w'.cell? (ad.add (zk.toNat * 3)) = some (.int .i64 y.f0) ∧ w'.cell? ⟨(ad.add (zk.toNat * 3)).block, (ad.add (zk.toNat * 3)).off + 1, none⟩ = some (.int .i64 y.f1) ∧ w'.cell? ⟨(ad.add (zk.toNat * 3)).block, (ad.add (zk.toNat * 3)).off + 2, none⟩ = some (.string y.f2) ∧ w'.cell? (ad.add (z2.toNat * 3)) = some (.int .i64 v.f0) ∧ w'.cell? ⟨(ad.add (z2.toNat * 3)).block, (ad.add (z2.toNat * 3)).off + 1, none⟩ = some (.int .i64 v.f1) ∧ w'.cell? ⟨(ad.add (z2.toNat * 3)).block, (ad.add (z2.toNat * 3)).off + 2, none⟩ = some (.string v.f2)) (ds := [15, 17]) mk12qsb_ (by kernel_rfl) rfl rfl ⟨x0, x1, x2, y0, y1, y2⟩ (fun hHeld => ?_); refine with_tabW symB23.tab symB23.bits (fun HT_ HW_ => ?_)
     clear x0 x1 x2 y0 y1 y2
     generalize wr.drew = w_1 at HO_1 HB_1 hHeld ⊢
     refine pure_ (i:=0) (N:=some 113) (v:=?_) (a':=?_) mk13qsb_ rfl rfl (any_of HT_.out (by kernel_rfl)) (fun _ _ _ h => h) (Or.inl ⟨by rfl, ?_⟩) ?_ ?_
     rotate_left
     ·intro w'
      go_simp
      with_reducible rfl
     rotate_left
     ·simp only [Act.put, z1qsb_, z2qsb_, z3qsb_, i64_w, i32_w]
      rfl
     refine pure_ (i:=1) (N:=some 114) (v:=?_) (a':=?_) mk14qsb_ rfl rfl (any_of HT_.out (by kernel_rfl)) (fun _ _ _ h => h) (Or.inl ⟨by rfl, ?_⟩) ?_ ?_
     rotate_left
     ·intro w'
      go_simp
      with_reducible rfl
     rotate_left
     ·simp only [Act.put, z1qsb_, z2qsb_, z3qsb_, i64_w, i32_w]
      rfl
     refine pure_ (i:=2) (N:=some 115) (v:=?_) (a':=?_) mk15qsb_ rfl rfl (any_of HT_.out (by kernel_rfl)) (fun _ _ _ h => h) (Or.inl ⟨by rfl, ?_⟩) ?_ ?_
     rotate_left
     ·intro w'
      go_simp
      with_reducible rfl
     rotate_left
     ·simp only [Act.put, z1qsb_, z2qsb_, z3qsb_, i64_w, i32_w]
      rfl
     refine pure_ (i:=3) (N:=some 116) (v:=?_) (a':=?_) mk16qsb_ rfl rfl (any_of HT_.out (by kernel_rfl)) (fun _ _ _ h => h) (Or.inl ⟨by rfl, ?_⟩) ?_ ?_
     rotate_left
     ·intro w'
      go_simp
      with_reducible rfl
     rotate_left
     ·simp only [Act.put, z1qsb_, z2qsb_, z3qsb_, i64_w, i32_w]
      rfl
     refine pure_ (i:=4) (N:=some 117) (v:=?_) (a':=?_) mk17qsb_ rfl rfl (any_of HT_.out (by kernel_rfl)) (fun _ _ _ h => h) (Or.inl ⟨by rfl, ?_⟩) ?_ ?_
     rotate_left
     ·intro w'
      go_simp
      with_reducible rfl
     rotate_left
     ·simp only [Act.put, z1qsb_, z2qsb_, z3qsb_, i64_w, i32_w]
      rfl
     refine pure_ (i:=5) (N:=some 118) (v:=?_) (a':=?_) mk18qsb_ rfl rfl (any_of HT_.out (by kernel_rfl)) (fun _ _ _ h => h) (Or.inl ⟨by rfl, ?_⟩) ?_ ?_
     rotate_left
     ·intro w'
      go_simp
      with_reducible rfl
     rotate_left
     ·simp only [Act.put, z1qsb_, z2qsb_, z3qsb_, i64_w, i32_w]
      rfl
     refine pure_ (i:=6) (N:=some 119) (v:=?_) (a':=?_) mk19qsb_ rfl rfl (any_of HT_.out (by kernel_rfl)) (fun _ _ _ h => h) (Or.inl ⟨by rfl, ?_⟩) ?_ ?_
     rotate_left
     ·intro w'
      go_simp
      with_reducible rfl
     rotate_left
     ·simp only [Act.put, z1qsb_, z2qsb_, z3qsb_, i64_w, i32_w]
      rfl
     refine pure_ (i:=7) (N:=some 120) (v:=?_) (a':=?_) mk20qsb_ rfl rfl (any_of HT_.out (by kernel_rfl)) (fun _ _ _ h => h) (Or.inl ⟨by rfl, ?_⟩) ?_ ?_
     rotate_left
     ·intro w'
      go_simp
      with_reducible rfl
     rotate_left
     ·simp only [Act.put, z1qsb_, z2qsb_, z3qsb_, i64_w, i32_w]
      rfl
     refine pure_ (i:=8) (N:=some 121) (v:=?_) (a':=?_) mk21qsb_ rfl rfl (any_of HT_.out (by kernel_rfl)) (fun _ _ _ h => h) (Or.inl ⟨by rfl, ?_⟩) ?_ ?_
     rotate_left
     ·intro w'
      go_simp
      with_reducible rfl
     rotate_left
     ·simp only [Act.put, z1qsb_, z2qsb_, z3qsb_, i64_w, i32_w]
      rfl
     refine pure_ (i:=10) (N:=some 123) (v:=?_) (a':=?_) mk22qsb_ rfl rfl (any_of HT_.out (by kernel_rfl)) (fun _ _ _ h => h) (Or.inl ⟨by rfl, ?_⟩) ?_ ?_
     rotate_left
     ·intro w'
      go_simp
      with_reducible rfl
     rotate_left
     ·simp only [Act.put, z1qsb_, z2qsb_, z3qsb_, i64_w, i32_w]
      rfl
     refine pure_ (i:=11) (N:=some 124) (v:=?_) (a':=?_) mk23qsb_ rfl rfl (any_of HT_.out (by kernel_rfl)) (fun _ _ _ h => h) (Or.inl ⟨by rfl, ?_⟩) ?_ ?_
     rotate_left
     ·intro w'
      go_simp
      with_reducible rfl
     rotate_left
     ·simp only [Act.put, z1qsb_, z2qsb_, z3qsb_, i64_w, i32_w]
      rfl
     refine pure_ (i:=12) (N:=some 125) (v:=?_) (a':=?_) mk24qsb_ rfl rfl (any_of HT_.out (by kernel_rfl)) (fun _ _ _ h => h) (Or.inl ⟨by rfl, ?_⟩) ?_ ?_
     rotate_left
     ·intro w'
      go_simp
      with_reducible rfl
     rotate_left
     ·simp only [Act.put, z1qsb_, z2qsb_, z3qsb_, i64_w, i32_w]
      rfl
     refine take_ (i:=9) (N:=some 122) (v:=?_) (a':=?_) mk25qsb_ rfl rfl (take_ofW HT_.out HW_.out (by kernel_rfl)) (fun _ _ _ h => h) (Or.inl ⟨by rfl, ?_⟩) hHeld ?_ ?_
     rotate_left
     ·rintro w' ⟨s0, s1, s2, s3, s4, s5⟩
      go_simp
      with_reducible rfl
     rotate_left
     ·simp only [Act.put, z1qsb_, z2qsb_, z3qsb_, i64_w, i32_w]
      rfl
     refine take_ (i:=13) (N:=some 126) (v:=?_) (a':=?_) mk26qsb_ rfl rfl (take_ofW HT_.out HW_.out (by kernel_rfl)) (fun _ _ _ h => h) (Or.inl ⟨by rfl, ?_⟩) hHeld ?_ ?_
     rotate_left
     ·rintro w' ⟨s0, s1, s2, s3, s4, s5⟩
      go_simp
      with_reducible rfl
     rotate_left
     ·simp only [Act.put, z1qsb_, z2qsb_, z3qsb_, i64_w, i32_w]
      rfl
     refine pure_ (i:=14) (N:=some 127) (v:=?_) (a':=?_) mk27qsb_ rfl rfl (any_of HT_.out (by kernel_rfl)) (fun _ _ _ h => h) (Or.inl ⟨by rfl, ?_⟩) ?_ ?_
     rotate_left
     ·intro w'
      go_simp
      with_reducible rfl
     rotate_left
     ·simp only [Act.put, z1qsb_, z2qsb_, z3qsb_, i64_w, i32_w]
      rfl
     clear hHeld
     refine last_ (i:=15) (N:=none) mk28qsb_ rfl rfl (one_of HT_.out (by kernel_rfl)) (by decide) (fun K hK => ?_)
     obtain ⟨w_2, hrun, ho, hb⟩ := st74 zk v HO_1.out (of_eq_true p1) (of_eq_true q1) HB_1.out
     refine put_ 74 (.tmp 127) (.tmp 122) _ _ (by rfl) rfl rfl rfl rfl hrun ?_
     refine hK.out _ _ ?_
     clear hK K hrun HO_1 HB_1
     have HO_2 := A0qsb_ ho
     have HB_2 := A0qsb_ hb
     clear ho hb
     refine pure_ (i:=16) (N:=some 128) (v:=?_) (a':=?_) mk29qsb_ rfl rfl (any_of HT_.out (by kernel_rfl)) (fun _ _ _ h => h) (Or.inl ⟨by rfl, ?_⟩) ?_ ?_
     rotate_left
     ·intro w'
      go_simp
      with_reducible rfl
     rotate_left
     ·simp only [Act.put, z1qsb_, z2qsb_, z3qsb_, i64_w, i32_w]
      rfl
     refine last_ (i:=17) (N:=none) mk30qsb_ rfl rfl (one_of HT_.out (by kernel_rfl)) (by decide) (fun K hK => ?_)
     obtain ⟨w_3, hrun, ho, hb⟩ := st74 z2 y HO_2.out (of_eq_true p2) (of_eq_true q2) HB_2.out
     refine put_ 74 (.tmp 128) (.tmp 126) _ _ (by rfl) rfl rfl rfl rfl hrun ?_
     refine hK.out _ _ ?_
     clear hK K hrun HO_2 HB_2
     have HO_3 := A0qsb_ ho
     have HB_3 := A0qsb_ hb
     clear ho hb
     refine done_ (done_of HT_.out (by kernel_rfl)) ?_
     clear HT_ HW_
     have HO_4 := A0qsb_ (HSET.out ▸ HO_3.out)
     clear HO_3 HSET HV
     go_wp2
     go_roundg (p - i)
     case measure => omega
     case rel =>
      refine ⟨p, z2, ⟨by omega⟩, by omega, HZ2, ?_, HB_3, HO_4⟩
      first | rfl | rw [← hz2] | (simp only [← hz2, i64_w])
    ·have e5 : decide (zk > zi) = false := decide_eq_false (by have := HZK.out; have := HZI.out; omega)
     have e6 : decide (zi < zk) = false := e5
     have hqi : q = i := by have := HQ.out; omega
     have HD := A0qsb_ (show Kd.R k74 74 wr base (fun _ => True) (.slice (some ad) n cap) (P ++ isort ltW (A ++ [y]) ++ S) by rw [HCUT.out, ← hqi]; exact HO.out)
     clear HO hqi
     go_wp2
     exact bodyPost_ret (v := .tuple #[]) (results_none rfl _ _ _) rfl ⟨rfl, HD.out, HB.out⟩
end Go.Proofs.Ythdhkoeaadahaaa.P
