-- PACKED by wip/kit/pack.py: what the law's proof uses of ERot (printed words and texts of this seat)
import Derived.Test.YthdhkoeaadahaaaSESort
namespace Go.Proofs.Ythdhkoeaadahaaa.P
open Go.RowKit Go.Proofs.YthdhkoeaadahaaaW.PrintWords Go.Proofs.YthdhkoeaadahaaaW.PrintLast Go.Proofs.YthdhkoeaadahaaaW.PrintMore Go.Proofs.Ythdhkoeaadahaaa.SortCore
attribute [local go_sem] Oper.semAt_some
set_option linter.unusedVariables false
set_option linter.unusedSimpArgs false
theorem set2 {α : Type} (X Y Z : List α) (x y : α) : ((X ++ x :: (Y ++ y :: Z)).set X.length y).set (X.length + 1 + Y.length) x = X ++ y :: (Y ++ x :: Z) := by
 rw [List.set_append_right _ _ (Nat.le_refl _), Nat.sub_self, List.set_cons_zero, List.set_append_right _ _ (by omega), show X.length + 1 + Y.length - X.length = Y.length + 1 by omega, List.set_cons_succ, List.set_append_right _ _ (Nat.le_refl _), Nat.sub_self, List.set_cons_zero]
def swap3.T : Bool × List (List Nat × List Nat) := (true, [([], []), ([], []), ([], []), ([1, 2], [1, 2]), ([], []), ([], []), ([], []), ([5, 6], [5, 6]), ([], []), ([], []), ([], []), ([9, 10], [9, 10]), ([8, 11], [8, 11]), ([12], [12]), ([], []), ([], []), ([], []), ([15, 16], [15, 16]), ([14, 17], [14, 17]), ([18], [18]), ([0, 3, 0, 1, 2, 3, 8, 9, 10, 11, 12, 13, 19], [0, 3]), ([20, 13, 0, 1, 2, 3, 8, 9, 10, 11, 12, 13, 19], [13, 20]), ([4, 7, 0, 1, 2, 3, 4, 5, 6, 7, 8, 9, 10, 11, 12, 13, 14, 15, 16, 17, 18, 19, 20, 21], [4, 7]), ([22, 19, 21, 0, 1, 2, 3, 4, 5, 6, 7, 8, 9, 10, 11, 12, 13, 14, 15, 16, 17, 18, 19, 20, 21], [19, 22])])
def swap3.B : List Nat := [0, 0, 0, 6, 0, 0, 0, 96, 0, 0, 0, 1536, 3840, 7936, 0, 0, 0, 98304, 245760, 507904, 1048335, 2096911, 4194303, 8388607]
theorem swap3.tab : rtab .any (opsOf Try.f145 3) = swap3.T := by kernel_rfl
theorem swap3.bits : waitsOk swap3.T.2 swap3.B = true := by kernel_rfl
theorem A0qro_ {p : Prop} (h : p) : Aside0 p := ⟨h⟩
theorem z1qro_ {α : Type} (l : List α) (i : Nat) (a : α) : l.toArray.setIfInBounds i a = (l.set i a).toArray := List.setIfInBounds_toArray l i a
theorem z2qro_ {α : Type} {x : α} {xs : List α} {a : α} : (x :: xs).set 0 a = a :: xs := List.set_cons_zero
theorem z3qro_ {α : Type} {x : α} {xs : List α} {n : Nat} {a : α} : (x :: xs).set (n + 1) a = x :: xs.set n a := List.set_cons_succ
abbrev mk0qro_ : Array Bool := #[false, false, false, false, false, false, false, false, false, false, false, false, false, false, false, false, false, false, false, false, false, false, false, false]
abbrev mk1qro_ : Array Bool := #[true, false, false, false, false, false, false, false, false, false, false, false, false, false, false, false, false, false, false, false, false, false, false, false]
abbrev mk2qro_ : Array Bool := #[true, true, false, false, false, false, false, false, false, false, false, false, false, false, false, false, false, false, false, false, false, false, false, false]
abbrev mk3qro_ : Array Bool := #[true, true, true, false, false, false, false, false, false, false, false, false, false, false, false, false, false, false, false, false, false, false, false, false]
abbrev mk4qro_ : Array Bool := #[true, true, true, true, false, false, false, false, false, false, false, false, false, false, false, false, false, false, false, false, false, false, false, false]
abbrev mk5qro_ : Array Bool := #[true, true, true, true, true, false, false, false, false, false, false, false, false, false, false, false, false, false, false, false, false, false, false, false]
abbrev mk6qro_ : Array Bool := #[true, true, true, true, true, true, false, false, false, false, false, false, false, false, false, false, false, false, false, false, false, false, false, false]
abbrev mk7qro_ : Array Bool := #[true, true, true, true, true, true, true, false, false, false, false, false, false, false, false, false, false, false, false, false, false, false, false, false]
abbrev mk8qro_ : Array Bool := #[true, true, true, true, true, true, true, true, false, false, false, false, false, false, false, false, false, false, false, false, false, false, false, false]
abbrev mk9qro_ : Array Bool := #[true, true, true, true, true, true, true, true, true, false, false, false, false, false, false, false, false, false, false, false, false, false, false, false]
abbrev mk10qro_ : Array Bool := #[true, true, true, true, true, true, true, true, true, true, false, false, false, false, false, false, false, false, false, false, false, false, false, false]
abbrev mk11qro_ : Array Bool := #[true, true, true, true, true, true, true, true, true, true, true, false, false, false, false, false, false, false, false, false, false, false, false, false]
abbrev mk12qro_ : Array Bool := #[true, true, true, true, true, true, true, true, true, true, true, true, false, false, false, false, false, false, false, false, false, false, false, false]
abbrev mk13qro_ : Array Bool := #[true, true, true, true, true, true, true, true, true, true, true, true, true, false, false, false, false, false, false, false, false, false, false, false]
abbrev mk14qro_ : Array Bool := #[true, true, true, true, true, true, true, true, true, true, true, true, true, false, true, false, false, false, false, false, false, false, false, false]
abbrev mk15qro_ : Array Bool := #[true, true, true, true, true, true, true, true, true, true, true, true, true, false, true, true, false, false, false, false, false, false, false, false]
abbrev mk16qro_ : Array Bool := #[true, true, true, true, true, true, true, true, true, true, true, true, true, false, true, true, true, false, false, false, false, false, false, false]
abbrev mk17qro_ : Array Bool := #[true, true, true, true, true, true, true, true, true, true, true, true, true, false, true, true, true, true, false, false, false, false, false, false]
abbrev mk18qro_ : Array Bool := #[true, true, true, true, true, true, true, true, true, true, true, true, true, false, true, true, true, true, true, false, false, false, false, false]
abbrev mk19qro_ : Array Bool := #[true, true, true, true, true, true, true, true, true, true, true, true, true, true, true, true, true, true, true, false, false, false, false, false]
abbrev mk20qro_ : Array Bool := #[true, true, true, true, true, true, true, true, true, true, true, true, true, true, true, true, true, true, true, true, false, false, false, false]
abbrev mk21qro_ : Array Bool := #[true, true, true, true, true, true, true, true, true, true, true, true, true, true, true, true, true, true, true, true, true, false, false, false]
abbrev mk22qro_ : Array Bool := #[true, true, true, true, true, true, true, true, true, true, true, true, true, true, true, true, true, true, true, true, true, true, false, false]
abbrev mk23qro_ : Array Bool := #[true, true, true, true, true, true, true, true, true, true, true, true, true, true, true, true, true, true, true, true, true, true, true, false]
abbrev mk24qro_ : Array Bool := #[true, true, true, true, true, true, true, true, true, true, true, true, true, true, true, true, true, true, true, true, true, true, true, true]
set_option maxRecDepth 100000 in
set_option maxHeartbeats 8000000 in
theorem swap_calls (n cap base : Nat) (ad : Addr) (P A Q B S : List S74) (w0 w : World) (hAB : B.length = A.length) (HO0 : Kd.R k74 74 w base (fun _ => True) (.slice (some ad) n cap) (P ++ A ++ Q ++ B ++ S)) (HB0 : Below base w0 w) (hb0 : base ≤ w0.heap.size) (hn : n ≤ 1000000) (za zb zn : Int) (ea : za = (P.length : Int)) (eb : zb = ((P.length + A.length + Q.length : Nat) : Int)) (en : zn = (A.length : Int)) :
  Calls Try.prog 145 #[.slice (some ad) n cap, .int .i64 za, .int .i64 zb, .int .i64 zn, .func (.func 101) #[] #[]] w fun e w' => e = .returned (.tuple #[]) ∧ Kd.R k74 74 w' base (fun _ => True) (.slice (some ad) n cap) (P ++ B ++ Q ++ A ++ S) ∧ Below base w0 w' := by
 have hu74 := Try.underlying74
 have HLEN := A0qro_ (show P.length + A.length + Q.length + B.length + S.length = n by have h1 := (Kd.R_reads' HO0).1; simp only [List.length_append] at h1; omega)
 have HO := A0qro_ HO0
 have HB := A0qro_ HB0
 have EA := A0qro_ ea
 have EB := A0qro_ eb
 have EN := A0qro_ en
 clear HO0 HB0 ea eb en
 go_enter Try.func145, Try.ntmps145
 go_wp2
 go_loopg [10] A.length (fun gg s10 wr => ∃ (A1 A2 B1 B2 : List S74) (i : Int), Aside0 (A = A1 ++ A2) ∧ Aside0 (B = B1 ++ B2) ∧ Aside0 (B1.length = A1.length) ∧ A2.length ≤ gg ∧ Aside0 (i = (A1.length : Int)) ∧ s10 = .int .i64 i ∧ Aside0 (Below base w0 wr) ∧ Aside0 (Kd.R k74 74 wr base (fun _ => True) (.slice (some ad) n cap) (P ++ (B1 ++ A2) ++ Q ++ (A1 ++ B2) ++ S)))
 case atStart =>
  exact ⟨[], A, [], B, 0, ⟨rfl⟩, ⟨rfl⟩, ⟨rfl⟩, Nat.le_refl _, ⟨rfl⟩, rfl, HB, ⟨by simpa using HO.out⟩⟩
 case round =>
  clear HO HB
  obtain ⟨A1, A2, B1, B2, i, HA, HBB, HL, hg, HI, rfl, HB, HO⟩ := hrel
  cases A2 with
  | nil =>
   have e0 : decide (i < zn) = false := decide_eq_false (by have := HI.out; have := EN.out; have h := congrArg List.length HA.out; simp at h; omega)
   have HD := A0qro_ (show P ++ (B1 ++ []) ++ Q ++ (A1 ++ B2) ++ S = P ++ B ++ Q ++ A ++ S by
    have h1 := congrArg List.length HA.out
    have h2 := congrArg List.length HBB.out
    have h3 := HL.out
    simp at h1 h2
    have : B2 = [] := List.eq_nil_of_length_eq_zero (by omega)
    subst this
    rw [HA.out, HBB.out]
    try simp)
   have HE := A0qro_ (HD.out ▸ HO.out)
   clear HO HD
   go_wp2
   (try simp only [Exit.inBlock, Exit.then])
   refine bodyPost_end (results_none rfl _ _ _) rfl ?_
   exact ⟨rfl, HE.out, HB.out⟩
  | cons x A3 =>
   cases B2 with
   | nil => exact absurd (congrArg List.length HA.out) (by have h2 := congrArg List.length HBB.out; have := HL.out; simp at h2; simp; omega)
   | cons y B3 =>
    have h1 := congrArg List.length HA.out
    have h2 := congrArg List.length HBB.out
    simp only [List.length_append, List.length_cons] at h1 h2
    have e0 : decide (i < zn) = true := decide_eq_true (by have := HI.out; have := EN.out; omega)
    obtain ⟨ja, hja⟩ : ∃ ja, IntKind.i64.wrap (za + i) = ja := ⟨_, rfl⟩
    obtain ⟨jb, hjb⟩ : ∃ jb, IntKind.i64.wrap (zb + i) = jb := ⟨_, rfl⟩
    obtain ⟨i1, hi1⟩ : ∃ i1, IntKind.i64.wrap (i + 1) = i1 := ⟨_, rfl⟩
    have HJA := A0qro_ (show ja = ((P ++ B1).length : Int) by have h3 := HI.out; have h4 := EA.out; have := HLEN.out; have := HL.out; rw [← hja, i64_w]; simp only [List.length_append]; unfold wrap64; omega)
    have HJB := A0qro_ (show jb = (((P ++ B1).length + 1 + (A3 ++ Q ++ A1).length : Nat) : Int) by have h3 := HI.out; have h4 := EB.out; have := HLEN.out; have := HL.out; rw [← hjb, i64_w]; simp only [List.length_append]; unfold wrap64; omega)
    have HI1 := A0qro_ (show i1 = ((A1 ++ [x]).length : Int) by have h3 := HI.out; have := HLEN.out; rw [← hi1, i64_w]; simp only [List.length_append, List.length_singleton]; unfold wrap64; omega)
    have el : P ++ (B1 ++ x :: A3) ++ Q ++ (A1 ++ y :: B3) ++ S = (P ++ B1) ++ x :: ((A3 ++ Q ++ A1) ++ y :: (B3 ++ S)) := by simp
    have HV := A0qro_ (show rd_T74 (P ++ (B1 ++ x :: A3) ++ Q ++ (A1 ++ y :: B3) ++ S) ja = x ∧ rd_T74 (P ++ (B1 ++ x :: A3) ++ Q ++ (A1 ++ y :: B3) ++ S) jb = y by
     constructor
     ·rw [el, HJA.out]; exact rd_mid _ _ _
     ·rw [el, HJB.out, show (P ++ B1) ++ x :: ((A3 ++ Q ++ A1) ++ y :: (B3 ++ S)) = ((P ++ B1) ++ [x] ++ (A3 ++ Q ++ A1)) ++ y :: (B3 ++ S) by simp, show (P ++ B1).length + 1 + (A3 ++ Q ++ A1).length = ((P ++ B1) ++ [x] ++ (A3 ++ Q ++ A1)).length by simp only [List.length_append, List.length_singleton]]; exact rd_mid _ _ _)
    have p1 : (0 ≤ ja) = True := eq_true (by have := HJA.out; omega)
    have q1 : (ja < (n : Int)) = True := eq_true (by have := HJA.out; have := HLEN.out; have := HL.out; simp only [List.length_append] at *; omega)
    have p2 : (0 ≤ jb) = True := eq_true (by have := HJB.out; omega)
    have q2 : (jb < (n : Int)) = True := eq_true (by have := HJB.out; have := HLEN.out; have := HL.out; simp only [List.length_append] at *; omega)
    have HSET := A0qro_ (show ((P ++ (B1 ++ x :: A3) ++ Q ++ (A1 ++ y :: B3) ++ S).set ja.toNat y).set jb.toNat x = P ++ ((B1 ++ [y]) ++ A3) ++ Q ++ ((A1 ++ [x]) ++ B3) ++ S by
     rw [el, HJA.out, HJB.out, Int.toNat_natCast, Int.toNat_natCast, set2]
     simp)
    clear el h1 h2
    go_wp2
    have HO_1 := A0qro_ (Kd.R_drew HO.out)
    have HB_1 := A0qro_ (below_drew1 HB.out)
    clear HO HB
    have hC := (Kd.R_reads' HO_1.out)
    have hC2 := hC.2.2
    rw [← hC.1] at hC2
    obtain ⟨ad1, ea, x0, x1, x2⟩ := at_T74 hC2 ja (of_eq_true p1) (of_eq_true q1)
    obtain rfl : ad = ad1 := by injection ea
    obtain ⟨ad1, ea, y0, y1, y2⟩ := at_T74 hC2 jb (of_eq_true p2) (of_eq_true q2)
    obtain rfl : ad = ad1 := by injection ea
    rw [HV.out.1] at x0 x1 x2
    rw [HV.out.2] at y0 y1 y2
    clear hC hC2 ea
    refine start_ (n := 24) (S := fun w' => w'.cell? (ad.add (ja.toNat * 3)) = some (.int .i64 x.f0) ∧ w'.cell? ⟨(ad.add (ja.toNat * 3)).block, (ad.add (ja.toNat * 3)).off + 1, none⟩ = some (.int .i64 x.f1) ∧ w'.cell? ⟨(ad.add (ja.toNat * 3)).block, (ad.add (ja.toNat * 3)).off + 2, none⟩ = some (.string x.f2) ∧ w'.cell? (ad.add (jb.toNat * 3)) = some (.int .i64 y.f0) ∧ w'.cell? ⟨(ad.add (jb.toNat * 3)).block, (ad.add (jb.toNat * 3)).off + 1, none⟩ = some (.int .i64 y.f1) ∧ w'.cell? ⟨(ad.add (jb.toNat * 3)).block, (ad.add (jb.toNat * 3)).off + 2, none⟩ = some (.string y.f2)) (ds := [21, 23]) mk0qro_ (by kernel_rfl) rfl rfl ⟨x0, x1, x2, y0, y1, y2⟩ (fun hHeld => ?_); refine with_tabW swap3.tab swap3.bits (fun HT_ HW_ => ?_)
    clear x0 x1 x2 y0 y1 y2
    generalize wr.drew = w_1 at HO_1 HB_1 hHeld ⊢
    refine pure_ (i:=0) (N:=some 16) (v:=?_) (a':=?_) mk1qro_ rfl rfl (any_of HT_.out (by kernel_rfl)) (fun _ _ _ h => h) (Or.inl ⟨by rfl, ?_⟩) ?_ ?_
    rotate_left
    ·intro w'
     go_simp
     with_reducible rfl
    rotate_left
    ·simp only [Act.put, z1qro_, z2qro_, z3qro_, i64_w, i32_w]
     rfl
    refine pure_ (i:=1) (N:=some 17) (v:=?_) (a':=?_) mk2qro_ rfl rfl (any_of HT_.out (by kernel_rfl)) (fun _ _ _ h => h) (Or.inl ⟨by rfl, ?_⟩) ?_ ?_
    rotate_left
    ·intro w'
     go_simp
     with_reducible rfl
    rotate_left
    ·simp only [Act.put, z1qro_, z2qro_, z3qro_, i64_w, i32_w]
     rfl
    refine pure_ (i:=2) (N:=some 18) (v:=?_) (a':=?_) mk3qro_ rfl rfl (any_of HT_.out (by kernel_rfl)) (fun _ _ _ h => h) (Or.inl ⟨by rfl, ?_⟩) ?_ ?_
    rotate_left
    ·intro w'
     go_simp
     with_reducible rfl
    rotate_left
    ·simp only [Act.put, z1qro_, z2qro_, z3qro_, i64_w, i32_w]
     rfl
    refine pure_ (i:=3) (N:=some 19) (v:=?_) (a':=?_) mk4qro_ rfl rfl (any_of HT_.out (by kernel_rfl)) (fun _ _ _ h => h) (Or.inl ⟨by rfl, ?_⟩) ?_ ?_
    rotate_left
    ·intro w'
     go_simp
     with_reducible rfl
    rotate_left
    ·simp only [Act.put, z1qro_, z2qro_, z3qro_, i64_w, i32_w]
     rfl
    refine pure_ (i:=4) (N:=some 20) (v:=?_) (a':=?_) mk5qro_ rfl rfl (any_of HT_.out (by kernel_rfl)) (fun _ _ _ h => h) (Or.inl ⟨by rfl, ?_⟩) ?_ ?_
    rotate_left
    ·intro w'
     go_simp
     with_reducible rfl
    rotate_left
    ·simp only [Act.put, z1qro_, z2qro_, z3qro_, i64_w, i32_w]
     rfl
    refine pure_ (i:=5) (N:=some 21) (v:=?_) (a':=?_) mk6qro_ rfl rfl (any_of HT_.out (by kernel_rfl)) (fun _ _ _ h => h) (Or.inl ⟨by rfl, ?_⟩) ?_ ?_
    rotate_left
    ·intro w'
     go_simp
     with_reducible rfl
    rotate_left
    ·simp only [Act.put, z1qro_, z2qro_, z3qro_, i64_w, i32_w]
     rfl
    refine pure_ (i:=6) (N:=some 22) (v:=?_) (a':=?_) mk7qro_ rfl rfl (any_of HT_.out (by kernel_rfl)) (fun _ _ _ h => h) (Or.inl ⟨by rfl, ?_⟩) ?_ ?_
    rotate_left
    ·intro w'
     go_simp
     with_reducible rfl
    rotate_left
    ·simp only [Act.put, z1qro_, z2qro_, z3qro_, i64_w, i32_w]
     rfl
    refine pure_ (i:=7) (N:=some 23) (v:=?_) (a':=?_) mk8qro_ rfl rfl (any_of HT_.out (by kernel_rfl)) (fun _ _ _ h => h) (Or.inl ⟨by rfl, ?_⟩) ?_ ?_
    rotate_left
    ·intro w'
     go_simp
     with_reducible rfl
    rotate_left
    ·simp only [Act.put, z1qro_, z2qro_, z3qro_, i64_w, i32_w]
     rfl
    refine pure_ (i:=8) (N:=some 24) (v:=?_) (a':=?_) mk9qro_ rfl rfl (any_of HT_.out (by kernel_rfl)) (fun _ _ _ h => h) (Or.inl ⟨by rfl, ?_⟩) ?_ ?_
    rotate_left
    ·intro w'
     go_simp
     with_reducible rfl
    rotate_left
    ·simp only [Act.put, z1qro_, z2qro_, z3qro_, i64_w, i32_w]
     rfl
    refine pure_ (i:=9) (N:=some 25) (v:=?_) (a':=?_) mk10qro_ rfl rfl (any_of HT_.out (by kernel_rfl)) (fun _ _ _ h => h) (Or.inl ⟨by rfl, ?_⟩) ?_ ?_
    rotate_left
    ·intro w'
     go_simp
     with_reducible rfl
    rotate_left
    ·simp only [Act.put, z1qro_, z2qro_, z3qro_, i64_w, i32_w]
     rfl
    refine pure_ (i:=10) (N:=some 26) (v:=?_) (a':=?_) mk11qro_ rfl rfl (any_of HT_.out (by kernel_rfl)) (fun _ _ _ h => h) (Or.inl ⟨by rfl, ?_⟩) ?_ ?_
    rotate_left
    ·intro w'
     go_simp
     with_reducible rfl
    rotate_left
    ·simp only [Act.put, z1qro_, z2qro_, z3qro_, i64_w, i32_w]
     rfl
    refine pure_ (i:=11) (N:=some 27) (v:=?_) (a':=?_) mk12qro_ rfl rfl (any_of HT_.out (by kernel_rfl)) (fun _ _ _ h => h) (Or.inl ⟨by rfl, ?_⟩) ?_ ?_
    rotate_left
    ·intro w'
     go_simp
     with_reducible rfl
    rotate_left
    ·simp only [Act.put, z1qro_, z2qro_, z3qro_, i64_w, i32_w]
     rfl
    refine pure_ (i:=12) (N:=some 28) (v:=?_) (a':=?_) mk13qro_ rfl rfl (any_of HT_.out (by kernel_rfl)) (fun _ _ _ h => h) (Or.inl ⟨by rfl, ?_⟩) ?_ ?_
    rotate_left
    ·intro w'
     go_simp
     with_reducible rfl
    rotate_left
    ·simp only [Act.put, z1qro_, z2qro_, z3qro_, i64_w, i32_w]
     rfl
    refine pure_ (i:=14) (N:=some 30) (v:=?_) (a':=?_) mk14qro_ rfl rfl (any_of HT_.out (by kernel_rfl)) (fun _ _ _ h => h) (Or.inl ⟨by rfl, ?_⟩) ?_ ?_
    rotate_left
    ·intro w'
     go_simp
     with_reducible rfl
    rotate_left
    ·simp only [Act.put, z1qro_, z2qro_, z3qro_, i64_w, i32_w]
     rfl
    refine pure_ (i:=15) (N:=some 31) (v:=?_) (a':=?_) mk15qro_ rfl rfl (any_of HT_.out (by kernel_rfl)) (fun _ _ _ h => h) (Or.inl ⟨by rfl, ?_⟩) ?_ ?_
    rotate_left
    ·intro w'
     go_simp
     with_reducible rfl
    rotate_left
    ·simp only [Act.put, z1qro_, z2qro_, z3qro_, i64_w, i32_w]
     rfl
    refine pure_ (i:=16) (N:=some 32) (v:=?_) (a':=?_) mk16qro_ rfl rfl (any_of HT_.out (by kernel_rfl)) (fun _ _ _ h => h) (Or.inl ⟨by rfl, ?_⟩) ?_ ?_
    rotate_left
    ·intro w'
     go_simp
     with_reducible rfl
    rotate_left
    ·simp only [Act.put, z1qro_, z2qro_, z3qro_, i64_w, i32_w]
     rfl
    refine pure_ (i:=17) (N:=some 33) (v:=?_) (a':=?_) mk17qro_ rfl rfl (any_of HT_.out (by kernel_rfl)) (fun _ _ _ h => h) (Or.inl ⟨by rfl, ?_⟩) ?_ ?_
    rotate_left
    ·intro w'
     go_simp
     with_reducible rfl
    rotate_left
    ·simp only [Act.put, z1qro_, z2qro_, z3qro_, i64_w, i32_w]
     rfl
    refine pure_ (i:=18) (N:=some 34) (v:=?_) (a':=?_) mk18qro_ rfl rfl (any_of HT_.out (by kernel_rfl)) (fun _ _ _ h => h) (Or.inl ⟨by rfl, ?_⟩) ?_ ?_
    rotate_left
    ·intro w'
     go_simp
     with_reducible rfl
    rotate_left
    ·simp only [Act.put, z1qro_, z2qro_, z3qro_, i64_w, i32_w]
     rfl
    refine take_ (i:=13) (N:=some 29) (v:=?_) (a':=?_) mk19qro_ rfl rfl (take_ofW HT_.out HW_.out (by kernel_rfl)) (fun _ _ _ h => h) (Or.inl ⟨by rfl, ?_⟩) hHeld ?_ ?_
    rotate_left
    ·rintro w' ⟨s0, s1, s2, s3, s4, s5⟩
     go_simp
     with_reducible rfl
    rotate_left
    ·simp only [Act.put, z1qro_, z2qro_, z3qro_, i64_w, i32_w]
     rfl
    refine take_ (i:=19) (N:=some 35) (v:=?_) (a':=?_) mk20qro_ rfl rfl (take_ofW HT_.out HW_.out (by kernel_rfl)) (fun _ _ _ h => h) (Or.inl ⟨by rfl, ?_⟩) hHeld ?_ ?_
    rotate_left
    ·rintro w' ⟨s0, s1, s2, s3, s4, s5⟩
     go_simp
     with_reducible rfl
    rotate_left
    ·simp only [Act.put, z1qro_, z2qro_, z3qro_, i64_w, i32_w]
     rfl
    refine pure_ (i:=20) (N:=some 36) (v:=?_) (a':=?_) mk21qro_ rfl rfl (any_of HT_.out (by kernel_rfl)) (fun _ _ _ h => h) (Or.inl ⟨by rfl, ?_⟩) ?_ ?_
    rotate_left
    ·intro w'
     go_simp
     with_reducible rfl
    rotate_left
    ·simp only [Act.put, z1qro_, z2qro_, z3qro_, i64_w, i32_w]
     rfl
    clear hHeld
    refine last_ (i:=21) (N:=none) mk22qro_ rfl rfl (one_of HT_.out (by kernel_rfl)) (by decide) (fun K hK => ?_)
    obtain ⟨w_2, hrun, ho, hb⟩ := st74 ja y HO_1.out (of_eq_true p1) (of_eq_true q1) HB_1.out
    refine put_ 74 (.tmp 36) (.tmp 29) _ _ (by rfl) rfl rfl rfl rfl hrun ?_
    refine hK.out _ _ ?_
    clear hK K hrun HO_1 HB_1
    have HO_2 := A0qro_ ho
    have HB_2 := A0qro_ hb
    clear ho hb
    refine pure_ (i:=22) (N:=some 37) (v:=?_) (a':=?_) mk23qro_ rfl rfl (any_of HT_.out (by kernel_rfl)) (fun _ _ _ h => h) (Or.inl ⟨by rfl, ?_⟩) ?_ ?_
    rotate_left
    ·intro w'
     go_simp
     with_reducible rfl
    rotate_left
    ·simp only [Act.put, z1qro_, z2qro_, z3qro_, i64_w, i32_w]
     rfl
    refine last_ (i:=23) (N:=none) mk24qro_ rfl rfl (one_of HT_.out (by kernel_rfl)) (by decide) (fun K hK => ?_)
    obtain ⟨w_3, hrun, ho, hb⟩ := st74 jb x HO_2.out (of_eq_true p2) (of_eq_true q2) HB_2.out
    refine put_ 74 (.tmp 37) (.tmp 35) _ _ (by rfl) rfl rfl rfl rfl hrun ?_
    refine hK.out _ _ ?_
    clear hK K hrun HO_2 HB_2
    have HO_3 := A0qro_ ho
    have HB_3 := A0qro_ hb
    clear ho hb
    refine done_ (done_of HT_.out (by kernel_rfl)) ?_
    clear HT_ HW_
    have HO_4 := A0qro_ (HSET.out ▸ HO_3.out)
    clear HO_3 HSET HV
    go_wp2
    go_roundg A3.length
    case measure => simp at hg; omega
    case rel =>
     refine ⟨A1 ++ [x], A3, B1 ++ [y], B3, i1, ⟨by rw [HA.out]; simp⟩, ⟨by rw [HBB.out]; simp⟩, ⟨by have := HL.out; simp; omega⟩, Nat.le_refl _, HI1, ?_, HB_3, HO_4⟩
     first | rfl | rw [← hi1] | (simp only [← hi1, i64_w])
end Go.Proofs.Ythdhkoeaadahaaa.P
namespace Go.Proofs.Ythdhkoeaadahaaa.P
open Go.RowKit Go.Proofs.YthdhkoeaadahaaaW.PrintWords Go.Proofs.YthdhkoeaadahaaaW.PrintLast Go.Proofs.YthdhkoeaadahaaaW.PrintMore Go.Proofs.Ythdhkoeaadahaaa.SortCore
attribute [local go_sem] Oper.semAt_some
set_option linter.unusedVariables false
set_option linter.unusedSimpArgs false
set_option maxRecDepth 100000 in
set_option maxHeartbeats 8000000 in
theorem rotate_calls (n cap base : Nat) (ad : Addr) (P U0 V0 S : List S74) (w0 w : World) (hU : U0 ≠ []) (hV : V0 ≠ []) (HO0 : Kd.R k74 74 w base (fun _ => True) (.slice (some ad) n cap) (P ++ U0 ++ V0 ++ S)) (HB0 : Below base w0 w) (hb0 : base ≤ w0.heap.size) (hn : n ≤ 1000000) (za zm zb : Int) (ea : za = (P.length : Int)) (em : zm = ((P.length + U0.length : Nat) : Int)) (eb : zb = ((P.length + U0.length + V0.length : Nat) : Int)) :
  Calls Try.prog 143 #[.slice (some ad) n cap, .int .i64 za, .int .i64 zm, .int .i64 zb, .func (.func 101) #[] #[]] w fun e w' => e = .returned (.tuple #[]) ∧ Kd.R k74 74 w' base (fun _ => True) (.slice (some ad) n cap) (P ++ V0 ++ U0 ++ S) ∧ Below base w0 w' := by
 have HLEN := A0qro_ (show P.length + U0.length + V0.length + S.length = n by have h1 := (Kd.R_reads' HO0).1; simp only [List.length_append] at h1; omega)
 have HO := A0qro_ HO0
 have HB := A0qro_ HB0
 obtain ⟨z1, hz1⟩ : ∃ z, IntKind.i64.wrap (zm - za) = z := ⟨_, rfl⟩
 obtain ⟨z2, hz2⟩ : ∃ z, IntKind.i64.wrap (zb - zm) = z := ⟨_, rfl⟩
 have HZ1 := A0qro_ (show z1 = (U0.length : Int) by have := HLEN.out; rw [← hz1, i64_w]; unfold wrap64; omega)
 have HZ2 := A0qro_ (show z2 = (V0.length : Int) by have := HLEN.out; rw [← hz2, i64_w]; unfold wrap64; omega)
 have EM := A0qro_ em
 have hU' := A0qro_ (List.length_pos_iff.2 hU)
 have hV' := A0qro_ (List.length_pos_iff.2 hV)
 clear HO0 HB0 ea eb em hU hV
 go_enter Try.func143, Try.ntmps143
 go_wp2
 clear hz1 hz2
 go_loopg [10, 11] (U0.length + V0.length) (fun gg s10 s11 wr => ∃ (X U V Y : List S74) (i j : Int), Aside0 (X ++ V ++ U ++ Y = P ++ V0 ++ U0 ++ S) ∧ U.length + V.length ≤ gg ∧ Aside0 (0 < U.length) ∧ Aside0 (0 < V.length) ∧ Aside0 (X.length + U.length = P.length + U0.length) ∧ Aside0 (i = (U.length : Int)) ∧ Aside0 (j = (V.length : Int)) ∧ s10 = .int .i64 i ∧ s11 = .int .i64 j ∧ Aside0 (Below base w0 wr) ∧ Aside0 (Kd.R k74 74 wr base (fun _ => True) (.slice (some ad) n cap) (X ++ U ++ V ++ Y)))
 case atStart =>
  exact ⟨P, U0, V0, S, z1, z2, ⟨rfl⟩, Nat.le_refl _, hU', hV', ⟨rfl⟩, HZ1, HZ2, rfl, rfl, HB, HO⟩
 case round =>
  clear HO HB HZ1 HZ2
  obtain ⟨X, U, V, Y, i, j, HG, hg, HU, HV, HM, HI, HJ, rfl, rfl, HB, HO⟩ := hrel
  have HN := A0qro_ (show X.length + U.length + V.length + Y.length = n by have h1 := (Kd.R_reads' HO.out).1; simp only [List.length_append] at h1; omega)
  obtain ⟨s1, hs1⟩ : ∃ z, IntKind.i64.wrap (zm - i) = z := ⟨_, rfl⟩
  have HS1 := A0qro_ (show s1 = (X.length : Int) by have := HN.out; have := HM.out; have := HI.out; have := EM.out; rw [← hs1, i64_w]; unfold wrap64; omega)
  rcases Nat.lt_trichotomy U.length V.length with hlt | heq | hgt
  ·have e1 : (i == j) = false := beq_eq_false_iff_ne.2 (by have := HI.out; have := HJ.out; omega)
   have e2 : decide (i > j) = false := decide_eq_false (by have := HI.out; have := HJ.out; omega)
   have e3 : decide (j < i) = false := e2
   have e4 : decide (i = j) = false := decide_eq_false (by have := HI.out; have := HJ.out; omega)
   obtain ⟨s2, hs2⟩ : ∃ z, IntKind.i64.wrap (zm + j) = z := ⟨_, rfl⟩
   have hs2v : s2 = zm + j := by have := HN.out; have := HM.out; have := HJ.out; have := EM.out; rw [← hs2, i64_w]; unfold wrap64; omega
   obtain ⟨s3, hs3⟩ : ∃ z, IntKind.i64.wrap (s2 - i) = z := ⟨_, rfl⟩
   obtain ⟨C, B, hV, hB⟩ : ∃ C B, V = C ++ B ∧ B.length = U.length := ⟨V.take (V.length - U.length), V.drop (V.length - U.length), (List.take_append_drop _ _).symm, by rw [List.length_drop]; omega⟩
   have hC : C.length + U.length = V.length := by rw [hV, List.length_append, hB]
   have HS3 := A0qro_ (show s3 = ((X.length + U.length + C.length : Nat) : Int) by have := HN.out; have := HM.out; have := HI.out; have := HJ.out; have := EM.out; rw [← hs3, i64_w]; unfold wrap64; omega)
   obtain ⟨s4, hs4⟩ : ∃ z, IntKind.i64.wrap (j - i) = z := ⟨_, rfl⟩
   have HS4 := A0qro_ (show s4 = (C.length : Int) by have := HN.out; have := HI.out; have := HJ.out; rw [← hs4, i64_w]; unfold wrap64; omega)
   have HCL := A0qro_ (fun W H1 H2 => swap_calls n cap base ad X U C B Y w0 W hB H1 H2 hb0 hn s1 s3 i HS1.out HS3.out HI.out)
   have HO1 := A0qro_ (show Kd.R k74 74 _ base (fun _ => True) (.slice (some ad) n cap) (X ++ U ++ C ++ B ++ Y) from (show X ++ U ++ C ++ B ++ Y = X ++ U ++ V ++ Y by rw [hV]; simp) ▸ HO.out)
   have HC := A0qro_ hC
   have HVV := A0qro_ hV
   have HBB := A0qro_ hB
   clear HO hs2v hV hB hC
   go_wp2_with (go_at_call 145; refine (HCL.out _ HO1.out HB.out).mono ?_; rintro e w2 ⟨rfl, ho, hb⟩; have HO2 := A0qro_ ho; have HB2 := A0qro_ hb; clear ho hb HO1 HB HCL)
   go_roundg (B.length + C.length)
   case measure => have := HC.out; have := HBB.out; have := HU.out; omega
   case rel =>
    refine ⟨X, B, C, U ++ Y, _, _, ⟨?_⟩, Nat.le_refl _, ⟨?_⟩, ⟨?_⟩, ⟨?_⟩, ⟨?_⟩, HS4, rfl, ?_, HB2, ⟨?_⟩⟩
    ·rw [← HG.out, HVV.out]; simp
    ·have := HBB.out; have := HU.out; omega
    ·have := HC.out; omega
    ·have := HBB.out; have := HM.out; omega
    ·have := HBB.out; have := HI.out; omega
    ·first | rfl | rw [← hs4] | (simp only [← hs4, i64_w])
    ·have h := HO2.out
     rw [show X ++ B ++ C ++ U ++ Y = X ++ B ++ C ++ (U ++ Y) by simp] at h
     exact h
  ·have e1 : (i == j) = true := beq_iff_eq.2 (by have := HI.out; have := HJ.out; omega)
   have e4 : decide (i = j) = true := decide_eq_true (by have := HI.out; have := HJ.out; omega)
   have HCL := A0qro_ (fun W H1 H2 => swap_calls n cap base ad X U [] V Y w0 W heq.symm H1 H2 hb0 hn s1 zm i HS1.out (by have := HM.out; have := EM.out; simp; omega) HI.out)
   have HO1 := A0qro_ (show Kd.R k74 74 _ base (fun _ => True) (.slice (some ad) n cap) (X ++ U ++ [] ++ V ++ Y) from (show X ++ U ++ [] ++ V ++ Y = X ++ U ++ V ++ Y by simp) ▸ HO.out)
   clear HO
   go_wp2_with (go_at_call 145; refine (HCL.out _ HO1.out HB.out).mono ?_; rintro e w2 ⟨rfl, ho, hb⟩; have HO2 := A0qro_ ho; have HB2 := A0qro_ hb; clear ho hb HO1 HB HCL)
   (try simp only [Exit.inBlock, Exit.then])
   refine bodyPost_end (results_none rfl _ _ _) rfl ?_
   refine ⟨rfl, ?_, HB2.out⟩
   rw [← HG.out]
   have h := HO2.out
   rw [show X ++ V ++ [] ++ U ++ Y = X ++ V ++ U ++ Y by simp] at h
   exact h
  ·have e1 : (i == j) = false := beq_eq_false_iff_ne.2 (by have := HI.out; have := HJ.out; omega)
   have e2 : decide (i > j) = true := decide_eq_true (by have := HI.out; have := HJ.out; omega)
   have e3 : decide (j < i) = true := e2
   have e4 : decide (i = j) = false := decide_eq_false (by have := HI.out; have := HJ.out; omega)
   obtain ⟨A, C, hU, hA⟩ : ∃ A C, U = A ++ C ∧ A.length = V.length := ⟨U.take V.length, U.drop V.length, (List.take_append_drop _ _).symm, by rw [List.length_take]; omega⟩
   have hC : C.length + V.length = U.length := by rw [hU, List.length_append, hA]; omega
   obtain ⟨s4, hs4⟩ : ∃ z, IntKind.i64.wrap (i - j) = z := ⟨_, rfl⟩
   have HS4 := A0qro_ (show s4 = (C.length : Int) by have := HN.out; have := HI.out; have := HJ.out; rw [← hs4, i64_w]; unfold wrap64; omega)
   have HCL := A0qro_ (fun W H1 H2 => swap_calls n cap base ad X A C V Y w0 W hA.symm H1 H2 hb0 hn s1 zm j HS1.out (by have := HM.out; have := EM.out; omega) (by have := HJ.out; omega))
   have HO1 := A0qro_ (show Kd.R k74 74 _ base (fun _ => True) (.slice (some ad) n cap) (X ++ A ++ C ++ V ++ Y) from (show X ++ A ++ C ++ V ++ Y = X ++ U ++ V ++ Y by rw [hU]; simp) ▸ HO.out)
   have HC := A0qro_ hC
   have HUU := A0qro_ hU
   have HAA := A0qro_ hA
   clear HO hU hA hC
   go_wp2_with (go_at_call 145; refine (HCL.out _ HO1.out HB.out).mono ?_; rintro e w2 ⟨rfl, ho, hb⟩; have HO2 := A0qro_ ho; have HB2 := A0qro_ hb; clear ho hb HO1 HB HCL)
   go_roundg (C.length + A.length)
   case measure => have := HC.out; have := HAA.out; have := HV.out; omega
   case rel =>
    refine ⟨X ++ V, C, A, Y, _, _, ⟨?_⟩, Nat.le_refl _, ⟨?_⟩, ⟨?_⟩, ⟨?_⟩, HS4, ⟨?_⟩, ?_, rfl, HB2, HO2⟩
    ·rw [← HG.out, HUU.out]; simp
    ·have := HC.out; omega
    ·have := HAA.out; have := HV.out; omega
    ·have := HC.out; have := HM.out; simp; omega
    ·have := HAA.out; have := HJ.out; omega
    ·first | rfl | rw [← hs4] | (simp only [← hs4, i64_w])
end Go.Proofs.Ythdhkoeaadahaaa.P
