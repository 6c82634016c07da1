-- PACKED by wip/kit/pack.py: what the law's proof uses of ESort (printed words and texts of this seat)
import Derived.Test.YthdhkoeaadahaaaSESt
namespace Go.Proofs.Ythdhkoeaadahaaa.P
open Go.RowKit Go.Proofs.YthdhkoeaadahaaaW.PrintWords Go.Proofs.YthdhkoeaadahaaaW.PrintLast Go.Proofs.YthdhkoeaadahaaaW.PrintMore Go.Proofs.Ythdhkoeaadahaaa.SortCore
attribute [local go_sem] Oper.semAt_some
set_option linter.unusedVariables false
set_option linter.unusedSimpArgs false
def ltW (a b : S74) : Bool := decide (a.f0 < b.f0 ∨ (a.f0 = b.f0 ∧ a.f1 < b.f1))
theorem ltW_iff {a b : S74} : ltW a b = true ↔ a.f0 < b.f0 ∨ (a.f0 = b.f0 ∧ a.f1 < b.f1) := decide_eq_true_iff
theorem ltW_false {a b : S74} : ltW a b = false ↔ ¬ (a.f0 < b.f0 ∨ (a.f0 = b.f0 ∧ a.f1 < b.f1)) := decide_eq_false_iff_not
theorem weakW : Weak ltW where
 asymm := fun a b h => by rw [ltW_iff] at h; rw [ltW_false]; omega
 trans := fun a b c h k => by rw [ltW_false] at *; omega
theorem cmp_f (a b : Int) : cmp_Compare_int.f a b = some (if a < b then -1 else if a > b then 1 else 0) := by
 unfold cmp_Compare_int.f cmp_isNaN_int.f
 simp only [bne_self_eq_false, Option.bind_some, Bool.false_eq_true, if_false]
 by_cases h1 : a < b
 ·rw [if_pos h1, if_pos h1]
 ·rw [if_neg h1, if_neg h1]
  by_cases h2 : a > b
  ·rw [if_pos h2, if_pos h2]
  ·rw [if_neg h2, if_neg h2]
theorem or_f (x y : Int) : cmp_Or_int.f 5 [x, y] = some (if x = 0 then y else x) := by
 by_cases h : x = 0
 ·by_cases h2 : y = 0
  ·simp [cmp_Or_int.f, cmp_Or_int.l0, rd, wrap64, h, h2]
  ·simp [cmp_Or_int.f, cmp_Or_int.l0, rd, wrap64, h, h2]
 ·simp [cmp_Or_int.f, cmp_Or_int.l0, rd, wrap64, h]
theorem order_f (x y : S74) : ∃ o, fold_order.f 5 x.f0 x.f1 x.f2 y.f0 y.f1 y.f2 = some o ∧ (ltW x y = true → o < 0) ∧ (ltW x y = false → ¬ o < 0) := by
 unfold fold_order.f
 rw [cmp_f, cmp_f, Option.bind_some, Option.bind_some, or_f, Option.bind_some]
 refine ⟨_, rfl, fun h => ?_, fun h => ?_⟩
 ·rw [ltW_iff] at h
  split <;> split <;> (try split) <;> omega
 ·rw [ltW_false] at h
  split <;> split <;> (try split) <;> omega
def insT4 : Bool × List (List Nat × List Nat) := (true, [([], []), ([], []), ([0, 1], [0, 1]), ([2], [2]), ([3], [3]), ([3], [3]), ([3], [3]), ([5, 6, 3], [3, 5, 6]), ([7, 3], [3, 7]), ([3], [3]), ([3], [3]), ([10, 3], [3, 10]), ([9, 11, 3], [3, 9, 11]), ([12, 3], [3, 12]), ([4, 8, 13, 3, 3], [3, 4, 8, 13]), ([14, 3], [3, 14]), ([3, 15], [3, 15])])
def insB4 : List Nat := [0, 0, 3, 7, 15, 15, 15, 111, 239, 15, 15, 1039, 3599, 7695, 16383, 32767, 65535]
theorem ins_tab4 : rtab .any (opsOf Try.f138 4) = insT4 := by kernel_rfl
theorem ins_bits4 : waitsOk insT4.2 insB4 = true := by kernel_rfl
def insT6 : Bool × List (List Nat × List Nat) := (true, [([], []), ([], []), ([], []), ([], []), ([3], [3]), ([], []), ([], []), ([6], [6]), ([5, 7], [5, 7]), ([8], [8]), ([], []), ([], []), ([10, 11], [10, 11]), ([12], [12]), ([0, 1, 0, 1, 5, 6, 7, 8, 9, 13], [0, 1]), ([14, 9, 0, 1, 5, 6, 7, 8, 9, 13], [9, 14]), ([2, 4, 0, 1, 2, 3, 4, 5, 6, 7, 8, 9, 10, 11, 12, 13, 14, 15], [2, 4]), ([16, 13, 15, 0, 1, 2, 3, 4, 5, 6, 7, 8, 9, 10, 11, 12, 13, 14, 15], [13, 16])])
def insB6 : List Nat := [0, 0, 0, 0, 8, 0, 0, 64, 224, 480, 0, 0, 3072, 7168, 16355, 32739, 65535, 131071]
theorem ins_tab6 : rtab .any (opsOf Try.f138 6) = insT6 := by kernel_rfl
theorem ins_bits6 : waitsOk insT6.2 insB6 = true := by kernel_rfl
theorem rdj (l : List S74) (i : Nat) (h : i < l.length) : rd_T74 l (i : Int) = l[i] := rdw l i h
theorem rd_mid (A : List S74) (x : S74) (B : List S74) : rd_T74 (A ++ x :: B) (A.length : Int) = x := by
 rw [rdw _ _ (by simp)]
 simp
theorem swap_mid {α : Type} (P L R S : List α) (x y : α) : ((P ++ ((L ++ [y]) ++ x :: R) ++ S).set (P.length + (L.length + 1)) y).set (P.length + L.length) x = P ++ (L ++ x :: (y :: R)) ++ S := by
 have e : P ++ ((L ++ [y]) ++ x :: R) ++ S = (P ++ L) ++ (y :: x :: (R ++ S)) := by simp
 rw [e, List.set_append_right _ _ (by simp), List.set_append_right _ _ (by simp)]
 have h1 : P.length + (L.length + 1) - (P ++ L).length = 1 := by rw [List.length_append]; omega
 have h2 : P.length + L.length - (P ++ L).length = 0 := by simp
 rw [h1, h2]
 simp
theorem A0qso_ {p : Prop} (h : p) : Aside0 p := ⟨h⟩
theorem z1qso_ {α : Type} (l : List α) (i : Nat) (a : α) : l.toArray.setIfInBounds i a = (l.set i a).toArray := List.setIfInBounds_toArray l i a
theorem z2qso_ {α : Type} {x : α} {xs : List α} {a : α} : (x :: xs).set 0 a = a :: xs := List.set_cons_zero
theorem z3qso_ {α : Type} {x : α} {xs : List α} {n : Nat} {a : α} : (x :: xs).set (n + 1) a = x :: xs.set n a := List.set_cons_succ
abbrev mk0qso_ : Array Bool := #[false, false, false, false, false, false, false, false, false, false, false, false, false, false, false, false, false]
abbrev mk1qso_ : Array Bool := #[true, false, false, false, false, false, false, false, false, false, false, false, false, false, false, false, false]
abbrev mk2qso_ : Array Bool := #[true, true, false, false, false, false, false, false, false, false, false, false, false, false, false, false, false]
abbrev mk3qso_ : Array Bool := #[true, true, true, false, false, false, false, false, false, false, false, false, false, false, false, false, false]
abbrev mk4qso_ : Array Bool := #[true, true, true, true, false, false, false, false, false, false, false, false, false, false, false, false, false]
abbrev mk5qso_ : Array Bool := #[true, true, true, true, true, false, false, false, false, false, false, false, false, false, false, false, false]
abbrev mk6qso_ : Array Bool := #[true, true, true, true, true, true, false, false, false, false, false, false, false, false, false, false, false]
abbrev mk7qso_ : Array Bool := #[true, true, true, true, true, true, true, false, false, false, false, false, false, false, false, false, false]
abbrev mk8qso_ : Array Bool := #[true, true, true, true, true, true, true, true, false, false, false, false, false, false, false, false, false]
abbrev mk9qso_ : Array Bool := #[true, true, true, true, true, true, true, true, false, true, false, false, false, false, false, false, false]
abbrev mk10qso_ : Array Bool := #[true, true, true, true, true, true, true, true, false, true, true, false, false, false, false, false, false]
abbrev mk11qso_ : Array Bool := #[true, true, true, true, true, true, true, true, false, true, true, true, false, false, false, false, false]
abbrev mk12qso_ : Array Bool := #[true, true, true, true, true, true, true, true, false, true, true, true, true, false, false, false, false]
abbrev mk13qso_ : Array Bool := #[true, true, true, true, true, true, true, true, true, true, true, true, true, false, false, false, false]
abbrev mk14qso_ : Array Bool := #[true, true, true, true, true, true, true, true, true, true, true, true, true, true, false, false, false]
abbrev mk15qso_ : Array Bool := #[true, true, true, true, true, true, true, true, true, true, true, true, true, true, true, false, false]
abbrev mk16qso_ : Array Bool := #[true, true, true, true, true, true, true, true, true, true, true, true, true, true, true, true, false]
abbrev mk17qso_ : Array Bool := #[true, true, true, true, true, true, true, true, true, true, true, true, true, true, true, true, true]
abbrev mk18qso_ : Array Bool := #[false, false, false, false, false, false, false, false, false, false, false, false, false, false, false, false, false, false]
abbrev mk19qso_ : Array Bool := #[true, false, false, false, false, false, false, false, false, false, false, false, false, false, false, false, false, false]
abbrev mk20qso_ : Array Bool := #[true, true, false, false, false, false, false, false, false, false, false, false, false, false, false, false, false, false]
abbrev mk21qso_ : Array Bool := #[true, true, true, false, false, false, false, false, false, false, false, false, false, false, false, false, false, false]
abbrev mk22qso_ : Array Bool := #[true, true, true, true, false, false, false, false, false, false, false, false, false, false, false, false, false, false]
abbrev mk23qso_ : Array Bool := #[true, true, true, true, true, false, false, false, false, false, false, false, false, false, false, false, false, false]
abbrev mk24qso_ : Array Bool := #[true, true, true, true, true, true, false, false, false, false, false, false, false, false, false, false, false, false]
abbrev mk25qso_ : Array Bool := #[true, true, true, true, true, true, true, false, false, false, false, false, false, false, false, false, false, false]
abbrev mk26qso_ : Array Bool := #[true, true, true, true, true, true, true, true, false, false, false, false, false, false, false, false, false, false]
abbrev mk27qso_ : Array Bool := #[true, true, true, true, true, true, true, true, true, false, false, false, false, false, false, false, false, false]
abbrev mk28qso_ : Array Bool := #[true, true, true, true, true, true, true, true, true, false, true, false, false, false, false, false, false, false]
abbrev mk29qso_ : Array Bool := #[true, true, true, true, true, true, true, true, true, false, true, true, false, false, false, false, false, false]
abbrev mk30qso_ : Array Bool := #[true, true, true, true, true, true, true, true, true, false, true, true, true, false, false, false, false, false]
abbrev mk31qso_ : Array Bool := #[true, true, true, true, true, true, true, true, true, true, true, true, true, false, false, false, false, false]
abbrev mk32qso_ : Array Bool := #[true, true, true, true, true, true, true, true, true, true, true, true, true, true, false, false, false, false]
abbrev mk33qso_ : Array Bool := #[true, true, true, true, true, true, true, true, true, true, true, true, true, true, true, false, false, false]
abbrev mk34qso_ : Array Bool := #[true, true, true, true, true, true, true, true, true, true, true, true, true, true, true, true, false, false]
abbrev mk35qso_ : Array Bool := #[true, true, true, true, true, true, true, true, true, true, true, true, true, true, true, true, true, false]
abbrev mk36qso_ : Array Bool := #[true, true, true, true, true, true, true, true, true, true, true, true, true, true, true, true, true, true]
set_option maxRecDepth 100000 in
set_option maxHeartbeats 8000000 in
theorem insertion_calls (n cap base : Nat) (ad : Addr) (P M S : List S74) (w0 w : World) (HO0 : Kd.R k74 74 w base (fun _ => True) (.slice (some ad) n cap) (P ++ M ++ S)) (HB0 : Below base w0 w) (hb0 : base ≤ w0.heap.size) (hn : n ≤ 1000000) :
  Calls Try.prog 138 #[.slice (some ad) n cap, .int .i64 (P.length : Int), .int .i64 ((P.length + M.length : Nat) : Int), .func (.func 101) #[] #[]] w fun e w' => e = .returned (.tuple #[]) ∧ Kd.R k74 74 w' base (fun _ => True) (.slice (some ad) n cap) (P ++ isort ltW M ++ S) ∧ Below base w0 w' := by
 have hu74 := Try.underlying74
 have HLEN := A0qso_ (show P.length + M.length + S.length = n by have h1 := (Kd.R_reads' HO0).1; rw [List.length_append, List.length_append] at h1; omega)
 have HO := A0qso_ HO0
 have HB := A0qso_ HB0
 clear HO0 HB0
 obtain ⟨a1, ha1⟩ : ∃ a1 : Int, IntKind.i64.wrap ((P.length : Int) + 1) = a1 := ⟨_, rfl⟩
 have ha1' : wrap64 ((P.length : Int) + 1) = a1 := by rw [← ha1]; simp only [i64_w]
 have HA1 := A0qso_ (show a1 = ((P.length + 1 : Nat) : Int) by have := HLEN.out; rw [← ha1']; unfold wrap64; omega)
 obtain ⟨bb, hbb⟩ : ∃ bb : Int, ((P.length + M.length : Nat) : Int) = bb := ⟨_, rfl⟩
 rw [hbb]
 have HBB := A0qso_ hbb
 clear hbb
 go_enter Try.func138, Try.ntmps138
 go_wp2
 go_loopg [8] (M.length + 1) (fun gg s8 wr => ∃ kk : Nat, 1 ≤ kk ∧ kk ≤ M.length + 1 ∧ M.length + 1 - kk ≤ gg ∧ s8 = .int .i64 ((P.length + kk : Nat) : Int) ∧ Aside0 (Below base w0 wr) ∧ Aside0 (Kd.R k74 74 wr base (fun _ => True) (.slice (some ad) n cap) (P ++ (isort ltW (M.take kk) ++ M.drop kk) ++ S)))
 case atStart =>
  refine ⟨1, by omega, by omega, by omega, congrArg (Value.int .i64) HA1.out, HB, ⟨?_⟩⟩
  have e : isort ltW (M.take 1) ++ M.drop 1 = M := by
   cases M with
   | nil => rfl
   | cons x r => rfl
  rw [e]
  exact HO.out
 case round =>
  clear HO HB
  obtain ⟨kk, hk1, hkk, hg, rfl, HB, HO⟩ := hrel
  by_cases hlt : kk < M.length
  ·have e0 : decide (((P.length + kk : Nat) : Int) < bb) = true := decide_eq_true (by have := HBB.out; omega)
   have e0' : decide ((P.length : Int) + (kk : Int) < bb) = true := decide_eq_true (by have := HBB.out; omega)
   obtain ⟨x, hx⟩ : ∃ x, x = M[kk] := ⟨_, rfl⟩
   have HX := A0qso_ hx
   clear hx
   go_wp2
   have hsz := HO.out
   have HL := A0qso_ (show isort ltW (M.take (kk + 1)) = isort ltW (M.take kk ++ [x]) by rw [List.take_succ_eq_append_getElem hlt, HX.out])
   go_loopg [9] (kk + 1) (fun gg s9 wi => ∃ (L R : List S74) (j : Int), Aside0 (isort ltW (M.take kk) = L ++ R) ∧ Aside0 (∀ r ∈ R, ltW x r = true) ∧ L.length ≤ gg ∧ Aside0 (j = ((P.length + L.length : Nat) : Int)) ∧ s9 = .int .i64 j ∧ Aside0 (Below base w0 wi) ∧ Aside0 (Kd.R k74 74 wi base (fun _ => True) (.slice (some ad) n cap) (P ++ (L ++ x :: R) ++ (M.drop (kk + 1) ++ S))))
   case atStart =>
    refine ⟨isort ltW (M.take kk), [], _, ⟨by simp⟩, ⟨fun r hr => by simp at hr⟩, by rw [isort_length]; simp; omega, ⟨?_⟩, rfl, HB, ⟨?_⟩⟩
    ·rw [isort_length, List.length_take, Nat.min_eq_left (by omega)]
    ·have e : P ++ (isort ltW (M.take kk) ++ [x]) ++ (M.drop (kk + 1) ++ S) = P ++ (isort ltW (M.take kk) ++ M.drop kk) ++ S := by
      have hd : M.drop kk = x :: M.drop (kk + 1) := by rw [HX.out]; exact List.drop_eq_getElem_cons hlt
      rw [hd]
      simp
     rw [e]
     exact hsz
   case round =>
    clear hsz HB HO
    obtain ⟨L, R, j, HS, HR, hLg, HJ, rfl, HB, HO⟩ := hrel
    have done : (L = [] ∨ ∃ L' y, L = L' ++ [y] ∧ ltW x y = false) → isort ltW (M.take (kk + 1)) = L ++ x :: R := by
     intro hc
     rw [HL.out]
     refine (isort_of weakW ?_ ?_).symm
     ·have hs := isort_sorted weakW (M.take kk)
      rw [HS.out] at hs
      obtain ⟨s1, s2, s3⟩ := sorted_append.1 hs
      refine sorted_append.2 ⟨s1, List.pairwise_cons.2 ⟨fun r hr => weakW.le_of_lt (HR.out r hr), s2⟩, fun l hl r hr => ?_⟩
      rcases List.mem_cons.1 hr with rfl | hr
      ·rcases hc with rfl | ⟨L', y, rfl, hy⟩
       ·simp at hl
       ·rcases List.mem_append.1 hl with hl | hl
        ·have := (sorted_append.1 s1).2.2 l hl y (by simp)
         exact weakW.le_trans this hy
        ·rw [List.mem_singleton.1 hl]; exact hy
      ·exact s3 l hl r hr
     ·have h1 : Same ltW (L ++ R) (M.take kk) := by rw [← HS.out]; exact isort_same weakW _
      have h2 : Same ltW (x :: R) (R ++ [x]) := (Same.swap weakW (xs := R) (ys := [x]) (fun r hr y hy => by rw [List.mem_singleton.1 hy]; exact HR.out r hr)).symm
      have h3 : Same ltW (L ++ x :: R) (L ++ (R ++ [x])) := Same.append (Same.refl L) h2
      refine h3.trans ?_
      rw [← List.append_assoc]
      exact Same.append h1 (Same.refl _)
    have DONE := A0qso_ done
    clear done
    have EK := A0qso_ (show wrap64 ((P.length : Int) + (kk : Int) + 1) = ((P.length + (kk + 1) : Nat) : Int) by have := HLEN.out; unfold wrap64; omega)
    have outer : P ++ (isort ltW (M.take (kk + 1)) ++ M.drop (kk + 1)) ++ S = P ++ isort ltW (M.take (kk + 1)) ++ (M.drop (kk + 1) ++ S) := by simp
    rcases List.eq_nil_or_concat L with hL | ⟨L', y, hL0⟩
    ·have e1 : decide (j > (P.length : Int)) = false := decide_eq_false (by have := HJ.out; rw [hL] at this; simp at this; omega)
     have e2 : decide ((P.length : Int) < j) = false := e1
     have HD := A0qso_ (DONE.out (.inl hL))
     clear DONE hL
     go_wp2
     go_quiet (fail)
     go_wp2
     go_roundg (M.length - kk)
     case measure => omega
     case rel =>
      refine ⟨kk + 1, by omega, by omega, by omega, congrArg (Value.int .i64) EK.out, ⟨pw_below_drewN HB.out _⟩, ⟨?_⟩⟩
      have e : P ++ (isort ltW (M.take (kk + 1)) ++ M.drop (kk + 1)) ++ S = P ++ (L ++ x :: R) ++ (M.drop (kk + 1) ++ S) := by rw [HD.out]; simp
      rw [e]
      exact Kd.R_drewN HO.out _
    ·have hL : L = L' ++ [y] := by rw [hL0, List.concat_eq_append]
     clear hL0
     have hj1 : 0 ≤ j - 1 := by have := HJ.out; rw [hL] at this; simp at this; omega
     have e1 : decide (j > (P.length : Int)) = true := decide_eq_true (by have := HJ.out; rw [hL] at this; simp at this; omega)
     have e2 : decide ((P.length : Int) < j) = true := e1
     obtain ⟨j1, hj1e⟩ : ∃ j1 : Int, IntKind.i64.wrap (j - 1) = j1 := ⟨_, rfl⟩
     have hjb : j < (n : Int) := by have h1 := (Kd.R_reads' HO.out).1; have h2 := HJ.out; rw [List.length_append, List.length_append, List.length_append, List.length_cons] at h1; omega
     have hw : j1 = j - 1 := by have := HJ.out; rw [← hj1e]; simp only [i64_w]; unfold wrap64; rw [hL] at this; simp at this; omega
     have hll : L.length = L'.length + 1 := by rw [hL]; simp
     have el : P ++ (L ++ x :: R) ++ (M.drop (kk + 1) ++ S) = (P ++ L) ++ x :: (R ++ (M.drop (kk + 1) ++ S)) := by simp
     have el2 : P ++ (L ++ x :: R) ++ (M.drop (kk + 1) ++ S) = (P ++ L') ++ y :: (x :: (R ++ (M.drop (kk + 1) ++ S))) := by rw [hL]; simp
     have rx : rd_T74 (P ++ (L ++ x :: R) ++ (M.drop (kk + 1) ++ S)) j = x := by
      rw [el, show j = ((P ++ L).length : Int) by rw [HJ.out]; simp]
      exact rd_mid _ _ _
     have ry : rd_T74 (P ++ (L ++ x :: R) ++ (M.drop (kk + 1) ++ S)) j1 = y := by
      rw [el2, show j1 = ((P ++ L').length : Int) by rw [hw, HJ.out, hll]; simp; omega]
      exact rd_mid _ _ _
     have hC := (Kd.R_reads' HO.out)
     have hjn : j < (n : Int) := hjb
     have hC2 := hC.2.2
     rw [← hC.1] at hC2
     obtain ⟨ad1, ea, x0, x1, x2⟩ := at_T74 hC2 j (by omega) hjn
     obtain rfl : ad = ad1 := by injection ea
     obtain ⟨ad1, ea, y0, y1, y2⟩ := at_T74 hC2 j1 (by omega) (by omega)
     obtain rfl : ad = ad1 := by injection ea
     rw [rx] at x0 x1 x2
     rw [ry] at y0 y1 y2
     have p1 : (0 ≤ j) = True := eq_true (by omega)
     have q1 : (j < (n : Int)) = True := eq_true hjn
     have p2 : (0 ≤ j1) = True := eq_true (by omega)
     have q2 : (j1 < (n : Int)) = True := eq_true (by omega)
     obtain ⟨o, ho, ho1, ho2⟩ := order_f x y
     obtain ⟨bo, hbo⟩ : ∃ bo, ltW x y = bo := ⟨_, rfl⟩
     have eo : decide (o < 0) = bo := by
      cases bo with
      | true => exact decide_eq_true (ho1 hbo)
      | false => exact decide_eq_false (ho2 hbo)
     have HBO := A0qso_ hbo
     clear ho1 ho2 hbo
     have HOR := A0qso_ (fun (W : World) => fold_order.calls 5 x.f0 x.f1 x.f2 y.f0 y.f1 y.f2 o W ho)
     have HF := A0qso_ (And.intro rx (And.intro ry (And.intro hll (And.intro hL hw))))
     clear rx ry hll hL hw hC hC2 ho el el2 hj1 ea
     go_wp2
     have HO1 := A0qso_ (Kd.R_drew HO.out)
     have HB1 := A0qso_ (below_drew1 HB.out)
     clear HO HB
     refine start_ (n := 17) (S := fun w' => w'.cell? (ad.add (j.toNat * 3)) = some (.int .i64 x.f0) ∧ w'.cell? ⟨(ad.add (j.toNat * 3)).block, (ad.add (j.toNat * 3)).off + 1, none⟩ = some (.int .i64 x.f1) ∧ w'.cell? ⟨(ad.add (j.toNat * 3)).block, (ad.add (j.toNat * 3)).off + 2, none⟩ = some (.string x.f2) ∧ w'.cell? (ad.add (j1.toNat * 3)) = some (.int .i64 y.f0) ∧ w'.cell? ⟨(ad.add (j1.toNat * 3)).block, (ad.add (j1.toNat * 3)).off + 1, none⟩ = some (.int .i64 y.f1) ∧ w'.cell? ⟨(ad.add (j1.toNat * 3)).block, (ad.add (j1.toNat * 3)).off + 2, none⟩ = some (.string y.f2)) (ds := []) mk0qso_ (by kernel_rfl) rfl rfl ⟨x0, x1, x2, y0, y1, y2⟩ (fun hHeld => ?_); refine with_tabW ins_tab4 ins_bits4 (fun HT_ HW_ => ?_)
     clear x0 x1 x2 y0 y1 y2
     generalize wr.drew = w11 at HO1 HB1 hHeld ⊢
     refine pure_ (i:=0) (N:=some 18) (v:=?_) (a':=?_) mk1qso_ rfl rfl (any_of HT_.out (by kernel_rfl)) (fun _ _ _ h => h) (Or.inl ⟨by rfl, ?_⟩) ?_ ?_
     rotate_left
     ·intro w'
      go_simp
      with_reducible rfl
     rotate_left
     ·simp only [Act.put, z1qso_, z2qso_, z3qso_, i64_w, i32_w]
      rfl
     refine pure_ (i:=1) (N:=some 19) (v:=?_) (a':=?_) mk2qso_ rfl rfl (any_of HT_.out (by kernel_rfl)) (fun _ _ _ h => h) (Or.inl ⟨by rfl, ?_⟩) ?_ ?_
     rotate_left
     ·intro w'
      go_simp
      with_reducible rfl
     rotate_left
     ·simp only [Act.put, z1qso_, z2qso_, z3qso_, i64_w, i32_w]
      rfl
     refine pure_ (i:=2) (N:=some 20) (v:=?_) (a':=?_) mk3qso_ rfl rfl (any_of HT_.out (by kernel_rfl)) (fun _ _ _ h => h) (Or.inl ⟨by rfl, ?_⟩) ?_ ?_
     rotate_left
     ·intro w'
      go_simp
      with_reducible rfl
     rotate_left
     ·simp only [Act.put, z1qso_, z2qso_, z3qso_, i64_w, i32_w]
      rfl
     refine pure_ (i:=3) (N:=some 21) (v:=?_) (a':=?_) mk4qso_ rfl rfl (any_of HT_.out (by kernel_rfl)) (fun _ _ _ h => h) (Or.inl ⟨by rfl, ?_⟩) ?_ ?_
     rotate_left
     ·intro w'
      go_simp
      with_reducible rfl
     rotate_left
     ·simp only [Act.put, z1qso_, z2qso_, z3qso_, i64_w, i32_w]
      rfl
     refine pure_ (i:=4) (N:=some 22) (v:=?_) (a':=?_) mk5qso_ rfl rfl (any_of HT_.out (by kernel_rfl)) (fun _ _ _ h => h) (Or.inl ⟨by rfl, ?_⟩) ?_ ?_
     rotate_left
     ·intro w'
      go_simp
      with_reducible rfl
     rotate_left
     ·simp only [Act.put, z1qso_, z2qso_, z3qso_, i64_w, i32_w]
      rfl
     refine pure_ (i:=5) (N:=some 23) (v:=?_) (a':=?_) mk6qso_ rfl rfl (any_of HT_.out (by kernel_rfl)) (fun _ _ _ h => h) (Or.inl ⟨by rfl, ?_⟩) ?_ ?_
     rotate_left
     ·intro w'
      go_simp
      with_reducible rfl
     rotate_left
     ·simp only [Act.put, z1qso_, z2qso_, z3qso_, i64_w, i32_w]
      rfl
     refine pure_ (i:=6) (N:=some 24) (v:=?_) (a':=?_) mk7qso_ rfl rfl (any_of HT_.out (by kernel_rfl)) (fun _ _ _ h => h) (Or.inl ⟨by rfl, ?_⟩) ?_ ?_
     rotate_left
     ·intro w'
      go_simp
      with_reducible rfl
     rotate_left
     ·simp only [Act.put, z1qso_, z2qso_, z3qso_, i64_w, i32_w]
      rfl
     refine pure_ (i:=7) (N:=some 25) (v:=?_) (a':=?_) mk8qso_ rfl rfl (any_of HT_.out (by kernel_rfl)) (fun _ _ _ h => h) (Or.inl ⟨by rfl, ?_⟩) ?_ ?_
     rotate_left
     ·intro w'
      go_simp
      with_reducible rfl
     rotate_left
     ·simp only [Act.put, z1qso_, z2qso_, z3qso_, i64_w, i32_w]
      rfl
     refine pure_ (i:=9) (N:=some 27) (v:=?_) (a':=?_) mk9qso_ rfl rfl (any_of HT_.out (by kernel_rfl)) (fun _ _ _ h => h) (Or.inl ⟨by rfl, ?_⟩) ?_ ?_
     rotate_left
     ·intro w'
      go_simp
      with_reducible rfl
     rotate_left
     ·simp only [Act.put, z1qso_, z2qso_, z3qso_, i64_w, i32_w]
      rfl
     refine pure_ (i:=10) (N:=some 28) (v:=?_) (a':=?_) mk10qso_ rfl rfl (any_of HT_.out (by kernel_rfl)) (fun _ _ _ h => h) (Or.inl ⟨by rfl, ?_⟩) ?_ ?_
     rotate_left
     ·intro w'
      go_simp
      with_reducible rfl
     rotate_left
     ·simp only [Act.put, z1qso_, z2qso_, z3qso_, i64_w, i32_w]
      rfl
     refine pure_ (i:=11) (N:=some 29) (v:=?_) (a':=?_) mk11qso_ rfl rfl (any_of HT_.out (by kernel_rfl)) (fun _ _ _ h => h) (Or.inl ⟨by rfl, ?_⟩) ?_ ?_
     rotate_left
     ·intro w'
      go_simp
      with_reducible rfl
     rotate_left
     ·simp only [Act.put, z1qso_, z2qso_, z3qso_, i64_w, i32_w]
      rfl
     refine pure_ (i:=12) (N:=some 30) (v:=?_) (a':=?_) mk12qso_ rfl rfl (any_of HT_.out (by kernel_rfl)) (fun _ _ _ h => h) (Or.inl ⟨by rfl, ?_⟩) ?_ ?_
     rotate_left
     ·intro w'
      go_simp
      with_reducible rfl
     rotate_left
     ·simp only [Act.put, z1qso_, z2qso_, z3qso_, i64_w, i32_w]
      rfl
     refine take_ (i:=8) (N:=some 26) (v:=?_) (a':=?_) mk13qso_ rfl rfl (take_ofW HT_.out HW_.out (by kernel_rfl)) (fun _ _ _ h => h) (Or.inl ⟨by rfl, ?_⟩) hHeld ?_ ?_
     rotate_left
     ·rintro w' ⟨s0, s1, s2, s3, s4, s5⟩
      go_simp
      with_reducible rfl
     rotate_left
     ·simp only [Act.put, z1qso_, z2qso_, z3qso_, i64_w, i32_w]
      rfl
     refine take_ (i:=13) (N:=some 31) (v:=?_) (a':=?_) mk14qso_ rfl rfl (take_ofW HT_.out HW_.out (by kernel_rfl)) (fun _ _ _ h => h) (Or.inl ⟨by rfl, ?_⟩) hHeld ?_ ?_
     rotate_left
     ·rintro w' ⟨s0, s1, s2, s3, s4, s5⟩
      go_simp
      with_reducible rfl
     rotate_left
     ·simp only [Act.put, z1qso_, z2qso_, z3qso_, i64_w, i32_w]
      rfl
     refine one_ (i:=14) (N:=some 32) mk15qso_ rfl rfl (one_of HT_.out (by kernel_rfl)) (by decide) (fun K hK => ?_)
     refine call_ 101 #[.agg #[.int .i64 x.f0, .int .i64 x.f1, .string x.f2], .agg #[.int .i64 y.f0, .int .i64 y.f1, .string y.f2]] (by rfl) rfl (by first | (go_simp; done) | (go_simp; rfl)) ?_
     refine (HOR.out w11).mono ?_
     rintro e w12 ⟨rfl, hb⟩
     refine ⟨_, rfl, ?_⟩
     have HO2 := A0qso_ (Kd.R_below HO1.out hb)
     have HB2 := A0qso_ (HB1.out.trans (hb.mono (Nat.le_trans hb0 HB1.out.size)))
     obtain ⟨s0, s1, s2, s3, s4, s5⟩ := hHeld
     refine hK.out _ _ ⟨(hb.cell (World.block_lt_of_cell? _ _ s0)).trans s0, (hb.cell (World.block_lt_of_cell? _ _ s1)).trans s1, (hb.cell (World.block_lt_of_cell? _ _ s2)).trans s2, (hb.cell (World.block_lt_of_cell? _ _ s3)).trans s3, (hb.cell (World.block_lt_of_cell? _ _ s4)).trans s4, (hb.cell (World.block_lt_of_cell? _ _ s5)).trans s5⟩ (fun hHeld => ?_)
     clear hK K HO1 HB1 hb s0 s1 s2 s3 s4 s5
     refine norm_ (a' := ?_) ?_ ?_
     rotate_left
     ·show Act.put _ (some 32) _ = _
      simp only [Act.put, z1qso_, z2qso_, z3qso_, i64_w, i32_w]
      rfl
     refine pure_ (i:=15) (N:=some 33) (v:=?_) (a':=?_) mk16qso_ rfl rfl (any_of HT_.out (by kernel_rfl)) (fun _ _ _ h => h) (Or.inl ⟨by rfl, ?_⟩) ?_ ?_
     rotate_left
     ·intro w'
      go_simp
      with_reducible rfl
     rotate_left
     ·simp only [Act.put, z1qso_, z2qso_, z3qso_, i64_w, i32_w]
      rfl
     refine pure_ (i:=16) (N:=some 34) (v:=?_) (a':=?_) mk17qso_ rfl rfl (any_of HT_.out (by kernel_rfl)) (fun _ _ _ h => h) (Or.inl ⟨by rfl, ?_⟩) ?_ ?_
     rotate_left
     ·intro w'
      go_simp
      with_reducible rfl
     rotate_left
     ·simp only [Act.put, z1qso_, z2qso_, z3qso_, i64_w, i32_w]
      rfl
     refine done_ (done_of HT_.out (by kernel_rfl)) ?_
     clear hHeld HT_ HW_
     cases bo with
     | false =>
      have HD := A0qso_ (DONE.out (.inr ⟨L', y, HF.out.2.2.2.1, HBO.out⟩))
      clear DONE eo
      go_wp2
      go_roundg (M.length - kk)
      case measure => omega
      case rel =>
       refine ⟨kk + 1, by omega, by omega, by omega, congrArg (Value.int .i64) EK.out, HB2, ⟨?_⟩⟩
       rw [outer, HD.out]
       exact HO2.out
     | true =>
      clear DONE eo
      go_wp2
      have HO3 := A0qso_ (Kd.R_drew HO2.out)
      have HB3 := A0qso_ (below_drew1 HB2.out)
      have hC := (Kd.R_reads' HO3.out)
      have hC2 := hC.2.2
      rw [← hC.1] at hC2
      obtain ⟨ad1, ea, x0, x1, x2⟩ := at_T74 hC2 j (of_eq_true p1) (of_eq_true q1)
      obtain rfl : ad = ad1 := by injection ea
      obtain ⟨ad1, ea, y0, y1, y2⟩ := at_T74 hC2 j1 (of_eq_true p2) (of_eq_true q2)
      obtain rfl : ad = ad1 := by injection ea
      rw [HF.out.1] at x0 x1 x2
      rw [HF.out.2.1] at y0 y1 y2
      clear hC hC2 ea HO2 HB2
      refine start_ (n := 18) (S := fun w' => w'.cell? (ad.add (j.toNat * 3)) = some (.int .i64 x.f0) ∧ w'.cell? ⟨(ad.add (j.toNat * 3)).block, (ad.add (j.toNat * 3)).off + 1, none⟩ = some (.int .i64 x.f1) ∧ w'.cell? ⟨(ad.add (j.toNat * 3)).block, (ad.add (j.toNat * 3)).off + 2, none⟩ = some (.string x.f2) ∧ w'.cell? (ad.add (j1.toNat * 3)) = some (.int .i64 y.f0) ∧ w'.cell? ⟨(ad.add (j1.toNat * 3)).block, (ad.add (j1.toNat * 3)).off + 1, none⟩ = some (.int .i64 y.f1) ∧ w'.cell? ⟨(ad.add (j1.toNat * 3)).block, (ad.add (j1.toNat * 3)).off + 2, none⟩ = some (.string y.f2)) (ds := [15, 17]) mk18qso_ (by kernel_rfl) rfl rfl ⟨x0, x1, x2, y0, y1, y2⟩ (fun hHeld => ?_); refine with_tabW ins_tab6 ins_bits6 (fun HT_ HW_ => ?_)
      clear x0 x1 x2 y0 y1 y2
      generalize w12.drew = w13 at HO3 HB3 hHeld ⊢
      refine pure_ (i:=0) (N:=some 37) (v:=?_) (a':=?_) mk19qso_ rfl rfl (any_of HT_.out (by kernel_rfl)) (fun _ _ _ h => h) (Or.inl ⟨by rfl, ?_⟩) ?_ ?_
      rotate_left
      ·intro w'
       go_simp
       with_reducible rfl
      rotate_left
      ·simp only [Act.put, z1qso_, z2qso_, z3qso_, i64_w, i32_w]
       rfl
      refine pure_ (i:=1) (N:=some 38) (v:=?_) (a':=?_) mk20qso_ rfl rfl (any_of HT_.out (by kernel_rfl)) (fun _ _ _ h => h) (Or.inl ⟨by rfl, ?_⟩) ?_ ?_
      rotate_left
      ·intro w'
       go_simp
       with_reducible rfl
      rotate_left
      ·simp only [Act.put, z1qso_, z2qso_, z3qso_, i64_w, i32_w]
       rfl
      refine pure_ (i:=2) (N:=some 39) (v:=?_) (a':=?_) mk21qso_ rfl rfl (any_of HT_.out (by kernel_rfl)) (fun _ _ _ h => h) (Or.inl ⟨by rfl, ?_⟩) ?_ ?_
      rotate_left
      ·intro w'
       go_simp
       with_reducible rfl
      rotate_left
      ·simp only [Act.put, z1qso_, z2qso_, z3qso_, i64_w, i32_w]
       rfl
      refine pure_ (i:=3) (N:=some 40) (v:=?_) (a':=?_) mk22qso_ rfl rfl (any_of HT_.out (by kernel_rfl)) (fun _ _ _ h => h) (Or.inl ⟨by rfl, ?_⟩) ?_ ?_
      rotate_left
      ·intro w'
       go_simp
       with_reducible rfl
      rotate_left
      ·simp only [Act.put, z1qso_, z2qso_, z3qso_, i64_w, i32_w]
       rfl
      refine pure_ (i:=4) (N:=some 41) (v:=?_) (a':=?_) mk23qso_ rfl rfl (any_of HT_.out (by kernel_rfl)) (fun _ _ _ h => h) (Or.inl ⟨by rfl, ?_⟩) ?_ ?_
      rotate_left
      ·intro w'
       go_simp
       with_reducible rfl
      rotate_left
      ·simp only [Act.put, z1qso_, z2qso_, z3qso_, i64_w, i32_w]
       rfl
      refine pure_ (i:=5) (N:=some 42) (v:=?_) (a':=?_) mk24qso_ rfl rfl (any_of HT_.out (by kernel_rfl)) (fun _ _ _ h => h) (Or.inl ⟨by rfl, ?_⟩) ?_ ?_
      rotate_left
      ·intro w'
       go_simp
       with_reducible rfl
      rotate_left
      ·simp only [Act.put, z1qso_, z2qso_, z3qso_, i64_w, i32_w]
       rfl
      refine pure_ (i:=6) (N:=some 43) (v:=?_) (a':=?_) mk25qso_ rfl rfl (any_of HT_.out (by kernel_rfl)) (fun _ _ _ h => h) (Or.inl ⟨by rfl, ?_⟩) ?_ ?_
      rotate_left
      ·intro w'
       go_simp
       with_reducible rfl
      rotate_left
      ·simp only [Act.put, z1qso_, z2qso_, z3qso_, i64_w, i32_w]
       rfl
      refine pure_ (i:=7) (N:=some 44) (v:=?_) (a':=?_) mk26qso_ rfl rfl (any_of HT_.out (by kernel_rfl)) (fun _ _ _ h => h) (Or.inl ⟨by rfl, ?_⟩) ?_ ?_
      rotate_left
      ·intro w'
       go_simp
       with_reducible rfl
      rotate_left
      ·simp only [Act.put, z1qso_, z2qso_, z3qso_, i64_w, i32_w]
       rfl
      refine pure_ (i:=8) (N:=some 45) (v:=?_) (a':=?_) mk27qso_ rfl rfl (any_of HT_.out (by kernel_rfl)) (fun _ _ _ h => h) (Or.inl ⟨by rfl, ?_⟩) ?_ ?_
      rotate_left
      ·intro w'
       go_simp
       with_reducible rfl
      rotate_left
      ·simp only [Act.put, z1qso_, z2qso_, z3qso_, i64_w, i32_w]
       rfl
      refine pure_ (i:=10) (N:=some 47) (v:=?_) (a':=?_) mk28qso_ rfl rfl (any_of HT_.out (by kernel_rfl)) (fun _ _ _ h => h) (Or.inl ⟨by rfl, ?_⟩) ?_ ?_
      rotate_left
      ·intro w'
       go_simp
       with_reducible rfl
      rotate_left
      ·simp only [Act.put, z1qso_, z2qso_, z3qso_, i64_w, i32_w]
       rfl
      refine pure_ (i:=11) (N:=some 48) (v:=?_) (a':=?_) mk29qso_ rfl rfl (any_of HT_.out (by kernel_rfl)) (fun _ _ _ h => h) (Or.inl ⟨by rfl, ?_⟩) ?_ ?_
      rotate_left
      ·intro w'
       go_simp
       with_reducible rfl
      rotate_left
      ·simp only [Act.put, z1qso_, z2qso_, z3qso_, i64_w, i32_w]
       rfl
      refine pure_ (i:=12) (N:=some 49) (v:=?_) (a':=?_) mk30qso_ rfl rfl (any_of HT_.out (by kernel_rfl)) (fun _ _ _ h => h) (Or.inl ⟨by rfl, ?_⟩) ?_ ?_
      rotate_left
      ·intro w'
       go_simp
       with_reducible rfl
      rotate_left
      ·simp only [Act.put, z1qso_, z2qso_, z3qso_, i64_w, i32_w]
       rfl
      refine take_ (i:=9) (N:=some 46) (v:=?_) (a':=?_) mk31qso_ rfl rfl (take_ofW HT_.out HW_.out (by kernel_rfl)) (fun _ _ _ h => h) (Or.inl ⟨by rfl, ?_⟩) hHeld ?_ ?_
      rotate_left
      ·rintro w' ⟨s0, s1, s2, s3, s4, s5⟩
       go_simp
       with_reducible rfl
      rotate_left
      ·simp only [Act.put, z1qso_, z2qso_, z3qso_, i64_w, i32_w]
       rfl
      refine take_ (i:=13) (N:=some 50) (v:=?_) (a':=?_) mk32qso_ rfl rfl (take_ofW HT_.out HW_.out (by kernel_rfl)) (fun _ _ _ h => h) (Or.inl ⟨by rfl, ?_⟩) hHeld ?_ ?_
      rotate_left
      ·rintro w' ⟨s0, s1, s2, s3, s4, s5⟩
       go_simp
       with_reducible rfl
      rotate_left
      ·simp only [Act.put, z1qso_, z2qso_, z3qso_, i64_w, i32_w]
       rfl
      refine pure_ (i:=14) (N:=some 51) (v:=?_) (a':=?_) mk33qso_ rfl rfl (any_of HT_.out (by kernel_rfl)) (fun _ _ _ h => h) (Or.inl ⟨by rfl, ?_⟩) ?_ ?_
      rotate_left
      ·intro w'
       go_simp
       with_reducible rfl
      rotate_left
      ·simp only [Act.put, z1qso_, z2qso_, z3qso_, i64_w, i32_w]
       rfl
      clear hHeld
      refine last_ (i:=15) (N:=none) mk34qso_ rfl rfl (one_of HT_.out (by kernel_rfl)) (by decide) (fun K hK => ?_)
      obtain ⟨w14, hrun, ho4, hb4⟩ := st74 j y HO3.out (of_eq_true p1) (of_eq_true q1) HB3.out
      refine put_ 74 (.tmp 51) (.tmp 46) _ _ (by rfl) rfl rfl rfl rfl hrun ?_
      refine hK.out _ _ ?_
      clear hK K hrun HO3 HB3
      have HO4 := A0qso_ ho4
      have HB4 := A0qso_ hb4
      clear ho4 hb4
      refine pure_ (i:=16) (N:=some 52) (v:=?_) (a':=?_) mk35qso_ rfl rfl (any_of HT_.out (by kernel_rfl)) (fun _ _ _ h => h) (Or.inl ⟨by rfl, ?_⟩) ?_ ?_
      rotate_left
      ·intro w'
       go_simp
       with_reducible rfl
      rotate_left
      ·simp only [Act.put, z1qso_, z2qso_, z3qso_, i64_w, i32_w]
       rfl
      refine last_ (i:=17) (N:=none) mk36qso_ rfl rfl (one_of HT_.out (by kernel_rfl)) (by decide) (fun K hK => ?_)
      obtain ⟨w15, hrun, ho5, hb5⟩ := st74 j1 x HO4.out (of_eq_true p2) (of_eq_true q2) HB4.out
      refine put_ 74 (.tmp 52) (.tmp 50) _ _ (by rfl) rfl rfl rfl rfl hrun ?_
      refine hK.out _ _ ?_
      clear hK K hrun HO4 HB4
      have HO5 := A0qso_ ho5
      have HB5 := A0qso_ hb5
      clear ho5 hb5
      refine done_ (done_of HT_.out (by kernel_rfl)) ?_
      clear HT_ HW_
      have eset : ((P ++ (L ++ x :: R) ++ (M.drop (kk + 1) ++ S)).set j.toNat y).set j1.toNat x = P ++ (L' ++ x :: (y :: R)) ++ (M.drop (kk + 1) ++ S) := by
       have h1 : j.toNat = P.length + (L'.length + 1) := by have := HJ.out; have := HF.out.2.2.1; omega
       have h2 : j1.toNat = P.length + L'.length := by have := HJ.out; have := HF.out.2.2; omega
       rw [HF.out.2.2.2.1, h1, h2]
       exact swap_mid P L' R _ x y
      have HO6 := A0qso_ (eset ▸ HO5.out)
      clear HO5 eset
      go_wp2
      go_roundg L'.length
      case measure => have := HF.out.2.2.1; omega
      case rel =>
       refine ⟨L', y :: R, j1, ⟨?_⟩, ⟨?_⟩, Nat.le_refl _, ⟨?_⟩, ?_, HB5, HO6⟩
       ·rw [HS.out, HF.out.2.2.2.1]; simp
       ·intro r hr
        rcases List.mem_cons.1 hr with rfl | hr
        ·exact HBO.out
        ·exact HR.out r hr
       ·have := HJ.out; have := HF.out.2.2; omega
       ·first | rfl | (rw [← hj1e]) | (simp only [← hj1e, i64_w])
  ·have e0 : decide (((P.length + kk : Nat) : Int) < bb) = false := decide_eq_false (by have := HBB.out; omega)
   have e0' : decide ((P.length : Int) + (kk : Int) < bb) = false := decide_eq_false (by have := HBB.out; omega)
   have hA := HO.out
   rw [List.take_of_length_le (by omega), List.drop_eq_nil_of_le (by omega), List.append_nil] at hA
   have HA := A0qso_ hA
   clear hA HO
   go_wp2
   (try simp only [Exit.inBlock, Exit.then])
   refine bodyPost_end (results_none rfl _ _ _) rfl ?_
   exact ⟨rfl, HA.out, HB.out⟩
end Go.Proofs.Ythdhkoeaadahaaa.P
