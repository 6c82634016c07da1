-- PACKED by wip/kit/pack.py: what the law's proof uses of EFold (printed words and texts of this seat)
import Derived.Test.YthdhkoeaadahaaaSESymC
namespace Go.Proofs.Ythdhkoeaadahaaa.P
open Go.RowKit Go.Proofs.YthdhkoeaadahaaaW.PrintWords Go.Proofs.YthdhkoeaadahaaaW.PrintLast Go.Proofs.YthdhkoeaadahaaaW.PrintMore Go.Proofs.Ythdhkoeaadahaaa.SortCore
attribute [local go_sem] Oper.semAt_some
set_option linter.unusedVariables false
set_option linter.unusedSimpArgs false
theorem sym_calls (n cap base : Nat) (ad : Addr) (w0 : World) (hb0 : base ≤ w0.heap.size) (hn : n ≤ 1000000) : ∀ (N : Nat) (P A B S : List S74) (w : World), A.length + B.length ≤ N → Sorted ltW A → Sorted ltW B → A ≠ [] → B ≠ [] → Kd.R k74 74 w base (fun _ => True) (.slice (some ad) n cap) (P ++ A ++ B ++ S) → Below base w0 w → ∀ (za zm zb : Int), za = (P.length : Int) → zm = ((P.length + A.length : Nat) : Int) → zb = ((P.length + A.length + B.length : Nat) : Int) →
   Calls Try.prog 139 #[.slice (some ad) n cap, .int .i64 za, .int .i64 zm, .int .i64 zb, .func (.func 101) #[] #[]] w fun e w' => e = .returned (.tuple #[]) ∧ Kd.R k74 74 w' base (fun _ => True) (.slice (some ad) n cap) (P ++ isort ltW (A ++ B) ++ S) ∧ Below base w0 w' := by
 intro N
 induction N with
 | zero =>
  intro P A B S w hN _ _ hA
  exact absurd (List.length_pos_iff.2 hA) (by omega)
 | succ N ih =>
  intro P A B S w hN hA hB hA0 hB0 HO HB za zm zb ea em eb
  have pa := List.length_pos_iff.2 hA0
  have pb := List.length_pos_iff.2 hB0
  by_cases h1 : A.length = 1
  ·obtain ⟨x, rfl⟩ := List.length_eq_one_iff.1 h1
   exact sym_front n cap base ad P x B S w0 w hB HO HB hb0 hn za zm zb ea em eb
  ·by_cases h2 : B.length = 1
   ·obtain ⟨y, rfl⟩ := List.length_eq_one_iff.1 h2
    exact sym_back n cap base ad P A y S w0 w hA h1 HO HB hb0 hn za zm zb ea em eb
   ·exact sym_gen n cap base ad P A B S w0 w hA hB (by omega) (by omega) (fun P' A' B' S' W a1 a2 a3 a4 a5 a6 a7 z1 z2 z3 b1 b2 b3 => ih P' A' B' S' W (by omega) a1 a2 a3 a4 a6 a7 z1 z2 z3 b1 b2 b3) HO HB hb0 hn za zm zb ea em eb
theorem insertion_at (n cap base : Nat) (ad : Addr) (P M S : List S74) (w0 w : World) (HO0 : Kd.R k74 74 w base (fun _ => True) (.slice (some ad) n cap) (P ++ M ++ S)) (HB0 : Below base w0 w) (hb0 : base ≤ w0.heap.size) (hn : n ≤ 1000000) (za zb : Int) (ea : za = (P.length : Int)) (eb : zb = ((P.length + M.length : Nat) : Int)) :
  Calls Try.prog 138 #[.slice (some ad) n cap, .int .i64 za, .int .i64 zb, .func (.func 101) #[] #[]] w fun e w' => e = .returned (.tuple #[]) ∧ Kd.R k74 74 w' base (fun _ => True) (.slice (some ad) n cap) (P ++ isort ltW M ++ S) ∧ Below base w0 w' := by
 subst ea; subst eb
 exact insertion_calls n cap base ad P M S w0 w HO0 HB0 hb0 hn
theorem A0qfo_ {p : Prop} (h : p) : Aside0 p := ⟨h⟩
theorem z1qfo_ {α : Type} (l : List α) (i : Nat) (a : α) : l.toArray.setIfInBounds i a = (l.set i a).toArray := List.setIfInBounds_toArray l i a
theorem z2qfo_ {α : Type} {x : α} {xs : List α} {a : α} : (x :: xs).set 0 a = a :: xs := List.set_cons_zero
theorem z3qfo_ {α : Type} {x : α} {xs : List α} {n : Nat} {a : α} : (x :: xs).set (n + 1) a = x :: xs.set n a := List.set_cons_succ
abbrev mk0qfo_ : Array Bool := #[false, false, false, false, false, false, false, false, false, false, false, false, false, false, false]
abbrev mk1qfo_ : Array Bool := #[true, false, false, false, false, false, false, false, false, false, false, false, false, false, false]
abbrev mk2qfo_ : Array Bool := #[true, true, false, false, false, false, false, false, false, false, false, false, false, false, false]
abbrev mk3qfo_ : Array Bool := #[true, true, true, false, false, false, false, false, false, false, false, false, false, false, false]
abbrev mk4qfo_ : Array Bool := #[true, true, true, true, false, false, false, false, false, false, false, false, false, false, false]
abbrev mk5qfo_ : Array Bool := #[true, true, true, true, true, false, false, false, false, false, false, false, false, false, false]
abbrev mk6qfo_ : Array Bool := #[true, true, true, true, true, true, false, false, false, false, false, false, false, false, false]
abbrev mk7qfo_ : Array Bool := #[true, true, true, true, true, true, false, true, false, false, false, false, false, false, false]
abbrev mk8qfo_ : Array Bool := #[true, true, true, true, true, true, false, true, true, false, false, false, false, false, false]
abbrev mk9qfo_ : Array Bool := #[true, true, true, true, true, true, false, true, true, true, false, false, false, false, false]
abbrev mk10qfo_ : Array Bool := #[true, true, true, true, true, true, false, true, true, true, true, false, false, false, false]
abbrev mk11qfo_ : Array Bool := #[true, true, true, true, true, true, true, true, true, true, true, false, false, false, false]
abbrev mk12qfo_ : Array Bool := #[true, true, true, true, true, true, true, true, true, true, true, true, false, false, false]
abbrev mk13qfo_ : Array Bool := #[true, true, true, true, true, true, true, true, true, true, true, true, true, false, false]
abbrev mk14qfo_ : Array Bool := #[true, true, true, true, true, true, true, true, true, true, true, true, true, true, false]
abbrev mk15qfo_ : Array Bool := #[true, true, true, true, true, true, true, true, true, true, true, true, true, true, true]
set_option maxRecDepth 100000 in
set_option maxHeartbeats 8000000 in
theorem stable_calls (n cap base : Nat) (ad : Addr) (xs : List S74) (w0 w : World) (HO0 : Kd.R k74 74 w base (fun _ => True) (.slice (some ad) n cap) xs) (HB0 : Below base w0 w) (hb0 : base ≤ w0.heap.size) (hn : n ≤ 100000) :
  Calls Try.prog 125 #[.slice (some ad) n cap, .int .i64 (n : Int), .func (.func 101) #[] #[]] w fun e w' => e = .returned (.tuple #[]) ∧ Kd.R k74 74 w' base (fun _ => True) (.slice (some ad) n cap) (isort ltW xs) ∧ Below base w0 w' := by
 have hu74 := Try.underlying74
 have HLEN := A0qfo_ (show xs.length = n by have h1 := (Kd.R_reads' HO0).1; omega)
 have HO := A0qfo_ HO0
 have HB := A0qfo_ HB0
 clear HO0 HB0
 obtain ⟨z, hz⟩ : ∃ z : Int, (n : Int) = z := ⟨_, rfl⟩
 rw [hz]
 have HZ := A0qfo_ hz
 clear hz
 go_enter Try.func125, Try.ntmps125
 go_wp2
 go_loopg [7, 8] xs.length (fun gg s7 s8 wr => ∃ (D R : List S74) (a b : Int), Aside0 (∀ T, Bl ltW 20 T → Bl ltW 20 (D ++ T)) ∧ Aside0 (Same ltW (D ++ R) xs) ∧ R.length ≤ gg ∧ Aside0 (a = (D.length : Int)) ∧ Aside0 (b = ((D.length + 20 : Nat) : Int)) ∧ s7 = .int .i64 a ∧ s8 = .int .i64 b ∧ Aside0 (Below base w0 wr) ∧ Aside0 (Kd.R k74 74 wr base (fun _ => True) (.slice (some ad) n cap) (D ++ R)))
 case atStart => exact ⟨[], xs, 0, 20, ⟨fun T h => h⟩, ⟨Same.refl _⟩, Nat.le_refl _, ⟨rfl⟩, ⟨rfl⟩, rfl, rfl, HB, HO⟩
 case round =>
  clear HO HB
  obtain ⟨D, R, a, b, HF, HS, hg, HA, HBb, rfl, rfl, HB, HO⟩ := hrel
  have HN := A0qfo_ (show D.length + R.length = n by have h1 := (Kd.R_reads' HO.out).1; simp only [List.length_append] at h1; omega)
  by_cases hle : 20 ≤ R.length
  ·have e0 : decide (b ≤ z) = true := decide_eq_true (by have := HBb.out; have := HZ.out; have := HN.out; omega)
   obtain ⟨X, R', hR, hX⟩ : ∃ X R', R = X ++ R' ∧ X.length = 20 := ⟨R.take 20, R.drop 20, (List.take_append_drop _ _).symm, by rw [List.length_take]; omega⟩
   obtain ⟨b1, hb1⟩ : ∃ z, wrap64 (b + 20) = z := ⟨_, rfl⟩
   have HB1 := A0qfo_ (show b1 = ((D.length + 20 + 20 : Nat) : Int) by have := HBb.out; have := HN.out; rw [← hb1]; unfold wrap64; omega)
   have HCL := A0qfo_ (fun W H1 H2 => insertion_at n cap base ad D X R' w0 W H1 H2 hb0 (by omega) a b HA.out (by rw [hX]; exact HBb.out))
   have HO1 := A0qfo_ (show Kd.R k74 74 _ base (fun _ => True) (.slice (some ad) n cap) (D ++ X ++ R') by have h := HO.out; rw [hR] at h; simpa using h)
   have HR := A0qfo_ hR
   have HX := A0qfo_ hX
   clear HO hR hX
   go_wp2_with (go_at_call 138; refine (HCL.out _ HO1.out HB.out).mono ?_; rintro e w2 ⟨rfl, ho, hb⟩; have HO2 := A0qfo_ ho; have HB2 := A0qfo_ hb; clear ho hb HO1 HB HCL)
   go_roundg R'.length
   case measure => have h := congrArg List.length HR.out; have := HX.out; simp only [List.length_append] at h; omega
   case rel =>
    refine ⟨D ++ isort ltW X, R', b, b1, ⟨fun T h => ?_⟩, ⟨?_⟩, Nat.le_refl _, ⟨?_⟩, ⟨?_⟩, rfl, ?_, HB2, HO2⟩
    ·rw [List.append_assoc]
     exact HF.out _ (Bl.cons (by rw [isort_length]; exact HX.out) (isort_sorted weakW X) h)
    ·refine Same.trans ?_ HS.out
     rw [HR.out, List.append_assoc]
     exact Same.append (Same.refl D) (Same.append (isort_same weakW X) (Same.refl R'))
    ·rw [List.length_append, isort_length, HX.out]; exact HBb.out
    ·rw [List.length_append, isort_length, HX.out]; exact HB1.out
    ·first | rfl | rw [← hb1] | (simp only [← hb1, i64_w])
  ·have e0 : decide (b ≤ z) = false := decide_eq_false (by have := HBb.out; have := HZ.out; have := HN.out; omega)
   have HCL := A0qfo_ (fun W H1 H2 => insertion_at n cap base ad D R [] w0 W H1 H2 hb0 (by omega) a z HA.out (by have := HZ.out; have := HN.out; omega))
   have HO1 := A0qfo_ (show Kd.R k74 74 _ base (fun _ => True) (.slice (some ad) n cap) (D ++ R ++ []) by have h := HO.out; simpa using h)
   clear HO
   go_wp2_with (go_at_call 138; refine (HCL.out _ HO1.out HB.out).mono ?_; rintro e w2 ⟨rfl, ho, hb⟩; have HO2 := A0qfo_ ho; have HB2 := A0qfo_ hb; clear ho hb HO1 HB HCL)
   go_loopg [6] n (fun gg s6 wr => ∃ (ys : List S74) (k : Nat) (kz : Int), Aside0 (Bl ltW k ys) ∧ Aside0 (Same ltW ys xs) ∧ Aside0 (1 ≤ k ∧ k ≤ 200000) ∧ n - k ≤ gg ∧ Aside0 (kz = (k : Int)) ∧ s6 = .int .i64 kz ∧ Aside0 (Below base w0 wr) ∧ Aside0 (Kd.R k74 74 wr base (fun _ => True) (.slice (some ad) n cap) ys))
   case atStart =>
    refine ⟨D ++ isort ltW R, 20, 20, ⟨?_⟩, ⟨?_⟩, ⟨by omega⟩, by omega, ⟨rfl⟩, rfl, HB2, ⟨by have h := HO2.out; simpa using h⟩⟩
    ·have := HF.out (isort ltW R) (.last (by rw [isort_length]; omega) (isort_sorted weakW R))
     exact this
    ·exact Same.trans (Same.append (Same.refl D) (isort_same weakW R)) HS.out
   case round =>
    clear HO2 HB2 HF HS HA HBb HN hg hle e0
    obtain ⟨ys, k, kz, HBL, HS, HK, hg, HKZ, rfl, HB, HO⟩ := hrel
    have HN := A0qfo_ (show ys.length = n by have h1 := (Kd.R_reads' HO.out).1; omega)
    by_cases hlt : k < n
    ·have e0 : decide (kz < z) = true := decide_eq_true (by have := HKZ.out; have := HZ.out; omega)
     obtain ⟨k2, hk2⟩ : ∃ z, wrap64 (2 * kz) = z := ⟨_, rfl⟩
     obtain ⟨k3, hk3⟩ : ∃ z, wrap64 (kz * 2) = z := ⟨_, rfl⟩
     have HK2 := A0qfo_ (show k2 = ((2 * k : Nat) : Int) by have := HKZ.out; have := HK.out; rw [← hk2]; unfold wrap64; omega)
     have HK3 := A0qfo_ (show k3 = ((2 * k : Nat) : Int) by have := HKZ.out; have := HK.out; rw [← hk3]; unfold wrap64; omega)
     go_wp2
     (try simp only [hk2])
     go_loopg [7, 8] n (fun gg s7 s8 wi => ∃ (D R : List S74) (a b : Int), Aside0 (∀ T, Bl ltW (2 * k) T → Bl ltW (2 * k) (D ++ T)) ∧ Aside0 (Bl ltW k R) ∧ Aside0 (Same ltW (D ++ R) xs) ∧ R.length ≤ gg ∧ Aside0 (a = (D.length : Int)) ∧ Aside0 (b = ((D.length + 2 * k : Nat) : Int)) ∧ s7 = .int .i64 a ∧ s8 = .int .i64 b ∧ Aside0 (Below base w0 wi) ∧ Aside0 (Kd.R k74 74 wi base (fun _ => True) (.slice (some ad) n cap) (D ++ R)))
     case atStart => exact ⟨[], ys, 0, k2, ⟨fun T h => h⟩, HBL, HS, by have := HN.out; omega, ⟨rfl⟩, ⟨by have := HK2.out; simpa using this⟩, rfl, rfl, HB, HO⟩
     case round =>
      clear HO HB HBL HS
      obtain ⟨D, R, a, b, HF, HBL, HS, hg2, HA, HBb, rfl, rfl, HB, HO⟩ := hrel
      have HN2 := A0qfo_ (show D.length + R.length = n by have h1 := (Kd.R_reads' HO.out).1; simp only [List.length_append] at h1; omega)
      obtain ⟨am, ham⟩ : ∃ z, wrap64 (a + kz) = z := ⟨_, rfl⟩
      have HAM := A0qfo_ (show am = ((D.length + k : Nat) : Int) by have := HA.out; have := HKZ.out; have := HK.out; have := HN2.out; rw [← ham]; unfold wrap64; omega)
      by_cases hle : 2 * k ≤ R.length
      ·have e1 : decide (b ≤ z) = true := decide_eq_true (by have := HBb.out; have := HZ.out; have := HN2.out; omega)
       obtain ⟨b1, hb1⟩ : ∃ z, wrap64 (b + k2) = z := ⟨_, rfl⟩
       have HB1 := A0qfo_ (show b1 = ((D.length + 2 * k + 2 * k : Nat) : Int) by have := HBb.out; have := HN2.out; have := HK2.out; have := HK.out; rw [← hb1]; unfold wrap64; omega)
       obtain ⟨X, R1, hR1, hX, sX, hBl1⟩ := HBL.out.first (by omega)
       obtain ⟨Y, R2, hR2, hY, sY, hBl2⟩ := hBl1.first (by have h := congrArg List.length hR1; rw [List.length_append] at h; omega)
       have HCL := A0qfo_ (fun W H1 H2 => sym_calls n cap base ad w0 hb0 (by omega) _ D X Y R2 W (Nat.le_refl _) sX sY (List.ne_nil_of_length_pos (by have := HK.out; omega)) (List.ne_nil_of_length_pos (by have := HK.out; omega)) H1 H2 a am b HA.out (by rw [hX]; exact HAM.out) (by rw [hX, hY]; have := HBb.out; omega))
       have HO1 := A0qfo_ (show Kd.R k74 74 _ base (fun _ => True) (.slice (some ad) n cap) (D ++ X ++ Y ++ R2) by have h := HO.out; rw [hR1, hR2] at h; simpa using h)
       have HR := A0qfo_ (show R = X ++ (Y ++ R2) by rw [hR1, hR2])
       have HL := A0qfo_ (And.intro hX hY)
       have HBL2 := A0qfo_ hBl2
       clear HO hR1 hR2 hX hY sX sY hBl1 hBl2
       go_wp2_with (go_at_call 139; refine (HCL.out _ HO1.out HB.out).mono ?_; rintro e w3 ⟨rfl, ho, hb⟩; have HO2 := A0qfo_ ho; have HB2 := A0qfo_ hb; clear ho hb HO1 HB HCL)
       go_roundg R2.length
       case measure => have h := congrArg List.length HR.out; have := HL.out; have := HK.out; simp only [List.length_append] at h; omega
       case rel =>
        refine ⟨D ++ isort ltW (X ++ Y), R2, b, b1, ⟨fun T h => ?_⟩, HBL2, ⟨?_⟩, Nat.le_refl _, ⟨?_⟩, ⟨?_⟩, rfl, ?_, HB2, HO2⟩
        ·rw [List.append_assoc]
         exact HF.out _ (Bl.cons (by rw [isort_length, List.length_append]; have := HL.out; omega) (isort_sorted weakW _) h)
        ·refine Same.trans ?_ HS.out
         rw [HR.out, List.append_assoc, ← List.append_assoc X Y R2]
         exact Same.append (Same.refl D) (Same.append (isort_same weakW _) (Same.refl R2))
        ·rw [List.length_append, isort_length, List.length_append]; have := HL.out; have := HBb.out; omega
        ·rw [List.length_append, isort_length, List.length_append]; have := HL.out; have := HB1.out; omega
        ·first | rfl | rw [← hb1] | (simp only [← hb1, i64_w])
      ·have e1 : decide (b ≤ z) = false := decide_eq_false (by have := HBb.out; have := HZ.out; have := HN2.out; omega)
       by_cases hlt2 : k < R.length
       ·have e2 : decide (am < z) = true := decide_eq_true (by have := HAM.out; have := HZ.out; have := HN2.out; omega)
        obtain ⟨X, Y, hR1, hX, sX, hBl1⟩ := HBL.out.first (by omega)
        have hYl : k + Y.length = R.length := by have h := congrArg List.length hR1; rw [List.length_append] at h; omega
        have sY := hBl1.short (by omega)
        have HCL := A0qfo_ (fun W H1 H2 => sym_calls n cap base ad w0 hb0 (by omega) _ D X Y [] W (Nat.le_refl _) sX sY (List.ne_nil_of_length_pos (by have := HK.out; omega)) (List.ne_nil_of_length_pos (by omega)) H1 H2 a am z HA.out (by rw [hX]; exact HAM.out) (by rw [hX]; have := HZ.out; have := HN2.out; omega))
        have HO1 := A0qfo_ (show Kd.R k74 74 _ base (fun _ => True) (.slice (some ad) n cap) (D ++ X ++ Y ++ []) by have h := HO.out; rw [hR1] at h; simpa using h)
        have HR := A0qfo_ hR1
        have HYL := A0qfo_ hYl
        have HXL := A0qfo_ hX
        clear HO hR1 hX sX hBl1 hYl sY
        go_wp2_with (go_at_call 139; refine (HCL.out _ HO1.out HB.out).mono ?_; rintro e w3 ⟨rfl, ho, hb⟩; have HO2 := A0qfo_ ho; have HB2 := A0qfo_ hb; clear ho hb HO1 HB HCL)
        go_roundg (n - 2 * k)
        case measure => have := HK.out; omega
        case rel =>
         refine ⟨D ++ isort ltW (X ++ Y), 2 * k, k3, ⟨?_⟩, ⟨?_⟩, ⟨by have := HK.out; omega⟩, Nat.le_refl _, HK3, ?_, HB2, ⟨by have h := HO2.out; simpa using h⟩⟩
         ·exact HF.out _ (.last (by rw [isort_length, List.length_append]; have := HXL.out; have := HYL.out; omega) (isort_sorted weakW _))
         ·refine Same.trans ?_ HS.out
          rw [HR.out]
          exact Same.append (Same.refl D) (isort_same weakW _)
         ·first | rfl | rw [← hk3] | (simp only [← hk3, i64_w])
       ·have e2 : decide (am < z) = false := decide_eq_false (by have := HAM.out; have := HZ.out; have := HN2.out; omega)
        have HSR := A0qfo_ (HBL.out.short (by omega))
        go_wp2
        go_roundg (n - 2 * k)
        case measure => have := HK.out; omega
        case rel =>
         refine ⟨D ++ R, 2 * k, k3, ⟨HF.out _ (.last (by omega) HSR.out)⟩, HS, ⟨by have := HK.out; omega⟩, Nat.le_refl _, HK3, ?_, HB, HO⟩
         first | rfl | rw [← hk3] | (simp only [← hk3, i64_w])
    ·have e0 : decide (kz < z) = false := decide_eq_false (by have := HKZ.out; have := HZ.out; omega)
     have HD := A0qfo_ (show Kd.R k74 74 wr base (fun _ => True) (.slice (some ad) n cap) (isort ltW xs) by
      have e : ys = isort ltW xs := isort_of weakW (HBL.out.short (by have := HN.out; omega)) HS.out
      rw [← e]; exact HO.out)
     clear HO
     go_wp2
     (try simp only [Exit.inBlock, Exit.then])
     refine bodyPost_end (results_none rfl _ _ _) rfl ?_
     exact ⟨rfl, HD.out, HB.out⟩
end Go.Proofs.Ythdhkoeaadahaaa.P
namespace Go.Proofs.Ythdhkoeaadahaaa.P
open Go.RowKit Go.Proofs.YthdhkoeaadahaaaW.PrintWords Go.Proofs.YthdhkoeaadahaaaW.PrintLast Go.Proofs.YthdhkoeaadahaaaW.PrintMore Go.Proofs.Ythdhkoeaadahaaa.SortCore
attribute [local go_sem] Oper.semAt_some
set_option linter.unusedVariables false
set_option linter.unusedSimpArgs false
def foldW (l : List S74) : List S74 := fold ltW l
def fold_Fold.f (l : List S74) : Option (List S74) := if l.length ≤ 100000 then some (foldW l) else none
def fold7.T : Bool × List (List Nat × List Nat) := (true, [([], []), ([0], [0]), ([], []), ([2], [2]), ([1, 3], [1, 3]), ([4], [4]), ([5], [5]), ([5], [5]), ([5], [5]), ([8, 5], [5, 8]), ([7, 9, 5], [5, 7, 9]), ([10, 5], [5, 10]), ([6, 11, 5, 5], [5, 6, 11]), ([12, 5], [5, 12]), ([5, 13], [5, 13])])
def fold7.B : List Nat := [0, 1, 0, 4, 15, 31, 63, 63, 63, 319, 959, 1983, 4095, 8191, 16383]
theorem fold7.tab : rtab .any (opsOf Try.f47 7) = fold7.T := by kernel_rfl
theorem fold7.bits : waitsOk fold7.T.2 fold7.B = true := by kernel_rfl
theorem order_same (x y : S74) : ∃ (bo : Bool) (o : Int), eqv ltW x y = bo ∧ fold_order.f 5 x.f0 x.f1 x.f2 y.f0 y.f1 y.f2 = some o ∧ (o == 0) = bo := by
 have key : ∃ o, fold_order.f 5 x.f0 x.f1 x.f2 y.f0 y.f1 y.f2 = some o ∧ (o = 0 ↔ x.f0 = y.f0 ∧ x.f1 = y.f1) := by
  unfold fold_order.f
  rw [cmp_f, cmp_f, Option.bind_some, Option.bind_some, or_f, Option.bind_some]
  refine ⟨_, rfl, ?_⟩
  repeat' split
  all_goals omega
 obtain ⟨o, ho, h⟩ := key
 refine ⟨eqv ltW x y, o, rfl, ho, ?_⟩
 have h2 : eqv ltW x y = true ↔ x.f0 = y.f0 ∧ x.f1 = y.f1 := by rw [eqv_iff, ltW_false, ltW_false]; omega
 cases e : eqv ltW x y with
 | true => exact beq_iff_eq.2 (h.2 (h2.1 e))
 | false => exact beq_eq_false_iff_ne.2 (fun e2 => by rw [h2.2 (h.1 e2)] at e; cases e)
set_option maxRecDepth 100000 in
set_option maxHeartbeats 2000000 in
theorem sort_calls (n cap base : Nat) (ad : Addr) (xs : List S74) (w0 w : World) (HO0 : Kd.R k74 74 w base (fun _ => True) (.slice (some ad) n cap) xs) (HB0 : Below base w0 w) (hb0 : base ≤ w0.heap.size) (hn : n ≤ 100000) :
  Calls Try.prog 100 #[.slice (some ad) n cap, .func (.func 101) #[] #[]] w fun e w' => e = .returned (.tuple #[]) ∧ Kd.R k74 74 w' base (fun _ => True) (.slice (some ad) n cap) (isort ltW xs) ∧ Below base w0 w' := by
 have HCL := A0qfo_ (fun W H1 H2 => stable_calls n cap base ad xs w0 W H1 H2 hb0 hn)
 have HO := A0qfo_ HO0
 have HB := A0qfo_ HB0
 clear HO0 HB0
 go_enter Try.func100, Try.ntmps100
 go_wp2_with (go_at_call 125; refine (HCL.out _ HO.out HB.out).mono ?_; rintro e w2 ⟨rfl, ho, hb⟩; have HO2 := A0qfo_ ho; have HB2 := A0qfo_ hb; clear ho hb HO HB HCL)
 (try simp only [Exit.inBlock, Exit.then])
 refine bodyPost_end (results_none rfl _ _ _) rfl ?_
 exact ⟨rfl, HO2.out, HB2.out⟩
set_option maxRecDepth 100000 in
set_option maxHeartbeats 8000000 in
theorem fold_long (A0 : Option Addr) (c0 : Nat) (l0 : List S74) (w : World) (hr0 : Kd.C k74 w A0 l0.length l0) (hc0 : l0.length ≤ c0) (h2 : 1 ≤ l0.length) (hn : l0.length ≤ 100000) :
  Calls Try.prog 47 #[.slice A0 l0.length c0] w fun e w' => ∃ v0_ : Value, e = .returned v0_ ∧ Kd.R k74 74 w' w.heap.size (fun _ => True) v0_ (foldW l0) ∧ Below w.heap.size w w' := by
 have hu74 := Try.underlying74
 have hcl := api_Write_99.calls A0 c0 l0 l0 w hr0 hc0 (by unfold api_Write_99.f; rw [if_pos (by omega)])
 obtain ⟨xs, hxs⟩ : ∃ xs, isort ltW l0 = xs := ⟨_, rfl⟩
 have HX := A0qfo_ hxs
 have hb0 : w.heap.size ≤ w.heap.size := Nat.le_refl _
 obtain ⟨n, hnn⟩ : ∃ n, l0.length = n := ⟨_, rfl⟩
 have HNN := A0qfo_ hnn
 have HLX := A0qfo_ (show xs.length = n by rw [← hxs, isort_length, hnn])
 rw [hnn] at h2 hn hcl ⊢
 clear hr0 hxs hnn
 go_enter Try.func47, Try.ntmps47
 go_wp2_with (first
  | (go_at_call 99; refine hcl.mono ?_; rintro e w2 ⟨v2, rfl, ho, hb⟩; obtain ⟨g2, c2, e2, hg2, _⟩ := Kd.R_form ho (by have := HNN.out; omega); rw [HNN.out] at e2; subst e2; obtain ⟨ad, had⟩ : ∃ ad : Addr, ⟨g2, 0, none⟩ = ad := ⟨_, rfl⟩; rw [had] at ho ⊢; have HAD := A0qfo_ had; clear had; have HO := A0qfo_ ho; have HB := A0qfo_ hb; clear ho hb)
  | (go_at_call 100; refine (sort_calls n c2 w.heap.size ad l0 w _ HO.out HB.out (Nat.le_refl _) hn).mono ?_; rintro e w3 ⟨rfl, ho, hb⟩; rw [HX.out] at ho; have HO3 := A0qfo_ (Kd.R_mono (Kd.R_tight rfl ho) (ok' := fun k => k = g2) (fun k hk => by rw [← HAD.out] at hk; simpa [Value.ownBlock] using hk)); have HB3 := A0qfo_ hb; clear ho hb HO HB))
 go_loopg [4, 13] n (fun gg s4 s13 wr => ∃ (kk : Nat) (ks : List S74), kk ≤ n ∧ n - kk ≤ gg ∧ Aside0 (ks.length ≤ kk) ∧ s13 = .int .i64 kk ∧ Aside0 (Below w.heap.size w wr) ∧ Aside0 (ks ++ keep ltW (xs.drop kk) = keep ltW xs) ∧ Aside0 (Kd.R k74 74 wr w.heap.size (fun k => k ≠ g2) s4 ks) ∧ Aside0 (Kd.R k74 74 wr w.heap.size (fun k => k = g2) (.slice (some ad) n c2) xs))
 case atStart => exact ⟨0, [], by omega, by omega, ⟨Nat.le_refl _⟩, rfl, HB3, ⟨rfl⟩, ⟨Kd.R_nil _ _ _ _ _⟩, HO3⟩
 case round =>
  clear HB3 HO3
  obtain ⟨kk, ks, hkk, hg, HKL, rfl, HB, HKE, HK, HO⟩ := hrel
  obtain ⟨A4, c4, e4⟩ := Kd.R_slice HK.out
  subst e4
  by_cases hlt : kk < n
  ·have e0 : decide (((kk : Nat) : Int) < (n : Int)) = true := decide_eq_true (by omega)
   have e0' : decide (kk < n) = true := decide_eq_true hlt
   have hC := Kd.R_reads' HO.out
   have hC2 := hC.2.2
   rw [← hC.1] at hC2
   obtain ⟨ad1, ea, d0, d1, d2⟩ := at_T74 hC2 ((kk : Nat) : Int) (by omega) (by omega)
   obtain rfl : ad = ad1 := by injection ea
   have HD := A0qfo_ (show xs.drop kk = rd_T74 xs ((kk : Nat) : Int) :: xs.drop (kk + 1) by rw [rdw xs kk (by have := HLX.out; omega)]; exact List.drop_eq_getElem_cons (by have := HLX.out; omega))
   rw [Int.toNat_natCast] at d0 d1 d2
   generalize rd_T74 xs ((kk : Nat) : Int) = x at d0 d1 d2 HD
   clear hC hC2 ea
   obtain ⟨k1, hk1⟩ : ∃ z, wrap64 ((kk : Int) + 1) = z := ⟨_, rfl⟩
   have HK1 := A0qfo_ (show k1 = ((kk + 1 : Nat) : Int) by rw [← hk1]; unfold wrap64; omega)
   have hk1' : IntKind.i64.wrap ((kk : Int) + 1) = k1 := by rw [i64_w]; exact hk1
   by_cases hlt2 : kk + 1 < n
   ·have e1 : decide (k1 < (n : Int)) = true := decide_eq_true (by have := HK1.out; omega)
    go_wp2
    have BK := A0qfo_ (blk_new wr (.cells #[.int .i64 x.f0, .int .i64 x.f1, .string x.f2] 74))
    have HO9 := A0qfo_ (Kd.R_alloc HO.out (.cells #[.int .i64 x.f0, .int .i64 x.f1, .string x.f2] 74))
    have HK9 := A0qfo_ (Kd.R_alloc HK.out (.cells #[.int .i64 x.f0, .int .i64 x.f1, .string x.f2] 74))
    have HB9 := A0qfo_ (below_alloc HB.out (.cells #[.int .i64 x.f0, .int .i64 x.f1, .string x.f2] 74))
    clear HO HK HB d0 d1 d2
    have HO := HO9
    have HK := HK9
    have HB := HB9
    clear HO9 HK9 HB9
    generalize wr.alloc (.cells #[.int .i64 x.f0, .int .i64 x.f1, .string x.f2] 74) = W1 at BK HO HK HB ⊢
    generalize wr.heap.size = gb at BK ⊢
    obtain ⟨y, hy⟩ : ∃ y, rd_T74 xs k1 = y := ⟨_, rfl⟩
    have HV := A0qfo_ hy
    have HD2 := A0qfo_ (show xs.drop (kk + 1) = y :: xs.drop (kk + 2) by rw [← hy, HK1.out, rdw xs (kk + 1) (by have := HLX.out; omega)]; exact List.drop_eq_getElem_cons (by have := HLX.out; omega))
    obtain ⟨bo, o, hbo, ho, eo⟩ := order_same x y
    have eo2 : decide (o = 0) = bo := by rw [← eo]; rfl
    have HBO := A0qfo_ hbo
    have HOR := A0qfo_ (fun (W : World) => fold_order.calls 5 x.f0 x.f1 x.f2 y.f0 y.f1 y.f2 o W ho)
    have p1 : (0 ≤ k1) = True := eq_true (by have := HK1.out; omega)
    have q1 : (k1 < (n : Int)) = True := eq_true (by have := HK1.out; omega)
    clear hy hbo ho
    have HO_1 := A0qfo_ (Kd.R_drew HO.out)
    have HK_1 := A0qfo_ (Kd.R_drew HK.out)
    have BK_1 := A0qfo_ (blk_drew BK.out)
    have HB_1 := A0qfo_ (below_drew1 HB.out)
    clear HO HB HK BK
    have x0 : (W1.drew).cell? ⟨gb, 0, none⟩ = some (.int .i64 x.f0) := (blk_cell BK_1.out 0).trans rfl
    have x1 : (W1.drew).cell? ⟨gb, 1, none⟩ = some (.int .i64 x.f1) := (blk_cell BK_1.out 1).trans rfl
    have x2 : (W1.drew).cell? ⟨gb, 2, none⟩ = some (.string x.f2) := (blk_cell BK_1.out 2).trans rfl
    have hC := (Kd.R_reads' HO_1.out)
    have hC2 := hC.2.2
    rw [← hC.1] at hC2
    obtain ⟨ad1, ea, y0, y1, y2⟩ := at_T74 hC2 k1 (of_eq_true p1) (of_eq_true q1)
    obtain rfl : ad = ad1 := by injection ea
    rw [HV.out] at y0 y1 y2
    clear hC hC2 ea
    refine start_ (n := 15) (S := fun w' => w'.cell? ⟨gb, 0, none⟩ = some (.int .i64 x.f0) ∧ w'.cell? ⟨gb, 1, none⟩ = some (.int .i64 x.f1) ∧ w'.cell? ⟨gb, 2, none⟩ = some (.string x.f2) ∧ w'.cell? (ad.add (k1.toNat * 3)) = some (.int .i64 y.f0) ∧ w'.cell? ⟨(ad.add (k1.toNat * 3)).block, (ad.add (k1.toNat * 3)).off + 1, none⟩ = some (.int .i64 y.f1) ∧ w'.cell? ⟨(ad.add (k1.toNat * 3)).block, (ad.add (k1.toNat * 3)).off + 2, none⟩ = some (.string y.f2)) (ds := []) mk0qfo_ (by kernel_rfl) rfl rfl ⟨x0, x1, x2, y0, y1, y2⟩ (fun hHeld => ?_); refine with_tabW fold7.tab fold7.bits (fun HT_ HW_ => ?_)
    clear x0 x1 x2 y0 y1 y2
    generalize W1.drew = w_1 at HO_1 HB_1 HK_1 BK_1 hHeld ⊢
    refine pure_ (i:=0) (N:=some 18) (v:=?_) (a':=?_) mk1qfo_ rfl rfl (any_of HT_.out (by kernel_rfl)) (fun _ _ _ h => h) (Or.inl ⟨by rfl, ?_⟩) ?_ ?_
    rotate_left
    ·intro w'
     go_simp
     with_reducible rfl
    rotate_left
    ·simp only [Act.put, z1qfo_, z2qfo_, z3qfo_, i64_w, i32_w]
     rfl
    refine pure_ (i:=1) (N:=some 19) (v:=?_) (a':=?_) mk2qfo_ rfl rfl (any_of HT_.out (by kernel_rfl)) (fun _ _ _ h => h) (Or.inl ⟨by rfl, ?_⟩) ?_ ?_
    rotate_left
    ·intro w'
     go_simp
     with_reducible rfl
    rotate_left
    ·simp only [Act.put, z1qfo_, z2qfo_, z3qfo_, i64_w, i32_w]
     rfl
    refine pure_ (i:=2) (N:=some 20) (v:=?_) (a':=?_) mk3qfo_ rfl rfl (any_of HT_.out (by kernel_rfl)) (fun _ _ _ h => h) (Or.inl ⟨by rfl, ?_⟩) ?_ ?_
    rotate_left
    ·intro w'
     go_simp
     with_reducible rfl
    rotate_left
    ·simp only [Act.put, z1qfo_, z2qfo_, z3qfo_, i64_w, i32_w]
     rfl
    refine pure_ (i:=3) (N:=some 21) (v:=?_) (a':=?_) mk4qfo_ rfl rfl (any_of HT_.out (by kernel_rfl)) (fun _ _ _ h => h) (Or.inl ⟨by rfl, ?_⟩) ?_ ?_
    rotate_left
    ·intro w'
     go_simp
     with_reducible rfl
    rotate_left
    ·simp only [Act.put, z1qfo_, z2qfo_, z3qfo_, i64_w, i32_w]
     rfl
    refine pure_ (i:=4) (N:=some 22) (v:=?_) (a':=?_) mk5qfo_ rfl rfl (any_of HT_.out (by kernel_rfl)) (fun _ _ _ h => h) (Or.inl ⟨by rfl, ?_⟩) ?_ ?_
    rotate_left
    ·intro w'
     go_simp
     with_reducible rfl
    rotate_left
    ·simp only [Act.put, z1qfo_, z2qfo_, z3qfo_, i64_w, i32_w]
     rfl
    refine pure_ (i:=5) (N:=some 23) (v:=?_) (a':=?_) mk6qfo_ rfl rfl (any_of HT_.out (by kernel_rfl)) (fun _ _ _ h => h) (Or.inl ⟨by rfl, ?_⟩) ?_ ?_
    rotate_left
    ·intro w'
     go_simp
     with_reducible rfl
    rotate_left
    ·simp only [Act.put, z1qfo_, z2qfo_, z3qfo_, i64_w, i32_w]
     rfl
    refine pure_ (i:=7) (N:=some 25) (v:=?_) (a':=?_) mk7qfo_ rfl rfl (any_of HT_.out (by kernel_rfl)) (fun _ _ _ h => h) (Or.inl ⟨by rfl, ?_⟩) ?_ ?_
    rotate_left
    ·intro w'
     go_simp
     with_reducible rfl
    rotate_left
    ·simp only [Act.put, z1qfo_, z2qfo_, z3qfo_, i64_w, i32_w]
     rfl
    refine pure_ (i:=8) (N:=some 26) (v:=?_) (a':=?_) mk8qfo_ rfl rfl (any_of HT_.out (by kernel_rfl)) (fun _ _ _ h => h) (Or.inl ⟨by rfl, ?_⟩) ?_ ?_
    rotate_left
    ·intro w'
     go_simp
     with_reducible rfl
    rotate_left
    ·simp only [Act.put, z1qfo_, z2qfo_, z3qfo_, i64_w, i32_w]
     rfl
    refine pure_ (i:=9) (N:=some 27) (v:=?_) (a':=?_) mk9qfo_ rfl rfl (any_of HT_.out (by kernel_rfl)) (fun _ _ _ h => h) (Or.inl ⟨by rfl, ?_⟩) ?_ ?_
    rotate_left
    ·intro w'
     go_simp
     with_reducible rfl
    rotate_left
    ·simp only [Act.put, z1qfo_, z2qfo_, z3qfo_, i64_w, i32_w]
     rfl
    refine pure_ (i:=10) (N:=some 28) (v:=?_) (a':=?_) mk10qfo_ rfl rfl (any_of HT_.out (by kernel_rfl)) (fun _ _ _ h => h) (Or.inl ⟨by rfl, ?_⟩) ?_ ?_
    rotate_left
    ·intro w'
     go_simp
     with_reducible rfl
    rotate_left
    ·simp only [Act.put, z1qfo_, z2qfo_, z3qfo_, i64_w, i32_w]
     rfl
    refine take_ (i:=6) (N:=some 24) (v:=?_) (a':=?_) mk11qfo_ rfl rfl (take_ofW HT_.out HW_.out (by kernel_rfl)) (fun _ _ _ h => h) (Or.inl ⟨by rfl, ?_⟩) hHeld ?_ ?_
    rotate_left
    ·rintro w' ⟨s0, s1, s2, s3, s4, s5⟩
     go_simp
     with_reducible rfl
    rotate_left
    ·simp only [Act.put, z1qfo_, z2qfo_, z3qfo_, i64_w, i32_w]
     rfl
    refine take_ (i:=11) (N:=some 29) (v:=?_) (a':=?_) mk12qfo_ rfl rfl (take_ofW HT_.out HW_.out (by kernel_rfl)) (fun _ _ _ h => h) (Or.inl ⟨by rfl, ?_⟩) hHeld ?_ ?_
    rotate_left
    ·rintro w' ⟨s0, s1, s2, s3, s4, s5⟩
     go_simp
     with_reducible rfl
    rotate_left
    ·simp only [Act.put, z1qfo_, z2qfo_, z3qfo_, i64_w, i32_w]
     rfl
    refine one_ (i:=12) (N:=some 30) mk13qfo_ rfl rfl (one_of HT_.out (by kernel_rfl)) (by decide) (fun K hK => ?_)
    refine call_ 101 #[.agg #[.int .i64 x.f0, .int .i64 x.f1, .string x.f2], .agg #[.int .i64 y.f0, .int .i64 y.f1, .string y.f2]] (by rfl) rfl (by first | (go_simp; done) | (go_simp; rfl)) ?_
    refine (HOR.out w_1).mono ?_
    rintro e w_2 ⟨rfl, hb⟩
    refine ⟨_, rfl, ?_⟩
    have HO_2 := A0qfo_ (Kd.R_below HO_1.out hb)
    have HK_2 := A0qfo_ (Kd.R_below HK_1.out hb)
    have BK_2 := A0qfo_ (blk_below BK_1.out hb)
    have HB_2 := A0qfo_ (HB_1.out.trans (hb.mono (Nat.le_trans hb0 HB_1.out.size)))
    obtain ⟨s0, s1, s2, s3, s4, s5⟩ := hHeld
    refine hK.out _ _ ⟨(hb.cell (World.block_lt_of_cell? _ _ s0)).trans s0, (hb.cell (World.block_lt_of_cell? _ _ s1)).trans s1, (hb.cell (World.block_lt_of_cell? _ _ s2)).trans s2, (hb.cell (World.block_lt_of_cell? _ _ s3)).trans s3, (hb.cell (World.block_lt_of_cell? _ _ s4)).trans s4, (hb.cell (World.block_lt_of_cell? _ _ s5)).trans s5⟩ (fun hHeld => ?_)
    clear hK K HO_1 HB_1 HK_1 BK_1 hb s0 s1 s2 s3 s4 s5
    refine norm_ (a' := ?_) ?_ ?_
    rotate_left
    ·show Act.put _ (some 30) _ = _
     simp only [Act.put, z1qfo_, z2qfo_, z3qfo_, i64_w, i32_w]
     rfl
    refine pure_ (i:=13) (N:=some 31) (v:=?_) (a':=?_) mk14qfo_ rfl rfl (any_of HT_.out (by kernel_rfl)) (fun _ _ _ h => h) (Or.inl ⟨by rfl, ?_⟩) ?_ ?_
    rotate_left
    ·intro w'
     go_simp
     with_reducible rfl
    rotate_left
    ·simp only [Act.put, z1qfo_, z2qfo_, z3qfo_, i64_w, i32_w]
     rfl
    refine pure_ (i:=14) (N:=some 32) (v:=?_) (a':=?_) mk15qfo_ rfl rfl (any_of HT_.out (by kernel_rfl)) (fun _ _ _ h => h) (Or.inl ⟨by rfl, ?_⟩) ?_ ?_
    rotate_left
    ·intro w'
     go_simp
     with_reducible rfl
    rotate_left
    ·simp only [Act.put, z1qfo_, z2qfo_, z3qfo_, i64_w, i32_w]
     rfl
    refine done_ (done_of HT_.out (by kernel_rfl)) ?_
    clear hHeld HT_ HW_
    cases bo with
    | true =>
     go_wp2
     go_roundg (n - kk - 1)
     case measure => omega
     case rel =>
      refine ⟨kk + 1, ks, by omega, by omega, ⟨by have := HKL.out; omega⟩, ?_, HB_2, ⟨?_⟩, HK_2, HO_2⟩
      ·first | rfl | (rw [← HK1.out]; done) | (rw [← HK1.out, ← hk1])
      ·have h := HKE.out
       rw [HD.out, HD2.out, keep, if_pos HBO.out] at h
       rw [HD2.out]
       exact h
    | false =>
     have b0 : w_2.cell? ⟨gb, 0, none⟩ = some (.int .i64 x.f0) := (blk_cell BK_2.out 0).trans rfl
     have b1 : w_2.cell? ⟨gb, 1, none⟩ = some (.int .i64 x.f1) := (blk_cell BK_2.out 1).trans rfl
     have b2 : w_2.cell? ⟨gb, 2, none⟩ = some (.string x.f2) := (blk_cell BK_2.out 2).trans rfl
     have HKS := A0qfo_ (show ks ++ [x] ++ keep ltW (xs.drop (kk + 1)) = keep ltW xs by
      have h := HKE.out
      rw [HD.out, HD2.out, keep, if_neg (by rw [HBO.out]; simp)] at h
      rw [HD2.out, ← h]; simp)
     go_wp2_with ((with_reducible refine gate_builtin (b := .append) (xs := #[.tmp 33, .tmp 35]) rfl ?_); at_builtin; refine Kd.R_append k74 (w0 := w) w.heap.size rfl (.tmp 33) (.tmp 35) 25 74 (.agg #[(.int .i64 0), (.int .i64 0), (.string ⟨#[]⟩)]) 32 rfl Try.underlying25 info74 rfl (by decide) (by omega) _ ks x [.int .i64 x.f0, .int .i64 x.f1, .string x.f2] (fun k => k ≠ g2) (fun _ => False) rfl rfl ?aP (fun _ hk => hk.elim) ?aF ?aO ?aB ?aS ?aL ?_; (case aP => exact k74_mkM _ _ _ x); (case aF => exact fun k hk => by have h9 := Kd.R_lt HO_2.out g2 (by rw [← HAD.out]; simp [Value.ownBlock]); omega); (case aO => exact HK_2.out); (case aB => exact HB_2.out); (case aS => exact HB_2.out.size); (case aL => have := HKL.out; omega); intro v1 w1 ho hb hg hat; have HO1 := A0qfo_ (Kd.R_grown HO_2.out hg (fun k hk => fun e9 => (HK_2.out.1 k e9.symm) hk)); have HK1' := A0qfo_ ho; have HB1 := A0qfo_ hb; clear ho hb hg hat)
     go_roundg (n - kk - 1)
     case measure => omega
     case rel =>
      refine ⟨kk + 1, ks ++ [x], by omega, by omega, ⟨by have := HKL.out; simp; omega⟩, ?_, HB1, HKS, HK1', HO1⟩
      first | rfl | (rw [← HK1.out]; done) | (rw [← HK1.out, ← hk1])
   ·have e1 : decide (k1 < (n : Int)) = false := decide_eq_false (by have := HK1.out; omega)
    go_wp2
    go_quiet (fail)
    have BK_2 := A0qfo_ (blk_drewN (blk_new wr (.cells #[.int .i64 x.f0, .int .i64 x.f1, .string x.f2] 74)) nq)
    have HO_2 := A0qfo_ (Kd.R_drewN (Kd.R_alloc HO.out (.cells #[.int .i64 x.f0, .int .i64 x.f1, .string x.f2] 74)) nq)
    have HK_2 := A0qfo_ (Kd.R_drewN (Kd.R_alloc HK.out (.cells #[.int .i64 x.f0, .int .i64 x.f1, .string x.f2] 74)) nq)
    have HB_2 := A0qfo_ (pw_below_drewN (below_alloc HB.out (.cells #[.int .i64 x.f0, .int .i64 x.f1, .string x.f2] 74)) nq)
    clear HO HK HB d0 d1 d2
    generalize (wr.alloc (.cells #[.int .i64 x.f0, .int .i64 x.f1, .string x.f2] 74)).drewN nq = w_2 at BK_2 HO_2 HK_2 HB_2 ⊢
    generalize wr.heap.size = gb at BK_2 ⊢
    have b0 : w_2.cell? ⟨gb, 0, none⟩ = some (.int .i64 x.f0) := (blk_cell BK_2.out 0).trans rfl
    have b1 : w_2.cell? ⟨gb, 1, none⟩ = some (.int .i64 x.f1) := (blk_cell BK_2.out 1).trans rfl
    have b2 : w_2.cell? ⟨gb, 2, none⟩ = some (.string x.f2) := (blk_cell BK_2.out 2).trans rfl
    have HKS := A0qfo_ (show ks ++ [x] ++ keep ltW (xs.drop (kk + 1)) = keep ltW xs by
     have h := HKE.out
     rw [HD.out, List.drop_eq_nil_of_le (by have := HLX.out; omega), keep] at h
     rw [List.drop_eq_nil_of_le (by have := HLX.out; omega), keep, List.append_nil]
     exact h)
    go_wp2_with ((with_reducible refine gate_builtin (b := .append) (xs := #[.tmp 33, .tmp 35]) rfl ?_); at_builtin; refine Kd.R_append k74 (w0 := w) w.heap.size rfl (.tmp 33) (.tmp 35) 25 74 (.agg #[(.int .i64 0), (.int .i64 0), (.string ⟨#[]⟩)]) 32 rfl Try.underlying25 info74 rfl (by decide) (by omega) _ ks x [.int .i64 x.f0, .int .i64 x.f1, .string x.f2] (fun k => k ≠ g2) (fun _ => False) rfl rfl ?aP (fun _ hk => hk.elim) ?aF ?aO ?aB ?aS ?aL ?_; (case aP => exact k74_mkM _ _ _ x); (case aF => exact fun k hk => by have h9 := Kd.R_lt HO_2.out g2 (by rw [← HAD.out]; simp [Value.ownBlock]); omega); (case aO => exact HK_2.out); (case aB => exact HB_2.out); (case aS => exact HB_2.out.size); (case aL => have := HKL.out; omega); intro v1 w1 ho hb hg hat; have HO1 := A0qfo_ (Kd.R_grown HO_2.out hg (fun k hk => fun e9 => (HK_2.out.1 k e9.symm) hk)); have HK1' := A0qfo_ ho; have HB1 := A0qfo_ hb; clear ho hb hg hat)
    go_roundg (n - kk - 1)
    case measure => omega
    case rel =>
     refine ⟨kk + 1, ks ++ [x], by omega, by omega, ⟨by have := HKL.out; simp; omega⟩, ?_, HB1, HKS, HK1', HO1⟩
     first | rfl | (rw [← HK1.out]; done) | (rw [← HK1.out, ← hk1])
  ·have e0 : decide (((kk : Nat) : Int) < (n : Int)) = false := decide_eq_false (by omega)
   have e0' : decide (kk < n) = false := decide_eq_false hlt
   have HA := A0qfo_ (show Kd.R k74 74 wr w.heap.size (fun _ => True) (.slice A4 ks.length c4) (foldW l0) by
    have h := HKE.out
    rw [List.drop_eq_nil_of_le (by have := HLX.out; omega), keep, List.append_nil] at h
    have e : foldW l0 = ks := by unfold foldW fold; rw [HX.out, h]
    rw [e]
    exact Kd.R_mono HK.out (fun _ _ => trivial))
   clear HK HO
   go_wp2
   go_ret
   exact ⟨_, rfl, HA.out, HB.out⟩
set_option maxRecDepth 100000 in
set_option maxHeartbeats 2000000 in
theorem fold_none (A0 : Option Addr) (c0 : Nat) (l0 : List S74) (w : World) (hr0 : Kd.C k74 w A0 l0.length l0) (hc0 : l0.length ≤ c0) (hl : l0.length = 0) :
  Calls Try.prog 47 #[.slice A0 l0.length c0] w fun e w' => ∃ v0_ : Value, e = .returned v0_ ∧ Kd.R k74 74 w' w.heap.size (fun _ => True) v0_ (foldW l0) ∧ Below w.heap.size w w' := by
 obtain rfl := List.eq_nil_of_length_eq_zero hl
 have hcl := api_Write_99.calls A0 c0 [] [] w hr0 hc0 (by unfold api_Write_99.f; rw [if_pos (by simp)])
 clear hr0
 go_enter Try.func47, Try.ntmps47
 go_wp2_with (first
  | (go_at_call 99; refine hcl.mono ?_; rintro e w2 ⟨v2, rfl, ho, hb⟩; obtain ⟨A2, c2, e2⟩ := Kd.R_slice ho; subst e2; have HB := A0qfo_ hb; clear ho hb)
  | (go_at_call 100; refine (sort_nop _ _ 0 (by omega) _).mono ?_; rintro e w3 ⟨rfl, rfl⟩))
 go_loopg [4, 13] 0 (fun gg s4 s13 wr => s4 = .slice none 0 0 ∧ s13 = .int .i64 0 ∧ wr = w3)
 case atStart => exact ⟨rfl, rfl, rfl⟩
 case round =>
  obtain ⟨rfl, rfl, rfl⟩ := hrel
  go_wp2
  go_ret
  exact ⟨_, rfl, Kd.R_nil _ _ _ _ _, HB.out⟩
theorem fold_Fold.calls (A0 : Option Addr) (c0 : Nat) (l0 : List S74) (r : List S74) (w : World) (hr0 : Kd.C k74 w A0 l0.length l0) (hc0 : l0.length ≤ c0) (h : fold_Fold.f l0 = some r) :
  Calls Try.prog 47 #[.slice A0 l0.length c0] w fun e w' => ∃ v0_ : Value, e = .returned v0_ ∧ Kd.R k74 74 w' w.heap.size (fun _ => True) v0_ r ∧ Below w.heap.size w w' := by
 unfold fold_Fold.f at h
 by_cases hl : l0.length ≤ 100000
 ·rw [if_pos hl] at h
  obtain rfl := Option.some.inj h
  by_cases h1 : 1 ≤ l0.length
  ·exact fold_long A0 c0 l0 w hr0 hc0 h1 hl
  ·exact fold_none A0 c0 l0 w hr0 hc0 (by omega)
 ·rw [if_neg hl] at h
  exact absurd h (by simp)
end Go.Proofs.Ythdhkoeaadahaaa.P
