/- Sizes are told, and made into empty volumes, as the reference says; no condition. -/
import Derived.Test.YthdhkoeaadahaaaVolsCore2
import Derived.Test.YthdhkoeaadahaaaEVApply
import Derived.Test.YthdhkoeaadahaaaEWVolsSizes
import Derived.Test.YthdhkoeaadahaaaPx62
import Derived.Test.YthdhkoeaadahaaaPx58
import Derived.Test.YthdhkoeaadahaaaPx59
import Derived.Test.YthdhkoeaadahaaaPx60
namespace Go.Proofs.Ythdhkoeaadahaaa.Pure
open Go.RowKit Go.Proofs.Ythdhkoeaadahaaa.P Go.Proofs.Ythdhkoeaadahaaa.VolsCore Go.Proofs.YthdhkoeaadahaaaW.PrintWords Go.Proofs.YthdhkoeaadahaaaW.PrintLast
set_option linter.unusedVariables false
def sizesL (l : List S49) : List Int := l.flatMap fun x => [x.f0, (x.f1.length : Int)]
theorem sizes_len (l : List S49) : (sizesL l).length = 2 * l.length := by
  induction l with
  | nil => rfl
  | cons x r ih =>
    unfold sizesL at ih ⊢
    rw [List.flatMap_cons, List.length_append, ih]
    simp; omega
theorem sizes_ev (l : List S49) : Ev (fun k => vols_Sizes.f k l) (if rightV l = true then sizesL l else []) := by
  unfold vols_Sizes.f
  refine Ev.bind (Ev.const rfl) ?_
  cases hr : rightV l with
  | false =>
    rw [if_neg (by simp)]
    exact Ev.neg (by simp) (Ev.now _)
  | true =>
    have hl := (rightV_small hr).1
    have loop : ∀ (d i : Nat) (o : List Int), i + d = l.length → o.length + 2 * d ≤ 1000 → Ev (fun k => vols_Sizes.l0 k o l (l.length : Int) (i : Int)) (o ++ sizesL (l.drop i)) := by
      intro d
      induction d with
      | zero =>
        intro i o hi ho
        refine Ev.succ ?_
        simp only [vols_Sizes.l0]
        rw [List.drop_eq_nil_of_le (by omega)]
        have : o ++ sizesL [] = o := List.append_nil o
        rw [this]
        exact Ev.neg (by omega) (Ev.now _)
      | succ d ih =>
        intro i o hi ho
        refine Ev.succ ?_
        simp only [vols_Sizes.l0]
        refine Ev.pos (by omega) (Ev.pos (by omega) (Ev.pos (by omega) (Ev.bind (Ev.now _) (Ev.pos (by simp; omega) ?_))))
        have := ih (i + 1) (o ++ [(rd_T49 l (i : Int)).f0, ((rd_T49 l (i : Int)).f1.length : Int)]) (by omega) (by simp; omega)
        rw [drop49 l (i := i) (by omega), wrap_succ (by omega)]
        have e : sizesL (rd_T49 l (i : Int) :: l.drop (i + 1)) = [(rd_T49 l (i : Int)).f0, ((rd_T49 l (i : Int)).f1.length : Int)] ++ sizesL (l.drop (i + 1)) := rfl
        rw [e, ← List.append_assoc]
        exact this
    have := loop l.length 0 [] (by omega) (by simp; omega)
    rw [List.drop_zero, List.nil_append] at this
    rw [if_pos rfl]
    exact Ev.pos rfl this
theorem rd_nat (x : List Int) (i : Nat) (h : i < x.length) : rd x (i : Int) = x[i] := by
  unfold rd; rw [Int.toNat_natCast, List.getD_eq_getElem?_getD, List.getElem?_eq_getElem h, Option.getD_some]
theorem drop_two (x : List Int) {i : Nat} (h : i + 1 < x.length) : x.drop i = rd x (i : Int) :: rd x ((i + 1 : Nat) : Int) :: x.drop (i + 2) := by
  rw [List.drop_eq_getElem_cons (by omega), List.drop_eq_getElem_cons h, rd_nat x i (by omega), rd_nat x (i + 1) h]
theorem sizes_at : ∀ (l : List S49) (i : Nat), i < l.length → rd (sizesL l) ((2 * i : Nat) : Int) = (rd_T49 l (i : Int)).f0 ∧ rd (sizesL l) ((2 * i + 1 : Nat) : Int) = ((rd_T49 l (i : Int)).f1.length : Int)
  | [], i, h => absurd h (by simp)
  | x :: r, 0, _ => ⟨rfl, rfl⟩
  | x :: r, i + 1, h => by
    have ih := sizes_at r i (by simpa using h)
    have e : sizesL (x :: r) = x.f0 :: (x.f1.length : Int) :: sizesL r := rfl
    have e2 : rd_T49 (x :: r) ((i + 1 : Nat) : Int) = rd_T49 r (i : Int) := by
      unfold rd_T49
      rw [Int.toNat_natCast, Int.toNat_natCast]
      rfl
    rw [e, e2]
    unfold rd at ih ⊢
    rw [Int.toNat_natCast, Int.toNat_natCast] at ih ⊢
    rw [show 2 * (i + 1) = 2 * i + 1 + 1 by omega, List.getD_cons_succ, List.getD_cons_succ, List.getD_cons_succ, List.getD_cons_succ]
    exact ih
/-- Pairs of IDs and sizes, made into empty volumes. -/
def blankP : List Int → Option (List S49)
  | a :: n :: r => if sizeB n = true then (blankP r).map (⟨a, List.replicate n.toNat (⟨#[]⟩ : ByteArray)⟩ :: ·) else none
  | _ => some []
def finV : Option (List S49) → List S49 × Int
  | some o => if rightV o = true then (o, 0) else ([], 1)
  | none => ([], 1)
def finR : Option (List S49) → List S49 × Bool
  | some o => (o, rightV o)
  | none => ([], false)
theorem finV_yes {o : List S49} (h : rightV o = true) : finV (some o) = (o, 0) := by
  show (if rightV o = true then (o, (0 : Int)) else ([], 1)) = _
  rw [if_pos h]
theorem finV_no {o : List S49} (h : rightV o = false) : finV (some o) = ([], 1) := by
  show (if rightV o = true then (o, (0 : Int)) else ([], 1)) = _
  rw [if_neg (by rw [h]; simp)]
theorem finR_some (o : List S49) : finR (some o) = (o, rightV o) := rfl
theorem size_ev (n : Int) : Ev (fun _ => vols_size.f n) (sizeB n) := Ev.const (size_f n)
theorem size_range {n : Int} (h : sizeB n = true) : 1 ≤ n ∧ n ≤ 32 := by
  unfold sizeB at h
  by_cases h1 : n ≥ 1
  · rw [if_pos h1] at h
    exact ⟨h1, of_decide_eq_true h⟩
  · rw [if_neg h1] at h; simp at h
theorem blank_more (out : List S49) (a n : Int) (r : List Int) (h : sizeB n = true) : (blankP (a :: n :: r)).map (out ++ ·) = (blankP r).map ((out ++ [⟨a, List.replicate n.toNat (⟨#[]⟩ : ByteArray)⟩]) ++ ·) := by
  rw [blankP, if_pos h]
  cases blankP r with
  | none => rfl
  | some o => simp
theorem blank_small : ∀ (x : List Int) (o : List S49), blankP x = some o → o.length ≤ x.length ∧ ∀ v ∈ o, v.f1.length ≤ 32
  | [], o, h => by
    obtain rfl := Option.some.inj (show some [] = some o from h)
    exact ⟨by simp, fun v hv => by simp at hv⟩
  | [_], o, h => by
    obtain rfl := Option.some.inj (show some [] = some o from h)
    exact ⟨by simp, fun v hv => by simp at hv⟩
  | a :: n :: r, o, h => by
    rw [blankP] at h
    by_cases hs : sizeB n = true
    · rw [if_pos hs] at h
      obtain ⟨o', ho', rfl⟩ := Option.map_eq_some_iff.1 h
      obtain ⟨h1, h2⟩ := blank_small r o' ho'
      have := size_range hs
      refine ⟨by simp; omega, fun v hv => ?_⟩
      rcases List.mem_cons.1 hv with rfl | hv
      · show (List.replicate n.toNat (⟨#[]⟩ : ByteArray)).length ≤ 32
        rw [List.length_replicate]; omega
      · exact h2 v hv
    · rw [if_neg hs] at h; cases h
theorem vblank_ev (x : List Int) (h8 : x.length ≤ 8) (h2 : x.length % 2 = 0) : Ev (fun k => vols_Blank.l0 k x [] 0) (finV (blankP x)) := by
  have loop : ∀ (d i : Nat) (out : List S49), i + 2 * d = x.length → out.length + d ≤ 100 → Ev (fun k => vols_Blank.l0 k x out (i : Int)) (finV ((blankP (x.drop i)).map (out ++ ·))) := by
    intro d
    induction d with
    | zero =>
      intro i out hi ho
      refine Ev.succ ?_
      simp only [vols_Blank.l0]
      rw [List.drop_eq_nil_of_le (by omega)]
      have e : (blankP []).map (out ++ ·) = some out := by show some (out ++ []) = _; rw [List.append_nil]
      rw [e]
      refine Ev.neg (by omega) (Ev.bind (Ev.const rfl) ?_)
      cases hr : rightV out with
      | true =>
        rw [finV_yes hr]
        exact Ev.pos rfl (Ev.now _)
      | false =>
        rw [finV_no hr]
        exact Ev.neg (by simp) (Ev.now _)
    | succ d ih =>
      intro i out hi ho
      refine Ev.succ ?_
      simp only [vols_Blank.l0]
      rw [wrap_succ (i := i) (by omega)]
      have ew : wrap64 ((i : Int) + 2) = ((i + 2 : Nat) : Int) := by unfold wrap64; omega
      rw [ew, drop_two x (i := i) (by omega)]
      refine Ev.pos (by omega) (Ev.pos (by omega) (Ev.pos (by omega) (Ev.bind (size_ev _) ?_)))
      cases hs : sizeB (rd x ((i + 1 : Nat) : Int)) with
      | false =>
        rw [blankP, if_neg (by rw [hs]; simp)]
        exact Ev.neg (by simp) (Ev.now _)
      | true =>
        have hn := size_range hs
        rw [blank_more _ _ _ _ hs]
        exact Ev.pos rfl (Ev.pos (by omega) (Ev.pos (by omega) (Ev.pos (by omega) (Ev.pos (by omega) (ih (i + 2) _ (by omega) (by simp; omega))))))
  have := loop (x.length / 2) 0 [] (by omega) (by simp; omega)
  rw [List.drop_zero] at this
  have e : (blankP x).map (([] : List S49) ++ ·) = blankP x := by cases blankP x <;> simp
  rw [e] at this
  exact this
theorem rblank_ev (x : List Int) (h8 : x.length ≤ 8) (h2 : x.length % 2 = 0) : Ev (fun k => counterfoilref07_Blank.l0 k x [] 0) (finR (blankP x)) := by
  have inner : ∀ (R : List S49 × Bool) (i : Nat) (out : List S49), i + 1 < x.length → out.length ≤ 100 → 0 ≤ rd x ((i + 1 : Nat) : Int) → rd x ((i + 1 : Nat) : Int) ≤ 32 →
      Ev (fun k => counterfoilref07_Blank.l0 k x (out ++ [⟨rd x (i : Int), List.replicate (rd x ((i + 1 : Nat) : Int)).toNat (⟨#[]⟩ : ByteArray)⟩]) ((i + 2 : Nat) : Int)) R →
      ∀ (d m : Nat), m + d = (rd x ((i + 1 : Nat) : Int)).toNat → Ev (fun k => counterfoilref07_Blank.l1 k x out (i : Int) (rd x (i : Int)) (List.replicate m (⟨#[]⟩ : ByteArray))) R := by
    intro R i out hi ho hn0 hn1 hR d
    have ew : wrap64 ((i : Int) + 2) = ((i + 2 : Nat) : Int) := by unfold wrap64; omega
    induction d with
    | zero =>
      intro m hm
      refine Ev.succ ?_
      simp only [counterfoilref07_Blank.l1]
      rw [wrap_succ (i := i) (by omega), ew, List.length_replicate]
      have e : m = (rd x ((i + 1 : Nat) : Int)).toNat := by omega
      rw [e]
      exact Ev.pos (by omega) (Ev.pos (by omega) (Ev.neg (by omega) (Ev.pos (by omega) hR)))
    | succ d ih =>
      intro m hm
      refine Ev.succ ?_
      simp only [counterfoilref07_Blank.l1]
      rw [wrap_succ (i := i) (by omega), List.length_replicate]
      have hn := ih (m + 1) (by omega)
      rw [List.replicate_succ'] at hn
      exact Ev.pos (by omega) (Ev.pos (by omega) (Ev.pos (by omega) (Ev.pos (by omega) hn)))
  have loop : ∀ (d i : Nat) (out : List S49), i + 2 * d = x.length → out.length + d ≤ 100 → (∀ v ∈ out, v.f1.length ≤ 32) → Ev (fun k => counterfoilref07_Blank.l0 k x out (i : Int)) (finR ((blankP (x.drop i)).map (out ++ ·))) := by
    intro d
    induction d with
    | zero =>
      intro i out hi ho hv
      refine Ev.succ ?_
      simp only [counterfoilref07_Blank.l0]
      rw [wrap_succ (i := i) (by omega), List.drop_eq_nil_of_le (by omega)]
      have e : (blankP []).map (out ++ ·) = some out := by show some (out ++ []) = _; rw [List.append_nil]
      rw [e]
      exact Ev.neg (by omega) (Ev.bind (right_ev out (by omega) (fun v h => by have := hv v h; omega)) (Ev.now _))
    | succ d ih =>
      intro i out hi ho hv
      have no : Ev (fun k => counterfoilref07_Blank.j2 k x out (i : Int) true) ([], false) := by
        refine Ev.succ ?_
        simp only [counterfoilref07_Blank.j2]
        exact Ev.pos (by simp) (Ev.now _)
      refine Ev.succ ?_
      simp only [counterfoilref07_Blank.l0]
      rw [wrap_succ (i := i) (by omega), drop_two x (i := i) (by omega)]
      refine Ev.pos (by omega) (Ev.pos (by omega) ?_)
      by_cases c1 : rd x ((i + 1 : Nat) : Int) < 1
      · have hs : sizeB (rd x ((i + 1 : Nat) : Int)) = false := by unfold sizeB; rw [if_neg (by omega)]
        rw [blankP, if_neg (by rw [hs]; simp)]
        exact Ev.pos c1 no
      refine Ev.neg c1 ?_
      by_cases c2 : rd x ((i + 1 : Nat) : Int) > 32
      · have hs : sizeB (rd x ((i + 1 : Nat) : Int)) = false := by unfold sizeB; rw [if_pos (by omega), decide_eq_false (by omega)]
        rw [blankP, if_neg (by rw [hs]; simp), decide_eq_true c2]
        exact no
      · have hs : sizeB (rd x ((i + 1 : Nat) : Int)) = true := by unfold sizeB; rw [if_pos (by omega), decide_eq_true (by omega)]
        rw [blank_more _ _ _ _ hs, decide_eq_false c2]
        refine Ev.succ ?_
        simp only [counterfoilref07_Blank.j2]
        refine Ev.neg (by simp) (Ev.pos (by omega) (Ev.pos (by omega) ?_))
        have hn := ih (i + 2) (out ++ [⟨rd x (i : Int), List.replicate (rd x ((i + 1 : Nat) : Int)).toNat (⟨#[]⟩ : ByteArray)⟩]) (by omega) (by simp; omega) (fun v hv' => by
          rcases List.mem_append.1 hv' with h | h
          · exact hv v h
          · rw [List.mem_singleton] at h
            subst h
            show (List.replicate (rd x ((i + 1 : Nat) : Int)).toNat (⟨#[]⟩ : ByteArray)).length ≤ 32
            rw [List.length_replicate]; omega)
        exact inner _ i out (by omega) (by omega) (by omega) (by omega) hn _ 0 (Nat.zero_add _)
  have := loop (x.length / 2) 0 [] (by omega) (by simp; omega) (fun v h => by simp at h)
  rw [List.drop_zero] at this
  have e : (blankP x).map (([] : List S49) ++ ·) = blankP x := by cases blankP x <;> simp
  rw [e] at this
  exact this
def wholeB (x : List Int) : Option (List S49) := if x.length % 2 = 0 ∧ x.length ≤ 8 then blankP x else none
theorem vblankf_ev (x : List Int) : Ev (fun k => vols_Blank.f k x) (finV (wholeB x)) := by
  have no : Ev (fun k => vols_Blank.j0 k x true) ([], 1) := by
    refine Ev.succ ?_
    simp only [vols_Blank.j0]
    exact Ev.pos (by simp) (Ev.now _)
  unfold vols_Blank.f wholeB
  by_cases h2 : ((x.length : Int) % 2) = 0
  · refine Ev.pos h2 ?_
    by_cases h8 : (x.length : Int) > 8
    · rw [decide_eq_true h8, if_neg (by omega)]
      exact no
    · rw [decide_eq_false h8, if_pos (by omega)]
      refine Ev.succ ?_
      simp only [vols_Blank.j0]
      exact Ev.neg (by simp) (vblank_ev x (by omega) (by omega))
  · rw [if_neg (by omega)]
    exact Ev.neg h2 no
theorem rblankf_ev (x : List Int) : Ev (fun k => counterfoilref07_Blank.f k x) (finR (wholeB x)) := by
  have no : Ev (fun k => counterfoilref07_Blank.j0 k x true) ([], false) := by
    refine Ev.succ ?_
    simp only [counterfoilref07_Blank.j0]
    exact Ev.pos (by simp) (Ev.now _)
  unfold counterfoilref07_Blank.f wholeB
  by_cases h8 : (x.length : Int) > 8
  · rw [if_neg (by omega)]
    exact Ev.pos h8 no
  · refine Ev.neg h8 ?_
    by_cases h2 : ((x.length : Int) % 2) = 0
    · have e : (((x.length : Int) % 2) != 0) = false := by rw [h2]; rfl
      rw [e, if_pos (by omega)]
      refine Ev.succ ?_
      simp only [counterfoilref07_Blank.j0]
      exact Ev.neg (by simp) (rblank_ev x (by omega) (by omega))
    · have e : (((x.length : Int) % 2) != 0) = true := bne_iff_ne.mpr h2
      rw [e, if_neg (by omega)]
      exact no
theorem sizes_end (l : List S49) (x s : List Int) : Ev (fun k => (vols_Blank.f k x).bind fun bt336 => ((counterfoilref07_Blank.f k x).bind fun bt340 => (if bt340.2 = true then ((counterfoilref07_Equal.f k bt336.1 bt340.1).bind fun t344 => (if t344 = true then (if bt336.2 = 0 then ((counterfoillaw07_awake.f).bind fun t345 => (some t345)) else (some false)) else (some false))) else (if (bt336.1.length : Int) = 0 then (if bt336.2 = 1 then ((counterfoillaw07_awake.f).bind fun t346 => (some t346)) else (some false)) else (some false))))) true := by
  refine Ev.bind (vblankf_ev x) (Ev.bind (rblankf_ev x) ?_)
  have hsm : ∀ o, wholeB x = some o → o.length ≤ 1000 ∧ ∀ v ∈ o, v.f1.length ≤ 1000 := by
    intro o ho
    unfold wholeB at ho
    by_cases h : x.length % 2 = 0 ∧ x.length ≤ 8
    · rw [if_pos h] at ho
      obtain ⟨h1, h2⟩ := blank_small x o ho
      exact ⟨by omega, fun v hv => by have := h2 v hv; omega⟩
    · rw [if_neg h] at ho; cases ho
  cases hw : wholeB x with
  | none =>
    show Ev (fun k => if false = true then _ else _) true
    exact Ev.neg (by simp) (Ev.pos (by simp [finV]) (Ev.pos (by simp [finV]) (Ev.bind awake_ev (Ev.now _))))
  | some o =>
    obtain ⟨g1, g2⟩ := hsm o hw
    rw [finR_some]
    cases hr : rightV o with
    | true =>
      rw [finV_yes hr]
      have he := equal_ev o o g1 g2
      rw [eqVs_self] at he
      exact Ev.pos rfl (Ev.bind he (Ev.pos rfl (Ev.pos (by simp) (Ev.bind awake_ev (Ev.now _)))))
    | false =>
      rw [finV_no hr]
      exact Ev.neg (by simp) (Ev.pos (by simp) (Ev.pos (by simp) (Ev.bind awake_ev (Ev.now _))))
theorem sizes_loop (l : List S49) (x : List Int) (hl : l.length ≤ 100) : Ev (fun k => counterfoillaw07_VolsSizes.j0 k l x (sizesL l)) true := by
  have hlen := sizes_len l
  have e2 : ∀ i : Nat, i ≤ 100 → wrap64 (2 * (i : Int)) = ((2 * i : Nat) : Int) := fun i hi => by unfold wrap64; omega
  have loop : ∀ (d i : Nat), i + d = l.length → Ev (fun k => counterfoillaw07_VolsSizes.l0 k l x (sizesL l) (l.length : Int) (i : Int)) true := by
    intro d
    induction d with
    | zero =>
      intro i hi
      refine Ev.succ ?_
      simp only [counterfoillaw07_VolsSizes.l0]
      exact Ev.neg (by omega) (sizes_end l x (sizesL l))
    | succ d ih =>
      intro i hi
      obtain ⟨a1, a2⟩ := sizes_at l i (by omega)
      have ew : wrap64 (((2 * i : Nat) : Int) + 1) = ((2 * i + 1 : Nat) : Int) := wrap_succ (by omega)
      refine Ev.succ ?_
      simp only [counterfoillaw07_VolsSizes.l0]
      rw [e2 i (by omega), ew, wrap_succ (i := i) (by omega)]
      exact Ev.pos (by omega) (Ev.pos (by omega) (Ev.pos (by omega) (Ev.pos (by omega) (Ev.pos (by omega) (Ev.pos a1 (Ev.pos (by omega) (Ev.pos (by omega) (Ev.pos a2 (ih (i + 1) (by omega))))))))))
  refine Ev.succ ?_
  simp only [counterfoillaw07_VolsSizes.j0]
  rw [e2 _ hl]
  exact Ev.pos (by omega) (loop l.length 0 (by omega))
theorem VolsSizes : counterfoillaw07_VolsSizes.Pure := by
  intro l x hl _
  have hlen : l.length < 9223372036854775807 := by omega
  suffices h : Ev (fun k => counterfoillaw07_VolsSizes.f k l x) true by
    obtain ⟨k, hk⟩ := h
    exact ⟨k, hk k (Nat.le_refl _)⟩
  unfold counterfoillaw07_VolsSizes.f
  obtain ⟨t, ht, hs⟩ := small_ev l [] hlen
  refine Ev.bind ht ?_
  cases t with
  | false => exact Ev.neg (by simp) (Ev.bind awake_ev (Ev.now _))
  | true =>
    obtain ⟨h1, _, h2⟩ := hs rfl
    have hsz := sizes_ev l
    refine Ev.pos rfl (Ev.bind hsz (Ev.bind (right_ev l (by omega) (fun v hv => by have := h2 v hv; omega)) ?_))
    cases hr : rightV l with
    | true =>
      rw [if_pos rfl]
      exact Ev.pos rfl (sizes_loop l x (by omega))
    | false =>
      rw [if_neg (by simp)]
      exact Ev.neg (by simp) (sizes_loop [] x (by simp))
end Go.Proofs.Ythdhkoeaadahaaa.Pure
