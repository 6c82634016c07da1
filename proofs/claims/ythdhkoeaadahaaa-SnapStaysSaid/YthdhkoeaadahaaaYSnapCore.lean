-- PACKED by wip/kit/pack.py: what the law's proof uses of SnapCore (printed words and texts of this seat)
import Derived.Test.YthdhkoeaadahaaaYENote
namespace Go.Proofs.Ythdhkoeaadahaaa.VolsCore
open Go.RowKit Go.Proofs.Ythdhkoeaadahaaa.P Go.Proofs.YthdhkoeaadahaaaW.PrintWords Go.Proofs.YthdhkoeaadahaaaW.PrintLast Go.Proofs.Ythdhkoeaadahaaa.SortCore
set_option linter.unusedVariables false
theorem lastQ_none {ws : List S74} {v b : Int} : lastQ ws v b = none ↔ ∀ x ∈ ws, ¬ (x.f0 = v ∧ x.f1 = b) := by
  rw [lastQ_last v b ByteArray.empty, Option.map_eq_none_iff]
  constructor
  · intro h x hx he
    have := last_none h x hx
    rw [FoldCore.eqvW.2 ⟨he.1.symm, he.2.symm⟩] at this
    cases this
  · intro h
    refine last_of_none (fun y hy => ?_)
    cases e : eqv ltW ⟨v, b, ByteArray.empty⟩ y with
    | false => rfl
    | true =>
      have := FoldCore.eqvW.1 e
      exact absurd ⟨this.1.symm, this.2.symm⟩ (h y hy)
theorem lastQ_append (a c : List S74) (v b : Int) : lastQ (a ++ c) v b = (lastQ c v b).or (lastQ a v b) := by
  rw [lastQ_last v b ByteArray.empty, lastQ_last v b ByteArray.empty, lastQ_last v b ByteArray.empty, last_append]
  cases last ltW c ⟨v, b, ByteArray.empty⟩ <;> rfl
theorem keptB_iff {kept : List S74} {m : S124} : keptB kept m = true ↔ lastQ kept m.f0 m.f1 ≠ none := by
  rw [Ne, lastQ_none]
  unfold keptB
  rw [List.any_eq_true]
  constructor
  · rintro ⟨x, hx, h⟩ h2
    unfold keyB at h
    simp only [Bool.and_eq_true, beq_iff_eq] at h
    exact h2 x hx h
  · intro h
    have h := Classical.not_forall.1 h
    obtain ⟨x, h⟩ := h
    have h := Classical.not_imp.1 h
    have h3 := Classical.not_not.1 h.2
    refine ⟨x, h.1, ?_⟩
    unfold keyB
    simp only [Bool.and_eq_true, beq_iff_eq]
    exact h3
theorem fresh_iff {kept ws : List S74} {m : S124} : m ∈ freshM kept ws ↔ lastQ ws m.f0 m.f1 ≠ none ∧ lastQ kept m.f0 m.f1 = none := by
  unfold freshM
  rw [List.mem_filter]
  have e : (!keptB kept m) = true ↔ lastQ kept m.f0 m.f1 = none := by
    cases h : keptB kept m with
    | true => have := keptB_iff.1 h; simp [this]
    | false =>
      have h2 : ¬ (keptB kept m = true) := by rw [h]; simp
      rw [keptB_iff] at h2
      simp [Classical.not_not.1 h2]
  rw [e]
  refine and_congr_left (fun _ => ?_)
  constructor
  · intro hm
    obtain ⟨x, hx, rfl⟩ := List.mem_map.1 hm
    rw [← lastQ_fold, Ne, lastQ_none]
    exact fun h => h x hx ⟨rfl, rfl⟩
  · intro h
    obtain ⟨m', hm', h1, h2⟩ := marks_cover ws m.f0 m.f1 h
    have : m' = m := by cases m; cases m'; simp_all
    rw [← this]; exact hm'
theorem fresh_valid {l : List S49} {kept ws : List S74} (h : checkL l ws = 0) {m : S124} (hm : m ∈ freshM kept ws) : (getV l m.f0 m.f1).2 = 0 := by
  have h1 := (fresh_iff.1 hm).1
  rw [Ne, lastQ_none] at h1
  obtain ⟨x, h1⟩ := Classical.not_forall.1 h1
  have h2 := Classical.not_imp.1 h1
  have h3 := Classical.not_not.1 h2.2
  have := (checkL_all l ws h x h2.1).1
  rw [h3.1, h3.2] at this
  exact this
theorem fresh_pick {l : List S49} {kept ws : List S74} (h : checkV l ws = 0) : pickR l (freshM kept ws) = ((freshM kept ws).map (heldV l), 0) := by
  obtain ⟨hr, hc⟩ := checkV_right h
  unfold pickR
  rw [if_pos hr, pickV_all l _ [] (fun m hm => fresh_valid hc hm), List.nil_append]
def moreW (kept : List S74) (l : List S49) (ws : List S74) : List S74 := foldW (kept ++ (freshM kept ws).map (heldV l))
theorem note_ok {kept : List S74} {l : List S49} {ws : List S74} {most : Int} (hs : snapB kept l = true) (hc : checkV l ws = 0) : noteR kept l ws most = if (kept.length : Int) + ((freshM kept ws).length : Int) > most then ([], 15) else (moreW kept l ws, 0) := by
  unfold noteR
  rw [if_neg (by rw [hs]; simp), if_neg (Decidable.not_not.2 hc), fresh_pick hc]
  rfl
theorem snapB_iff {kept : List S74} {l : List S49} : snapB kept l = true ↔ checkV l kept = 0 ∧ kept.Pairwise (fun a b => ltW a b = true) := by
  unfold snapB sortedB
  rw [Bool.and_eq_true, decide_eq_true_iff, decide_eq_true_iff]
theorem lastQ_more (kept : List S74) (l : List S49) (ws : List S74) (v b : Int) : lastQ (moreW kept l ws) v b = (lastQ kept v b).or (if lastQ ws v b ≠ none then some (getV l v b).1 else none) := by
  unfold moreW
  rw [lastQ_fold, lastQ_append, lastQ_held]
  cases hk : lastQ kept v b with
  | some t =>
    rw [if_neg]
    · rfl
    · rintro ⟨m, hm, h1, h2⟩
      have := (fresh_iff.1 hm).2
      rw [h1, h2, hk] at this
      cases this
  | none =>
    by_cases hw : lastQ ws v b ≠ none
    · rw [if_pos hw, if_pos ⟨⟨v, b⟩, fresh_iff.2 ⟨hw, hk⟩, rfl, rfl⟩]
      rfl
    · rw [if_neg hw, if_neg]
      rintro ⟨m, hm, h1, h2⟩
      have := (fresh_iff.1 hm).1
      rw [h1, h2] at this
      exact hw this
theorem more_strict (kept : List S74) (l : List S49) (ws : List S74) : (moreW kept l ws).Pairwise (fun a b => ltW a b = true) := fold_lt weakW _
theorem more_mem {kept : List S74} {l : List S49} {ws : List S74} {x : S74} (h : x ∈ moreW kept l ws) : x ∈ kept ∨ ∃ m ∈ freshM kept ws, heldV l m = x := by
  have := (last_some ((mem_fold weakW _ x).1 h)).1
  rcases List.mem_append.1 this with h | h
  · exact .inl h
  · exact .inr (List.mem_map.1 h)
theorem more_check {kept : List S74} {l : List S49} {ws : List S74} (hs : checkV l kept = 0) (hc : checkV l ws = 0) : ∀ x ∈ moreW kept l ws, (getV l x.f0 x.f1).2 = 0 ∧ x.f2.size ≤ 8 := by
  obtain ⟨hr, h1⟩ := checkV_right hs
  obtain ⟨_, h2⟩ := checkV_right hc
  intro x hx
  rcases more_mem hx with h | ⟨m, hm, rfl⟩
  · exact checkL_all l kept h1 x h
  · exact ⟨fresh_valid h2 hm, getV_size hr _ _⟩
theorem keep_id : ∀ {xs : List S74}, xs.Pairwise (fun a b => eqv ltW a b = false) → keep ltW xs = xs
  | [], _ => rfl
  | [x], _ => rfl
  | x :: y :: r, h => by
    obtain ⟨h1, h2⟩ := List.pairwise_cons.1 h
    rw [keep, if_neg (by rw [h1 y List.mem_cons_self]; simp), keep_id h2]
theorem eqvW_symm_false {a b : S74} (h : eqv ltW a b = false) : eqv ltW b a = false := by
  cases e : eqv ltW b a with
  | false => rfl
  | true => rw [eqv_symm e] at h; cases h
theorem fold_distinct {xs : List S74} (h : xs.Pairwise (fun a b => eqv ltW a b = false)) : (foldW xs).length = xs.length := by
  have h2 : (isort ltW xs).Pairwise (fun a b => eqv ltW a b = false) := ((isort_perm xs).pairwise_iff (fun h => eqvW_symm_false h)).2 h
  show (keep ltW (isort ltW xs)).length = _
  rw [keep_id h2, isort_length]
theorem strict_neq {xs : List S74} (h : xs.Pairwise (fun a b => ltW a b = true)) : xs.Pairwise (fun a b => eqv ltW a b = false) := h.imp (fun h => by unfold eqv; rw [h]; rfl)
theorem more_length {kept : List S74} {l : List S49} {ws : List S74} (hk : kept.Pairwise (fun a b => ltW a b = true)) : (moreW kept l ws).length = kept.length + (freshM kept ws).length := by
  unfold moreW
  rw [fold_distinct, List.length_append, List.length_map]
  refine List.pairwise_append.2 ⟨strict_neq hk, ?_, fun x hx y hy => ?_⟩
  · rw [List.pairwise_map]
    unfold freshM
    refine List.Pairwise.filter _ ?_
    rw [List.pairwise_map]
    refine (strict_neq (fold_lt weakW ws)).imp (fun {a b} h => ?_)
    cases e : eqv ltW (heldV l (FoldCore.markOf a)) (heldV l (FoldCore.markOf b)) with
    | false => rfl
    | true =>
      have := FoldCore.eqvW.1 e
      rw [FoldCore.eqvW.2 (show a.f0 = b.f0 ∧ a.f1 = b.f1 from this)] at h
      cases h
  · obtain ⟨m, hm, rfl⟩ := List.mem_map.1 hy
    cases e : eqv ltW x (heldV l m) with
    | false => rfl
    | true =>
      have h1 := FoldCore.eqvW.1 e
      have h2 := (fresh_iff.1 hm).2
      rw [lastQ_none] at h2
      exact absurd h1 (h2 x hx)
theorem back_more {kept : List S74} {l : List S49} {ws : List S74} (hs : checkV l kept = 0) (hc : checkV l ws = 0) : applyV (applyV l ws) (moreW kept l ws) = applyV l kept := by
  obtain ⟨hr, h1⟩ := checkV_right hs
  obtain ⟨_, h2⟩ := checkV_right hc
  have hid := apply_ids hr
  have hr2 : rightV (applyV l ws) = true := apply_right ws l (fun x hx => (checkL_all l ws h2 x hx).2) hr
  have hp : ∀ x ∈ moreW kept l ws, 0 ≤ x.f1 := fun x hx => by
    obtain ⟨_, _, h0, _⟩ := getE_some (more_check hs hc x hx).1
    exact h0
  rw [apply_new _ _ (apply_ids hr2) hp, apply_new l ws hid (check_pos h2), apply_new l kept hid (check_pos h1), List.map_map]
  refine List.map_congr_left (fun y hy => ?_)
  show newV (moreW kept l ws) (newV ws y) = newV kept y
  have hl : (newV ws y).f1.length = y.f1.length := by unfold newV; simp
  have e : (newV (moreW kept l ws) (newV ws y)).f1 = (newV kept y).f1 := by
    unfold newV
    refine List.ext_getElem (by simp) (fun j j1 j2 => ?_)
    have hj : j < y.f1.length := by simpa using j2
    simp only [List.getElem_map, List.getElem_range]
    have hg : gets9 ((List.range y.f1.length).map (newB ws y.f0 y.f1)) j = newB ws y.f0 y.f1 j := by
      rw [gets9_at _ _ (by simpa using hj), List.getElem_map, List.getElem_range]
    show (lastQ (moreW kept l ws) y.f0 (j : Int)).getD (gets9 ((List.range y.f1.length).map (newB ws y.f0 y.f1)) j) = (lastQ kept y.f0 (j : Int)).getD (gets9 y.f1 j)
    rw [hg, lastQ_more, getV_mem hid hy hj]
    unfold newB
    cases lastQ kept y.f0 (j : Int) with
    | some t => rfl
    | none =>
      cases lastQ ws y.f0 (j : Int) with
      | some s => rfl
      | none => rfl
  have e0 : (newV (moreW kept l ws) (newV ws y)).f0 = (newV kept y).f0 := rfl
  generalize newV (moreW kept l ws) (newV ws y) = p at e e0
  generalize newV kept y = q at e e0
  cases p; cases q
  simp only at e e0
  rw [e, e0]
def backR (kept : List S74) (l : List S49) : List S49 × Int := if snapB kept l = true then (applyV l kept, 0) else ([], 1)
theorem back_ev (kept : List S74) (l : List S49) (h : kept.length < 9223372036854775807) : Ev (fun k => snap_Back.f k kept l) (backR kept l) := by
  unfold snap_Back.f backR
  refine Ev.bind (snapright_ev kept l h) ?_
  cases hs : snapB kept l with
  | true =>
    have hc := (snapB_iff.1 hs).1
    have ha := apply_ev l kept
    unfold applyR at ha
    rw [if_pos hc] at ha
    have e : (if true = true then ((applyV l kept, 0) : List S49 × Int) else ([], 1)) = (applyV l kept, 0) := if_pos rfl
    rw [e]
    exact Ev.pos rfl (Ev.bind ha (Ev.now _))
  | false =>
    have e : (if false = true then ((applyV l kept, 0) : List S49 × Int) else ([], 1)) = ([], 1) := if_neg (by simp)
    rw [e]
    exact Ev.neg (by simp) (Ev.now _)
end Go.Proofs.Ythdhkoeaadahaaa.VolsCore
