-- PACKED by wip/kit/pack.py: what the law's proof uses of QAll, QAwake, CarryCore, PureQueueCarries (printed words and texts of this seat)
import Derived.Test.YthdhkoeaadahaaaSQBig
import Derived.Test.YthdhkoeaadahaaaSPx90
import Derived.Test.YthdhkoeaadahaaaSPx9
import Derived.Test.YthdhkoeaadahaaaSPx82
import Derived.Test.YthdhkoeaadahaaaSPx83
import Derived.Test.YthdhkoeaadahaaaSTakesCore
import Derived.Test.YthdhkoeaadahaaaSVolsCore2
import Derived.Test.YthdhkoeaadahaaaSEWQueueCarries
import Derived.Test.YthdhkoeaadahaaaSGood
section
namespace Go.Proofs.Ythdhkoeaadahaaa.QBig
open Go.RowKit Go.Proofs.Ythdhkoeaadahaaa.P Go.Proofs.Ythdhkoeaadahaaa.FoldCore Go.Proofs.Ythdhkoeaadahaaa.QueueCore Go.Proofs.Ythdhkoeaadahaaa.DoneCore Go.Proofs.YthdhkoeaadahaaaW.PrintWords Go.Proofs.YthdhkoeaadahaaaW.PrintLast Go.Proofs.Ythdhkoeaadahaaa.SortCore
set_option linter.unusedVariables false
theorem fold_more (x y : List S74) : foldW (foldW x ++ y) = foldW (x ++ y) := by
  have h1 := fold_append weakW (SortCore.fold ltW x) y
  have h2 := fold_append weakW x y
  rw [fold_fold weakW] at h1
  exact h1.symm.trans h2
end Go.Proofs.Ythdhkoeaadahaaa.QBig
end
section
namespace Go.Proofs.Ythdhkoeaadahaaa.QAwake
open Go.RowKit Go.Proofs.Ythdhkoeaadahaaa.P Go.Proofs.Ythdhkoeaadahaaa.FoldCore Go.Proofs.Ythdhkoeaadahaaa.QueueCore Go.Proofs.YthdhkoeaadahaaaW.PrintWords Go.Proofs.YthdhkoeaadahaaaW.PrintLast
set_option linter.unusedVariables false
theorem upward {α : Type} {g : Nat → Option α} {r : α} (K : Nat) (h : g K = some r) (hm : ∀ k, LeO (g k) (g (k + 1))) : Ev g r := by
  refine ⟨K, fun k hk => ?_⟩
  induction hk with
  | refl => exact h
  | step _ ih => exact hm _ _ ih
theorem awake12 : Ev (fun k => counterfoillaw12_awake.f k) true := upward 60 (by decide +kernel) counterfoillaw12_awake.mono
end Go.Proofs.Ythdhkoeaadahaaa.QAwake
end
section
namespace Go.Proofs.Ythdhkoeaadahaaa.CarryCore
open Go.RowKit Go.Proofs.Ythdhkoeaadahaaa.P Go.Proofs.Ythdhkoeaadahaaa.FoldCore Go.Proofs.Ythdhkoeaadahaaa.QueueCore Go.Proofs.Ythdhkoeaadahaaa.DoneCore Go.Proofs.Ythdhkoeaadahaaa.QBig Go.Proofs.YthdhkoeaadahaaaW.PrintWords Go.Proofs.YthdhkoeaadahaaaW.PrintLast Go.Proofs.Ythdhkoeaadahaaa.SortCore
open Go.Proofs.Ythdhkoeaadahaaa.VolsCore (applyR apply_right applyV_same checkV_right checkL_all checkV_ok does_check does_apply)
set_option linter.unusedVariables false
theorem all_big (l : List S99) (o : List S74) (a b : Int) (hl : l.length ≤ 30) (hs : ∀ s ∈ l, s.f2.length ≤ 300) (ho : o.length ≤ 300) (hq : qB o a b l (tailP l a) = true) : Ev (fun k => queue_All.f k l o a b) (foldW (allW l ++ o)) := by
  have loop : ∀ (d i : Nat) (x : List S74), i + d = l.length → x.length ≤ 300 * i → Ev (fun k => queue_All.l0 k (foldW x) l (l.length : Int) (i : Int) l o a b) (foldW (x ++ (allW (l.drop i) ++ o))) := by
    intro d
    induction d with
    | zero =>
      intro i x hi hx
      have hf := foldW_length x
      refine Ev.succ ?_
      simp only [queue_All.l0]
      rw [List.drop_eq_nil_of_le (by omega), allW, List.nil_append, ← fold_more x o]
      exact Ev.neg (by omega) (Ev.bind (merge_ev (foldW x) o (by omega)) (Ev.now _))
    | succ d ih =>
      intro i x hi hx
      have hf := foldW_length x
      have hsi := hs _ (mem99 l i (by omega))
      have nx := ih (i + 1) (x ++ (rd_T99 l (i : Int)).f2) (by omega) (by rw [List.length_append]; omega)
      refine Ev.succ ?_
      simp only [queue_All.l0]
      rw [drop99 l (by omega), allW, wrap_succ (by omega)]
      rw [← fold_more x, List.append_assoc] at nx
      rw [List.append_assoc]
      exact Ev.pos (by omega) (Ev.pos (by omega) (Ev.pos (by omega) (Ev.bind (merge_ev (foldW x) _ (by omega)) nx)))
  have h0 := loop l.length 0 [] (by omega) (by simp)
  rw [List.drop_zero, List.nil_append] at h0
  unfold queue_All.f
  have hr := right_big l o a b ⟨by omega, by omega, fun s h => by have := hs s h; omega⟩
  rw [hq] at hr
  exact Ev.bind hr (Ev.pos rfl h0)
theorem qtail_big (l : List S99) (o : List S74) (a b : Int) (hs : smallQ l o) (hq : qB o a b l (tailP l a) = true) : Ev (fun k => queue_Tail.f k l o a b) (tailP l a) := by
  unfold queue_Tail.f
  have hr := right_big l o a b hs
  rw [hq] at hr
  exact Ev.bind hr (Ev.pos rfl (Ev.bind (tail_ev l o a b) (Ev.now _)))
theorem mem_foldW {l : List S74} {x : S74} (h : x ∈ foldW l) : x ∈ l := by
  obtain ⟨ys, h1, h2⟩ := fold_subperm (lt := ltW) l
  exact h1.mem_iff.1 (h2.mem h)
theorem tail_snoc (l : List S99) (a b : Int) (o : List S74) : tailP (l ++ [⟨a, b, o⟩]) b = tailP l a := by
  cases l with
  | nil => rfl
  | cons s r => rfl
theorem applyV_app (l : List S49) (a b : List S74) : applyV l (a ++ b) = applyV (applyV l a) b := by
  unfold applyV; rw [List.foldl_append]
structure Carr (now there : List S49) (done : Int) (m n : Nat) (l : List S99) (o : List S74) (a b : Int) : Prop where
  right : qB o a b l (tailP l a) = true
  tail : tailP l a = done
  sets : l.length ≤ m
  opens : o.length ≤ 10 * n
  each : ∀ s ∈ l, s.f2.length ≤ 10 * n
  upto : b ≤ n
  vols : rightV there = true
  fits : ∀ x ∈ allW l ++ o, (getV there x.f0 x.f1).2 = 0 ∧ x.f2.size ≤ 8
  same : applyV there (allW l ++ o) = now
theorem Carr.small {now there : List S49} {done : Int} {m n : Nat} {l : List S99} {o : List S74} {a b : Int} (h : Carr now there done m n l o a b) (hm : m ≤ 1000) (hn : n ≤ 1000) : smallQ l o :=
  ⟨by have := h.sets; omega, by have := h.opens; omega, fun s hs => by have := h.each s hs; omega⟩
theorem Carr.grow {now there : List S49} {done : Int} {m n m' n' : Nat} {l : List S99} {o : List S74} {a b : Int} (h : Carr now there done m n l o a b) (hm : m ≤ m') (hn : n ≤ n') : Carr now there done m' n' l o a b :=
  ⟨h.right, h.tail, by have := h.sets; omega, by have := h.opens; omega, fun s hs => by have := h.each s hs; omega, by have := h.upto; omega, h.vols, h.fits, h.same⟩
theorem Carr.now {now there : List S49} {done : Int} {m n : Nat} {l : List S99} {o : List S74} {a b : Int} (h : Carr now there done m n l o a b) : rightV now = true := by
  rw [← h.same]
  exact apply_right _ _ (fun x hx => (h.fits x hx).2) h.vols
theorem Carr.add {now there : List S49} {done : Int} {m n : Nat} {l : List S99} {o ws : List S74} {a b : Int} (h : Carr now there done m n l o a b) (hn : n ≤ 1000) (hw : ws.length ≤ 10) (hc : checkV now ws = 0) : Carr (applyV now ws) there done m (n + 1) l (foldW (o ++ ws)) a (b + 1) := by
  have h1 := foldW_length (o ++ ws)
  rw [List.length_append] at h1
  obtain ⟨_, hc2⟩ := checkV_right hc
  have hws : ∀ x ∈ ws, (getV there x.f0 x.f1).2 = 0 ∧ x.f2.size ≤ 8 := fun x hx => by
    have h2 := checkL_all now ws hc2 x hx
    rw [← h.same, applyV_same] at h2
    exact h2
  have how : ∀ x ∈ o ++ ws, (getV there x.f0 x.f1).2 = 0 ∧ x.f2.size ≤ 8 := fun x hx => by
    rcases List.mem_append.1 hx with hx | hx
    · exact h.fits x (List.mem_append_right _ hx)
    · exact hws x hx
  have hX : rightV (applyV there (allW l)) = true := apply_right _ _ (fun x hx => (h.fits x (List.mem_append_left _ hx)).2) h.vols
  refine ⟨qB_more (foldB_fold _) (by have := h.upto; omega) h.right, h.tail, h.sets, by have := h.opens; omega, fun s hs => by have := h.each s hs; omega, by have := h.upto; omega, h.vols, fun x hx => ?_, ?_⟩
  · rcases List.mem_append.1 hx with hx | hx
    · exact h.fits x (List.mem_append_left _ hx)
    · exact how x (mem_foldW hx)
  · have e := does_apply (l := applyV there (allW l)) (ws := o ++ ws) (checkV_ok hX (fun x hx => by rw [applyV_same]; exact how x hx))
    rw [applyV_app, e, applyV_app, ← applyV_app there, h.same]
theorem Carr.cut {now there : List S49} {done : Int} {m n : Nat} {l : List S99} {o : List S74} {a b : Int} (h : Carr now there done m n l o a b) (hb : b ≠ a) : Carr now there done (m + 1) n (l ++ [⟨a, b, o⟩]) [] b b := by
  have e : allW (l ++ [⟨a, b, o⟩]) ++ [] = allW l ++ o := by
    rw [allW_app]; simp only [allW, List.append_nil]
  refine ⟨by rw [tail_snoc]; exact qB_cut hb h.right, by rw [tail_snoc]; exact h.tail, by rw [List.length_append, List.length_singleton]; have := h.sets; omega, by simp, fun s hs => ?_, h.upto, h.vols, by rw [e]; exact h.fits, by rw [e]; exact h.same⟩
  rcases List.mem_append.1 hs with hs | hs
  · exact h.each s hs
  · rw [List.mem_singleton.1 hs]; exact h.opens
theorem Carr.head {now there : List S49} {done : Int} {m n : Nat} {s : S99} {r : List S99} {o : List S74} {a b : Int} (h : Carr now there done m n (s :: r) o a b) : s.f0 = done ∧ done < s.f1 ∧ qB o a b r s.f1 = true ∧ checkV there s.f2 = 0 := by
  have hr := h.right
  simp only [qB, Bool.and_eq_true, decide_eq_true_eq, Bool.not_eq_true', decide_eq_false_iff_not] at hr
  obtain ⟨_, _, h2, _, _, h3⟩ := hr
  have ht : s.f0 = done := h.tail
  exact ⟨ht, by omega, h3, checkV_ok h.vols (fun x hx => h.fits x (List.mem_append_left _ (by rw [allW]; exact List.mem_append_left _ hx)))⟩
theorem Carr.left {now there : List S49} {done : Int} {m n : Nat} {s : S99} {r : List S99} {o : List S74} {a b : Int} (h : Carr now there done m n (s :: r) o a b) : (s :: r).filter (lateQ s.f1) = r := by
  obtain ⟨_, _, h3, _⟩ := h.head
  have hg := qB_gt h3
  rw [List.filter_cons_of_neg (by unfold lateQ; simp), List.filter_eq_self.2 (fun x hx => by unfold lateQ; simp; exact hg x hx)]
theorem Carr.done {now there : List S49} {done : Int} {m n : Nat} {s : S99} {r : List S99} {o : List S74} {a b : Int} (h : Carr now there done m n (s :: r) o a b) : Carr now (applyV there s.f2) s.f1 m n r o a b := by
  obtain ⟨_, _, h3, _⟩ := h.head
  have ht := qB_at h3
  refine ⟨by rw [ht]; exact h3, ht, by have := h.sets; rw [List.length_cons] at this; omega, h.opens, fun x hx => h.each x (List.mem_cons_of_mem _ hx), h.upto, apply_right _ _ (fun x hx => (h.fits x (List.mem_append_left _ (by rw [allW]; exact List.mem_append_left _ hx))).2) h.vols, fun x hx => ?_, ?_⟩
  · rw [applyV_same]
    refine h.fits x ?_
    rw [allW, List.append_assoc]
    exact List.mem_append_right _ hx
  · rw [← applyV_app, ← List.append_assoc]
    exact h.same
theorem Carr.all {now there : List S49} {done : Int} {m n : Nat} {l : List S99} {o : List S74} {a b : Int} (h : Carr now there done m n l o a b) : applyR there (foldW (allW l ++ o)) = (now, 0) := by
  have hc := checkV_ok h.vols h.fits
  unfold applyR
  rw [if_pos (does_check hc), does_apply hc, h.same]
theorem qB_le {o : List S74} {a b : Int} : ∀ {l : List S99} {p : Int}, qB o a b l p = true → a ≤ b
  | [], p, h => by
    simp only [qB, endB, Bool.and_eq_true, decide_eq_true_eq] at h
    exact h.2.2.1
  | s :: r, p, h => by
    simp only [qB, Bool.and_eq_true] at h
    exact qB_le h.2.2.2.2.2
end Go.Proofs.Ythdhkoeaadahaaa.CarryCore
end
section
namespace Go.Proofs.Ythdhkoeaadahaaa.Pure
open Go.RowKit Go.Proofs.Ythdhkoeaadahaaa.P Go.Proofs.Ythdhkoeaadahaaa.FoldCore Go.Proofs.Ythdhkoeaadahaaa.QueueCore Go.Proofs.Ythdhkoeaadahaaa.DoneCore Go.Proofs.Ythdhkoeaadahaaa.QBig Go.Proofs.Ythdhkoeaadahaaa.CarryCore Go.Proofs.Ythdhkoeaadahaaa.QAwake Go.Proofs.YthdhkoeaadahaaaW.PrintWords Go.Proofs.YthdhkoeaadahaaaW.PrintLast Go.Proofs.YthdhkoeaadahaaaW.PrintMore
open Go.Proofs.Ythdhkoeaadahaaa.VolsCore (applyR apply_ev checkV_right vsame_ev vsame_self)
set_option linter.unusedVariables false
theorem QueueCarries : counterfoillaw12_QueueCarries.Pure := by
  intro v ls cut take hv _ _ _
  have hlen : v.length < 9223372036854775807 := by omega
  suffices H : Ev (fun k => counterfoillaw12_QueueCarries.f k v ls cut take) true by
    obtain ⟨k, hk⟩ := H
    exact ⟨k, hk k (Nat.le_refl _)⟩
  have dull : Ev (fun k => counterfoillaw12_QueueCarries.j0 k v ls cut take true) true := by
    refine Ev.succ ?_
    simp only [counterfoillaw12_QueueCarries.j0]
    exact Ev.pos (by simp) (Ev.bind awake12 (Ev.now _))
  unfold counterfoillaw12_QueueCarries.f
  obtain ⟨t, ht, hs⟩ := VolsCore.small_ev v [] hlen
  refine Ev.bind ht ?_
  cases t with
  | false => exact Ev.neg (by simp) dull
  | true =>
    obtain ⟨h1, h2, h3⟩ := hs rfl
    have hb : ∀ x ∈ v, x.f1.length ≤ 1000 := fun x hx => by have := h3 x hx; omega
    refine Ev.pos rfl (Ev.bind (VolsCore.right_ev v (by omega) hb) ?_)
    cases hr : rightV v with
    | false => exact dull
    | true =>
      have stop : ∀ (now there : List S49) (y z : Int) (l : List S99) (o : List S74) (a b : Int), Ev (fun k => counterfoillaw12_QueueCarries.j2 k ls cut take now there y z false l o a b) true := fun now there y z l o a b => by
        refine Ev.succ ?_
        simp only [counterfoillaw12_QueueCarries.j2]
        exact Ev.neg (by simp) (Ev.bind awake12 (Ev.now _))
      have loop : ∀ (d i : Nat) (now there : List S49) (dn : Int) (l : List S99) (o : List S74) (a b : Int), i + d = 30 → Carr now there dn i i l o a b → Ev (fun k => counterfoillaw12_QueueCarries.l0 k ls cut take now there dn (i : Int) l o a b) true := by
        intro d
        induction d with
        | zero =>
          intro i now there dn l o a b hi hW
          refine Ev.succ ?_
          simp only [counterfoillaw12_QueueCarries.l0]
          by_cases hlt : (i : Int) < (ls.length : Int)
          · refine Ev.pos hlt ?_
            rw [decide_eq_false (by omega)]
            exact stop _ _ _ _ l o a b
          · exact Ev.neg hlt (stop _ _ _ _ l o a b)
        | succ d ih =>
          intro i now there dn l o a b hi hW
          refine Ev.succ ?_
          simp only [counterfoillaw12_QueueCarries.l0]
          by_cases hlt : (i : Int) < (ls.length : Int)
          · refine Ev.pos hlt ?_
            rw [decide_eq_true (by omega)]
            have e7 : ∀ (now there : List S49) (dn : Int) (l : List S99) (o : List S74) (a b : Int), Carr now there dn (i + 1) (i + 1) l o a b → Ev (fun k => counterfoillaw12_QueueCarries.j7 k ls cut take now there dn (i : Int) l o a b) true := fun now there dn l o a b hW => by
              have hsets := hW.sets
              have hop := hW.opens
              have hal := all_big l o a b (by omega) (fun s hs => by have := hW.each s hs; omega) (by omega) hW.right
              have hap := apply_ev there (foldW (allW l ++ o))
              rw [hW.all] at hap
              have hsm := vsame_ev now now
              rw [vsame_self, hW.now] at hsm
              have hrt := right_big l o a b (hW.small (by omega) (by omega))
              rw [hW.right] at hrt
              have nx := ih (i + 1) now there dn l o a b (by omega) hW
              refine Ev.succ ?_
              simp only [counterfoillaw12_QueueCarries.j7]
              rw [wrap_succ (by omega)]
              exact Ev.bind hal (Ev.bind hap (Ev.pos rfl (Ev.bind hsm (Ev.pos rfl (Ev.bind hrt (Ev.pos rfl nx))))))
            have e5 : ∀ (t : Bool) (now there : List S49) (dn : Int) (l : List S99) (o : List S74) (a b : Int), (t = true → 0 < l.length) → Carr now there dn (i + 1) (i + 1) l o a b → Ev (fun k => counterfoillaw12_QueueCarries.j5 k ls cut take now there dn (i : Int) t l o a b) true := fun t now there dn l o a b ht hW => by
              refine Ev.succ ?_
              simp only [counterfoillaw12_QueueCarries.j5]
              cases t with
              | false => exact Ev.neg (by simp) (e7 now there dn l o a b hW)
              | true =>
                have hl := ht rfl
                cases l with
                | nil => simp at hl
                | cons s r =>
                  obtain ⟨g1, g2, g3, g4⟩ := hW.head
                  have e0 : rd_T99 (s :: r) 0 = s := rd99 (s :: r) 0 (by simp)
                  rw [e0]
                  have hap := apply_ev there s.f2
                  rw [show applyR there s.f2 = (applyV there s.f2, 0) by unfold applyR; rw [if_pos g4]] at hap
                  have hdn := done_big (s :: r) o a b s.f1 (hW.small (by omega) (by omega)) hW.right
                  rw [hW.left] at hdn
                  have hW2 := hW.done
                  have htl := qtail_big r o a b (hW2.small (by omega) (by omega)) hW2.right
                  rw [hW2.tail] at htl
                  refine Ev.pos rfl (Ev.pos (by omega) (Ev.bind hap (Ev.pos rfl (Ev.pos g1 (Ev.succ ?_)))))
                  simp only [counterfoillaw12_QueueCarries.j6]
                  rw [decide_eq_false (by omega)]
                  exact Ev.neg (by simp) (Ev.bind hdn (Ev.pos rfl (Ev.bind htl (Ev.pos rfl (e7 now _ _ r o a b hW2)))))
            have e4 : ∀ (now there : List S49) (dn : Int) (l : List S99) (o : List S74) (a b : Int), Carr now there dn (i + 1) (i + 1) l o a b → Ev (fun k => counterfoillaw12_QueueCarries.j4 k ls cut take now there dn (i : Int) l o a b) true := fun now there dn l o a b hW => by
              refine Ev.succ ?_
              simp only [counterfoillaw12_QueueCarries.j4]
              by_cases h1 : (i : Int) < (take.length : Int)
              · refine Ev.pos h1 (Ev.pos (by omega) ?_)
                cases rdOf false take (i : Int) with
                | true => exact Ev.pos rfl (e5 _ now there dn l o a b (fun ht => by simpa using ht) hW)
                | false => exact Ev.neg (by simp) (e5 false now there dn l o a b (fun ht => by simp at ht) hW)
              · exact Ev.neg h1 (e5 false now there dn l o a b (fun ht => by simp at ht) hW)
            have e3 : ∀ (t : Bool) (now there : List S49) (dn : Int) (l : List S99) (o : List S74) (a b : Int), a < b → Carr now there dn i (i + 1) l o a b → Ev (fun k => counterfoillaw12_QueueCarries.j3 k ls cut take now there dn (i : Int) t l o a b) true := fun t now there dn l o a b hab hW => by
              refine Ev.succ ?_
              simp only [counterfoillaw12_QueueCarries.j3]
              cases t with
              | false => exact Ev.neg (by simp) (e4 now there dn l o a b (hW.grow (by omega) (by omega)))
              | true => exact Ev.pos rfl (Ev.bind (cut_big l o a b (hW.small (by omega) (by omega)) hW.right (by omega)) (Ev.pos rfl (Ev.pos rfl (e4 _ _ _ _ _ _ _ (hW.cut (by omega))))))
            refine Ev.succ ?_
            simp only [counterfoillaw12_QueueCarries.j2]
            refine Ev.pos (by trivial) (Ev.pos (by omega) (Ev.pos hlt ?_))
            generalize rd_L3 ls (i : Int) = ws
            have nx := ih (i + 1) now there dn l o a b (by omega) (hW.grow (by omega) (by omega))
            by_cases h10 : (ws.length : Int) > 10
            · refine Ev.pos h10 ?_
              rw [wrap_succ (by omega)]
              exact nx
            · refine Ev.neg h10 ?_
              have hap := apply_ev now ws
              by_cases hz : checkV now ws = 0
              · rw [show applyR now ws = (applyV now ws, 0) by unfold applyR; rw [if_pos hz]] at hap
                have hup := hW.upto
                have hop := hW.opens
                have hW2 := hW.add (by omega) (by omega) hz
                have hab : a ≤ b := by
                  have h := qB_le hW.right
                  exact h
                refine Ev.bind hap (Ev.pos rfl (Ev.bind (add_big l o ws a b (hW.small (by omega) (by omega)) (by omega) hW.right (by omega)) (Ev.pos rfl ?_)))
                by_cases h1 : (i : Int) < (cut.length : Int)
                · exact Ev.pos h1 (e3 _ _ there dn l _ a (b + 1) (by omega) hW2)
                · exact Ev.neg h1 (e3 false _ there dn l _ a (b + 1) (by omega) hW2)
              · rw [show applyR now ws = ([], checkV now ws) by unfold applyR; rw [if_neg hz]] at hap
                refine Ev.bind hap (Ev.neg hz ?_)
                rw [wrap_succ (by omega)]
                exact nx
          · exact Ev.neg hlt (stop _ _ _ _ l o a b)
      have hnew : Ev (fun _ => queue_New.f 0) ([], [], 0, 0, 0) := by
        unfold queue_New.f
        exact Ev.bind (fits_ev 0) (Ev.pos (by decide) (Ev.now _))
      refine Ev.succ ?_
      simp only [counterfoillaw12_QueueCarries.j0]
      refine Ev.neg (by simp) (Ev.bind hnew (Ev.pos rfl ?_))
      exact loop 30 0 v v 0 [] [] 0 0 (by omega) ⟨by have e : foldB [] = true := (foldB_iff []).2 (fun j hj => by simp at hj); simp [qB, endB, fitB, e, lastB, tailP], rfl, by simp, by simp, fun s hs => by simp at hs, by simp, hr, fun x hx => by simp [allW] at hx, rfl⟩
end Go.Proofs.Ythdhkoeaadahaaa.Pure
end
