/- What was picked ahead of writes, put back, undoes them; no condition. -/
import Derived.Test.YthdhkoeaadahaaaTakesCore
import Derived.Test.YthdhkoeaadahaaaPx89
import Derived.Test.YthdhkoeaadahaaaGood
namespace Go.Proofs.Ythdhkoeaadahaaa.Pure
open Go.RowKit Go.Proofs.Ythdhkoeaadahaaa.P Go.Proofs.Ythdhkoeaadahaaa.VolsCore Go.Proofs.YthdhkoeaadahaaaW.PrintWords Go.Proofs.YthdhkoeaadahaaaW.PrintLast Go.Proofs.Ythdhkoeaadahaaa.SortCore
theorem fawake_ev : Ev (fun _ => counterfoillaw08_awake.f) true := Ev.const (by decide +kernel)
theorem FoldTakes : counterfoillaw08_FoldTakes.Pure := by
  intro l ws hl hw
  have hlen : l.length < 9223372036854775807 := by omega
  suffices h : Ev (fun k => counterfoillaw08_FoldTakes.f k l ws) true by
    obtain ⟨k, hk⟩ := h
    exact ⟨k, hk k (Nat.le_refl _)⟩
  unfold counterfoillaw08_FoldTakes.f
  obtain ⟨t, ht, hs⟩ := small_ev l ws hlen
  refine Ev.bind ht ?_
  cases t with
  | false => exact Ev.neg (by simp) (Ev.bind fawake_ev (Ev.now _))
  | true =>
    obtain ⟨h1, h2, h3⟩ := hs rfl
    refine Ev.pos rfl (Ev.bind (apply_ev l ws) ?_)
    by_cases hz : checkV l ws = 0
    · obtain ⟨hr, hc⟩ := checkV_right hz
      have hid := apply_ids hr
      have e : applyR l ws = (applyV l ws, 0) := by unfold applyR; rw [if_pos hz]
      rw [e]
      obtain ⟨ms, hms⟩ : ∃ ms, (foldW ws).map FoldCore.markOf = ms := ⟨_, rfl⟩
      have hm := FoldCore.marks_ev ws (by omega)
      rw [hms] at hm
      have hlen2 := FoldCore.foldW_length ws
      have hml : ms.length ≤ 10000 := by rw [← hms, List.length_map]; omega
      have hok : ∀ m ∈ ms, (getV l m.f0 m.f1).2 = 0 := by
        intro m hm
        rw [← hms] at hm
        obtain ⟨x, hx, rfl⟩ := List.mem_map.1 hm
        exact (checkL_all l ws hc x (last_some ((mem_fold weakW ws x).1 hx)).1).1
      have hp : pickR l ms = (ms.map (heldV l), 0) := by
        unfold pickR
        rw [if_pos hr, pickV_all l ms [] hok, List.nil_append]
      have hpe := pick_ev l ms hml
      rw [hp] at hpe
      have hck : ∀ x ∈ ms.map (heldV l), (getV l x.f0 x.f1).2 = 0 ∧ x.f2.size ≤ 8 := by
        intro x hx
        obtain ⟨m, hm, rfl⟩ := List.mem_map.1 hx
        exact ⟨hok m hm, getV_size hr _ _⟩
      have hc1 : checkV l (ms.map (heldV l)) = 0 := checkV_ok hr hck
      have hr2 : rightV (applyV l ws) = true := apply_right ws l (fun x hx => (checkL_all l ws hc x hx).2) hr
      have hc2 : checkV (applyV l ws) (ms.map (heldV l)) = 0 := checkV_ok hr2 (fun x hx => ⟨by rw [applyV_same]; exact (hck x hx).1, (hck x hx).2⟩)
      have hpos := check_pos (checkV_right hc1).2
      have a1 : applyV l (ms.map (heldV l)) = l := by
        rw [apply_new l _ hid hpos]
        exact (List.map_congr_left (fun y hy => held_self hid ms hy)).trans (List.map_id _)
      have a2 : applyV (applyV l ws) (ms.map (heldV l)) = l := by
        rw [apply_new _ _ (apply_ids hr2) hpos, apply_new l ws hid (check_pos hc), List.map_map]
        refine (List.map_congr_left (fun y hy => ?_)).trans (List.map_id _)
        exact put_back hid ws ms (fun v b h => by rw [← hms]; exact marks_cover ws v b h) hy
      have b1 : applyR l (ms.map (heldV l)) = (l, 0) := by unfold applyR; rw [if_pos hc1, a1]
      have b2 : applyR (applyV l ws) (ms.map (heldV l)) = (l, 0) := by unfold applyR; rw [if_pos hc2, a2]
      have p1 := apply_ev l (ms.map (heldV l))
      have p2 := apply_ev (applyV l ws) (ms.map (heldV l))
      rw [b1] at p1
      rw [b2] at p2
      have hs := vsame_ev l l
      rw [vsame_self, hr] at hs
      exact Ev.pos rfl (Ev.bind hm (Ev.bind hpe (Ev.bind p1 (Ev.bind p2 (Ev.pos rfl (Ev.pos rfl (Ev.pos rfl (Ev.bind hs (Ev.pos rfl (Ev.bind hs (Ev.pos rfl (Ev.bind fawake_ev (Ev.now _)))))))))))))
    · have e : applyR l ws = ([], checkV l ws) := by unfold applyR; rw [if_neg hz]
      rw [e]
      exact Ev.neg hz (Ev.bind fawake_ev (Ev.now _))
end Go.Proofs.Ythdhkoeaadahaaa.Pure
