-- PACKED by wip/kit/pack.py: what the law's proof uses of PureVolsShapes (printed words and texts of this seat)
import Derived.Test.YthdhkoeaadahaaaUVolsAwake
import Derived.Test.YthdhkoeaadahaaaUPutRef
import Derived.Test.YthdhkoeaadahaaaUPx72
namespace Go.Proofs.Ythdhkoeaadahaaa.Pure
open Go.RowKit Go.Proofs.Ythdhkoeaadahaaa.P Go.Proofs.Ythdhkoeaadahaaa.VolsCore Go.Proofs.Ythdhkoeaadahaaa.PutCore Go.Proofs.YthdhkoeaadahaaaW.PrintWords Go.Proofs.YthdhkoeaadahaaaW.PrintLast
theorem VolsShapes : counterfoillaw07_VolsShapes.Pure := by
  intro l a n hl ha hn
  have hlen : l.length < 9223372036854775807 := by omega
  suffices h : Ev (fun k => counterfoillaw07_VolsShapes.f k l a n) true by
    obtain ⟨k, hk⟩ := h
    exact ⟨k, hk k (Nat.le_refl _)⟩
  unfold counterfoillaw07_VolsShapes.f
  obtain ⟨t, ht, hs⟩ := small_ev l [] hlen
  refine Ev.bind ht ?_
  cases t with
  | false => exact Ev.neg (by simp) (Ev.bind awake_ev (Ev.now _))
  | true =>
    obtain ⟨h1, _, h2⟩ := hs rfl
    have hl1 : l.length ≤ 1000 := by omega
    have hb1 : ∀ x ∈ l, x.f1.length ≤ 1000 := fun x hx => by have := h2 x hx; omega
    have eqA := equal_ev (addR l a n).1 (addR l a n).1 (addR_small l a n).1 (addR_small l a n).2
    have eqD := equal_ev (dropR l a).1 (dropR l a).1 (dropR_small l a).1 (dropR_small l a).2
    have eqR := equal_ev (resR l a n).1 (resR l a n).1 (resR_small l a n).1 (resR_small l a n).2
    rw [eqVs_self] at eqA eqD eqR
    refine Ev.pos rfl ?_
    refine Ev.bind (vadd_ev l a n) (Ev.bind (radd_ev l a n hl1 hb1) ?_)
    refine Ev.bind (vdrop_ev l a) (Ev.bind (rdrop_ev l a hl1 hb1) ?_)
    refine Ev.bind (vres_ev l a n) (Ev.bind (rres_ev l a n hl1 hb1) ?_)
    refine Ev.bind eqA (Ev.pos rfl (Ev.pos rfl ?_))
    refine Ev.bind eqD (Ev.pos rfl (Ev.pos rfl ?_))
    refine Ev.bind eqR (Ev.pos rfl (Ev.pos rfl ?_))
    refine Ev.bind (vright_ev l) (Ev.bind (right_ev l hl1 hb1) ?_)
    exact Ev.pos (by simp) (Ev.bind awake_ev (Ev.now _))
end Go.Proofs.Ythdhkoeaadahaaa.Pure
