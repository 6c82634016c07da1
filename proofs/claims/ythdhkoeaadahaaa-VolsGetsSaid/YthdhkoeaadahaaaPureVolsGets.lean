/- Each block is told as the reference says, or the call is refused; no condition. -/
import Derived.Test.YthdhkoeaadahaaaVolsCore
import Derived.Test.YthdhkoeaadahaaaPx57
namespace Go.Proofs.Ythdhkoeaadahaaa.Pure
open Go.RowKit Go.Proofs.Ythdhkoeaadahaaa.P Go.Proofs.Ythdhkoeaadahaaa.VolsCore Go.Proofs.YthdhkoeaadahaaaW.PrintWords Go.Proofs.YthdhkoeaadahaaaW.PrintLast
theorem VolsGets : counterfoillaw07_VolsGets.Pure := by
  intro l v b hl _ _
  have hlen : l.length < 9223372036854775807 := by omega
  suffices h : Ev (fun k => counterfoillaw07_VolsGets.f k l v b) true by
    obtain ⟨k, hk⟩ := h
    exact ⟨k, hk k (Nat.le_refl _)⟩
  unfold counterfoillaw07_VolsGets.f
  obtain ⟨t, ht, hs⟩ := small_ev l [] hlen
  refine Ev.bind ht ?_
  cases t with
  | false => exact Ev.neg (by simp) (Ev.bind awake_ev (Ev.now _))
  | true =>
    obtain ⟨h1, _, h2⟩ := hs rfl
    refine Ev.pos rfl (Ev.bind (vget_ev l v b) (Ev.bind (right_ev l (by omega) (fun x hx => by have := h2 x hx; omega)) ?_))
    cases hr : rightV l with
    | false =>
      have e : (if false = true then getV l v b else ((⟨#[]⟩ : ByteArray), (1 : Int))) = (⟨#[]⟩, 1) := if_neg (by simp)
      rw [e]
      exact Ev.neg (by simp) (Ev.pos (by decide +kernel) (Ev.pos rfl (Ev.bind awake_ev (Ev.now _))))
    | true => exact Ev.pos rfl (Ev.bind (get_ev l v b (by omega)) (Ev.pos rfl (Ev.pos rfl (Ev.bind awake_ev (Ev.now _)))))
end Go.Proofs.Ythdhkoeaadahaaa.Pure
