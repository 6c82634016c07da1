-- PACKED by wip/kit/pack.py: what the law's proof uses of EQDull (printed words and texts of this seat)
import Derived.Test.YthdhkoeaadahaaaWERefDone
namespace Go.Proofs.Ythdhkoeaadahaaa.P
open Go.RowKit Go.Proofs.YthdhkoeaadahaaaW.PrintWords Go.Proofs.YthdhkoeaadahaaaW.PrintLast Go.Proofs.YthdhkoeaadahaaaW.PrintMore
attribute [local go_sem] Oper.semAt_some
set_option linter.unusedVariables false
set_option linter.unusedSimpArgs false
set_option maxRecDepth 100000 in
set_option maxHeartbeats 8000000 in
theorem law_dull (A0 A1 : Option Addr) (c0 c1 : Nat) (l : List S99) (o : List S74) (a b q : Int) (w : World)
    (h30 : ∀ W : World, Below w.heap.size w W → Calls Try.prog 30 #[.agg #[.slice A0 l.length c0, .slice A1 o.length c1, .int .i64 a, .int .i64 b]] W fun e w' => e = .returned (.bool false) ∧ Below W.heap.size W w')
    (h73 : ∀ W : World, Below w.heap.size w W → Calls Try.prog 73 #[] W fun e w' => e = .returned (.bool true) ∧ Below W.heap.size W w') :
    Calls Try.prog 22 #[.agg #[.slice A0 l.length c0, .slice A1 o.length c1, .int .i64 a, .int .i64 b], .int .i64 q] w fun e w' => e = .returned (.bool true) ∧ Below w.heap.size w w' := by
  have hu27 := Try.underlying27
  have H30 := Aside0.mk h30
  have H73 := Aside0.mk h73
  clear h30 h73
  go_enter Try.func22, Try.ntmps22
  go_wp2_with (first
    | ((with_reducible refine gate_dst (N := 2) rfl ?_); refine box_event ?hg (N := 2) ?hd (cs := #[.slice A0 l.length c0, .slice A1 o.length c1, .int .i64 a, .int .i64 b]) (t := 27) ?hr ?_; (case hd => rfl); (case hg => rfl); (case hr => first | (go_simp; done) | (go_simp; rfl)); intro g1 hg w1 hbox hb; have BK1 := Aside0.mk hbox; have HB1 := Aside0.mk hb; clear hb hbox hg; have x0 : w1.cell? ⟨g1, 0, none⟩ = some (.slice A0 l.length c0) := (blk_cell BK1.out 0).trans rfl; have x1 : w1.cell? ⟨g1, 1, none⟩ = some (.slice A1 o.length c1) := (blk_cell BK1.out 1).trans rfl; have x2 : w1.cell? ⟨g1, 2, none⟩ = some (.int .i64 a) := (blk_cell BK1.out 2).trans rfl; have x3 : w1.cell? ⟨g1, 3, none⟩ = some (.int .i64 b) := (blk_cell BK1.out 3).trans rfl)
    | (go_at_call 30; refine (H30.out _ HB1.out).mono ?_; rintro e w2 ⟨rfl, hb⟩; have HB2 := Aside0.mk (below_step HB1.out hb); clear hb x0 x1 x2 x3)
    | (go_at_call 73; refine (H73.out _ HB2.out).mono ?_; rintro e w3 ⟨rfl, hb⟩; have HB3 := Aside0.mk (below_step HB2.out hb); clear hb))
  go_ret
  exact ⟨rfl, HB3.out⟩
end Go.Proofs.Ythdhkoeaadahaaa.P
