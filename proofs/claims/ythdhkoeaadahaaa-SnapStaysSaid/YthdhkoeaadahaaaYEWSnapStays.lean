-- PACKED by wip/kit/pack.py: what the law's proof uses of EWSnapStays (printed words and texts of this seat)
import Derived.Test.YthdhkoeaadahaaaYPx0
import Derived.Test.YthdhkoeaadahaaaYPx103
namespace Go.Proofs.Ythdhkoeaadahaaa.P
open Go.RowKit Go.Proofs.YthdhkoeaadahaaaW.PrintWords Go.Proofs.YthdhkoeaadahaaaW.PrintLast
theorem counterfoillaw09_SnapStays.calls (k : Nat) (A0 : Option Addr) (c0 : Nat) (l0 : List S49) (A1 : Option Addr) (c1 : Nat) (l1 : List (List S74)) (a2 : Int) (r : Bool) (w : World) (hr0 : Kd.C k49 w A0 l0.length l0) (hc0 : l0.length ≤ c0) (hr1 : Kd.C (Kd.slice 74 k74) w A1 l1.length l1) (hc1 : l1.length ≤ c1) (h : counterfoillaw09_SnapStays.f k l0 l1 a2 = some r) :
    Calls Try.prog 28 #[.slice A0 l0.length c0, .slice A1 l1.length c1, .int .i64 a2] w fun e w' => e = .returned (.bool r) ∧ Below w.heap.size w w' :=
  counterfoillaw09_SnapStays.callsV k (fun _ => True) A0 c0 l0 A1 c1 l1 a2 r w (Kd.V_mk hc0 (Kd.F_mono (Kd.C_F k49_heap hr0) (fun _ _ => trivial))) hr1 hc1 h
end Go.Proofs.Ythdhkoeaadahaaa.P
