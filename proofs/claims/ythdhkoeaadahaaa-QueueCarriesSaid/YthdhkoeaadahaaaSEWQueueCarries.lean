-- PACKED by wip/kit/pack.py: what the law's proof uses of EWQueueCarries (printed words and texts of this seat)
import Derived.Test.YthdhkoeaadahaaaSPx0
import Derived.Test.YthdhkoeaadahaaaSPx104
namespace Go.Proofs.Ythdhkoeaadahaaa.P
open Go.RowKit Go.Proofs.YthdhkoeaadahaaaW.PrintWords Go.Proofs.YthdhkoeaadahaaaW.PrintLast
theorem counterfoillaw12_QueueCarries.calls (k : Nat) (A0 : Option Addr) (c0 : Nat) (l0 : List S49) (A1 : Option Addr) (c1 : Nat) (l1 : List (List S74)) (A2 : Option Addr) (c2 : Nat) (l2 : List Bool) (A3 : Option Addr) (c3 : Nat) (l3 : List Bool) (r : Bool) (w : World) (hr0 : Kd.C k49 w A0 l0.length l0) (hc0 : l0.length ≤ c0) (hr1 : Kd.C (Kd.slice 74 k74) w A1 l1.length l1) (hc1 : l1.length ≤ c1) (hr2 : Kd.C Kd.bool w A2 l2.length l2) (hc2 : l2.length ≤ c2) (hr3 : Kd.C Kd.bool w A3 l3.length l3) (hc3 : l3.length ≤ c3) (h : counterfoillaw12_QueueCarries.f k l0 l1 l2 l3 = some r) (hr_ : r = true := by rfl) :
    Calls Try.prog 29 #[.slice A0 l0.length c0, .slice A1 l1.length c1, .slice A2 l2.length c2, .slice A3 l3.length c3] w fun e w' => e = .returned (.bool r) ∧ Below w.heap.size w w' :=
  counterfoillaw12_QueueCarries.callsV k (fun _ => True) A0 c0 l0 A1 c1 l1 A2 c2 l2 A3 c3 l3 r w (Kd.V_mk hc0 (Kd.F_mono (Kd.C_F k49_heap hr0) (fun _ _ => trivial))) hr1 hc1 hr2 hc2 hr3 hc3 h hr_
end Go.Proofs.Ythdhkoeaadahaaa.P
