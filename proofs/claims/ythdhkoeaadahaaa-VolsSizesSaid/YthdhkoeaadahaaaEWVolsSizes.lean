/- VolsSizes' contract for arguments that are only read. -/
import Derived.Test.YthdhkoeaadahaaaPx0
import Derived.Test.YthdhkoeaadahaaaPx62
namespace Go.Proofs.Ythdhkoeaadahaaa.P
open Go.RowKit Go.Proofs.YthdhkoeaadahaaaW.PrintWords Go.Proofs.YthdhkoeaadahaaaW.PrintLast
theorem V49_of_C {w : World} {A : Option Addr} {c : Nat} {l : List S49} (hr : Kd.C k49 w A l.length l) (hc : l.length ≤ c) : Kd.V k49 49 w w.heap.size (fun k_ => (fun _ => True) k_) (.slice A l.length c) l :=
  Kd.V_mk hc (Kd.F_mono (Kd.C_F k49_heap hr) (fun _ _ => trivial))
theorem counterfoillaw07_VolsSizes.calls (k : Nat) (A0 : Option Addr) (c0 : Nat) (l0 : List S49) (A1 : Option Addr) (c1 : Nat) (l1 : List Int) (r : Bool) (w : World) (hr0 : Kd.C k49 w A0 l0.length l0) (hc0 : l0.length ≤ c0) (hr1 : Kd.C (Kd.int .i64) w A1 l1.length l1) (hc1 : l1.length ≤ c1) (h : counterfoillaw07_VolsSizes.f k l0 l1 = some r) :
    Calls Try.prog 6 #[.slice A0 l0.length c0, .slice A1 l1.length c1] w fun e w' => e = .returned (.bool r) ∧ Below w.heap.size w w' :=
  counterfoillaw07_VolsSizes.callsV k (fun _ => True) A0 c0 l0 A1 c1 l1 r w (V49_of_C hr0 hc0) hr1 hc1 h
end Go.Proofs.Ythdhkoeaadahaaa.P
