/- line.Common's contract for arguments that are only read. -/
import Derived.Test.YtlkfmmjoiadoiaaPx0
import Derived.Test.YtlkfmmjoiadoiaaPx6
namespace Go.Proofs.Ytlkfmmjoiadoiaa.P
open Go.RowKit Go.Proofs.YtlkfmmjoiadoiaaW.PrintWords Go.Proofs.YtlkfmmjoiadoiaaW.PrintLast
theorem heap61 : Kd.Heap k61 := Kd.heap_iso _ (Kd.heap_pair (Kd.heap_int .i64) (Kd.heap_int .i64))
theorem V_of_C {w : World} {A : Option Addr} {c : Nat} {l : List S61} (hr : Kd.C k61 w A l.length l) (hc : l.length ≤ c) : Kd.V k61 61 w w.heap.size (fun k_ => (fun _ => True) k_) (.slice A l.length c) l :=
  Kd.V_mk hc (Kd.F_mono (Kd.C_F heap61 hr) (fun _ _ => trivial))
theorem line_Common.calls (k : Nat) (A0_0 : Option Addr) (c0_0 : Nat) (l0_0 : List S61) (a0_1 : Int) (A1_0 : Option Addr) (c1_0 : Nat) (l1_0 : List S61) (a1_1 : Int) (r : Int) (w : World) (hr0_0 : Kd.C k61 w A0_0 l0_0.length l0_0) (hc0_0 : l0_0.length ≤ c0_0) (hr1_0 : Kd.C k61 w A1_0 l1_0.length l1_0) (hc1_0 : l1_0.length ≤ c1_0) (h : line_Common.f k l0_0 a0_1 l1_0 a1_1 = some r) :
    Calls Try.prog 27 #[.agg #[.slice A0_0 l0_0.length c0_0, .int .i64 a0_1], .agg #[.slice A1_0 l1_0.length c1_0, .int .i64 a1_1]] w fun e w' => e = .returned (.int .i64 r) ∧ Below w.heap.size w w' :=
  line_Common.callsV k (fun _ => True) A0_0 c0_0 l0_0 a0_1 (fun _ => True) A1_0 c1_0 l1_0 a1_1 r w (V_of_C hr0_0 hc0_0) (V_of_C hr1_0 hc1_0) h
end Go.Proofs.Ytlkfmmjoiadoiaa.P
