-- PACKED by wip/kit/pack.py: what the law's proof uses of VolsAwake (printed words and texts of this seat)
import Derived.Test.YthdhkoeaadahaaaUVolsCore2
import Derived.Test.YthdhkoeaadahaaaUEVAdd
import Derived.Test.YthdhkoeaadahaaaUPx37
namespace Go.Proofs.Ythdhkoeaadahaaa.VolsCore
open Go.RowKit Go.Proofs.Ythdhkoeaadahaaa.P Go.Proofs.YthdhkoeaadahaaaW.PrintWords Go.Proofs.YthdhkoeaadahaaaW.PrintLast
theorem awake_f : counterfoillaw07_awake.f = some true := by decide +kernel
theorem awake_ev : Ev (fun _ => counterfoillaw07_awake.f) true := Ev.const awake_f
end Go.Proofs.Ythdhkoeaadahaaa.VolsCore
