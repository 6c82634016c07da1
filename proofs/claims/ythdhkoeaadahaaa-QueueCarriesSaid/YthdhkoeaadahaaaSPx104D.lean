-- PACKED by wip/kit/pack.py: what the law's proof uses of Px104D (printed words and texts of this seat)
import Derived.Test.YthdhkoeaadahaaaSPx0
import Derived.Test.YthdhkoeaadahaaaSPx23
import Derived.Test.YthdhkoeaadahaaaSPx8
import Derived.Test.YthdhkoeaadahaaaSPx82
import Derived.Test.YthdhkoeaadahaaaSPx85
import Derived.Test.YthdhkoeaadahaaaSPx9
import Derived.Test.YthdhkoeaadahaaaSPx90
import Derived.Test.YthdhkoeaadahaaaSEQDone
import Derived.Test.YthdhkoeaadahaaaSEVApply
import Derived.Test.YthdhkoeaadahaaaSEVSame
import Derived.Test.YthdhkoeaadahaaaSGood
namespace Go.Proofs.Ythdhkoeaadahaaa.P
open Go.RowKit Go.Proofs.YthdhkoeaadahaaaW.PrintWords Go.Proofs.YthdhkoeaadahaaaW.PrintLast Go.Proofs.YthdhkoeaadahaaaW.PrintMore
attribute [local go_sem] max2_int min2_int max_two min_two max_three min_three max_four min_four
set_option linter.unusedVariables false
set_option linter.unusedSimpArgs false
mutual
def counterfoillaw12_QueueCarries.j0 : Nat → List (S49) → List (List (S74)) → List Bool → List Bool → Bool → Option (Bool)
 | 0, _, _, _, _, _ => none
 | k + 1, x0, x1, x2, x3, x27 => if x27 = true then ((counterfoillaw12_awake.f k).bind fun t1115 => (some t1115)) else ((queue_New.f 0).bind fun bt1116 => (if bt1116.2.2.2.2 = 0 then (counterfoillaw12_QueueCarries.l0 k x1 x2 x3 x0 x0 0 0 bt1116.1 bt1116.2.1 bt1116.2.2.1 bt1116.2.2.2.1) else (some false)))
def counterfoillaw12_QueueCarries.l0 : Nat → List (List (S74)) → List Bool → List Bool → List (S49) → List (S49) → Int → Int → List (S99) → List (S74) → Int → Int → Option (Bool)
 | 0, _, _, _, _, _, _, _, _, _, _, _ => none
 | k + 1, x1, x2, x3, x11, x12, x13, x14, x1126000, x1126001, x1126002, x1126003 => if x14 < (x1.length : Int) then (counterfoillaw12_QueueCarries.j2 k x1 x2 x3 x11 x12 x13 x14 (decide (x14 < 30)) x1126000 x1126001 x1126002 x1126003) else (counterfoillaw12_QueueCarries.j2 k x1 x2 x3 x11 x12 x13 x14 false x1126000 x1126001 x1126002 x1126003)
def counterfoillaw12_QueueCarries.j2 : Nat → List (List (S74)) → List Bool → List Bool → List (S49) → List (S49) → Int → Int → Bool → List (S99) → List (S74) → Int → Int → Option (Bool)
 | 0, _, _, _, _, _, _, _, _, _, _, _, _ => none
 | k + 1, x1, x2, x3, x11, x12, x13, x14, x44, x1126000, x1126001, x1126002, x1126003 => if x44 = true then (if 0 ≤ x14 then (if x14 < (x1.length : Int) then (if ((rd_L3 x1 x14).length : Int) > 10 then (counterfoillaw12_QueueCarries.l0 k x1 x2 x3 x11 x12 x13 (wrap64 (x14 + 1)) x1126000 x1126001 x1126002 x1126003) else ((vols_Apply.f x11 (rd_L3 x1 x14)).bind fun bt1129 => (if bt1129.2 = 0 then ((queue_Add.f k x1126000 x1126001 x1126002 x1126003 (rd_L3 x1 x14)).bind fun bt1134 => (if bt1134.2.2.2.2 = 0 then (if x14 < (x2.length : Int) then (counterfoillaw12_QueueCarries.j3 k x1 x2 x3 bt1129.1 x12 x13 x14 (rdOf false x2 x14) bt1134.1 bt1134.2.1 bt1134.2.2.1 bt1134.2.2.2.1) else (counterfoillaw12_QueueCarries.j3 k x1 x2 x3 bt1129.1 x12 x13 x14 false bt1134.1 bt1134.2.1 bt1134.2.2.1 bt1134.2.2.2.1)) else (some false))) else (counterfoillaw12_QueueCarries.l0 k x1 x2 x3 x11 x12 x13 (wrap64 (x14 + 1)) x1126000 x1126001 x1126002 x1126003)))) else (none)) else (none)) else ((counterfoillaw12_awake.f k).bind fun t1126 => (some t1126))
def counterfoillaw12_QueueCarries.j3 : Nat → List (List (S74)) → List Bool → List Bool → List (S49) → List (S49) → Int → Int → Bool → List (S99) → List (S74) → Int → Int → Option (Bool)
 | 0, _, _, _, _, _, _, _, _, _, _, _, _ => none
 | k + 1, x1, x2, x3, x11, x12, x13, x14, x85, x1126000, x1126001, x1126002, x1126003 => if x85 = true then ((queue_Cut.f k x1126000 x1126001 x1126002 x1126003).bind fun bt1144 => (if bt1144.2.2.2.2 = 0 then (if bt1144.2.2.1 = bt1144.2.2.2.1 then (counterfoillaw12_QueueCarries.j4 k x1 x2 x3 x11 x12 x13 x14 bt1144.1 bt1144.2.1 bt1144.2.2.1 bt1144.2.2.2.1) else (some false)) else (some false))) else (counterfoillaw12_QueueCarries.j4 k x1 x2 x3 x11 x12 x13 x14 x1126000 x1126001 x1126002 x1126003)
def counterfoillaw12_QueueCarries.j4 : Nat → List (List (S74)) → List Bool → List Bool → List (S49) → List (S49) → Int → Int → List (S99) → List (S74) → Int → Int → Option (Bool)
 | 0, _, _, _, _, _, _, _, _, _, _, _ => none
 | k + 1, x1, x2, x3, x11, x12, x13, x14, x1126000, x1126001, x1126002, x1126003 => if x14 < (x3.length : Int) then (if 0 ≤ x14 then (if rdOf false x3 x14 = true then (counterfoillaw12_QueueCarries.j5 k x1 x2 x3 x11 x12 x13 x14 (decide ((x1126000.length : Int) > 0)) x1126000 x1126001 x1126002 x1126003) else (counterfoillaw12_QueueCarries.j5 k x1 x2 x3 x11 x12 x13 x14 false x1126000 x1126001 x1126002 x1126003)) else (none)) else (counterfoillaw12_QueueCarries.j5 k x1 x2 x3 x11 x12 x13 x14 false x1126000 x1126001 x1126002 x1126003)
def counterfoillaw12_QueueCarries.j5 : Nat → List (List (S74)) → List Bool → List Bool → List (S49) → List (S49) → Int → Int → Bool → List (S99) → List (S74) → Int → Int → Option (Bool)
 | 0, _, _, _, _, _, _, _, _, _, _, _, _ => none
 | k + 1, x1, x2, x3, x11, x12, x13, x14, x115, x1126000, x1126001, x1126002, x1126003 => if x115 = true then (if 0 < (x1126000.length : Int) then ((vols_Apply.f x12 ((rd_T99 x1126000 0).f2)).bind fun bt1156 => (if bt1156.2 = 0 then (if ((rd_T99 x1126000 0).f0) = x13 then (counterfoillaw12_QueueCarries.j6 k x1 x2 x3 x11 bt1156.1 x14 (decide (((rd_T99 x1126000 0).f1) ≤ x13)) x1126000 x1126001 x1126002 x1126003 ((rd_T99 x1126000 0).f0) ((rd_T99 x1126000 0).f1)) else (counterfoillaw12_QueueCarries.j6 k x1 x2 x3 x11 bt1156.1 x14 true x1126000 x1126001 x1126002 x1126003 ((rd_T99 x1126000 0).f0) ((rd_T99 x1126000 0).f1))) else (counterfoillaw12_QueueCarries.j6 k x1 x2 x3 x11 bt1156.1 x14 true x1126000 x1126001 x1126002 x1126003 ((rd_T99 x1126000 0).f0) ((rd_T99 x1126000 0).f1)))) else (none)) else (counterfoillaw12_QueueCarries.j7 k x1 x2 x3 x11 x12 x13 x14 x1126000 x1126001 x1126002 x1126003)
def counterfoillaw12_QueueCarries.j7 : Nat → List (List (S74)) → List Bool → List Bool → List (S49) → List (S49) → Int → Int → List (S99) → List (S74) → Int → Int → Option (Bool)
 | 0, _, _, _, _, _, _, _, _, _, _, _ => none
 | k + 1, x1, x2, x3, x11, x12, x13, x14, x1126000, x1126001, x1126002, x1126003 => (queue_All.f k x1126000 x1126001 x1126002 x1126003).bind fun t1170 => ((vols_Apply.f x12 t1170).bind fun bt1173 => (if bt1173.2 = 0 then ((vols_Same.f bt1173.1 x11).bind fun t1177 => (if t1177 = true then ((queue_Right.f k x1126000 x1126001 x1126002 x1126003).bind fun t1178 => (if t1178 = true then (counterfoillaw12_QueueCarries.l0 k x1 x2 x3 x11 x12 x13 (wrap64 (x14 + 1)) x1126000 x1126001 x1126002 x1126003) else (some false))) else (some false))) else (some false)))
def counterfoillaw12_QueueCarries.j6 : Nat → List (List (S74)) → List Bool → List Bool → List (S49) → List (S49) → Int → Bool → List (S99) → List (S74) → Int → Int → Int → Int → Option (Bool)
 | 0, _, _, _, _, _, _, _, _, _, _, _, _, _ => none
 | k + 1, x1, x2, x3, x11, x12, x14, x140, x1126000, x1126001, x1126002, x1126003, x1156000, x1156001 => if x140 = true then (some false) else ((queue_Done.f k x1126000 x1126001 x1126002 x1126003 x1156001).bind fun bt1160 => (if bt1160.2.2.2.2 = 0 then ((queue_Tail.f k bt1160.1 bt1160.2.1 bt1160.2.2.1 bt1160.2.2.2.1).bind fun t1169 => (if t1169 = x1156001 then (counterfoillaw12_QueueCarries.j7 k x1 x2 x3 x11 x12 x1156001 x14 bt1160.1 bt1160.2.1 bt1160.2.2.1 bt1160.2.2.2.1) else (some false))) else (some false)))
end
def counterfoillaw12_QueueCarries.f (k : Nat) (l0 : List (S49)) (l1 : List (List (S74))) (l2 : List Bool) (l3 : List Bool) : Option (Bool) := (counterfoilref07_Small.f k l0 ([] : List (S74))).bind fun t1113 => (if t1113 = true then ((counterfoilref07_Right.f k l0).bind fun t1114 => (counterfoillaw12_QueueCarries.j0 k l0 l1 l2 l3 (!t1114))) else (counterfoillaw12_QueueCarries.j0 k l0 l1 l2 l3 true))
def counterfoillaw12_QueueCarries.Pure : Prop := ∀ (l0 : List (S49)) (l1 : List (List (S74))) (l2 : List Bool) (l3 : List Bool), (l0.length * 32 ≤ 140737488351232 ∧ l0.length ≤ maxLen ∧ ∀ x ∈ l0, good49 x) → (l1.length * 24 ≤ 140737488351232 ∧ l1.length ≤ maxLen ∧ ∀ x ∈ l1, (fun xs : List (S74) => xs.length * 32 ≤ 140737488351232 ∧ xs.length ≤ maxLen ∧ ∀ x ∈ xs, good74 x) x) → (l2.length * 1 ≤ 140737488351232 ∧ l2.length ≤ maxLen ∧ ∀ x ∈ l2, (fun _ : Bool => True) x) → (l3.length * 1 ≤ 140737488351232 ∧ l3.length ≤ maxLen ∧ ∀ x ∈ l3, (fun _ : Bool => True) x) → ∃ k, counterfoillaw12_QueueCarries.f k l0 l1 l2 l3 = some true
end Go.Proofs.Ythdhkoeaadahaaa.P
