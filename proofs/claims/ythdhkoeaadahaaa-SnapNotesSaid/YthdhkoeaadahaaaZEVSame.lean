-- PACKED by wip/kit/pack.py: what the law's proof uses of EVSame (printed words and texts of this seat)
import Derived.Test.YthdhkoeaadahaaaZEVGet
import Derived.RegionCalls
namespace Go.Proofs.Ythdhkoeaadahaaa.P
open Go.RowKit Go.Proofs.YthdhkoeaadahaaaW.PrintWords Go.Proofs.YthdhkoeaadahaaaW.PrintLast Go.Proofs.YthdhkoeaadahaaaW.PrintMore
attribute [local go_sem] Oper.semAt_some
set_option linter.unusedVariables false
set_option linter.unusedSimpArgs false
def eqL (a b : List ByteArray) : Bool := decide (a = b)
theorem eqL_len {a b : List ByteArray} (h : a.length ≠ b.length) : eqL a b = false := decide_eq_false (fun e => h (by rw [e]))
theorem eqL_cons (x y : ByteArray) (a b : List ByteArray) (h : x = y) : eqL (x :: a) (y :: b) = eqL a b := by
  subst h
  unfold eqL
  simp
theorem eqL_ne (x y : ByteArray) (a b : List ByteArray) (h : x ≠ y) : eqL (x :: a) (y :: b) = false := decide_eq_false (fun e => h (List.cons.inj e).1)
def eqV (x y : S49) : Bool := if x.f0 = y.f0 then eqL x.f1 y.f1 else false
def eqVs : List S49 → List S49 → Bool
  | [], [] => true
  | x :: l, y :: m => eqV x y && eqVs l m
  | _, _ => false
theorem eqVs_len : ∀ {l m : List S49}, l.length ≠ m.length → eqVs l m = false
  | [], [], h => absurd rfl h
  | [], _ :: _, _ => rfl
  | _ :: _, [], _ => rfl
  | x :: l, y :: m, h => by
    rw [eqVs, eqVs_len (l := l) (m := m) (fun e => h (by rw [List.length_cons, List.length_cons, e])), Bool.and_false]
end Go.Proofs.Ythdhkoeaadahaaa.P
