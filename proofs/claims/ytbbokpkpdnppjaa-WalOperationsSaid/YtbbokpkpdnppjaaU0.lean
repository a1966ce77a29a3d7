/- Short words for regions that draw their order. -/
import Derived.Test.YtbbokpkpdnppjaaWLast
namespace Go.Proofs.Ytbbokpkpdnppjaa
open Go.RowKit Go.Proofs.YtbbokpkpdnppjaaW.PrintLast
theorem pS : (∀ (a : Act) (v : Value), a.put none v = a) ∧ (∀ (a : Act) (n : Nat) (v : Value), a.put (some n) v = { a with tmps := a.tmps.setIfInBounds n v }) ∧ (∀ (l : List Value) (n : Nat) (v : Value), l.toArray.setIfInBounds n v = (l.set n v).toArray) ∧ (∀ (x v : Value) (l : List Value), (x :: l).set 0 v = v :: l) ∧ (∀ (x v : Value) (l : List Value) (n : Nat), (x :: l).set (n + 1) v = x :: l.set n v) ∧ (∀ n : Int, IntKind.i64.wrap n = wrap64 n) ∧ (∀ n : Int, IntKind.i32.wrap n = wrap32 n) :=
 ⟨fun _ _ => rfl, fun _ _ _ => rfl, fun _ _ _ => List.setIfInBounds_toArray .., fun _ _ _ => rfl, fun _ _ _ _ => rfl, i64_w, i32_w⟩
def bt (n m : Nat) : Array Bool := ((List.range n).map (fun i => m.testBit i)).toArray
section
variable {P : Program} {ops : Array Oper} {Q : Exit → Act → World → Prop} {md : Region.Mode} {S : World → Prop} {ds : List Nat} {oi : Oper} {fuel : Nat} {l : Array Bool} {a : Act} {w : World}
theorem pu (i : Nat) (N : Option Tmp) (v : Value) (l' : Array Bool) (hc : anyB md ops l l' i = true) (hy : ∀ w, (execOp a.eval oi).run P w = .ok (.value v) w) (a' : Act) (ha : a.put N v = a') (h : wpAnyLast P md ops Q S ds fuel l' a' w)
  (hi : ops[i]? = some oi := by rfl) (hN : oi.dst = N := by rfl) (hw : Region.wanted oi (yielded ops a.tmps) = true := by rfl) (hQ : ∀ c a w, Q (.panic c) (a.put oi.dst v) w → Q (.panic c) a w := by exact fun _ _ _ h => h) : wpAnyLast P md ops Q S ds (fuel + 1) l a w :=
 pure_ l' hi hN hc hQ (Or.inl ⟨hw, hy⟩) ha h
theorem tk (i : Nat) (N : Option Tmp) (v : Value) (l' : Array Bool) (hc : takeB md ops ds l l' i = true) (hS : S w) (hy : ∀ w, S w → (execOp a.eval oi).run P w = .ok (.value v) w) (a' : Act) (ha : a.put N v = a') (h : wpAnyLast P md ops Q S ds fuel l' a' w)
  (hi : ops[i]? = some oi := by rfl) (hN : oi.dst = N := by rfl) (hw : Region.wanted oi (yielded ops a.tmps) = true := by rfl) (hQ : ∀ c a w, Q (.panic c) (a.put oi.dst v) w → Q (.panic c) a w := by exact fun _ _ _ h => h) : wpAnyLast P md ops Q S ds (fuel + 1) l a w :=
 take_ l' hi hN hc hQ (Or.inl ⟨hw, hy⟩) hS ha h
end
end Go.Proofs.Ytbbokpkpdnppjaa
