/- A part of the proof of WalOperations. -/
import Derived.Test.YtbbokpkpdnppjaaWWords
import Derived.Test.YtbbokpkpdnppjaaWMore
namespace Go.Proofs.Ytbbokpkpdnppjaa
open Go.RowKit Go.Proofs.YtbbokpkpdnppjaaW.PrintWords Go.Proofs.YtbbokpkpdnppjaaW.PrintLast Go.Proofs.YtbbokpkpdnppjaaW.PrintMore
set_option linter.unusedVariables false
set_option linter.unusedSimpArgs false
def BX (w wk : World) (bs : List (Nat × TypeId × Array Value)) : Prop := Below w.heap.size w wk ∧ (∀ (i b : Nat) (t : TypeId) (cs : Array Value), bs[i]? = some (b, t, cs) → w.heap.size ≤ b ∧ wk.heap[b]? = some (.cells cs t (0, 0))) ∧ (∀ (i j : Nat) (x y : Nat × TypeId × Array Value), bs[i]? = some x → bs[j]? = some y → i ≠ j → x.1 ≠ y.1)
section
variable {w wk wl : World} {bs : List (Nat × TypeId × Array Value)}
theorem BX.start (w : World) : BX w w [] := ⟨Below.refl _ _, fun i b t cs h => by simp at h, fun i j x y h => by simp at h⟩
theorem BX.blk (h : BX w wk bs) (i : Nat) {b : Nat} {t : TypeId} {cs : Array Value} (hi : bs[i]? = some (b, t, cs)) : wk.heap[b]? = some (.cells cs t (0, 0)) := (h.2.1 i b t cs hi).2
theorem BX.below (h : BX w wk bs) (hb : Below wk.heap.size wk wl) : BX w wl bs := ⟨below_step h.1 hb, fun i b t cs hi => ⟨(h.2.1 i b t cs hi).1, (hb.block b (blk_lt (h.2.1 i b t cs hi).2)).trans (h.2.1 i b t cs hi).2⟩, h.2.2⟩
theorem BX.alloc (h : BX w wk bs) (t : TypeId) (cs : Array Value) : BX w (wk.alloc (.cells cs t)) ((wk.heap.size, t, cs) :: bs) := by
 have hb : Below wk.heap.size wk (wk.alloc (.cells cs t)) := below_alloc (Below.refl _ _) _
 have hlt : ∀ (i b : Nat) (t : TypeId) (cs : Array Value), bs[i]? = some (b, t, cs) → b < wk.heap.size := fun i b t cs hi => blk_lt (h.2.1 i b t cs hi).2
 have hw := h.1.size
 obtain ⟨h1, h2, h3⟩ := h.below hb
 refine ⟨h1, fun i b t' cs' hi => ?_, fun i j x y hi hj hij => ?_⟩
 ·cases i with
  | zero =>
   simp only [List.getElem?_cons_zero, Option.some.injEq, Prod.mk.injEq] at hi
   obtain ⟨rfl, rfl, rfl⟩ := hi
   exact ⟨hw, heap_alloc_new wk _⟩
  | succ i => exact h2 i b t' cs' (by simpa using hi)
 ·cases i with
  | zero =>
   simp only [List.getElem?_cons_zero, Option.some.injEq] at hi
   subst hi
   cases j with
   | zero => exact absurd rfl hij
   | succ j =>
    obtain ⟨b, t', cs'⟩ := y
    have := hlt j b t' cs' (by simpa using hj)
    show wk.heap.size ≠ b
    omega
  | succ i =>
   cases j with
   | zero =>
    simp only [List.getElem?_cons_zero, Option.some.injEq] at hj
    subst hj
    obtain ⟨b, t', cs'⟩ := x
    have := hlt i b t' cs' (by simpa using hi)
    show b ≠ wk.heap.size
    omega
   | succ j => exact h3 i j x y (by simpa using hi) (by simpa using hj) (by omega)
theorem BX.put (h : BX w wk bs) (i : Nat) {b : Nat} {t : TypeId} {cs : Array Value} (hi : bs[i]? = some (b, t, cs)) (j : Nat) (u : Value) : BX w (wk.setCell ⟨b, j, none⟩ u) (bs.set i (b, t, cs.setIfInBounds j u)) := by
 obtain ⟨h1, h2, h3⟩ := h
 have hbi := h2 i b t cs hi
 have hil : i < bs.length := (List.getElem?_eq_some_iff.1 hi).1
 have hset : ∀ (i' : Nat) (x : Nat × TypeId × Array Value), (bs.set i (b, t, cs.setIfInBounds j u))[i']? = some x → (i' = i ∧ x = (b, t, cs.setIfInBounds j u)) ∨ (i' ≠ i ∧ bs[i']? = some x) := fun i' x hx => by
  rw [List.getElem?_set] at hx
  by_cases e : i = i'
  ·subst e
   rw [if_pos rfl, if_pos hil] at hx
   exact .inl ⟨rfl, (Option.some.inj hx).symm⟩
  ·rw [if_neg e] at hx
   exact .inr ⟨fun h => e h.symm, hx⟩
 refine ⟨h1.setCell hbi.1 u, fun i' b' t' cs' hx => ?_, fun i1 j1 x y hx hy hne => ?_⟩
 ·rcases hset i' _ hx with ⟨rfl, e⟩ | ⟨hne, hx⟩
  ·simp only [Prod.mk.injEq] at e
   obtain ⟨rfl, rfl, rfl⟩ := e
   exact ⟨hbi.1, blk_put hbi.2 j u rfl⟩
  ·exact ⟨(h2 i' b' t' cs' hx).1, (Below.heap_setCell wk ⟨b, j, none⟩ u b' (h3 i' i _ _ hx hi hne)).trans (h2 i' b' t' cs' hx).2⟩
 ·rcases hset i1 _ hx with ⟨rfl, rfl⟩ | ⟨hn1, hx1⟩
  ·rcases hset j1 _ hy with ⟨rfl, rfl⟩ | ⟨hn2, hy1⟩
   ·exact absurd rfl hne
   ·exact show (b, t, cs).1 ≠ y.1 from h3 _ j1 _ _ hi hy1 hne
  ·rcases hset j1 _ hy with ⟨rfl, rfl⟩ | ⟨hn2, hy1⟩
   ·exact show x.1 ≠ (b, t, cs).1 from h3 i1 _ _ _ hx1 hi hne
   ·exact h3 i1 j1 _ _ hx1 hy1 hne
theorem BX.puts (vs : List (Nat × Value)) : ∀ {wk : World} {bs : List (Nat × TypeId × Array Value)} (h : BX w wk bs) (i : Nat) {b : Nat} {t : TypeId} {cs : List Value} (hi : bs[i]? = some (b, t, cs.toArray)), BX w (vs.foldl (fun W p => W.setCell ⟨b, p.1, none⟩ p.2) wk) (bs.set i (b, t, (vs.foldl (fun c p => c.set p.1 p.2) cs).toArray)) := by
 induction vs with
 | nil =>
  intro wk bs h i b t cs hi
  have e : bs.set i (b, t, cs.toArray) = bs := by
   apply List.ext_getElem?
   intro j
   rw [List.getElem?_set]
   by_cases hj : i = j
   ·subst hj
    rw [if_pos rfl, if_pos (List.getElem?_eq_some_iff.1 hi).1, hi]
   ·rw [if_neg hj]
  show BX w wk (bs.set i (b, t, cs.toArray))
  rw [e]
  exact h
 | cons p vs ih =>
  intro wk bs h i b t cs hi
  have hl := (List.getElem?_eq_some_iff.1 hi).1
  have h1 := h.put i hi p.1 p.2
  rw [List.setIfInBounds_toArray] at h1
  have h2 := ih h1 i (b := b) (t := t) (cs := cs.set p.1 p.2) (by rw [List.getElem?_set, if_pos rfl, if_pos hl])
  rw [List.set_set] at h2
  exact h2
end
theorem far_puts {b k : Nat} (hk : k ≠ b) (vs : List (Nat × Value)) : ∀ wk : World, (vs.foldl (fun W p => W.setCell ⟨b, p.1, none⟩ p.2) wk).heap[k]? = wk.heap[k]? := by
 induction vs with
 | nil => exact fun _ => rfl
 | cons p vs ih => exact fun wk => (ih _).trans (Below.heap_setCell wk ⟨b, p.1, none⟩ p.2 k hk)
end Go.Proofs.Ytbbokpkpdnppjaa
