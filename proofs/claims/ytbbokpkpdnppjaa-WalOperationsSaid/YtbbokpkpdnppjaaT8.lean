/- A part of the proof of WalOperations. -/
import Derived.Test.YtbbokpkpdnppjaaT4
namespace Go.Proofs.Ytbbokpkpdnppjaa
open Go.RowKit Go.Proofs.YtbbokpkpdnppjaaW.PrintWords Go.Proofs.YtbbokpkpdnppjaaW.PrintLast Go.Proofs.YtbbokpkpdnppjaaW.PrintMore
set_option linter.unusedVariables false
set_option linter.unusedSimpArgs false
/-! ### The law: the log, the reference's log, and the function's boxes -/
theorem RefL.redisk {W W1 : World} {ok : Nat → Prop} {A0 A1 A6 : Option Addr} {c0 c1 c6 : Nat} {L : Lg} {D D' : Dk} {v4 : Value} (h : RefL W ok (.agg #[.slice A0 D.dur.length c0, .slice A1 D.pend.length c1, .int .i64 D.cnt, .bool D.failed, .int .i64 L.base, .int .i64 L.slot, .slice A6 L.recs.length c6, .int .i64 L.end_, .int .i64 L.synced]) L D)
  (hv : RefV W1 (New ok W W1) v4 D') (hb : Below W.heap.size W W1) : ∃ B0 d0 B1 d1, v4 = .agg #[.slice B0 D'.dur.length d0, .slice B1 D'.pend.length d1, .int .i64 D'.cnt, .bool D'.failed] ∧
   RefL W1 (New ok W W1) (.agg #[.slice B0 D'.dur.length d0, .slice B1 D'.pend.length d1, .int .i64 D'.cnt, .bool D'.failed, .int .i64 L.base, .int .i64 L.slot, .slice A6 L.recs.length c6, .int .i64 L.end_, .int .i64 L.synced]) L D' := by
 obtain ⟨C0, e0, C1, e1, C6, e6, e, h0, h1⟩ := h
 obtain ⟨B0, d0, B1, d1, rfl, _, _⟩ := hv.form
 injection e with e
 have e' := congrArg Array.toList e
 simp only [List.cons.injEq, Value.slice.injEq, true_and, and_true] at e'
 obtain ⟨_, _, rfl, rfl⟩ := e'
 refine ⟨B0, d0, B1, d1, by rw [List.length_map], B0, d0, B1, d1, A6, c6, by rw [List.length_map], hv, Kd.V_mono (Kd.V_step h1 (fun k _ hk => hb.block k hk)) (fun k hk => .inl hk)⟩
theorem RefL.part {W : World} {ok : Nat → Prop} {A0 A1 A6 : Option Addr} {c0 c1 c6 : Nat} {L : Lg} {D : Dk} (h : RefL W ok (.agg #[.slice A0 D.dur.length c0, .slice A1 D.pend.length c1, .int .i64 D.cnt, .bool D.failed, .int .i64 L.base, .int .i64 L.slot, .slice A6 L.recs.length c6, .int .i64 L.end_, .int .i64 L.synced]) L D) :
  RefV W ok (.agg #[.slice A0 D.dur.length c0, .slice A1 D.pend.length c1, .int .i64 D.cnt, .bool D.failed]) D ∧ Kd.V G.k73 73 W W.heap.size ok (.slice A6 L.recs.length c6) L.recs := by
 obtain ⟨C0, e0, C1, e1, C6, e6, e, h0, h1⟩ := h
 injection e with e
 have e' := congrArg Array.toList e
 simp only [List.cons.injEq, Value.slice.injEq, true_and, and_true] at e'
 obtain ⟨⟨rfl, rfl⟩, ⟨rfl, he1, rfl⟩, rfl, rfl⟩ := e'
 rw [List.length_map] at h0
 exact ⟨h0, h1⟩
theorem RefL.form {W : World} {ok : Nat → Prop} {v : Value} {L : Lg} {D : Dk} (h : RefL W ok v L D) : ∃ A0 c0 A1 c1 A6 c6, v = .agg #[.slice A0 D.dur.length c0, .slice A1 D.pend.length c1, .int .i64 D.cnt, .bool D.failed, .int .i64 L.base, .int .i64 L.slot, .slice A6 L.recs.length c6, .int .i64 L.end_, .int .i64 L.synced] := by
 obtain ⟨A0, c0, A1, c1, A6, c6, rfl, _, _⟩ := h
 exact ⟨A0, c0, A1, c1, A6, c6, by rw [List.length_map]⟩
def LW (w0 W : World) (bs : List (Nat × TypeId × Array Value)) (g gd : Nat) (A0 : Option Addr) (c0 : Nat) (A1 : Option Addr) (c1 : Nat) (A6 : Option Addr) (c6 : Nat) (Lr : Lg) (Dr : Dk) (L : Lg) (D : Dk) : Prop :=
 ∃ Q rok okk : Nat → Prop, LogS w0 W Q rok g gd L D ∧ (∀ k, rok k → w0.heap.size ≤ k) ∧ (∀ (i b : Nat) (t : TypeId) (cs : Array Value), bs[i]? = some (b, t, cs) → Q b ∧ ¬ rok b ∧ b ≠ g ∧ w0.heap.size ≤ b ∧ W.heap[b]? = some (.cells cs t (0, 0))) ∧ (∀ (i j : Nat) (x y : Nat × TypeId × Array Value), bs[i]? = some x → bs[j]? = some y → i ≠ j → x.1 ≠ y.1) ∧
  RefL W okk (.agg #[.slice A0 Dr.dur.length c0, .slice A1 Dr.pend.length c1, .int .i64 Dr.cnt, .bool Dr.failed, .int .i64 Lr.base, .int .i64 Lr.slot, .slice A6 Lr.recs.length c6, .int .i64 Lr.end_, .int .i64 Lr.synced]) Lr Dr ∧
  ∀ k, okk k → k < W.heap.size ∧ (k < w0.heap.size ∨ (Q k ∧ ¬ rok k ∧ k ≠ g ∧ ∀ (i b : Nat) (t : TypeId) (cs : Array Value), bs[i]? = some (b, t, cs) → k ≠ b))
section
variable {w0 W W1 : World} {bs : List (Nat × TypeId × Array Value)} {g gd : Nat} {A0 A1 A6 : Option Addr} {c0 c1 c6 : Nat} {Lr L L' : Lg} {Dr D D' : Dk}
theorem LogS.poke {Q rok : Nat → Prop} (h : LogS w0 W Q rok g gd L D) (b : Nat) (hb : Q b) (hw : w0.heap.size ≤ b) (hg : b ≠ g) (hr : ∀ k, rok k → k ≠ b) (j : Nat) (u : Value) : LogS w0 (W.setCell ⟨b, j, none⟩ u) Q rok g gd L D := by
 obtain ⟨hs, v, h1, h2, h3, h4, h5⟩ := h
 exact ⟨hs.poke b hb hw j u, v, (Below.heap_setCell W ⟨b, j, none⟩ u g (Ne.symm hg)).trans h1, Kd.N_far h2 (p := ⟨b, j, none⟩) hr u, h3, h4, h5⟩
theorem LogS.disk {Q rok : Nat → Prop} (h : LogS w0 W Q rok g gd L D) (hs : Sts w0 W1 Q [(gd, D')]) (hk : KeepP Q W W1) : LogS w0 W1 Q rok g gd L D' := by
 obtain ⟨_, v, h1, h2, h3, h4, h5⟩ := h
 exact ⟨hs, v, (hk g h4).trans h1, Kd.N_step h2 (fun k hr _ => hk k (h3 k hr).1), h3, h4, h5⟩
theorem LogS.lt {Q rok : Nat → Prop} (h : LogS w0 W Q rok g gd L D) : ∀ k, Q k → k < W.heap.size := h.1.lt
theorem LW.bel (h : LW w0 W bs g gd A0 c0 A1 c1 A6 c6 Lr Dr L D) : Below w0.heap.size w0 W := by
 obtain ⟨_, _, _, h, _⟩ := h
 exact h.1.bel
theorem LW.blk (h : LW w0 W bs g gd A0 c0 A1 c1 A6 c6 Lr Dr L D) (i : Nat) {b : Nat} {t : TypeId} {cs : Array Value} (hi : bs[i]? = some (b, t, cs)) : W.heap[b]? = some (.cells cs t (0, 0)) := by
 obtain ⟨_, _, _, _, _, h, _⟩ := h
 exact (h i b t cs hi).2.2.2.2
theorem LW.start {Q rok ok : Nat → Prop} (h : LogS w0 W Q rok g gd L D) (hr : ∀ k, rok k → w0.heap.size ≤ k) (hv : RefL W ok (.agg #[.slice A0 Dr.dur.length c0, .slice A1 Dr.pend.length c1, .int .i64 Dr.cnt, .bool Dr.failed, .int .i64 Lr.base, .int .i64 Lr.slot, .slice A6 Lr.recs.length c6, .int .i64 Lr.end_, .int .i64 Lr.synced]) Lr Dr)
  (ho : ∀ k, ok k → k < W.heap.size ∧ (k < w0.heap.size ∨ (Q k ∧ ¬ rok k ∧ k ≠ g))) : LW w0 W [] g gd A0 c0 A1 c1 A6 c6 Lr Dr L D :=
 ⟨Q, rok, ok, h, hr, fun i b t cs hi => by simp at hi, fun i j x y hi => by simp at hi, hv, fun k hk => ⟨(ho k hk).1, (ho k hk).2.imp id (fun h => ⟨h.1, h.2.1, h.2.2, fun i b t cs hi => by simp at hi⟩)⟩⟩
theorem LW.below (h : LW w0 W bs g gd A0 c0 A1 c1 A6 c6 Lr Dr L D) (hb : Below W.heap.size W W1) : LW w0 W1 bs g gd A0 c0 A1 c1 A6 c6 Lr Dr L D := by
 obtain ⟨Q, rok, okk, h1, h2, h3, h4, h5, h6⟩ := h
 exact ⟨Q, rok, okk, h1.step hb, h2, fun i b t cs hi => ⟨(h3 i b t cs hi).1, (h3 i b t cs hi).2.1, (h3 i b t cs hi).2.2.1, (h3 i b t cs hi).2.2.2.1, (hb.block b (h1.lt b (h3 i b t cs hi).1)).trans (h3 i b t cs hi).2.2.2.2⟩, h4, h5.below hb, fun k hk => ⟨Nat.lt_of_lt_of_le (h6 k hk).1 hb.size, (h6 k hk).2⟩⟩
theorem LW.tail {x : Nat × TypeId × Array Value} (h : LW w0 W (x :: bs) g gd A0 c0 A1 c1 A6 c6 Lr Dr L D) : LW w0 W bs g gd A0 c0 A1 c1 A6 c6 Lr Dr L D := by
 obtain ⟨Q, rok, okk, h1, h2, h3, h4, h5, h6⟩ := h
 exact ⟨Q, rok, okk, h1, h2, fun i b t cs hi => h3 (i + 1) b t cs (by simpa using hi), fun i j x y hi hj hij => h4 (i + 1) (j + 1) x y (by simpa using hi) (by simpa using hj) (by omega), h5, fun k hk => ⟨(h6 k hk).1, (h6 k hk).2.imp id (fun h => ⟨h.1, h.2.1, h.2.2.1, fun i b t cs hi => h.2.2.2 (i + 1) b t cs (by simpa using hi)⟩)⟩⟩
theorem LW.alloc (h : LW w0 W bs g gd A0 c0 A1 c1 A6 c6 Lr Dr L D) (t : TypeId) (cs : Array Value) : LW w0 (W.alloc (.cells cs t)) ((W.heap.size, t, cs) :: bs) g gd A0 c0 A1 c1 A6 c6 Lr Dr L D := by
 have hb : Below W.heap.size W (W.alloc (.cells cs t)) := below_alloc (Below.refl _ _) _
 have hw := h.bel.size
 obtain ⟨Q, rok, okk, h1, h2, h3, h4, h5, h6⟩ := h.below hb
 obtain ⟨Q', rok', okk', g1, g2, g3, g4, g5, g6⟩ := h
 have hro : ∀ k, rok' k → k < W.heap.size := fun k hk => g1.lt k (g1.2.choose_spec.2.2.1 k hk).1
 have hgl : g < W.heap.size := g1.lt g g1.2.choose_spec.2.2.2.1
 refine ⟨fun k => Q' k ∨ (W.heap.size ≤ k ∧ k < (W.alloc (.cells cs t)).heap.size), rok', okk', g1.fenced hb, g2, fun i b t' cs' hi => ?_, fun i j x y hi hj hij => ?_, g5.below hb, fun k hk => ⟨Nat.lt_of_lt_of_le (g6 k hk).1 hb.size, (g6 k hk).2.imp id (fun h => ⟨.inl h.1, h.2.1, h.2.2.1, fun i b t' cs' hi => ?_⟩)⟩⟩
 ·cases i with
  | zero =>
   simp only [List.getElem?_cons_zero, Option.some.injEq, Prod.mk.injEq] at hi
   obtain ⟨rfl, rfl, rfl⟩ := hi
   exact ⟨.inr ⟨Nat.le_refl _, by simp⟩, fun hk => by have := hro _ hk; omega, by omega, hw, heap_alloc_new W _⟩
  | succ i =>
   have hx := g3 i b t' cs' (by simpa using hi)
   exact ⟨.inl hx.1, hx.2.1, hx.2.2.1, hx.2.2.2.1, (hb.block b (g1.lt b hx.1)).trans hx.2.2.2.2⟩
 ·cases i with
  | zero =>
   simp only [List.getElem?_cons_zero, Option.some.injEq] at hi
   subst hi
   cases j with
   | zero => exact absurd rfl hij
   | succ j =>
    obtain ⟨b, t', cs'⟩ := y
    have := g1.lt b (g3 j b t' cs' (by simpa using hj)).1
    show W.heap.size ≠ b
    omega
  | succ i =>
   cases j with
   | zero =>
    simp only [List.getElem?_cons_zero, Option.some.injEq] at hj
    subst hj
    obtain ⟨b, t', cs'⟩ := x
    have := g1.lt b (g3 i b t' cs' (by simpa using hi)).1
    show b ≠ W.heap.size
    omega
   | succ j => exact g4 i j x y (by simpa using hi) (by simpa using hj) (by omega)
 ·cases i with
  | zero =>
   simp only [List.getElem?_cons_zero, Option.some.injEq, Prod.mk.injEq] at hi
   obtain ⟨rfl, rfl, rfl⟩ := hi
   have := (g6 k hk).1
   omega
  | succ i => exact h.2.2.2 i b t' cs' (by simpa using hi)
theorem LW.put (h : LW w0 W bs g gd A0 c0 A1 c1 A6 c6 Lr Dr L D) (i : Nat) {b : Nat} {t : TypeId} {cs : Array Value} (hi : bs[i]? = some (b, t, cs)) (j : Nat) (u : Value) : LW w0 (W.setCell ⟨b, j, none⟩ u) (bs.set i (b, t, cs.setIfInBounds j u)) g gd A0 c0 A1 c1 A6 c6 Lr Dr L D := by
 obtain ⟨Q, rok, okk, h1, h2, h3, h4, h5, h6⟩ := h
 have hbi := h3 i b t cs hi
 have hil : i < bs.length := (List.getElem?_eq_some_iff.1 hi).1
 have far : ∀ k, k ≠ b → (W.setCell ⟨b, j, none⟩ u).heap[k]? = W.heap[k]? := fun k hk => Below.heap_setCell W ⟨b, j, none⟩ u k hk
 have hkb : ∀ k, okk k → k ≠ b := fun k hk => (h6 k hk).2.elim (fun h => by have := hbi.2.2.2.1; omega) (fun h => h.2.2.2 i b t cs hi)
 have hset : ∀ (i' b' : Nat) (t' : TypeId) (cs' : Array Value), (bs.set i (b, t, cs.setIfInBounds j u))[i']? = some (b', t', cs') → (i' = i ∧ b' = b ∧ t' = t ∧ cs' = cs.setIfInBounds j u) ∨ (i' ≠ i ∧ bs[i']? = some (b', t', cs')) := fun i' b' t' cs' hx => by
  rw [List.getElem?_set] at hx
  by_cases e : i = i'
  ·subst e
   rw [if_pos rfl, if_pos hil] at hx
   simp only [Option.some.injEq, Prod.mk.injEq] at hx
   exact .inl ⟨rfl, hx.1.symm, hx.2.1.symm, hx.2.2.symm⟩
  ·rw [if_neg e] at hx
   exact .inr ⟨fun h => e h.symm, hx⟩
 refine ⟨Q, rok, okk, h1.poke b hbi.1 hbi.2.2.2.1 hbi.2.2.1 (fun k hk e => hbi.2.1 (e ▸ hk)) j u, h2, fun i' b' t' cs' hx => ?_, fun i1 j1 x y hx hy hne => ?_, h5.step (fun k hk _ => far k (hkb k hk)), fun k hk => ⟨by rw [World.size_setCell]; exact (h6 k hk).1, (h6 k hk).2.imp id (fun h => ⟨h.1, h.2.1, h.2.2.1, fun i' b' t' cs' hx => ?_⟩)⟩⟩
 ·rcases hset i' b' t' cs' hx with ⟨rfl, rfl, rfl, rfl⟩ | ⟨hne, hx⟩
  ·exact ⟨hbi.1, hbi.2.1, hbi.2.2.1, hbi.2.2.2.1, blk_put hbi.2.2.2.2 j u rfl⟩
  ·have hy := h3 i' b' t' cs' hx
   exact ⟨hy.1, hy.2.1, hy.2.2.1, hy.2.2.2.1, (far b' (h4 i' i _ _ hx hi hne)).trans hy.2.2.2.2⟩
 ·obtain ⟨b1, t1, cs1⟩ := x
  obtain ⟨b2, t2, cs2⟩ := y
  rcases hset i1 b1 t1 cs1 hx with ⟨rfl, rfl, rfl, rfl⟩ | ⟨hn1, hx1⟩
  ·rcases hset j1 b2 t2 cs2 hy with ⟨rfl, rfl, rfl, rfl⟩ | ⟨hn2, hy1⟩
   ·exact absurd rfl hne
   ·exact show (b1, t1, cs).1 ≠ (b2, t2, cs2).1 from h4 i1 j1 _ _ hi hy1 hne
  ·rcases hset j1 b2 t2 cs2 hy with ⟨rfl, rfl, rfl, rfl⟩ | ⟨hn2, hy1⟩
   ·exact show (b1, t1, cs1).1 ≠ (b2, t2, cs).1 from h4 i1 j1 _ _ hx1 hi hne
   ·exact h4 i1 j1 _ _ hx1 hy1 hne
 ·rcases hset i' b' t' cs' hx with ⟨rfl, rfl, rfl, rfl⟩ | ⟨hn1, hx1⟩
  ·exact hkb k hk
  ·exact h.2.2.2 i' b' t' cs' hx1
theorem LW.puts (vs : List (Nat × Value)) : ∀ {W : World} {bs : List (Nat × TypeId × Array Value)} (h : LW w0 W bs g gd A0 c0 A1 c1 A6 c6 Lr Dr L D) (i : Nat) {b : Nat} {t : TypeId} {cs : List Value} (hi : bs[i]? = some (b, t, cs.toArray)), LW w0 (vs.foldl (fun W p => W.setCell ⟨b, p.1, none⟩ p.2) W) (bs.set i (b, t, (vs.foldl (fun c p => c.set p.1 p.2) cs).toArray)) g gd A0 c0 A1 c1 A6 c6 Lr Dr L D := by
 induction vs with
 | nil =>
  intro W bs h i b t cs hi
  have e : bs.set i (b, t, cs.toArray) = bs := by
   apply List.ext_getElem?
   intro j
   rw [List.getElem?_set]
   by_cases hj : i = j
   ·subst hj
    rw [if_pos rfl, if_pos (List.getElem?_eq_some_iff.1 hi).1, hi]
   ·rw [if_neg hj]
  show LW w0 W (bs.set i (b, t, cs.toArray)) g gd A0 c0 A1 c1 A6 c6 Lr Dr L D
  rw [e]
  exact h
 | cons p vs ih =>
  intro W bs h i b t cs hi
  have hl := (List.getElem?_eq_some_iff.1 hi).1
  have h1 := h.put i hi p.1 p.2
  rw [List.setIfInBounds_toArray] at h1
  have h2 := ih h1 i (b := b) (t := t) (cs := cs.set p.1 p.2) (by rw [List.getElem?_set, if_pos rfl, if_pos hl])
  rw [List.set_set] at h2
  exact h2
theorem LW.turned {Q rok okk Q' rok' : Nat → Prop} {g' : Nat} (h1 : LogS w0 W Q rok g gd L D) (h2 : ∀ k, rok k → w0.heap.size ≤ k) (h3 : ∀ (i b : Nat) (t : TypeId) (cs : Array Value), bs[i]? = some (b, t, cs) → Q b ∧ ¬ rok b ∧ b ≠ g ∧ w0.heap.size ≤ b ∧ W.heap[b]? = some (.cells cs t (0, 0))) (h4 : ∀ (i j : Nat) (x y : Nat × TypeId × Array Value), bs[i]? = some x → bs[j]? = some y → i ≠ j → x.1 ≠ y.1)
  (h5 : RefL W okk (.agg #[.slice A0 Dr.dur.length c0, .slice A1 Dr.pend.length c1, .int .i64 Dr.cnt, .bool Dr.failed, .int .i64 Lr.base, .int .i64 Lr.slot, .slice A6 Lr.recs.length c6, .int .i64 Lr.end_, .int .i64 Lr.synced]) Lr Dr) (h6 : ∀ k, okk k → k < W.heap.size ∧ (k < w0.heap.size ∨ (Q k ∧ ¬ rok k ∧ k ≠ g ∧ ∀ (i b : Nat) (t : TypeId) (cs : Array Value), bs[i]? = some (b, t, cs) → k ≠ b)))
  (hl : LogS w0 W1 Q' rok' g' gd L' D') (hq : ∀ k, Q k → Q' k) (hr : ∀ k, rok' k → rok k ∨ W.heap.size ≤ k) (hg : g' = g ∨ W.heap.size ≤ g') (hk : ∀ k, Q k → ¬ rok k → k ≠ g → W1.heap[k]? = W.heap[k]?) : LW w0 W1 bs g' gd A0 c0 A1 c1 A6 c6 Lr Dr L' D' := by
 have hz := h1.1.bel.size
 refine ⟨Q', rok', okk, hl, fun k hk => (hr k hk).elim (h2 k) (fun h => Nat.le_trans hz h), fun i b t cs hi => ?_, h4, h5.step (fun k ho hlt => ?_), fun k hk => ⟨(h6 k hk).2.elim (fun h => Nat.lt_of_lt_of_le h hl.1.bel.size) (fun h => hl.lt k (hq k h.1)), (h6 k hk).2.imp id (fun h => ⟨hq k h.1, ?_, ?_, h.2.2.2⟩)⟩⟩
 ·obtain ⟨x1, x2, x3, x4, x5⟩ := h3 i b t cs hi
  have hlt := h1.lt b x1
  exact ⟨hq b x1, fun hb => (hr b hb).elim x2 (fun h => by omega), hg.elim (fun e => e ▸ x3) (fun h => by omega), x4, (hk b x1 x2 x3).trans x5⟩
 ·rcases (h6 k ho).2 with h | h
  ·exact (hl.1.bel.block k h).trans (h1.1.bel.block k h).symm
  ·exact hk k h.1 h.2.1 h.2.2.1
 ·exact fun hb => (hr k hb).elim h.2.1 (fun h' => by have := (h6 k hk).1; omega)
 ·exact hg.elim (fun e => e ▸ h.2.2.1) (fun h' => by have := (h6 k hk).1; omega)
theorem LW.getLog (h : LW w0 W bs g gd A0 c0 A1 c1 A6 c6 Lr Dr L D) : ∃ Q rok, LogS w0 W Q rok g gd L D ∧ (∀ W1 L' D', LogPost w0 W Q rok g gd L' D' W1 → LW w0 W1 bs g gd A0 c0 A1 c1 A6 c6 Lr Dr L' D') ∧
  (∀ W1 D', Sts w0 W1 Q [(gd, D')] → KeepP Q W W1 → LW w0 W1 bs g gd A0 c0 A1 c1 A6 c6 Lr Dr L D') ∧
  (∀ W1 g' Q' rok' L' D', (∀ k, Q k → Q' k) → (∀ k, rok' k → W.heap.size ≤ k) → LogS w0 W1 Q' rok' g' gd L' D' → W.heap.size ≤ g' → KeepP Q W W1 → LW w0 W1 bs g' gd A0 c0 A1 c1 A6 c6 Lr Dr L' D') := by
 obtain ⟨Q, rok, okk, h1, h2, h3, h4, h5, h6⟩ := h
 have hgl : g < W.heap.size := h1.lt g h1.2.choose_spec.2.2.2.1
 refine ⟨Q, rok, h1, fun W1 L' D' hp => ?_, fun W1 D' hs hk => ?_, fun W1 g' Q' rok' L' D' hq hr hl hg hk => ?_⟩
 ·obtain ⟨Q', rok', hq, hr, hl, hk⟩ := hp
  exact LW.turned h1 h2 h3 h4 h5 h6 hl hq hr (.inl rfl) (fun k q1 q2 q3 => hk k ⟨q1, q2, q3⟩)
 ·exact LW.turned h1 h2 h3 h4 h5 h6 (h1.disk hs hk) (fun k h => h) (fun k h => .inl h) (.inl rfl) (fun k q1 q2 q3 => hk k q1)
 ·exact LW.turned h1 h2 h3 h4 h5 h6 hl hq (fun k h => .inr (hr k h)) (.inr hg) (fun k q1 q2 q3 => hk k q1)
theorem LW.getRef (h : LW w0 W bs g gd A0 c0 A1 c1 A6 c6 Lr Dr L D) : ∃ okk : Nat → Prop, RefL W okk (.agg #[.slice A0 Dr.dur.length c0, .slice A1 Dr.pend.length c1, .int .i64 Dr.cnt, .bool Dr.failed, .int .i64 Lr.base, .int .i64 Lr.slot, .slice A6 Lr.recs.length c6, .int .i64 Lr.end_, .int .i64 Lr.synced]) Lr Dr ∧ (∀ k, k < w0.heap.size → okk k) ∧
  ∀ W1 v' Lr' Dr', RefL W1 (New okk W W1) v' Lr' Dr' → Below W.heap.size W W1 → ∃ B0 d0 B1 d1 B6 d6, v' = .agg #[.slice B0 Dr'.dur.length d0, .slice B1 Dr'.pend.length d1, .int .i64 Dr'.cnt, .bool Dr'.failed, .int .i64 Lr'.base, .int .i64 Lr'.slot, .slice B6 Lr'.recs.length d6, .int .i64 Lr'.end_, .int .i64 Lr'.synced] ∧ LW w0 W1 bs g gd B0 d0 B1 d1 B6 d6 Lr' Dr' L D := by
 have hw := h.bel.size
 obtain ⟨Q, rok, okk, h1, h2, h3, h4, h5, h6⟩ := h
 have hro : ∀ k, rok k → k < W.heap.size := fun k hk => h1.lt k (h1.2.choose_spec.2.2.1 k hk).1
 have hgl : g < W.heap.size := h1.lt g h1.2.choose_spec.2.2.2.1
 refine ⟨fun k => okk k ∨ k < w0.heap.size, h5.mono (fun k hk => .inl hk), fun k hk => .inr hk, fun W1 v' Lr' Dr' hv hb => ?_⟩
 obtain ⟨B0, d0, B1, d1, B6, d6, rfl⟩ := hv.form
 refine ⟨B0, d0, B1, d1, B6, d6, rfl, fun k => Q k ∨ (W.heap.size ≤ k ∧ k < W1.heap.size), rok, _, h1.fenced hb, h2, fun i b t cs hi => ?_, h4, hv, fun k hk => ?_⟩
 ·have hx := h3 i b t cs hi
  exact ⟨.inl hx.1, hx.2.1, hx.2.2.1, hx.2.2.2.1, (hb.block b (h1.lt b hx.1)).trans hx.2.2.2.2⟩
 ·rcases hk with (hk | hk) | hk
  ·exact ⟨Nat.lt_of_lt_of_le (h6 k hk).1 hb.size, (h6 k hk).2.imp id (fun h => ⟨.inl h.1, h.2⟩)⟩
  ·exact ⟨Nat.lt_of_lt_of_le hk (Nat.le_trans hw hb.size), .inl hk⟩
  ·exact ⟨hk.2, .inr ⟨.inr hk, fun h => by have := hro k h; omega, by omega, fun i b t cs hi => by have := h1.lt b (h3 i b t cs hi).1; omega⟩⟩
end
end Go.Proofs.Ytbbokpkpdnppjaa
