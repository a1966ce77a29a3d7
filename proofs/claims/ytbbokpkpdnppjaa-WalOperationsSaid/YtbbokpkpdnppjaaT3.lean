/- A part of the proof of WalOperations. -/
import Derived.Test.YtbbokpkpdnppjaaT1
import Derived.Test.YtbbokpkpdnppjaaV8
namespace Go.Proofs.Ytbbokpkpdnppjaa
open Go.RowKit Go.Proofs.YtbbokpkpdnppjaaW.PrintWords Go.Proofs.YtbbokpkpdnppjaaW.PrintLast Go.Proofs.YtbbokpkpdnppjaaW.PrintMore
set_option linter.unusedVariables false
set_option linter.unusedSimpArgs false
/-! ### The reference's log -/
def RefL (w : World) (ok : Nat → Prop) (v : Value) (L : Lg) (D : Dk) : Prop := ∃ A0 c0 A1 c1 A6 c6, v = .agg #[.slice A0 D.dur.length c0, .slice A1 (D.pend.map toS).length c1, .int .i64 D.cnt, .bool D.failed, .int .i64 L.base, .int .i64 L.slot, .slice A6 L.recs.length c6, .int .i64 L.end_, .int .i64 L.synced] ∧ RefV w ok (.agg #[.slice A0 D.dur.length c0, .slice A1 (D.pend.map toS).length c1, .int .i64 D.cnt, .bool D.failed]) D ∧ Kd.V G.k73 73 w w.heap.size ok (.slice A6 L.recs.length c6) L.recs
theorem RefL.below {w w' : World} {ok : Nat → Prop} {v : Value} {L : Lg} {D : Dk} (h : RefL w ok v L D) (hb : Below w.heap.size w w') : RefL w' ok v L D := by
 obtain ⟨A0, c0, A1, c1, A6, c6, e, h0, h1⟩ := h
 exact ⟨A0, c0, A1, c1, A6, c6, e, h0.below hb, Kd.V_step h1 (fun k _ hk => hb.block k hk)⟩
theorem RefL.step {w w' : World} {ok : Nat → Prop} {v : Value} {L : Lg} {D : Dk} (h : RefL w ok v L D) (hm : ∀ k, ok k → k < w.heap.size → w'.heap[k]? = w.heap[k]?) : RefL w' ok v L D := by
 obtain ⟨A0, c0, A1, c1, A6, c6, e, h0, h1⟩ := h
 exact ⟨A0, c0, A1, c1, A6, c6, e, h0.step hm, Kd.V_step h1 hm⟩
theorem RefL.mono {w : World} {ok ok' : Nat → Prop} {v : Value} {L : Lg} {D : Dk} (h : RefL w ok v L D) (hk : ∀ k, ok k → ok' k) : RefL w ok' v L D := by
 obtain ⟨A0, c0, A1, c1, A6, c6, e, h0, h1⟩ := h
 exact ⟨A0, c0, A1, c1, A6, c6, e, h0.mono hk, Kd.V_mono h1 hk⟩
def RS (w wk : World) (ok : Nat → Prop) (bs : List (Nat × TypeId × Array Value)) (A0 : Option Addr) (c0 : Nat) (A1 : Option Addr) (c1 : Nat) (D : Dk) (A6 : Option Addr) (c6 : Nat) (rs : List G.S73) : Prop :=
 Below w.heap.size w wk ∧ (∀ (i b : Nat) (t : TypeId) (cs : Array Value), bs[i]? = some (b, t, cs) → w.heap.size ≤ b ∧ wk.heap[b]? = some (.cells cs t (0, 0))) ∧ (∀ (i j : Nat) (x y : Nat × TypeId × Array Value), bs[i]? = some x → bs[j]? = some y → i ≠ j → x.1 ≠ y.1) ∧
 ∃ okk, RefV wk okk (.agg #[.slice A0 D.dur.length c0, .slice A1 D.pend.length c1, .int .i64 D.cnt, .bool D.failed]) D ∧ Kd.V G.k73 73 wk wk.heap.size okk (.slice A6 rs.length c6) rs ∧ ∀ k, okk k → (ok k ∨ w.heap.size ≤ k) ∧ k < wk.heap.size ∧ ∀ (i b : Nat) (t : TypeId) (cs : Array Value), bs[i]? = some (b, t, cs) → k ≠ b
section
variable {w wk : World} {ok : Nat → Prop} {bs : List (Nat × TypeId × Array Value)} {A0 A1 A6 : Option Addr} {c0 c1 c6 : Nat} {D : Dk} {rs : List G.S73}
theorem RS.bel (h : RS w wk ok bs A0 c0 A1 c1 D A6 c6 rs) : Below w.heap.size w wk := h.1
theorem RS.blk (h : RS w wk ok bs A0 c0 A1 c1 D A6 c6 rs) (i : Nat) {b : Nat} {t : TypeId} {cs : Array Value} (hi : bs[i]? = some (b, t, cs)) : wk.heap[b]? = some (.cells cs t (0, 0)) := (h.2.1 i b t cs hi).2
theorem RS.below {wl : World} (h : RS w wk ok bs A0 c0 A1 c1 D A6 c6 rs) (hb : Below wk.heap.size wk wl) : RS w wl ok bs A0 c0 A1 c1 D A6 c6 rs := by
 obtain ⟨h1, h2, h3, okk, h4, h5, h6⟩ := h
 exact ⟨below_step h1 hb, fun i b t cs hi => ⟨(h2 i b t cs hi).1, (hb.block b (blk_lt (h2 i b t cs hi).2)).trans (h2 i b t cs hi).2⟩, h3, okk, h4.below hb, Kd.V_step h5 (fun k _ hk => hb.block k hk), fun k hk => ⟨(h6 k hk).1, Nat.lt_of_lt_of_le (h6 k hk).2.1 hb.size, (h6 k hk).2.2⟩⟩
theorem RS.alloc (h : RS w wk ok bs A0 c0 A1 c1 D A6 c6 rs) (t : TypeId) (cs : Array Value) : RS w (wk.alloc (.cells cs t)) ok ((wk.heap.size, t, cs) :: bs) A0 c0 A1 c1 D A6 c6 rs := by
 have hb : Below wk.heap.size wk (wk.alloc (.cells cs t)) := below_alloc (Below.refl _ _) _
 have hlt : ∀ (i b : Nat) (t : TypeId) (cs : Array Value), bs[i]? = some (b, t, cs) → b < wk.heap.size := fun i b t cs hi => blk_lt (h.2.1 i b t cs hi).2
 have hw := h.1.size
 obtain ⟨h1, h2, h3, okk, h4, h5, h6⟩ := h.below hb
 obtain ⟨_, _, _, okk', h4', h5', h6'⟩ := h
 refine ⟨h1, fun i b t' cs' hi => ?_, fun i j x y hi hj hij => ?_, okk', h4'.below hb, Kd.V_step h5' (fun k _ hk => hb.block k hk), fun k hk => ⟨(h6' k hk).1, Nat.lt_of_lt_of_le (h6' k hk).2.1 hb.size, fun i b t' cs' hi => ?_⟩⟩
 ·cases i with
  | zero =>
   simp only [List.getElem?_cons_zero, Option.some.injEq, Prod.mk.injEq] at hi
   obtain ⟨rfl, rfl, rfl⟩ := hi
   exact ⟨hw, heap_alloc_new wk _⟩
  | succ i => exact h2 i b t' cs' (by simpa using hi)
 ·cases i with
  | zero =>
   simp only [List.getElem?_cons_zero, Option.some.injEq] at hi
   subst hi
   cases j with
   | zero => exact absurd rfl hij
   | succ j =>
    obtain ⟨b, t', cs'⟩ := y
    have := hlt j b t' cs' (by simpa using hj)
    show wk.heap.size ≠ b
    omega
  | succ i =>
   cases j with
   | zero =>
    simp only [List.getElem?_cons_zero, Option.some.injEq] at hj
    subst hj
    obtain ⟨b, t', cs'⟩ := x
    have := hlt i b t' cs' (by simpa using hi)
    show b ≠ wk.heap.size
    omega
   | succ j => exact h3 i j x y (by simpa using hi) (by simpa using hj) (by omega)
 ·cases i with
  | zero =>
   simp only [List.getElem?_cons_zero, Option.some.injEq, Prod.mk.injEq] at hi
   obtain ⟨rfl, rfl, rfl⟩ := hi
   have := (h6' k hk).2.1
   omega
  | succ i => exact (h6' k hk).2.2 i b t' cs' (by simpa using hi)
theorem RS.put (h : RS w wk ok bs A0 c0 A1 c1 D A6 c6 rs) (i : Nat) {b : Nat} {t : TypeId} {cs : Array Value} (hi : bs[i]? = some (b, t, cs)) (j : Nat) (u : Value) : RS w (wk.setCell ⟨b, j, none⟩ u) ok (bs.set i (b, t, cs.setIfInBounds j u)) A0 c0 A1 c1 D A6 c6 rs := by
 obtain ⟨h1, h2, h3, okk, h4, h5, h6⟩ := h
 have hbi := h2 i b t cs hi
 have hil : i < bs.length := (List.getElem?_eq_some_iff.1 hi).1
 have far : ∀ k, k ≠ b → (wk.setCell ⟨b, j, none⟩ u).heap[k]? = wk.heap[k]? := fun k hk => Below.heap_setCell wk ⟨b, j, none⟩ u k hk
 have hset : ∀ (i' b' : Nat) (t' : TypeId) (cs' : Array Value), (bs.set i (b, t, cs.setIfInBounds j u))[i']? = some (b', t', cs') → (i' = i ∧ b' = b ∧ t' = t ∧ cs' = cs.setIfInBounds j u) ∨ (i' ≠ i ∧ bs[i']? = some (b', t', cs')) := fun i' b' t' cs' hx => by
  rw [List.getElem?_set] at hx
  by_cases e : i = i'
  ·subst e
   rw [if_pos rfl, if_pos hil] at hx
   simp only [Option.some.injEq, Prod.mk.injEq] at hx
   exact .inl ⟨rfl, hx.1.symm, hx.2.1.symm, hx.2.2.symm⟩
  ·rw [if_neg e] at hx
   exact .inr ⟨fun h => e h.symm, hx⟩
 refine ⟨h1.setCell hbi.1 u, fun i' b' t' cs' hx => ?_, fun i1 j1 x y hx hy hne => ?_, okk, h4.step (fun k hk _ => far k ((h6 k hk).2.2 i b t cs hi)), Kd.V_step h5 (fun k hk _ => far k ((h6 k hk).2.2 i b t cs hi)), fun k hk => ⟨(h6 k hk).1, by rw [World.size_setCell]; exact (h6 k hk).2.1, fun i' b' t' cs' hx => ?_⟩⟩
 ·rcases hset i' b' t' cs' hx with ⟨rfl, rfl, rfl, rfl⟩ | ⟨hne, hx⟩
  ·exact ⟨hbi.1, blk_put hbi.2 j u rfl⟩
  ·exact ⟨(h2 i' b' t' cs' hx).1, (far b' (h3 i' i _ _ hx hi hne)).trans (h2 i' b' t' cs' hx).2⟩
 ·obtain ⟨b1, t1, cs1⟩ := x
  obtain ⟨b2, t2, cs2⟩ := y
  rcases hset i1 b1 t1 cs1 hx with ⟨rfl, rfl, rfl, rfl⟩ | ⟨hn1, hx1⟩
  ·rcases hset j1 b2 t2 cs2 hy with ⟨rfl, rfl, rfl, rfl⟩ | ⟨hn2, hy1⟩
   ·exact absurd rfl hne
   ·exact show (b1, t1, cs).1 ≠ (b2, t2, cs2).1 from h3 i1 j1 _ _ hi hy1 hne
  ·rcases hset j1 b2 t2 cs2 hy with ⟨rfl, rfl, rfl, rfl⟩ | ⟨hn2, hy1⟩
   ·exact show (b1, t1, cs1).1 ≠ (b2, t2, cs).1 from h3 i1 j1 _ _ hx1 hi hne
   ·exact h3 i1 j1 _ _ hx1 hy1 hne
 ·rcases hset i' b' t' cs' hx with ⟨rfl, rfl, rfl, rfl⟩ | ⟨hn1, hx1⟩
  ·exact (h6 k hk).2.2 i' b' t' cs hi
  ·exact (h6 k hk).2.2 i' b' t' cs' hx1
theorem RS.sync (h : RS w wk ok bs A0 c0 A1 c1 D A6 c6 rs) (hok : D.Ok) : Calls Try.prog 62 #[.agg #[.slice A0 D.dur.length c0, .slice A1 D.pend.length c1, .int .i64 D.cnt, .bool D.failed]] wk fun e w' => ∃ A0' c0' A1' c1', e = .returned (.tuple #[.agg #[.slice A0' D.sync.1.dur.length c0', .slice A1' D.sync.1.pend.length c1', .int .i64 D.sync.1.cnt, .bool D.sync.1.failed], .int .i64 D.sync.2]) ∧ RS w w' ok bs A0' c0' A1' c1' D.sync.1 A6 c6 rs := by
 have hlt := h.1.size
 obtain ⟨h1, h2, h3, okk, h4, h5, h6⟩ := h
 refine (ref_sync h4 hok).mono ?_
 rintro e w' ⟨v', rfl, hv, hb⟩
 obtain ⟨A0', c0', A1', c1', rfl, _, _⟩ := hv.form
 rw [List.length_map] at hv ⊢
 refine ⟨A0', c0', A1', c1', rfl, below_step h1 hb, fun i b t cs hi => ⟨(h2 i b t cs hi).1, (hb.block b (blk_lt (h2 i b t cs hi).2)).trans (h2 i b t cs hi).2⟩, h3, New okk wk w', hv, Kd.V_mono (Kd.V_step h5 (fun k _ hk => hb.block k hk)) (fun k hk => .inl hk), fun k hk => ?_⟩
 rcases hk with hk | hk
 ·exact ⟨(h6 k hk).1, Nat.lt_of_lt_of_le (h6 k hk).2.1 hb.size, (h6 k hk).2.2⟩
 ·exact ⟨.inr (Nat.le_trans hlt hk.1), hk.2, fun i b t cs hi => by have := blk_lt (h2 i b t cs hi).2; omega⟩
theorem RS.write (h : RS w wk ok bs A0 c0 A1 c1 D A6 c6 rs) (hok : D.Ok) (at_ : Int) (A : Option Addr) (c : Nat) (l : List Int) (hC : Kd.C (Kd.int .u8) wk A l.length l) (hc : l.length ≤ c) (hl : l.length ≤ 4194304) : Calls Try.prog 61 #[.agg #[.slice A0 D.dur.length c0, .slice A1 D.pend.length c1, .int .i64 D.cnt, .bool D.failed], .int .i64 at_, .slice A l.length c] wk fun e w' => ∃ A0' c0' A1' c1', e = .returned (.tuple #[.agg #[.slice A0' (D.write at_ l).1.dur.length c0', .slice A1' (D.write at_ l).1.pend.length c1', .int .i64 (D.write at_ l).1.cnt, .bool (D.write at_ l).1.failed], .int .i64 (D.write at_ l).2]) ∧ RS w w' ok bs A0' c0' A1' c1' (D.write at_ l).1 A6 c6 rs := by
 have hlt := h.1.size
 obtain ⟨h1, h2, h3, okk, h4, h5, h6⟩ := h
 refine (ref_put h4 hok at_ A c l hC hc hl).mono ?_
 rintro e w' ⟨v', rfl, hv, hb⟩
 obtain ⟨A0', c0', A1', c1', rfl, _, _⟩ := hv.form
 rw [List.length_map] at hv ⊢
 refine ⟨A0', c0', A1', c1', rfl, below_step h1 hb, fun i b t cs hi => ⟨(h2 i b t cs hi).1, (hb.block b (blk_lt (h2 i b t cs hi).2)).trans (h2 i b t cs hi).2⟩, h3, New okk wk w', hv, Kd.V_mono (Kd.V_step h5 (fun k _ hk => hb.block k hk)) (fun k hk => .inl hk), fun k hk => ?_⟩
 rcases hk with hk | hk
 ·exact ⟨(h6 k hk).1, Nat.lt_of_lt_of_le (h6 k hk).2.1 hb.size, (h6 k hk).2.2⟩
 ·exact ⟨.inr (Nat.le_trans hlt hk.1), hk.2, fun i b t cs hi => by have := blk_lt (h2 i b t cs hi).2; omega⟩
theorem RS.done (h : RS w wk ok bs A0 c0 A1 c1 D A6 c6 rs) (L : Lg) (hr : L.recs = rs) : RefL wk (New ok w wk) (.agg #[.slice A0 D.dur.length c0, .slice A1 D.pend.length c1, .int .i64 D.cnt, .bool D.failed, .int .i64 L.base, .int .i64 L.slot, .slice A6 rs.length c6, .int .i64 L.end_, .int .i64 L.synced]) L D ∧ Below w.heap.size w wk := by
 subst hr
 obtain ⟨h1, h2, h3, okk, h4, h5, h6⟩ := h
 have hm : ∀ k, okk k → New ok w wk k := fun k hk => (h6 k hk).1.imp id (fun h => ⟨h, (h6 k hk).2.1⟩)
 refine ⟨⟨A0, c0, A1, c1, A6, c6, by rw [List.length_map], by rw [List.length_map]; exact h4.mono hm, Kd.V_mono h5 hm⟩, h1⟩
end
theorem RefL.start {w : World} {ok : Nat → Prop} {v : Value} {L : Lg} {D : Dk} (h : RefL w ok v L D) : ∃ A0 c0 A1 c1 A6 c6, v = .agg #[.slice A0 D.dur.length c0, .slice A1 D.pend.length c1, .int .i64 D.cnt, .bool D.failed, .int .i64 L.base, .int .i64 L.slot, .slice A6 L.recs.length c6, .int .i64 L.end_, .int .i64 L.synced] ∧ RS w w ok [] A0 c0 A1 c1 D A6 c6 L.recs := by
 obtain ⟨A0, c0, A1, c1, A6, c6, rfl, h0, h1⟩ := h
 rw [List.length_map] at *
 obtain ⟨v0, v1, e, g0, g1⟩ := h0
 refine ⟨A0, c0, A1, c1, A6, c6, rfl, Below.refl _ _, fun i b t cs hi => by simp at hi, fun i j x y hi => by simp at hi, fun k => ok k ∧ k < w.heap.size, ⟨v0, v1, e, Kd.V_bound g0, Kd.V_bound g1⟩, Kd.V_bound h1, fun k hk => ⟨.inl hk.1, hk.2, fun i b t cs hi => by simp at hi⟩⟩
end Go.Proofs.Ytbbokpkpdnppjaa
