/- 'apply', all kinds at once. -/
import Derived.Test.YtbbokpkpdnppjaaC14
namespace Go.Proofs.Ytbbokpkpdnppjaa
open Go.RowKit Go.Proofs.YtbbokpkpdnppjaaW.PrintWords Go.Proofs.YtbbokpkpdnppjaaW.PrintLast Go.Proofs.YtbbokpkpdnppjaaW.PrintMore
set_option linter.unusedVariables false
set_option linter.unusedSimpArgs false

theorem stepD_pend (D : Dk) (x : P.S44) : (stepD D x).pend.length ≤ D.pend.length + 1 := by
  unfold stepD
  split
  · unfold Dk.write
    split
    · simp
    · split
      · simp
      · split
        · simp
        · simp [Dk.wrote, Dk.burnt]
  · split
    · unfold Dk.sync
      split <;> simp [Dk.synced]
    · split
      · simp [Dk.crashed]
      · split
        · simp [Dk.after]
        · simp
theorem stepD_dur {D : Dk} (h : D.Ok) (x : P.S44) : (stepD D x).dur.length = D.dur.length := by
  unfold stepD
  split
  · unfold Dk.write
    split
    · rfl
    · split
      · rfl
      · split <;> rfl
  · split
    · unfold Dk.sync
      split
      · rfl
      · exact layAll_length _ _ h.fit
    · split
      · exact tearAll_length _ _ (h.zip x.f4)
      · split <;> rfl
theorem applyAll_calls {w0 W : World} {Q : Nat → Prop} {R : List (Nat × Dk)} {g : Nat} {D : Dk} (h : Sts w0 W Q ((g, D) :: R)) (hok : D.Ok) {v : Value} {ok : Nat → Prop} (hv : RefV W ok v D) (hko : ∀ k, ok k → k < w0.heap.size ∨ Q k) (x : P.S44) {A3 A4 : Option Addr} {c3 c4 : Nat}
    (h3 : x.f3.length ≤ c3) (g3 : (Kd.int .u8).C w0 A3 x.f3.length x.f3) (h4 : x.f4.length ≤ c4) (g4 : (Kd.int .i64).C w0 A4 x.f4.length x.f4) (hl : x.f3.length ≤ 64) :
    Calls Try.prog 31 #[.pointer (some ⟨g, 0, none⟩), v, .agg #[.int .i64 x.f0, .int .i64 x.f1, .int .i64 x.f2, .slice A3 x.f3.length c3, .slice A4 x.f4.length c4]] W fun e w' => ∃ g' v', e = .returned (.tuple #[.pointer (some ⟨g', 0, none⟩), v', .bool true]) ∧ ∃ Q', (∀ k, Q k → Q' k) ∧ Sts w0 w' Q' ((g', stepD D x) :: R) ∧ RefV w' (fun k => New ok W w' k ∧ (k < w0.heap.size ∨ Q' k)) v' (stepD D x) ∧ KeepP Q W w' := by
  by_cases k0 : x.f0 = 0
  · exact apply0_calls h hok hv hko x h3 g3 h4 g4 hl k0
  by_cases k1 : x.f0 = 1
  · exact apply1_calls h hok hv hko x h3 g3 h4 g4 hl k1
  by_cases k2 : x.f0 = 2
  · exact apply2_calls h hok hv hko x h3 g3 h4 g4 hl k2
  by_cases k3 : x.f0 = 3
  · exact apply3_calls h hok hv hko x h3 g3 h4 g4 hl k3
  by_cases k4 : x.f0 = 4
  · exact apply4_calls h hok hv hko x h3 g3 h4 g4 hl k4
  by_cases k5 : x.f0 = 5
  · exact apply5_calls h hok hv hko x h3 g3 h4 g4 hl k5
  · exact applyE_calls h hok hv hko x h3 g3 h4 g4 hl ⟨k0, k1, k2, k3, k4, k5⟩
end Go.Proofs.Ytbbokpkpdnppjaa

namespace Go.Proofs.Ytbbokpkpdnppjaa
open Go.RowKit Go.Proofs.YtbbokpkpdnppjaaW.PrintWords Go.Proofs.YtbbokpkpdnppjaaW.PrintLast Go.Proofs.YtbbokpkpdnppjaaW.PrintMore
set_option linter.unusedVariables false
set_option linter.unusedSimpArgs false

def opsD (m : Nat) (l : List P.S44) (k : Nat) : Dk := (l.take k).foldl stepD (Dk.fresh m)
theorem opsD_succ (m : Nat) (l : List P.S44) (k : Nat) (hk : k < l.length) : opsD m l (k + 1) = stepD (opsD m l k) (P.rd_T44 l (k : Int)) := by
  unfold opsD
  rw [rd_T44_get l k hk, List.take_add_one, List.getElem?_eq_getElem hk, List.foldl_append]
  rfl
theorem opsD_ok (m : Nat) (l : List P.S44) (h1 : 1 ≤ m) (h2 : m ≤ 4194304) (hl : l.length ≤ 20) (hx : ∀ x ∈ l, x.f2 ≤ 9223372036854775807) : ∀ k, k ≤ l.length → (opsD m l k).Ok ∧ (opsD m l k).pend.length ≤ k := by
  intro k
  induction k with
  | zero => exact fun _ => ⟨Dk.fresh_ok m h1 h2, by simp [opsD, Dk.fresh]⟩
  | succ k ih =>
    intro hk
    obtain ⟨i1, i2⟩ := ih (by omega)
    rw [opsD_succ m l k hk]
    refine ⟨stepD_ok i1 (by omega) _ ?_, Nat.le_trans (stepD_pend _ _) (by omega)⟩
    rw [rd_T44_get l k hk]
    exact hx _ (List.getElem_mem hk)

/-- Where the loop stands: the disk and the reference in state D, the reference's value in the box b. -/
def Loop (w wr : World) (b g : Nat) (D : Dk) : Prop := ∃ (Q ok : Nat → Prop) (A0 : Option Addr) (c0 : Nat) (A2 : Option Addr) (c2 : Nat), Sts w wr Q [(g, D)] ∧ RefV wr ok (.agg #[.slice A0 D.dur.length c0, .slice A2 D.pend.length c2, .int .i64 D.cnt, .bool D.failed]) D ∧ (∀ k, ok k → (k < w.heap.size ∨ Q k) ∧ k ≠ b) ∧ Q b ∧ w.heap.size ≤ b ∧ wr.heap[b]? = some (.cells #[.slice A0 D.dur.length c0, .slice A2 D.pend.length c2, .int .i64 D.cnt, .bool D.failed] 50 (0, 0))
/-- In the midst of a round: a second box a. -/
def Mid (w w' : World) (b a : Nat) (cs ca : Array Value) (D : Dk) (g : Nat) (E0 : Option Addr) (e0 : Nat) (E2 : Option Addr) (e2 : Nat) : Prop := ∃ (Q ok : Nat → Prop), Sts w w' Q [(g, D)] ∧ RefV w' ok (.agg #[.slice E0 D.dur.length e0, .slice E2 D.pend.length e2, .int .i64 D.cnt, .bool D.failed]) D ∧ (∀ k, ok k → (k < w.heap.size ∨ Q k) ∧ k ≠ b ∧ k ≠ a) ∧ Q b ∧ Q a ∧ b ≠ a ∧ w.heap.size ≤ b ∧ w.heap.size ≤ a ∧ w'.heap[b]? = some (.cells cs 50 (0, 0)) ∧ w'.heap[a]? = some (.cells ca 50 (0, 0))

theorem mid_a {w W w1 : World} {Q Q1 ok : Nat → Prop} {b g g1 : Nat} {D D1 : Dk} {cs : Array Value} {E0 : Option Addr} {e0 : Nat} {E2 : Option Addr} {e2 : Nat} (hs : Sts w W Q [(g, D)]) (hb : Q b) (hwb : w.heap.size ≤ b) (hx : W.heap[b]? = some (.cells cs 50 (0, 0))) (hko : ∀ k, ok k → (k < w.heap.size ∨ Q k) ∧ k ≠ b)
    (hq : ∀ k, Q k → Q1 k) (h1 : Sts w w1 Q1 [(g1, D1)]) (hv : RefV w1 (fun k => New ok W w1 k ∧ (k < w.heap.size ∨ Q1 k)) (.agg #[.slice E0 D1.dur.length e0, .slice E2 D1.pend.length e2, .int .i64 D1.cnt, .bool D1.failed]) D1) (hk : KeepP Q W w1) (ca : Array Value) :
    Mid w (w1.alloc (.cells ca 50)) b w1.heap.size cs ca D1 g1 E0 e0 E2 e2 := by
  have hal : Below w1.heap.size w1 (w1.alloc (.cells ca 50)) := below_alloc (Below.refl _ _) _
  have hbW := hs.lt b hb
  have hb1 := h1.lt b (hq b hb)
  have hw1 := h1.bel.size
  refine ⟨_, _, h1.fence hal, hv.below hal, fun k hk => ?_, .inl (hq b hb), .inr ⟨Nat.le_refl _, by simp⟩, by omega, hwb, hw1, ?_, heap_alloc_new w1 _⟩
  · obtain ⟨h2, h3⟩ := hk
    refine ⟨h3.imp id .inl, fun e => ?_, fun e => ?_⟩
    · subst e
      rcases h2 with h2 | h2
      · exact (hko _ h2).2 rfl
      · omega
    · subst e
      rcases h3 with h3 | h3
      · omega
      · have := h1.lt _ h3; omega
  · rw [hal.block b hb1, hk b hb, hx]
theorem mid_b {w W w2 : World} {Q Q1 ok : Nat → Prop} {b g g1 : Nat} {D D1 : Dk} {cs ca : Array Value} {E0 : Option Addr} {e0 : Nat} {E2 : Option Addr} {e2 : Nat} (hs : Sts w W Q [(g, D)]) (hb : Q b) (hwb : w.heap.size ≤ b) (hx : W.heap[b]? = some (.cells cs 50 (0, 0))) (hko : ∀ k, ok k → (k < w.heap.size ∨ Q k) ∧ k ≠ b)
    (hq : ∀ k, (Q k ∨ (W.heap.size ≤ k ∧ k < (W.alloc (.cells ca 50)).heap.size)) → Q1 k) (h1 : Sts w w2 Q1 [(g1, D1)]) (hv : RefV w2 (fun k => New ok (W.alloc (.cells ca 50)) w2 k ∧ (k < w.heap.size ∨ Q1 k)) (.agg #[.slice E0 D1.dur.length e0, .slice E2 D1.pend.length e2, .int .i64 D1.cnt, .bool D1.failed]) D1)
    (hk : KeepP (fun k => Q k ∨ (W.heap.size ≤ k ∧ k < (W.alloc (.cells ca 50)).heap.size)) (W.alloc (.cells ca 50)) w2) :
    Mid w w2 b W.heap.size cs ca D1 g1 E0 e0 E2 e2 := by
  have hal : Below W.heap.size W (W.alloc (.cells ca 50)) := below_alloc (Below.refl _ _) _
  have hbW := hs.lt b hb
  have hz : (W.alloc (.cells ca 50)).heap.size = W.heap.size + 1 := by simp
  have hw := hs.bel.size
  refine ⟨Q1, _, h1, hv, fun k hk => ?_, hq b (.inl hb), hq _ (.inr ⟨Nat.le_refl _, by omega⟩), by omega, hwb, hw, ?_, ?_⟩
  · obtain ⟨h2, h3⟩ := hk
    refine ⟨h3, fun e => ?_, fun e => ?_⟩
    · subst e
      rcases h2 with h2 | h2
      · exact (hko _ h2).2 rfl
      · omega
    · subst e
      rcases h2 with h2 | h2
      · rcases (hko _ h2).1 with h4 | h4
        · omega
        · have := hs.lt _ h4; omega
      · omega
  · rw [hk b (.inl hb), hal.block b hbW, hx]
  · rw [hk _ (.inr ⟨Nat.le_refl _, by omega⟩)]; exact heap_alloc_new W _
theorem set4_far (W : World) (b : Nat) (a0 a1 a2 a3 : Value) (k : Nat) (hk : k ≠ b) : ((((W.setCell ⟨b, 0, none⟩ a0).setCell ⟨b, 1, none⟩ a1).setCell ⟨b, 2, none⟩ a2).setCell ⟨b, 3, none⟩ a3).heap[k]? = W.heap[k]? := by
  rw [Below.heap_setCell _ ⟨b, 3, none⟩ _ k hk, Below.heap_setCell _ ⟨b, 2, none⟩ _ k hk, Below.heap_setCell _ ⟨b, 1, none⟩ _ k hk, Below.heap_setCell _ ⟨b, 0, none⟩ _ k hk]
theorem set4_blk {W : World} {b : Nat} {z0 z1 z2 z3 : Value} (h : W.heap[b]? = some (.cells #[z0, z1, z2, z3] 50 (0, 0))) (a0 a1 a2 a3 : Value) : ((((W.setCell ⟨b, 0, none⟩ a0).setCell ⟨b, 1, none⟩ a1).setCell ⟨b, 2, none⟩ a2).setCell ⟨b, 3, none⟩ a3).heap[b]? = some (.cells #[a0, a1, a2, a3] 50 (0, 0)) := by
  refine blk_put (cs := #[a0, a1, a2, z3]) ?_ 3 _ rfl
  refine blk_put (cs := #[a0, a1, z2, z3]) ?_ 2 _ rfl
  refine blk_put (cs := #[a0, z1, z2, z3]) ?_ 1 _ rfl
  exact blk_put (cs := #[z0, z1, z2, z3]) h 0 _ rfl
theorem Sts.poke4 {w W : World} {Q : Nat → Prop} {L : List (Nat × Dk)} (h : Sts w W Q L) (b : Nat) (hb : Q b) (hw : w.heap.size ≤ b) (a0 a1 a2 a3 : Value) : Sts w ((((W.setCell ⟨b, 0, none⟩ a0).setCell ⟨b, 1, none⟩ a1).setCell ⟨b, 2, none⟩ a2).setCell ⟨b, 3, none⟩ a3) Q L :=
  (((h.poke b hb hw 0 a0).poke b hb hw 1 a1).poke b hb hw 2 a2).poke b hb hw 3 a3
/-- The second box is filled. -/
theorem Mid.fill {w W : World} {b a : Nat} {cs : Array Value} {z0 z1 z2 z3 : Value} {D : Dk} {g : Nat} {E0 : Option Addr} {e0 : Nat} {E2 : Option Addr} {e2 : Nat} (h : Mid w W b a cs #[z0, z1, z2, z3] D g E0 e0 E2 e2) (a0 a1 a2 a3 : Value) :
    Mid w ((((W.setCell ⟨a, 0, none⟩ a0).setCell ⟨a, 1, none⟩ a1).setCell ⟨a, 2, none⟩ a2).setCell ⟨a, 3, none⟩ a3) b a cs #[a0, a1, a2, a3] D g E0 e0 E2 e2 := by
  obtain ⟨Q, ok, h1, h2, h3, h4, h5, h6, h7, h8, h9, h10⟩ := h
  exact ⟨Q, ok, h1.poke4 a h5 h8 a0 a1 a2 a3, h2.step (fun k hk _ => set4_far W a a0 a1 a2 a3 k (h3 k hk).2.2), h3, h4, h5, h6, h7, h8, (set4_far W a a0 a1 a2 a3 b h6).trans h9, set4_blk h10 a0 a1 a2 a3⟩
theorem Mid.below {w W W1 : World} {b a : Nat} {cs ca : Array Value} {D : Dk} {g : Nat} {E0 : Option Addr} {e0 : Nat} {E2 : Option Addr} {e2 : Nat} (h : Mid w W b a cs ca D g E0 e0 E2 e2) (hb : Below W.heap.size W W1) : Mid w W1 b a cs ca D g E0 e0 E2 e2 := by
  obtain ⟨Q, ok, h1, h2, h3, h4, h5, h6, h7, h8, h9, h10⟩ := h
  exact ⟨Q, ok, h1.step hb, h2.below hb, h3, h4, h5, h6, h7, h8, (hb.block b (h1.lt b h4)).trans h9, (hb.block a (h1.lt a h5)).trans h10⟩
/-- The first box takes the second's words: a round ends. -/
theorem Mid.loop {w W : World} {b a : Nat} {ca : Array Value} {z0 z1 z2 z3 : Value} {D : Dk} {g : Nat} {E0 : Option Addr} {e0 : Nat} {E2 : Option Addr} {e2 : Nat} (h : Mid w W b a #[z0, z1, z2, z3] ca D g E0 e0 E2 e2) :
    Loop w ((((W.setCell ⟨b, 0, none⟩ (.slice E0 D.dur.length e0)).setCell ⟨b, 1, none⟩ (.slice E2 D.pend.length e2)).setCell ⟨b, 2, none⟩ (.int .i64 D.cnt)).setCell ⟨b, 3, none⟩ (.bool D.failed)) b g D := by
  obtain ⟨Q, ok, h1, h2, h3, h4, h5, h6, h7, h8, h9, h10⟩ := h
  exact ⟨Q, ok, E0, e0, E2, e2, h1.poke4 b h4 h7 _ _ _ _, h2.step (fun k hk _ => set4_far W b _ _ _ _ k (h3 k hk).2.1), fun k hk => ⟨(h3 k hk).1, (h3 k hk).2.1⟩, h4, h7, set4_blk h9 _ _ _ _⟩
end Go.Proofs.Ytbbokpkpdnppjaa
