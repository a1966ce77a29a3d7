/- The walk of DiskClones. -/
import Derived.Test.YtbbokpkpdnppjaaC15
namespace Go.Proofs.Ytbbokpkpdnppjaa
open Go.RowKit Go.Proofs.YtbbokpkpdnppjaaW.PrintWords Go.Proofs.YtbbokpkpdnppjaaW.PrintLast Go.Proofs.YtbbokpkpdnppjaaW.PrintMore
set_option linter.unusedVariables false
set_option linter.unusedSimpArgs false

theorem info44 : (Try.prog.info? 44).map (fun i => (i.zero, i.size, i.bytes)) = some (some (.agg #[(.int .i64 0), (.int .i64 0), (.int .i64 0), (.slice none 0 0), (.slice none 0 0)]), 5, 72) := by kernel_rfl

/-- A round ends: the call's result is laid into the box. -/
theorem loop_c {w W w1 : World} {Q Q1 ok : Nat → Prop} {b g g1 : Nat} {D D1 : Dk} {z0 z1 z2 z3 : Value} {E0 : Option Addr} {e0 : Nat} {E2 : Option Addr} {e2 : Nat} (hs : Sts w W Q [(g, D)]) (hb : Q b) (hwb : w.heap.size ≤ b) (hx : W.heap[b]? = some (.cells #[z0, z1, z2, z3] 50 (0, 0))) (hko : ∀ k, ok k → (k < w.heap.size ∨ Q k) ∧ k ≠ b)
    (hq : ∀ k, Q k → Q1 k) (h1 : Sts w w1 Q1 [(g1, D1)]) (hv : RefV w1 (fun k => New ok W w1 k ∧ (k < w.heap.size ∨ Q1 k)) (.agg #[.slice E0 D1.dur.length e0, .slice E2 D1.pend.length e2, .int .i64 D1.cnt, .bool D1.failed]) D1) (hk : KeepP Q W w1) :
    Loop w ((((w1.setCell ⟨b, 0, none⟩ (.slice E0 D1.dur.length e0)).setCell ⟨b, 1, none⟩ (.slice E2 D1.pend.length e2)).setCell ⟨b, 2, none⟩ (.int .i64 D1.cnt)).setCell ⟨b, 3, none⟩ (.bool D1.failed)) b g1 D1 := by
  have hbW := hs.lt b hb
  have far : ∀ k, (New ok W w1 k ∧ (k < w.heap.size ∨ Q1 k)) → k ≠ b := fun k hk e => by
    subst e
    rcases hk.1 with h2 | h2
    · exact (hko _ h2).2 rfl
    · omega
  exact ⟨Q1, _, E0, e0, E2, e2, h1.poke4 b (hq b hb) hwb _ _ _ _, hv.step (fun k hk _ => set4_far w1 b _ _ _ _ k (far k hk)), fun k hk => ⟨hk.2, far k hk⟩, hq b hb, hwb, set4_blk ((hk b hb).trans hx) _ _ _ _⟩

/-- Two rows, apart: l's copy and the one of x. -/
def Rows2 (W1 w' : World) (l : List P.S44) (x : P.S44) (v : Value) (A : Option Addr) : Prop :=
  ∃ okx : Nat → Prop, Kd.N P.k44 44 w' W1.heap.size (fun _ => True) v l ∧ Kd.F P.k44 w' okx A 1 [x] ∧ (∀ k, okx k → some k ≠ v.ownBlock) ∧ Below W1.heap.size W1 w'

set_option maxRecDepth 100000 in
set_option maxHeartbeats 8000000 in
theorem DiskClones_calls (size : Int) (A1 : Option Addr) (c1 : Nat) (l : List P.S44) (x : P.S44) (A3 : Option Addr) (c3 : Nat) (A4 : Option Addr) (c4 : Nat) (w : World) (hC1 : Kd.C P.k44 w A1 l.length l) (hc1 : l.length ≤ c1) (hwf : ∀ y ∈ l, y.f2 ≤ 9223372036854775807) (hl72 : (l.length + 1) * 72 ≤ 140737488355328) (hxf : x.f2 ≤ 9223372036854775807)
    (h3 : x.f3.length ≤ c3) (g3 : (Kd.int .u8).C w A3 x.f3.length x.f3) (h4 : x.f4.length ≤ c4) (g4 : (Kd.int .i64).C w A4 x.f4.length x.f4) :
    Calls Try.prog 9 #[.int .i64 size, .slice A1 l.length c1, .agg #[.int .i64 x.f0, .int .i64 x.f1, .int .i64 x.f2, .slice A3 x.f3.length c3, .slice A4 x.f4.length c4]] w fun e w' => e = .returned (.bool true) ∧ Below w.heap.size w w' := by
  have HC1 := Aside0.mk hC1
  have HWF := Aside0.mk hwf
  have G3 := Aside0.mk g3
  have G4 := Aside0.mk g4
  clear hC1 hwf g3 g4
  go_enter Try.func9, Try.ntmps9
  go_wp2_with fail
  have hal : Below w.heap.size w (w.alloc (.cells #[.int .i64 x.f0, .int .i64 x.f1, .int .i64 x.f2, .slice A3 x.f3.length c3, .slice A4 x.f4.length c4] 44)) := below_alloc (Below.refl _ _) _
  have hxb : (w.alloc (.cells #[.int .i64 x.f0, .int .i64 x.f1, .int .i64 x.f2, .slice A3 x.f3.length c3, .slice A4 x.f4.length c4] 44)).heap[w.heap.size]? = some (.cells #[.int .i64 x.f0, .int .i64 x.f1, .int .i64 x.f2, .slice A3 x.f3.length c3, .slice A4 x.f4.length c4] 44 (0, 0)) := heap_alloc_new w _
  generalize (w.alloc (.cells #[.int .i64 x.f0, .int .i64 x.f1, .int .i64 x.f2, .slice A3 x.f3.length c3, .slice A4 x.f4.length c4] 44)) = w0 at hal hxb ⊢
  have HAL := Aside0.mk hal
  have HXB := Aside0.mk hxb
  have LX := Aside0.mk (blk_lt hxb)
  clear hal hxb
  refine (awake13 _).mono ?_
  rintro e w1 ⟨rfl, hb⟩
  have HB1 := Aside0.mk hb
  clear hb
  go_wp2_with fail
  have hx1 := (HB1.out.block _ LX.out).trans HXB.out
  have hlx1 : w.heap.size < w1.heap.size := Nat.lt_of_lt_of_le LX.out HB1.out.size
  have SS := Aside0.mk (show ∀ w' : World, Below w1.heap.size w1 w' → (w'.cell? ⟨w.heap.size, 0, none⟩ = some (.int .i64 x.f0) ∧ w'.cell? ⟨w.heap.size, 1, none⟩ = some (.int .i64 x.f1) ∧ w'.cell? ⟨w.heap.size, 2, none⟩ = some (.int .i64 x.f2) ∧ w'.cell? ⟨w.heap.size, 3, none⟩ = some (.slice A3 x.f3.length c3) ∧ w'.cell? ⟨w.heap.size, 4, none⟩ = some (.slice A4 x.f4.length c4)) from fun w' hb => by
    have hx := (hb.block _ hlx1).trans hx1
    exact ⟨(blk_cell hx 0).trans rfl, (blk_cell hx 1).trans rfl, (blk_cell hx 2).trans rfl, (blk_cell hx 3).trans rfl, (blk_cell hx 4).trans rfl⟩)
  have FL := Aside0.mk (show ∀ w' : World, Below w1.heap.size w1 w' → Kd.F P.k44 w' (fun k => k < w1.heap.size) A1 l.length l from fun w' hb => Kd.F_step (Kd.C_F P.k44_heap (Kd.C_below (Kd.C_below HC1.out HAL.out) HB1.out)) (fun k hk _ => hb.block k hk))
  have FX := Aside0.mk (show ∀ w' : World, Below w1.heap.size w1 w' → Kd.FK P.k44 w' (fun k => k < w1.heap.size) x [.int .i64 x.f0, .int .i64 x.f1, .int .i64 x.f2, .slice A3 x.f3.length c3, .slice A4 x.f4.length c4] from fun w' hb =>
    P.k44_mkF w' _ x h3 (Kd.F_step (Kd.C_F (Kd.heap_int .u8) (Kd.C_below (Kd.C_below G3.out HAL.out) HB1.out)) (fun k hk _ => hb.block k hk)) h4 (Kd.F_step (Kd.C_F (Kd.heap_int .i64) (Kd.C_below (Kd.C_below G4.out HAL.out) HB1.out)) (fun k hk _ => hb.block k hk)))
  clear hx1 hlx1
  refine start_ (n := 9) (S := fun w' => w'.cell? ⟨w.heap.size, 0, none⟩ = some (.int .i64 x.f0) ∧ w'.cell? ⟨w.heap.size, 1, none⟩ = some (.int .i64 x.f1) ∧ w'.cell? ⟨w.heap.size, 2, none⟩ = some (.int .i64 x.f2) ∧ w'.cell? ⟨w.heap.size, 3, none⟩ = some (.slice A3 x.f3.length c3) ∧ w'.cell? ⟨w.heap.size, 4, none⟩ = some (.slice A4 x.f4.length c4)) (ds := []) #[false, false, false, false, false, false, false, false, false] (by kernel_rfl) rfl rfl (SS.out w1.drew (below_drew (Below.refl _ _))) (fun hHeld => ?_)
  refine pure_ (i := 0) (N := some 16) (v := ?_) (a' := ?_) #[true, false, false, false, false, false, false, false, false] rfl rfl (by kernel_rfl) (fun _ _ _ h => h) (Or.inl ⟨by rfl, ?_⟩) ?_ ?_
  rotate_left
  · intro w'
    go_simp
    with_reducible rfl
  rotate_left
  · simp only [Act.put, List.setIfInBounds_toArray, List.set_cons_zero, List.set_cons_succ, i64_w, i32_w]
    rfl
  refine pure_ (i := 2) (N := some 18) (v := ?_) (a' := ?_) #[true, false, true, false, false, false, false, false, false] rfl rfl (by kernel_rfl) (fun _ _ _ h => h) (Or.inl ⟨by rfl, ?_⟩) ?_ ?_
  rotate_left
  · intro w'
    go_simp
    with_reducible rfl
  rotate_left
  · simp only [Act.put, List.setIfInBounds_toArray, List.set_cons_zero, List.set_cons_succ, i64_w, i32_w]
    rfl
  refine take_ (i := 4) (N := some 20) (v := ?_) (a' := ?_) #[true, false, true, false, true, false, false, false, false] rfl rfl (by kernel_rfl) (fun _ _ _ h => h) (Or.inl ⟨by rfl, ?_⟩) hHeld ?_ ?_
  rotate_left
  · rintro w' ⟨s0, s1, s2, s3, s4⟩
    go_simp
    with_reducible rfl
  rotate_left
  · simp only [Act.put, List.setIfInBounds_toArray, List.set_cons_zero, List.set_cons_succ, i64_w, i32_w]
    rfl
  have hbw : Below w1.heap.size w1 w1.drew := below_drew (Below.refl _ _)
  generalize w1.drew = W at hbw hHeld ⊢
  have HBW := Aside0.mk hbw
  clear hbw
  refine join_ (σ := Value × Value × Option Addr × Nat) 3 #[true, true, true, true, true, true, false, false, false] (fun s => [(17, s.1), (19, s.2.1), (21, .slice s.2.2.1 1 s.2.2.2)]) (fun s w' => Rows2 w1 w' l x s.2.1 s.2.2.1) ?_ ?_
  rotate_left
  · intro hCont
    refine two_ (i := 1) (j := 5) (Ni := some 17) (Nj := some 21) #[true, true, true, false, true, false, false, false, false] #[true, false, true, false, true, true, false, false, false] rfl rfl rfl rfl (by kernel_rfl) (by decide) (by decide) (fun K hK => ?_) (fun K hK => ?_)
    · skip
      refine Kd.N_lit_step P.k44 (w0 := w1) w1.heap.size 44 (by rfl) (N' := 17) rfl (xs := []) (inner := []) (ok := fun _ => True) (okp := fun _ => False) (by go_simp; try rfl) (Reps.none _ _) (fun _ hk => hk.elim) trivial HBW.out HBW.out.size (by simp) ?_
      rintro v17 wa hn hb hg ⟨b17, ho, hob⟩
      have N17 := Aside0.mk hn
      have HB_wa := Aside0.mk hb
      have O17 := Aside0.mk (show v17.ownBlock = some b17 ∧ W.heap.size ≤ b17 ∧ b17 < wa.heap.size from ⟨ho, hob, Kd.N_lt hn _ ho⟩)
      have GR_wa := Aside0.mk hg
      clear hn hb hg ho hob
      refine hK.out _ _ (SS.out _ HB_wa.out) (fun hHeld => ?_)
      clear hK K
      refine norm_ (a' := ?_) ?_ ?_
      rotate_left
      · show Act.put _ (some 17) _ = _
        simp only [Act.put, List.setIfInBounds_toArray, List.set_cons_zero, List.set_cons_succ, i64_w, i32_w]
        rfl
      refine two_ (i := 3) (j := 5) (Ni := some 19) (Nj := some 21) #[true, true, true, true, true, false, false, false, false] #[true, true, true, false, true, true, false, false, false] rfl rfl rfl rfl (by kernel_rfl) (by decide) (by decide) (fun K hK => ?_) (fun K hK => ?_)
      · skip
        refine Kd.N_append_rows_step P.k44 (w0 := w1) w1.heap.size (by rfl) (.tmp 17) (.tmp 18) 33 44 (.agg #[(.int .i64 0), (.int .i64 0), (.int .i64 0), (.slice none 0 0), (.slice none 0 0)]) 72 rfl Try.underlying33 info44 rfl (by decide) (by omega) v17 [] l A1 l.length c1 (fun _ => True) (fun k => k < w1.heap.size) rfl rfl N17.out (FL.out _ HB_wa.out) (fun k hk => ⟨trivial, fun e => by have := Kd.N_base N17.out k e.symm; omega⟩) (fun _ _ => trivial) HB_wa.out HB_wa.out.size (by simp only [List.length_nil]; omega) ?_
        rintro v19 wb hn hb hg hat
        rw [List.nil_append] at hn
        have N19 := Aside0.mk hn
        have HB_wb := Aside0.mk hb
        have GR_wb := Aside0.mk hg
        have AT := Aside0.mk hat
        clear hn hb hg hat
        refine hK.out _ _ (SS.out _ HB_wb.out) (fun hHeld => ?_)
        clear hK K
        refine norm_ (a' := ?_) ?_ ?_
        rotate_left
        · show Act.put _ (some 19) _ = _
          simp only [Act.put, List.setIfInBounds_toArray, List.set_cons_zero, List.set_cons_succ, i64_w, i32_w]
          rfl
        refine one_ (i := 5) (N := some 21) #[true, true, true, true, true, true, false, false, false] rfl rfl (by kernel_rfl) (by decide) (fun K hK => ?_)
        refine Kd.N_lit_step P.k44 (w0 := w1) w1.heap.size 44 (by rfl) (N' := 21) rfl (xs := [x]) (inner := [.int .i64 x.f0, .int .i64 x.f1, .int .i64 x.f2, .slice A3 x.f3.length c3, .slice A4 x.f4.length c4]) (ok := fun k => k < w1.heap.size ∨ wb.heap.size ≤ k) (okp := fun k => k < w1.heap.size) (by go_simp; try rfl) (Reps.c5 (FX.out _ HB_wb.out) (Reps.none _ _)) (fun _ hk => .inl hk) (.inr (Nat.le_refl _)) HB_wb.out HB_wb.out.size (by simp) ?_
        rintro v21 wc hn hb hg ⟨b21, ho, hob⟩
        obtain ⟨A21, c21, e21⟩ := Kd.N_slice hn
        rw [List.length_singleton] at e21
        subst e21
        have FX_wc := Aside0.mk (Kd.F_bound (Kd.N_F hn))
        have HB_wc := Aside0.mk hb
        have GR_wc := Aside0.mk hg
        clear hn hb hg ho hob
        refine hK.out _ _ (SS.out _ HB_wc.out) (fun hHeld => ?_)
        clear hK K
        refine norm_ (a' := ?_) ?_ ?_
        rotate_left
        · show Act.put _ (some 21) _ = _
          simp only [Act.put, List.setIfInBounds_toArray, List.set_cons_zero, List.set_cons_succ, i64_w, i32_w]
          rfl
        exact norm_ (by simp only [putAll, Act.put, List.setIfInBounds_toArray, List.set_cons_zero, List.set_cons_succ]) (hCont (v17, v19, A21, c21) _ ⟨_, Kd.N_grown N19.out GR_wc.out (by simp), FX_wc.out, fun k hk e => by have h1 := Kd.N_lt N19.out k e.symm; have h2 := Kd.N_base N19.out k e.symm; omega, HB_wc.out⟩)
      · skip
        refine Kd.N_lit_step P.k44 (w0 := w1) w1.heap.size 44 (by rfl) (N' := 21) rfl (xs := [x]) (inner := [.int .i64 x.f0, .int .i64 x.f1, .int .i64 x.f2, .slice A3 x.f3.length c3, .slice A4 x.f4.length c4]) (ok := fun k => k < w1.heap.size ∨ wa.heap.size ≤ k) (okp := fun k => k < w1.heap.size) (by go_simp; try rfl) (Reps.c5 (FX.out _ HB_wa.out) (Reps.none _ _)) (fun _ hk => .inl hk) (.inr (Nat.le_refl _)) HB_wa.out HB_wa.out.size (by simp) ?_
        rintro v21 wb hn hb hg ⟨b21, ho, hob⟩
        obtain ⟨A21, c21, e21⟩ := Kd.N_slice hn
        rw [List.length_singleton] at e21
        subst e21
        have FX_wb := Aside0.mk (Kd.F_bound (Kd.N_F hn))
        have HB_wb := Aside0.mk hb
        have GR_wb := Aside0.mk hg
        clear hn hb hg ho hob
        refine hK.out _ _ (SS.out _ HB_wb.out) (fun hHeld => ?_)
        clear hK K
        refine norm_ (a' := ?_) ?_ ?_
        rotate_left
        · show Act.put _ (some 21) _ = _
          simp only [Act.put, List.setIfInBounds_toArray, List.set_cons_zero, List.set_cons_succ, i64_w, i32_w]
          rfl
        refine one_ (i := 3) (N := some 19) #[true, true, true, true, true, true, false, false, false] rfl rfl (by kernel_rfl) (by decide) (fun K hK => ?_)
        have N17' := Kd.N_grown N17.out GR_wb.out (by simp)
        clear N17
        have N17 := Aside0.mk N17'
        clear N17'
        refine Kd.N_append_rows_step P.k44 (w0 := w1) w1.heap.size (by rfl) (.tmp 17) (.tmp 18) 33 44 (.agg #[(.int .i64 0), (.int .i64 0), (.int .i64 0), (.slice none 0 0), (.slice none 0 0)]) 72 rfl Try.underlying33 info44 rfl (by decide) (by omega) v17 [] l A1 l.length c1 (fun _ => True) (fun k => k < w1.heap.size) rfl rfl N17.out (FL.out _ HB_wb.out) (fun k hk => ⟨trivial, fun e => by have := Kd.N_base N17.out k e.symm; omega⟩) (fun _ _ => trivial) HB_wb.out HB_wb.out.size (by simp only [List.length_nil]; omega) ?_
        rintro v19 wc hn hb hg hat
        rw [List.nil_append] at hn
        have N19 := Aside0.mk hn
        have HB_wc := Aside0.mk hb
        have GR_wc := Aside0.mk hg
        have AT := Aside0.mk hat
        clear hn hb hg hat
        refine hK.out _ _ (SS.out _ HB_wc.out) (fun hHeld => ?_)
        clear hK K
        refine norm_ (a' := ?_) ?_ ?_
        rotate_left
        · show Act.put _ (some 19) _ = _
          simp only [Act.put, List.setIfInBounds_toArray, List.set_cons_zero, List.set_cons_succ, i64_w, i32_w]
          rfl
        exact norm_ (by simp only [putAll, Act.put, List.setIfInBounds_toArray, List.set_cons_zero, List.set_cons_succ]) (hCont (v17, v19, A21, c21) _ ⟨_, N19.out, Kd.F_grown FX_wb.out GR_wc.out (fun k hk e => by have h0 := O17.out.1; have h3 := O17.out.2.1; have h4 := O17.out.2.2; have h5 := Kd.N_base N17.out _ h0; rw [h0] at e; injection e with e; omega), fun k hk e => by have h0 := O17.out.1; have h3 := O17.out.2.1; have h4 := O17.out.2.2; have h5 := Kd.N_base N17.out _ h0; rcases AT.out with h1 | ⟨b, h1, h2⟩ <;> (rw [h1] at e; first | (rw [h0] at e; injection e with e; omega) | (injection e with e; omega)), HB_wc.out⟩)
    · skip
      refine Kd.N_lit_step P.k44 (w0 := w1) w1.heap.size 44 (by rfl) (N' := 21) rfl (xs := [x]) (inner := [.int .i64 x.f0, .int .i64 x.f1, .int .i64 x.f2, .slice A3 x.f3.length c3, .slice A4 x.f4.length c4]) (ok := fun k => k < w1.heap.size ∨ W.heap.size ≤ k) (okp := fun k => k < w1.heap.size) (by go_simp; try rfl) (Reps.c5 (FX.out _ HBW.out) (Reps.none _ _)) (fun _ hk => .inl hk) (.inr (Nat.le_refl _)) HBW.out HBW.out.size (by simp) ?_
      rintro v21 wa hn hb hg ⟨b21, ho, hob⟩
      obtain ⟨A21, c21, e21⟩ := Kd.N_slice hn
      rw [List.length_singleton] at e21
      subst e21
      have FX_wa := Aside0.mk (Kd.F_bound (Kd.N_F hn))
      have HB_wa := Aside0.mk hb
      have GR_wa := Aside0.mk hg
      clear hn hb hg ho hob
      refine hK.out _ _ (SS.out _ HB_wa.out) (fun hHeld => ?_)
      clear hK K
      refine norm_ (a' := ?_) ?_ ?_
      rotate_left
      · show Act.put _ (some 21) _ = _
        simp only [Act.put, List.setIfInBounds_toArray, List.set_cons_zero, List.set_cons_succ, i64_w, i32_w]
        rfl
      refine one_ (i := 1) (N := some 17) #[true, true, true, false, true, true, false, false, false] rfl rfl (by kernel_rfl) (by decide) (fun K hK => ?_)
      refine Kd.N_lit_step P.k44 (w0 := w1) w1.heap.size 44 (by rfl) (N' := 17) rfl (xs := []) (inner := []) (ok := fun _ => True) (okp := fun _ => False) (by go_simp; try rfl) (Reps.none _ _) (fun _ hk => hk.elim) trivial HB_wa.out HB_wa.out.size (by simp) ?_
      rintro v17 wb hn hb hg ⟨b17, ho, hob⟩
      have N17 := Aside0.mk hn
      have HB_wb := Aside0.mk hb
      have O17 := Aside0.mk (show v17.ownBlock = some b17 ∧ wa.heap.size ≤ b17 ∧ b17 < wb.heap.size from ⟨ho, hob, Kd.N_lt hn _ ho⟩)
      have GR_wb := Aside0.mk hg
      clear hn hb hg ho hob
      refine hK.out _ _ (SS.out _ HB_wb.out) (fun hHeld => ?_)
      clear hK K
      refine norm_ (a' := ?_) ?_ ?_
      rotate_left
      · show Act.put _ (some 17) _ = _
        simp only [Act.put, List.setIfInBounds_toArray, List.set_cons_zero, List.set_cons_succ, i64_w, i32_w]
        rfl
      have FX_wb := Aside0.mk (Kd.F_grown FX_wa.out GR_wb.out (by simp))
      refine one_ (i := 3) (N := some 19) #[true, true, true, true, true, true, false, false, false] rfl rfl (by kernel_rfl) (by decide) (fun K hK => ?_)
      refine Kd.N_append_rows_step P.k44 (w0 := w1) w1.heap.size (by rfl) (.tmp 17) (.tmp 18) 33 44 (.agg #[(.int .i64 0), (.int .i64 0), (.int .i64 0), (.slice none 0 0), (.slice none 0 0)]) 72 rfl Try.underlying33 info44 rfl (by decide) (by omega) v17 [] l A1 l.length c1 (fun _ => True) (fun k => k < w1.heap.size) rfl rfl N17.out (FL.out _ HB_wb.out) (fun k hk => ⟨trivial, fun e => by have := Kd.N_base N17.out k e.symm; omega⟩) (fun _ _ => trivial) HB_wb.out HB_wb.out.size (by simp only [List.length_nil]; omega) ?_
      rintro v19 wc hn hb hg hat
      rw [List.nil_append] at hn
      have N19 := Aside0.mk hn
      have HB_wc := Aside0.mk hb
      have GR_wc := Aside0.mk hg
      have AT := Aside0.mk hat
      clear hn hb hg hat
      refine hK.out _ _ (SS.out _ HB_wc.out) (fun hHeld => ?_)
      clear hK K
      refine norm_ (a' := ?_) ?_ ?_
      rotate_left
      · show Act.put _ (some 19) _ = _
        simp only [Act.put, List.setIfInBounds_toArray, List.set_cons_zero, List.set_cons_succ, i64_w, i32_w]
        rfl
      exact norm_ (by simp only [putAll, Act.put, List.setIfInBounds_toArray, List.set_cons_zero, List.set_cons_succ]) (hCont (v17, v19, A21, c21) _ ⟨_, N19.out, Kd.F_grown FX_wb.out GR_wc.out (fun k hk e => by have h0 := O17.out.1; have h3 := O17.out.2.1; have h4 := O17.out.2.2; have h5 := Kd.N_base N17.out _ h0; rw [h0] at e; injection e with e; omega), fun k hk e => by have h0 := O17.out.1; have h3 := O17.out.2.1; have h4 := O17.out.2.2; have h5 := Kd.N_base N17.out _ h0; rcases AT.out with h1 | ⟨b, h1, h2⟩ <;> (rw [h1] at e; first | (rw [h0] at e; injection e with e; omega) | (injection e with e; omega)), HB_wc.out⟩)
  rintro ⟨v17, v19, A21, c21⟩ w2 ⟨okx, hn, hf, hap, hb⟩
  have HB2 := Aside0.mk hb
  have N19 := Aside0.mk hn
  have F21 := Aside0.mk hf
  have AP := Aside0.mk hap
  have hHeld := SS.out w2 hb
  clear hb hn hf hap
  refine norm_ (a' := ?_) ?_ ?_
  rotate_left
  · simp only [putAll, Act.put, List.setIfInBounds_toArray, List.set_cons_zero, List.set_cons_succ]
    rfl
  refine one_ (i := 6) (N := some 22) #[true, true, true, true, true, true, true, false, false] rfl rfl (by kernel_rfl) (by decide) (fun K hK => ?_)
  refine Kd.N_append_rows_step P.k44 (w0 := w1) w1.heap.size (by rfl) (.tmp 19) (.tmp 21) 33 44 (.agg #[(.int .i64 0), (.int .i64 0), (.int .i64 0), (.slice none 0 0), (.slice none 0 0)]) 72 rfl Try.underlying33 info44 rfl (by decide) (by omega) v19 l [x] A21 1 c21 (fun _ => True) okx rfl rfl N19.out F21.out (fun k hk => ⟨trivial, AP.out k hk⟩) (fun _ _ => trivial) HB2.out HB2.out.size (by omega) ?_
  rintro v22 w3 hn hb _ _
  obtain ⟨A22, c22, rfl, hc22, hC22⟩ := Kd.N_reads hn
  have HB3 := Aside0.mk hb
  have HC22 := Aside0.mk hC22
  clear hn hb hC22 N19 F21 AP
  refine hK.out _ _ (SS.out _ HB3.out) (fun hHeld => ?_)
  clear hK K
  refine norm_ (a' := ?_) ?_ ?_
  rotate_left
  · show Act.put _ (some 22) _ = _
    simp only [Act.put, List.setIfInBounds_toArray, List.set_cons_zero, List.set_cons_succ, i64_w, i32_w]
    rfl
  refine one_ (i := 7) (N := some 23) #[true, true, true, true, true, true, true, true, false] rfl rfl (by kernel_rfl) (by decide) (fun K hK => ?_)
  refine goes_ Try.func20 (by kernel_rfl) rfl #[.int .i64 size, .slice A22 (l ++ [x]).length c22] (by rfl) rfl rfl (by (try simp only [List.map_toArray, List.map_cons, List.map_nil]); first | done | rfl) ?_
  refine (few_calls size A22 c22 (l ++ [x]) w3 HC22.out hc22).mono ?_
  rintro e w4 ⟨r, rfl, hr, hb⟩
  have HB4 := Aside0.mk (below_step HB3.out hb)
  have HR := Aside0.mk hr
  clear hb hr
  refine ⟨_, rfl, ?_⟩
  refine hK.out _ _ (SS.out _ HB4.out) (fun hHeld => ?_)
  clear hK K
  refine norm_ (a' := ?_) ?_ ?_
  rotate_left
  · show Act.put _ (some 23) _ = _
    simp only [Act.put, List.setIfInBounds_toArray, List.set_cons_zero, List.set_cons_succ, i64_w, i32_w]
    rfl
  refine pure_ (i := 8) (N := some 24) (v := ?_) (a' := ?_) #[true, true, true, true, true, true, true, true, true] rfl rfl (by kernel_rfl) (fun _ _ _ h => h) (Or.inl ⟨by rfl, ?_⟩) ?_ ?_
  rotate_left
  · intro w'
    go_simp
    with_reducible rfl
  rotate_left
  · simp only [Act.put, List.setIfInBounds_toArray, List.set_cons_zero, List.set_cons_succ, i64_w, i32_w]
    rfl
  refine done_ (by kernel_rfl) ?_
  have HB5 := Aside0.mk (below_step HB1.out HB4.out)
  clear HB1 HB2 HB3 HB4 HBW SS FL FX HC22 hc22
  cases r with
  | false =>
    go_wp2_with fail
    go_ret
    exact ⟨rfl, below_step HAL.out HB5.out⟩
  | true =>
    have F := Aside0.mk (HR.out rfl)
    clear HR
    go_wp2_with fail
    obtain ⟨m, rfl⟩ := Int.eq_ofNat_of_zero_le (show 0 ≤ size by have := F.out.1; omega)
    have N := Aside0.mk (show 1 ≤ m ∧ m ≤ 64 ∧ l.length ≤ 20 ∧ (∀ y ∈ l, y.f3.length ≤ 64) ∧ x.f3.length ≤ 64 from ⟨by have := F.out.1; omega, by have := F.out.2.1; omega, by have := F.out.2.2.1; simp at this; omega, fun y hy => (F.out.2.2.2 y (by simp [hy])).1, (F.out.2.2.2 x (by simp)).1⟩)
    have OK0 := Aside0.mk (Dk.fresh_ok m N.out.1 (by have := N.out.2.1; omega))
    refine ((Sts.start HB5.out).new m N.out.1 (by have := N.out.2.1; omega)).mono ?_
    rintro e w5 ⟨g, rfl, hs, _⟩
    have S5 := Aside0.mk hs
    clear hs
    go_wp2_with fail
    refine (ref_new (ok := fun _ => False) m w5 (by have := N.out.2.1; omega)).mono ?_
    rintro e w6 ⟨v, rfl, hv, hb⟩
    have S6 := Aside0.mk (S5.out.fence hb)
    have HV6 := Aside0.mk hv
    obtain ⟨A0, c0, A2, c2, rfl, _, _⟩ := hv.form
    clear hb hv
    go_wp2_with fail
    have hv6 := HV6.out
    rw [List.length_map] at hv6
    have hal : Below w6.heap.size w6 (w6.alloc (.cells #[.slice A0 (Dk.fresh m).dur.length c0, .slice A2 (Dk.fresh m).pend.length c2, .int .i64 (Dk.fresh m).cnt, .bool (Dk.fresh m).failed] 50)) := below_alloc (Below.refl _ _) _
    have hw6 := S6.out.bel.size
    have L6 := Aside0.mk (show Loop w0 (w6.alloc (.cells #[.slice A0 (Dk.fresh m).dur.length c0, .slice A2 (Dk.fresh m).pend.length c2, .int .i64 (Dk.fresh m).cnt, .bool (Dk.fresh m).failed] 50)) w6.heap.size g (opsD m l 0) from ⟨_, _, A0, c0, A2, c2, S6.out.fence hal, hv6.below hal, fun k hk => by
      rcases hk with hk | hk
      · exact hk.elim
      · exact ⟨.inr (.inl (.inr hk)), by omega⟩, .inr ⟨Nat.le_refl _, by simp⟩, hw6, heap_alloc_new w6 _⟩)
    clear hw6 hal hv6
    generalize (w6.alloc (.cells #[.slice A0 (Dk.fresh m).dur.length c0, .slice A2 (Dk.fresh m).pend.length c2, .int .i64 (Dk.fresh m).cnt, .bool (Dk.fresh m).failed] 50)) = w7 at L6 ⊢
    generalize w6.heap.size = bx at L6 ⊢
    clear HV6 S6 S5 HB5
    go_loopw [7, 10] (fun vg vi wr => ∃ (k g' : Nat), k ≤ l.length ∧ vg = .pointer (some ⟨g', 0, none⟩) ∧ vi = .int .i64 (k : Int) ∧ Aside0 (Loop w0 wr bx g' (opsD m l k))) (fun _ vi _ => l.length - (intOf vi).toNat)
    case atStart => exact ⟨0, g, Nat.zero_le _, rfl, rfl, L6⟩
    case round =>
      obtain ⟨k, g', hk, rfl, rfl, LK⟩ := hrel
      have hl20 := N.out.2.2.1
      by_cases hlt : k < l.length
      · have hlt' : ((k : Int) < (l.length : Int)) := by omega
        obtain ⟨Q, ok, B0, d0, B2, d2, hs, hv, hko, hqb, hwb, hx⟩ := LK.out
        obtain ⟨ad, Y3, y3c, Y4, y4c, ead, y0, y1, y2, y3, y4, lz3, gz3, lz4, gz4⟩ := P.at_T44 (Kd.C_below HC1.out HAL.out) (k : Int) (by omega) (by omega)
        subst ead
        simp only [Int.toNat_natCast] at y0 y1 y2 y3 y4
        have hSS : ∀ w' : World, Below w0.heap.size w0 w' → w'.heap[bx]? = some (.cells #[.slice B0 (opsD m l k).dur.length d0, .slice B2 (opsD m l k).pend.length d2, .int .i64 (opsD m l k).cnt, .bool (opsD m l k).failed] 50 (0, 0)) → (w'.cell? ⟨bx, 0, none⟩ = some (.slice B0 (opsD m l k).dur.length d0) ∧ w'.cell? ⟨bx, 1, none⟩ = some (.slice B2 (opsD m l k).pend.length d2) ∧ w'.cell? ⟨bx, 2, none⟩ = some (.int .i64 (opsD m l k).cnt) ∧ w'.cell? ⟨bx, 3, none⟩ = some (.bool (opsD m l k).failed) ∧ w'.cell? (ad.add (k * 5)) = some (.int .i64 (P.rd_T44 l (k : Int)).f0) ∧ w'.cell? ⟨(ad.add (k * 5)).block, (ad.add (k * 5)).off + 1, none⟩ = some (.int .i64 (P.rd_T44 l (k : Int)).f1) ∧ w'.cell? ⟨(ad.add (k * 5)).block, (ad.add (k * 5)).off + 2, none⟩ = some (.int .i64 (P.rd_T44 l (k : Int)).f2) ∧ w'.cell? ⟨(ad.add (k * 5)).block, (ad.add (k * 5)).off + 3, none⟩ = some (.slice Y3 (P.rd_T44 l (k : Int)).f3.length y3c) ∧ w'.cell? ⟨(ad.add (k * 5)).block, (ad.add (k * 5)).off + 4, none⟩ = some (.slice Y4 (P.rd_T44 l (k : Int)).f4.length y4c)) := fun w' hb hx =>
          ⟨(blk_cell hx 0).trans rfl, (blk_cell hx 1).trans rfl, (blk_cell hx 2).trans rfl, (blk_cell hx 3).trans rfl, (hb.cell (World.block_lt_of_cell? _ _ y0)).trans y0, (hb.cell (World.block_lt_of_cell? _ _ y1)).trans y1, (hb.cell (World.block_lt_of_cell? _ _ y2)).trans y2, (hb.cell (World.block_lt_of_cell? _ _ y3)).trans y3, (hb.cell (World.block_lt_of_cell? _ _ y4)).trans y4⟩
        have SS := Aside0.mk hSS
        obtain ⟨z0, z1, z2, z3, y0, y1, y2, y3, y4⟩ := hSS wr hs.bel hx
        clear hSS
        have HS := Aside0.mk hs
        have HV := Aside0.mk hv
        have HKO := Aside0.mk hko
        have HQB := Aside0.mk hqb
        have HX := Aside0.mk hx
        have HWB := Aside0.mk hwb
        have G3' := Aside0.mk gz3
        have G4' := Aside0.mk gz4
        have OKK := Aside0.mk (opsD_ok m l N.out.1 (by have := N.out.2.1; omega) N.out.2.2.1 HWF.out k hk)
        have ES := Aside0.mk (opsD_succ m l k hlt)
        have HL3 := Aside0.mk (show (P.rd_T44 l (k : Int)).f3.length ≤ 64 by rw [rd_T44_get l k hlt]; exact N.out.2.2.2.1 _ (List.getElem_mem hlt))
        clear hs hv hko hqb hx hwb gz3 gz4
        go_wp2_with fail
        refine start_ (n := 13) (S := fun w' => w'.cell? ⟨bx, 0, none⟩ = some (.slice B0 (opsD m l k).dur.length d0) ∧ w'.cell? ⟨bx, 1, none⟩ = some (.slice B2 (opsD m l k).pend.length d2) ∧ w'.cell? ⟨bx, 2, none⟩ = some (.int .i64 (opsD m l k).cnt) ∧ w'.cell? ⟨bx, 3, none⟩ = some (.bool (opsD m l k).failed) ∧ w'.cell? (ad.add (k * 5)) = some (.int .i64 (P.rd_T44 l (k : Int)).f0) ∧ w'.cell? ⟨(ad.add (k * 5)).block, (ad.add (k * 5)).off + 1, none⟩ = some (.int .i64 (P.rd_T44 l (k : Int)).f1) ∧ w'.cell? ⟨(ad.add (k * 5)).block, (ad.add (k * 5)).off + 2, none⟩ = some (.int .i64 (P.rd_T44 l (k : Int)).f2) ∧ w'.cell? ⟨(ad.add (k * 5)).block, (ad.add (k * 5)).off + 3, none⟩ = some (.slice Y3 (P.rd_T44 l (k : Int)).f3.length y3c) ∧ w'.cell? ⟨(ad.add (k * 5)).block, (ad.add (k * 5)).off + 4, none⟩ = some (.slice Y4 (P.rd_T44 l (k : Int)).f4.length y4c)) (ds := [12]) #[false, false, false, false, false, false, false, false, false, false, false, false, false] (by kernel_rfl) rfl rfl ⟨z0, z1, z2, z3, y0, y1, y2, y3, y4⟩ (fun hHeld => ?_)
        refine pure_ (i := 0) (N := some 45) (v := ?_) (a' := ?_) #[true, false, false, false, false, false, false, false, false, false, false, false, false] rfl rfl (by kernel_rfl) (fun _ _ _ h => h) (Or.inl ⟨by rfl, ?_⟩) ?_ ?_
        rotate_left
        · intro w'
          go_simp
          with_reducible rfl
        rotate_left
        · simp only [Act.put, List.setIfInBounds_toArray, List.set_cons_zero, List.set_cons_succ, i64_w, i32_w]
          rfl
        refine take_ (i := 1) (N := some 46) (v := ?_) (a' := ?_) #[true, true, false, false, false, false, false, false, false, false, false, false, false] rfl rfl (by kernel_rfl) (fun _ _ _ h => h) (Or.inl ⟨by rfl, ?_⟩) hHeld ?_ ?_
        rotate_left
        · rintro w' ⟨s0, s1, s2, s3, s4, s5, s6, s7, s8⟩
          go_simp
          with_reducible rfl
        rotate_left
        · simp only [Act.put, List.setIfInBounds_toArray, List.set_cons_zero, List.set_cons_succ, i64_w, i32_w]
          rfl
        refine pure_ (i := 2) (N := some 47) (v := ?_) (a' := ?_) #[true, true, true, false, false, false, false, false, false, false, false, false, false] rfl rfl (by kernel_rfl) (fun _ _ _ h => h) (Or.inl ⟨by rfl, ?_⟩) ?_ ?_
        rotate_left
        · intro w'
          go_simp
          with_reducible rfl
        rotate_left
        · simp only [Act.put, List.setIfInBounds_toArray, List.set_cons_zero, List.set_cons_succ, i64_w, i32_w]
          rfl
        refine pure_ (i := 3) (N := some 48) (v := ?_) (a' := ?_) #[true, true, true, true, false, false, false, false, false, false, false, false, false] rfl rfl (by kernel_rfl) (fun _ _ _ h => h) (Or.inl ⟨by rfl, ?_⟩) ?_ ?_
        rotate_left
        · intro w'
          go_simp
          with_reducible rfl
        rotate_left
        · simp only [Act.put, List.setIfInBounds_toArray, List.set_cons_zero, List.set_cons_succ, i64_w, i32_w]
          rfl
        refine pure_ (i := 4) (N := some 49) (v := ?_) (a' := ?_) #[true, true, true, true, true, false, false, false, false, false, false, false, false] rfl rfl (by kernel_rfl) (fun _ _ _ h => h) (Or.inl ⟨by rfl, ?_⟩) ?_ ?_
        rotate_left
        · intro w'
          go_simp
          with_reducible rfl
        rotate_left
        · simp only [Act.put, List.setIfInBounds_toArray, List.set_cons_zero, List.set_cons_succ, i64_w, i32_w]
          rfl
        refine take_ (i := 5) (N := some 50) (v := ?_) (a' := ?_) #[true, true, true, true, true, true, false, false, false, false, false, false, false] rfl rfl (by kernel_rfl) (fun _ _ _ h => h) (Or.inl ⟨by rfl, ?_⟩) hHeld ?_ ?_
        rotate_left
        · rintro w' ⟨s0, s1, s2, s3, s4, s5, s6, s7, s8⟩
          go_simp
          with_reducible rfl
        rotate_left
        · simp only [Act.put, List.setIfInBounds_toArray, List.set_cons_zero, List.set_cons_succ, i64_w, i32_w]
          rfl
        have hs := HS.out.drew
        have hv := HV.out.below (below_drew (Below.refl _ _))
        have hx : wr.drew.heap[bx]? = some (.cells #[.slice B0 (opsD m l k).dur.length d0, .slice B2 (opsD m l k).pend.length d2, .int .i64 (opsD m l k).cnt, .bool (opsD m l k).failed] 50 (0, 0)) := HX.out
        clear hHeld
        generalize wr.drew = W at hs hv hx ⊢
        have HSW := Aside0.mk hs
        have HVW := Aside0.mk hv
        have HXW := Aside0.mk hx
        clear hs hv hx HS HV HX z0 z1 z2 z3 y0 y1 y2 y3 y4
        refine one_ (i := 6) (N := some 51) #[true, true, true, true, true, true, true, false, false, false, false, false, false] rfl rfl (by kernel_rfl) (by decide) (fun K hK => ?_)
        refine goes_ Try.func31 (by kernel_rfl) rfl #[.pointer (some ⟨g', 0, none⟩), .agg #[.slice B0 (opsD m l k).dur.length d0, .slice B2 (opsD m l k).pend.length d2, .int .i64 (opsD m l k).cnt, .bool (opsD m l k).failed], .agg #[.int .i64 (P.rd_T44 l (k : Int)).f0, .int .i64 (P.rd_T44 l (k : Int)).f1, .int .i64 (P.rd_T44 l (k : Int)).f2, .slice Y3 (P.rd_T44 l (k : Int)).f3.length y3c, .slice Y4 (P.rd_T44 l (k : Int)).f4.length y4c]] (by rfl) rfl rfl (by (try simp only [List.map_toArray, List.map_cons, List.map_nil]); first | done | rfl) ?_
        refine (applyAll_calls HSW.out OKK.out.1 HVW.out (fun k hk => (HKO.out k hk).1) (P.rd_T44 l (k : Int)) lz3 G3'.out lz4 G4'.out HL3.out).mono ?_
        rw [← ES.out]
        rintro e w8 ⟨g1, v1, rfl, Q1, hq1, hs1, hv1, hk1⟩
        obtain ⟨E0, e0, E2, e2, rfl, _, _⟩ := hv1.form
        rw [List.length_map] at hv1 ⊢
        have ML := Aside0.mk (loop_c HSW.out HQB.out HWB.out HXW.out HKO.out hq1 hs1 hv1 hk1)
        have hx8 := (hk1 _ HQB.out).trans HXW.out
        have hB8 := hs1.bel
        clear hq1 hs1 hv1 hk1
        refine ⟨_, rfl, ?_⟩
        refine hK.out _ _ (SS.out w8 hB8 hx8) (fun hHeld => ?_)
        clear hK K
        refine norm_ (a' := ?_) ?_ ?_
        rotate_left
        · show Act.put _ (some 51) _ = _
          simp only [Act.put, List.setIfInBounds_toArray, List.set_cons_zero, List.set_cons_succ, i64_w, i32_w]
          rfl
        refine pure_ (i := 7) (N := some 44) (v := ?_) (a' := ?_) #[true, true, true, true, true, true, true, true, false, false, false, false, false] rfl rfl (by kernel_rfl) (fun _ _ _ h => h) (Or.inl ⟨by rfl, ?_⟩) ?_ ?_
        rotate_left
        · intro w'
          go_simp
          with_reducible rfl
        rotate_left
        · simp only [Act.put, List.setIfInBounds_toArray, List.set_cons_zero, List.set_cons_succ, i64_w, i32_w]
          rfl
        refine pure_ (i := 8) (N := some 52) (v := ?_) (a' := ?_) #[true, true, true, true, true, true, true, true, true, false, false, false, false] rfl rfl (by kernel_rfl) (fun _ _ _ h => h) (Or.inl ⟨by rfl, ?_⟩) ?_ ?_
        rotate_left
        · intro w'
          go_simp
          with_reducible rfl
        rotate_left
        · simp only [Act.put, List.setIfInBounds_toArray, List.set_cons_zero, List.set_cons_succ, i64_w, i32_w]
          rfl
        refine pure_ (i := 9) (N := some 53) (v := ?_) (a' := ?_) #[true, true, true, true, true, true, true, true, true, true, false, false, false] rfl rfl (by kernel_rfl) (fun _ _ _ h => h) (Or.inl ⟨by rfl, ?_⟩) ?_ ?_
        rotate_left
        · intro w'
          go_simp
          with_reducible rfl
        rotate_left
        · simp only [Act.put, List.setIfInBounds_toArray, List.set_cons_zero, List.set_cons_succ, i64_w, i32_w]
          rfl
        refine pure_ (i := 10) (N := some 54) (v := ?_) (a' := ?_) #[true, true, true, true, true, true, true, true, true, true, true, false, false] rfl rfl (by kernel_rfl) (fun _ _ _ h => h) (Or.inl ⟨by rfl, ?_⟩) ?_ ?_
        rotate_left
        · intro w'
          go_simp
          with_reducible rfl
        rotate_left
        · simp only [Act.put, List.setIfInBounds_toArray, List.set_cons_zero, List.set_cons_succ, i64_w, i32_w]
          rfl
        refine pure_ (i := 11) (N := some 7) (v := ?_) (a' := ?_) #[true, true, true, true, true, true, true, true, true, true, true, true, false] rfl rfl (by kernel_rfl) (fun _ _ _ h => h) (Or.inl ⟨by rfl, ?_⟩) ?_ ?_
        rotate_left
        · intro w'
          go_simp
          with_reducible rfl
        rotate_left
        · simp only [Act.put, List.setIfInBounds_toArray, List.set_cons_zero, List.set_cons_succ, i64_w, i32_w]
          rfl
        have F0 := (blk_cell hx8 0).trans rfl
        have F1 := (blk_cell hx8 1).trans rfl
        have F2 := (blk_cell hx8 2).trans rfl
        have F3 := (blk_cell hx8 3).trans rfl
        have f0 := blk_frozen hx8 0
        have f1 := blk_frozen hx8 1
        have f2 := blk_frozen hx8 2
        have f3 := blk_frozen hx8 3
        clear hx8
        refine last_ (i := 12) (N := none) #[true, true, true, true, true, true, true, true, true, true, true, true, true] rfl rfl (by kernel_rfl) (by decide) (fun K hK => ?_)
        refine skip_ (w1 := ?_) (by rfl) rfl ?_ ?_
        rotate_left
        · go_simp
          first | rfl | exact ⟨rfl, rfl⟩
        refine hK.out _ _ ?_
        clear hK K
        refine done_ (by kernel_rfl) ?_
        have hML := ML.out
        clear F0 F1 F2 F3 f0 f1 f2 f3 ML
        generalize ((((w8.setCell ⟨bx, 0, none⟩ (.slice E0 (opsD m l (k + 1)).dur.length e0)).setCell ⟨bx, 1, none⟩ (.slice E2 (opsD m l (k + 1)).pend.length e2)).setCell ⟨bx, 2, none⟩ (.int .i64 (opsD m l (k + 1)).cnt)).setCell ⟨bx, 3, none⟩ (.bool (opsD m l (k + 1)).failed)) = w9 at hML ⊢
        have L9 := Aside0.mk hML
        clear hML
        go_wp2_with fail
        go_roundw
        case rel => exact ⟨k + 1, g1, hlt, rfl, by go_num, L9⟩
        case measure => simp [intOf]; omega
      · obtain rfl : k = l.length := by omega
        go_wp2_with fail
        obtain ⟨Q, ok, B0, d0, B2, d2, hs, hv, hko, hqb, hwb, hx⟩ := LK.out
        have OKK := Aside0.mk (opsD_ok m l N.out.1 (by have := N.out.2.1; omega) N.out.2.2.1 HWF.out l.length hk)
        clear LK
        generalize opsD m l l.length = D at hs hv hko hx OKK ⊢
        have HS := Aside0.mk hs
        have HV := Aside0.mk hv
        have HX := Aside0.mk hx
        have HKO := Aside0.mk hko
        have HQB := Aside0.mk hqb
        have HWB := Aside0.mk hwb
        clear hs hv hx hko hqb hwb
        refine (HS.out.clone 0 rfl OKK.out.1).mono ?_
        rintro e w8 ⟨gc, rfl, hsc, hkc⟩
        have SC := Aside0.mk hsc
        have HVC := Aside0.mk (HV.out.over (fun k hk => (HKO.out k hk).1) HS.out hsc hkc (fun _ h => h))
        have hx8 := (hkc _ HQB.out).trans HX.out
        have HX8 := Aside0.mk hx8
        have z0 := (blk_cell hx8 0).trans rfl
        have z1 := (blk_cell hx8 1).trans rfl
        have z2 := (blk_cell hx8 2).trans rfl
        have z3 := (blk_cell hx8 3).trans rfl
        clear hsc hkc hx8 HS HV HX
        go_wp2_with fail
        refine (same_calls SC.out 0 rfl OKK.out.1 HVC.out).mono ?_
        rintro e w9 ⟨rfl, hb⟩
        have S9 := Aside0.mk (SC.out.step hb)
        have HV9 := Aside0.mk (HVC.out.below hb)
        have hx9 := (hb.block _ (SC.out.lt _ HQB.out)).trans HX8.out
        have HX9 := Aside0.mk hx9
        clear z0 z1 z2 z3 hb
        have z0 := (blk_cell hx9 0).trans rfl
        have z1 := (blk_cell hx9 1).trans rfl
        have z2 := (blk_cell hx9 2).trans rfl
        have z3 := (blk_cell hx9 3).trans rfl
        have hy := (S9.out.bel.block _ LX.out).trans HXB.out
        have y0 := (blk_cell hy 0).trans rfl
        have y1 := (blk_cell hy 1).trans rfl
        have y2 := (blk_cell hy 2).trans rfl
        have y3 := (blk_cell hy 3).trans rfl
        have y4 := (blk_cell hy 4).trans rfl
        clear hx9 hy SC HVC HX8
        go_wp2_with fail
        refine (applyAll_calls S9.out OKK.out.1 HV9.out (fun k hk => (HKO.out k hk).1) x h3 (Kd.C_below G3.out HAL.out) h4 (Kd.C_below G4.out HAL.out) N.out.2.2.2.2).mono ?_
        rintro e w10 ⟨g1, v1, rfl, Q1, hq1, hs1, hv1, hk1⟩
        have OKX := Aside0.mk (stepD_ok OKK.out.1 (by have := OKK.out.2; have := N.out.2.2.1; omega) x hxf)
        obtain ⟨E0, e0, E2, e2, rfl, _, _⟩ := hv1.form
        rw [List.length_map] at hv1 ⊢
        have S10 := Aside0.mk hs1
        have HV10 := Aside0.mk (HV9.out.over (fun k hk => (HKO.out k hk).1) (S9.out) (hs1.mono hq1) hk1 (fun _ h => h))
        have HW10 := Aside0.mk hv1
        have HX10 := Aside0.mk ((hk1 _ HQB.out).trans HX9.out)
        have HQ1 := Aside0.mk (hq1 _ HQB.out)
        clear hs1 hv1 hk1 hq1 z0 z1 z2 z3 y0 y1 y2 y3 y4 S9 HV9 HX9
        generalize stepD D x = D2 at S10 HW10 OKX ⊢
        go_wp2_with fail
        have hal : Below w10.heap.size w10 (w10.alloc (.cells #[.slice E0 D2.dur.length e0, .slice E2 D2.pend.length e2, .int .i64 D2.cnt, .bool D2.failed] 50)) := below_alloc (Below.refl _ _) _
        have hs11 := S10.out.step hal
        have hv11 := HV10.out.below hal
        have hw11 := HW10.out.below hal
        have hx11 := (hal.block _ (S10.out.lt _ HQ1.out)).trans HX10.out
        generalize (w10.alloc (.cells #[.slice E0 D2.dur.length e0, .slice E2 D2.pend.length e2, .int .i64 D2.cnt, .bool D2.failed] 50)) = w11 at hal hs11 hv11 hw11 hx11 ⊢
        have S11 := Aside0.mk hs11
        have HV11 := Aside0.mk hv11
        have HX11 := Aside0.mk hx11
        refine (same_calls hs11 0 rfl OKX.out hw11).mono ?_
        clear hal hs11 hv11 hw11 hx11
        rintro e w12 ⟨rfl, hb⟩
        have S12 := Aside0.mk (S11.out.step hb)
        have HV12 := Aside0.mk (HV11.out.below hb)
        have hx12 := (hb.block _ (S11.out.lt _ HQ1.out)).trans HX11.out
        have z0 := (blk_cell hx12 0).trans rfl
        have z1 := (blk_cell hx12 1).trans rfl
        have z2 := (blk_cell hx12 2).trans rfl
        have z3 := (blk_cell hx12 3).trans rfl
        clear hb hx12
        go_wp2_with fail
        refine (same_calls S12.out 1 rfl OKK.out.1 HV12.out).mono ?_
        rintro e w13 ⟨rfl, hb⟩
        have HB13 := Aside0.mk (S12.out.step hb).bel
        clear hb
        go_wp2_with fail
        go_ret
        exact ⟨rfl, below_step HAL.out HB13.out⟩
end Go.Proofs.Ytbbokpkpdnppjaa
