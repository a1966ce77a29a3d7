/- The log: syncing, the records, a failed disk. -/
import Derived.Test.YtbbokpkpdnppjaaM3
namespace Go.Proofs.Ytbbokpkpdnppjaa
open Go.RowKit Go.Proofs.YtbbokpkpdnppjaaW.PrintWords Go.Proofs.YtbbokpkpdnppjaaW.PrintLast Go.Proofs.YtbbokpkpdnppjaaW.PrintMore
set_option linter.unusedVariables false
set_option linter.unusedSimpArgs false

set_option maxRecDepth 100000 in
set_option maxHeartbeats 8000000 in
theorem openFailed_calls {w0 W : World} {Q : Nat → Prop} {R : List (Nat × Dk)} {gd : Nat} {D : Dk} (h : Sts w0 W Q ((gd, D) :: R)) (hf : D.failed = true) :
    Calls Try.prog 36 #[.pointer (some ⟨gd, 0, none⟩)] W fun e W' => e = .returned (.tuple #[.pointer none, .int .i64 11]) ∧ W = W' := by
  have H := Aside0.mk h
  clear h
  go_enter Try.func36, Try.ntmps36
  go_wp2_with fail
  refine (H.out.failed 0 rfl).mono ?_
  rw [hf]
  rintro e w1 ⟨rfl, rfl⟩
  go_wp2_with fail
  go_ret2
  exact ⟨rfl, rfl⟩
def syncL (L : Lg) (D : Dk) : Lg := if D.sync.2 = 0 then ⟨L.slot, L.base, L.end_, L.end_, L.recs⟩ else L
set_option maxRecDepth 100000 in
set_option maxHeartbeats 8000000 in
theorem LogSync_calls {w0 W : World} {Q rok : Nat → Prop} {g gd : Nat} {L : Lg} {D : Dk} (h : LogS w0 W Q rok g gd L D) (hok : D.Ok) :
    Calls Try.prog 44 #[.pointer (some ⟨g, 0, none⟩)] W fun e W' => e = .returned (.int .i64 D.sync.2) ∧ LogPost w0 W Q rok g gd (syncL L D) D.sync.1 W' := by
  obtain ⟨hs, v, hg, hN, hro, hQg, hwg⟩ := h
  obtain ⟨Av, cv, rfl⟩ := Kd.N_slice hN
  generalize hnv : L.recs.length = nv at hg hN
  have S0 := Aside0.mk hs
  have G0 := Aside0.mk hg
  have N0 := Aside0.mk hN
  have HRO := Aside0.mk hro
  clear hs hg hN hro
  have F0 := (blk_cell G0.out 0).trans rfl
  go_enter Try.func44, Try.ntmps44
  go_wp2_with fail
  refine (S0.out.sync 0 rfl hok).mono ?_
  rintro e W1 ⟨rfl, hs, hk⟩
  have S1 := Aside0.mk (show Sts w0 W1 Q [(gd, D.sync.1)] from hs)
  have K1 := Aside0.mk hk
  have G1 := Aside0.mk ((hk g hQg).trans G0.out)
  have N1 := Aside0.mk (Kd.N_step N0.out (w1 := W1) (fun k h _ => hk k (HRO.out k h).1))
  clear hs hk F0
  have F3 := (blk_cell G1.out 3).trans rfl
  have F4 := (blk_cell G1.out 4).trans rfl
  have f4 := blk_frozen G1.out 4
  by_cases h0 : D.sync.2 = 0
  · have hL : syncL L D = ⟨L.slot, L.base, L.end_, L.end_, L.recs⟩ := by rw [syncL, if_pos h0]
    go_wp2_with fail
    go_ret
    refine ⟨by rw [h0]; rfl, Q, rok, fun _ h => h, fun _ h => .inl h, ?_, fun k hk => (Below.heap_setCell W1 ⟨g, 4, none⟩ _ k hk.2.2).trans (K1.out k hk.1)⟩
    rw [hL]
    exact ⟨S1.out.poke g hQg hwg 4 _, .slice Av nv cv, blk_put (cs := #[.pointer (some ⟨gd, 0, none⟩), .int .i64 L.slot, .int .i64 L.base, .int .i64 L.end_, .int .i64 L.synced, .slice Av nv cv]) G1.out 4 _ rfl, Kd.N_far N1.out (p := ⟨g, 4, none⟩) (fun k hk => (HRO.out k hk).2) _, HRO.out, hQg, hwg⟩
  · have hL : syncL L D = L := by rw [syncL, if_neg h0]
    go_wp2_with fail
    go_ret
    refine ⟨rfl, Q, rok, fun _ h => h, fun _ h => .inl h, ?_, fun k hk => K1.out k hk.1⟩
    rw [hL]
    exact ⟨S1.out, .slice Av nv cv, G1.out, N1.out, HRO.out, hQg, hwg⟩
set_option maxRecDepth 100000 in
set_option maxHeartbeats 8000000 in
theorem Records_calls {w0 W : World} {Q rok : Nat → Prop} {g gd : Nat} {L : Lg} {D : Dk} (h : LogS w0 W Q rok g gd L D) (hrl : L.recs.length ≤ 4194304) (hdl : ∀ r ∈ L.recs, r.f1.length ≤ 4194304) :
    Calls Try.prog 41 #[.pointer (some ⟨g, 0, none⟩)] W fun e W' => ∃ v, e = .returned v ∧ Kd.R G.k73 73 W' W.heap.size (fun k => W.heap.size ≤ k) v L.recs ∧ Below W.heap.size W W' := by
  obtain ⟨hs, v, hg, hN, hro, hQg, hwg⟩ := h
  obtain ⟨Av, cv, rfl⟩ := Kd.N_slice hN
  have G0 := Aside0.mk hg
  have N0 := Aside0.mk hN
  have HDL := Aside0.mk hdl
  clear hs hg hN hro hdl
  have F5 := (blk_cell G0.out 5).trans rfl
  go_enter Try.func41, Try.ntmps41
  go_wp2_with fail
  clear F5
  go_loopw [3, 11] (fun vo vi wr => ∃ (k nu cu : Nat) (Au : Option Addr), k ≤ L.recs.length ∧ vi = .int .i64 (k : Int) ∧ vo = .slice Au nu cu ∧ Aside0 (Kd.R G.k73 73 wr W.heap.size (fun k => W.heap.size ≤ k) (.slice Au nu cu) (L.recs.take k)) ∧ Aside0 (Below W.heap.size W wr)) (fun _ vi _ => L.recs.length - (intOf vi).toNat)
  case atStart => exact ⟨0, 0, 0, none, Nat.zero_le _, rfl, rfl, Aside0.mk (Kd.R_nil _ _ _ _ _), Aside0.mk (Below.refl _ _)⟩
  case round =>
    obtain ⟨k, nu, cu, Au, hk, rfl, rfl, NO, BB⟩ := hrel
    by_cases hlt : k < L.recs.length
    · have hlt' : ((k : Int) < (L.recs.length : Int)) := by omega
      have hNr := Kd.N_below N0.out BB.out
      obtain ⟨ad, A1, c1, ead, y0, y1, hc1, hC1⟩ := G.at_T73 (Kd.N_reads' hNr).2.2 (k : Int) (by omega) (by omega)
      subst ead
      simp only [Int.toNat_natCast] at y0 y1
      have HC1 := Aside0.mk hC1
      have HD := Aside0.mk (show (G.rd_T73 L.recs (k : Int)).f1.length ≤ 4194304 from by
        have e : G.rd_T73 L.recs (k : Int) = L.recs[k] := by simp [G.rd_T73, List.getD_eq_getElem?_getD, hlt]
        rw [e]; exact HDL.out _ (List.getElem_mem hlt))
      clear hNr hC1
      go_wp2_with fail
      have hal : Below wr.heap.size wr (wr.alloc (.cells #[.int .i64 (G.rd_T73 L.recs (k : Int)).f0, .slice A1 (G.rd_T73 L.recs (k : Int)).f1.length c1] 73)) := below_alloc (Below.refl _ _) _
      have hxb : (wr.alloc (.cells #[.int .i64 (G.rd_T73 L.recs (k : Int)).f0, .slice A1 (G.rd_T73 L.recs (k : Int)).f1.length c1] 73)).heap[wr.heap.size]? = some (.cells #[.int .i64 (G.rd_T73 L.recs (k : Int)).f0, .slice A1 (G.rd_T73 L.recs (k : Int)).f1.length c1] 73 (0, 0)) := heap_alloc_new wr _
      generalize (wr.alloc (.cells #[.int .i64 (G.rd_T73 L.recs (k : Int)).f0, .slice A1 (G.rd_T73 L.recs (k : Int)).f1.length c1] 73)) = Wb at hal hxb ⊢
      have NOB := Aside0.mk (Kd.R_below NO.out hal)
      have BBB := Aside0.mk (below_step BB.out hal)
      have HCB := Aside0.mk (Kd.C_below HC1.out hal)
      have HOX := Aside0.mk (show some wr.heap.size ≠ (Value.slice Au nu cu).ownBlock from fun e => by have := Kd.R_lt NO.out _ e.symm; omega)
      generalize wr.heap.size = bx at hxb HOX ⊢
      have XB := Aside0.mk hxb
      clear y0 y1 hal
      have y0 := (blk_cell hxb 0).trans rfl
      have y1 := (blk_cell hxb 1).trans rfl
      clear hxb
      refine start_ (n := 10) (S := fun w' => w'.cell? ⟨bx, 0, none⟩ = some (.int .i64 (G.rd_T73 L.recs (k : Int)).f0) ∧ w'.cell? ⟨bx, 1, none⟩ = some (.slice A1 (G.rd_T73 L.recs (k : Int)).f1.length c1)) (ds := []) #[false, false, false, false, false, false, false, false, false, false] (by kernel_rfl) rfl rfl ⟨y0, y1⟩ (fun hHeld => ?_)
      have hbd : Below Wb.heap.size Wb Wb.drew := below_drew (Below.refl _ _)
      have hX2 : Wb.drew.heap[bx]? = some (.cells #[.int .i64 (G.rd_T73 L.recs (k : Int)).f0, .slice A1 (G.rd_T73 L.recs (k : Int)).f1.length c1] 73 (0, 0)) := XB.out
      have NO2 := Aside0.mk (Kd.R_below NOB.out hbd)
      have HC2 := Aside0.mk (Kd.C_below HCB.out hbd)
      have BB2 := Aside0.mk (below_step BBB.out hbd)
      clear hHeld hbd y0 y1
      generalize Wb.drew = W2 at hX2 NO2 HC2 BB2 ⊢
      have X2 := Aside0.mk hX2
      have y0 := (blk_cell hX2 0).trans rfl
      have y1 := (blk_cell hX2 1).trans rfl
      clear hX2
      have hHeld : W2.cell? ⟨bx, 0, none⟩ = some (.int .i64 (G.rd_T73 L.recs (k : Int)).f0) ∧ W2.cell? ⟨bx, 1, none⟩ = some (.slice A1 (G.rd_T73 L.recs (k : Int)).f1.length c1) := ⟨y0, y1⟩
      refine pure_ (i := 0) (N := some 15) (v := ?_) (a' := ?_) #[true, false, false, false, false, false, false, false, false, false] rfl rfl (by kernel_rfl) (fun _ _ _ h => h) (Or.inl ⟨by rfl, ?_⟩) ?_ ?_
      rotate_left
      · intro w'
        go_simp
        with_reducible rfl
      rotate_left
      · simp only [Act.put, List.setIfInBounds_toArray, List.set_cons_zero, List.set_cons_succ, i64_w, i32_w]
        rfl
      refine pure_ (i := 1) (N := some 16) (v := ?_) (a' := ?_) #[true, true, false, false, false, false, false, false, false, false] rfl rfl (by kernel_rfl) (fun _ _ _ h => h) (Or.inl ⟨by rfl, ?_⟩) ?_ ?_
      rotate_left
      · intro w'
        go_simp
        with_reducible rfl
      rotate_left
      · simp only [Act.put, List.setIfInBounds_toArray, List.set_cons_zero, List.set_cons_succ, i64_w, i32_w]
        rfl
      refine take_ (i := 2) (N := some 17) (v := ?_) (a' := ?_) #[true, true, true, false, false, false, false, false, false, false] rfl rfl (by kernel_rfl) (fun _ _ _ h => h) (Or.inl ⟨by rfl, ?_⟩) hHeld ?_ ?_
      rotate_left
      · rintro w' ⟨s0, s1⟩
        go_simp
        with_reducible rfl
      rotate_left
      · simp only [Act.put, List.setIfInBounds_toArray, List.set_cons_zero, List.set_cons_succ, i64_w, i32_w]
        rfl
      refine pure_ (i := 3) (N := some 18) (v := ?_) (a' := ?_) #[true, true, true, true, false, false, false, false, false, false] rfl rfl (by kernel_rfl) (fun _ _ _ h => h) (Or.inl ⟨by rfl, ?_⟩) ?_ ?_
      rotate_left
      · intro w'
        go_simp
        with_reducible rfl
      rotate_left
      · simp only [Act.put, List.setIfInBounds_toArray, List.set_cons_zero, List.set_cons_succ, i64_w, i32_w]
        rfl
      refine take_ (i := 4) (N := some 19) (v := ?_) (a' := ?_) #[true, true, true, true, true, false, false, false, false, false] rfl rfl (by kernel_rfl) (fun _ _ _ h => h) (Or.inl ⟨by rfl, ?_⟩) hHeld ?_ ?_
      rotate_left
      · rintro w' ⟨s0, s1⟩
        go_simp
        with_reducible rfl
      rotate_left
      · simp only [Act.put, List.setIfInBounds_toArray, List.set_cons_zero, List.set_cons_succ, i64_w, i32_w]
        rfl
      refine one_ (i := 5) (N := some 20) #[true, true, true, true, true, true, false, false, false, false] rfl rfl (by kernel_rfl) (by decide) (fun K hK => ?_)
      refine goes_ Try.func75 (by kernel_rfl) rfl #[.slice A1 (G.rd_T73 L.recs (k : Int)).f1.length c1] (by rfl) rfl rfl (by (try simp only [List.map_toArray, List.map_cons, List.map_nil]); first | done | rfl) ?_
      refine (clone75_calls A1 c1 (G.rd_T73 L.recs (k : Int)).f1 W2 HC2.out hc1 (by have := HD.out; omega)).mono ?_
      rintro e W3 ⟨vc, rfl, hr, hb⟩
      obtain ⟨Ac, cc, rfl⟩ := Kd.R_slice hr
      have RC := Aside0.mk hr
      have B3 := Aside0.mk hb
      have NO3 := Aside0.mk (Kd.R_below NO2.out hb)
      have BB3 := Aside0.mk (below_step BB2.out hb)
      have X3 := Aside0.mk ((hb.block bx (blk_lt X2.out)).trans X2.out)
      have y0 := (blk_cell X3.out 0).trans rfl
      have y1 := (blk_cell X3.out 1).trans rfl
      clear hr hb
      refine ⟨_, rfl, ?_⟩
      refine hK.out _ _ ⟨y0, y1⟩ (fun hHeld => ?_)
      clear hK K
      refine norm_ (a' := ?_) ?_ ?_
      rotate_left
      · show Act.put _ (some 20) _ = _
        simp only [Act.put, List.setIfInBounds_toArray, List.set_cons_zero, List.set_cons_succ, i64_w, i32_w]
        rfl
      refine pure_ (i := 6) (N := some 21) (v := ?_) (a' := ?_) #[true, true, true, true, true, true, true, false, false, false] rfl rfl (by kernel_rfl) (fun _ _ _ h => h) (Or.inl ⟨by rfl, ?_⟩) ?_ ?_
      rotate_left
      · intro w'
        go_simp
        with_reducible rfl
      rotate_left
      · simp only [Act.put, List.setIfInBounds_toArray, List.set_cons_zero, List.set_cons_succ, i64_w, i32_w]
        rfl
      refine one_ (i := 7) (N := some 22) #[true, true, true, true, true, true, true, true, false, false] rfl rfl (by kernel_rfl) (by decide) (fun K hK => ?_)
      refine value_ (w1 := W3.alloc (.cells #[.int .i64 (G.rd_T73 L.recs (k : Int)).f0, .slice Ac (G.rd_T73 L.recs (k : Int)).f1.length cc] 73)) (v := .slice (some ⟨W3.heap.size, 0, none⟩) 1 1) (by rfl) rfl (by go_simp; try rfl) ?_
      have hal : Below W3.heap.size W3 (W3.alloc (.cells #[.int .i64 (G.rd_T73 L.recs (k : Int)).f0, .slice Ac (G.rd_T73 L.recs (k : Int)).f1.length cc] 73)) := below_alloc (Below.refl _ _) _
      have hx4 := (hal.block bx (blk_lt X3.out)).trans X3.out
      have y0 := (blk_cell hx4 0).trans rfl
      have y1 := (blk_cell hx4 1).trans rfl
      refine hK.out _ _ ⟨y0, y1⟩ (fun hHeld => ?_)
      clear hK K
      refine norm_ (a' := ?_) ?_ ?_
      rotate_left
      · show Act.put _ (some 22) _ = _
        simp only [Act.put, List.setIfInBounds_toArray, List.set_cons_zero, List.set_cons_succ, i64_w, i32_w]
        rfl
      refine one_ (i := 8) (N := some 23) #[true, true, true, true, true, true, true, true, true, false] rfl rfl (by kernel_rfl) (by decide) (fun K hK => ?_)
      refine Kd.R_append_step G.k73 (w0 := W) (W := W3) W.heap.size (by rfl) (.tmp 15) (.tmp 22) 62 73 (.agg #[.int .i64 0, .slice none 0 0]) 32 rfl Try.underlying62 G.info73 rfl (by decide) (by omega) (.slice Au nu cu) (L.recs.take k) (G.rd_T73 L.recs (k : Int)) [.int .i64 (G.rd_T73 L.recs (k : Int)).f0, .slice Ac (G.rd_T73 L.recs (k : Int)).f1.length cc] (fun q_ => W.heap.size ≤ q_) (fun q_ => (Value.slice Ac (G.rd_T73 L.recs (k : Int)).f1.length cc).ownBlock = some q_) rfl rfl (G.k73_mkM W3 W.heap.size _ (G.rd_T73 L.recs (k : Int)) (Kd.R_lower (R_own_ok RC.out) BB2.out.size)) (fun j hj => ⟨Nat.le_trans BB2.out.size (Kd.R_base RC.out j hj), fun e => by have h1 := Kd.R_base RC.out j hj; have h2 := Kd.R_lt NO2.out j e.symm; omega⟩) (fun j hj => Nat.le_trans BB3.out.size hj) NO3.out BB3.out BB3.out.size (by rw [List.length_take]; omega) ?_
      intro v4 W4 hn hb4 hg _
      obtain ⟨A4, c4, rfl⟩ := Kd.R_slice hn
      have hlen4 : (L.recs.take k ++ [(G.rd_T73 L.recs (k : Int))]).length = k + 1 := by rw [List.length_append, List.length_take, List.length_singleton]; omega
      rw [hlen4] at hn ⊢
      have NO4 := Aside0.mk hn
      have BB4 := Aside0.mk hb4
      have hx5 := (hg.block bx (blk_lt X3.out) (fun e => HOX.out e)).trans X3.out
      have y0 := (blk_cell hx5 0).trans rfl
      have y1 := (blk_cell hx5 1).trans rfl
      clear hn hb4 hg hx5
      refine hK.out _ _ ⟨y0, y1⟩ (fun hHeld => ?_)
      clear hK K
      refine norm_ (a' := ?_) ?_ ?_
      rotate_left
      · show Act.put _ (some 23) _ = _
        simp only [Act.put, List.setIfInBounds_toArray, List.set_cons_zero, List.set_cons_succ, i64_w, i32_w]
        rfl
      refine pure_ (i := 9) (N := some 3) (v := ?_) (a' := ?_) #[true, true, true, true, true, true, true, true, true, true] rfl rfl (by kernel_rfl) (fun _ _ _ h => h) (Or.inl ⟨by rfl, ?_⟩) ?_ ?_
      rotate_left
      · intro w'
        go_simp
        with_reducible rfl
      rotate_left
      · simp only [Act.put, List.setIfInBounds_toArray, List.set_cons_zero, List.set_cons_succ, i64_w, i32_w]
        rfl
      refine done_ (by kernel_rfl) ?_
      go_wp2_with fail
      go_roundw
      case rel => exact ⟨k + 1, _, _, _, hlt, by go_num, rfl, Aside0.mk (by
        have h9 := NO4.out
        rw [List.take_add_one, List.getElem?_eq_getElem hlt]
        have e : G.rd_T73 L.recs (k : Int) = L.recs[k] := by simp [G.rd_T73, List.getD_eq_getElem?_getD, hlt]
        rw [e] at h9
        exact h9), BB4⟩
      case measure => simp [intOf]; omega
    · obtain rfl : k = L.recs.length := by omega
      go_wp2_with fail
      go_ret
      refine ⟨_, rfl, ?_, BB.out⟩
      have := NO.out
      rwa [List.take_length] at this
end Go.Proofs.Ytbbokpkpdnppjaa
