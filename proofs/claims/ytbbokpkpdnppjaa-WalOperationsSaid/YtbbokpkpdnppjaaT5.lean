/- A part of the proof of WalOperations. -/
import Derived.Test.YtbbokpkpdnppjaaU0
import Derived.Test.YtbbokpkpdnppjaaUA
import Derived.Test.YtbbokpkpdnppjaaT4
namespace Go.Proofs.Ytbbokpkpdnppjaa
open Go.RowKit Go.Proofs.YtbbokpkpdnppjaaW.PrintWords Go.Proofs.YtbbokpkpdnppjaaW.PrintLast Go.Proofs.YtbbokpkpdnppjaaW.PrintMore
set_option linter.unusedVariables false
set_option linter.unusedSimpArgs false
theorem RS.app {w wk w8 : World} {ok okk : Nat → Prop} {bs : List (Nat × TypeId × Array Value)} {A0 A1 A6 A8 : Option Addr} {c0 c1 c6 c8 : Nat} {D : Dk} {rs rs' : List G.S73} (h : RS w wk ok bs A0 c0 A1 c1 D A6 c6 rs) (hokk : ∀ k, okk k → (ok k ∨ w.heap.size ≤ k) ∧ k < wk.heap.size ∧ ∀ (i b : Nat) (t : TypeId) (cs : Array Value), bs[i]? = some (b, t, cs) → k ≠ b) (hb : Below wk.heap.size wk w8)
  (hn : Kd.N G.k73 73 w8 wk.heap.size (fun k => (okk k ∨ (ok k ∧ k < w.heap.size)) ∧ k < wk.heap.size ∨ wk.heap.size ≤ k) (.slice A8 rs'.length c8) rs') : RS w w8 ok bs A0 c0 A1 c1 D A8 c8 rs' := by
 refine (h.below hb).newrecs (Kd.N_V (base' := 0) (Kd.N_bound hn)) (fun k hk => ?_)
 obtain ⟨hk, hlt⟩ := hk
 have hsz := h.1.size
 rcases hk with ⟨hk | hk, hk2⟩ | hk
 ·exact ⟨(hokk k hk).1, hlt, (hokk k hk).2.2⟩
 ·exact ⟨.inl hk.1, hlt, fun i b t cs hi => by have := (h.2.1 i b t cs hi).1; omega⟩
 ·exact ⟨.inr (Nat.le_trans hsz hk), hlt, fun i b t cs hi => by have := blk_lt (h.2.1 i b t cs hi).2; omega⟩
set_option maxRecDepth 100000 in
set_option maxHeartbeats 8000000 in
theorem refAppend_calls {w : World} {ok : Nat → Prop} {v : Value} {L : Lg} {D : Dk} (h : RefL w ok v L D) (hok : D.Ok) (hpn : D.pend.length < 900) (hp1 : wrap64 (wrap64 (24 + L.end_) - L.base) = (L.pos : Int)) (hp2 : L.pos ≤ D.dur.length) (hrl : L.recs.length ≤ 4194304) (A : Option Addr) (c : Nat) (data : List Int) (hC : Kd.C (Kd.int .u8) w A data.length data) (hc : data.length ≤ c) (hd : data.length ≤ 60) (hF : Kd.F (Kd.int .u8) w ok A data.length data) :
  Calls Try.prog 47 #[v, .slice A data.length c] w fun e w' => ∃ v', e = .returned (.tuple #[v', .int .i64 (appendL L D L.pos data).2.2.1, .int .i64 (appendL L D L.pos data).2.2.2]) ∧ RefL w' (New ok w w') v' (appendL L D L.pos data).1 (appendL L D L.pos data).2.1 ∧ Below w.heap.size w w' := by
 obtain ⟨A0, c0, A1, c1, A6, c6, rfl, HS⟩ := h.start
 replace HS := AM HS
 have HC := AM hC
 have HFD := AM (Kd.F_bound hF)
 have hu64 := Try.underlying64
 have hu50 := Try.underlying50
 have hbig := hok.big
 clear h hC hF
 replace HS := AM (HS.out.alloc 64 #[.slice A0 D.dur.length c0, .slice A1 D.pend.length c1, .int .i64 D.cnt, .bool D.failed, .int .i64 L.base, .int .i64 L.slot, .slice A6 L.recs.length c6, .int .i64 L.end_, .int .i64 L.synced])
 replace HS := AM (HS.out.alloc 64 #[.slice none 0 0, .slice none 0 0, .int .i64 0, .bool false, .int .i64 0, .int .i64 0, .slice none 0 0, .int .i64 0, .int .i64 0])
 rw [World.size_alloc] at HS
 obtain ⟨a, hpa, hal⟩ : ∃ a : Nat, a = L.pos ∧ a ≤ D.dur.length := ⟨_, rfl, hp2⟩
 rw [← hpa] at hp1 ⊢
 have HP := AM hp1
 clear hp1 hp2 hpa
 have hw1 : wrap64 ((a : Int) + 16) = (a : Int) + 16 := w64 (by omega) (by omega)
 have hw2 : wrap64 ((a : Int) + 16 + (data.length : Int)) = (a : Int) + 16 + (data.length : Int) := w64 (by omega) (by omega)
 go_enter Try.func47, Try.ntmps47
 go_upto_region 1 with fail
 generalize (w.alloc _).alloc _ = w2 at HS ⊢
 have z00 := (blk_cell (HS.out.blk 1 rfl) 0).trans rfl
 have z04 := (blk_cell (HS.out.blk 1 rfl) 4).trans rfl
 have z07 := (blk_cell (HS.out.blk 1 rfl) 7).trans rfl
 go_upto_region 2 with fail
 rw [HP.out]
 have hs_ : True := trivial
 clear hs_
 by_cases k1 : (D.dur.length : Int) < (data.length : Int)
 ·have HL := AM (show appendL L D a data = (L, D, 0, 6) by rw [appendL, if_neg (by omega)])
  clear z00 z04 z07
  obtain ⟨z00, z01, z02, z03, z04, z05, z06, z07, z08⟩ := bn (HS.out.blk 1 rfl)
  obtain ⟨z10, z11, z12, z13, z14, z15, z16, z17, z18⟩ := bn (HS.out.blk 0 rfl)
  obtain ⟨f10, f11, f12, f13, f14, f15, f16, f17, f18⟩ := fn (HS.out.blk 0 rfl)
  go_wp2_with fail
  clear z00 z01 z02 z03 z04 z05 z06 z07 z08 z10 z11 z12 z13 z14 z15 z16 z17 z18 f10 f11 f12 f13 f14 f15 f16 f17 f18
  replace HS := AM (show RS w _ ok [(w.heap.size + 1, 64, #[.slice A0 D.dur.length c0, .slice A1 D.pend.length c1, .int .i64 D.cnt, .bool D.failed, .int .i64 L.base, .int .i64 L.slot, .slice A6 L.recs.length c6, .int .i64 L.end_, .int .i64 L.synced]), (w.heap.size, 64, #[.slice A0 D.dur.length c0, .slice A1 D.pend.length c1, .int .i64 D.cnt, .bool D.failed, .int .i64 L.base, .int .i64 L.slot, .slice A6 L.recs.length c6, .int .i64 L.end_, .int .i64 L.synced])] _ _ _ _ _ _ _ _ from HS.out.puts [(0, .slice A0 D.dur.length c0), (1, .slice A1 D.pend.length c1), (2, .int .i64 D.cnt), (3, .bool D.failed), (4, .int .i64 L.base), (5, .int .i64 L.slot), (6, .slice A6 L.recs.length c6), (7, .int .i64 L.end_), (8, .int .i64 L.synced)] 0 rfl)
  refine bodyPost_ret (results_ctt rfl _ _ (w.heap.size + 1) 64 #[.slice A0 D.dur.length c0, .slice A1 D.pend.length c1, .int .i64 D.cnt, .bool D.failed, .int .i64 L.base, .int .i64 L.slot, .slice A6 L.recs.length c6, .int .i64 L.end_, .int .i64 L.synced] (0, 0) _ rfl (HS.out.blk 0 rfl) Try.underlying64 rfl (by kernel_rfl)) rfl ?_
  rw [HL.out]
  exact ⟨_, rfl, HS.out.done L rfl⟩
 by_cases k2 : (D.dur.length : Int) < (a : Int) + 16 + (data.length : Int)
 ·have HL := AM (show appendL L D a data = (L, D, 0, 6) by rw [appendL, if_neg (by omega)])
  clear z00 z04 z07
  obtain ⟨z00, z01, z02, z03, z04, z05, z06, z07, z08⟩ := bn (HS.out.blk 1 rfl)
  obtain ⟨z10, z11, z12, z13, z14, z15, z16, z17, z18⟩ := bn (HS.out.blk 0 rfl)
  obtain ⟨f10, f11, f12, f13, f14, f15, f16, f17, f18⟩ := fn (HS.out.blk 0 rfl)
  go_wp2_with fail
  clear z00 z01 z02 z03 z04 z05 z06 z07 z08 z10 z11 z12 z13 z14 z15 z16 z17 z18 f10 f11 f12 f13 f14 f15 f16 f17 f18
  replace HS := AM (show RS w _ ok [(w.heap.size + 1, 64, #[.slice A0 D.dur.length c0, .slice A1 D.pend.length c1, .int .i64 D.cnt, .bool D.failed, .int .i64 L.base, .int .i64 L.slot, .slice A6 L.recs.length c6, .int .i64 L.end_, .int .i64 L.synced]), (w.heap.size, 64, #[.slice A0 D.dur.length c0, .slice A1 D.pend.length c1, .int .i64 D.cnt, .bool D.failed, .int .i64 L.base, .int .i64 L.slot, .slice A6 L.recs.length c6, .int .i64 L.end_, .int .i64 L.synced])] _ _ _ _ _ _ _ _ from HS.out.puts [(0, .slice A0 D.dur.length c0), (1, .slice A1 D.pend.length c1), (2, .int .i64 D.cnt), (3, .bool D.failed), (4, .int .i64 L.base), (5, .int .i64 L.slot), (6, .slice A6 L.recs.length c6), (7, .int .i64 L.end_), (8, .int .i64 L.synced)] 0 rfl)
  refine bodyPost_ret (results_ctt rfl _ _ (w.heap.size + 1) 64 #[.slice A0 D.dur.length c0, .slice A1 D.pend.length c1, .int .i64 D.cnt, .bool D.failed, .int .i64 L.base, .int .i64 L.slot, .slice A6 L.recs.length c6, .int .i64 L.end_, .int .i64 L.synced] (0, 0) _ rfl (HS.out.blk 0 rfl) Try.underlying64 rfl (by kernel_rfl)) rfl ?_
  rw [HL.out]
  exact ⟨_, rfl, HS.out.done L rfl⟩
 clear z00 z04 z07
 have z00 := (blk_cell (HS.out.blk 1 rfl) 0).trans rfl
 obtain ⟨P1, hP1⟩ : ∃ P, D.write (a : Int) (frame L.end_ data) = P := ⟨_, rfl⟩
 have HP1 := AM hP1
 clear hP1
 have HFIT := AM (show appendL L D a data = if P1.2 = 0 then (⟨L.slot, L.base, wrap64 (L.end_ + (16 + (data.length : Int))), L.synced, L.recs ++ [⟨L.end_, data⟩]⟩, P1.1, L.end_, 0) else (L, P1.1, 0, P1.2) by rw [appendL, if_pos (by omega), HP1.out])
 go_upto_region 4 with fail
 clear k1 k2
 clear z00
 refine start_ (n := 14) (S := fun w' => w'.cell? ⟨w.heap.size, 0, none⟩ = some (.slice A0 D.dur.length c0) ∧ w'.cell? ⟨w.heap.size, 1, none⟩ = some (.slice A1 D.pend.length c1) ∧ w'.cell? ⟨w.heap.size, 2, none⟩ = some (.int .i64 D.cnt) ∧ w'.cell? ⟨w.heap.size, 3, none⟩ = some (.bool D.failed) ∧ w'.cell? ⟨w.heap.size, 7, none⟩ = some (.int .i64 L.end_)) (ds := []) #[false, false, false, false, false, false, false, false, false, false, false, false, false, false] (by kernel_rfl) rfl rfl ⟨(blk_cell (HS.out.blk 1 rfl) 0).trans rfl, (blk_cell (HS.out.blk 1 rfl) 1).trans rfl, (blk_cell (HS.out.blk 1 rfl) 2).trans rfl, (blk_cell (HS.out.blk 1 rfl) 3).trans rfl, (blk_cell (HS.out.blk 1 rfl) 7).trans rfl⟩ (fun hHeld => ?_)
 clear hHeld
 replace HS := AM (HS.out.below (below_drew (Below.refl _ _)))
 generalize w2.drew = w3 at HS ⊢
 have hHeld : w3.cell? ⟨w.heap.size, 0, none⟩ = some (.slice A0 D.dur.length c0) ∧ w3.cell? ⟨w.heap.size, 1, none⟩ = some (.slice A1 D.pend.length c1) ∧ w3.cell? ⟨w.heap.size, 2, none⟩ = some (.int .i64 D.cnt) ∧ w3.cell? ⟨w.heap.size, 3, none⟩ = some (.bool D.failed) ∧ w3.cell? ⟨w.heap.size, 7, none⟩ = some (.int .i64 L.end_) := ⟨(blk_cell (HS.out.blk 1 rfl) 0).trans rfl, (blk_cell (HS.out.blk 1 rfl) 1).trans rfl, (blk_cell (HS.out.blk 1 rfl) 2).trans rfl, (blk_cell (HS.out.blk 1 rfl) 3).trans rfl, (blk_cell (HS.out.blk 1 rfl) 7).trans rfl⟩
 refine pu 0 (some 38) ?_ (bt 14 1) (by kernel_rfl) ?_ ?_ ?_ ?_
 rotate_left
 ·intro w'
  go_simp
  with_reducible rfl
 rotate_left
 ·simp only [pS]
  rfl
 refine tk 1 (some 39) ?_ (bt 14 3) (by kernel_rfl) hHeld ?_ ?_ ?_ ?_
 rotate_left
 ·rintro w' ⟨s0, s1, s2, s3, s4⟩
  go_simp
  with_reducible rfl
 rotate_left
 ·simp only [pS]
  rfl
 refine pu 2 (some 40) ?_ (bt 14 7) (by kernel_rfl) ?_ ?_ ?_ ?_
 rotate_left
 ·intro w'
  go_simp
  with_reducible rfl
 rotate_left
 ·simp only [pS]
  rfl
 refine pu 3 (some 41) ?_ (bt 14 15) (by kernel_rfl) ?_ ?_ ?_ ?_
 rotate_left
 ·intro w'
  go_simp
  with_reducible rfl
 rotate_left
 ·simp only [pS]
  rfl
 refine tk 4 (some 42) ?_ (bt 14 31) (by kernel_rfl) hHeld ?_ ?_ ?_ ?_
 rotate_left
 ·rintro w' ⟨s0, s1, s2, s3, s4⟩
  go_simp
  with_reducible rfl
 rotate_left
 ·simp only [pS]
  rfl
 refine pu 5 (some 43) ?_ (bt 14 63) (by kernel_rfl) ?_ ?_ ?_ ?_
 rotate_left
 ·intro w'
  go_simp
  with_reducible rfl
 rotate_left
 ·simp only [pS]
  rfl
 refine join_ (σ := Option Addr × Nat × Option Addr × Nat × Option Addr × Nat × Nat) 2 (bt 14 4095) (fun ⟨Af, cf, B0, d0, B1, d1, bx⟩ => [(44, .slice Af (frame L.end_ data).length cf), (45, .tuple #[.agg #[.slice B0 P1.1.dur.length d0, .slice B1 P1.1.pend.length d1, .int .i64 P1.1.cnt, .bool P1.1.failed], .int .i64 P1.2]), (37, .tuple #[.agg #[.slice B0 P1.1.dur.length d0, .slice B1 P1.1.pend.length d1, .int .i64 P1.1.cnt, .bool P1.1.failed], .int .i64 P1.2]), (46, .agg #[.slice B0 P1.1.dur.length d0, .slice B1 P1.1.pend.length d1, .int .i64 P1.1.cnt, .bool P1.1.failed]), (47, .int .i64 P1.2), (8, .pointer (some ⟨bx, 0, none⟩))]) (fun ⟨Af, cf, B0, d0, B1, d1, bx⟩ w' => RS w w' ok [(bx, 50, #[.slice none 0 0, .slice none 0 0, .int .i64 0, .bool false]), (w.heap.size + 1, 64, #[.slice none 0 0, .slice none 0 0, .int .i64 0, .bool false, .int .i64 0, .int .i64 0, .slice none 0 0, .int .i64 0, .int .i64 0]), (w.heap.size, 64, #[.slice A0 D.dur.length c0, .slice A1 D.pend.length c1, .int .i64 D.cnt, .bool D.failed, .int .i64 L.base, .int .i64 L.slot, .slice A6 L.recs.length c6, .int .i64 L.end_, .int .i64 L.synced])] B0 d0 B1 d1 P1.1 A6 c6 L.recs) ?_ ?_
 rotate_left
 ·intro hJ
  refine two_ (i := 6) (j := 11) (Ni := some 44) (Nj := some 8) (bt 14 127) (bt 14 2111) rfl rfl rfl rfl (by kernel_rfl) (by decide) (by decide) (fun K hK => ?_) (fun K hK => ?_)
  ·refine goes_ Try.func35 (by kernel_rfl) rfl #[.int .i64 L.end_, .slice A data.length c] (by rfl) rfl rfl (by (try simp only [List.map_toArray, List.map_cons, List.map_nil]); first | done | rfl) ?_
   refine (ref_frame_calls L.end_ A c data w3 (Kd.C_below HC.out HS.out.bel) hc (by omega)).mono ?_
   rintro e w3_1 ⟨vf, rfl, hr, hb⟩
   obtain ⟨Af, cf, rfl⟩ := Kd.R_slice hr
   have HF := AM (Kd.R_reads' hr).2.2
   have hcf := (Kd.R_reads' hr).2.1
   replace HS := AM (HS.out.below hb)
   clear hr hb
   refine ⟨_, rfl, ?_⟩
   clear hHeld
   refine hK.out _ _ ⟨(blk_cell (HS.out.blk 1 rfl) 0).trans rfl, (blk_cell (HS.out.blk 1 rfl) 1).trans rfl, (blk_cell (HS.out.blk 1 rfl) 2).trans rfl, (blk_cell (HS.out.blk 1 rfl) 3).trans rfl, (blk_cell (HS.out.blk 1 rfl) 7).trans rfl⟩ (fun hHeld => ?_)
   clear hK K
   refine norm_ (a' := ?_) ?_ ?_
   rotate_left
   ·show Act.put _ (some 44) _ = _
    simp only [pS]
    rfl
   refine two_ (i := 7) (j := 11) (Ni := some 45) (Nj := some 8) (bt 14 255) (bt 14 2175) rfl rfl rfl rfl (by kernel_rfl) (by decide) (by decide) (fun K hK => ?_) (fun K hK => ?_)
   ·refine goes_ Try.func61 (by kernel_rfl) rfl #[.agg #[.slice A0 D.dur.length c0, .slice A1 D.pend.length c1, .int .i64 D.cnt, .bool D.failed], .int .i64 (a : Int), .slice Af (frame L.end_ data).length cf] (by rfl) rfl rfl (by (try simp only [List.map_toArray, List.map_cons, List.map_nil]); first | done | rfl) ?_
    have hwr := HS.out.write hok (a : Int) Af cf (frame L.end_ data) HF.out hcf (by rw [frame_length]; omega)
    rw [HP1.out] at hwr
    refine hwr.mono ?_
    clear hwr
    rintro e w3_2 ⟨B0, d0, B1, d1, rfl, hS⟩
    replace HS := AM hS
    clear hS
    refine ⟨_, rfl, ?_⟩
    clear hHeld
    refine hK.out _ _ ⟨(blk_cell (HS.out.blk 1 rfl) 0).trans rfl, (blk_cell (HS.out.blk 1 rfl) 1).trans rfl, (blk_cell (HS.out.blk 1 rfl) 2).trans rfl, (blk_cell (HS.out.blk 1 rfl) 3).trans rfl, (blk_cell (HS.out.blk 1 rfl) 7).trans rfl⟩ (fun hHeld => ?_)
    clear hK K
    refine norm_ (a' := ?_) ?_ ?_
    rotate_left
    ·show Act.put _ (some 45) _ = _
     simp only [pS]
     rfl
    refine pu 8 (some 37) ?_ (bt 14 511) (by kernel_rfl) ?_ ?_ ?_ ?_
    rotate_left
    ·intro w'
     go_simp
     with_reducible rfl
    rotate_left
    ·simp only [pS]
     rfl
    refine pu 9 (some 46) ?_ (bt 14 1023) (by kernel_rfl) ?_ ?_ ?_ ?_
    rotate_left
    ·intro w'
     go_simp
     with_reducible rfl
    rotate_left
    ·simp only [pS]
     rfl
    refine pu 10 (some 47) ?_ (bt 14 2047) (by kernel_rfl) ?_ ?_ ?_ ?_
    rotate_left
    ·intro w'
     go_simp
     with_reducible rfl
    rotate_left
    ·simp only [pS]
     rfl
    refine one_ (i := 11) (N := some 8) (bt 14 4095) rfl rfl (by kernel_rfl) (by decide) (fun K hK => ?_)
    refine value_ (w1 := w3_2.alloc (.cells #[.slice none 0 0, .slice none 0 0, .int .i64 0, .bool false] 50)) (v := .pointer (some ⟨w3_2.heap.size, 0, none⟩)) (by rfl) rfl (by go_simp; try rfl) ?_
    replace HS := AM (HS.out.alloc 50 #[.slice none 0 0, .slice none 0 0, .int .i64 0, .bool false])
    obtain ⟨bx, he_⟩ : ∃ b, b = w3_2.heap.size := ⟨_, rfl⟩
    rw [← he_] at HS ⊢
    generalize w3_2.alloc _ = w3_3 at HS ⊢
    clear he_
    clear hHeld
    refine hK.out _ _ ⟨(blk_cell (HS.out.blk 2 rfl) 0).trans rfl, (blk_cell (HS.out.blk 2 rfl) 1).trans rfl, (blk_cell (HS.out.blk 2 rfl) 2).trans rfl, (blk_cell (HS.out.blk 2 rfl) 3).trans rfl, (blk_cell (HS.out.blk 2 rfl) 7).trans rfl⟩ (fun hHeld => ?_)
    clear hK K
    refine norm_ (a' := ?_) ?_ ?_
    rotate_left
    ·show Act.put _ (some 8) _ = _
     simp only [pS]
     rfl
    exact norm_ (by simp only [putAll, pS]) (hJ ⟨Af, cf, B0, d0, B1, d1, bx⟩ _ HS.out)
   ·refine value_ (w1 := w3_1.alloc (.cells #[.slice none 0 0, .slice none 0 0, .int .i64 0, .bool false] 50)) (v := .pointer (some ⟨w3_1.heap.size, 0, none⟩)) (by rfl) rfl (by go_simp; try rfl) ?_
    replace HS := AM (HS.out.alloc 50 #[.slice none 0 0, .slice none 0 0, .int .i64 0, .bool false])
    replace HF := AM (Kd.C_below HF.out (below_alloc (Below.refl _ _) (.cells #[.slice none 0 0, .slice none 0 0, .int .i64 0, .bool false] 50) : Below w3_1.heap.size w3_1 _))
    obtain ⟨bx, he_⟩ : ∃ b, b = w3_1.heap.size := ⟨_, rfl⟩
    rw [← he_] at HS ⊢
    generalize w3_1.alloc _ = w3_4 at HS HF ⊢
    clear he_
    clear hHeld
    refine hK.out _ _ ⟨(blk_cell (HS.out.blk 2 rfl) 0).trans rfl, (blk_cell (HS.out.blk 2 rfl) 1).trans rfl, (blk_cell (HS.out.blk 2 rfl) 2).trans rfl, (blk_cell (HS.out.blk 2 rfl) 3).trans rfl, (blk_cell (HS.out.blk 2 rfl) 7).trans rfl⟩ (fun hHeld => ?_)
    clear hK K
    refine norm_ (a' := ?_) ?_ ?_
    rotate_left
    ·show Act.put _ (some 8) _ = _
     simp only [pS]
     rfl
    refine one_ (i := 7) (N := some 45) (bt 14 2303) rfl rfl (by kernel_rfl) (by decide) (fun K hK => ?_)
    refine goes_ Try.func61 (by kernel_rfl) rfl #[.agg #[.slice A0 D.dur.length c0, .slice A1 D.pend.length c1, .int .i64 D.cnt, .bool D.failed], .int .i64 (a : Int), .slice Af (frame L.end_ data).length cf] (by rfl) rfl rfl (by (try simp only [List.map_toArray, List.map_cons, List.map_nil]); first | done | rfl) ?_
    have hwr := HS.out.write hok (a : Int) Af cf (frame L.end_ data) HF.out hcf (by rw [frame_length]; omega)
    rw [HP1.out] at hwr
    refine hwr.mono ?_
    clear hwr
    rintro e w3_5 ⟨B0, d0, B1, d1, rfl, hS⟩
    replace HS := AM hS
    clear hS
    refine ⟨_, rfl, ?_⟩
    clear hHeld
    refine hK.out _ _ ⟨(blk_cell (HS.out.blk 2 rfl) 0).trans rfl, (blk_cell (HS.out.blk 2 rfl) 1).trans rfl, (blk_cell (HS.out.blk 2 rfl) 2).trans rfl, (blk_cell (HS.out.blk 2 rfl) 3).trans rfl, (blk_cell (HS.out.blk 2 rfl) 7).trans rfl⟩ (fun hHeld => ?_)
    clear hK K
    refine norm_ (a' := ?_) ?_ ?_
    rotate_left
    ·show Act.put _ (some 45) _ = _
     simp only [pS]
     rfl
    refine pu 8 (some 37) ?_ (bt 14 2559) (by kernel_rfl) ?_ ?_ ?_ ?_
    rotate_left
    ·intro w'
     go_simp
     with_reducible rfl
    rotate_left
    ·simp only [pS]
     rfl
    refine pu 9 (some 46) ?_ (bt 14 3071) (by kernel_rfl) ?_ ?_ ?_ ?_
    rotate_left
    ·intro w'
     go_simp
     with_reducible rfl
    rotate_left
    ·simp only [pS]
     rfl
    refine pu 10 (some 47) ?_ (bt 14 4095) (by kernel_rfl) ?_ ?_ ?_ ?_
    rotate_left
    ·intro w'
     go_simp
     with_reducible rfl
    rotate_left
    ·simp only [pS]
     rfl
    exact norm_ (by simp only [putAll, pS]) (hJ ⟨Af, cf, B0, d0, B1, d1, bx⟩ _ HS.out)
  ·refine value_ (w1 := w3.alloc (.cells #[.slice none 0 0, .slice none 0 0, .int .i64 0, .bool false] 50)) (v := .pointer (some ⟨w3.heap.size, 0, none⟩)) (by rfl) rfl (by go_simp; try rfl) ?_
   replace HS := AM (HS.out.alloc 50 #[.slice none 0 0, .slice none 0 0, .int .i64 0, .bool false])
   obtain ⟨bx, he_⟩ : ∃ b, b = w3.heap.size := ⟨_, rfl⟩
   rw [← he_] at HS ⊢
   generalize w3.alloc _ = w3_6 at HS ⊢
   clear he_
   clear hHeld
   refine hK.out _ _ ⟨(blk_cell (HS.out.blk 2 rfl) 0).trans rfl, (blk_cell (HS.out.blk 2 rfl) 1).trans rfl, (blk_cell (HS.out.blk 2 rfl) 2).trans rfl, (blk_cell (HS.out.blk 2 rfl) 3).trans rfl, (blk_cell (HS.out.blk 2 rfl) 7).trans rfl⟩ (fun hHeld => ?_)
   clear hK K
   refine norm_ (a' := ?_) ?_ ?_
   rotate_left
   ·show Act.put _ (some 8) _ = _
    simp only [pS]
    rfl
   refine one_ (i := 6) (N := some 44) (bt 14 2175) rfl rfl (by kernel_rfl) (by decide) (fun K hK => ?_)
   refine goes_ Try.func35 (by kernel_rfl) rfl #[.int .i64 L.end_, .slice A data.length c] (by rfl) rfl rfl (by (try simp only [List.map_toArray, List.map_cons, List.map_nil]); first | done | rfl) ?_
   refine (ref_frame_calls L.end_ A c data w3_6 (Kd.C_below HC.out HS.out.bel) hc (by omega)).mono ?_
   rintro e w3_7 ⟨vf, rfl, hr, hb⟩
   obtain ⟨Af, cf, rfl⟩ := Kd.R_slice hr
   have HF := AM (Kd.R_reads' hr).2.2
   have hcf := (Kd.R_reads' hr).2.1
   replace HS := AM (HS.out.below hb)
   clear hr hb
   refine ⟨_, rfl, ?_⟩
   clear hHeld
   refine hK.out _ _ ⟨(blk_cell (HS.out.blk 2 rfl) 0).trans rfl, (blk_cell (HS.out.blk 2 rfl) 1).trans rfl, (blk_cell (HS.out.blk 2 rfl) 2).trans rfl, (blk_cell (HS.out.blk 2 rfl) 3).trans rfl, (blk_cell (HS.out.blk 2 rfl) 7).trans rfl⟩ (fun hHeld => ?_)
   clear hK K
   refine norm_ (a' := ?_) ?_ ?_
   rotate_left
   ·show Act.put _ (some 44) _ = _
    simp only [pS]
    rfl
   refine one_ (i := 7) (N := some 45) (bt 14 2303) rfl rfl (by kernel_rfl) (by decide) (fun K hK => ?_)
   refine goes_ Try.func61 (by kernel_rfl) rfl #[.agg #[.slice A0 D.dur.length c0, .slice A1 D.pend.length c1, .int .i64 D.cnt, .bool D.failed], .int .i64 (a : Int), .slice Af (frame L.end_ data).length cf] (by rfl) rfl rfl (by (try simp only [List.map_toArray, List.map_cons, List.map_nil]); first | done | rfl) ?_
   have hwr := HS.out.write hok (a : Int) Af cf (frame L.end_ data) HF.out hcf (by rw [frame_length]; omega)
   rw [HP1.out] at hwr
   refine hwr.mono ?_
   clear hwr
   rintro e w3_8 ⟨B0, d0, B1, d1, rfl, hS⟩
   replace HS := AM hS
   clear hS
   refine ⟨_, rfl, ?_⟩
   clear hHeld
   refine hK.out _ _ ⟨(blk_cell (HS.out.blk 2 rfl) 0).trans rfl, (blk_cell (HS.out.blk 2 rfl) 1).trans rfl, (blk_cell (HS.out.blk 2 rfl) 2).trans rfl, (blk_cell (HS.out.blk 2 rfl) 3).trans rfl, (blk_cell (HS.out.blk 2 rfl) 7).trans rfl⟩ (fun hHeld => ?_)
   clear hK K
   refine norm_ (a' := ?_) ?_ ?_
   rotate_left
   ·show Act.put _ (some 45) _ = _
    simp only [pS]
    rfl
   refine pu 8 (some 37) ?_ (bt 14 2559) (by kernel_rfl) ?_ ?_ ?_ ?_
   rotate_left
   ·intro w'
    go_simp
    with_reducible rfl
   rotate_left
   ·simp only [pS]
    rfl
   refine pu 9 (some 46) ?_ (bt 14 3071) (by kernel_rfl) ?_ ?_ ?_ ?_
   rotate_left
   ·intro w'
    go_simp
    with_reducible rfl
   rotate_left
   ·simp only [pS]
    rfl
   refine pu 10 (some 47) ?_ (bt 14 4095) (by kernel_rfl) ?_ ?_ ?_ ?_
   rotate_left
   ·intro w'
    go_simp
    with_reducible rfl
   rotate_left
   ·simp only [pS]
    rfl
   exact norm_ (by simp only [putAll, pS]) (hJ ⟨Af, cf, B0, d0, B1, d1, bx⟩ _ HS.out)
 rintro ⟨Af, cf, B0, d0, B1, d1, bx⟩ wj hS
 replace HS := AM (show RS w wj ok [(bx, 50, #[.slice none 0 0, .slice none 0 0, .int .i64 0, .bool false]), (w.heap.size + 1, 64, #[.slice none 0 0, .slice none 0 0, .int .i64 0, .bool false, .int .i64 0, .int .i64 0, .slice none 0 0, .int .i64 0, .int .i64 0]), (w.heap.size, 64, #[.slice A0 D.dur.length c0, .slice A1 D.pend.length c1, .int .i64 D.cnt, .bool D.failed, .int .i64 L.base, .int .i64 L.slot, .slice A6 L.recs.length c6, .int .i64 L.end_, .int .i64 L.synced])] B0 d0 B1 d1 P1.1 A6 c6 L.recs from hS)
 clear hS
 refine norm_ (a' := ?_) ?_ ?_
 rotate_left
 ·simp only [putAll, pS]
  rfl
 clear hHeld
 refine one_ (i := 12) (N := none) (bt 14 8191) rfl rfl (by kernel_rfl) (by decide) (fun K hK => ?_)
 obtain ⟨z20, z21, z22, z23⟩ := bq (HS.out.blk 0 rfl)
 obtain ⟨f20, f21, f22, f23⟩ := fq (HS.out.blk 0 rfl)
 refine skip_ (w1 := ?_) (by rfl) rfl ?_ ?_
 rotate_left
 ·go_simp
  first | rfl | exact ⟨rfl, rfl⟩
 clear z20 z21 z22 z23 f20 f21 f22 f23
 replace HS := AM (show RS w _ ok [(bx, 50, #[.slice B0 P1.1.dur.length d0, .slice B1 P1.1.pend.length d1, .int .i64 P1.1.cnt, .bool P1.1.failed]), (w.heap.size + 1, 64, #[.slice none 0 0, .slice none 0 0, .int .i64 0, .bool false, .int .i64 0, .int .i64 0, .slice none 0 0, .int .i64 0, .int .i64 0]), (w.heap.size, 64, #[.slice A0 D.dur.length c0, .slice A1 D.pend.length c1, .int .i64 D.cnt, .bool D.failed, .int .i64 L.base, .int .i64 L.slot, .slice A6 L.recs.length c6, .int .i64 L.end_, .int .i64 L.synced])] _ _ _ _ _ _ _ _ from HS.out.puts [(0, .slice B0 P1.1.dur.length d0), (1, .slice B1 P1.1.pend.length d1), (2, .int .i64 P1.1.cnt), (3, .bool P1.1.failed)] 0 rfl)
 replace HS := AM (show RS w (((((wj).setCell ⟨bx, 0, none⟩ (.slice B0 P1.1.dur.length d0)).setCell ⟨bx, 1, none⟩ (.slice B1 P1.1.pend.length d1)).setCell ⟨bx, 2, none⟩ (.int .i64 P1.1.cnt)).setCell ⟨bx, 3, none⟩ (.bool P1.1.failed)) ok _ _ _ _ _ _ _ _ _ from HS.out)
 generalize ((((wj).setCell ⟨bx, 0, none⟩ (.slice B0 P1.1.dur.length d0)).setCell ⟨bx, 1, none⟩ (.slice B1 P1.1.pend.length d1)).setCell ⟨bx, 2, none⟩ (.int .i64 P1.1.cnt)).setCell ⟨bx, 3, none⟩ (.bool P1.1.failed) = w4 at HS ⊢
 refine hK.out _ _ ⟨(blk_cell (HS.out.blk 2 rfl) 0).trans rfl, (blk_cell (HS.out.blk 2 rfl) 1).trans rfl, (blk_cell (HS.out.blk 2 rfl) 2).trans rfl, (blk_cell (HS.out.blk 2 rfl) 3).trans rfl, (blk_cell (HS.out.blk 2 rfl) 7).trans rfl⟩ (fun hHeld => ?_)
 clear hK K
 refine pu 13 (some 9) ?_ (bt 14 16383) (by kernel_rfl) ?_ ?_ ?_ ?_
 rotate_left
 ·intro w'
  go_simp
  with_reducible rfl
 rotate_left
 ·simp only [pS]
  rfl
 refine done_ (by kernel_rfl) ?_
 clear hHeld
 obtain ⟨z20, z21, z22, z23⟩ := bq (HS.out.blk 0 rfl)
 obtain ⟨z00, z01, z02, z03⟩ := bq (HS.out.blk 2 rfl)
 obtain ⟨f00, f01, f02, f03⟩ := fq (HS.out.blk 2 rfl)
 go_upto_region 6 with fail
 clear z20 z21 z22 z23 z00 z01 z02 z03 f00 f01 f02 f03
 replace HS := AM (show RS w _ ok [(bx, 50, #[.slice B0 P1.1.dur.length d0, .slice B1 P1.1.pend.length d1, .int .i64 P1.1.cnt, .bool P1.1.failed]), (w.heap.size + 1, 64, #[.slice none 0 0, .slice none 0 0, .int .i64 0, .bool false, .int .i64 0, .int .i64 0, .slice none 0 0, .int .i64 0, .int .i64 0]), (w.heap.size, 64, #[.slice B0 P1.1.dur.length d0, .slice B1 P1.1.pend.length d1, .int .i64 P1.1.cnt, .bool P1.1.failed, .int .i64 L.base, .int .i64 L.slot, .slice A6 L.recs.length c6, .int .i64 L.end_, .int .i64 L.synced])] _ _ _ _ _ _ _ _ from HS.out.puts [(0, .slice B0 P1.1.dur.length d0), (1, .slice B1 P1.1.pend.length d1), (2, .int .i64 P1.1.cnt), (3, .bool P1.1.failed)] 2 rfl)
 replace HS := AM (show RS w (((((w4).setCell ⟨w.heap.size, 0, none⟩ (.slice B0 P1.1.dur.length d0)).setCell ⟨w.heap.size, 1, none⟩ (.slice B1 P1.1.pend.length d1)).setCell ⟨w.heap.size, 2, none⟩ (.int .i64 P1.1.cnt)).setCell ⟨w.heap.size, 3, none⟩ (.bool P1.1.failed)) ok _ _ _ _ _ _ _ _ _ from HS.out)
 generalize ((((w4).setCell ⟨w.heap.size, 0, none⟩ (.slice B0 P1.1.dur.length d0)).setCell ⟨w.heap.size, 1, none⟩ (.slice B1 P1.1.pend.length d1)).setCell ⟨w.heap.size, 2, none⟩ (.int .i64 P1.1.cnt)).setCell ⟨w.heap.size, 3, none⟩ (.bool P1.1.failed) = w5 at HS ⊢
 by_cases h0 : P1.2 = 0
 rotate_left
 ·have HL := AM (show appendL L D a data = (L, P1.1, 0, P1.2) by rw [HFIT.out, if_neg h0])
  obtain ⟨z00, z01, z02, z03, z04, z05, z06, z07, z08⟩ := bn (HS.out.blk 2 rfl)
  obtain ⟨z10, z11, z12, z13, z14, z15, z16, z17, z18⟩ := bn (HS.out.blk 1 rfl)
  obtain ⟨f10, f11, f12, f13, f14, f15, f16, f17, f18⟩ := fn (HS.out.blk 1 rfl)
  go_wp2_with fail
  clear z00 z01 z02 z03 z04 z05 z06 z07 z08 z10 z11 z12 z13 z14 z15 z16 z17 z18 f10 f11 f12 f13 f14 f15 f16 f17 f18
  replace HS := AM (show RS w _ ok [(bx, 50, #[.slice B0 P1.1.dur.length d0, .slice B1 P1.1.pend.length d1, .int .i64 P1.1.cnt, .bool P1.1.failed]), (w.heap.size + 1, 64, #[.slice B0 P1.1.dur.length d0, .slice B1 P1.1.pend.length d1, .int .i64 P1.1.cnt, .bool P1.1.failed, .int .i64 L.base, .int .i64 L.slot, .slice A6 L.recs.length c6, .int .i64 L.end_, .int .i64 L.synced]), (w.heap.size, 64, #[.slice B0 P1.1.dur.length d0, .slice B1 P1.1.pend.length d1, .int .i64 P1.1.cnt, .bool P1.1.failed, .int .i64 L.base, .int .i64 L.slot, .slice A6 L.recs.length c6, .int .i64 L.end_, .int .i64 L.synced])] _ _ _ _ _ _ _ _ from HS.out.puts [(0, .slice B0 P1.1.dur.length d0), (1, .slice B1 P1.1.pend.length d1), (2, .int .i64 P1.1.cnt), (3, .bool P1.1.failed), (4, .int .i64 L.base), (5, .int .i64 L.slot), (6, .slice A6 L.recs.length c6), (7, .int .i64 L.end_), (8, .int .i64 L.synced)] 1 rfl)
  refine bodyPost_ret (results_ctt rfl _ _ (w.heap.size + 1) 64 #[.slice B0 P1.1.dur.length d0, .slice B1 P1.1.pend.length d1, .int .i64 P1.1.cnt, .bool P1.1.failed, .int .i64 L.base, .int .i64 L.slot, .slice A6 L.recs.length c6, .int .i64 L.end_, .int .i64 L.synced] (0, 0) _ rfl (HS.out.blk 1 rfl) Try.underlying64 rfl (by kernel_rfl)) rfl ?_
  rw [HL.out]
  exact ⟨_, rfl, HS.out.done L rfl⟩
 have HL := AM (show appendL L D a data = (⟨L.slot, L.base, wrap64 (L.end_ + (16 + (data.length : Int))), L.synced, L.recs ++ [⟨L.end_, data⟩]⟩, P1.1, L.end_, 0) by rw [HFIT.out, if_pos h0])
 have z07 := (blk_cell (HS.out.blk 2 rfl) 7).trans rfl
 go_upto_region 9 with fail
 clear z07
 have z06 := (blk_cell (HS.out.blk 2 rfl) 6).trans rfl
 have f06 := blk_frozen (HS.out.blk 2 rfl) 6
 obtain ⟨okk, hV6, hokk⟩ := HS.out.recsV
 have HV6 := AM hV6
 have HOK := AM hokk
 have HSZ := AM HS.out.bel.size
 clear hV6 hokk
 obtain ⟨R, hR⟩ : ∃ R, R = L.recs ++ [(⟨L.end_, data⟩ : G.S73)] := ⟨_, rfl⟩
 have HR := AM hR
 clear hR
 go_upto_region 10 with (first | ((with_reducible refine gate_dst (N := 56) rfl ?_); refine Kd.N_lit G.k73 (w0 := w5) w5.heap.size 73 ?hg (N' := 56) ?hd (xs := ([] : List G.S73)) (inner := []) (ok := (fun k => (okk k ∨ (ok k ∧ k < w.heap.size)) ∧ k < w5.heap.size ∨ w5.heap.size ≤ k)) (okp := fun _ => False) ?hr (Reps.none _ _) (fun _ hk => hk.elim) (.inr (Nat.le_refl _)) (Below.refl _ _) (Nat.le_refl _) (by simp) ?_; (case hd => rfl); (case hg => rfl); (case hr => first | (go_simp; done) | (go_simp; rfl)); intro v6 w6 hn hb hg_ hnew_; have HN6 := AM hn; have HB6 := AM hb; have y6 : w6.cell? ⟨w.heap.size, 6, none⟩ = some (.slice A6 L.recs.length c6) := (hb.cell (World.block_lt_of_cell? _ _ z06)).trans z06; clear hn hb hg_ hnew_) | ((with_reducible refine gate_builtin (b := .append) (xs := #[.tmp 56, .tmp 58]) rfl ?_); at_builtin; refine Kd.N_append_rows G.k73 (w0 := w5) w5.heap.size rfl (.tmp 56) (.tmp 58) 62 73 (.agg #[(.int .i64 0), (.slice none 0 0)]) 32 rfl Try.underlying62 G.info73 rfl (by decide) (by omega) v6 [] L.recs A6 L.recs.length c6 (fun k => (okk k ∨ (ok k ∧ k < w.heap.size)) ∧ k < w5.heap.size ∨ w5.heap.size ≤ k) (fun k => okk k ∧ k < w5.heap.size) rfl rfl HN6.out (Kd.F_step (Kd.F_bound (Kd.V_F HV6.out)) (fun k hk _ => HB6.out.block k hk.2)) (fun k hk => ⟨.inl ⟨.inl hk.1, hk.2⟩, fun e => by have h1 := Kd.N_base HN6.out k e.symm; omega⟩) (fun k hk => .inr (Nat.le_trans HB6.out.size hk)) HB6.out HB6.out.size (by simp; omega) ?_; intro v7 w7 hn hb hg_ hnew_; rw [List.nil_append] at hn; have HN7 := AM hn; have HB7 := AM hb; clear hn hb hg_ hnew_) | ((with_reducible refine gate_builtin (b := .append) (xs := #[.tmp 59, .tmp 63]) rfl ?_); at_builtin; refine Kd.N_append G.k73 (w0 := w5) w5.heap.size rfl (.tmp 59) (.tmp 63) 62 73 (.agg #[(.int .i64 0), (.slice none 0 0)]) 32 rfl Try.underlying62 G.info73 rfl (by decide) (by omega) v7 L.recs (⟨L.end_, data⟩ : G.S73) [.int .i64 L.end_, .slice A data.length c] (fun k => (okk k ∨ (ok k ∧ k < w.heap.size)) ∧ k < w5.heap.size ∨ w5.heap.size ≤ k) (fun k => ok k ∧ k < w.heap.size) rfl rfl (G.k73_mkF w7 _ ⟨L.end_, data⟩ hc (Kd.F_step HFD.out (fun k hk _ => (HB7.out.block k (Nat.lt_of_lt_of_le hk.2 HSZ.out)).trans (HS.out.bel.block k hk.2)))) (fun k hk => ⟨.inl ⟨.inr hk, Nat.lt_of_lt_of_le hk.2 HSZ.out⟩, fun e => by have h1 := Kd.N_base HN7.out k e.symm; have h2 := HSZ.out; omega⟩) (fun k hk => .inr (Nat.le_trans HB7.out.size hk)) HN7.out HB7.out HB7.out.size (by omega) ?_; intro v8 w8 hn hb hg_ hnew_; rw [← HR.out] at hn; obtain ⟨A8, c8, rfl⟩ := Kd.N_slice hn; have HN8 := AM hn; replace HS := AM (HS.out.app HOK.out hb hn); have y8 := (blk_cell (HS.out.blk 2 rfl) 6).trans rfl; have g8 := blk_frozen (HS.out.blk 2 rfl) 6; clear hn hb hg_ hnew_))
 clear z06 f06 y6 y8 g8 HN6 HB6 HN7 HB7
 replace HS := AM (show RS w _ ok [(bx, 50, #[.slice B0 P1.1.dur.length d0, .slice B1 P1.1.pend.length d1, .int .i64 P1.1.cnt, .bool P1.1.failed]), (w.heap.size + 1, 64, #[.slice none 0 0, .slice none 0 0, .int .i64 0, .bool false, .int .i64 0, .int .i64 0, .slice none 0 0, .int .i64 0, .int .i64 0]), (w.heap.size, 64, #[.slice B0 P1.1.dur.length d0, .slice B1 P1.1.pend.length d1, .int .i64 P1.1.cnt, .bool P1.1.failed, .int .i64 L.base, .int .i64 L.slot, .slice A8 R.length c8, .int .i64 L.end_, .int .i64 L.synced])] _ _ _ _ _ _ _ _ from HS.out.puts [(6, .slice A8 R.length c8)] 2 rfl)
 replace HS := AM (show RS w ((w8).setCell ⟨w.heap.size, 6, none⟩ (.slice A8 R.length c8)) ok _ _ _ _ _ _ _ _ _ from HS.out)
 generalize (w8).setCell ⟨w.heap.size, 6, none⟩ (.slice A8 R.length c8) = w9 at HS ⊢
 have z07 := (blk_cell (HS.out.blk 2 rfl) 7).trans rfl
 have f07 := blk_frozen (HS.out.blk 2 rfl) 7
 go_upto_region 11 with fail
 rw [show wrap64 (wrap64 (L.end_ + 16) + (data.length : Int)) = wrap64 (L.end_ + (16 + (data.length : Int))) from by unfold wrap64; omega]
 clear z07 f07
 replace HS := AM (show RS w _ ok [(bx, 50, #[.slice B0 P1.1.dur.length d0, .slice B1 P1.1.pend.length d1, .int .i64 P1.1.cnt, .bool P1.1.failed]), (w.heap.size + 1, 64, #[.slice none 0 0, .slice none 0 0, .int .i64 0, .bool false, .int .i64 0, .int .i64 0, .slice none 0 0, .int .i64 0, .int .i64 0]), (w.heap.size, 64, #[.slice B0 P1.1.dur.length d0, .slice B1 P1.1.pend.length d1, .int .i64 P1.1.cnt, .bool P1.1.failed, .int .i64 L.base, .int .i64 L.slot, .slice A8 R.length c8, .int .i64 (wrap64 (L.end_ + (16 + (data.length : Int)))), .int .i64 L.synced])] _ _ _ _ _ _ _ _ from HS.out.puts [(7, .int .i64 (wrap64 (L.end_ + (16 + (data.length : Int)))))] 2 rfl)
 replace HS := AM (show RS w ((w9).setCell ⟨w.heap.size, 7, none⟩ (.int .i64 (wrap64 (L.end_ + (16 + (data.length : Int)))))) ok _ _ _ _ _ _ _ _ _ from HS.out)
 generalize (w9).setCell ⟨w.heap.size, 7, none⟩ (.int .i64 (wrap64 (L.end_ + (16 + (data.length : Int))))) = w10 at HS ⊢
 rw [← HR.out] at HL
 obtain ⟨z00, z01, z02, z03, z04, z05, z06, z07, z08⟩ := bn (HS.out.blk 2 rfl)
 obtain ⟨z10, z11, z12, z13, z14, z15, z16, z17, z18⟩ := bn (HS.out.blk 1 rfl)
 obtain ⟨f10, f11, f12, f13, f14, f15, f16, f17, f18⟩ := fn (HS.out.blk 1 rfl)
 go_wp2_with fail
 clear z00 z01 z02 z03 z04 z05 z06 z07 z08 z10 z11 z12 z13 z14 z15 z16 z17 z18 f10 f11 f12 f13 f14 f15 f16 f17 f18
 replace HS := AM (show RS w _ ok [(bx, 50, #[.slice B0 P1.1.dur.length d0, .slice B1 P1.1.pend.length d1, .int .i64 P1.1.cnt, .bool P1.1.failed]), (w.heap.size + 1, 64, #[.slice B0 P1.1.dur.length d0, .slice B1 P1.1.pend.length d1, .int .i64 P1.1.cnt, .bool P1.1.failed, .int .i64 L.base, .int .i64 L.slot, .slice A8 R.length c8, .int .i64 (wrap64 (L.end_ + (16 + (data.length : Int)))), .int .i64 L.synced]), (w.heap.size, 64, #[.slice B0 P1.1.dur.length d0, .slice B1 P1.1.pend.length d1, .int .i64 P1.1.cnt, .bool P1.1.failed, .int .i64 L.base, .int .i64 L.slot, .slice A8 R.length c8, .int .i64 (wrap64 (L.end_ + (16 + (data.length : Int)))), .int .i64 L.synced])] _ _ _ _ _ _ _ _ from HS.out.puts [(0, .slice B0 P1.1.dur.length d0), (1, .slice B1 P1.1.pend.length d1), (2, .int .i64 P1.1.cnt), (3, .bool P1.1.failed), (4, .int .i64 L.base), (5, .int .i64 L.slot), (6, .slice A8 R.length c8), (7, .int .i64 (wrap64 (L.end_ + (16 + (data.length : Int))))), (8, .int .i64 L.synced)] 1 rfl)
 refine bodyPost_ret (results_ctt rfl _ _ (w.heap.size + 1) 64 #[.slice B0 P1.1.dur.length d0, .slice B1 P1.1.pend.length d1, .int .i64 P1.1.cnt, .bool P1.1.failed, .int .i64 L.base, .int .i64 L.slot, .slice A8 R.length c8, .int .i64 (wrap64 (L.end_ + (16 + (data.length : Int)))), .int .i64 L.synced] (0, 0) _ rfl (HS.out.blk 1 rfl) Try.underlying64 rfl (by kernel_rfl)) rfl ?_
 rw [HL.out]
 exact ⟨_, rfl, HS.out.done ⟨L.slot, L.base, wrap64 (L.end_ + (16 + (data.length : Int))), L.synced, R⟩ rfl⟩
end Go.Proofs.Ytbbokpkpdnppjaa
