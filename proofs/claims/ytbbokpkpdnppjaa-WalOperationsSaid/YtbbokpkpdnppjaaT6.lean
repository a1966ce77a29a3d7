/- A part of the proof of WalOperations. -/
import Derived.Test.YtbbokpkpdnppjaaU0
import Derived.Test.YtbbokpkpdnppjaaUA
import Derived.Test.YtbbokpkpdnppjaaT4
namespace Go.Proofs.Ytbbokpkpdnppjaa
open Go.RowKit Go.Proofs.YtbbokpkpdnppjaaW.PrintWords Go.Proofs.YtbbokpkpdnppjaaW.PrintLast Go.Proofs.YtbbokpkpdnppjaaW.PrintMore
set_option linter.unusedVariables false
set_option linter.unusedSimpArgs false
set_option maxRecDepth 100000 in
set_option maxHeartbeats 8000000 in
theorem refReset_calls {w : World} {ok : Nat → Prop} {v : Value} {L : Lg} {D : Dk} (h : RefL w ok v L D) (hok : D.Ok) (hpn : D.pend.length < 900) (hb0 : 0 ≤ L.base) (hb1 : L.base ≤ L.end_) (hb2 : L.end_ - L.base ≤ 4194304) (hb3 : L.end_ ≤ 9000000000000000000) :
  Calls Try.prog 50 #[v] w fun e w' => ∃ v', e = .returned (.tuple #[v', .int .i64 (resetL L D).2.2]) ∧ RefL w' (New ok w w') v' (resetL L D).1 (resetL L D).2.1 ∧ Below w.heap.size w w' := by
 obtain ⟨A0, c0, A1, c1, A6, c6, rfl, HS⟩ := h.start
 replace HS := AM HS
 have hu64 := Try.underlying64
 have hu50 := Try.underlying50
 have hbig := hok.big
 clear h
 obtain ⟨P1, hP1⟩ : ∃ P, D.write (12 * L.side) (header L.end_) = P := ⟨_, rfl⟩
 obtain ⟨S1, hS1⟩ : ∃ P, P1.1.sync = P := ⟨_, rfl⟩
 obtain ⟨P2, hP2⟩ : ∃ P, S1.1.write 24 (List.replicate (L.end_ - L.base).toNat (0 : Int)) = P := ⟨_, rfl⟩
 obtain ⟨S2, hS2⟩ : ∃ P, P2.1.sync = P := ⟨_, rfl⟩
 have hq2 : S1.1.pend.length < 1000 := by have h1 := write_pend D (12 * L.side) (header L.end_); have h2 := sync_pend P1.1; rw [hP1] at h1; rw [hS1] at h2; omega
 have hok1 : P1.1.Ok := by rw [← hP1]; exact hok.write (by omega) _ _
 have hok2 : S1.1.Ok := by rw [← hS1]; exact hok1.sync
 have hok3 : P2.1.Ok := by rw [← hP2]; exact hok2.write hq2 _ _
 have HP1 := AM hP1
 have HS1 := AM hS1
 have HP2 := AM hP2
 have HS2 := AM hS2
 clear hP1 hS1 hP2 hS2 hq2
 have HE := AM (show wrap64 (L.end_ - L.base) = L.end_ - L.base from w64 (by omega) (by omega))
 have hw12 : wrap64 12 = 12 := w64 (by omega) (by omega)
 have hw0 : wrap64 0 = 0 := w64 (by omega) (by omega)
 replace HS := AM (HS.out.alloc 64 #[.slice A0 D.dur.length c0, .slice A1 D.pend.length c1, .int .i64 D.cnt, .bool D.failed, .int .i64 L.base, .int .i64 L.slot, .slice A6 L.recs.length c6, .int .i64 L.end_, .int .i64 L.synced])
 replace HS := AM (HS.out.alloc 64 #[.slice none 0 0, .slice none 0 0, .int .i64 0, .bool false, .int .i64 0, .int .i64 0, .slice none 0 0, .int .i64 0, .int .i64 0])
 rw [World.size_alloc] at HS
 go_enter Try.func50, Try.ntmps50
 go_upto_region 1 with fail
 generalize (w.alloc _).alloc _ = w2 at HS ⊢
 by_cases k0 : L.recs.length = 0
 ·have HL := AM (show resetL L D = (L, D, 0) by rw [resetL, if_pos k0])
  have k0' : (L.recs.length : Int) = 0 := by omega
  clear k0
  have z06 := (blk_cell (HS.out.blk 1 rfl) 6).trans rfl
  go_upto_region 2 with fail
  clear k0'
  clear z06
  obtain ⟨z00, z01, z02, z03, z04, z05, z06, z07, z08⟩ := bn (HS.out.blk 1 rfl)
  obtain ⟨z10, z11, z12, z13, z14, z15, z16, z17, z18⟩ := bn (HS.out.blk 0 rfl)
  obtain ⟨f10, f11, f12, f13, f14, f15, f16, f17, f18⟩ := fn (HS.out.blk 0 rfl)
  go_wp2_with fail
  clear z00 z01 z02 z03 z04 z05 z06 z07 z08 z10 z11 z12 z13 z14 z15 z16 z17 z18 f10 f11 f12 f13 f14 f15 f16 f17 f18
  replace HS := AM (show RS w _ ok [(w.heap.size + 1, 64, #[.slice A0 D.dur.length c0, .slice A1 D.pend.length c1, .int .i64 D.cnt, .bool D.failed, .int .i64 L.base, .int .i64 L.slot, .slice A6 L.recs.length c6, .int .i64 L.end_, .int .i64 L.synced]), (w.heap.size, 64, #[.slice A0 D.dur.length c0, .slice A1 D.pend.length c1, .int .i64 D.cnt, .bool D.failed, .int .i64 L.base, .int .i64 L.slot, .slice A6 L.recs.length c6, .int .i64 L.end_, .int .i64 L.synced])] _ _ _ _ _ _ _ _ from HS.out.puts [(0, .slice A0 D.dur.length c0), (1, .slice A1 D.pend.length c1), (2, .int .i64 D.cnt), (3, .bool D.failed), (4, .int .i64 L.base), (5, .int .i64 L.slot), (6, .slice A6 L.recs.length c6), (7, .int .i64 L.end_), (8, .int .i64 L.synced)] 0 rfl)
  refine bodyPost_ret (results_ct rfl _ _ (w.heap.size + 1) 64 #[.slice A0 D.dur.length c0, .slice A1 D.pend.length c1, .int .i64 D.cnt, .bool D.failed, .int .i64 L.base, .int .i64 L.slot, .slice A6 L.recs.length c6, .int .i64 L.end_, .int .i64 L.synced] (0, 0) _ rfl (HS.out.blk 0 rfl) Try.underlying64 rfl (by kernel_rfl)) rfl ?_
  rw [HL.out]
  exact ⟨_, rfl, HS.out.done L rfl⟩
 have HR := AM (show resetL L D = reset1 L L.side D by rw [resetL, if_neg k0])
 have k0' : ¬ (L.recs.length : Int) = 0 := by omega
 clear k0
 have z06 := (blk_cell (HS.out.blk 1 rfl) 6).trans rfl
 go_upto_region 4 with fail
 clear k0'
 clear z06
 have z05 := (blk_cell (HS.out.blk 1 rfl) 5).trans rfl
 rcases slot_to L with ⟨hsl, hsd, hto⟩ | ⟨hsl, hsd, hto⟩
 all_goals
  have HSD := AM hsd
  have HTO := AM hto
  clear hsd hto
  go_upto_region 6 with fail
  clear hsl
  clear z05
  refine start_ (n := 14) (S := fun w' => w'.cell? ⟨w.heap.size, 0, none⟩ = some (.slice A0 D.dur.length c0) ∧ w'.cell? ⟨w.heap.size, 1, none⟩ = some (.slice A1 D.pend.length c1) ∧ w'.cell? ⟨w.heap.size, 2, none⟩ = some (.int .i64 D.cnt) ∧ w'.cell? ⟨w.heap.size, 3, none⟩ = some (.bool D.failed) ∧ w'.cell? ⟨w.heap.size, 7, none⟩ = some (.int .i64 L.end_)) (ds := []) #[false, false, false, false, false, false, false, false, false, false, false, false, false, false] (by kernel_rfl) rfl rfl ⟨(blk_cell (HS.out.blk 1 rfl) 0).trans rfl, (blk_cell (HS.out.blk 1 rfl) 1).trans rfl, (blk_cell (HS.out.blk 1 rfl) 2).trans rfl, (blk_cell (HS.out.blk 1 rfl) 3).trans rfl, (blk_cell (HS.out.blk 1 rfl) 7).trans rfl⟩ (fun hHeld => ?_)
  clear hHeld
  replace HS := AM (HS.out.below (below_drew (Below.refl _ _)))
  generalize w2.drew = w3 at HS ⊢
  have hHeld : w3.cell? ⟨w.heap.size, 0, none⟩ = some (.slice A0 D.dur.length c0) ∧ w3.cell? ⟨w.heap.size, 1, none⟩ = some (.slice A1 D.pend.length c1) ∧ w3.cell? ⟨w.heap.size, 2, none⟩ = some (.int .i64 D.cnt) ∧ w3.cell? ⟨w.heap.size, 3, none⟩ = some (.bool D.failed) ∧ w3.cell? ⟨w.heap.size, 7, none⟩ = some (.int .i64 L.end_) := ⟨(blk_cell (HS.out.blk 1 rfl) 0).trans rfl, (blk_cell (HS.out.blk 1 rfl) 1).trans rfl, (blk_cell (HS.out.blk 1 rfl) 2).trans rfl, (blk_cell (HS.out.blk 1 rfl) 3).trans rfl, (blk_cell (HS.out.blk 1 rfl) 7).trans rfl⟩
  refine pu 0 (some 16) ?_ (bt 14 1) (by kernel_rfl) ?_ ?_ ?_ ?_
  rotate_left
  ·intro w'
   go_simp
   with_reducible rfl
  rotate_left
  ·simp only [pS]
   rfl
  refine tk 1 (some 17) ?_ (bt 14 3) (by kernel_rfl) hHeld ?_ ?_ ?_ ?_
  rotate_left
  ·rintro w' ⟨s0, s1, s2, s3, s4⟩
   go_simp
   with_reducible rfl
  rotate_left
  ·simp only [pS]
   rfl
  refine pu 2 (some 18) ?_ (bt 14 7) (by kernel_rfl) ?_ ?_ ?_ ?_
  rotate_left
  ·intro w'
   go_simp
   with_reducible rfl
  rotate_left
  ·simp only [pS]
   rfl
  refine pu 3 (some 19) ?_ (bt 14 15) (by kernel_rfl) ?_ ?_ ?_ ?_
  rotate_left
  ·intro w'
   go_simp
   with_reducible rfl
  rotate_left
  ·simp only [pS]
   rfl
  refine pu 4 (some 20) ?_ (bt 14 31) (by kernel_rfl) ?_ ?_ ?_ ?_
  rotate_left
  ·intro w'
   go_simp
   with_reducible rfl
  rotate_left
  ·simp only [pS]
   rfl
  refine tk 5 (some 21) ?_ (bt 14 63) (by kernel_rfl) hHeld ?_ ?_ ?_ ?_
  rotate_left
  ·rintro w' ⟨s0, s1, s2, s3, s4⟩
   go_simp
   with_reducible rfl
  rotate_left
  ·simp only [pS]
   rfl
  refine join_ (σ := Option Addr × Nat × Option Addr × Nat × Option Addr × Nat × Nat) 2 (bt 14 4095) (fun ⟨Af, cf, B0, d0, B1, d1, bx⟩ => [(22, .slice Af (header L.end_).length cf), (23, .tuple #[.agg #[.slice B0 P1.1.dur.length d0, .slice B1 P1.1.pend.length d1, .int .i64 P1.1.cnt, .bool P1.1.failed], .int .i64 P1.2]), (15, .tuple #[.agg #[.slice B0 P1.1.dur.length d0, .slice B1 P1.1.pend.length d1, .int .i64 P1.1.cnt, .bool P1.1.failed], .int .i64 P1.2]), (24, .agg #[.slice B0 P1.1.dur.length d0, .slice B1 P1.1.pend.length d1, .int .i64 P1.1.cnt, .bool P1.1.failed]), (25, .int .i64 P1.2), (5, .pointer (some ⟨bx, 0, none⟩))]) (fun ⟨Af, cf, B0, d0, B1, d1, bx⟩ w' => RS w w' ok [(bx, 50, #[.slice none 0 0, .slice none 0 0, .int .i64 0, .bool false]), (w.heap.size + 1, 64, #[.slice none 0 0, .slice none 0 0, .int .i64 0, .bool false, .int .i64 0, .int .i64 0, .slice none 0 0, .int .i64 0, .int .i64 0]), (w.heap.size, 64, #[.slice A0 D.dur.length c0, .slice A1 D.pend.length c1, .int .i64 D.cnt, .bool D.failed, .int .i64 L.base, .int .i64 L.slot, .slice A6 L.recs.length c6, .int .i64 L.end_, .int .i64 L.synced])] B0 d0 B1 d1 P1.1 A6 c6 L.recs) ?_ ?_
  rotate_left
  ·intro hJ
   refine two_ (i := 6) (j := 11) (Ni := some 22) (Nj := some 5) (bt 14 127) (bt 14 2111) rfl rfl rfl rfl (by kernel_rfl) (by decide) (by decide) (fun K hK => ?_) (fun K hK => ?_)
   ·refine goes_ Try.func78 (by kernel_rfl) rfl #[.int .i64 L.end_] (by rfl) rfl rfl (by (try simp only [List.map_toArray, List.map_cons, List.map_nil]); first | done | rfl) ?_
    refine (G.lineageref15_Header.calls 2000 L.end_ _ w3 (header_f L.end_ 2000 (by omega))).mono ?_
    rintro e w3_1 ⟨vf, rfl, hr, hb⟩
    obtain ⟨Af, cf, rfl⟩ := Kd.R_slice hr
    have HF := AM (Kd.R_reads' hr).2.2
    have hcf := (Kd.R_reads' hr).2.1
    replace HS := AM (HS.out.below hb)
    clear hr hb
    refine ⟨_, rfl, ?_⟩
    clear hHeld
    refine hK.out _ _ ⟨(blk_cell (HS.out.blk 1 rfl) 0).trans rfl, (blk_cell (HS.out.blk 1 rfl) 1).trans rfl, (blk_cell (HS.out.blk 1 rfl) 2).trans rfl, (blk_cell (HS.out.blk 1 rfl) 3).trans rfl, (blk_cell (HS.out.blk 1 rfl) 7).trans rfl⟩ (fun hHeld => ?_)
    clear hK K
    refine norm_ (a' := ?_) ?_ ?_
    rotate_left
    ·show Act.put _ (some 22) _ = _
     simp only [pS]
     rfl
    refine two_ (i := 7) (j := 11) (Ni := some 23) (Nj := some 5) (bt 14 255) (bt 14 2175) rfl rfl rfl rfl (by kernel_rfl) (by decide) (by decide) (fun K hK => ?_) (fun K hK => ?_)
    ·refine goes_ Try.func61 (by kernel_rfl) rfl #[.agg #[.slice A0 D.dur.length c0, .slice A1 D.pend.length c1, .int .i64 D.cnt, .bool D.failed], .int .i64 _, .slice Af (header L.end_).length cf] (by rfl) rfl rfl (by (try simp only [List.map_toArray, List.map_cons, List.map_nil]); first | done | rfl) ?_
     have hwr := HS.out.write hok (12 * L.side) Af cf (header L.end_) HF.out hcf (by rw [header_length]; omega)
     rw [HP1.out] at hwr
     refine (Calls.args_eq (by rw [HTO.out]; first | rw [hw12] | rw [hw0]) hwr).mono ?_
     clear hwr
     rintro e w3_2 ⟨B0, d0, B1, d1, rfl, hS⟩
     replace HS := AM hS
     clear hS
     refine ⟨_, rfl, ?_⟩
     clear hHeld
     refine hK.out _ _ ⟨(blk_cell (HS.out.blk 1 rfl) 0).trans rfl, (blk_cell (HS.out.blk 1 rfl) 1).trans rfl, (blk_cell (HS.out.blk 1 rfl) 2).trans rfl, (blk_cell (HS.out.blk 1 rfl) 3).trans rfl, (blk_cell (HS.out.blk 1 rfl) 7).trans rfl⟩ (fun hHeld => ?_)
     clear hK K
     refine norm_ (a' := ?_) ?_ ?_
     rotate_left
     ·show Act.put _ (some 23) _ = _
      simp only [pS]
      rfl
     refine pu 8 (some 15) ?_ (bt 14 511) (by kernel_rfl) ?_ ?_ ?_ ?_
     rotate_left
     ·intro w'
      go_simp
      with_reducible rfl
     rotate_left
     ·simp only [pS]
      rfl
     refine pu 9 (some 24) ?_ (bt 14 1023) (by kernel_rfl) ?_ ?_ ?_ ?_
     rotate_left
     ·intro w'
      go_simp
      with_reducible rfl
     rotate_left
     ·simp only [pS]
      rfl
     refine pu 10 (some 25) ?_ (bt 14 2047) (by kernel_rfl) ?_ ?_ ?_ ?_
     rotate_left
     ·intro w'
      go_simp
      with_reducible rfl
     rotate_left
     ·simp only [pS]
      rfl
     refine one_ (i := 11) (N := some 5) (bt 14 4095) rfl rfl (by kernel_rfl) (by decide) (fun K hK => ?_)
     refine value_ (w1 := w3_2.alloc (.cells #[.slice none 0 0, .slice none 0 0, .int .i64 0, .bool false] 50)) (v := .pointer (some ⟨w3_2.heap.size, 0, none⟩)) (by rfl) rfl (by go_simp; try rfl) ?_
     replace HS := AM (HS.out.alloc 50 #[.slice none 0 0, .slice none 0 0, .int .i64 0, .bool false])
     obtain ⟨bx, he_⟩ : ∃ b, b = w3_2.heap.size := ⟨_, rfl⟩
     rw [← he_] at HS ⊢
     generalize w3_2.alloc _ = w3_3 at HS ⊢
     clear he_
     clear hHeld
     refine hK.out _ _ ⟨(blk_cell (HS.out.blk 2 rfl) 0).trans rfl, (blk_cell (HS.out.blk 2 rfl) 1).trans rfl, (blk_cell (HS.out.blk 2 rfl) 2).trans rfl, (blk_cell (HS.out.blk 2 rfl) 3).trans rfl, (blk_cell (HS.out.blk 2 rfl) 7).trans rfl⟩ (fun hHeld => ?_)
     clear hK K
     refine norm_ (a' := ?_) ?_ ?_
     rotate_left
     ·show Act.put _ (some 5) _ = _
      simp only [pS]
      rfl
     exact norm_ (by simp only [putAll, pS]) (hJ ⟨Af, cf, B0, d0, B1, d1, bx⟩ _ HS.out)
    ·refine value_ (w1 := w3_1.alloc (.cells #[.slice none 0 0, .slice none 0 0, .int .i64 0, .bool false] 50)) (v := .pointer (some ⟨w3_1.heap.size, 0, none⟩)) (by rfl) rfl (by go_simp; try rfl) ?_
     replace HS := AM (HS.out.alloc 50 #[.slice none 0 0, .slice none 0 0, .int .i64 0, .bool false])
     replace HF := AM (Kd.C_below HF.out (below_alloc (Below.refl _ _) (.cells #[.slice none 0 0, .slice none 0 0, .int .i64 0, .bool false] 50) : Below w3_1.heap.size w3_1 _))
     obtain ⟨bx, he_⟩ : ∃ b, b = w3_1.heap.size := ⟨_, rfl⟩
     rw [← he_] at HS ⊢
     generalize w3_1.alloc _ = w3_4 at HS HF ⊢
     clear he_
     clear hHeld
     refine hK.out _ _ ⟨(blk_cell (HS.out.blk 2 rfl) 0).trans rfl, (blk_cell (HS.out.blk 2 rfl) 1).trans rfl, (blk_cell (HS.out.blk 2 rfl) 2).trans rfl, (blk_cell (HS.out.blk 2 rfl) 3).trans rfl, (blk_cell (HS.out.blk 2 rfl) 7).trans rfl⟩ (fun hHeld => ?_)
     clear hK K
     refine norm_ (a' := ?_) ?_ ?_
     rotate_left
     ·show Act.put _ (some 5) _ = _
      simp only [pS]
      rfl
     refine one_ (i := 7) (N := some 23) (bt 14 2303) rfl rfl (by kernel_rfl) (by decide) (fun K hK => ?_)
     refine goes_ Try.func61 (by kernel_rfl) rfl #[.agg #[.slice A0 D.dur.length c0, .slice A1 D.pend.length c1, .int .i64 D.cnt, .bool D.failed], .int .i64 _, .slice Af (header L.end_).length cf] (by rfl) rfl rfl (by (try simp only [List.map_toArray, List.map_cons, List.map_nil]); first | done | rfl) ?_
     have hwr := HS.out.write hok (12 * L.side) Af cf (header L.end_) HF.out hcf (by rw [header_length]; omega)
     rw [HP1.out] at hwr
     refine (Calls.args_eq (by rw [HTO.out]; first | rw [hw12] | rw [hw0]) hwr).mono ?_
     clear hwr
     rintro e w3_5 ⟨B0, d0, B1, d1, rfl, hS⟩
     replace HS := AM hS
     clear hS
     refine ⟨_, rfl, ?_⟩
     clear hHeld
     refine hK.out _ _ ⟨(blk_cell (HS.out.blk 2 rfl) 0).trans rfl, (blk_cell (HS.out.blk 2 rfl) 1).trans rfl, (blk_cell (HS.out.blk 2 rfl) 2).trans rfl, (blk_cell (HS.out.blk 2 rfl) 3).trans rfl, (blk_cell (HS.out.blk 2 rfl) 7).trans rfl⟩ (fun hHeld => ?_)
     clear hK K
     refine norm_ (a' := ?_) ?_ ?_
     rotate_left
     ·show Act.put _ (some 23) _ = _
      simp only [pS]
      rfl
     refine pu 8 (some 15) ?_ (bt 14 2559) (by kernel_rfl) ?_ ?_ ?_ ?_
     rotate_left
     ·intro w'
      go_simp
      with_reducible rfl
     rotate_left
     ·simp only [pS]
      rfl
     refine pu 9 (some 24) ?_ (bt 14 3071) (by kernel_rfl) ?_ ?_ ?_ ?_
     rotate_left
     ·intro w'
      go_simp
      with_reducible rfl
     rotate_left
     ·simp only [pS]
      rfl
     refine pu 10 (some 25) ?_ (bt 14 4095) (by kernel_rfl) ?_ ?_ ?_ ?_
     rotate_left
     ·intro w'
      go_simp
      with_reducible rfl
     rotate_left
     ·simp only [pS]
      rfl
     exact norm_ (by simp only [putAll, pS]) (hJ ⟨Af, cf, B0, d0, B1, d1, bx⟩ _ HS.out)
   ·refine value_ (w1 := w3.alloc (.cells #[.slice none 0 0, .slice none 0 0, .int .i64 0, .bool false] 50)) (v := .pointer (some ⟨w3.heap.size, 0, none⟩)) (by rfl) rfl (by go_simp; try rfl) ?_
    replace HS := AM (HS.out.alloc 50 #[.slice none 0 0, .slice none 0 0, .int .i64 0, .bool false])
    obtain ⟨bx, he_⟩ : ∃ b, b = w3.heap.size := ⟨_, rfl⟩
    rw [← he_] at HS ⊢
    generalize w3.alloc _ = w3_6 at HS ⊢
    clear he_
    clear hHeld
    refine hK.out _ _ ⟨(blk_cell (HS.out.blk 2 rfl) 0).trans rfl, (blk_cell (HS.out.blk 2 rfl) 1).trans rfl, (blk_cell (HS.out.blk 2 rfl) 2).trans rfl, (blk_cell (HS.out.blk 2 rfl) 3).trans rfl, (blk_cell (HS.out.blk 2 rfl) 7).trans rfl⟩ (fun hHeld => ?_)
    clear hK K
    refine norm_ (a' := ?_) ?_ ?_
    rotate_left
    ·show Act.put _ (some 5) _ = _
     simp only [pS]
     rfl
    refine one_ (i := 6) (N := some 22) (bt 14 2175) rfl rfl (by kernel_rfl) (by decide) (fun K hK => ?_)
    refine goes_ Try.func78 (by kernel_rfl) rfl #[.int .i64 L.end_] (by rfl) rfl rfl (by (try simp only [List.map_toArray, List.map_cons, List.map_nil]); first | done | rfl) ?_
    refine (G.lineageref15_Header.calls 2000 L.end_ _ w3_6 (header_f L.end_ 2000 (by omega))).mono ?_
    rintro e w3_7 ⟨vf, rfl, hr, hb⟩
    obtain ⟨Af, cf, rfl⟩ := Kd.R_slice hr
    have HF := AM (Kd.R_reads' hr).2.2
    have hcf := (Kd.R_reads' hr).2.1
    replace HS := AM (HS.out.below hb)
    clear hr hb
    refine ⟨_, rfl, ?_⟩
    clear hHeld
    refine hK.out _ _ ⟨(blk_cell (HS.out.blk 2 rfl) 0).trans rfl, (blk_cell (HS.out.blk 2 rfl) 1).trans rfl, (blk_cell (HS.out.blk 2 rfl) 2).trans rfl, (blk_cell (HS.out.blk 2 rfl) 3).trans rfl, (blk_cell (HS.out.blk 2 rfl) 7).trans rfl⟩ (fun hHeld => ?_)
    clear hK K
    refine norm_ (a' := ?_) ?_ ?_
    rotate_left
    ·show Act.put _ (some 22) _ = _
     simp only [pS]
     rfl
    refine one_ (i := 7) (N := some 23) (bt 14 2303) rfl rfl (by kernel_rfl) (by decide) (fun K hK => ?_)
    refine goes_ Try.func61 (by kernel_rfl) rfl #[.agg #[.slice A0 D.dur.length c0, .slice A1 D.pend.length c1, .int .i64 D.cnt, .bool D.failed], .int .i64 _, .slice Af (header L.end_).length cf] (by rfl) rfl rfl (by (try simp only [List.map_toArray, List.map_cons, List.map_nil]); first | done | rfl) ?_
    have hwr := HS.out.write hok (12 * L.side) Af cf (header L.end_) HF.out hcf (by rw [header_length]; omega)
    rw [HP1.out] at hwr
    refine (Calls.args_eq (by rw [HTO.out]; first | rw [hw12] | rw [hw0]) hwr).mono ?_
    clear hwr
    rintro e w3_8 ⟨B0, d0, B1, d1, rfl, hS⟩
    replace HS := AM hS
    clear hS
    refine ⟨_, rfl, ?_⟩
    clear hHeld
    refine hK.out _ _ ⟨(blk_cell (HS.out.blk 2 rfl) 0).trans rfl, (blk_cell (HS.out.blk 2 rfl) 1).trans rfl, (blk_cell (HS.out.blk 2 rfl) 2).trans rfl, (blk_cell (HS.out.blk 2 rfl) 3).trans rfl, (blk_cell (HS.out.blk 2 rfl) 7).trans rfl⟩ (fun hHeld => ?_)
    clear hK K
    refine norm_ (a' := ?_) ?_ ?_
    rotate_left
    ·show Act.put _ (some 23) _ = _
     simp only [pS]
     rfl
    refine pu 8 (some 15) ?_ (bt 14 2559) (by kernel_rfl) ?_ ?_ ?_ ?_
    rotate_left
    ·intro w'
     go_simp
     with_reducible rfl
    rotate_left
    ·simp only [pS]
     rfl
    refine pu 9 (some 24) ?_ (bt 14 3071) (by kernel_rfl) ?_ ?_ ?_ ?_
    rotate_left
    ·intro w'
     go_simp
     with_reducible rfl
    rotate_left
    ·simp only [pS]
     rfl
    refine pu 10 (some 25) ?_ (bt 14 4095) (by kernel_rfl) ?_ ?_ ?_ ?_
    rotate_left
    ·intro w'
     go_simp
     with_reducible rfl
    rotate_left
    ·simp only [pS]
     rfl
    exact norm_ (by simp only [putAll, pS]) (hJ ⟨Af, cf, B0, d0, B1, d1, bx⟩ _ HS.out)
  rintro ⟨Af, cf, B0, d0, B1, d1, bx⟩ wj hS
  replace HS := AM (show RS w wj ok [(bx, 50, #[.slice none 0 0, .slice none 0 0, .int .i64 0, .bool false]), (w.heap.size + 1, 64, #[.slice none 0 0, .slice none 0 0, .int .i64 0, .bool false, .int .i64 0, .int .i64 0, .slice none 0 0, .int .i64 0, .int .i64 0]), (w.heap.size, 64, #[.slice A0 D.dur.length c0, .slice A1 D.pend.length c1, .int .i64 D.cnt, .bool D.failed, .int .i64 L.base, .int .i64 L.slot, .slice A6 L.recs.length c6, .int .i64 L.end_, .int .i64 L.synced])] B0 d0 B1 d1 P1.1 A6 c6 L.recs from hS)
  clear hS
  refine norm_ (a' := ?_) ?_ ?_
  rotate_left
  ·simp only [putAll, pS]
   rfl
  clear hHeld
  refine one_ (i := 12) (N := none) (bt 14 8191) rfl rfl (by kernel_rfl) (by decide) (fun K hK => ?_)
  obtain ⟨z20, z21, z22, z23⟩ := bq (HS.out.blk 0 rfl)
  obtain ⟨f20, f21, f22, f23⟩ := fq (HS.out.blk 0 rfl)
  refine skip_ (w1 := ?_) (by rfl) rfl ?_ ?_
  rotate_left
  ·go_simp
   first | rfl | exact ⟨rfl, rfl⟩
  clear z20 z21 z22 z23 f20 f21 f22 f23
  replace HS := AM (show RS w _ ok [(bx, 50, #[.slice B0 P1.1.dur.length d0, .slice B1 P1.1.pend.length d1, .int .i64 P1.1.cnt, .bool P1.1.failed]), (w.heap.size + 1, 64, #[.slice none 0 0, .slice none 0 0, .int .i64 0, .bool false, .int .i64 0, .int .i64 0, .slice none 0 0, .int .i64 0, .int .i64 0]), (w.heap.size, 64, #[.slice A0 D.dur.length c0, .slice A1 D.pend.length c1, .int .i64 D.cnt, .bool D.failed, .int .i64 L.base, .int .i64 L.slot, .slice A6 L.recs.length c6, .int .i64 L.end_, .int .i64 L.synced])] _ _ _ _ _ _ _ _ from HS.out.puts [(0, .slice B0 P1.1.dur.length d0), (1, .slice B1 P1.1.pend.length d1), (2, .int .i64 P1.1.cnt), (3, .bool P1.1.failed)] 0 rfl)
  replace HS := AM (show RS w (((((wj).setCell ⟨bx, 0, none⟩ (.slice B0 P1.1.dur.length d0)).setCell ⟨bx, 1, none⟩ (.slice B1 P1.1.pend.length d1)).setCell ⟨bx, 2, none⟩ (.int .i64 P1.1.cnt)).setCell ⟨bx, 3, none⟩ (.bool P1.1.failed)) ok _ _ _ _ _ _ _ _ _ from HS.out)
  generalize ((((wj).setCell ⟨bx, 0, none⟩ (.slice B0 P1.1.dur.length d0)).setCell ⟨bx, 1, none⟩ (.slice B1 P1.1.pend.length d1)).setCell ⟨bx, 2, none⟩ (.int .i64 P1.1.cnt)).setCell ⟨bx, 3, none⟩ (.bool P1.1.failed) = w4 at HS ⊢
  refine hK.out _ _ ⟨(blk_cell (HS.out.blk 2 rfl) 0).trans rfl, (blk_cell (HS.out.blk 2 rfl) 1).trans rfl, (blk_cell (HS.out.blk 2 rfl) 2).trans rfl, (blk_cell (HS.out.blk 2 rfl) 3).trans rfl, (blk_cell (HS.out.blk 2 rfl) 7).trans rfl⟩ (fun hHeld => ?_)
  clear hK K
  refine pu 13 (some 6) ?_ (bt 14 16383) (by kernel_rfl) ?_ ?_ ?_ ?_
  rotate_left
  ·intro w'
   go_simp
   with_reducible rfl
  rotate_left
  ·simp only [pS]
   rfl
  refine done_ (by kernel_rfl) ?_
  clear hHeld
  obtain ⟨z20, z21, z22, z23⟩ := bq (HS.out.blk 0 rfl)
  obtain ⟨z00, z01, z02, z03⟩ := bq (HS.out.blk 2 rfl)
  obtain ⟨f00, f01, f02, f03⟩ := fq (HS.out.blk 2 rfl)
  go_upto_region 8 with fail
  clear z20 z21 z22 z23 z00 z01 z02 z03 f00 f01 f02 f03
  replace HS := AM (show RS w _ ok [(bx, 50, #[.slice B0 P1.1.dur.length d0, .slice B1 P1.1.pend.length d1, .int .i64 P1.1.cnt, .bool P1.1.failed]), (w.heap.size + 1, 64, #[.slice none 0 0, .slice none 0 0, .int .i64 0, .bool false, .int .i64 0, .int .i64 0, .slice none 0 0, .int .i64 0, .int .i64 0]), (w.heap.size, 64, #[.slice B0 P1.1.dur.length d0, .slice B1 P1.1.pend.length d1, .int .i64 P1.1.cnt, .bool P1.1.failed, .int .i64 L.base, .int .i64 L.slot, .slice A6 L.recs.length c6, .int .i64 L.end_, .int .i64 L.synced])] _ _ _ _ _ _ _ _ from HS.out.puts [(0, .slice B0 P1.1.dur.length d0), (1, .slice B1 P1.1.pend.length d1), (2, .int .i64 P1.1.cnt), (3, .bool P1.1.failed)] 2 rfl)
  replace HS := AM (show RS w (((((w4).setCell ⟨w.heap.size, 0, none⟩ (.slice B0 P1.1.dur.length d0)).setCell ⟨w.heap.size, 1, none⟩ (.slice B1 P1.1.pend.length d1)).setCell ⟨w.heap.size, 2, none⟩ (.int .i64 P1.1.cnt)).setCell ⟨w.heap.size, 3, none⟩ (.bool P1.1.failed)) ok _ _ _ _ _ _ _ _ _ from HS.out)
  generalize ((((w4).setCell ⟨w.heap.size, 0, none⟩ (.slice B0 P1.1.dur.length d0)).setCell ⟨w.heap.size, 1, none⟩ (.slice B1 P1.1.pend.length d1)).setCell ⟨w.heap.size, 2, none⟩ (.int .i64 P1.1.cnt)).setCell ⟨w.heap.size, 3, none⟩ (.bool P1.1.failed) = w5 at HS ⊢
  by_cases h1 : P1.2 = 0
  rotate_left
  ·have HL := AM (show resetL L D = (L, P1.1, P1.2) by rw [HR.out, reset1, HP1.out, if_neg h1])
   obtain ⟨z00, z01, z02, z03, z04, z05, z06, z07, z08⟩ := bn (HS.out.blk 2 rfl)
   obtain ⟨z10, z11, z12, z13, z14, z15, z16, z17, z18⟩ := bn (HS.out.blk 1 rfl)
   obtain ⟨f10, f11, f12, f13, f14, f15, f16, f17, f18⟩ := fn (HS.out.blk 1 rfl)
   go_wp2_with fail
   clear z00 z01 z02 z03 z04 z05 z06 z07 z08 z10 z11 z12 z13 z14 z15 z16 z17 z18 f10 f11 f12 f13 f14 f15 f16 f17 f18
   replace HS := AM (show RS w _ ok [(bx, 50, #[.slice B0 P1.1.dur.length d0, .slice B1 P1.1.pend.length d1, .int .i64 P1.1.cnt, .bool P1.1.failed]), (w.heap.size + 1, 64, #[.slice B0 P1.1.dur.length d0, .slice B1 P1.1.pend.length d1, .int .i64 P1.1.cnt, .bool P1.1.failed, .int .i64 L.base, .int .i64 L.slot, .slice A6 L.recs.length c6, .int .i64 L.end_, .int .i64 L.synced]), (w.heap.size, 64, #[.slice B0 P1.1.dur.length d0, .slice B1 P1.1.pend.length d1, .int .i64 P1.1.cnt, .bool P1.1.failed, .int .i64 L.base, .int .i64 L.slot, .slice A6 L.recs.length c6, .int .i64 L.end_, .int .i64 L.synced])] _ _ _ _ _ _ _ _ from HS.out.puts [(0, .slice B0 P1.1.dur.length d0), (1, .slice B1 P1.1.pend.length d1), (2, .int .i64 P1.1.cnt), (3, .bool P1.1.failed), (4, .int .i64 L.base), (5, .int .i64 L.slot), (6, .slice A6 L.recs.length c6), (7, .int .i64 L.end_), (8, .int .i64 L.synced)] 1 rfl)
   refine bodyPost_ret (results_ct rfl _ _ (w.heap.size + 1) 64 #[.slice B0 P1.1.dur.length d0, .slice B1 P1.1.pend.length d1, .int .i64 P1.1.cnt, .bool P1.1.failed, .int .i64 L.base, .int .i64 L.slot, .slice A6 L.recs.length c6, .int .i64 L.end_, .int .i64 L.synced] (0, 0) _ rfl (HS.out.blk 1 rfl) Try.underlying64 rfl (by kernel_rfl)) rfl ?_
   rw [HL.out]
   exact ⟨_, rfl, HS.out.done L rfl⟩
  obtain ⟨z00, z01, z02, z03⟩ := bq (HS.out.blk 2 rfl)
  obtain ⟨z20, z21, z22, z23⟩ := bq (HS.out.blk 0 rfl)
  obtain ⟨f20, f21, f22, f23⟩ := fq (HS.out.blk 0 rfl)
  go_wp2_with fail
  have hsy := HS.out.sync hok1
  rw [HS1.out] at hsy
  refine hsy.mono ?_
  clear hsy
  rintro e w6 ⟨E0, e0, E1, e1, rfl, hS⟩
  replace HS := AM hS
  clear hS
  clear z00 z01 z02 z03 z20 z21 z22 z23 f20 f21 f22 f23
  obtain ⟨z20, z21, z22, z23⟩ := bq (HS.out.blk 0 rfl)
  obtain ⟨f20, f21, f22, f23⟩ := fq (HS.out.blk 0 rfl)
  go_upto_region 11 with fail
  clear z20 z21 z22 z23 f20 f21 f22 f23
  replace HS := AM (show RS w _ ok [(bx, 50, #[.slice E0 S1.1.dur.length e0, .slice E1 S1.1.pend.length e1, .int .i64 S1.1.cnt, .bool S1.1.failed]), (w.heap.size + 1, 64, #[.slice none 0 0, .slice none 0 0, .int .i64 0, .bool false, .int .i64 0, .int .i64 0, .slice none 0 0, .int .i64 0, .int .i64 0]), (w.heap.size, 64, #[.slice B0 P1.1.dur.length d0, .slice B1 P1.1.pend.length d1, .int .i64 P1.1.cnt, .bool P1.1.failed, .int .i64 L.base, .int .i64 L.slot, .slice A6 L.recs.length c6, .int .i64 L.end_, .int .i64 L.synced])] _ _ _ _ _ _ _ _ from HS.out.puts [(0, .slice E0 S1.1.dur.length e0), (1, .slice E1 S1.1.pend.length e1), (2, .int .i64 S1.1.cnt), (3, .bool S1.1.failed)] 0 rfl)
  replace HS := AM (show RS w (((((w6).setCell ⟨bx, 0, none⟩ (.slice E0 S1.1.dur.length e0)).setCell ⟨bx, 1, none⟩ (.slice E1 S1.1.pend.length e1)).setCell ⟨bx, 2, none⟩ (.int .i64 S1.1.cnt)).setCell ⟨bx, 3, none⟩ (.bool S1.1.failed)) ok _ _ _ _ _ _ _ _ _ from HS.out)
  generalize ((((w6).setCell ⟨bx, 0, none⟩ (.slice E0 S1.1.dur.length e0)).setCell ⟨bx, 1, none⟩ (.slice E1 S1.1.pend.length e1)).setCell ⟨bx, 2, none⟩ (.int .i64 S1.1.cnt)).setCell ⟨bx, 3, none⟩ (.bool S1.1.failed) = w7 at HS ⊢
  obtain ⟨z20, z21, z22, z23⟩ := bq (HS.out.blk 0 rfl)
  obtain ⟨z00, z01, z02, z03⟩ := bq (HS.out.blk 2 rfl)
  obtain ⟨f00, f01, f02, f03⟩ := fq (HS.out.blk 2 rfl)
  go_upto_region 12 with fail
  clear z20 z21 z22 z23 z00 z01 z02 z03 f00 f01 f02 f03
  replace HS := AM (show RS w _ ok [(bx, 50, #[.slice E0 S1.1.dur.length e0, .slice E1 S1.1.pend.length e1, .int .i64 S1.1.cnt, .bool S1.1.failed]), (w.heap.size + 1, 64, #[.slice none 0 0, .slice none 0 0, .int .i64 0, .bool false, .int .i64 0, .int .i64 0, .slice none 0 0, .int .i64 0, .int .i64 0]), (w.heap.size, 64, #[.slice E0 S1.1.dur.length e0, .slice E1 S1.1.pend.length e1, .int .i64 S1.1.cnt, .bool S1.1.failed, .int .i64 L.base, .int .i64 L.slot, .slice A6 L.recs.length c6, .int .i64 L.end_, .int .i64 L.synced])] _ _ _ _ _ _ _ _ from HS.out.puts [(0, .slice E0 S1.1.dur.length e0), (1, .slice E1 S1.1.pend.length e1), (2, .int .i64 S1.1.cnt), (3, .bool S1.1.failed)] 2 rfl)
  replace HS := AM (show RS w (((((w7).setCell ⟨w.heap.size, 0, none⟩ (.slice E0 S1.1.dur.length e0)).setCell ⟨w.heap.size, 1, none⟩ (.slice E1 S1.1.pend.length e1)).setCell ⟨w.heap.size, 2, none⟩ (.int .i64 S1.1.cnt)).setCell ⟨w.heap.size, 3, none⟩ (.bool S1.1.failed)) ok _ _ _ _ _ _ _ _ _ from HS.out)
  generalize ((((w7).setCell ⟨w.heap.size, 0, none⟩ (.slice E0 S1.1.dur.length e0)).setCell ⟨w.heap.size, 1, none⟩ (.slice E1 S1.1.pend.length e1)).setCell ⟨w.heap.size, 2, none⟩ (.int .i64 S1.1.cnt)).setCell ⟨w.heap.size, 3, none⟩ (.bool S1.1.failed) = w8 at HS ⊢
  by_cases h2 : S1.2 = 0
  rotate_left
  ·have HL := AM (show resetL L D = (L, S1.1, S1.2) by rw [HR.out, reset1, HP1.out, if_pos h1, reset2, HS1.out, if_neg h2])
   obtain ⟨z00, z01, z02, z03, z04, z05, z06, z07, z08⟩ := bn (HS.out.blk 2 rfl)
   obtain ⟨z10, z11, z12, z13, z14, z15, z16, z17, z18⟩ := bn (HS.out.blk 1 rfl)
   obtain ⟨f10, f11, f12, f13, f14, f15, f16, f17, f18⟩ := fn (HS.out.blk 1 rfl)
   go_wp2_with fail
   clear z00 z01 z02 z03 z04 z05 z06 z07 z08 z10 z11 z12 z13 z14 z15 z16 z17 z18 f10 f11 f12 f13 f14 f15 f16 f17 f18
   replace HS := AM (show RS w _ ok [(bx, 50, #[.slice E0 S1.1.dur.length e0, .slice E1 S1.1.pend.length e1, .int .i64 S1.1.cnt, .bool S1.1.failed]), (w.heap.size + 1, 64, #[.slice E0 S1.1.dur.length e0, .slice E1 S1.1.pend.length e1, .int .i64 S1.1.cnt, .bool S1.1.failed, .int .i64 L.base, .int .i64 L.slot, .slice A6 L.recs.length c6, .int .i64 L.end_, .int .i64 L.synced]), (w.heap.size, 64, #[.slice E0 S1.1.dur.length e0, .slice E1 S1.1.pend.length e1, .int .i64 S1.1.cnt, .bool S1.1.failed, .int .i64 L.base, .int .i64 L.slot, .slice A6 L.recs.length c6, .int .i64 L.end_, .int .i64 L.synced])] _ _ _ _ _ _ _ _ from HS.out.puts [(0, .slice E0 S1.1.dur.length e0), (1, .slice E1 S1.1.pend.length e1), (2, .int .i64 S1.1.cnt), (3, .bool S1.1.failed), (4, .int .i64 L.base), (5, .int .i64 L.slot), (6, .slice A6 L.recs.length c6), (7, .int .i64 L.end_), (8, .int .i64 L.synced)] 1 rfl)
   refine bodyPost_ret (results_ct rfl _ _ (w.heap.size + 1) 64 #[.slice E0 S1.1.dur.length e0, .slice E1 S1.1.pend.length e1, .int .i64 S1.1.cnt, .bool S1.1.failed, .int .i64 L.base, .int .i64 L.slot, .slice A6 L.recs.length c6, .int .i64 L.end_, .int .i64 L.synced] (0, 0) _ rfl (HS.out.blk 1 rfl) Try.underlying64 rfl (by kernel_rfl)) rfl ?_
   rw [HL.out]
   exact ⟨_, rfl, HS.out.done L rfl⟩
  go_upto_region 14 with fail
  refine start_ (n := 14) (S := fun w' => w'.cell? ⟨w.heap.size, 0, none⟩ = some (.slice E0 S1.1.dur.length e0) ∧ w'.cell? ⟨w.heap.size, 1, none⟩ = some (.slice E1 S1.1.pend.length e1) ∧ w'.cell? ⟨w.heap.size, 2, none⟩ = some (.int .i64 S1.1.cnt) ∧ w'.cell? ⟨w.heap.size, 3, none⟩ = some (.bool S1.1.failed) ∧ w'.cell? ⟨w.heap.size, 4, none⟩ = some (.int .i64 L.base) ∧ w'.cell? ⟨w.heap.size, 7, none⟩ = some (.int .i64 L.end_)) (ds := []) #[false, false, false, false, false, false, false, false, false, false, false, false, false, false] (by kernel_rfl) rfl rfl ⟨(blk_cell (HS.out.blk 2 rfl) 0).trans rfl, (blk_cell (HS.out.blk 2 rfl) 1).trans rfl, (blk_cell (HS.out.blk 2 rfl) 2).trans rfl, (blk_cell (HS.out.blk 2 rfl) 3).trans rfl, (blk_cell (HS.out.blk 2 rfl) 4).trans rfl, (blk_cell (HS.out.blk 2 rfl) 7).trans rfl⟩ (fun hHeld => ?_)
  clear hHeld
  replace HS := AM (HS.out.below (below_drew (Below.refl _ _)))
  generalize w8.drew = w9 at HS ⊢
  have hHeld : w9.cell? ⟨w.heap.size, 0, none⟩ = some (.slice E0 S1.1.dur.length e0) ∧ w9.cell? ⟨w.heap.size, 1, none⟩ = some (.slice E1 S1.1.pend.length e1) ∧ w9.cell? ⟨w.heap.size, 2, none⟩ = some (.int .i64 S1.1.cnt) ∧ w9.cell? ⟨w.heap.size, 3, none⟩ = some (.bool S1.1.failed) ∧ w9.cell? ⟨w.heap.size, 4, none⟩ = some (.int .i64 L.base) ∧ w9.cell? ⟨w.heap.size, 7, none⟩ = some (.int .i64 L.end_) := ⟨(blk_cell (HS.out.blk 2 rfl) 0).trans rfl, (blk_cell (HS.out.blk 2 rfl) 1).trans rfl, (blk_cell (HS.out.blk 2 rfl) 2).trans rfl, (blk_cell (HS.out.blk 2 rfl) 3).trans rfl, (blk_cell (HS.out.blk 2 rfl) 4).trans rfl, (blk_cell (HS.out.blk 2 rfl) 7).trans rfl⟩
  refine pu 0 (some 45) ?_ (bt 14 1) (by kernel_rfl) ?_ ?_ ?_ ?_
  rotate_left
  ·intro w'
   go_simp
   with_reducible rfl
  rotate_left
  ·simp only [pS]
   rfl
  refine tk 1 (some 46) ?_ (bt 14 3) (by kernel_rfl) hHeld ?_ ?_ ?_ ?_
  rotate_left
  ·rintro w' ⟨s0, s1, s2, s3, s4, s5⟩
   go_simp
   with_reducible rfl
  rotate_left
  ·simp only [pS]
   rfl
  refine pu 2 (some 47) ?_ (bt 14 7) (by kernel_rfl) ?_ ?_ ?_ ?_
  rotate_left
  ·intro w'
   go_simp
   with_reducible rfl
  rotate_left
  ·simp only [pS]
   rfl
  refine tk 3 (some 48) ?_ (bt 14 15) (by kernel_rfl) hHeld ?_ ?_ ?_ ?_
  rotate_left
  ·rintro w' ⟨s0, s1, s2, s3, s4, s5⟩
   go_simp
   with_reducible rfl
  rotate_left
  ·simp only [pS]
   rfl
  refine pu 4 (some 49) ?_ (bt 14 31) (by kernel_rfl) ?_ ?_ ?_ ?_
  rotate_left
  ·intro w'
   go_simp
   with_reducible rfl
  rotate_left
  ·simp only [pS]
   rfl
  refine tk 5 (some 50) ?_ (bt 14 63) (by kernel_rfl) hHeld ?_ ?_ ?_ ?_
  rotate_left
  ·rintro w' ⟨s0, s1, s2, s3, s4, s5⟩
   go_simp
   with_reducible rfl
  rotate_left
  ·simp only [pS]
   rfl
  refine pu 6 (some 51) ?_ (bt 14 127) (by kernel_rfl) ?_ ?_ ?_ ?_
  rotate_left
  ·intro w'
   go_simp
   with_reducible rfl
  rotate_left
  ·simp only [pS]
   rfl
  refine one_ (i := 7) (N := some 52) (bt 14 255) rfl rfl (by kernel_rfl) (by decide) (fun K hK => ?_)
  rw [HE.out]
  refine Kd.R_make_step (Kd.int .u8) (w0 := w9) w9.heap.size 5 (by rfl) (N := 52) rfl 29 (.tmp 51) (.tmp 51) rfl (L.end_ - L.base) rfl rfl Try.underlying29 (.int .u8 0) 1 info5 rfl (by decide) (by omega) 0 (ok := fun k => w9.heap.size ≤ k) (okp := fun _ => False) rfl (fun _ h => h.elim) (Nat.le_refl _) (by omega) (by simp; omega) (Below.refl _ _) (Nat.le_refl _) ?_
  intro v1 w9_1 hr hb _ _
  obtain ⟨Az, cz, rfl⟩ := Kd.R_slice hr
  have HZ := AM (Kd.R_reads' hr).2.2
  have hcz := (Kd.R_reads' hr).2.1
  replace HS := AM (HS.out.below hb)
  clear hr hb
  clear hHeld
  refine hK.out _ _ ⟨(blk_cell (HS.out.blk 2 rfl) 0).trans rfl, (blk_cell (HS.out.blk 2 rfl) 1).trans rfl, (blk_cell (HS.out.blk 2 rfl) 2).trans rfl, (blk_cell (HS.out.blk 2 rfl) 3).trans rfl, (blk_cell (HS.out.blk 2 rfl) 4).trans rfl, (blk_cell (HS.out.blk 2 rfl) 7).trans rfl⟩ (fun hHeld => ?_)
  clear hK K
  refine norm_ (a' := ?_) ?_ ?_
  rotate_left
  ·show Act.put _ (some 52) _ = _
   simp only [pS]
   rfl
  refine one_ (i := 8) (N := some 53) (bt 14 511) rfl rfl (by kernel_rfl) (by decide) (fun K hK => ?_)
  refine goes_ Try.func61 (by kernel_rfl) rfl #[.agg #[.slice E0 S1.1.dur.length e0, .slice E1 S1.1.pend.length e1, .int .i64 S1.1.cnt, .bool S1.1.failed], .int .i64 24, .slice Az (List.replicate (L.end_ - L.base).toNat (0 : Int)).length cz] (by rfl) rfl rfl (by (try simp only [List.map_toArray, List.map_cons, List.map_nil]); first | done | rfl) ?_
  have hwr := HS.out.write hok2 24 Az cz (List.replicate (L.end_ - L.base).toNat (0 : Int)) HZ.out hcz (by rw [List.length_replicate]; omega)
  rw [HP2.out] at hwr
  refine hwr.mono ?_
  clear hwr
  rintro e w9_2 ⟨G0, g0, G1, g1, rfl, hS⟩
  replace HS := AM hS
  clear hS
  refine ⟨_, rfl, ?_⟩
  clear hHeld
  refine hK.out _ _ ⟨(blk_cell (HS.out.blk 2 rfl) 0).trans rfl, (blk_cell (HS.out.blk 2 rfl) 1).trans rfl, (blk_cell (HS.out.blk 2 rfl) 2).trans rfl, (blk_cell (HS.out.blk 2 rfl) 3).trans rfl, (blk_cell (HS.out.blk 2 rfl) 4).trans rfl, (blk_cell (HS.out.blk 2 rfl) 7).trans rfl⟩ (fun hHeld => ?_)
  clear hK K
  refine norm_ (a' := ?_) ?_ ?_
  rotate_left
  ·show Act.put _ (some 53) _ = _
   simp only [pS]
   rfl
  refine pu 9 (some 44) ?_ (bt 14 1023) (by kernel_rfl) ?_ ?_ ?_ ?_
  rotate_left
  ·intro w'
   go_simp
   with_reducible rfl
  rotate_left
  ·simp only [pS]
   rfl
  refine pu 10 (some 54) ?_ (bt 14 2047) (by kernel_rfl) ?_ ?_ ?_ ?_
  rotate_left
  ·intro w'
   go_simp
   with_reducible rfl
  rotate_left
  ·simp only [pS]
   rfl
  refine pu 11 (some 55) ?_ (bt 14 4095) (by kernel_rfl) ?_ ?_ ?_ ?_
  rotate_left
  ·intro w'
   go_simp
   with_reducible rfl
  rotate_left
  ·simp only [pS]
   rfl
  refine one_ (i := 12) (N := none) (bt 14 8191) rfl rfl (by kernel_rfl) (by decide) (fun K hK => ?_)
  obtain ⟨z20, z21, z22, z23⟩ := bq (HS.out.blk 0 rfl)
  obtain ⟨f20, f21, f22, f23⟩ := fq (HS.out.blk 0 rfl)
  refine skip_ (w1 := ?_) (by rfl) rfl ?_ ?_
  rotate_left
  ·go_simp
   first | rfl | exact ⟨rfl, rfl⟩
  clear z20 z21 z22 z23 f20 f21 f22 f23
  replace HS := AM (show RS w _ ok [(bx, 50, #[.slice G0 P2.1.dur.length g0, .slice G1 P2.1.pend.length g1, .int .i64 P2.1.cnt, .bool P2.1.failed]), (w.heap.size + 1, 64, #[.slice none 0 0, .slice none 0 0, .int .i64 0, .bool false, .int .i64 0, .int .i64 0, .slice none 0 0, .int .i64 0, .int .i64 0]), (w.heap.size, 64, #[.slice E0 S1.1.dur.length e0, .slice E1 S1.1.pend.length e1, .int .i64 S1.1.cnt, .bool S1.1.failed, .int .i64 L.base, .int .i64 L.slot, .slice A6 L.recs.length c6, .int .i64 L.end_, .int .i64 L.synced])] _ _ _ _ _ _ _ _ from HS.out.puts [(0, .slice G0 P2.1.dur.length g0), (1, .slice G1 P2.1.pend.length g1), (2, .int .i64 P2.1.cnt), (3, .bool P2.1.failed)] 0 rfl)
  replace HS := AM (show RS w (((((w9_2).setCell ⟨bx, 0, none⟩ (.slice G0 P2.1.dur.length g0)).setCell ⟨bx, 1, none⟩ (.slice G1 P2.1.pend.length g1)).setCell ⟨bx, 2, none⟩ (.int .i64 P2.1.cnt)).setCell ⟨bx, 3, none⟩ (.bool P2.1.failed)) ok _ _ _ _ _ _ _ _ _ from HS.out)
  generalize ((((w9_2).setCell ⟨bx, 0, none⟩ (.slice G0 P2.1.dur.length g0)).setCell ⟨bx, 1, none⟩ (.slice G1 P2.1.pend.length g1)).setCell ⟨bx, 2, none⟩ (.int .i64 P2.1.cnt)).setCell ⟨bx, 3, none⟩ (.bool P2.1.failed) = w10 at HS ⊢
  refine hK.out _ _ ⟨(blk_cell (HS.out.blk 2 rfl) 0).trans rfl, (blk_cell (HS.out.blk 2 rfl) 1).trans rfl, (blk_cell (HS.out.blk 2 rfl) 2).trans rfl, (blk_cell (HS.out.blk 2 rfl) 3).trans rfl, (blk_cell (HS.out.blk 2 rfl) 4).trans rfl, (blk_cell (HS.out.blk 2 rfl) 7).trans rfl⟩ (fun hHeld => ?_)
  clear hK K
  refine pu 13 (some 6) ?_ (bt 14 16383) (by kernel_rfl) ?_ ?_ ?_ ?_
  rotate_left
  ·intro w'
   go_simp
   with_reducible rfl
  rotate_left
  ·simp only [pS]
   rfl
  refine done_ (by kernel_rfl) ?_
  clear hHeld
  obtain ⟨z20, z21, z22, z23⟩ := bq (HS.out.blk 0 rfl)
  obtain ⟨z00, z01, z02, z03⟩ := bq (HS.out.blk 2 rfl)
  obtain ⟨f00, f01, f02, f03⟩ := fq (HS.out.blk 2 rfl)
  go_upto_region 16 with fail
  clear z20 z21 z22 z23 z00 z01 z02 z03 f00 f01 f02 f03
  replace HS := AM (show RS w _ ok [(bx, 50, #[.slice G0 P2.1.dur.length g0, .slice G1 P2.1.pend.length g1, .int .i64 P2.1.cnt, .bool P2.1.failed]), (w.heap.size + 1, 64, #[.slice none 0 0, .slice none 0 0, .int .i64 0, .bool false, .int .i64 0, .int .i64 0, .slice none 0 0, .int .i64 0, .int .i64 0]), (w.heap.size, 64, #[.slice G0 P2.1.dur.length g0, .slice G1 P2.1.pend.length g1, .int .i64 P2.1.cnt, .bool P2.1.failed, .int .i64 L.base, .int .i64 L.slot, .slice A6 L.recs.length c6, .int .i64 L.end_, .int .i64 L.synced])] _ _ _ _ _ _ _ _ from HS.out.puts [(0, .slice G0 P2.1.dur.length g0), (1, .slice G1 P2.1.pend.length g1), (2, .int .i64 P2.1.cnt), (3, .bool P2.1.failed)] 2 rfl)
  replace HS := AM (show RS w (((((w10).setCell ⟨w.heap.size, 0, none⟩ (.slice G0 P2.1.dur.length g0)).setCell ⟨w.heap.size, 1, none⟩ (.slice G1 P2.1.pend.length g1)).setCell ⟨w.heap.size, 2, none⟩ (.int .i64 P2.1.cnt)).setCell ⟨w.heap.size, 3, none⟩ (.bool P2.1.failed)) ok _ _ _ _ _ _ _ _ _ from HS.out)
  generalize ((((w10).setCell ⟨w.heap.size, 0, none⟩ (.slice G0 P2.1.dur.length g0)).setCell ⟨w.heap.size, 1, none⟩ (.slice G1 P2.1.pend.length g1)).setCell ⟨w.heap.size, 2, none⟩ (.int .i64 P2.1.cnt)).setCell ⟨w.heap.size, 3, none⟩ (.bool P2.1.failed) = w11 at HS ⊢
  by_cases h3 : P2.2 = 0
  rotate_left
  ·have HL := AM (show resetL L D = (L, P2.1, P2.2) by rw [HR.out, reset1, HP1.out, if_pos h1, reset2, HS1.out, if_pos h2, reset3, HP2.out, if_neg h3])
   obtain ⟨z00, z01, z02, z03, z04, z05, z06, z07, z08⟩ := bn (HS.out.blk 2 rfl)
   obtain ⟨z10, z11, z12, z13, z14, z15, z16, z17, z18⟩ := bn (HS.out.blk 1 rfl)
   obtain ⟨f10, f11, f12, f13, f14, f15, f16, f17, f18⟩ := fn (HS.out.blk 1 rfl)
   go_wp2_with fail
   clear z00 z01 z02 z03 z04 z05 z06 z07 z08 z10 z11 z12 z13 z14 z15 z16 z17 z18 f10 f11 f12 f13 f14 f15 f16 f17 f18
   replace HS := AM (show RS w _ ok [(bx, 50, #[.slice G0 P2.1.dur.length g0, .slice G1 P2.1.pend.length g1, .int .i64 P2.1.cnt, .bool P2.1.failed]), (w.heap.size + 1, 64, #[.slice G0 P2.1.dur.length g0, .slice G1 P2.1.pend.length g1, .int .i64 P2.1.cnt, .bool P2.1.failed, .int .i64 L.base, .int .i64 L.slot, .slice A6 L.recs.length c6, .int .i64 L.end_, .int .i64 L.synced]), (w.heap.size, 64, #[.slice G0 P2.1.dur.length g0, .slice G1 P2.1.pend.length g1, .int .i64 P2.1.cnt, .bool P2.1.failed, .int .i64 L.base, .int .i64 L.slot, .slice A6 L.recs.length c6, .int .i64 L.end_, .int .i64 L.synced])] _ _ _ _ _ _ _ _ from HS.out.puts [(0, .slice G0 P2.1.dur.length g0), (1, .slice G1 P2.1.pend.length g1), (2, .int .i64 P2.1.cnt), (3, .bool P2.1.failed), (4, .int .i64 L.base), (5, .int .i64 L.slot), (6, .slice A6 L.recs.length c6), (7, .int .i64 L.end_), (8, .int .i64 L.synced)] 1 rfl)
   refine bodyPost_ret (results_ct rfl _ _ (w.heap.size + 1) 64 #[.slice G0 P2.1.dur.length g0, .slice G1 P2.1.pend.length g1, .int .i64 P2.1.cnt, .bool P2.1.failed, .int .i64 L.base, .int .i64 L.slot, .slice A6 L.recs.length c6, .int .i64 L.end_, .int .i64 L.synced] (0, 0) _ rfl (HS.out.blk 1 rfl) Try.underlying64 rfl (by kernel_rfl)) rfl ?_
   rw [HL.out]
   exact ⟨_, rfl, HS.out.done L rfl⟩
  obtain ⟨z00, z01, z02, z03⟩ := bq (HS.out.blk 2 rfl)
  obtain ⟨z20, z21, z22, z23⟩ := bq (HS.out.blk 0 rfl)
  obtain ⟨f20, f21, f22, f23⟩ := fq (HS.out.blk 0 rfl)
  go_wp2_with fail
  have hsy := HS.out.sync hok3
  rw [HS2.out] at hsy
  refine hsy.mono ?_
  clear hsy
  rintro e w12 ⟨M0, m0, M1, m1, rfl, hS⟩
  replace HS := AM hS
  clear hS
  clear z00 z01 z02 z03 z20 z21 z22 z23 f20 f21 f22 f23
  obtain ⟨z20, z21, z22, z23⟩ := bq (HS.out.blk 0 rfl)
  obtain ⟨f20, f21, f22, f23⟩ := fq (HS.out.blk 0 rfl)
  go_upto_region 19 with fail
  clear z20 z21 z22 z23 f20 f21 f22 f23
  replace HS := AM (show RS w _ ok [(bx, 50, #[.slice M0 S2.1.dur.length m0, .slice M1 S2.1.pend.length m1, .int .i64 S2.1.cnt, .bool S2.1.failed]), (w.heap.size + 1, 64, #[.slice none 0 0, .slice none 0 0, .int .i64 0, .bool false, .int .i64 0, .int .i64 0, .slice none 0 0, .int .i64 0, .int .i64 0]), (w.heap.size, 64, #[.slice G0 P2.1.dur.length g0, .slice G1 P2.1.pend.length g1, .int .i64 P2.1.cnt, .bool P2.1.failed, .int .i64 L.base, .int .i64 L.slot, .slice A6 L.recs.length c6, .int .i64 L.end_, .int .i64 L.synced])] _ _ _ _ _ _ _ _ from HS.out.puts [(0, .slice M0 S2.1.dur.length m0), (1, .slice M1 S2.1.pend.length m1), (2, .int .i64 S2.1.cnt), (3, .bool S2.1.failed)] 0 rfl)
  replace HS := AM (show RS w (((((w12).setCell ⟨bx, 0, none⟩ (.slice M0 S2.1.dur.length m0)).setCell ⟨bx, 1, none⟩ (.slice M1 S2.1.pend.length m1)).setCell ⟨bx, 2, none⟩ (.int .i64 S2.1.cnt)).setCell ⟨bx, 3, none⟩ (.bool S2.1.failed)) ok _ _ _ _ _ _ _ _ _ from HS.out)
  generalize ((((w12).setCell ⟨bx, 0, none⟩ (.slice M0 S2.1.dur.length m0)).setCell ⟨bx, 1, none⟩ (.slice M1 S2.1.pend.length m1)).setCell ⟨bx, 2, none⟩ (.int .i64 S2.1.cnt)).setCell ⟨bx, 3, none⟩ (.bool S2.1.failed) = w13 at HS ⊢
  obtain ⟨z20, z21, z22, z23⟩ := bq (HS.out.blk 0 rfl)
  obtain ⟨z00, z01, z02, z03⟩ := bq (HS.out.blk 2 rfl)
  obtain ⟨f00, f01, f02, f03⟩ := fq (HS.out.blk 2 rfl)
  go_upto_region 20 with fail
  clear z20 z21 z22 z23 z00 z01 z02 z03 f00 f01 f02 f03
  replace HS := AM (show RS w _ ok [(bx, 50, #[.slice M0 S2.1.dur.length m0, .slice M1 S2.1.pend.length m1, .int .i64 S2.1.cnt, .bool S2.1.failed]), (w.heap.size + 1, 64, #[.slice none 0 0, .slice none 0 0, .int .i64 0, .bool false, .int .i64 0, .int .i64 0, .slice none 0 0, .int .i64 0, .int .i64 0]), (w.heap.size, 64, #[.slice M0 S2.1.dur.length m0, .slice M1 S2.1.pend.length m1, .int .i64 S2.1.cnt, .bool S2.1.failed, .int .i64 L.base, .int .i64 L.slot, .slice A6 L.recs.length c6, .int .i64 L.end_, .int .i64 L.synced])] _ _ _ _ _ _ _ _ from HS.out.puts [(0, .slice M0 S2.1.dur.length m0), (1, .slice M1 S2.1.pend.length m1), (2, .int .i64 S2.1.cnt), (3, .bool S2.1.failed)] 2 rfl)
  replace HS := AM (show RS w (((((w13).setCell ⟨w.heap.size, 0, none⟩ (.slice M0 S2.1.dur.length m0)).setCell ⟨w.heap.size, 1, none⟩ (.slice M1 S2.1.pend.length m1)).setCell ⟨w.heap.size, 2, none⟩ (.int .i64 S2.1.cnt)).setCell ⟨w.heap.size, 3, none⟩ (.bool S2.1.failed)) ok _ _ _ _ _ _ _ _ _ from HS.out)
  generalize ((((w13).setCell ⟨w.heap.size, 0, none⟩ (.slice M0 S2.1.dur.length m0)).setCell ⟨w.heap.size, 1, none⟩ (.slice M1 S2.1.pend.length m1)).setCell ⟨w.heap.size, 2, none⟩ (.int .i64 S2.1.cnt)).setCell ⟨w.heap.size, 3, none⟩ (.bool S2.1.failed) = w14 at HS ⊢
  by_cases h4 : S2.2 = 0
  rotate_left
  ·have HL := AM (show resetL L D = (L, S2.1, S2.2) by rw [HR.out, reset1, HP1.out, if_pos h1, reset2, HS1.out, if_pos h2, reset3, HP2.out, if_pos h3, reset4, HS2.out, if_neg h4])
   obtain ⟨z00, z01, z02, z03, z04, z05, z06, z07, z08⟩ := bn (HS.out.blk 2 rfl)
   obtain ⟨z10, z11, z12, z13, z14, z15, z16, z17, z18⟩ := bn (HS.out.blk 1 rfl)
   obtain ⟨f10, f11, f12, f13, f14, f15, f16, f17, f18⟩ := fn (HS.out.blk 1 rfl)
   go_wp2_with fail
   clear z00 z01 z02 z03 z04 z05 z06 z07 z08 z10 z11 z12 z13 z14 z15 z16 z17 z18 f10 f11 f12 f13 f14 f15 f16 f17 f18
   replace HS := AM (show RS w _ ok [(bx, 50, #[.slice M0 S2.1.dur.length m0, .slice M1 S2.1.pend.length m1, .int .i64 S2.1.cnt, .bool S2.1.failed]), (w.heap.size + 1, 64, #[.slice M0 S2.1.dur.length m0, .slice M1 S2.1.pend.length m1, .int .i64 S2.1.cnt, .bool S2.1.failed, .int .i64 L.base, .int .i64 L.slot, .slice A6 L.recs.length c6, .int .i64 L.end_, .int .i64 L.synced]), (w.heap.size, 64, #[.slice M0 S2.1.dur.length m0, .slice M1 S2.1.pend.length m1, .int .i64 S2.1.cnt, .bool S2.1.failed, .int .i64 L.base, .int .i64 L.slot, .slice A6 L.recs.length c6, .int .i64 L.end_, .int .i64 L.synced])] _ _ _ _ _ _ _ _ from HS.out.puts [(0, .slice M0 S2.1.dur.length m0), (1, .slice M1 S2.1.pend.length m1), (2, .int .i64 S2.1.cnt), (3, .bool S2.1.failed), (4, .int .i64 L.base), (5, .int .i64 L.slot), (6, .slice A6 L.recs.length c6), (7, .int .i64 L.end_), (8, .int .i64 L.synced)] 1 rfl)
   refine bodyPost_ret (results_ct rfl _ _ (w.heap.size + 1) 64 #[.slice M0 S2.1.dur.length m0, .slice M1 S2.1.pend.length m1, .int .i64 S2.1.cnt, .bool S2.1.failed, .int .i64 L.base, .int .i64 L.slot, .slice A6 L.recs.length c6, .int .i64 L.end_, .int .i64 L.synced] (0, 0) _ rfl (HS.out.blk 1 rfl) Try.underlying64 rfl (by kernel_rfl)) rfl ?_
   rw [HL.out]
   exact ⟨_, rfl, HS.out.done L rfl⟩
  have HL := AM (show resetL L D = (⟨L.side, L.end_, L.end_, L.end_, []⟩, S2.1, 0) by rw [HR.out, reset1, HP1.out, if_pos h1, reset2, HS1.out, if_pos h2, reset3, HP2.out, if_pos h3, reset4, HS2.out, if_pos h4])
  have z04 := (blk_cell (HS.out.blk 2 rfl) 4).trans rfl
  have z05 := (blk_cell (HS.out.blk 2 rfl) 5).trans rfl
  have z06 := (blk_cell (HS.out.blk 2 rfl) 6).trans rfl
  have z07 := (blk_cell (HS.out.blk 2 rfl) 7).trans rfl
  have z08 := (blk_cell (HS.out.blk 2 rfl) 8).trans rfl
  have f04 := blk_frozen (HS.out.blk 2 rfl) 4
  have f05 := blk_frozen (HS.out.blk 2 rfl) 5
  have f06 := blk_frozen (HS.out.blk 2 rfl) 6
  have f08 := blk_frozen (HS.out.blk 2 rfl) 8
  go_upto_region 23 with fail
  clear z04 z05 z06 z07 z08 f04 f05 f06 f08
  replace HS := AM (show RS w _ ok [(bx, 50, #[.slice M0 S2.1.dur.length m0, .slice M1 S2.1.pend.length m1, .int .i64 S2.1.cnt, .bool S2.1.failed]), (w.heap.size + 1, 64, #[.slice none 0 0, .slice none 0 0, .int .i64 0, .bool false, .int .i64 0, .int .i64 0, .slice none 0 0, .int .i64 0, .int .i64 0]), (w.heap.size, 64, #[.slice M0 S2.1.dur.length m0, .slice M1 S2.1.pend.length m1, .int .i64 S2.1.cnt, .bool S2.1.failed, .int .i64 L.end_, .int .i64 L.side, .slice none 0 0, .int .i64 L.end_, .int .i64 L.end_])] _ _ _ _ _ _ _ _ from HS.out.puts [(4, .int .i64 L.end_), (5, .int .i64 L.side), (6, .slice none 0 0), (8, .int .i64 L.end_)] 2 rfl)
  replace HS := AM (show RS w (((((w14).setCell ⟨w.heap.size, 4, none⟩ (.int .i64 L.end_)).setCell ⟨w.heap.size, 5, none⟩ (.int .i64 L.side)).setCell ⟨w.heap.size, 6, none⟩ (.slice none 0 0)).setCell ⟨w.heap.size, 8, none⟩ (.int .i64 L.end_)) ok _ _ _ _ _ _ _ _ _ from HS.out)
  replace HS := AM (HS.out.newrecs (rs' := []) (Kd.N_V (base' := 0) (Kd.N_nil G.k73 73 _ 0 (fun _ => False))) (fun _ hk => hk.elim))
  first
   | rw [show ((((w14).setCell ⟨w.heap.size, 4, none⟩ (.int .i64 L.end_)).setCell ⟨w.heap.size, 5, none⟩ (.int .i64 1)).setCell ⟨w.heap.size, 6, none⟩ (.slice none 0 0)).setCell ⟨w.heap.size, 8, none⟩ (.int .i64 L.end_) = ((((w14).setCell ⟨w.heap.size, 4, none⟩ (.int .i64 L.end_)).setCell ⟨w.heap.size, 5, none⟩ (.int .i64 L.side)).setCell ⟨w.heap.size, 6, none⟩ (.slice none 0 0)).setCell ⟨w.heap.size, 8, none⟩ (.int .i64 L.end_) by rw [HSD.out]]
   | rw [show ((((w14).setCell ⟨w.heap.size, 4, none⟩ (.int .i64 L.end_)).setCell ⟨w.heap.size, 5, none⟩ (.int .i64 0)).setCell ⟨w.heap.size, 6, none⟩ (.slice none 0 0)).setCell ⟨w.heap.size, 8, none⟩ (.int .i64 L.end_) = ((((w14).setCell ⟨w.heap.size, 4, none⟩ (.int .i64 L.end_)).setCell ⟨w.heap.size, 5, none⟩ (.int .i64 L.side)).setCell ⟨w.heap.size, 6, none⟩ (.slice none 0 0)).setCell ⟨w.heap.size, 8, none⟩ (.int .i64 L.end_) by rw [HSD.out]]
  generalize ((((w14).setCell ⟨w.heap.size, 4, none⟩ (.int .i64 L.end_)).setCell ⟨w.heap.size, 5, none⟩ (.int .i64 L.side)).setCell ⟨w.heap.size, 6, none⟩ (.slice none 0 0)).setCell ⟨w.heap.size, 8, none⟩ (.int .i64 L.end_) = w15 at HS ⊢
  obtain ⟨z00, z01, z02, z03, z04, z05, z06, z07, z08⟩ := bn (HS.out.blk 2 rfl)
  obtain ⟨z10, z11, z12, z13, z14, z15, z16, z17, z18⟩ := bn (HS.out.blk 1 rfl)
  obtain ⟨f10, f11, f12, f13, f14, f15, f16, f17, f18⟩ := fn (HS.out.blk 1 rfl)
  go_wp2_with fail
  clear z00 z01 z02 z03 z04 z05 z06 z07 z08 z10 z11 z12 z13 z14 z15 z16 z17 z18 f10 f11 f12 f13 f14 f15 f16 f17 f18
  replace HS := AM (show RS w _ ok [(bx, 50, #[.slice M0 S2.1.dur.length m0, .slice M1 S2.1.pend.length m1, .int .i64 S2.1.cnt, .bool S2.1.failed]), (w.heap.size + 1, 64, #[.slice M0 S2.1.dur.length m0, .slice M1 S2.1.pend.length m1, .int .i64 S2.1.cnt, .bool S2.1.failed, .int .i64 L.end_, .int .i64 L.side, .slice none 0 0, .int .i64 L.end_, .int .i64 L.end_]), (w.heap.size, 64, #[.slice M0 S2.1.dur.length m0, .slice M1 S2.1.pend.length m1, .int .i64 S2.1.cnt, .bool S2.1.failed, .int .i64 L.end_, .int .i64 L.side, .slice none 0 0, .int .i64 L.end_, .int .i64 L.end_])] _ _ _ _ _ _ _ _ from HS.out.puts [(0, .slice M0 S2.1.dur.length m0), (1, .slice M1 S2.1.pend.length m1), (2, .int .i64 S2.1.cnt), (3, .bool S2.1.failed), (4, .int .i64 L.end_), (5, .int .i64 L.side), (6, .slice none 0 0), (7, .int .i64 L.end_), (8, .int .i64 L.end_)] 1 rfl)
  refine bodyPost_ret (results_ct rfl _ _ (w.heap.size + 1) 64 #[.slice M0 S2.1.dur.length m0, .slice M1 S2.1.pend.length m1, .int .i64 S2.1.cnt, .bool S2.1.failed, .int .i64 L.end_, .int .i64 L.side, .slice none 0 0, .int .i64 L.end_, .int .i64 L.end_] (0, 0) _ rfl (HS.out.blk 1 rfl) Try.underlying64 rfl (by kernel_rfl)) rfl ?_
  rw [HL.out]
  exact ⟨_, rfl, HS.out.done ⟨L.side, L.end_, L.end_, L.end_, []⟩ rfl⟩
end Go.Proofs.Ytbbokpkpdnppjaa
