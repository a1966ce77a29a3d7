/- The walk of DiskOperations. -/
import Derived.Test.YtbbokpkpdnppjaaC15
namespace Go.Proofs.Ytbbokpkpdnppjaa
open Go.RowKit Go.Proofs.YtbbokpkpdnppjaaW.PrintWords Go.Proofs.YtbbokpkpdnppjaaW.PrintLast Go.Proofs.YtbbokpkpdnppjaaW.PrintMore
set_option linter.unusedVariables false
set_option linter.unusedSimpArgs false

set_option maxRecDepth 100000 in
set_option maxHeartbeats 8000000 in
theorem DiskOperations_calls (size : Int) (A1 : Option Addr) (c1 : Nat) (l : List P.S44) (w : World) (hC1 : Kd.C P.k44 w A1 l.length l) (hc1 : l.length ≤ c1) (hwf : ∀ x ∈ l, x.f2 ≤ 9223372036854775807) :
    Calls Try.prog 8 #[.int .i64 size, .slice A1 l.length c1] w fun e w' => e = .returned (.bool true) ∧ Below w.heap.size w w' := by
  have HC1 := Aside0.mk hC1
  have HWF := Aside0.mk hwf
  clear hC1 hwf
  go_enter Try.func8, Try.ntmps8
  go_wp2_with fail
  refine (awake13 _).mono ?_
  rintro e w1 ⟨rfl, hb⟩
  have HB1 := Aside0.mk hb
  clear hb
  go_wp2_with fail
  refine (few_calls size A1 c1 l w1 (Kd.C_below HC1.out HB1.out) hc1).mono ?_
  rintro e w2 ⟨r, rfl, hr, hb⟩
  have HB2 := Aside0.mk (below_step HB1.out hb)
  clear hb
  cases r with
  | false =>
    go_wp2_with fail
    go_ret
    exact ⟨rfl, HB2.out⟩
  | true =>
    have F := Aside0.mk (hr rfl)
    clear hr
    obtain ⟨m, rfl⟩ := Int.eq_ofNat_of_zero_le (show 0 ≤ size by have := F.out.1; omega)
    have N := Aside0.mk (show 1 ≤ m ∧ m ≤ 64 ∧ l.length ≤ 20 ∧ (∀ x ∈ l, x.f3.length ≤ 64) from ⟨by have := F.out.1; omega, by have := F.out.2.1; omega, F.out.2.2.1, fun x hx => (F.out.2.2.2 x hx).1⟩)
    have OK0 := Aside0.mk (Dk.fresh_ok m N.out.1 (by have := N.out.2.1; omega))
    go_wp2_with fail
    refine ((Sts.start HB2.out).new m N.out.1 (by have := N.out.2.1; omega)).mono ?_
    rintro e w3 ⟨g, rfl, hs, _⟩
    have S3 := Aside0.mk hs
    clear hs
    go_wp2_with fail
    refine (ref_new (ok := fun _ => False) m w3 (by have := N.out.2.1; omega)).mono ?_
    rintro e w4 ⟨v, rfl, hv, hb⟩
    have HB4 := Aside0.mk hb
    have S4 := Aside0.mk (S3.out.fence hb)
    have HV4 := Aside0.mk hv
    obtain ⟨A0, c0, A2, c2, rfl, _, _⟩ := hv.form
    clear hb hv
    go_wp2_with fail
    have hv4 := HV4.out
    rw [List.length_map] at hv4
    have hal : Below w4.heap.size w4 (w4.alloc (.cells #[.slice A0 (Dk.fresh m).dur.length c0, .slice A2 (Dk.fresh m).pend.length c2, .int .i64 (Dk.fresh m).cnt, .bool (Dk.fresh m).failed] 50)) := below_alloc (Below.refl _ _) _
    have HAL := Aside0.mk hal
    have S5 := Aside0.mk (S4.out.fence hal)
    have HV5 := Aside0.mk (hv4.below hal)
    clear hv4 hal
    refine (same_calls S5.out 0 rfl OK0.out HV5.out).mono ?_
    rintro e w5 ⟨rfl, hb⟩
    have S6 := Aside0.mk (S5.out.step hb)
    have HV6 := Aside0.mk (HV5.out.below hb)
    have HX6 := Aside0.mk ((hb.block w4.heap.size (by simp)).trans (heap_alloc_new w4 _))
    clear hb
    go_wp2_with fail
    have hw4 := S4.out.bel.size
    have L6 := Aside0.mk (show Loop w w5 w4.heap.size g (opsD m l 0) from ⟨_, _, A0, c0, A2, c2, S6.out, HV6.out, fun k hk => by
      rcases hk with hk | hk
      · exact hk.elim
      · exact ⟨.inr (.inl (.inr hk)), by omega⟩, .inr ⟨Nat.le_refl _, by simp⟩, hw4, HX6.out⟩)
    clear hw4
    go_loopw [5, 8] (fun vg vi wr => ∃ (k g' : Nat), k ≤ l.length ∧ vg = .pointer (some ⟨g', 0, none⟩) ∧ vi = .int .i64 (k : Int) ∧ Aside0 (Loop w wr w4.heap.size g' (opsD m l k))) (fun _ vi _ => l.length - (intOf vi).toNat)
    case atStart => exact ⟨0, g, Nat.zero_le _, rfl, rfl, L6⟩
    case round =>
      obtain ⟨k, g', hk, rfl, rfl, LK⟩ := hrel
      have hl20 := N.out.2.2.1
      by_cases hlt : k < l.length
      · have hlt' : ((k : Int) < (l.length : Int)) := by omega
        obtain ⟨Q, ok, B0, d0, B2, d2, hs, hv, hko, hqb, hwb, hx⟩ := LK.out
        obtain ⟨ad, A3, c3, A4, c4, ead, y0, y1, y2, y3, y4, lz3, gz3, lz4, gz4⟩ := P.at_T44 HC1.out (k : Int) (by omega) (by omega)
        subst ead
        simp only [Int.toNat_natCast] at y0 y1 y2 y3 y4
        have hSS : ∀ w' : World, Below w.heap.size w w' → w'.heap[w4.heap.size]? = some (.cells #[.slice B0 (opsD m l k).dur.length d0, .slice B2 (opsD m l k).pend.length d2, .int .i64 (opsD m l k).cnt, .bool (opsD m l k).failed] 50 (0, 0)) → (w'.cell? ⟨w4.heap.size, 0, none⟩ = some (.slice B0 (opsD m l k).dur.length d0) ∧ w'.cell? ⟨w4.heap.size, 1, none⟩ = some (.slice B2 (opsD m l k).pend.length d2) ∧ w'.cell? ⟨w4.heap.size, 2, none⟩ = some (.int .i64 (opsD m l k).cnt) ∧ w'.cell? ⟨w4.heap.size, 3, none⟩ = some (.bool (opsD m l k).failed) ∧ w'.cell? (ad.add (k * 5)) = some (.int .i64 (P.rd_T44 l (k : Int)).f0) ∧ w'.cell? ⟨(ad.add (k * 5)).block, (ad.add (k * 5)).off + 1, none⟩ = some (.int .i64 (P.rd_T44 l (k : Int)).f1) ∧ w'.cell? ⟨(ad.add (k * 5)).block, (ad.add (k * 5)).off + 2, none⟩ = some (.int .i64 (P.rd_T44 l (k : Int)).f2) ∧ w'.cell? ⟨(ad.add (k * 5)).block, (ad.add (k * 5)).off + 3, none⟩ = some (.slice A3 (P.rd_T44 l (k : Int)).f3.length c3) ∧ w'.cell? ⟨(ad.add (k * 5)).block, (ad.add (k * 5)).off + 4, none⟩ = some (.slice A4 (P.rd_T44 l (k : Int)).f4.length c4)) := fun w' hb hx =>
          ⟨(blk_cell hx 0).trans rfl, (blk_cell hx 1).trans rfl, (blk_cell hx 2).trans rfl, (blk_cell hx 3).trans rfl, (hb.cell (World.block_lt_of_cell? _ _ y0)).trans y0, (hb.cell (World.block_lt_of_cell? _ _ y1)).trans y1, (hb.cell (World.block_lt_of_cell? _ _ y2)).trans y2, (hb.cell (World.block_lt_of_cell? _ _ y3)).trans y3, (hb.cell (World.block_lt_of_cell? _ _ y4)).trans y4⟩
        have SS := Aside0.mk hSS
        obtain ⟨z0, z1, z2, z3, y0, y1, y2, y3, y4⟩ := hSS wr hs.bel hx
        clear hSS
        have HS := Aside0.mk hs
        have HV := Aside0.mk hv
        have HKO := Aside0.mk hko
        have HQB := Aside0.mk hqb
        have HX := Aside0.mk hx
        have HWB := Aside0.mk hwb
        have G3 := Aside0.mk gz3
        have G4 := Aside0.mk gz4
        have OKK := Aside0.mk (opsD_ok m l N.out.1 (by have := N.out.2.1; omega) N.out.2.2.1 HWF.out k hk)
        have OKN := Aside0.mk (opsD_ok m l N.out.1 (by have := N.out.2.1; omega) N.out.2.2.1 HWF.out (k + 1) hlt)
        have ES := Aside0.mk (opsD_succ m l k hlt)
        have HL3 := Aside0.mk (show (P.rd_T44 l (k : Int)).f3.length ≤ 64 by rw [rd_T44_get l k hlt]; exact N.out.2.2.2 _ (List.getElem_mem hlt))
        clear hs hv hko hqb hx hwb gz3 gz4
        go_wp2_with fail
        refine start_ (n := 15) (S := fun w' => w'.cell? ⟨w4.heap.size, 0, none⟩ = some (.slice B0 (opsD m l k).dur.length d0) ∧ w'.cell? ⟨w4.heap.size, 1, none⟩ = some (.slice B2 (opsD m l k).pend.length d2) ∧ w'.cell? ⟨w4.heap.size, 2, none⟩ = some (.int .i64 (opsD m l k).cnt) ∧ w'.cell? ⟨w4.heap.size, 3, none⟩ = some (.bool (opsD m l k).failed) ∧ w'.cell? (ad.add (k * 5)) = some (.int .i64 (P.rd_T44 l (k : Int)).f0) ∧ w'.cell? ⟨(ad.add (k * 5)).block, (ad.add (k * 5)).off + 1, none⟩ = some (.int .i64 (P.rd_T44 l (k : Int)).f1) ∧ w'.cell? ⟨(ad.add (k * 5)).block, (ad.add (k * 5)).off + 2, none⟩ = some (.int .i64 (P.rd_T44 l (k : Int)).f2) ∧ w'.cell? ⟨(ad.add (k * 5)).block, (ad.add (k * 5)).off + 3, none⟩ = some (.slice A3 (P.rd_T44 l (k : Int)).f3.length c3) ∧ w'.cell? ⟨(ad.add (k * 5)).block, (ad.add (k * 5)).off + 4, none⟩ = some (.slice A4 (P.rd_T44 l (k : Int)).f4.length c4)) (ds := [13]) #[false, false, false, false, false, false, false, false, false, false, false, false, false, false, false] (by kernel_rfl) rfl rfl ⟨z0, z1, z2, z3, y0, y1, y2, y3, y4⟩ (fun hHeld => ?_)
        refine pure_ (i := 0) (N := some 44) (v := ?_) (a' := ?_) #[true, false, false, false, false, false, false, false, false, false, false, false, false, false, false] rfl rfl (by kernel_rfl) (fun _ _ _ h => h) (Or.inl ⟨by rfl, ?_⟩) ?_ ?_
        rotate_left
        · intro w'
          go_simp
          with_reducible rfl
        rotate_left
        · simp only [Act.put, List.setIfInBounds_toArray, List.set_cons_zero, List.set_cons_succ, i64_w, i32_w]
          rfl
        refine take_ (i := 1) (N := some 45) (v := ?_) (a' := ?_) #[true, true, false, false, false, false, false, false, false, false, false, false, false, false, false] rfl rfl (by kernel_rfl) (fun _ _ _ h => h) (Or.inl ⟨by rfl, ?_⟩) hHeld ?_ ?_
        rotate_left
        · rintro w' ⟨s0, s1, s2, s3, s4, s5, s6, s7, s8⟩
          go_simp
          with_reducible rfl
        rotate_left
        · simp only [Act.put, List.setIfInBounds_toArray, List.set_cons_zero, List.set_cons_succ, i64_w, i32_w]
          rfl
        refine pure_ (i := 2) (N := some 46) (v := ?_) (a' := ?_) #[true, true, true, false, false, false, false, false, false, false, false, false, false, false, false] rfl rfl (by kernel_rfl) (fun _ _ _ h => h) (Or.inl ⟨by rfl, ?_⟩) ?_ ?_
        rotate_left
        · intro w'
          go_simp
          with_reducible rfl
        rotate_left
        · simp only [Act.put, List.setIfInBounds_toArray, List.set_cons_zero, List.set_cons_succ, i64_w, i32_w]
          rfl
        refine pure_ (i := 3) (N := some 47) (v := ?_) (a' := ?_) #[true, true, true, true, false, false, false, false, false, false, false, false, false, false, false] rfl rfl (by kernel_rfl) (fun _ _ _ h => h) (Or.inl ⟨by rfl, ?_⟩) ?_ ?_
        rotate_left
        · intro w'
          go_simp
          with_reducible rfl
        rotate_left
        · simp only [Act.put, List.setIfInBounds_toArray, List.set_cons_zero, List.set_cons_succ, i64_w, i32_w]
          rfl
        refine pure_ (i := 4) (N := some 48) (v := ?_) (a' := ?_) #[true, true, true, true, true, false, false, false, false, false, false, false, false, false, false] rfl rfl (by kernel_rfl) (fun _ _ _ h => h) (Or.inl ⟨by rfl, ?_⟩) ?_ ?_
        rotate_left
        · intro w'
          go_simp
          with_reducible rfl
        rotate_left
        · simp only [Act.put, List.setIfInBounds_toArray, List.set_cons_zero, List.set_cons_succ, i64_w, i32_w]
          rfl
        refine take_ (i := 5) (N := some 49) (v := ?_) (a' := ?_) #[true, true, true, true, true, true, false, false, false, false, false, false, false, false, false] rfl rfl (by kernel_rfl) (fun _ _ _ h => h) (Or.inl ⟨by rfl, ?_⟩) hHeld ?_ ?_
        rotate_left
        · rintro w' ⟨s0, s1, s2, s3, s4, s5, s6, s7, s8⟩
          go_simp
          with_reducible rfl
        rotate_left
        · simp only [Act.put, List.setIfInBounds_toArray, List.set_cons_zero, List.set_cons_succ, i64_w, i32_w]
          rfl
        have hs := HS.out.drew
        have hv := HV.out.below (below_drew (Below.refl _ _))
        have hx : wr.drew.heap[w4.heap.size]? = some (.cells #[.slice B0 (opsD m l k).dur.length d0, .slice B2 (opsD m l k).pend.length d2, .int .i64 (opsD m l k).cnt, .bool (opsD m l k).failed] 50 (0, 0)) := HX.out
        clear hHeld
        generalize wr.drew = W at hs hv hx ⊢
        have HSW := Aside0.mk hs
        have HVW := Aside0.mk hv
        have HXW := Aside0.mk hx
        clear hs hv hx HS HV HX z0 z1 z2 z3 y0 y1 y2 y3 y4
        refine join_ (σ := Nat × Nat × Option Addr × Nat × Option Addr × Nat) 3 #[true, true, true, true, true, true, true, true, true, true, true, true, false, false, false] (fun s => [(50, .tuple #[.pointer (some ⟨s.1, 0, none⟩), .agg #[.slice s.2.2.1 (opsD m l (k + 1)).dur.length s.2.2.2.1, .slice s.2.2.2.2.1 (opsD m l (k + 1)).pend.length s.2.2.2.2.2, .int .i64 (opsD m l (k + 1)).cnt, .bool (opsD m l (k + 1)).failed], .bool true]), (43, .tuple #[.pointer (some ⟨s.1, 0, none⟩), .agg #[.slice s.2.2.1 (opsD m l (k + 1)).dur.length s.2.2.2.1, .slice s.2.2.2.2.1 (opsD m l (k + 1)).pend.length s.2.2.2.2.2, .int .i64 (opsD m l (k + 1)).cnt, .bool (opsD m l (k + 1)).failed], .bool true]), (51, .pointer (some ⟨s.1, 0, none⟩)), (52, .agg #[.slice s.2.2.1 (opsD m l (k + 1)).dur.length s.2.2.2.1, .slice s.2.2.2.2.1 (opsD m l (k + 1)).pend.length s.2.2.2.2.2, .int .i64 (opsD m l (k + 1)).cnt, .bool (opsD m l (k + 1)).failed]), (53, .bool true), (10, .pointer (some ⟨s.2.1, 0, none⟩))])
          (fun s w' => Mid w w' w4.heap.size s.2.1 #[.slice B0 (opsD m l k).dur.length d0, .slice B2 (opsD m l k).pend.length d2, .int .i64 (opsD m l k).cnt, .bool (opsD m l k).failed] #[.slice none 0 0, .slice none 0 0, .int .i64 0, .bool false] (opsD m l (k + 1)) s.1 s.2.2.1 s.2.2.2.1 s.2.2.2.2.1 s.2.2.2.2.2) ?_ ?_
        rotate_left
        · intro hCont
          refine two_ (i := 6) (j := 11) (Ni := some 50) (Nj := some 10) #[true, true, true, true, true, true, true, false, false, false, false, false, false, false, false] #[true, true, true, true, true, true, false, false, false, false, false, true, false, false, false] rfl rfl rfl rfl (by kernel_rfl) (by decide) (by decide) (fun K hK => ?_) (fun K hK => ?_)
          · skip
            refine goes_ Try.func31 (by kernel_rfl) rfl #[.pointer (some ⟨g', 0, none⟩), .agg #[.slice B0 (opsD m l k).dur.length d0, .slice B2 (opsD m l k).pend.length d2, .int .i64 (opsD m l k).cnt, .bool (opsD m l k).failed], .agg #[.int .i64 (P.rd_T44 l (k : Int)).f0, .int .i64 (P.rd_T44 l (k : Int)).f1, .int .i64 (P.rd_T44 l (k : Int)).f2, .slice A3 (P.rd_T44 l (k : Int)).f3.length c3, .slice A4 (P.rd_T44 l (k : Int)).f4.length c4]] (by rfl) rfl rfl (by (try simp only [List.map_toArray, List.map_cons, List.map_nil]); first | done | rfl) ?_
            refine (applyAll_calls HSW.out OKK.out.1 HVW.out (fun k hk => (HKO.out k hk).1) (P.rd_T44 l (k : Int)) lz3 G3.out lz4 G4.out HL3.out).mono ?_
            rw [← ES.out]
            rintro e w6 ⟨g1, v1, rfl, Q1, hq1, hs1, hv1, hk1⟩
            obtain ⟨E0, e0, E2, e2, rfl, _, _⟩ := hv1.form
            rw [List.length_map] at hv1 ⊢
            have M := Aside0.mk (mid_a HSW.out HQB.out HWB.out HXW.out HKO.out hq1 hs1 hv1 hk1 #[.slice none 0 0, .slice none 0 0, .int .i64 0, .bool false])
            have hX6 := (hk1 _ HQB.out).trans HXW.out
            have hB6 := hs1.bel
            clear hq1 hs1 hv1 hk1
            refine ⟨_, rfl, ?_⟩
            refine hK.out _ _ (SS.out w6 hB6 hX6) (fun hHeld => ?_)
            clear hK K
            refine norm_ (a' := ?_) ?_ ?_
            rotate_left
            · show Act.put _ (some 50) _ = _
              simp only [Act.put, List.setIfInBounds_toArray, List.set_cons_zero, List.set_cons_succ, i64_w, i32_w]
              rfl
            refine pure_ (i := 7) (N := some 43) (v := ?_) (a' := ?_) #[true, true, true, true, true, true, true, true, false, false, false, false, false, false, false] rfl rfl (by kernel_rfl) (fun _ _ _ h => h) (Or.inl ⟨by rfl, ?_⟩) ?_ ?_
            rotate_left
            · intro w'
              go_simp
              with_reducible rfl
            rotate_left
            · simp only [Act.put, List.setIfInBounds_toArray, List.set_cons_zero, List.set_cons_succ, i64_w, i32_w]
              rfl
            refine pure_ (i := 8) (N := some 51) (v := ?_) (a' := ?_) #[true, true, true, true, true, true, true, true, true, false, false, false, false, false, false] rfl rfl (by kernel_rfl) (fun _ _ _ h => h) (Or.inl ⟨by rfl, ?_⟩) ?_ ?_
            rotate_left
            · intro w'
              go_simp
              with_reducible rfl
            rotate_left
            · simp only [Act.put, List.setIfInBounds_toArray, List.set_cons_zero, List.set_cons_succ, i64_w, i32_w]
              rfl
            refine pure_ (i := 9) (N := some 52) (v := ?_) (a' := ?_) #[true, true, true, true, true, true, true, true, true, true, false, false, false, false, false] rfl rfl (by kernel_rfl) (fun _ _ _ h => h) (Or.inl ⟨by rfl, ?_⟩) ?_ ?_
            rotate_left
            · intro w'
              go_simp
              with_reducible rfl
            rotate_left
            · simp only [Act.put, List.setIfInBounds_toArray, List.set_cons_zero, List.set_cons_succ, i64_w, i32_w]
              rfl
            refine pure_ (i := 10) (N := some 53) (v := ?_) (a' := ?_) #[true, true, true, true, true, true, true, true, true, true, true, false, false, false, false] rfl rfl (by kernel_rfl) (fun _ _ _ h => h) (Or.inl ⟨by rfl, ?_⟩) ?_ ?_
            rotate_left
            · intro w'
              go_simp
              with_reducible rfl
            rotate_left
            · simp only [Act.put, List.setIfInBounds_toArray, List.set_cons_zero, List.set_cons_succ, i64_w, i32_w]
              rfl
            refine one_ (i := 11) (N := some 10) #[true, true, true, true, true, true, true, true, true, true, true, true, false, false, false] rfl rfl (by kernel_rfl) (by decide) (fun K hK => ?_)
            refine value_ (w1 := w6.alloc (.cells #[.slice none 0 0, .slice none 0 0, .int .i64 0, .bool false] 50)) (v := .pointer (some ⟨w6.heap.size, 0, none⟩)) (by rfl) rfl (by go_simp; try rfl) ?_
            have hM := M.out
            have hB7 : Below w.heap.size w (w6.alloc (.cells #[.slice none 0 0, .slice none 0 0, .int .i64 0, .bool false] 50)) := by obtain ⟨_, _, h, _⟩ := hM; exact h.bel
            have hX7 : (w6.alloc (.cells #[.slice none 0 0, .slice none 0 0, .int .i64 0, .bool false] 50)).heap[w4.heap.size]? = some (.cells #[.slice B0 (opsD m l k).dur.length d0, .slice B2 (opsD m l k).pend.length d2, .int .i64 (opsD m l k).cnt, .bool (opsD m l k).failed] 50 (0, 0)) := by obtain ⟨_, _, _, _, _, _, _, _, _, _, h, _⟩ := hM; exact h
            refine hK.out _ _ (SS.out _ hB7 hX7) (fun hHeld => ?_)
            clear hK K
            refine norm_ (a' := ?_) ?_ ?_
            rotate_left
            · show Act.put _ (some 10) _ = _
              simp only [Act.put, List.setIfInBounds_toArray, List.set_cons_zero, List.set_cons_succ, i64_w, i32_w]
              rfl
            exact norm_ (by simp only [putAll, Act.put, List.setIfInBounds_toArray, List.set_cons_zero, List.set_cons_succ]) (hCont (g1, w6.heap.size, E0, e0, E2, e2) _ hM)
          · skip
            refine value_ (w1 := W.alloc (.cells #[.slice none 0 0, .slice none 0 0, .int .i64 0, .bool false] 50)) (v := .pointer (some ⟨W.heap.size, 0, none⟩)) (by rfl) rfl (by go_simp; try rfl) ?_
            have hal : Below W.heap.size W (W.alloc (.cells #[.slice none 0 0, .slice none 0 0, .int .i64 0, .bool false] 50)) := below_alloc (Below.refl _ _) _
            have S6 := Aside0.mk (HSW.out.fence hal)
            have V6 := Aside0.mk (HVW.out.below hal)
            refine hK.out _ _ (SS.out _ S6.out.bel ((hal.block _ (HSW.out.lt _ HQB.out)).trans HXW.out)) (fun hHeld => ?_)
            clear hal
            clear hK K
            refine norm_ (a' := ?_) ?_ ?_
            rotate_left
            · show Act.put _ (some 10) _ = _
              simp only [Act.put, List.setIfInBounds_toArray, List.set_cons_zero, List.set_cons_succ, i64_w, i32_w]
              rfl
            refine one_ (i := 6) (N := some 50) #[true, true, true, true, true, true, true, false, false, false, false, true, false, false, false] rfl rfl (by kernel_rfl) (by decide) (fun K hK => ?_)
            refine goes_ Try.func31 (by kernel_rfl) rfl #[.pointer (some ⟨g', 0, none⟩), .agg #[.slice B0 (opsD m l k).dur.length d0, .slice B2 (opsD m l k).pend.length d2, .int .i64 (opsD m l k).cnt, .bool (opsD m l k).failed], .agg #[.int .i64 (P.rd_T44 l (k : Int)).f0, .int .i64 (P.rd_T44 l (k : Int)).f1, .int .i64 (P.rd_T44 l (k : Int)).f2, .slice A3 (P.rd_T44 l (k : Int)).f3.length c3, .slice A4 (P.rd_T44 l (k : Int)).f4.length c4]] (by rfl) rfl rfl (by (try simp only [List.map_toArray, List.map_cons, List.map_nil]); first | done | rfl) ?_
            refine (applyAll_calls S6.out OKK.out.1 V6.out (fun k hk => (HKO.out k hk).1.imp id .inl) (P.rd_T44 l (k : Int)) lz3 G3.out lz4 G4.out HL3.out).mono ?_
            rw [← ES.out]
            rintro e w6 ⟨g1, v1, rfl, Q1, hq1, hs1, hv1, hk1⟩
            obtain ⟨E0, e0, E2, e2, rfl, _, _⟩ := hv1.form
            rw [List.length_map] at hv1 ⊢
            have hM := mid_b HSW.out HQB.out HWB.out HXW.out HKO.out hq1 hs1 hv1 hk1
            have hX7 : w6.heap[w4.heap.size]? = some (.cells #[.slice B0 (opsD m l k).dur.length d0, .slice B2 (opsD m l k).pend.length d2, .int .i64 (opsD m l k).cnt, .bool (opsD m l k).failed] 50 (0, 0)) := by obtain ⟨_, _, _, _, _, _, _, _, _, _, h, _⟩ := hM; exact h
            have hB7 := hs1.bel
            clear hq1 hs1 hv1 hk1
            refine ⟨_, rfl, ?_⟩
            refine hK.out _ _ (SS.out _ hB7 hX7) (fun hHeld => ?_)
            clear hK K
            refine norm_ (a' := ?_) ?_ ?_
            rotate_left
            · show Act.put _ (some 50) _ = _
              simp only [Act.put, List.setIfInBounds_toArray, List.set_cons_zero, List.set_cons_succ, i64_w, i32_w]
              rfl
            refine pure_ (i := 7) (N := some 43) (v := ?_) (a' := ?_) #[true, true, true, true, true, true, true, true, false, false, false, true, false, false, false] rfl rfl (by kernel_rfl) (fun _ _ _ h => h) (Or.inl ⟨by rfl, ?_⟩) ?_ ?_
            rotate_left
            · intro w'
              go_simp
              with_reducible rfl
            rotate_left
            · simp only [Act.put, List.setIfInBounds_toArray, List.set_cons_zero, List.set_cons_succ, i64_w, i32_w]
              rfl
            refine pure_ (i := 8) (N := some 51) (v := ?_) (a' := ?_) #[true, true, true, true, true, true, true, true, true, false, false, true, false, false, false] rfl rfl (by kernel_rfl) (fun _ _ _ h => h) (Or.inl ⟨by rfl, ?_⟩) ?_ ?_
            rotate_left
            · intro w'
              go_simp
              with_reducible rfl
            rotate_left
            · simp only [Act.put, List.setIfInBounds_toArray, List.set_cons_zero, List.set_cons_succ, i64_w, i32_w]
              rfl
            refine pure_ (i := 9) (N := some 52) (v := ?_) (a' := ?_) #[true, true, true, true, true, true, true, true, true, true, false, true, false, false, false] rfl rfl (by kernel_rfl) (fun _ _ _ h => h) (Or.inl ⟨by rfl, ?_⟩) ?_ ?_
            rotate_left
            · intro w'
              go_simp
              with_reducible rfl
            rotate_left
            · simp only [Act.put, List.setIfInBounds_toArray, List.set_cons_zero, List.set_cons_succ, i64_w, i32_w]
              rfl
            refine pure_ (i := 10) (N := some 53) (v := ?_) (a' := ?_) #[true, true, true, true, true, true, true, true, true, true, true, true, false, false, false] rfl rfl (by kernel_rfl) (fun _ _ _ h => h) (Or.inl ⟨by rfl, ?_⟩) ?_ ?_
            rotate_left
            · intro w'
              go_simp
              with_reducible rfl
            rotate_left
            · simp only [Act.put, List.setIfInBounds_toArray, List.set_cons_zero, List.set_cons_succ, i64_w, i32_w]
              rfl
            exact norm_ (by simp only [putAll, Act.put, List.setIfInBounds_toArray, List.set_cons_zero, List.set_cons_succ]) (hCont (g1, W.heap.size, E0, e0, E2, e2) _ hM)
        · rintro ⟨g1, a2, E0, e0, E2, e2⟩ w7 hM
          have M7 := Aside0.mk hM
          have hx10 : w7.heap[a2]? = some (.cells #[.slice none 0 0, .slice none 0 0, .int .i64 0, .bool false] 50 (0, 0)) := by obtain ⟨_, _, _, _, _, _, _, _, _, _, _, h⟩ := hM; exact h
          clear hM
          have F0 := (blk_cell hx10 0).trans rfl
          have F1 := (blk_cell hx10 1).trans rfl
          have F2 := (blk_cell hx10 2).trans rfl
          have F3 := (blk_cell hx10 3).trans rfl
          have f0 := blk_frozen hx10 0
          have f1 := blk_frozen hx10 1
          have f2 := blk_frozen hx10 2
          have f3 := blk_frozen hx10 3
          clear hx10
          refine norm_ (a' := ?_) ?_ ?_
          rotate_left
          · simp only [putAll, Act.put, List.setIfInBounds_toArray, List.set_cons_zero, List.set_cons_succ]
            rfl
          refine pure_ (i := 12) (N := some 9) (v := ?_) (a' := ?_) #[true, true, true, true, true, true, true, true, true, true, true, true, true, false, false] rfl rfl (by kernel_rfl) (fun _ _ _ h => h) (Or.inl ⟨by rfl, ?_⟩) ?_ ?_
          rotate_left
          · intro w'
            go_simp
            with_reducible rfl
          rotate_left
          · simp only [Act.put, List.setIfInBounds_toArray, List.set_cons_zero, List.set_cons_succ, i64_w, i32_w]
            rfl
          refine last_ (i := 13) (N := none) #[true, true, true, true, true, true, true, true, true, true, true, true, true, true, false] rfl rfl (by kernel_rfl) (by decide) (fun K hK => ?_)
          refine skip_ (w1 := ?_) (by rfl) rfl ?_ ?_
          rotate_left
          · go_simp
            first | rfl | exact ⟨rfl, rfl⟩
          refine hK.out _ _ ?_
          clear hK K
          refine pure_ (i := 14) (N := some 11) (v := ?_) (a' := ?_) #[true, true, true, true, true, true, true, true, true, true, true, true, true, true, true] rfl rfl (by kernel_rfl) (fun _ _ _ h => h) (Or.inl ⟨by rfl, ?_⟩) ?_ ?_
          rotate_left
          · intro w'
            go_simp
            with_reducible rfl
          rotate_left
          · simp only [Act.put, List.setIfInBounds_toArray, List.set_cons_zero, List.set_cons_succ, i64_w, i32_w]
            rfl
          refine done_ (by kernel_rfl) ?_
          have hM8 := M7.out.fill (.slice E0 (opsD m l (k + 1)).dur.length e0) (.slice E2 (opsD m l (k + 1)).pend.length e2) (.int .i64 (opsD m l (k + 1)).cnt) (.bool (opsD m l (k + 1)).failed)
          clear F0 F1 F2 F3 f0 f1 f2 f3 M7
          generalize ((((w7.setCell ⟨a2, 0, none⟩ (.slice E0 (opsD m l (k + 1)).dur.length e0)).setCell ⟨a2, 1, none⟩ (.slice E2 (opsD m l (k + 1)).pend.length e2)).setCell ⟨a2, 2, none⟩ (.int .i64 (opsD m l (k + 1)).cnt)).setCell ⟨a2, 3, none⟩ (.bool (opsD m l (k + 1)).failed)) = w8 at hM8 ⊢
          have hx8 : w8.heap[a2]? = some (.cells #[.slice E0 (opsD m l (k + 1)).dur.length e0, .slice E2 (opsD m l (k + 1)).pend.length e2, .int .i64 (opsD m l (k + 1)).cnt, .bool (opsD m l (k + 1)).failed] 50 (0, 0)) := by obtain ⟨_, _, _, _, _, _, _, _, _, _, _, h⟩ := hM8; exact h
          have u0 := (blk_cell hx8 0).trans rfl
          have u1 := (blk_cell hx8 1).trans rfl
          have u2 := (blk_cell hx8 2).trans rfl
          have u3 := (blk_cell hx8 3).trans rfl
          clear hx8
          have M8 := Aside0.mk hM8
          clear hM8
          go_wp2_with fail
          obtain ⟨Q2, ok2, hs8, hv8, _⟩ := M8.out
          refine (same_calls hs8 0 rfl OKN.out.1 hv8).mono ?_
          clear hs8 hv8
          rintro e w9 ⟨rfl, hb9⟩
          have M9 := Aside0.mk (M8.out.below hb9)
          clear hb9 u0 u1 u2 u3 M8
          go_wp2_with fail
          have hx9 : w9.heap[a2]? = some (.cells #[.slice E0 (opsD m l (k + 1)).dur.length e0, .slice E2 (opsD m l (k + 1)).pend.length e2, .int .i64 (opsD m l (k + 1)).cnt, .bool (opsD m l (k + 1)).failed] 50 (0, 0)) := by obtain ⟨_, _, _, _, _, _, _, _, _, _, _, h⟩ := M9.out; exact h
          have u0 := (blk_cell hx9 0).trans rfl
          have u1 := (blk_cell hx9 1).trans rfl
          have u2 := (blk_cell hx9 2).trans rfl
          have u3 := (blk_cell hx9 3).trans rfl
          clear hx9
          refine start_ (n := 4) (S := fun w' => w'.cell? ⟨a2, 0, none⟩ = some (.slice E0 (opsD m l (k + 1)).dur.length e0) ∧ w'.cell? ⟨a2, 1, none⟩ = some (.slice E2 (opsD m l (k + 1)).pend.length e2) ∧ w'.cell? ⟨a2, 2, none⟩ = some (.int .i64 (opsD m l (k + 1)).cnt) ∧ w'.cell? ⟨a2, 3, none⟩ = some (.bool (opsD m l (k + 1)).failed)) (ds := [3]) #[false, false, false, false] (by kernel_rfl) rfl rfl ⟨u0, u1, u2, u3⟩ (fun hHeld => ?_)
          have hM10 := M9.out.below (below_drew (Below.refl _ _))
          clear M9
          generalize w9.drew = w10 at hM10 hHeld ⊢
          have hx10 : w10.heap[w4.heap.size]? = some (.cells #[.slice B0 (opsD m l k).dur.length d0, .slice B2 (opsD m l k).pend.length d2, .int .i64 (opsD m l k).cnt, .bool (opsD m l k).failed] 50 (0, 0)) := by obtain ⟨_, _, _, _, _, _, _, _, _, _, h, _⟩ := hM10; exact h
          have F0 := (blk_cell hx10 0).trans rfl
          have F1 := (blk_cell hx10 1).trans rfl
          have F2 := (blk_cell hx10 2).trans rfl
          have F3 := (blk_cell hx10 3).trans rfl
          have f0 := blk_frozen hx10 0
          have f1 := blk_frozen hx10 1
          have f2 := blk_frozen hx10 2
          have f3 := blk_frozen hx10 3
          have M10 := Aside0.mk hM10
          clear hM10 hx10 u0 u1 u2 u3
          refine pure_ (i := 0) (N := some 62) (v := ?_) (a' := ?_) #[true, false, false, false] rfl rfl (by kernel_rfl) (fun _ _ _ h => h) (Or.inl ⟨by rfl, ?_⟩) ?_ ?_
          rotate_left
          · intro w'
            go_simp
            with_reducible rfl
          rotate_left
          · simp only [Act.put, List.setIfInBounds_toArray, List.set_cons_zero, List.set_cons_succ, i64_w, i32_w]
            rfl
          refine take_ (i := 1) (N := some 63) (v := ?_) (a' := ?_) #[true, true, false, false] rfl rfl (by kernel_rfl) (fun _ _ _ h => h) (Or.inl ⟨by rfl, ?_⟩) hHeld ?_ ?_
          rotate_left
          · rintro w' ⟨s0, s1, s2, s3⟩
            go_simp
            with_reducible rfl
          rotate_left
          · simp only [Act.put, List.setIfInBounds_toArray, List.set_cons_zero, List.set_cons_succ, i64_w, i32_w]
            rfl
          refine pure_ (i := 2) (N := some 5) (v := ?_) (a' := ?_) #[true, true, true, false] rfl rfl (by kernel_rfl) (fun _ _ _ h => h) (Or.inl ⟨by rfl, ?_⟩) ?_ ?_
          rotate_left
          · intro w'
            go_simp
            with_reducible rfl
          rotate_left
          · simp only [Act.put, List.setIfInBounds_toArray, List.set_cons_zero, List.set_cons_succ, i64_w, i32_w]
            rfl
          refine last_ (i := 3) (N := none) #[true, true, true, true] rfl rfl (by kernel_rfl) (by decide) (fun K hK => ?_)
          refine skip_ (w1 := ?_) (by rfl) rfl ?_ ?_
          rotate_left
          · go_simp
            first | rfl | exact ⟨rfl, rfl⟩
          refine hK.out _ _ ?_
          clear hK K
          refine done_ (by kernel_rfl) ?_
          have ML := M10.out.loop
          clear F0 F1 F2 F3 f0 f1 f2 f3 M10
          generalize ((((w10.setCell ⟨w4.heap.size, 0, none⟩ (.slice E0 (opsD m l (k + 1)).dur.length e0)).setCell ⟨w4.heap.size, 1, none⟩ (.slice E2 (opsD m l (k + 1)).pend.length e2)).setCell ⟨w4.heap.size, 2, none⟩ (.int .i64 (opsD m l (k + 1)).cnt)).setCell ⟨w4.heap.size, 3, none⟩ (.bool (opsD m l (k + 1)).failed)) = w11 at ML ⊢
          have L11 := Aside0.mk ML
          clear ML
          go_wp2_with fail
          go_roundw
          case rel => exact ⟨k + 1, g1, hlt, rfl, by go_num, L11⟩
          case measure => simp [intOf]; omega
      · obtain rfl : k = l.length := by omega
        go_wp2_with fail
        go_ret
        obtain ⟨_, _, _, _, _, _, hs, _⟩ := LK.out
        exact ⟨rfl, hs.bel⟩
end Go.Proofs.Ytbbokpkpdnppjaa
