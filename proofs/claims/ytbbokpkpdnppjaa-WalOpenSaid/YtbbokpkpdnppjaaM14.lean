/- The law WalOpen. -/
import Derived.Test.YtbbokpkpdnppjaaM13
namespace Go.Proofs.Ytbbokpkpdnppjaa
open Go.RowKit Go.Proofs.YtbbokpkpdnppjaaW.PrintWords Go.Proofs.YtbbokpkpdnppjaaW.PrintLast Go.Proofs.YtbbokpkpdnppjaaW.PrintMore
set_option linter.unusedVariables false
set_option linter.unusedSimpArgs false

theorem info64 : (Try.prog.info? 64).map (·.size) = some 9 := by kernel_rfl
set_option maxRecDepth 100000 in
set_option maxHeartbeats 8000000 in
theorem WalOpen_calls (A : Option Addr) (c : Nat) (b : List Int) (w : World) (hC : Kd.C (Kd.int .u8) w A b.length b) (hc : b.length ≤ c) (hB : Bytes b) :
    Calls Try.prog 11 #[.slice A b.length c] w fun e w' => e = .returned (.bool true) ∧ Below w.heap.size w w' := by
  have hu64 := Try.underlying64
  have hu73 := Try.underlying73
  have HC := Aside0.mk hC
  have HBY := Aside0.mk hB
  clear hC hB
  go_enter Try.func11, Try.ntmps11
  go_wp2_with fail
  refine (awake15 w).mono ?_
  rintro e w1 ⟨rfl, hb⟩
  have HB1 := Aside0.mk hb
  clear hb
  by_cases h1 : b.length < 1
  · have ht : (b.length : Int) < 1 := by omega
    have ht2 : ¬ ((b.length : Int) > 200) := by omega
    go_wp2_with fail
    refine (awake15 w1).mono ?_
    rintro e w2 ⟨rfl, hb⟩
    have HB2 := Aside0.mk (below_step HB1.out hb)
    clear hb
    go_wp2_with fail
    go_ret
    exact ⟨rfl, HB2.out⟩
  have ht : ¬ ((b.length : Int) < 1) := by omega
  by_cases h200 : b.length > 200
  · have ht2 : ((b.length : Int) > 200) := by omega
    go_wp2_with fail
    refine (awake15 w1).mono ?_
    rintro e w2 ⟨rfl, hb⟩
    have HB2 := Aside0.mk (below_step HB1.out hb)
    clear hb
    go_wp2_with fail
    go_ret
    exact ⟨rfl, HB2.out⟩
  have ht2 : ¬ ((b.length : Int) > 200) := by omega
  go_wp2_with fail
  refine ((Sts.none_ HB1.out (P := fun _ => False) (fun k hk => hk.elim)).new b.length (by omega) (by omega)).mono ?_
  rintro e w2 ⟨gd, rfl, hs, _⟩
  have S2 := Aside0.mk hs
  clear hs
  obtain ⟨he1, he2, hdur, hpend, hcnt, hfail⟩ := full_write b (by omega) (by omega)
  have HDUR := Aside0.mk hdur
  have HPEND := Aside0.mk hpend
  have HCNT := Aside0.mk hcnt
  have HFAIL := Aside0.mk hfail
  have HE1 := Aside0.mk he1
  have HE2 := Aside0.mk he2
  have OK0 := Aside0.mk (Dk.fresh_ok b.length (by omega) (by omega))
  clear hdur hpend hcnt hfail he1 he2
  go_wp2_with fail
  have hwr := S2.out.write_arg 0 rfl OK0.out 0 A c b HC.out hc (by omega)
  refine hwr.mono ?_
  clear hwr
  rw [HE1.out]
  rintro e w3 ⟨rfl, hs, _⟩
  have OK1 := Aside0.mk (OK0.out.write (by simp [Dk.fresh]) 0 b)
  have S3 := Aside0.mk (show Sts w w3 (fun _ => False) [(gd, ((Dk.fresh b.length).write 0 b).1)] from hs)
  clear hs
  go_wp2_with fail
  refine (S3.out.sync 0 rfl OK1.out).mono ?_
  rw [HE2.out]
  rintro e w4 ⟨rfl, hs, _⟩
  have OK2 := Aside0.mk (OK1.out.sync)
  have S4 := Aside0.mk (show Sts w w4 (fun _ => False) [(gd, (((Dk.fresh b.length).write 0 b).1.sync).1)] from hs)
  clear hs
  generalize (((Dk.fresh b.length).write 0 b).1.sync).1 = D at S4 OK2 HDUR HPEND HCNT HFAIL
  clear S3 OK1 HE1 HE2 S2 OK0
  go_wp2_with fail
  by_cases h24 : b.length < 24
  · refine (openShort_calls S4.out HFAIL.out (by rw [HDUR.out]; exact h24)).mono ?_
    rintro e w5 ⟨rfl, rfl⟩
    have ht24 : (b.length : Int) < 24 := by omega
    go_wp2_with fail
    go_ret
    exact ⟨rfl, S4.out.bel⟩
  have ht24 : ¬ ((b.length : Int) < 24) := by omega
  have hbl : b.length = D.dur.length := by rw [HDUR.out]
  have hrd : D.read 0 (b.length : Int) = (b, 0) := by
    unfold Dk.read
    rw [if_neg (by rw [HFAIL.out]; simp), if_neg (by rw [HDUR.out]; simp [insd])]
    simp [Dk.now, HDUR.out, HPEND.out, layAll]
  obtain ⟨sl, ba, hbs⟩ : ∃ sl ba, basesN b 2 = (sl, ba) := ⟨_, _, rfl⟩
  have hrg := basesN_range b HBY.out (by omega)
  rw [hbs] at hrg
  have hop := open_calls S4.out OK2.out HFAIL.out (by rw [HPEND.out]; decide) b hbl hrd (by omega) HBY.out sl ba hbs hrg.1 hrg.2 (fun a _ h2 => by
    have := erase_full D b HDUR.out HPEND.out HCNT.out HFAIL.out a h2
    exact ⟨this.1, by rw [this.2.2.1]; rfl⟩)
  refine hop.mono ?_
  clear hop hrd hbl
  rintro e w5 ⟨g, at_, rs, rfl, hP, hnone, Q5, rok, _, _, hlog, _, _⟩
  obtain ⟨_, hdur, hpend, hcnt, hfail⟩ := erase_full D b HDUR.out HPEND.out HCNT.out HFAIL.out at_ (hP.le (by omega)).1
  generalize (eraseD D b at_).1 = D5 at hlog hdur hpend hcnt hfail
  have hle := hP.le (by omega)
  have HL := Aside0.mk hlog
  have HP := Aside0.mk hP
  obtain ⟨fuel, hfuel⟩ : ∃ fuel : Nat, 60000000 ≤ fuel := ⟨_, Nat.le_refl _⟩
  have HSC := Aside0.mk (scan_f b HBY.out (by omega) (by omega) ba sl hbs hP hnone fuel hfuel)
  clear hfuel
  have HD5 := Aside0.mk (And.intro hdur (And.intro hpend (And.intro hcnt hfail)))
  clear hlog hP hnone hdur hpend hcnt hfail hbs
  go_wp2_with fail
  have hC5 : Kd.C (Kd.int .u8) w5 A b.length b := Kd.C_below HC.out HL.out.1.bel
  refine (G.lineageref15_Scan.calls fuel (fun k => k < w5.heap.size) A c b _ _ _ _ _ _ _ _ _ w5 (Kd.V_mk hc (Kd.C_F (Kd.heap_int .u8) hC5)) HSC.out).mono ?_
  rintro e w6 ⟨v0, v1, v6, rfl, hN0, hN1, hN6, hb6⟩
  obtain ⟨A0, c0, rfl⟩ := Kd.R_slice hN0
  obtain ⟨A1, c1, rfl⟩ := Kd.N_slice hN1
  clear hN0 hN1
  rw [show ([] : List Int).length = 0 from rfl, show ([] : List G.S119).length = 0 from rfl] at *
  obtain ⟨A6, c6, rfl⟩ := Kd.N_slice hN6
  have HN6 := Aside0.mk hN6
  have HL6 := Aside0.mk (HL.out.step hb6)
  have HB6 := Aside0.mk (show Below w.heap.size w w6 from below_step HL.out.1.bel hb6)
  clear hN6 hb6 hC5
  have HEQ6 : ∃ x, x = w6.heap.size := ⟨_, rfl⟩
  go_wp2_with (first | ((with_reducible refine gate_dst (N := 6) rfl ?_); refine box_event ?hg (N := 6) ?hd (cs := #[.slice none 0 0, .slice none 0 0, .int .i64 0, .bool false, .int .i64 0, .int .i64 0, .slice none 0 0, .int .i64 0, .int .i64 0]) (t := 64) ?hr ?_; (case hd => rfl); (case hg => rfl); (case hr => first | (go_simp; done) | (go_simp; rfl)); intro gb hgb w7 hbox hb7; have F0 : w7.cell? ⟨gb, 0, none⟩ = some (.slice none 0 0) := (blk_cell hbox 0).trans rfl; have F1 : w7.cell? ⟨gb, 1, none⟩ = some (.slice none 0 0) := (blk_cell hbox 1).trans rfl; have F2 : w7.cell? ⟨gb, 2, none⟩ = some (.int .i64 0) := (blk_cell hbox 2).trans rfl; have F3 : w7.cell? ⟨gb, 3, none⟩ = some (.bool false) := (blk_cell hbox 3).trans rfl; have F4 : w7.cell? ⟨gb, 4, none⟩ = some (.int .i64 0) := (blk_cell hbox 4).trans rfl; have F5 : w7.cell? ⟨gb, 5, none⟩ = some (.int .i64 0) := (blk_cell hbox 5).trans rfl; have F6 : w7.cell? ⟨gb, 6, none⟩ = some (.slice none 0 0) := (blk_cell hbox 6).trans rfl; have F7 : w7.cell? ⟨gb, 7, none⟩ = some (.int .i64 0) := (blk_cell hbox 7).trans rfl; have F8 : w7.cell? ⟨gb, 8, none⟩ = some (.int .i64 0) := (blk_cell hbox 8).trans rfl; have f0 := blk_frozen hbox 0; have f1 := blk_frozen hbox 1; have f2 := blk_frozen hbox 2; have f3 := blk_frozen hbox 3; have f4 := blk_frozen hbox 4; have f5 := blk_frozen hbox 5; have f6 := blk_frozen hbox 6; have f7 := blk_frozen hbox 7; have f8 := blk_frozen hbox 8; have HBOX := Aside0.mk hbox; have HB7 := Aside0.mk hb7; have HGB := Aside0.mk hgb; clear hbox hb7 hgb) | (refine wpList_store_row rfl 64 (.tmp 6) (.tmp 57) rfl gb #[.slice A0 0 c0, .slice A1 0 c1, .int .i64 0, .bool false, .int .i64 ba, .int .i64 sl, .slice A6 rs.length c6, .int .i64 (ba + at_ - 24), .int .i64 0] rfl rfl 64 _ HBOX.out info64 rfl (by simp [Value.oneCell']) ?_))
  have hbx8 := setRow_heap w7 gb _ #[.slice A0 0 c0, .slice A1 0 c1, .int .i64 0, .bool false, .int .i64 ba, .int .i64 sl, .slice A6 rs.length c6, .int .i64 (ba + at_ - 24), .int .i64 0] 64 (0, 0) HBOX.out
  have hb8 : Below w6.heap.size w6 (w7.setRow gb #[.slice A0 0 c0, .slice A1 0 c1, .int .i64 0, .bool false, .int .i64 ba, .int .i64 sl, .slice A6 rs.length c6, .int .i64 (ba + at_ - 24), .int .i64 0]) := below_setRow HB7.out (Nat.le_of_eq HGB.out.symm) #[.slice A0 0 c0, .slice A1 0 c1, .int .i64 0, .bool false, .int .i64 ba, .int .i64 sl, .slice A6 rs.length c6, .int .i64 (ba + at_ - 24), .int .i64 0]
  generalize w7.setRow gb #[.slice A0 0 c0, .slice A1 0 c1, .int .i64 0, .bool false, .int .i64 ba, .int .i64 sl, .slice A6 rs.length c6, .int .i64 (ba + at_ - 24), .int .i64 0] = w8 at hbx8 hb8 ⊢
  have HBX8 := Aside0.mk hbx8
  have HL8 := Aside0.mk (HL6.out.step hb8)
  have HN8 := Aside0.mk (Kd.N_below HN6.out hb8)
  have HB8 := Aside0.mk (below_step HB6.out hb8)
  have HLE := Aside0.mk hle
  have HRG := Aside0.mk hrg
  have HDAT := Aside0.mk (HP.out.data_le (show b.length ≤ 4194304 by omega))
  have HRSL := Aside0.mk (show rs.length ≤ 4194304 by have := hle.2.2; omega)
  clear F0 F1 F2 F3 F4 F5 F6 F7 F8 f0 f1 f2 f3 f4 f5 f6 f7 f8 hbx8 hb8 HBOX HL6 HN6 HB6 HB7 HGB hle hrg HEQ6
  simp only [Act.put, List.setIfInBounds_toArray, List.set_cons_zero, List.set_cons_succ]
  refine start_ (n := 28) (S := fun w' => w'.cell? ⟨gb, 7, none⟩ = some (.int .i64 (ba + (at_ : Int) - 24)) ∧ w'.cell? ⟨gb, 6, none⟩ = some (.slice A6 rs.length c6)) (ds := []) #[false, false, false, false, false, false, false, false, false, false, false, false, false, false, false, false, false, false, false, false, false, false, false, false, false, false, false, false] (by kernel_rfl) rfl rfl ⟨(blk_cell HBX8.out 7).trans rfl, (blk_cell HBX8.out 6).trans rfl⟩ (fun hHeld => ?_)
  have hbd : Below w8.heap.size w8 w8.drew := below_drew (Below.refl _ _)
  have HBX9 := Aside0.mk ((hbd.block gb (blk_lt HBX8.out)).trans HBX8.out)
  have HL9 := Aside0.mk (HL8.out.step hbd)
  have HN9 := Aside0.mk (Kd.N_below HN8.out hbd)
  have HB9 := Aside0.mk (below_step HB8.out hbd)
  clear hbd hHeld HBX8 HL8 HN8 HB8
  generalize w8.drew = w9 at HBX9 HL9 HN9 HB9 ⊢
  have hHeld := HBX9.out
  replace hHeld : w9.cell? ⟨gb, 7, none⟩ = some (.int .i64 (ba + (at_ : Int) - 24)) ∧ w9.cell? ⟨gb, 6, none⟩ = some (.slice A6 rs.length c6) := ⟨(blk_cell HBX9.out 7).trans rfl, (blk_cell HBX9.out 6).trans rfl⟩
  refine pure_ (i := 0) (N := some 58) (v := ?_) (a' := ?_) #[true, false, false, false, false, false, false, false, false, false, false, false, false, false, false, false, false, false, false, false, false, false, false, false, false, false, false, false] rfl rfl (by kernel_rfl) (fun _ _ _ h => h) (Or.inl ⟨by rfl, ?_⟩) ?_ ?_
  rotate_left
  · intro w'
    go_simp
    with_reducible rfl
  rotate_left
  · simp only [Act.put, List.setIfInBounds_toArray, List.set_cons_zero, List.set_cons_succ, i64_w, i32_w]
    rfl
  refine pure_ (i := 1) (N := some 59) (v := ?_) (a' := ?_) #[true, true, false, false, false, false, false, false, false, false, false, false, false, false, false, false, false, false, false, false, false, false, false, false, false, false, false, false] rfl rfl (by kernel_rfl) (fun _ _ _ h => h) (Or.inl ⟨by rfl, ?_⟩) ?_ ?_
  rotate_left
  · intro w'
    go_simp
    with_reducible rfl
  rotate_left
  · simp only [Act.put, List.setIfInBounds_toArray, List.set_cons_zero, List.set_cons_succ, i64_w, i32_w]
    rfl
  refine pure_ (i := 2) (N := some 60) (v := ?_) (a' := ?_) #[true, true, true, false, false, false, false, false, false, false, false, false, false, false, false, false, false, false, false, false, false, false, false, false, false, false, false, false] rfl rfl (by kernel_rfl) (fun _ _ _ h => h) (Or.inl ⟨by rfl, ?_⟩) ?_ ?_
  rotate_left
  · intro w'
    go_simp
    with_reducible rfl
  rotate_left
  · simp only [Act.put, List.setIfInBounds_toArray, List.set_cons_zero, List.set_cons_succ, i64_w, i32_w]
    rfl
  refine pure_ (i := 3) (N := some 61) (v := ?_) (a' := ?_) #[true, true, true, true, false, false, false, false, false, false, false, false, false, false, false, false, false, false, false, false, false, false, false, false, false, false, false, false] rfl rfl (by kernel_rfl) (fun _ _ _ h => h) (Or.inl ⟨by rfl, ?_⟩) ?_ ?_
  rotate_left
  · intro w'
    go_simp
    with_reducible rfl
  rotate_left
  · simp only [Act.put, List.setIfInBounds_toArray, List.set_cons_zero, List.set_cons_succ, i64_w, i32_w]
    rfl
  refine pure_ (i := 4) (N := some 62) (v := ?_) (a' := ?_) #[true, true, true, true, true, false, false, false, false, false, false, false, false, false, false, false, false, false, false, false, false, false, false, false, false, false, false, false] rfl rfl (by kernel_rfl) (fun _ _ _ h => h) (Or.inl ⟨by rfl, ?_⟩) ?_ ?_
  rotate_left
  · intro w'
    go_simp
    with_reducible rfl
  rotate_left
  · simp only [Act.put, List.setIfInBounds_toArray, List.set_cons_zero, List.set_cons_succ, i64_w, i32_w]
    rfl
  refine pure_ (i := 5) (N := some 63) (v := ?_) (a' := ?_) #[true, true, true, true, true, true, false, false, false, false, false, false, false, false, false, false, false, false, false, false, false, false, false, false, false, false, false, false] rfl rfl (by kernel_rfl) (fun _ _ _ h => h) (Or.inl ⟨by rfl, ?_⟩) ?_ ?_
  rotate_left
  · intro w'
    go_simp
    with_reducible rfl
  rotate_left
  · simp only [Act.put, List.setIfInBounds_toArray, List.set_cons_zero, List.set_cons_succ, i64_w, i32_w]
    rfl
  refine pure_ (i := 6) (N := some 64) (v := ?_) (a' := ?_) #[true, true, true, true, true, true, true, false, false, false, false, false, false, false, false, false, false, false, false, false, false, false, false, false, false, false, false, false] rfl rfl (by kernel_rfl) (fun _ _ _ h => h) (Or.inl ⟨by rfl, ?_⟩) ?_ ?_
  rotate_left
  · intro w'
    go_simp
    with_reducible rfl
  rotate_left
  · simp only [Act.put, List.setIfInBounds_toArray, List.set_cons_zero, List.set_cons_succ, i64_w, i32_w]
    rfl
  refine pure_ (i := 7) (N := some 65) (v := ?_) (a' := ?_) #[true, true, true, true, true, true, true, true, false, false, false, false, false, false, false, false, false, false, false, false, false, false, false, false, false, false, false, false] rfl rfl (by kernel_rfl) (fun _ _ _ h => h) (Or.inl ⟨by rfl, ?_⟩) ?_ ?_
  rotate_left
  · intro w'
    go_simp
    with_reducible rfl
  rotate_left
  · simp only [Act.put, List.setIfInBounds_toArray, List.set_cons_zero, List.set_cons_succ, i64_w, i32_w]
    rfl
  refine pure_ (i := 9) (N := some 67) (v := ?_) (a' := ?_) #[true, true, true, true, true, true, true, true, false, true, false, false, false, false, false, false, false, false, false, false, false, false, false, false, false, false, false, false] rfl rfl (by kernel_rfl) (fun _ _ _ h => h) (Or.inl ⟨by rfl, ?_⟩) ?_ ?_
  rotate_left
  · intro w'
    go_simp
    with_reducible rfl
  rotate_left
  · simp only [Act.put, List.setIfInBounds_toArray, List.set_cons_zero, List.set_cons_succ, i64_w, i32_w]
    rfl
  refine take_ (i := 10) (N := some 68) (v := ?_) (a' := ?_) #[true, true, true, true, true, true, true, true, false, true, true, false, false, false, false, false, false, false, false, false, false, false, false, false, false, false, false, false] rfl rfl (by kernel_rfl) (fun _ _ _ h => h) (Or.inl ⟨by rfl, ?_⟩) hHeld ?_ ?_
  rotate_left
  · rintro w' ⟨s0, s1⟩
    go_simp
    with_reducible rfl
  rotate_left
  · simp only [Act.put, List.setIfInBounds_toArray, List.set_cons_zero, List.set_cons_succ, i64_w, i32_w]
    rfl
  refine one_ (i := 8) (N := some 66) #[true, true, true, true, true, true, true, true, true, true, true, false, false, false, false, false, false, false, false, false, false, false, false, false, false, false, false, false] rfl rfl (by kernel_rfl) (by decide) (fun K hK => ?_)
  refine goes_ Try.func38 (by kernel_rfl) rfl #[.pointer (some ⟨g, 0, none⟩)] (by rfl) rfl rfl (by (try simp only [List.map_toArray, List.map_cons, List.map_nil]); first | done | rfl) ?_
  refine (End_calls HL9.out).mono ?_
  rintro e w' ⟨rfl, rfl⟩
  refine ⟨_, rfl, ?_⟩
  refine hK.out _ _ ⟨(blk_cell HBX9.out 7).trans rfl, (blk_cell HBX9.out 6).trans rfl⟩ (fun hHeld => ?_)
  clear hK K
  refine norm_ (a' := ?_) ?_ ?_
  rotate_left
  · show Act.put _ (some 66) _ = _
    simp only [Act.put, List.setIfInBounds_toArray, List.set_cons_zero, List.set_cons_succ, i64_w, i32_w]
    rfl
  refine pure_ (i := 11) (N := some 69) (v := ?_) (a' := ?_) #[true, true, true, true, true, true, true, true, true, true, true, true, false, false, false, false, false, false, false, false, false, false, false, false, false, false, false, false] rfl rfl (by kernel_rfl) (fun _ _ _ h => h) (Or.inl ⟨by rfl, ?_⟩) ?_ ?_
  rotate_left
  · intro w'
    go_simp
    with_reducible rfl
  rotate_left
  · simp only [Act.put, List.setIfInBounds_toArray, List.set_cons_zero, List.set_cons_succ, i64_w, i32_w]
    rfl
  refine pure_ (i := 12) (N := some 70) (v := ?_) (a' := ?_) #[true, true, true, true, true, true, true, true, true, true, true, true, true, false, false, false, false, false, false, false, false, false, false, false, false, false, false, false] rfl rfl (by kernel_rfl) (fun _ _ _ h => h) (Or.inl ⟨by rfl, ?_⟩) ?_ ?_
  rotate_left
  · intro w'
    go_simp
    with_reducible rfl
  rotate_left
  · simp only [Act.put, List.setIfInBounds_toArray, List.set_cons_zero, List.set_cons_succ, i64_w, i32_w]
    rfl
  refine pure_ (i := 13) (N := some 71) (v := ?_) (a' := ?_) #[true, true, true, true, true, true, true, true, true, true, true, true, true, true, false, false, false, false, false, false, false, false, false, false, false, false, false, false] rfl rfl (by kernel_rfl) (fun _ _ _ h => h) (Or.inl ⟨by rfl, ?_⟩) ?_ ?_
  rotate_left
  · intro w'
    go_simp
    with_reducible rfl
  rotate_left
  · simp only [Act.put, List.setIfInBounds_toArray, List.set_cons_zero, List.set_cons_succ, i64_w, i32_w]
    rfl
  refine pure_ (i := 14) (N := some 72) (v := ?_) (a' := ?_) #[true, true, true, true, true, true, true, true, true, true, true, true, true, true, true, false, false, false, false, false, false, false, false, false, false, false, false, false] rfl rfl (by kernel_rfl) (fun _ _ _ h => h) (Or.inl ⟨by rfl, ?_⟩) ?_ ?_
  rotate_left
  · intro w'
    go_simp
    with_reducible rfl
  rotate_left
  · simp only [Act.put, List.setIfInBounds_toArray, List.set_cons_zero, List.set_cons_succ, i64_w, i32_w]
    rfl
  refine pure_ (i := 16) (N := some 74) (v := ?_) (a' := ?_) #[true, true, true, true, true, true, true, true, true, true, true, true, true, true, true, false, true, false, false, false, false, false, false, false, false, false, false, false] rfl rfl (by kernel_rfl) (fun _ _ _ h => h) (Or.inl ⟨by rfl, ?_⟩) ?_ ?_
  rotate_left
  · intro w'
    go_simp
    with_reducible rfl
  rotate_left
  · simp only [Act.put, List.setIfInBounds_toArray, List.set_cons_zero, List.set_cons_succ, i64_w, i32_w]
    rfl
  refine take_ (i := 17) (N := some 75) (v := ?_) (a' := ?_) #[true, true, true, true, true, true, true, true, true, true, true, true, true, true, true, false, true, true, false, false, false, false, false, false, false, false, false, false] rfl rfl (by kernel_rfl) (fun _ _ _ h => h) (Or.inl ⟨by rfl, ?_⟩) hHeld ?_ ?_
  rotate_left
  · rintro w' ⟨s0, s1⟩
    go_simp
    with_reducible rfl
  rotate_left
  · simp only [Act.put, List.setIfInBounds_toArray, List.set_cons_zero, List.set_cons_succ, i64_w, i32_w]
    rfl
  refine one_ (i := 15) (N := some 73) #[true, true, true, true, true, true, true, true, true, true, true, true, true, true, true, true, true, true, false, false, false, false, false, false, false, false, false, false] rfl rfl (by kernel_rfl) (by decide) (fun K hK => ?_)
  refine goes_ Try.func39 (by kernel_rfl) rfl #[.pointer (some ⟨g, 0, none⟩)] (by rfl) rfl rfl (by (try simp only [List.map_toArray, List.map_cons, List.map_nil]); first | done | rfl) ?_
  refine (Synced_calls HL9.out).mono ?_
  rintro e w' ⟨rfl, rfl⟩
  refine ⟨_, rfl, ?_⟩
  refine hK.out _ _ ⟨(blk_cell HBX9.out 7).trans rfl, (blk_cell HBX9.out 6).trans rfl⟩ (fun hHeld => ?_)
  clear hK K
  refine norm_ (a' := ?_) ?_ ?_
  rotate_left
  · show Act.put _ (some 73) _ = _
    simp only [Act.put, List.setIfInBounds_toArray, List.set_cons_zero, List.set_cons_succ, i64_w, i32_w]
    rfl
  refine pure_ (i := 18) (N := some 76) (v := ?_) (a' := ?_) #[true, true, true, true, true, true, true, true, true, true, true, true, true, true, true, true, true, true, true, false, false, false, false, false, false, false, false, false] rfl rfl (by kernel_rfl) (fun _ _ _ h => h) (Or.inl ⟨by rfl, ?_⟩) ?_ ?_
  rotate_left
  · intro w'
    go_simp
    with_reducible rfl
  rotate_left
  · simp only [Act.put, List.setIfInBounds_toArray, List.set_cons_zero, List.set_cons_succ, i64_w, i32_w]
    rfl
  refine pure_ (i := 19) (N := some 77) (v := ?_) (a' := ?_) #[true, true, true, true, true, true, true, true, true, true, true, true, true, true, true, true, true, true, true, true, false, false, false, false, false, false, false, false] rfl rfl (by kernel_rfl) (fun _ _ _ h => h) (Or.inl ⟨by rfl, ?_⟩) ?_ ?_
  rotate_left
  · intro w'
    go_simp
    with_reducible rfl
  rotate_left
  · simp only [Act.put, List.setIfInBounds_toArray, List.set_cons_zero, List.set_cons_succ, i64_w, i32_w]
    rfl
  refine pure_ (i := 20) (N := some 78) (v := ?_) (a' := ?_) #[true, true, true, true, true, true, true, true, true, true, true, true, true, true, true, true, true, true, true, true, true, false, false, false, false, false, false, false] rfl rfl (by kernel_rfl) (fun _ _ _ h => h) (Or.inl ⟨by rfl, ?_⟩) ?_ ?_
  rotate_left
  · intro w'
    go_simp
    with_reducible rfl
  rotate_left
  · simp only [Act.put, List.setIfInBounds_toArray, List.set_cons_zero, List.set_cons_succ, i64_w, i32_w]
    rfl
  refine pure_ (i := 21) (N := some 79) (v := ?_) (a' := ?_) #[true, true, true, true, true, true, true, true, true, true, true, true, true, true, true, true, true, true, true, true, true, true, false, false, false, false, false, false] rfl rfl (by kernel_rfl) (fun _ _ _ h => h) (Or.inl ⟨by rfl, ?_⟩) ?_ ?_
  rotate_left
  · intro w'
    go_simp
    with_reducible rfl
  rotate_left
  · simp only [Act.put, List.setIfInBounds_toArray, List.set_cons_zero, List.set_cons_succ, i64_w, i32_w]
    rfl
  refine pure_ (i := 23) (N := some 81) (v := ?_) (a' := ?_) #[true, true, true, true, true, true, true, true, true, true, true, true, true, true, true, true, true, true, true, true, true, true, false, true, false, false, false, false] rfl rfl (by kernel_rfl) (fun _ _ _ h => h) (Or.inl ⟨by rfl, ?_⟩) ?_ ?_
  rotate_left
  · intro w'
    go_simp
    with_reducible rfl
  rotate_left
  · simp only [Act.put, List.setIfInBounds_toArray, List.set_cons_zero, List.set_cons_succ, i64_w, i32_w]
    rfl
  refine take_ (i := 24) (N := some 82) (v := ?_) (a' := ?_) #[true, true, true, true, true, true, true, true, true, true, true, true, true, true, true, true, true, true, true, true, true, true, false, true, true, false, false, false] rfl rfl (by kernel_rfl) (fun _ _ _ h => h) (Or.inl ⟨by rfl, ?_⟩) hHeld ?_ ?_
  rotate_left
  · rintro w' ⟨s0, s1⟩
    go_simp
    with_reducible rfl
  rotate_left
  · simp only [Act.put, List.setIfInBounds_toArray, List.set_cons_zero, List.set_cons_succ, i64_w, i32_w]
    rfl
  refine one_ (i := 22) (N := some 80) #[true, true, true, true, true, true, true, true, true, true, true, true, true, true, true, true, true, true, true, true, true, true, true, true, true, false, false, false] rfl rfl (by kernel_rfl) (by decide) (fun K hK => ?_)
  refine goes_ Try.func41 (by kernel_rfl) rfl #[.pointer (some ⟨g, 0, none⟩)] (by rfl) rfl rfl (by (try simp only [List.map_toArray, List.map_cons, List.map_nil]); first | done | rfl) ?_
  refine (Records_calls HL9.out HRSL.out HDAT.out).mono ?_
  rintro e w10 ⟨v10, rfl, hr10, hb10⟩
  obtain ⟨A10, c10, rfl⟩ := Kd.R_slice hr10
  have HR10 := Aside0.mk hr10
  have HBX10 := Aside0.mk ((hb10.block gb (blk_lt HBX9.out)).trans HBX9.out)
  have HL10 := Aside0.mk (HL9.out.step hb10)
  have HN10 := Aside0.mk (Kd.N_below HN9.out hb10)
  have HB10 := Aside0.mk (below_step HB9.out hb10)
  clear hr10 hb10 hHeld HBX9 HL9 HN9 HB9
  refine ⟨_, rfl, ?_⟩
  refine hK.out _ _ ⟨(blk_cell HBX10.out 7).trans rfl, (blk_cell HBX10.out 6).trans rfl⟩ (fun hHeld => ?_)
  clear hK K
  refine norm_ (a' := ?_) ?_ ?_
  rotate_left
  · show Act.put _ (some 80) _ = _
    simp only [Act.put, List.setIfInBounds_toArray, List.set_cons_zero, List.set_cons_succ, i64_w, i32_w]
    rfl
  refine one_ (i := 25) (N := some 83) #[true, true, true, true, true, true, true, true, true, true, true, true, true, true, true, true, true, true, true, true, true, true, true, true, true, true, false, false] rfl rfl (by kernel_rfl) (by decide) (fun K hK => ?_)
  refine goes_ Try.func40 (by kernel_rfl) rfl #[.slice A10 rs.length c10, .slice A6 rs.length c6] (by rfl) rfl rfl (by (try simp only [List.map_toArray, List.map_cons, List.map_nil]); first | done | rfl) ?_
  refine (G.lineageref15_Same.calls (5000000 + rs.length + 1) A10 c10 rs A6 c6 rs true w10 (Kd.R_reads' HR10.out).2.2 (Kd.R_reads' HR10.out).2.1 (Kd.N_reads' HN10.out).2.2 (Kd.N_reads' HN10.out).2.1 (same73_f rs HRSL.out HDAT.out)).mono ?_
  rintro e w11 ⟨rfl, hd11⟩
  have hb11 := hd11.below
  have HBX11 := Aside0.mk ((hb11.block gb (blk_lt HBX10.out)).trans HBX10.out)
  have HL11 := Aside0.mk (HL10.out.step hb11)
  have HB11 := Aside0.mk (below_step HB10.out hb11)
  clear hd11 hb11 hHeld HBX10 HL10 HN10 HB10 HR10
  refine ⟨_, rfl, ?_⟩
  refine hK.out _ _ ⟨(blk_cell HBX11.out 7).trans rfl, (blk_cell HBX11.out 6).trans rfl⟩ (fun hHeld => ?_)
  clear hK K
  refine norm_ (a' := ?_) ?_ ?_
  rotate_left
  · show Act.put _ (some 83) _ = _
    simp only [Act.put, List.setIfInBounds_toArray, List.set_cons_zero, List.set_cons_succ, i64_w, i32_w]
    rfl
  refine pure_ (i := 26) (N := some 84) (v := ?_) (a' := ?_) #[true, true, true, true, true, true, true, true, true, true, true, true, true, true, true, true, true, true, true, true, true, true, true, true, true, true, true, false] rfl rfl (by kernel_rfl) (fun _ _ _ h => h) (Or.inl ⟨by rfl, ?_⟩) ?_ ?_
  rotate_left
  · intro w'
    go_simp
    with_reducible rfl
  rotate_left
  · simp only [Act.put, List.setIfInBounds_toArray, List.set_cons_zero, List.set_cons_succ, i64_w, i32_w]
    rfl
  refine pure_ (i := 27) (N := some 85) (v := ?_) (a' := ?_) #[true, true, true, true, true, true, true, true, true, true, true, true, true, true, true, true, true, true, true, true, true, true, true, true, true, true, true, true] rfl rfl (by kernel_rfl) (fun _ _ _ h => h) (Or.inl ⟨by rfl, ?_⟩) ?_ ?_
  rotate_left
  · intro w'
    go_simp
    with_reducible rfl
  rotate_left
  · simp only [Act.put, List.setIfInBounds_toArray, List.set_cons_zero, List.set_cons_succ, i64_w, i32_w]
    rfl
  refine done_ (by kernel_rfl) ?_
  have e24 : IntKind.i64.wrap 24 = 24 := by decide
  have F7 : w11.cell? ⟨gb, 7, none⟩ = some (.int .i64 (ba + (at_ : Int) - 24)) := (blk_cell HBX11.out 7).trans rfl
  have F4 : w11.cell? ⟨gb, 4, none⟩ = some (.int .i64 ba) := (blk_cell HBX11.out 4).trans rfl
  have ew1 : wrap64 (24 + (ba + (at_ : Int) - 24)) = ba + (at_ : Int) := by have h1 := HLE.out; have h2 := HRG.out; rw [w64 (by omega) (by omega)]; omega
  have ew2 : wrap64 (ba + (at_ : Int) - ba) = (at_ : Int) := by have h1 := HLE.out; have h2 := HRG.out; rw [w64 (by omega) (by omega)]; omega
  go_wp2_with fail
  rw [ew2]
  clear ew1 ew2 F7 F4 e24
  obtain ⟨G5, hG5⟩ : ∃ G5, b.take at_ ++ List.replicate (b.length - at_) (0 : Int) = G5 := ⟨_, rfl⟩
  have hlG : G5.length = b.length := by have h1 := HLE.out; rw [← hG5, List.length_append, List.length_take, List.length_replicate, Nat.min_eq_left h1.1]; omega
  have hdur5 : D5.dur = G5 := by rw [HD5.out.1, hG5]
  have hok5 : D5.Ok := by
    obtain ⟨h1, h2, h3, h4⟩ := HD5.out
    refine ⟨by rw [hdur5, hlG]; omega, by rw [h2]; simp, by rw [hdur5, hlG]; omega, by rw [h2]; simp, by rw [h3]; omega, by rw [h3]; omega⟩
  have hrd5 : D5.read 0 (G5.length : Int) = (G5, 0) := by
    obtain ⟨h1, h2, h3, h4⟩ := HD5.out
    unfold Dk.read
    rw [if_neg (by rw [h4]; simp), if_neg (by rw [hdur5]; simp [insd])]
    simp [Dk.now, hdur5, h2, layAll]
  have HLO := Aside0.mk (show ∀ i : Nat, i < at_ → rd G5 (i : Int) = rd b (i : Int) from fun i hi => by
    have h1 := HLE.out
    unfold rd
    rw [← hG5]
    have h2 : i < b.length := by omega
    simp [List.getD_eq_getElem?_getD, List.getElem?_append, List.getElem?_take, hi, h1.1, h2])
  have HHI := Aside0.mk (show ∀ i : Nat, at_ ≤ i → i < b.length → rd G5 (i : Int) = 0 from fun i hi hi2 => by
    have h1 := HLE.out
    unfold rd
    rw [← hG5]
    simp only [List.getD_eq_getElem?_getD, List.getElem?_append, Int.toNat_natCast, List.length_take, Nat.min_eq_left h1.1]
    rw [if_neg (by omega), List.getElem?_replicate, if_pos (by omega)]
    rfl)
  have hcon := contents_calls HL11.out.1 hok5 G5 (by rw [hdur5]) hrd5
  have HP5 := Aside0.mk (show (D5.pend.length : Int) = 0 by rw [HD5.out.2.1]; rfl)
  clear hok5 hrd5 hdur5 hG5
  refine hcon.mono ?_
  clear hcon
  rintro e w12 ⟨v12, rfl, hr12, hb12⟩
  obtain ⟨A12, c12, rfl⟩ := Kd.R_slice hr12
  have HC12 := Aside0.mk (Kd.R_reads' hr12).2.2
  have HS12 := Aside0.mk (HL11.out.1.step hb12)
  have HCB := Aside0.mk (Kd.C_below HC.out (below_step HB11.out hb12))
  clear hr12 hb12 HBX11 HL11 HB11 HRSL HDAT HLE HRG HD5 HP HSC
  rw [hlG] at HC12 ⊢
  have HG := Aside0.mk hlG
  clear hlG
  go_wp2_with fail
  go_loopw [96] (fun v wr => ∃ i : Nat, i ≤ b.length ∧ v = .int .i64 (i : Int) ∧ Aside0 (Below w12.heap.size w12 wr)) (fun v _ => b.length - (intOf v).toNat)
  case atStart => exact ⟨0, Nat.zero_le _, rfl, ⟨Below.refl _ _⟩⟩
  case round =>
    obtain ⟨i, hi, rfl, HBR⟩ := hrel
    by_cases hlt : i < b.length
    · have hlt' : ((i : Int) < (b.length : Int)) := by omega
      obtain ⟨ad1, ea1, hx1⟩ := Kd.at_int HC12.out (i : Int) (by omega) (by omega)
      subst ea1
      replace hx1 := (HBR.out.cell (World.block_lt_of_cell? _ _ hx1)).trans hx1
      obtain ⟨ad2, ea2, hx2⟩ := Kd.at_int HCB.out (i : Int) (by omega) (by omega)
      subst ea2
      replace hx2 := (HBR.out.cell (World.block_lt_of_cell? _ _ hx2)).trans hx2
      simp only [Int.toNat_natCast] at hx1 hx2
      by_cases hia : i < at_
      · have hia' : ((i : Int) < (at_ : Int)) := by omega
        have hid : decide ((at_ : Int) ≤ (i : Int)) = false := by simp; omega
        have hidn : decide (at_ ≤ i) = false := by simp; omega
        have hidt : decide (i < at_) = true := by simp; omega
        rw [HLO.out i hia] at hx1
        generalize rd b (i : Int) = X at hx1 hx2
        go_wp2_with fail
        go_quiet (fail)
        go_wp2_with fail
        go_roundw
        case rel => exact ⟨i + 1, hlt, by go_num, ⟨by repeat (first | (with_reducible first | exact HBR.out | apply below_alloc | apply pw_below_drewN | apply below_drew1) | exact HBR.out)⟩⟩
        case measure => simp [intOf]; omega
      · have hia' : ¬ ((i : Int) < (at_ : Int)) := by omega
        have hid : decide ((i : Int) < (at_ : Int)) = false := by simp; omega
        have hid2 : ((at_ : Int) ≤ (i : Int)) := by omega
        have hidn : decide (at_ ≤ i) = true := by simp; omega
        have hidt : decide (i < at_) = false := by simp; omega
        rw [HHI.out i (by omega) hlt] at hx1
        clear hx2
        go_wp2_with fail
        go_quiet (fail)
        go_wp2_with fail
        go_roundw
        case rel => exact ⟨i + 1, hlt, by go_num, ⟨by repeat (first | (with_reducible first | exact HBR.out | apply below_alloc | apply pw_below_drewN | apply below_drew1) | exact HBR.out)⟩⟩
        case measure => simp [intOf]; omega
    · obtain rfl : i = b.length := by omega
      have hlt' : ¬ ((b.length : Int) < (b.length : Int)) := by omega
      go_wp2_with fail
      refine ((HS12.out.step HBR.out).pending 0 rfl).mono ?_
      rintro e w14 ⟨rfl, rfl⟩
      rw [HP5.out]
      go_wp2_with fail
      go_ret
      exact ⟨rfl, (HS12.out.step HBR.out).bel⟩
end Go.Proofs.Ytbbokpkpdnppjaa
