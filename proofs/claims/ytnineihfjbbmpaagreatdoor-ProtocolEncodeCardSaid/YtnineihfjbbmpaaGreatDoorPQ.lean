/- The law of Encode. -/
import Derived.Test.YtnineihfjbbmpaaGreatDoorPP
import Derived.Test.YtnineihfjbbmpaaGreatDoorPx1
namespace Go.Proofs.YtnineihfjbbmpaaGreatDoor.P
open Go.RowKit Go.Proofs.YtnineihfjbbmpaaGreatDoorW.PrintWords Go.Proofs.YtnineihfjbbmpaaGreatDoorW.PrintLast Go.Proofs.YtnineihfjbbmpaaGreatDoorW.PrintMore
set_option exponentiation.threshold 8200
set_option linter.unusedVariables false
set_option linter.unusedSimpArgs false
/-! ### The law of Encode -/
theorem encI_calls (k b L : List UInt8) (I : List Int) (ec : Int) (hE : encL k b = (L, ec)) (hI : I = iv L) (hk : k.length < 4611686018427387904) (w : World) (h : Env w) :
    Calls Tryz.prog 7 #[.agg #[.string ⟨k.toArray⟩, .string ⟨b.toArray⟩]] w fun e w' => ∃ A c, e = .returned (.tuple #[.slice A I.length c, .int .i64 ec]) ∧ Kd.C (Kd.int .u8) w' A I.length I ∧ I.length ≤ c ∧ Below w.heap.size w w' := by
  have hc := encode_calls k b hk w h
  rw [hE] at hc
  refine hc.mono ?_
  rintro e w' ⟨A, c, rfl, hC, hl, hb⟩
  subst hI
  exact ⟨A, c, by rw [iv_len], hC, by rw [iv_len]; exact hl, hb⟩
theorem refencI_calls (k b L : List UInt8) (I : List Int) (ec : Int) (hE : encL k b = (L, ec)) (hI : I = iv L) (hk : k.length < 4611686018427387904) (w : World) (h : Env w) :
    Calls Tryz.prog 8 #[.agg #[.string ⟨k.toArray⟩, .string ⟨b.toArray⟩]] w fun e w' => ∃ A c, e = .returned (.tuple #[.slice A I.length c, .int .i64 ec]) ∧ Kd.C (Kd.int .u8) w' A I.length I ∧ I.length ≤ c ∧ Below w.heap.size w w' := by
  have hc := refencode_calls k b hk w h
  rw [hE] at hc
  refine hc.mono ?_
  rintro e w' ⟨A, c, rfl, hC, hl, hb⟩
  subst hI
  exact ⟨A, c, by rw [iv_len], hC, by rw [iv_len]; exact hl, hb⟩
theorem decM_calls (A : Option Addr) (c : Nat) (M : List Int) (k b : List UInt8) (n : Nat) (hD : decL M = (iv k, iv b, n, 0)) (w : World) (hr : Kd.C (Kd.int .u8) w A M.length M) (hc : M.length ≤ c) (hl : M.length < 4611686018427387904) :
    Calls Tryz.prog 10 #[.slice A M.length c] w fun e w' => e = .returned (.tuple #[.agg #[.string ⟨k.toArray⟩, .string ⟨b.toArray⟩], .int .i64 (n : Int), .int .i64 0]) ∧ Below w.heap.size w w' := by
  have h := decD_calls A c M (iv k) (iv b) n 0 0 hD rfl w hr hc hl
  rw [nums_iv, nums_iv] at h
  exact h
set_option maxHeartbeats 16000000 in
set_option maxRecDepth 1000000 in
attribute [local go_sem high] eqA23 in
theorem encodeLaw (k b : List UInt8) (A : Option Addr) (c : Nat) (J : List Int) (w : World) (hC : Kd.C (Kd.int .u8) w A J.length J) (hc : J.length ≤ c) (h : Env w) :
    Calls Tryz.prog 3 #[.agg #[.string ⟨k.toArray⟩, .string ⟨b.toArray⟩], .slice A J.length c] w fun e w' => e = .returned (.bool true) ∧ Below w.heap.size w w' := by
  have HE := Aside0.mk h
  have HC := Aside0.mk hC
  have HH := Aside0.mk hc
  have hu23 := Tryz.underlying23
  clear h hC hc
  by_cases c1 : (100 : Int) < (k.length : Int)
  · go_enter Tryz.func3, Tryz.ntmps3
    go_wp2_with ((with_reducible refine gate_dst (N := 2) rfl ?_); (try (refine gate_guard (by rfl) ?_; dsimp only)); refine box_event ?hg (N := 2) ?hd (cs := #[.string ⟨k.toArray⟩, .string ⟨b.toArray⟩]) (t := 23) ?hr ?_; (case hd => rfl); (case hg => rfl); (case hr => first | (go_simp; done) | (go_simp; rfl)); intro gb hg_ w0b hbox hb_; have HB := Aside0.mk hb_; have HBK := Aside0.mk hbox; have v0 : w0b.cell? ⟨gb, 0, none⟩ = some (.string ⟨k.toArray⟩) := (blk_cell hbox 0).trans rfl; have v1 : w0b.cell? ⟨gb, 1, none⟩ = some (.string ⟨b.toArray⟩) := (blk_cell hbox 1).trans rfl; clear hb_ hbox hg_)
    refine (awake_calls w0b (HE.out.below HB.out)).mono ?_
    rintro e w1 ⟨rfl, hb⟩
    replace HB := Aside0.mk (below_step HB.out hb)
    replace HBK := Aside0.mk ((hb.block gb (blk_lt HBK.out)).trans HBK.out)
    replace v0 := cell_below v0 hb
    replace v1 := cell_below v1 hb
    clear hb
    go_wp2_with fail
    refine (awake_calls w1 (HE.out.below HB.out)).mono ?_
    rintro e w2 ⟨rfl, hb⟩
    replace HB := Aside0.mk (below_step HB.out hb)
    replace HBK := Aside0.mk ((hb.block gb (blk_lt HBK.out)).trans HBK.out)
    replace v0 := cell_below v0 hb
    replace v1 := cell_below v1 hb
    clear hb
    go_wp2_with fail
    go_ret
    exact ⟨rfl, HB.out⟩
  by_cases c2 : (2000 : Int) < (b.length : Int) ∧ (b.length : Int) ≤ 1048576
  · obtain ⟨c2, c3⟩ := c2
    go_enter Tryz.func3, Tryz.ntmps3
    go_wp2_with ((with_reducible refine gate_dst (N := 2) rfl ?_); (try (refine gate_guard (by rfl) ?_; dsimp only)); refine box_event ?hg (N := 2) ?hd (cs := #[.string ⟨k.toArray⟩, .string ⟨b.toArray⟩]) (t := 23) ?hr ?_; (case hd => rfl); (case hg => rfl); (case hr => first | (go_simp; done) | (go_simp; rfl)); intro gb hg_ w0b hbox hb_; have HB := Aside0.mk hb_; have HBK := Aside0.mk hbox; have v0 : w0b.cell? ⟨gb, 0, none⟩ = some (.string ⟨k.toArray⟩) := (blk_cell hbox 0).trans rfl; have v1 : w0b.cell? ⟨gb, 1, none⟩ = some (.string ⟨b.toArray⟩) := (blk_cell hbox 1).trans rfl; clear hb_ hbox hg_)
    refine (awake_calls w0b (HE.out.below HB.out)).mono ?_
    rintro e w1 ⟨rfl, hb⟩
    replace HB := Aside0.mk (below_step HB.out hb)
    replace HBK := Aside0.mk ((hb.block gb (blk_lt HBK.out)).trans HBK.out)
    replace v0 := cell_below v0 hb
    replace v1 := cell_below v1 hb
    clear hb
    go_wp2_with fail
    refine (awake_calls w1 (HE.out.below HB.out)).mono ?_
    rintro e w2 ⟨rfl, hb⟩
    replace HB := Aside0.mk (below_step HB.out hb)
    replace HBK := Aside0.mk ((hb.block gb (blk_lt HBK.out)).trans HBK.out)
    replace v0 := cell_below v0 hb
    replace v1 := cell_below v1 hb
    clear hb
    go_wp2_with fail
    go_ret
    exact ⟨rfl, HB.out⟩
  have hw : ((b.length : Int) ≤ 2000) ∨ ((2000 : Int) < (b.length : Int) ∧ (1048576 : Int) < (b.length : Int)) := by omega
  clear c2
  by_cases c4 : (1048586 : Int) < (b.length : Int)
  · have c2 : (2000 : Int) < (b.length : Int) := by omega
    have c3 : ¬ (b.length : Int) ≤ 1048576 := by omega
    clear hw
    go_enter Tryz.func3, Tryz.ntmps3
    go_wp2_with ((with_reducible refine gate_dst (N := 2) rfl ?_); (try (refine gate_guard (by rfl) ?_; dsimp only)); refine box_event ?hg (N := 2) ?hd (cs := #[.string ⟨k.toArray⟩, .string ⟨b.toArray⟩]) (t := 23) ?hr ?_; (case hd => rfl); (case hg => rfl); (case hr => first | (go_simp; done) | (go_simp; rfl)); intro gb hg_ w0b hbox hb_; have HB := Aside0.mk hb_; have HBK := Aside0.mk hbox; have v0 : w0b.cell? ⟨gb, 0, none⟩ = some (.string ⟨k.toArray⟩) := (blk_cell hbox 0).trans rfl; have v1 : w0b.cell? ⟨gb, 1, none⟩ = some (.string ⟨b.toArray⟩) := (blk_cell hbox 1).trans rfl; clear hb_ hbox hg_)
    refine (awake_calls w0b (HE.out.below HB.out)).mono ?_
    rintro e w1 ⟨rfl, hb⟩
    replace HB := Aside0.mk (below_step HB.out hb)
    replace HBK := Aside0.mk ((hb.block gb (blk_lt HBK.out)).trans HBK.out)
    replace v0 := cell_below v0 hb
    replace v1 := cell_below v1 hb
    clear hb
    go_wp2_with fail
    refine (awake_calls w1 (HE.out.below HB.out)).mono ?_
    rintro e w2 ⟨rfl, hb⟩
    replace HB := Aside0.mk (below_step HB.out hb)
    replace HBK := Aside0.mk ((hb.block gb (blk_lt HBK.out)).trans HBK.out)
    replace v0 := cell_below v0 hb
    replace v1 := cell_below v1 hb
    clear hb
    go_wp2_with fail
    go_ret
    exact ⟨rfl, HB.out⟩
  by_cases c5 : (200 : Int) < (J.length : Int)
  · rcases hw with c2 | ⟨c2, c3⟩
    · have c2' : ¬ (2000 : Int) < (b.length : Int) := by omega
      go_enter Tryz.func3, Tryz.ntmps3
      go_wp2_with ((with_reducible refine gate_dst (N := 2) rfl ?_); (try (refine gate_guard (by rfl) ?_; dsimp only)); refine box_event ?hg (N := 2) ?hd (cs := #[.string ⟨k.toArray⟩, .string ⟨b.toArray⟩]) (t := 23) ?hr ?_; (case hd => rfl); (case hg => rfl); (case hr => first | (go_simp; done) | (go_simp; rfl)); intro gb hg_ w0b hbox hb_; have HB := Aside0.mk hb_; have HBK := Aside0.mk hbox; have v0 : w0b.cell? ⟨gb, 0, none⟩ = some (.string ⟨k.toArray⟩) := (blk_cell hbox 0).trans rfl; have v1 : w0b.cell? ⟨gb, 1, none⟩ = some (.string ⟨b.toArray⟩) := (blk_cell hbox 1).trans rfl; clear hb_ hbox hg_)
      refine (awake_calls w0b (HE.out.below HB.out)).mono ?_
      rintro e w1 ⟨rfl, hb⟩
      replace HB := Aside0.mk (below_step HB.out hb)
      replace HBK := Aside0.mk ((hb.block gb (blk_lt HBK.out)).trans HBK.out)
      replace v0 := cell_below v0 hb
      replace v1 := cell_below v1 hb
      clear hb
      go_wp2_with fail
      refine (awake_calls w1 (HE.out.below HB.out)).mono ?_
      rintro e w2 ⟨rfl, hb⟩
      replace HB := Aside0.mk (below_step HB.out hb)
      replace HBK := Aside0.mk ((hb.block gb (blk_lt HBK.out)).trans HBK.out)
      replace v0 := cell_below v0 hb
      replace v1 := cell_below v1 hb
      clear hb
      go_wp2_with fail
      go_ret
      exact ⟨rfl, HB.out⟩
    · have c3' : ¬ (b.length : Int) ≤ 1048576 := by omega
      go_enter Tryz.func3, Tryz.ntmps3
      go_wp2_with ((with_reducible refine gate_dst (N := 2) rfl ?_); (try (refine gate_guard (by rfl) ?_; dsimp only)); refine box_event ?hg (N := 2) ?hd (cs := #[.string ⟨k.toArray⟩, .string ⟨b.toArray⟩]) (t := 23) ?hr ?_; (case hd => rfl); (case hg => rfl); (case hr => first | (go_simp; done) | (go_simp; rfl)); intro gb hg_ w0b hbox hb_; have HB := Aside0.mk hb_; have HBK := Aside0.mk hbox; have v0 : w0b.cell? ⟨gb, 0, none⟩ = some (.string ⟨k.toArray⟩) := (blk_cell hbox 0).trans rfl; have v1 : w0b.cell? ⟨gb, 1, none⟩ = some (.string ⟨b.toArray⟩) := (blk_cell hbox 1).trans rfl; clear hb_ hbox hg_)
      refine (awake_calls w0b (HE.out.below HB.out)).mono ?_
      rintro e w1 ⟨rfl, hb⟩
      replace HB := Aside0.mk (below_step HB.out hb)
      replace HBK := Aside0.mk ((hb.block gb (blk_lt HBK.out)).trans HBK.out)
      replace v0 := cell_below v0 hb
      replace v1 := cell_below v1 hb
      clear hb
      go_wp2_with fail
      refine (awake_calls w1 (HE.out.below HB.out)).mono ?_
      rintro e w2 ⟨rfl, hb⟩
      replace HB := Aside0.mk (below_step HB.out hb)
      replace HBK := Aside0.mk ((hb.block gb (blk_lt HBK.out)).trans HBK.out)
      replace v0 := cell_below v0 hb
      replace v1 := cell_below v1 hb
      clear hb
      go_wp2_with fail
      go_ret
      exact ⟨rfl, HB.out⟩
  obtain ⟨⟨L, ec⟩, hE⟩ : ∃ t, encL k b = t := ⟨_, rfl⟩
  obtain ⟨I, hI⟩ : ∃ I, I = iv L := ⟨_, rfl⟩
  have hfact : (ec = 0 ∧ kindB k = true ∧ b.length ≤ 1048576 ∧ L = frameB k b ∧ (b.length : Int) ≤ 2000) ∨ (ec ≠ 0 ∧ L = []) := by
    unfold encL at hE
    by_cases hk : kindB k = false
    · rw [if_pos hk] at hE
      injection hE with h1 h2
      exact Or.inr ⟨by omega, h1.symm⟩
    · rw [if_neg hk] at hE
      by_cases hbb : 1048576 < b.length
      · rw [if_pos hbb] at hE
        injection hE with h1 h2
        exact Or.inr ⟨by omega, h1.symm⟩
      · rw [if_neg hbb] at hE
        injection hE with h1 h2
        exact Or.inl ⟨h2.symm, by simpa using hk, by omega, h1.symm, by omega⟩
  have HEE := Aside0.mk hE
  have HI := Aside0.mk hI
  have HK := Aside0.mk (show k.length < 4611686018427387904 by omega)
  have HIL := Aside0.mk (show I.length ≤ 3000000 by
    rcases hfact with ⟨_, hk, _, hL, hb2⟩ | ⟨_, hL⟩
    · rw [hI, iv_len, hL, frame_len]
      have := dd_len b.length (by omega)
      have := (kindB_len hk).2
      omega
    · rw [hI, hL]
      exact Nat.zero_le _)
  have HJL := Aside0.mk (show J.length ≤ 200 by omega)
  have HF := Aside0.mk hfact
  clear hE hI hfact
  rcases hw with c2 | ⟨c2, c3⟩
  · have c2' : ¬ (2000 : Int) < (b.length : Int) := by omega
    go_enter Tryz.func3, Tryz.ntmps3
    go_wp2_with ((with_reducible refine gate_dst (N := 2) rfl ?_); (try (refine gate_guard (by rfl) ?_; dsimp only)); refine box_event ?hg (N := 2) ?hd (cs := #[.string ⟨k.toArray⟩, .string ⟨b.toArray⟩]) (t := 23) ?hr ?_; (case hd => rfl); (case hg => rfl); (case hr => first | (go_simp; done) | (go_simp; rfl)); intro gb hg_ w0b hbox hb_; have HB := Aside0.mk hb_; have HBK := Aside0.mk hbox; have v0 : w0b.cell? ⟨gb, 0, none⟩ = some (.string ⟨k.toArray⟩) := (blk_cell hbox 0).trans rfl; have v1 : w0b.cell? ⟨gb, 1, none⟩ = some (.string ⟨b.toArray⟩) := (blk_cell hbox 1).trans rfl; clear hb_ hbox hg_)
    refine (awake_calls w0b (HE.out.below HB.out)).mono ?_
    rintro e w1 ⟨rfl, hb⟩
    replace HB := Aside0.mk (below_step HB.out hb)
    replace HBK := Aside0.mk ((hb.block gb (blk_lt HBK.out)).trans HBK.out)
    replace v0 := cell_below v0 hb
    replace v1 := cell_below v1 hb
    clear hb
    go_wp2_with fail
    refine (encI_calls k b L I ec HEE.out HI.out HK.out w1 (HE.out.below HB.out)).mono ?_
    rintro e w2 ⟨A2, cc2, rfl, hC2, hl2, hb⟩
    replace HB := Aside0.mk (below_step HB.out hb)
    replace HBK := Aside0.mk ((hb.block gb (blk_lt HBK.out)).trans HBK.out)
    replace v0 := cell_below v0 hb
    replace v1 := cell_below v1 hb
    have HC2 := Aside0.mk hC2
    have HH2 := Aside0.mk hl2
    clear hb hC2 hl2
    go_wp2_with fail
    refine (refencI_calls k b L I ec HEE.out HI.out HK.out w2 (HE.out.below HB.out)).mono ?_
    rintro e w3 ⟨A3, cc3, rfl, hC3, hl3, hb⟩
    replace HB := Aside0.mk (below_step HB.out hb)
    replace HBK := Aside0.mk ((hb.block gb (blk_lt HBK.out)).trans HBK.out)
    replace HC2 := Aside0.mk (Kd.C_below HC2.out hb)
    replace v0 := cell_below v0 hb
    replace v1 := cell_below v1 hb
    have HC3 := Aside0.mk hC3
    have HH3 := Aside0.mk hl3
    clear hb hC3 hl3
    go_wp2_with fail
    refine (sameb_calls A2 cc2 A3 cc3 I w3 HC2.out HH2.out HC3.out HH3.out (by have := HIL.out; omega)).mono ?_
    rintro e w4 ⟨rfl, hb⟩
    replace HB := Aside0.mk (below_step HB.out hb)
    replace HBK := Aside0.mk ((hb.block gb (blk_lt HBK.out)).trans HBK.out)
    replace HC2 := Aside0.mk (Kd.C_below HC2.out hb)
    replace v0 := cell_below v0 hb
    replace v1 := cell_below v1 hb
    clear hb HC3 HH3
    rcases HF.out with ⟨rfl, hk, hb2, hL, _⟩ | ⟨hec, _⟩
    · have HD := Aside0.mk (dec_frame k b J hk hb2)
      have HIe := Aside0.mk (show I = iv (frameB k b) by rw [HI.out, hL])
      have HCJ := Aside0.mk (Kd.C_below HC.out HB.out)
      have HB0 := Aside0.mk (Below.refl w4.heap.size w4)
      clear hk hb2 hL HF
      go_upto_region 10 with (first
        | ((with_reducible refine gate_dst (N := 66) rfl ?_); refine Kd.R_lit (Kd.int .u8) _ 5 ?hg (N := 66) ?hd (xs := ([] : List Int)) (inner := []) (ok := fun _ => True) (okp := fun _ => True) ?hr ?hp (fun _ hk => hk) trivial (Below.refl _ _) (Nat.le_refl _) (by simp) ?_; (case hd => rfl); (case hg => rfl); (case hr => first | (go_simp; done) | (go_simp; rfl)); (case hp => exact (Reps.none _ _)); intro va wa hoa hba hga hnewa; have HOa := Aside0.mk hoa; have HBa := Aside0.mk hba; clear hoa hba hga hnewa)
        | ((with_reducible refine gate_builtin (b := .append) (xs := #[.tmp 66, .tmp 67]) rfl ?_); at_builtin; refine Kd.R_append_rows (Kd.int .u8) (w0 := w4) w4.heap.size rfl (.tmp 66) (.tmp 67) 24 5 (.int .u8 0) 1 rfl Tryz.underlying24 info5 rfl (by decide) (by omega) va [] I A2 I.length cc2 (fun _ => True) (fun _ => False) rfl rfl HOa.out (Kd.C_below HC2.out HBa.out) (fun _ _ h => h) (fun _ h => h.elim) (fun _ _ => trivial) HBa.out HBa.out.size (by have := HIL.out; simp only [List.length_nil]; omega) ?_; intro vb wb hob hbb _ _; rw [List.nil_append] at hob; have HOb := Aside0.mk hob; have HBb := Aside0.mk hbb; clear hob hbb)
        | ((with_reducible refine gate_builtin (b := .append) (xs := #[.tmp 68, .tmp 69]) rfl ?_); at_builtin; refine Kd.R_append_rows (Kd.int .u8) (w0 := w4) w4.heap.size rfl (.tmp 68) (.tmp 69) 24 5 (.int .u8 0) 1 rfl Tryz.underlying24 info5 rfl (by decide) (by omega) vb I J A J.length c (fun _ => True) (fun _ => False) rfl rfl HOb.out (Kd.C_below HCJ.out HBb.out) (fun _ _ h => h) (fun _ h => h.elim) (fun _ _ => trivial) HBb.out HBb.out.size (by have := HIL.out; have := HJL.out; omega) ?_; intro vc wc hoc hbc _ _; obtain ⟨M, hM⟩ : ∃ M, M = I ++ J := ⟨_, rfl⟩; rw [← hM] at hoc; obtain ⟨A9, c9, rfl⟩ := Kd.R_slice hoc; have HM := Aside0.mk hM; have HO9 := Aside0.mk (Kd.R_reads' hoc); have HB9 := Aside0.mk (below_step HB.out hbc); have v0 := cell_below v0 hbc; have v1 := cell_below v1 hbc; clear hoc hbc hM)
        | ((with_reducible refine gate_callee (f := 10) rfl ?_); refine goesL_ (some 71) rfl rfl Tryz.func10 (by kernel_rfl) rfl #[.slice A9 M.length c9] rfl (by (try simp only [List.map_toArray, List.map_cons, List.map_nil]); first | done | rfl) ?_; (with_reducible refine (decM_calls A9 c9 M k b I.length (by rw [HM.out, HIe.out, HD.out, iv_len]) _ HO9.out.2.2 HO9.out.2.1 (by rw [HM.out, List.length_append]; have := HIL.out; have := HJL.out; omega)).mono ?_); rintro e w5 ⟨rfl, hb⟩; refine ⟨_, rfl, ?_⟩; have HB := Aside0.mk (below_step HB9.out hb); have v0 := cell_below v0 hb; have v1 := cell_below v1 hb; clear hb)
        | ((with_reducible refine gate_dst (N := 9) rfl ?_); refine box_event ?hg (N := 9) ?hd (cs := #[.string (⟨#[]⟩ : ByteArray), .string (⟨#[]⟩ : ByteArray)]) (t := 23) ?hr ?_; (case hd => rfl); (case hg => rfl); (case hr => first | (go_simp; done) | (go_simp; rfl)); intro gbq hg wbq hbox hb; have HBb := Aside0.mk hb; have GE := Aside0.mk (Nat.le_of_eq hg.symm); have HBK := Aside0.mk hbox; have u0 : wbq.cell? ⟨gbq, 0, none⟩ = some (.string (⟨#[]⟩ : ByteArray)) := (blk_cell hbox 0).trans rfl; have u1 : wbq.cell? ⟨gbq, 1, none⟩ = some (.string (⟨#[]⟩ : ByteArray)) := (blk_cell hbox 1).trans rfl; have g0 := blk_frozen hbox 0; have g1 := blk_frozen hbox 1; clear hbox hb hg))
      have HB5 := Aside0.mk (boxed HBb.out GE.out (.string ⟨k.toArray⟩) (.string ⟨b.toArray⟩))
      have HBKq := Aside0.mk (boxed_blk HBK.out ⟨k.toArray⟩ ⟨b.toArray⟩)
      replace v0 := cell_below v0 HB5.out
      replace v1 := cell_below v1 HB5.out
      replace HB := Aside0.mk (below_step HB.out HB5.out)
      clear u0 u1 g0 g1 GE HB5 HBb HBK
      generalize (wbq.setCell ⟨gbq, 0, none⟩ (.string ⟨k.toArray⟩)).setCell ⟨gbq, 1, none⟩ (.string ⟨b.toArray⟩) = w6 at *
      have v2 : w6.cell? ⟨gbq, 0, none⟩ = some (.string ⟨k.toArray⟩) := (blk_cell HBKq.out 0).trans rfl
      have v3 : w6.cell? ⟨gbq, 1, none⟩ = some (.string ⟨b.toArray⟩) := (blk_cell HBKq.out 1).trans rfl
      go_wp2_with fail
      go_ret
      exact ⟨rfl, HB.out⟩
    · have he1 : (ec == 0) = false := beq_eq_false_iff_ne.2 hec
      have he2 : (ec != 0) = true := bne_iff_ne.2 hec
      clear hec
      go_wp2_with fail
      go_ret
      exact ⟨rfl, HB.out⟩
  · have c3' : ¬ (b.length : Int) ≤ 1048576 := by omega
    go_enter Tryz.func3, Tryz.ntmps3
    go_wp2_with ((with_reducible refine gate_dst (N := 2) rfl ?_); (try (refine gate_guard (by rfl) ?_; dsimp only)); refine box_event ?hg (N := 2) ?hd (cs := #[.string ⟨k.toArray⟩, .string ⟨b.toArray⟩]) (t := 23) ?hr ?_; (case hd => rfl); (case hg => rfl); (case hr => first | (go_simp; done) | (go_simp; rfl)); intro gb hg_ w0b hbox hb_; have HB := Aside0.mk hb_; have HBK := Aside0.mk hbox; have v0 : w0b.cell? ⟨gb, 0, none⟩ = some (.string ⟨k.toArray⟩) := (blk_cell hbox 0).trans rfl; have v1 : w0b.cell? ⟨gb, 1, none⟩ = some (.string ⟨b.toArray⟩) := (blk_cell hbox 1).trans rfl; clear hb_ hbox hg_)
    refine (awake_calls w0b (HE.out.below HB.out)).mono ?_
    rintro e w1 ⟨rfl, hb⟩
    replace HB := Aside0.mk (below_step HB.out hb)
    replace HBK := Aside0.mk ((hb.block gb (blk_lt HBK.out)).trans HBK.out)
    replace v0 := cell_below v0 hb
    replace v1 := cell_below v1 hb
    clear hb
    go_wp2_with fail
    refine (encI_calls k b L I ec HEE.out HI.out HK.out w1 (HE.out.below HB.out)).mono ?_
    rintro e w2 ⟨A2, cc2, rfl, hC2, hl2, hb⟩
    replace HB := Aside0.mk (below_step HB.out hb)
    replace HBK := Aside0.mk ((hb.block gb (blk_lt HBK.out)).trans HBK.out)
    replace v0 := cell_below v0 hb
    replace v1 := cell_below v1 hb
    have HC2 := Aside0.mk hC2
    have HH2 := Aside0.mk hl2
    clear hb hC2 hl2
    go_wp2_with fail
    refine (refencI_calls k b L I ec HEE.out HI.out HK.out w2 (HE.out.below HB.out)).mono ?_
    rintro e w3 ⟨A3, cc3, rfl, hC3, hl3, hb⟩
    replace HB := Aside0.mk (below_step HB.out hb)
    replace HBK := Aside0.mk ((hb.block gb (blk_lt HBK.out)).trans HBK.out)
    replace HC2 := Aside0.mk (Kd.C_below HC2.out hb)
    replace v0 := cell_below v0 hb
    replace v1 := cell_below v1 hb
    have HC3 := Aside0.mk hC3
    have HH3 := Aside0.mk hl3
    clear hb hC3 hl3
    go_wp2_with fail
    refine (sameb_calls A2 cc2 A3 cc3 I w3 HC2.out HH2.out HC3.out HH3.out (by have := HIL.out; omega)).mono ?_
    rintro e w4 ⟨rfl, hb⟩
    replace HB := Aside0.mk (below_step HB.out hb)
    replace HBK := Aside0.mk ((hb.block gb (blk_lt HBK.out)).trans HBK.out)
    replace HC2 := Aside0.mk (Kd.C_below HC2.out hb)
    replace v0 := cell_below v0 hb
    replace v1 := cell_below v1 hb
    clear hb HC3 HH3
    rcases HF.out with ⟨rfl, hk, hb2, hL, _⟩ | ⟨hec, _⟩
    · have HD := Aside0.mk (dec_frame k b J hk hb2)
      have HIe := Aside0.mk (show I = iv (frameB k b) by rw [HI.out, hL])
      have HCJ := Aside0.mk (Kd.C_below HC.out HB.out)
      have HB0 := Aside0.mk (Below.refl w4.heap.size w4)
      clear hk hb2 hL HF
      go_upto_region 10 with (first
        | ((with_reducible refine gate_dst (N := 66) rfl ?_); refine Kd.R_lit (Kd.int .u8) _ 5 ?hg (N := 66) ?hd (xs := ([] : List Int)) (inner := []) (ok := fun _ => True) (okp := fun _ => True) ?hr ?hp (fun _ hk => hk) trivial (Below.refl _ _) (Nat.le_refl _) (by simp) ?_; (case hd => rfl); (case hg => rfl); (case hr => first | (go_simp; done) | (go_simp; rfl)); (case hp => exact (Reps.none _ _)); intro va wa hoa hba hga hnewa; have HOa := Aside0.mk hoa; have HBa := Aside0.mk hba; clear hoa hba hga hnewa)
        | ((with_reducible refine gate_builtin (b := .append) (xs := #[.tmp 66, .tmp 67]) rfl ?_); at_builtin; refine Kd.R_append_rows (Kd.int .u8) (w0 := w4) w4.heap.size rfl (.tmp 66) (.tmp 67) 24 5 (.int .u8 0) 1 rfl Tryz.underlying24 info5 rfl (by decide) (by omega) va [] I A2 I.length cc2 (fun _ => True) (fun _ => False) rfl rfl HOa.out (Kd.C_below HC2.out HBa.out) (fun _ _ h => h) (fun _ h => h.elim) (fun _ _ => trivial) HBa.out HBa.out.size (by have := HIL.out; simp only [List.length_nil]; omega) ?_; intro vb wb hob hbb _ _; rw [List.nil_append] at hob; have HOb := Aside0.mk hob; have HBb := Aside0.mk hbb; clear hob hbb)
        | ((with_reducible refine gate_builtin (b := .append) (xs := #[.tmp 68, .tmp 69]) rfl ?_); at_builtin; refine Kd.R_append_rows (Kd.int .u8) (w0 := w4) w4.heap.size rfl (.tmp 68) (.tmp 69) 24 5 (.int .u8 0) 1 rfl Tryz.underlying24 info5 rfl (by decide) (by omega) vb I J A J.length c (fun _ => True) (fun _ => False) rfl rfl HOb.out (Kd.C_below HCJ.out HBb.out) (fun _ _ h => h) (fun _ h => h.elim) (fun _ _ => trivial) HBb.out HBb.out.size (by have := HIL.out; have := HJL.out; omega) ?_; intro vc wc hoc hbc _ _; obtain ⟨M, hM⟩ : ∃ M, M = I ++ J := ⟨_, rfl⟩; rw [← hM] at hoc; obtain ⟨A9, c9, rfl⟩ := Kd.R_slice hoc; have HM := Aside0.mk hM; have HO9 := Aside0.mk (Kd.R_reads' hoc); have HB9 := Aside0.mk (below_step HB.out hbc); have v0 := cell_below v0 hbc; have v1 := cell_below v1 hbc; clear hoc hbc hM)
        | ((with_reducible refine gate_callee (f := 10) rfl ?_); refine goesL_ (some 71) rfl rfl Tryz.func10 (by kernel_rfl) rfl #[.slice A9 M.length c9] rfl (by (try simp only [List.map_toArray, List.map_cons, List.map_nil]); first | done | rfl) ?_; (with_reducible refine (decM_calls A9 c9 M k b I.length (by rw [HM.out, HIe.out, HD.out, iv_len]) _ HO9.out.2.2 HO9.out.2.1 (by rw [HM.out, List.length_append]; have := HIL.out; have := HJL.out; omega)).mono ?_); rintro e w5 ⟨rfl, hb⟩; refine ⟨_, rfl, ?_⟩; have HB := Aside0.mk (below_step HB9.out hb); have v0 := cell_below v0 hb; have v1 := cell_below v1 hb; clear hb)
        | ((with_reducible refine gate_dst (N := 9) rfl ?_); refine box_event ?hg (N := 9) ?hd (cs := #[.string (⟨#[]⟩ : ByteArray), .string (⟨#[]⟩ : ByteArray)]) (t := 23) ?hr ?_; (case hd => rfl); (case hg => rfl); (case hr => first | (go_simp; done) | (go_simp; rfl)); intro gbq hg wbq hbox hb; have HBb := Aside0.mk hb; have GE := Aside0.mk (Nat.le_of_eq hg.symm); have HBK := Aside0.mk hbox; have u0 : wbq.cell? ⟨gbq, 0, none⟩ = some (.string (⟨#[]⟩ : ByteArray)) := (blk_cell hbox 0).trans rfl; have u1 : wbq.cell? ⟨gbq, 1, none⟩ = some (.string (⟨#[]⟩ : ByteArray)) := (blk_cell hbox 1).trans rfl; have g0 := blk_frozen hbox 0; have g1 := blk_frozen hbox 1; clear hbox hb hg))
      have HB5 := Aside0.mk (boxed HBb.out GE.out (.string ⟨k.toArray⟩) (.string ⟨b.toArray⟩))
      have HBKq := Aside0.mk (boxed_blk HBK.out ⟨k.toArray⟩ ⟨b.toArray⟩)
      replace v0 := cell_below v0 HB5.out
      replace v1 := cell_below v1 HB5.out
      replace HB := Aside0.mk (below_step HB.out HB5.out)
      clear u0 u1 g0 g1 GE HB5 HBb HBK
      generalize (wbq.setCell ⟨gbq, 0, none⟩ (.string ⟨k.toArray⟩)).setCell ⟨gbq, 1, none⟩ (.string ⟨b.toArray⟩) = w6 at *
      have v2 : w6.cell? ⟨gbq, 0, none⟩ = some (.string ⟨k.toArray⟩) := (blk_cell HBKq.out 0).trans rfl
      have v3 : w6.cell? ⟨gbq, 1, none⟩ = some (.string ⟨b.toArray⟩) := (blk_cell HBKq.out 1).trans rfl
      go_wp2_with fail
      go_ret
      exact ⟨rfl, HB.out⟩
    · have he1 : (ec == 0) = false := beq_eq_false_iff_ne.2 hec
      have he2 : (ec != 0) = true := bne_iff_ne.2 hec
      clear hec
      go_wp2_with fail
      go_ret
      exact ⟨rfl, HB.out⟩

end Go.Proofs.YtnineihfjbbmpaaGreatDoor.P
