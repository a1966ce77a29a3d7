/- Encode, the program's and the reference's. -/
import Derived.Test.YtnineihfjbbmpaaGreatDoorPG
namespace Go.Proofs.YtnineihfjbbmpaaGreatDoor.P
open Go.RowKit Go.Proofs.YtnineihfjbbmpaaGreatDoorW.PrintWords Go.Proofs.YtnineihfjbbmpaaGreatDoorW.PrintLast Go.Proofs.YtnineihfjbbmpaaGreatDoorW.PrintMore
set_option exponentiation.threshold 8200
set_option linter.unusedVariables false
set_option linter.unusedSimpArgs false
/-! ### Encode -/
theorem bs_size (l : List UInt8) : (⟨l.toArray⟩ : ByteArray).size = l.length := bsize l
theorem frame_cat (k b : List UInt8) : ((((⟨k.toArray⟩ : ByteArray) ++ ⟨#[32]⟩) ++ ⟨(Lib.decDigits b.length).toArray⟩) ++ ⟨#[10]⟩) ++ ⟨b.toArray⟩ = ⟨(frameB k b).toArray⟩ := by
  unfold frameB
  apply ByteArray.ext
  simp
theorem dd_len (n : Nat) (h : n ≤ 1048576) : (Lib.decDigits n).length ≤ 1048577 := by
  have := (dd_facts n).2.2.2.2.1
  omega
theorem frame_len (k b : List UInt8) : (frameB k b).length = k.length + (Lib.decDigits b.length).length + b.length + 2 := by
  unfold frameB
  simp only [List.length_append, List.length_cons, List.length_nil]
  omega
theorem kindB_len {k : List UInt8} (h : kindB k = true) : 1 ≤ k.length ∧ k.length ≤ 16 := by
  unfold kindB at h
  rw [Bool.and_eq_true, Bool.and_eq_true, decide_eq_true_iff, decide_eq_true_iff] at h
  exact h.1
set_option maxHeartbeats 8000000 in
set_option maxRecDepth 1000000 in
/-- Encode. -/
theorem encode_calls (k b : List UInt8) (hk : k.length < 4611686018427387904) (w : World) (h : Env w) :
    Calls Tryz.prog 7 #[.agg #[.string ⟨k.toArray⟩, .string ⟨b.toArray⟩]] w fun e w' => EncP (encL k b).1 (encL k b).2 w e w' := by
  have HE := Aside0.mk h
  clear h
  have hu23 := Tryz.underlying23
  obtain ⟨kk, hkk⟩ : ∃ kk, kindB k = kk := ⟨_, rfl⟩
  have hK := Aside0.mk hkk
  have hKl := Aside0.mk hk
  clear hkk hk
  by_cases hbig : 1048576 < b.length
  · have hbi : (1048576 : Int) < (b.length : Int) := by omega
    go_enter Tryz.func7, Tryz.ntmps7
    go_wp2_with ((with_reducible refine gate_dst (N := 1) rfl ?_); (try (refine gate_guard (by rfl) ?_; dsimp only)); refine box_event ?hg (N := 1) ?hd (cs := #[.string ⟨k.toArray⟩, .string ⟨b.toArray⟩]) (t := 23) ?hr ?_; (case hd => rfl); (case hg => rfl); (case hr => first | (go_simp; done) | (go_simp; rfl)); intro gb hg_ w1 hbox hb_; have HB := Aside0.mk hb_; have BK := Aside0.mk hbox; have z0 : w1.cell? ⟨gb, 0, none⟩ = some (.string ⟨k.toArray⟩) := (blk_cell hbox 0).trans rfl; have z1 : w1.cell? ⟨gb, 1, none⟩ = some (.string ⟨b.toArray⟩) := (blk_cell hbox 1).trans rfl; clear hb_ hbox hg_)
    refine (validKind_calls k _).mono ?_
    rintro e w2 ⟨rfl, hb_⟩
    rw [hK.out]
    replace z0 := cell_below z0 hb_
    replace z1 := cell_below z1 hb_
    replace HB := Aside0.mk (below_step HB.out hb_)
    clear hb_ BK
    cases kk with
    | false =>
      go_wp2_with fail
      go_ret2
      have e : encL k b = ([], 1) := by unfold encL; rw [if_pos hK.out]
      rw [e]
      exact EncP.intro ⟨none, 0, rfl, Kd.C_nil _ _, Nat.le_refl _, HB.out⟩
    | true =>
      go_wp2_with fail
      go_ret2
      have e : encL k b = ([], 6) := by unfold encL; rw [if_neg (by rw [hK.out]; decide), if_pos hbig]
      rw [e]
      exact EncP.intro ⟨none, 0, rfl, Kd.C_nil _ _, Nat.le_refl _, HB.out⟩
  · have hbi : ¬ (1048576 : Int) < (b.length : Int) := by omega
    go_enter Tryz.func7, Tryz.ntmps7
    go_wp2_with ((with_reducible refine gate_dst (N := 1) rfl ?_); (try (refine gate_guard (by rfl) ?_; dsimp only)); refine box_event ?hg (N := 1) ?hd (cs := #[.string ⟨k.toArray⟩, .string ⟨b.toArray⟩]) (t := 23) ?hr ?_; (case hd => rfl); (case hg => rfl); (case hr => first | (go_simp; done) | (go_simp; rfl)); intro gb hg_ w1 hbox hb_; have HB := Aside0.mk hb_; have BK := Aside0.mk hbox; have z0 : w1.cell? ⟨gb, 0, none⟩ = some (.string ⟨k.toArray⟩) := (blk_cell hbox 0).trans rfl; have z1 : w1.cell? ⟨gb, 1, none⟩ = some (.string ⟨b.toArray⟩) := (blk_cell hbox 1).trans rfl; clear hb_ hbox hg_)
    refine (validKind_calls k _).mono ?_
    rintro e w2 ⟨rfl, hb_⟩
    rw [hK.out]
    replace z0 := cell_below z0 hb_
    replace z1 := cell_below z1 hb_
    replace HB := Aside0.mk (below_step HB.out hb_)
    clear hb_ BK
    cases kk with
    | false =>
      go_wp2_with fail
      go_ret2
      have e : encL k b = ([], 1) := by unfold encL; rw [if_pos hK.out]
      rw [e]
      exact EncP.intro ⟨none, 0, rfl, Kd.C_nil _ _, Nat.le_refl _, HB.out⟩
    | true =>
      have hk2 := kindB_len hK.out
      have hdl := dd_len b.length (by omega)
      have hKL := Aside0.mk hk2
      have hDL := Aside0.mk hdl
      have hBL := Aside0.mk (show b.length ≤ 1048576 by omega)
      have hB62 := Aside0.mk (show b.length < 4611686018427387904 by omega)
      obtain ⟨D, hD⟩ : ∃ D, D = Lib.decDigits b.length := ⟨_, rfl⟩
      have hDe := Aside0.mk hD
      rw [← hD] at hDL hdl
      have s1 : ¬ 9223372036854775807 < k.length + 1 := by omega
      have s2 : ¬ 9223372036854775807 < k.length + 1 + D.length := by omega
      have s3 : ¬ 9223372036854775807 < k.length + 1 + D.length + 1 := by omega
      have s4 : ¬ 9223372036854775807 < k.length + 1 + D.length + 1 + b.length := by omega
      have hcat := frame_cat k b
      rw [← hD] at hcat
      have hcv : ∀ W : World, (convert 9 24 (.string (((((⟨k.toArray⟩ : ByteArray) ++ ⟨#[32]⟩) ++ ⟨D.toArray⟩) ++ ⟨#[10]⟩) ++ ⟨b.toArray⟩))).run Tryz.prog W = .ok (.slice (some ⟨W.heap.size, 0, none⟩) (frameB k b).length (grownCap W (frameB k b).length 0 5)) (Lib.bytesWorld W 5 ⟨(frameB k b).toArray⟩) := fun W => by
        have h := Lib.run_convert_string_bytes (P := Tryz.prog) W 9 24 5 ⟨(frameB k b).toArray⟩ Tryz.underlying9 Tryz.underlying24 Tryz.underlying5
        rw [bsize] at h
        rw [hcat]
        exact h
      have hfl := Aside0.mk (show (frameB k b).length ≤ 4611686018427387904 by rw [frame_len, ← hD]; omega)
      clear hk2 hdl hD hcat
      go_wp2_with fail
      replace HB := Aside0.mk (below_drew1 HB.out)
      refine start_ (n := 15) (S := fun w' => w'.cell? ⟨gb, 0, none⟩ = some (.string ⟨k.toArray⟩) ∧ w'.cell? ⟨gb, 1, none⟩ = some (.string ⟨b.toArray⟩)) (ds := []) #[false, false, false, false, false, false, false, false, false, false, false, false, false, false, false] (by kernel_rfl) rfl rfl ⟨z0, z1⟩ (fun hHeld => ?_)
      generalize w2.drew = w3 at HB hHeld ⊢
      refine pure_ (i := 0) (N := some 14) (v := ?_) (a' := ?_) #[true, false, false, false, false, false, false, false, false, false, false, false, false, false, false] rfl rfl (by kernel_rfl) (fun _ _ _ h => h) (Or.inl ⟨by rfl, ?_⟩) ?_ ?_
      rotate_left
      · intro w'
        go_simp
        with_reducible rfl
      rotate_left
      · simp only [Act.put, List.setIfInBounds_toArray, List.set_cons_zero, List.set_cons_succ, i64_w, i32_w]
        rfl
      refine take_ (i := 1) (N := some 15) (v := ?_) (a' := ?_) #[true, true, false, false, false, false, false, false, false, false, false, false, false, false, false] rfl rfl (by kernel_rfl) (fun _ _ _ h => h) (Or.inl ⟨by rfl, ?_⟩) hHeld ?_ ?_
      rotate_left
      · rintro w' ⟨s0, s1⟩
        go_simp
        with_reducible rfl
      rotate_left
      · simp only [Act.put, List.setIfInBounds_toArray, List.set_cons_zero, List.set_cons_succ, i64_w, i32_w]
        rfl
      refine pure_ (i := 2) (N := some 16) (v := ?_) (a' := ?_) #[true, true, true, false, false, false, false, false, false, false, false, false, false, false, false] rfl rfl (by kernel_rfl) (fun _ _ _ h => h) (Or.inl ⟨by rfl, ?_⟩) ?_ ?_
      rotate_left
      · intro w'
        go_simp
        with_reducible rfl
      rotate_left
      · simp only [Act.put, List.setIfInBounds_toArray, List.set_cons_zero, List.set_cons_succ, i64_w, i32_w]
        rfl
      refine pure_ (i := 3) (N := some 17) (v := ?_) (a' := ?_) #[true, true, true, true, false, false, false, false, false, false, false, false, false, false, false] rfl rfl (by kernel_rfl) (fun _ _ _ h => h) (Or.inl ⟨by rfl, ?_⟩) ?_ ?_
      rotate_left
      · intro w'
        go_simp
        with_reducible rfl
      rotate_left
      · simp only [Act.put, List.setIfInBounds_toArray, List.set_cons_zero, List.set_cons_succ, i64_w, i32_w]
        rfl
      refine take_ (i := 4) (N := some 18) (v := ?_) (a' := ?_) #[true, true, true, true, true, false, false, false, false, false, false, false, false, false, false] rfl rfl (by kernel_rfl) (fun _ _ _ h => h) (Or.inl ⟨by rfl, ?_⟩) hHeld ?_ ?_
      rotate_left
      · rintro w' ⟨s0, s1⟩
        go_simp
        with_reducible rfl
      rotate_left
      · simp only [Act.put, List.setIfInBounds_toArray, List.set_cons_zero, List.set_cons_succ, i64_w, i32_w]
        rfl
      refine pure_ (i := 5) (N := some 19) (v := ?_) (a' := ?_) #[true, true, true, true, true, true, false, false, false, false, false, false, false, false, false] rfl rfl (by kernel_rfl) (fun _ _ _ h => h) (Or.inl ⟨by rfl, ?_⟩) ?_ ?_
      rotate_left
      · intro w'
        go_simp
        with_reducible rfl
      rotate_left
      · simp only [Act.put, List.setIfInBounds_toArray, List.set_cons_zero, List.set_cons_succ, i64_w, i32_w]
        rfl
      refine pure_ (i := 9) (N := some 23) (v := ?_) (a' := ?_) #[true, true, true, true, true, true, false, false, false, true, false, false, false, false, false] rfl rfl (by kernel_rfl) (fun _ _ _ h => h) (Or.inl ⟨by rfl, ?_⟩) ?_ ?_
      rotate_left
      · intro w'
        go_simp
        with_reducible rfl
      rotate_left
      · simp only [Act.put, List.setIfInBounds_toArray, List.set_cons_zero, List.set_cons_succ, i64_w, i32_w]
        rfl
      refine take_ (i := 10) (N := some 24) (v := ?_) (a' := ?_) #[true, true, true, true, true, true, false, false, false, true, true, false, false, false, false] rfl rfl (by kernel_rfl) (fun _ _ _ h => h) (Or.inl ⟨by rfl, ?_⟩) hHeld ?_ ?_
      rotate_left
      · rintro w' ⟨s0, s1⟩
        go_simp
        with_reducible rfl
      rotate_left
      · simp only [Act.put, List.setIfInBounds_toArray, List.set_cons_zero, List.set_cons_succ, i64_w, i32_w]
        rfl
      refine one_ (i := 6) (N := some 20) #[true, true, true, true, true, true, true, false, false, true, true, false, false, false, false] rfl rfl (by kernel_rfl) (by decide) (fun K hK => ?_)
      refine goes_ Tryz.func19 (by kernel_rfl) rfl #[.int .i64 (b.length : Int)] (by rfl) rfl rfl (by (try simp only [List.map_toArray, List.map_cons, List.map_nil]); first | done | rfl) ?_
      with_reducible refine (itoa_calls b.length hB62.out _ (HE.out.below HB.out)).mono ?_
      rintro e w5 ⟨rfl, hb_⟩
      refine ⟨_, rfl, ?_⟩
      rw [← hDe.out]
      replace HB := Aside0.mk (below_step HB.out hb_)
      refine hK.out _ _ ⟨cell_below hHeld.1 hb_, cell_below hHeld.2 hb_⟩ (fun hHeld => ?_)
      clear hK K
      refine norm_ (a' := ?_) ?_ ?_
      rotate_left
      · show Act.put _ (some 20) _ = _
        simp only [Act.put, List.setIfInBounds_toArray, List.set_cons_zero, List.set_cons_succ, i64_w, i32_w]
        rfl
      refine pure_ (i := 7) (N := some 21) (v := ?_) (a' := ?_) #[true, true, true, true, true, true, true, true, false, true, true, false, false, false, false] rfl rfl (by kernel_rfl) (fun _ _ _ h => h) (Or.inl ⟨by rfl, ?_⟩) ?_ ?_
      rotate_left
      · intro w'
        go_simp
        with_reducible rfl
      rotate_left
      · simp only [Act.put, List.setIfInBounds_toArray, List.set_cons_zero, List.set_cons_succ, i64_w, i32_w]
        rfl
      refine pure_ (i := 8) (N := some 22) (v := ?_) (a' := ?_) #[true, true, true, true, true, true, true, true, true, true, true, false, false, false, false] rfl rfl (by kernel_rfl) (fun _ _ _ h => h) (Or.inl ⟨by rfl, ?_⟩) ?_ ?_
      rotate_left
      · intro w'
        go_simp
        with_reducible rfl
      rotate_left
      · simp only [Act.put, List.setIfInBounds_toArray, List.set_cons_zero, List.set_cons_succ, i64_w, i32_w]
        rfl
      refine pure_ (i := 11) (N := some 25) (v := ?_) (a' := ?_) #[true, true, true, true, true, true, true, true, true, true, true, true, false, false, false] rfl rfl (by kernel_rfl) (fun _ _ _ h => h) (Or.inl ⟨by rfl, ?_⟩) ?_ ?_
      rotate_left
      · intro w'
        go_simp
        with_reducible rfl
      rotate_left
      · simp only [Act.put, List.setIfInBounds_toArray, List.set_cons_zero, List.set_cons_succ, i64_w, i32_w]
        rfl
      refine one_ (i := 12) (N := some 26) #[true, true, true, true, true, true, true, true, true, true, true, true, true, false, false] rfl rfl (by kernel_rfl) (by decide) (fun K hK => ?_)
      refine value_ (w1 := Lib.bytesWorld w5 5 ⟨(frameB k b).toArray⟩) (v := .slice (some ⟨w5.heap.size, 0, none⟩) (frameB k b).length (grownCap w5 (frameB k b).length 0 5)) (by rfl) rfl (by go_simp; try rfl) ?_
      clear hb_
      have hC_ := conv_C w5 (frameB k b) hfl.out
      have hb_ := Lib.bytesWorld_below w5 5 ⟨(frameB k b).toArray⟩
      have HC := Aside0.mk hC_
      have HC2 := Aside0.mk (grownCap_ge w5 (frameB k b).length 0 5)
      replace HB := Aside0.mk (below_step HB.out hb_)
      clear hC_
      refine hK.out _ _ ⟨cell_below hHeld.1 hb_, cell_below hHeld.2 hb_⟩ (fun hHeld => ?_)
      clear hK K
      refine norm_ (a' := ?_) ?_ ?_
      rotate_left
      · show Act.put _ (some 26) _ = _
        simp only [Act.put, List.setIfInBounds_toArray, List.set_cons_zero, List.set_cons_succ, i64_w, i32_w]
        rfl
      refine pure_ (i := 13) (N := some 2) (v := ?_) (a' := ?_) #[true, true, true, true, true, true, true, true, true, true, true, true, true, true, false] rfl rfl (by kernel_rfl) (fun _ _ _ h => h) (Or.inl ⟨by rfl, ?_⟩) ?_ ?_
      rotate_left
      · intro w'
        go_simp
        with_reducible rfl
      rotate_left
      · simp only [Act.put, List.setIfInBounds_toArray, List.set_cons_zero, List.set_cons_succ, i64_w, i32_w]
        rfl
      refine pure_ (i := 14) (N := some 3) (v := ?_) (a' := ?_) #[true, true, true, true, true, true, true, true, true, true, true, true, true, true, true] rfl rfl (by kernel_rfl) (fun _ _ _ h => h) (Or.inl ⟨by rfl, ?_⟩) ?_ ?_
      rotate_left
      · intro w'
        go_simp
        with_reducible rfl
      rotate_left
      · simp only [Act.put, List.setIfInBounds_toArray, List.set_cons_zero, List.set_cons_succ, i64_w, i32_w]
        rfl
      refine done_ (by kernel_rfl) ?_
      go_wp2_with fail
      go_ret2
      have e : encL k b = (frameB k b, 0) := by unfold encL; rw [if_neg (by rw [hK.out]; decide), if_neg hbig]
      rw [e]
      exact EncP.intro ⟨_, _, rfl, HC.out, HC2.out, HB.out⟩

theorem refKind_calls (k : List UInt8) (hk : k.length < 4611686018427387904) (w : World) : Calls Tryz.prog 20 #[.string ⟨k.toArray⟩] w fun e w' => e = .returned (.bool (kindB k)) ∧ Below w.heap.size w w' := by
  obtain ⟨f, hf⟩ := (kind_f k hk).rounds
  refine (lineageref59_Kind.calls f _ _ w hf).mono ?_
  rintro e w' ⟨rfl, hd⟩
  exact ⟨rfl, hd.below⟩
theorem nums_ten : strOfNums [10] = ⟨#[10]⟩ := rfl
set_option maxHeartbeats 8000000 in
set_option maxRecDepth 1000000 in
/-- The reference's Encode. -/
theorem refencode_calls (k b : List UInt8) (hk : k.length < 4611686018427387904) (w : World) (h : Env w) :
    Calls Tryz.prog 8 #[.agg #[.string ⟨k.toArray⟩, .string ⟨b.toArray⟩]] w fun e w' => EncP (encL k b).1 (encL k b).2 w e w' := by
  have HE := Aside0.mk h
  clear h
  have hu23 := Tryz.underlying23
  obtain ⟨kk, hkk⟩ : ∃ kk, kindB k = kk := ⟨_, rfl⟩
  have hK := Aside0.mk hkk
  have hKl := Aside0.mk hk
  clear hkk hk
  by_cases hbig : 1048576 < b.length
  · have hbi : (1048576 : Int) < (b.length : Int) := by omega
    go_enter Tryz.func8, Tryz.ntmps8
    go_wp2_with ((with_reducible refine gate_dst (N := 1) rfl ?_); (try (refine gate_guard (by rfl) ?_; dsimp only)); refine box_event ?hg (N := 1) ?hd (cs := #[.string ⟨k.toArray⟩, .string ⟨b.toArray⟩]) (t := 23) ?hr ?_; (case hd => rfl); (case hg => rfl); (case hr => first | (go_simp; done) | (go_simp; rfl)); intro gb hg_ w1 hbox hb_; have HB := Aside0.mk hb_; have BK := Aside0.mk hbox; have z0 : w1.cell? ⟨gb, 0, none⟩ = some (.string ⟨k.toArray⟩) := (blk_cell hbox 0).trans rfl; have z1 : w1.cell? ⟨gb, 1, none⟩ = some (.string ⟨b.toArray⟩) := (blk_cell hbox 1).trans rfl; clear hb_ hbox hg_)
    refine (refKind_calls k hKl.out _).mono ?_
    rintro e w2 ⟨rfl, hb_⟩
    rw [hK.out]
    replace z0 := cell_below z0 hb_
    replace z1 := cell_below z1 hb_
    replace HB := Aside0.mk (below_step HB.out hb_)
    clear hb_ BK
    cases kk with
    | false =>
      go_wp2_with fail
      go_ret2
      have e : encL k b = ([], 1) := by unfold encL; rw [if_pos hK.out]
      rw [e]
      exact EncP.intro ⟨none, 0, rfl, Kd.C_nil _ _, Nat.le_refl _, HB.out⟩
    | true =>
      go_wp2_with fail
      go_ret2
      have e : encL k b = ([], 6) := by unfold encL; rw [if_neg (by rw [hK.out]; decide), if_pos hbig]
      rw [e]
      exact EncP.intro ⟨none, 0, rfl, Kd.C_nil _ _, Nat.le_refl _, HB.out⟩
  · have hbi : ¬ (1048576 : Int) < (b.length : Int) := by omega
    go_enter Tryz.func8, Tryz.ntmps8
    go_wp2_with ((with_reducible refine gate_dst (N := 1) rfl ?_); (try (refine gate_guard (by rfl) ?_; dsimp only)); refine box_event ?hg (N := 1) ?hd (cs := #[.string ⟨k.toArray⟩, .string ⟨b.toArray⟩]) (t := 23) ?hr ?_; (case hd => rfl); (case hg => rfl); (case hr => first | (go_simp; done) | (go_simp; rfl)); intro gb hg_ w1 hbox hb_; have HB := Aside0.mk hb_; have BK := Aside0.mk hbox; have z0 : w1.cell? ⟨gb, 0, none⟩ = some (.string ⟨k.toArray⟩) := (blk_cell hbox 0).trans rfl; have z1 : w1.cell? ⟨gb, 1, none⟩ = some (.string ⟨b.toArray⟩) := (blk_cell hbox 1).trans rfl; clear hb_ hbox hg_)
    refine (refKind_calls k hKl.out _).mono ?_
    rintro e w2 ⟨rfl, hb_⟩
    rw [hK.out]
    replace z0 := cell_below z0 hb_
    replace z1 := cell_below z1 hb_
    replace HB := Aside0.mk (below_step HB.out hb_)
    clear hb_ BK
    cases kk with
    | false =>
      go_wp2_with fail
      go_ret2
      have e : encL k b = ([], 1) := by unfold encL; rw [if_pos hK.out]
      rw [e]
      exact EncP.intro ⟨none, 0, rfl, Kd.C_nil _ _, Nat.le_refl _, HB.out⟩
    | true =>
      have hk2 := kindB_len hK.out
      have hdl := dd_len b.length (by omega)
      have hKL := Aside0.mk hk2
      have hDL := Aside0.mk hdl
      have hBL := Aside0.mk (show b.length ≤ 1048576 by omega)
      have hB62 := Aside0.mk (show b.length < 4611686018427387904 by omega)
      have hwu : IntKind.u64.wrap (b.length : Int) = (b.length : Int) := by rw [IntKind.wrap_u64]; omega
      obtain ⟨D, hD⟩ : ∃ D, D = Lib.decDigits b.length := ⟨_, rfl⟩
      have hDe := Aside0.mk hD
      rw [← hD] at hDL hdl
      have s1 : ¬ 9223372036854775807 < k.length + 1 := by omega
      have s2 : ¬ 9223372036854775807 < k.length + 1 + D.length := by omega
      have s3 : ¬ 9223372036854775807 < k.length + 1 + D.length + 1 := by omega
      have s4 : ¬ 9223372036854775807 < k.length + 1 + D.length + 1 + b.length := by omega
      have hcat := frame_cat k b
      rw [← hD] at hcat
      have hcv : ∀ W : World, (convert 9 24 (.string (((((⟨k.toArray⟩ : ByteArray) ++ ⟨#[32]⟩) ++ ⟨D.toArray⟩) ++ ⟨#[10]⟩) ++ ⟨b.toArray⟩))).run Tryz.prog W = .ok (.slice (some ⟨W.heap.size, 0, none⟩) (frameB k b).length (grownCap W (frameB k b).length 0 5)) (Lib.bytesWorld W 5 ⟨(frameB k b).toArray⟩) := fun W => by
        have h := Lib.run_convert_string_bytes (P := Tryz.prog) W 9 24 5 ⟨(frameB k b).toArray⟩ Tryz.underlying9 Tryz.underlying24 Tryz.underlying5
        rw [bsize] at h
        rw [hcat]
        exact h
      have hfl := Aside0.mk (show (frameB k b).length ≤ 4611686018427387904 by rw [frame_len, ← hD]; omega)
      clear hk2 hdl hD hcat
      go_wp2_with fail
      replace HB := Aside0.mk (below_drew1 HB.out)
      refine start_ (n := 18) (S := fun w' => w'.cell? ⟨gb, 0, none⟩ = some (.string ⟨k.toArray⟩) ∧ w'.cell? ⟨gb, 1, none⟩ = some (.string ⟨b.toArray⟩)) (ds := []) #[false, false, false, false, false, false, false, false, false, false, false, false, false, false, false, false, false, false] (by kernel_rfl) rfl rfl ⟨z0, z1⟩ (fun hHeld => ?_)
      generalize w2.drew = w3 at HB hHeld ⊢
      refine pure_ (i := 0) (N := some 12) (v := ?_) (a' := ?_) #[true, false, false, false, false, false, false, false, false, false, false, false, false, false, false, false, false, false] rfl rfl (by kernel_rfl) (fun _ _ _ h => h) (Or.inl ⟨by rfl, ?_⟩) ?_ ?_
      rotate_left
      · intro w'
        go_simp
        with_reducible rfl
      rotate_left
      · simp only [Act.put, List.setIfInBounds_toArray, List.set_cons_zero, List.set_cons_succ, i64_w, i32_w]
        rfl
      refine take_ (i := 1) (N := some 13) (v := ?_) (a' := ?_) #[true, true, false, false, false, false, false, false, false, false, false, false, false, false, false, false, false, false] rfl rfl (by kernel_rfl) (fun _ _ _ h => h) (Or.inl ⟨by rfl, ?_⟩) hHeld ?_ ?_
      rotate_left
      · rintro w' ⟨s0, s1⟩
        go_simp
        with_reducible rfl
      rotate_left
      · simp only [Act.put, List.setIfInBounds_toArray, List.set_cons_zero, List.set_cons_succ, i64_w, i32_w]
        rfl
      refine pure_ (i := 2) (N := some 14) (v := ?_) (a' := ?_) #[true, true, true, false, false, false, false, false, false, false, false, false, false, false, false, false, false, false] rfl rfl (by kernel_rfl) (fun _ _ _ h => h) (Or.inl ⟨by rfl, ?_⟩) ?_ ?_
      rotate_left
      · intro w'
        go_simp
        with_reducible rfl
      rotate_left
      · simp only [Act.put, List.setIfInBounds_toArray, List.set_cons_zero, List.set_cons_succ, i64_w, i32_w]
        rfl
      refine pure_ (i := 3) (N := some 15) (v := ?_) (a' := ?_) #[true, true, true, true, false, false, false, false, false, false, false, false, false, false, false, false, false, false] rfl rfl (by kernel_rfl) (fun _ _ _ h => h) (Or.inl ⟨by rfl, ?_⟩) ?_ ?_
      rotate_left
      · intro w'
        go_simp
        with_reducible rfl
      rotate_left
      · simp only [Act.put, List.setIfInBounds_toArray, List.set_cons_zero, List.set_cons_succ, i64_w, i32_w]
        rfl
      refine take_ (i := 4) (N := some 16) (v := ?_) (a' := ?_) #[true, true, true, true, true, false, false, false, false, false, false, false, false, false, false, false, false, false] rfl rfl (by kernel_rfl) (fun _ _ _ h => h) (Or.inl ⟨by rfl, ?_⟩) hHeld ?_ ?_
      rotate_left
      · rintro w' ⟨s0, s1⟩
        go_simp
        with_reducible rfl
      rotate_left
      · simp only [Act.put, List.setIfInBounds_toArray, List.set_cons_zero, List.set_cons_succ, i64_w, i32_w]
        rfl
      refine pure_ (i := 5) (N := some 17) (v := ?_) (a' := ?_) #[true, true, true, true, true, true, false, false, false, false, false, false, false, false, false, false, false, false] rfl rfl (by kernel_rfl) (fun _ _ _ h => h) (Or.inl ⟨by rfl, ?_⟩) ?_ ?_
      rotate_left
      · intro w'
        go_simp
        with_reducible rfl
      rotate_left
      · simp only [Act.put, List.setIfInBounds_toArray, List.set_cons_zero, List.set_cons_succ, i64_w, i32_w]
        rfl
      refine pure_ (i := 6) (N := some 18) (v := ?_) (a' := ?_) #[true, true, true, true, true, true, true, false, false, false, false, false, false, false, false, false, false, false] rfl rfl (by kernel_rfl) (fun _ _ _ h => h) (Or.inl ⟨by rfl, ?_⟩) ?_ ?_
      rotate_left
      · intro w'
        go_simp
        with_reducible rfl
      rotate_left
      · simp only [Act.put, List.setIfInBounds_toArray, List.set_cons_zero, List.set_cons_succ, i64_w, i32_w]
        rfl
      refine pure_ (i := 12) (N := some 24) (v := ?_) (a' := ?_) #[true, true, true, true, true, true, true, false, false, false, false, false, true, false, false, false, false, false] rfl rfl (by kernel_rfl) (fun _ _ _ h => h) (Or.inl ⟨by rfl, ?_⟩) ?_ ?_
      rotate_left
      · intro w'
        go_simp
        with_reducible rfl
      rotate_left
      · simp only [Act.put, List.setIfInBounds_toArray, List.set_cons_zero, List.set_cons_succ, i64_w, i32_w]
        rfl
      refine take_ (i := 13) (N := some 25) (v := ?_) (a' := ?_) #[true, true, true, true, true, true, true, false, false, false, false, false, true, true, false, false, false, false] rfl rfl (by kernel_rfl) (fun _ _ _ h => h) (Or.inl ⟨by rfl, ?_⟩) hHeld ?_ ?_
      rotate_left
      · rintro w' ⟨s0, s1⟩
        go_simp
        with_reducible rfl
      rotate_left
      · simp only [Act.put, List.setIfInBounds_toArray, List.set_cons_zero, List.set_cons_succ, i64_w, i32_w]
        rfl
      refine join_ (σ := Value) 5 #[true, true, true, true, true, true, true, true, true, true, true, false, true, true, false, false, false, false] (fun s_ => [(19, .string ⟨D.toArray⟩), (20, .string (((⟨k.toArray⟩ : ByteArray) ++ ⟨#[32]⟩) ++ ⟨D.toArray⟩)), (21, s_), (22, .string ⟨#[10]⟩)]) (fun s_ w' => (w'.cell? ⟨gb, 0, none⟩ = some (.string ⟨k.toArray⟩) ∧ w'.cell? ⟨gb, 1, none⟩ = some (.string ⟨b.toArray⟩)) ∧ Below w.heap.size w w') ?_ ?_
      rotate_left
      · intro hCont
        refine two_ (i := 7) (j := 9) (Ni := some 19) (Nj := some 21) #[true, true, true, true, true, true, true, true, false, false, false, false, true, true, false, false, false, false] #[true, true, true, true, true, true, true, false, false, true, false, false, true, true, false, false, false, false] rfl rfl rfl rfl (by kernel_rfl) (by decide) (by decide) (fun K hK => ?_) (fun K hK => ?_)
        · skip
          refine goes_ Tryz.func21 (by kernel_rfl) rfl #[.int .u64 (b.length : Int)] (by rfl) rfl rfl (by (try simp only [List.map_toArray, List.map_cons, List.map_nil]); first | done | rfl) ?_
          with_reducible refine (digits_calls b.length hB62.out _).mono ?_
          rintro e w11 ⟨rfl, hb_⟩
          refine ⟨_, rfl, ?_⟩
          rw [← hDe.out]
          replace HB := Aside0.mk (below_step HB.out hb_)
          refine hK.out _ _ ⟨cell_below hHeld.1 hb_, cell_below hHeld.2 hb_⟩ (fun hHeld => ?_)
          clear hb_
          clear hK K
          refine norm_ (a' := ?_) ?_ ?_
          rotate_left
          · show Act.put _ (some 19) _ = _
            simp only [Act.put, List.setIfInBounds_toArray, List.set_cons_zero, List.set_cons_succ, i64_w, i32_w]
            rfl
          refine pure_ (i := 8) (N := some 20) (v := ?_) (a' := ?_) #[true, true, true, true, true, true, true, true, true, false, false, false, true, true, false, false, false, false] rfl rfl (by kernel_rfl) (fun _ _ _ h => h) (Or.inl ⟨by rfl, ?_⟩) ?_ ?_
          rotate_left
          · intro w'
            go_simp
            with_reducible rfl
          rotate_left
          · simp only [Act.put, List.setIfInBounds_toArray, List.set_cons_zero, List.set_cons_succ, i64_w, i32_w]
            rfl
          refine one_ (i := 9) (N := some 21) #[true, true, true, true, true, true, true, true, true, true, false, false, true, true, false, false, false, false] rfl rfl (by kernel_rfl) (by decide) (fun K hK => ?_)
          refine Kd.R_lit_step (Kd.int .u8) _ 5 ?hg (N := 21) ?hd (xs := [(10 : Int)]) (inner := [.int .u8 10]) (ok := fun _ => True) (okp := fun _ => True) ?hr ?hp (fun _ hk => hk) trivial (Below.refl _ _) (Nat.le_refl _) (by simp) ?_; (case hd => rfl); (case hg => rfl); (case hr => first | (go_simp; done) | (go_simp; rfl)); (case hp => exact (Reps.one (show Kd.M (Kd.int .u8) _ _ _ (10 : Int) [.int .u8 10] from rfl) (Reps.none _ _)))
          intro vw12 w12 ho_ hb_ hg_ hnew_
          clear hg_ hnew_
          have HO := Aside0.mk (Kd.R_lower ho_ (below_size HB.out))
          replace HB := Aside0.mk (below_step HB.out hb_)
          clear ho_
          refine hK.out _ _ ⟨cell_below hHeld.1 hb_, cell_below hHeld.2 hb_⟩ (fun hHeld => ?_)
          clear hb_
          clear hK K
          refine norm_ (a' := ?_) ?_ ?_
          rotate_left
          · show Act.put _ (some 21) _ = _
            simp only [Act.put, List.setIfInBounds_toArray, List.set_cons_zero, List.set_cons_succ, i64_w, i32_w]
            rfl
          refine one_ (i := 10) (N := some 22) #[true, true, true, true, true, true, true, true, true, true, true, false, true, true, false, false, false, false] rfl rfl (by kernel_rfl) (by decide) (fun K hK => ?_)
          have hcv12 := own_string (P := Tryz.prog) Tryz.underlying24 Tryz.underlying5 Tryz.underlying9 (Kd.own_of_R HO.out)
          rw [nums_ten] at hcv12
          refine value_ (w1 := ?_) (v := ?_) (by rfl) rfl ?_ ?_
          rotate_left 2
          · go_simp
            constructor
            · rfl
            · rfl
          clear hcv12
          refine hK.out _ _ hHeld (fun hHeld => ?_)
          clear hK K
          refine norm_ (a' := ?_) ?_ ?_
          rotate_left
          · show Act.put _ (some 22) _ = _
            simp only [Act.put, List.setIfInBounds_toArray, List.set_cons_zero, List.set_cons_succ, i64_w, i32_w]
            rfl
          exact norm_ (by simp only [putAll, Act.put, List.setIfInBounds_toArray, List.set_cons_zero, List.set_cons_succ]) (hCont vw12 _ ⟨hHeld, HB.out⟩)
        · skip
          refine Kd.R_lit_step (Kd.int .u8) _ 5 ?hg (N := 21) ?hd (xs := [(10 : Int)]) (inner := [.int .u8 10]) (ok := fun _ => True) (okp := fun _ => True) ?hr ?hp (fun _ hk => hk) trivial (Below.refl _ _) (Nat.le_refl _) (by simp) ?_; (case hd => rfl); (case hg => rfl); (case hr => first | (go_simp; done) | (go_simp; rfl)); (case hp => exact (Reps.one (show Kd.M (Kd.int .u8) _ _ _ (10 : Int) [.int .u8 10] from rfl) (Reps.none _ _)))
          intro vw13 w13 ho_ hb_ hg_ hnew_
          clear hg_ hnew_
          have HO := Aside0.mk (Kd.R_lower ho_ (below_size HB.out))
          replace HB := Aside0.mk (below_step HB.out hb_)
          clear ho_
          refine hK.out _ _ ⟨cell_below hHeld.1 hb_, cell_below hHeld.2 hb_⟩ (fun hHeld => ?_)
          clear hb_
          clear hK K
          refine norm_ (a' := ?_) ?_ ?_
          rotate_left
          · show Act.put _ (some 21) _ = _
            simp only [Act.put, List.setIfInBounds_toArray, List.set_cons_zero, List.set_cons_succ, i64_w, i32_w]
            rfl
          refine two_ (i := 7) (j := 10) (Ni := some 19) (Nj := some 22) #[true, true, true, true, true, true, true, true, false, true, false, false, true, true, false, false, false, false] #[true, true, true, true, true, true, true, false, false, true, true, false, true, true, false, false, false, false] rfl rfl rfl rfl (by kernel_rfl) (by decide) (by decide) (fun K hK => ?_) (fun K hK => ?_)
          · skip
            refine goes_ Tryz.func21 (by kernel_rfl) rfl #[.int .u64 (b.length : Int)] (by rfl) rfl rfl (by (try simp only [List.map_toArray, List.map_cons, List.map_nil]); first | done | rfl) ?_
            with_reducible refine (digits_calls b.length hB62.out _).mono ?_
            rintro e w14 ⟨rfl, hb_⟩
            refine ⟨_, rfl, ?_⟩
            rw [← hDe.out]
            replace HB := Aside0.mk (below_step HB.out hb_)
            replace HO := Aside0.mk (Kd.R_below HO.out hb_)
            refine hK.out _ _ ⟨cell_below hHeld.1 hb_, cell_below hHeld.2 hb_⟩ (fun hHeld => ?_)
            clear hb_
            clear hK K
            refine norm_ (a' := ?_) ?_ ?_
            rotate_left
            · show Act.put _ (some 19) _ = _
              simp only [Act.put, List.setIfInBounds_toArray, List.set_cons_zero, List.set_cons_succ, i64_w, i32_w]
              rfl
            refine pure_ (i := 8) (N := some 20) (v := ?_) (a' := ?_) #[true, true, true, true, true, true, true, true, true, true, false, false, true, true, false, false, false, false] rfl rfl (by kernel_rfl) (fun _ _ _ h => h) (Or.inl ⟨by rfl, ?_⟩) ?_ ?_
            rotate_left
            · intro w'
              go_simp
              with_reducible rfl
            rotate_left
            · simp only [Act.put, List.setIfInBounds_toArray, List.set_cons_zero, List.set_cons_succ, i64_w, i32_w]
              rfl
            refine one_ (i := 10) (N := some 22) #[true, true, true, true, true, true, true, true, true, true, true, false, true, true, false, false, false, false] rfl rfl (by kernel_rfl) (by decide) (fun K hK => ?_)
            have hcv12 := own_string (P := Tryz.prog) Tryz.underlying24 Tryz.underlying5 Tryz.underlying9 (Kd.own_of_R HO.out)
            rw [nums_ten] at hcv12
            refine value_ (w1 := ?_) (v := ?_) (by rfl) rfl ?_ ?_
            rotate_left 2
            · go_simp
              constructor
              · rfl
              · rfl
            clear hcv12
            refine hK.out _ _ hHeld (fun hHeld => ?_)
            clear hK K
            refine norm_ (a' := ?_) ?_ ?_
            rotate_left
            · show Act.put _ (some 22) _ = _
              simp only [Act.put, List.setIfInBounds_toArray, List.set_cons_zero, List.set_cons_succ, i64_w, i32_w]
              rfl
            exact norm_ (by simp only [putAll, Act.put, List.setIfInBounds_toArray, List.set_cons_zero, List.set_cons_succ]) (hCont vw13 _ ⟨hHeld, HB.out⟩)
          · skip
            have hcv12 := own_string (P := Tryz.prog) Tryz.underlying24 Tryz.underlying5 Tryz.underlying9 (Kd.own_of_R HO.out)
            rw [nums_ten] at hcv12
            refine value_ (w1 := ?_) (v := ?_) (by rfl) rfl ?_ ?_
            rotate_left 2
            · go_simp
              constructor
              · rfl
              · rfl
            clear hcv12
            refine hK.out _ _ hHeld (fun hHeld => ?_)
            clear hK K
            refine norm_ (a' := ?_) ?_ ?_
            rotate_left
            · show Act.put _ (some 22) _ = _
              simp only [Act.put, List.setIfInBounds_toArray, List.set_cons_zero, List.set_cons_succ, i64_w, i32_w]
              rfl
            refine one_ (i := 7) (N := some 19) #[true, true, true, true, true, true, true, true, false, true, true, false, true, true, false, false, false, false] rfl rfl (by kernel_rfl) (by decide) (fun K hK => ?_)
            refine goes_ Tryz.func21 (by kernel_rfl) rfl #[.int .u64 (b.length : Int)] (by rfl) rfl rfl (by (try simp only [List.map_toArray, List.map_cons, List.map_nil]); first | done | rfl) ?_
            with_reducible refine (digits_calls b.length hB62.out _).mono ?_
            rintro e w15 ⟨rfl, hb_⟩
            refine ⟨_, rfl, ?_⟩
            rw [← hDe.out]
            replace HB := Aside0.mk (below_step HB.out hb_)
            refine hK.out _ _ ⟨cell_below hHeld.1 hb_, cell_below hHeld.2 hb_⟩ (fun hHeld => ?_)
            clear hb_
            clear hK K
            refine norm_ (a' := ?_) ?_ ?_
            rotate_left
            · show Act.put _ (some 19) _ = _
              simp only [Act.put, List.setIfInBounds_toArray, List.set_cons_zero, List.set_cons_succ, i64_w, i32_w]
              rfl
            refine pure_ (i := 8) (N := some 20) (v := ?_) (a' := ?_) #[true, true, true, true, true, true, true, true, true, true, true, false, true, true, false, false, false, false] rfl rfl (by kernel_rfl) (fun _ _ _ h => h) (Or.inl ⟨by rfl, ?_⟩) ?_ ?_
            rotate_left
            · intro w'
              go_simp
              with_reducible rfl
            rotate_left
            · simp only [Act.put, List.setIfInBounds_toArray, List.set_cons_zero, List.set_cons_succ, i64_w, i32_w]
              rfl
            exact norm_ (by simp only [putAll, Act.put, List.setIfInBounds_toArray, List.set_cons_zero, List.set_cons_succ]) (hCont vw13 _ ⟨hHeld, HB.out⟩)
      rintro s_ w5 ⟨hHeld, h1_⟩
      replace HB := Aside0.mk h1_
      clear h1_
      refine norm_ (a' := ?_) ?_ ?_
      rotate_left
      · simp only [putAll, Act.put, List.setIfInBounds_toArray, List.set_cons_zero, List.set_cons_succ]
        rfl
      refine pure_ (i := 11) (N := some 23) (v := ?_) (a' := ?_) #[true, true, true, true, true, true, true, true, true, true, true, true, true, true, false, false, false, false] rfl rfl (by kernel_rfl) (fun _ _ _ h => h) (Or.inl ⟨by rfl, ?_⟩) ?_ ?_
      rotate_left
      · intro w'
        go_simp
        with_reducible rfl
      rotate_left
      · simp only [Act.put, List.setIfInBounds_toArray, List.set_cons_zero, List.set_cons_succ, i64_w, i32_w]
        rfl
      refine pure_ (i := 14) (N := some 26) (v := ?_) (a' := ?_) #[true, true, true, true, true, true, true, true, true, true, true, true, true, true, true, false, false, false] rfl rfl (by kernel_rfl) (fun _ _ _ h => h) (Or.inl ⟨by rfl, ?_⟩) ?_ ?_
      rotate_left
      · intro w'
        go_simp
        with_reducible rfl
      rotate_left
      · simp only [Act.put, List.setIfInBounds_toArray, List.set_cons_zero, List.set_cons_succ, i64_w, i32_w]
        rfl
      refine one_ (i := 15) (N := some 27) #[true, true, true, true, true, true, true, true, true, true, true, true, true, true, true, true, false, false] rfl rfl (by kernel_rfl) (by decide) (fun K hK => ?_)
      refine value_ (w1 := Lib.bytesWorld w5 5 ⟨(frameB k b).toArray⟩) (v := .slice (some ⟨w5.heap.size, 0, none⟩) (frameB k b).length (grownCap w5 (frameB k b).length 0 5)) (by rfl) rfl (by go_simp; try rfl) ?_
      have hC_ := conv_C w5 (frameB k b) hfl.out
      have hb_ := Lib.bytesWorld_below w5 5 ⟨(frameB k b).toArray⟩
      have HC := Aside0.mk hC_
      have HC2 := Aside0.mk (grownCap_ge w5 (frameB k b).length 0 5)
      replace HB := Aside0.mk (below_step HB.out hb_)
      clear hC_
      refine hK.out _ _ ⟨cell_below hHeld.1 hb_, cell_below hHeld.2 hb_⟩ (fun hHeld => ?_)
      clear hK K
      refine norm_ (a' := ?_) ?_ ?_
      rotate_left
      · show Act.put _ (some 27) _ = _
        simp only [Act.put, List.setIfInBounds_toArray, List.set_cons_zero, List.set_cons_succ, i64_w, i32_w]
        rfl
      refine pure_ (i := 16) (N := some 2) (v := ?_) (a' := ?_) #[true, true, true, true, true, true, true, true, true, true, true, true, true, true, true, true, true, false] rfl rfl (by kernel_rfl) (fun _ _ _ h => h) (Or.inl ⟨by rfl, ?_⟩) ?_ ?_
      rotate_left
      · intro w'
        go_simp
        with_reducible rfl
      rotate_left
      · simp only [Act.put, List.setIfInBounds_toArray, List.set_cons_zero, List.set_cons_succ, i64_w, i32_w]
        rfl
      refine pure_ (i := 17) (N := some 3) (v := ?_) (a' := ?_) #[true, true, true, true, true, true, true, true, true, true, true, true, true, true, true, true, true, true] rfl rfl (by kernel_rfl) (fun _ _ _ h => h) (Or.inl ⟨by rfl, ?_⟩) ?_ ?_
      rotate_left
      · intro w'
        go_simp
        with_reducible rfl
      rotate_left
      · simp only [Act.put, List.setIfInBounds_toArray, List.set_cons_zero, List.set_cons_succ, i64_w, i32_w]
        rfl
      refine done_ (by kernel_rfl) ?_
      go_wp2_with fail
      go_ret2
      have e : encL k b = (frameB k b, 0) := by unfold encL; rw [if_neg (by rw [hK.out]; decide), if_neg hbig]
      rw [e]
      exact EncP.intro ⟨_, _, rfl, HC.out, HC2.out, HB.out⟩


end Go.Proofs.YtnineihfjbbmpaaGreatDoor.P
