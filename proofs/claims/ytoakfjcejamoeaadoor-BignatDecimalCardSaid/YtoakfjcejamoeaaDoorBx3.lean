-- PRINTED by print.py (a twelfth state) out of the translation. Not trusted: Lean checks it.
import Derived.Test.YtoakfjcejamoeaaDoorBx0
import Derived.Test.YtoakfjcejamoeaaDoorBx1
import Derived.Test.YtoakfjcejamoeaaDoorBx2
namespace Go.Proofs.YtoakfjcejamoeaaDoor.B
open Go.RowKit Go.Proofs.YtoakfjcejamoeaaDoorW.PrintWords Go.Proofs.YtoakfjcejamoeaaDoorW.PrintLast Go.Proofs.YtoakfjcejamoeaaDoorW.PrintMore
attribute [local go_sem] max2_int min2_int max_two min_two max_three min_three max_four min_four   -- for this text's walks alone
set_option linter.unusedVariables false
set_option linter.unusedSimpArgs false

/-! ### api_Nat_uint32: function 77 -/
/-- A copy. -/
def api_Nat_uint32.f (l0 : List Int) : Option (List Int) := if l0.length ≤ 1048576 then some l0 else none
theorem C_none63 {w : World} {n : Nat} {l : List Int} (h : Kd.C (Kd.int .u32) w none n l) : l = [] := by
  obtain ⟨h1, h2, h3⟩ := h
  rcases Nat.eq_zero_or_pos n with h0 | h0
  · exact List.eq_nil_of_length_eq_zero (by omega)
  · obtain ⟨ad, e, _⟩ := h3 h0
    cases e
set_option maxRecDepth 100000 in
set_option maxHeartbeats 8000000 in
theorem api_Nat_uint32.calls (A0 : Option Addr) (c0 : Nat) (l0 : List Int) (r : List Int) (w : World) (hr0 : Kd.C (Kd.int .u32) w A0 l0.length l0) (hc0 : l0.length ≤ c0) (h : api_Nat_uint32.f l0 = some r) :
    Calls Tryd.prog 77 #[.slice A0 l0.length c0] w fun e w' => ∃ v0_ : Value, e = .returned v0_ ∧ Kd.R (Kd.int .u32) 63 w' w.heap.size (fun _ => True) v0_ r ∧ Below w.heap.size w w' := by
  unfold api_Nat_uint32.f at h
  split at h
  rotate_left
  · cases h
  rename_i hlim
  injection h with h
  subst h
  have he := fun (w : World) => Lib.run_eql_slice_nil (P := Tryd.prog) w 23 63 A0 l0.length c0 0 0 Tryd.underlying23
  cases A0 with
  | none =>
    obtain rfl := C_none63 hr0
    clear hlim hr0 hc0 he
    have he := fun (w : World) => Lib.run_eql_slice_nil (P := Tryd.prog) w 23 63 none 0 c0 0 0 Tryd.underlying23
    show Calls Tryd.prog 77 #[.slice none 0 c0] w _
    go_enter Tryd.func77, Tryd.ntmps77
    go_wp2
    go_ret
    exact ⟨_, rfl, Kd.R_nil _ _ _ _ _, Below.refl _ _⟩
  | some a =>
    have HR := Aside0.mk hr0
    have HL := Aside0.mk hlim
    clear hr0 hlim
    go_enter Tryd.func77, Tryd.ntmps77
    go_wp2_with (first
      | ((with_reducible refine gate_dst (N := 5) rfl ?_); refine Kd.R_lit (Kd.int .u32) _ 63 ?hg (N := 5) ?hd (xs := ([] : List Int)) (inner := []) (ok := fun _ => True) (okp := fun _ => True) ?hr ?hp (fun _ hk => hk) trivial (Below.refl _ _) (Nat.le_refl _) (by simp) ?_; (case hd => rfl); (case hg => rfl); (case hr => first | (go_simp; done) | (go_simp; rfl)); (case hp => exact (Reps.none _ _)); intro v1 w1 ho1 hb1 hg1 hnew1; have HO1 := Aside0.mk ho1; have HB1 := Aside0.mk hb1; clear ho1 hb1 hg1 hnew1)
      | ((with_reducible refine gate_builtin (b := .append) (xs := #[.tmp 5, .tmp 6]) rfl ?_); at_builtin; refine Kd.R_append_rows (Kd.int .u32) (w0 := w) w.heap.size rfl (.tmp 5) (.tmp 6) 23 63 (.int .u32 0) 4 rfl Tryd.underlying23 info63 rfl (by decide) (by omega) v1 [] l0 _ _ _ (fun _ => True) (fun _ => False) rfl rfl HO1.out (Kd.C_below HR.out HB1.out) (fun _ _ h => h) (fun _ h => h.elim) (fun _ _ => trivial) HB1.out HB1.out.size (by have := HL.out; simp; omega) ?_; intro v2 w2 ho2 hb2 hg2 hat2; have HO2 := Aside0.mk ho2; have HB2 := Aside0.mk hb2; clear ho2 hb2 hg2 hat2))
    go_ret
    exact ⟨_, rfl, HO2.out, HB2.out⟩

/-! ### bignat_byLimb: function 78 -/
def bignat_byLimb.l0 : Nat → List Int → Int → List Int → Int → Int → Option (List Int × Int)
  | 0, _, _, _, _, _ => none
  | k + 1, x0, x1, x6, x7, x8 => if x8 ≥ 0 then (if 0 ≤ x8 then (if x8 < (x0.length : Int) then (if (IntKind.u64.wrap (x1)) = 0 then (none) else (if x8 < (x6.length : Int) then (bignat_byLimb.l0 k x0 x1 (x6.set (x8 : Int).toNat ((IntKind.u64.wrap (Int.tdiv (Go.bits .or .u64 (IntKind.u64.wrap (x7 * 4294967296)) (IntKind.u64.wrap (rd x0 x8))) (IntKind.u64.wrap (x1)))) % 4294967296)) (Int.tmod (Go.bits .or .u64 (IntKind.u64.wrap (x7 * 4294967296)) (IntKind.u64.wrap (rd x0 x8))) (IntKind.u64.wrap (x1))) (wrap64 (x8 - 1))) else (none))) else (none)) else (none)) else ((bignat_trimmed.f k x6).bind fun t156 => (some (t156, (x7) % 4294967296)))
def bignat_byLimb.f (k : Nat) (l0 : List Int) (a1 : Int) : Option (List Int × Int) := if 0 ≤ (l0.length : Int) then (if ((l0.length : Int) : Int).toNat ≤ 70368744177664 then (bignat_byLimb.l0 k l0 a1 (List.replicate ((l0.length : Int) : Int).toNat 0) 0 (wrap64 ((l0.length : Int) - 1))) else (none)) else (none)
def bignat_byLimb.T7 : Bool × List (List Nat × List Nat) := (true, [([], []), ([], []), ([], []), ([], []), ([3], [3]), ([2, 4], [2, 4]), ([5], [5]), ([], []), ([], []), ([8], [8]), ([7, 9], [7, 9]), ([0, 1, 0, 1, 2, 3, 4, 5, 6], [0, 1]), ([11, 6, 0, 1, 2, 3, 4, 5, 6], [6, 11]), ([10, 12, 0, 1, 2, 3, 4, 5, 6, 7, 8, 9, 10, 11, 12], [2, 7, 10])])
def bignat_byLimb.B7 : List Nat := [0, 0, 0, 0, 8, 28, 60, 0, 0, 256, 896, 127, 2175, 8191]
theorem bignat_byLimb.tab7 : rtab .any (opsOf Tryd.f78 7) = bignat_byLimb.T7 := by kernel_rfl
theorem bignat_byLimb.bits7 : waitsOk bignat_byLimb.T7.2 bignat_byLimb.B7 = true := by kernel_rfl
set_option maxHeartbeats 8000000 in
set_option maxRecDepth 100000 in
theorem bignat_byLimb.calls (k : Nat) (A0 : Option Addr) (c0 : Nat) (l0 : List Int) (a1 : Int) (r1 : List Int) (r2 : Int) (w : World) (hr0 : Kd.C (Kd.int .u32) w A0 l0.length l0) (hc0 : l0.length ≤ c0) (h : bignat_byLimb.f k l0 a1 = some (r1, r2)) :
    Calls Tryd.prog 78 #[.slice A0 l0.length c0, .int .u32 a1] w fun e w' => ∃ v0_ : Value, e = .returned (.tuple #[v0_, .int .u32 r2]) ∧ Kd.R (Kd.int .u32) 63 w' w.heap.size (fun _ => True) v0_ r1 ∧ Below w.heap.size w w' := by
  have HR0 := Aside0.mk hr0
  have HC0 := Aside0.mk hc0
  clear hr0 hc0
  have HB := Aside0.mk (Below.refl w.heap.size w)
  have H : (if 0 ≤ (l0.length : Int) then (if ((l0.length : Int) : Int).toNat ≤ 70368744177664 then (bignat_byLimb.l0 k l0 a1 (List.replicate ((l0.length : Int) : Int).toNat 0) 0 (wrap64 ((l0.length : Int) - 1))) else (none)) else (none)) = some (r1, r2) := h
  clear h
  by_cases c3 : 0 ≤ (l0.length : Int)
  · rw [if_pos c3] at H
    have c3b0 := eq_true c3
    have c3b1 : decide (0 ≤ (l0.length : Int)) = true := decide_eq_true c3
    clear c3
    by_cases c4 : ((l0.length : Int) : Int).toNat ≤ 70368744177664
    · rw [if_pos c4] at H
      have c4b0 := eq_true c4
      have c4b1 : decide (((l0.length : Int) : Int).toNat ≤ 70368744177664) = true := decide_eq_true c4
      clear c4
      obtain ⟨y151, hy151⟩ : ∃ y_ : List Int, y_ = (List.replicate ((l0.length : Int) : Int).toNat 0) := ⟨_, rfl⟩
      replace H : (bignat_byLimb.l0 k l0 a1 y151 0 (wrap64 ((l0.length : Int) - 1))) = some (r1, r2) := by first | (rw [hy151]; with_reducible exact H) | (have H2_ := (Option.bind_some _ _).symm.trans H; rw [hy151]; with_reducible exact H2_) | (have H2_ := (Option.bind_some _ _).symm.trans H; with_reducible exact H2_) | with_reducible exact H | (rw [hy151]; exact H) | exact H
      have Ny151 := Aside0.mk hy151
      clear hy151
      have H' := Aside0.mk H
      clear H
      go_enter Tryd.func78, Tryd.ntmps78
      go_wp2_with (first | ((with_reducible refine gate_dst (N := 11) rfl ?_); refine Kd.R_make (Kd.int .u32) _ 63 rfl (N := 11) rfl 22 _ _ rfl (l0.length : Int) rfl rfl Tryd.underlying22 (.int .u32 0) 4 info63 rfl (by decide) (by omega) 0 (ok := fun _ => True) (okp := fun _ => True) rfl (fun _ hk => hk) trivial (of_decide_eq_true (by first | (with_reducible assumption) | assumption)) (Nat.le_trans (Nat.mul_le_mul_right _ (of_decide_eq_true (by first | (with_reducible assumption) | assumption) : (l0.length : Int).toNat ≤ 70368744177664)) (by omega)) (Below.refl _ _) (Nat.le_refl _) ?_; intro v152 w5 ho6 hb hg_ hnew_; clear hg_ hnew_; (first | rw [← Ny151.out] at ho6 | (simp only [Int.reduceToNat] at ho6; rw [← Ny151.out] at ho6)); have n0_ := Aside0.mk (Kd.R_lower ho6 (below_size (by repeat (first | (with_reducible first | exact HB.out | apply below_alloc | apply pw_below_drewN | apply below_drew1) | exact HB.out)))); have n1_ := Aside0.mk (below_step (by repeat (first | (with_reducible first | exact HB.out | apply below_alloc | apply pw_below_drewN | apply below_drew1) | exact HB.out)) hb); clear HB; have HO153 := n0_; have HB := n1_; clear n0_ n1_; clear hb ho6))
      go_loopg [7, 8] k (fun kq v7 v8 w' => ∃ (x6_1 : List Int) (x7_1 : Int) (x8_1 : Int), v7 = .int .u64 x7_1 ∧ v8 = .int .i64 x8_1 ∧ Aside0 (bignat_byLimb.l0 kq l0 a1 x6_1 x7_1 x8_1 = some (r1, r2)) ∧ Aside0 (kq ≤ k) ∧ Aside0 (Kd.R (Kd.int .u32) 63 w' w.heap.size (fun _ => True) v152 x6_1) ∧ Aside0 (Below w.heap.size w w'))
      case atStart => exact ⟨(y151), (0), (wrap64 ((l0.length : Int) - 1)), (by first | rfl | (simp; done) | (simp [*]; done)), (by first | rfl | (simp; done) | (simp [*]; done)), H', ⟨Nat.le_refl _⟩, ⟨by (with_reducible repeat (first | apply Kd.R_alloc | apply Kd.R_drewN | apply Kd.R_drew)); exact HO153.out⟩, ⟨by repeat (first | (with_reducible first | exact HB.out | apply below_alloc | apply pw_below_drewN | apply below_drew1) | exact HB.out)⟩⟩
      case round =>
        clear H'
        try clear p2
        try clear c3
        try clear c3b0
        try clear c3b1
        try clear c4
        try clear c4b0
        try clear c4b1
        try clear p6
        obtain ⟨x6_1, x7_1, x8_1, rfl, rfl, HA, HK1, HO_6, HB⟩ := hrel
        cases gk with
        | zero => exact absurd HA.out (by simp [bignat_byLimb.l0])
        | succ k1 =>
          have H := HA.out
          clear HA
          simp only [bignat_byLimb.l0] at H
          by_cases c7 : x8_1 ≥ 0
          · rw [if_pos c7] at H
            have c7b0 : decide (0 ≤ x8_1) = true := decide_eq_true c7
            clear c7
            by_cases c8 : 0 ≤ x8_1
            · rw [if_pos c8] at H
              have c8b0 : decide (0 ≤ x8_1) = true := decide_eq_true c8
              clear c8
              by_cases c9 : x8_1 < (l0.length : Int)
              · rw [if_pos c9] at H
                have c9b0 : decide (x8_1 < (l0.length : Int)) = true := decide_eq_true c9
                clear c9
                by_cases c10 : (IntKind.u64.wrap (a1)) = 0
                · rw [if_pos c10] at H
                  exact absurd H (by simp)
                · rw [if_neg c10] at H
                  have c10b0 : ((IntKind.u64.wrap (a1)) == 0) = false := beq_eq_false_iff_ne.mpr c10
                  have c10b1 : ((IntKind.u64.wrap (a1)) != 0) = true := bne_iff_ne.mpr c10
                  by_cases c11 : x8_1 < (x6_1.length : Int)
                  · rw [if_pos c11] at H
                    have c11b0 : decide (x8_1 < (x6_1.length : Int)) = true := decide_eq_true c11
                    clear c11
                    obtain ⟨y155, hy155⟩ : ∃ y_ : List Int, y_ = (x6_1.set (x8_1 : Int).toNat ((IntKind.u64.wrap (Int.tdiv (Go.bits .or .u64 (IntKind.u64.wrap (x7_1 * 4294967296)) (IntKind.u64.wrap (rd l0 x8_1))) (IntKind.u64.wrap (a1)))) % 4294967296)) := ⟨_, rfl⟩
                    replace H : (bignat_byLimb.l0 k1 l0 a1 y155 (Int.tmod (Go.bits .or .u64 (IntKind.u64.wrap (x7_1 * 4294967296)) (IntKind.u64.wrap (rd l0 x8_1))) (IntKind.u64.wrap (a1))) (wrap64 (x8_1 - 1))) = some (r1, r2) := by first | (rw [hy155]; with_reducible exact H) | (have H2_ := (Option.bind_some _ _).symm.trans H; rw [hy155]; with_reducible exact H2_) | (have H2_ := (Option.bind_some _ _).symm.trans H; with_reducible exact H2_) | with_reducible exact H | (rw [hy155]; exact H) | exact H
                    have Ny155 := Aside0.mk hy155
                    clear hy155
                    have H' := Aside0.mk H
                    clear H
                    have p154 : 0 ≤ (x8_1 : Int) := of_decide_eq_true (by first | (with_reducible assumption) | assumption)
                    have q154 : x8_1 < (l0.length : Int) := of_decide_eq_true (by first | (with_reducible assumption) | assumption)
                    obtain ⟨ad154, e154, hx154_0⟩ := Kd.at_int HR0.out x8_1 p154 q154
                    cases e154
                    replace hx154_0 := (HB.out.cell (World.block_lt_of_cell? w _ hx154_0)).trans hx154_0
                    replace p154 := eq_true p154
                    replace q154 := eq_true q154
                    try go_wp2
                    have n0_ := Aside0.mk (Kd.R_drew HO_6.out)
                    have n1_ := Aside0.mk (below_drew1 HB.out)
                    clear HO_6
                    clear HB
                    have HO_6 := n0_
                    have HB := n1_
                    clear n0_ n1_
                    have p12 : 0 ≤ (x8_1 : Int) := of_decide_eq_true (by first | (with_reducible assumption) | assumption)
                    have q12 : (x8_1 : Int) < ((x6_1.length : Int) : Int) := of_decide_eq_true (by first | (with_reducible assumption) | assumption)
                    obtain ⟨go12, co12, eo12, gb12, gl12, cl12, HG12⟩ := Kd.R_form HO_6.out (by omega)
                    (first | cases eo12 | (injection eo12 with ea_ en_ ec_; (first | subst ea_ | (injection ea_ with ea_; subst ea_)); subst ec_; clear en_))
                    have GB12 := Aside0.mk gb12
                    have GG12 := Aside0.mk HG12
                    clear gb12 gl12 HG12
                    obtain ⟨hx12_0, hf12_0⟩ := Kd.R_celln 0 HO_6.out (x8_1 : Int) p12 q12
                    replace p12 := eq_true p12
                    replace q12 := eq_true q12
                    have HP14 := Kd.R_putn HO_6.out (x8_1 : Int) ((IntKind.u64.wrap (Int.tdiv (Go.bits .or .u64 (IntKind.u64.wrap (x7_1 * 4294967296)) (IntKind.u64.wrap (rd l0 x8_1))) (IntKind.u64.wrap (a1)))) % 4294967296)
                    rw [← Ny155.out] at HP14
                    have HQ14 := Aside0.mk HP14
                    clear HP14
                    refine start_ (n := 14) (S := fun w' => True) (ds := [12]) #[false, false, false, false, false, false, false, false, false, false, false, false, false, false] (by kernel_rfl) rfl rfl trivial (fun hHeld => ?_); refine with_tabW bignat_byLimb.tab7 bignat_byLimb.bits7 (fun HT_ HW_ => ?_)
                    generalize wr.drew = w13 at HO_6 HB GG12 HQ14 hf12_0 hx12_0 hHeld ⊢
                    refine pure_ (i := 0) (N := some 27) (v := ?_) (a' := ?_) #[true, false, false, false, false, false, false, false, false, false, false, false, false, false] rfl rfl (any_of HT_.out (by kernel_rfl)) (fun _ _ _ h => h) (Or.inl ⟨by rfl, ?_⟩) ?_ ?_
                    rotate_left
                    · intro w'
                      go_simp
                      with_reducible rfl
                    rotate_left
                    · simp only [Act.put, List.setIfInBounds_toArray, List.set_cons_zero, List.set_cons_succ, i64_w, i32_w]
                      rfl
                    refine pure_ (i := 1) (N := some 28) (v := ?_) (a' := ?_) #[true, true, false, false, false, false, false, false, false, false, false, false, false, false] rfl rfl (any_of HT_.out (by kernel_rfl)) (fun _ _ _ h => h) (Or.inl ⟨by rfl, ?_⟩) ?_ ?_
                    rotate_left
                    · intro w'
                      go_simp
                      with_reducible rfl
                    rotate_left
                    · simp only [Act.put, List.setIfInBounds_toArray, List.set_cons_zero, List.set_cons_succ, i64_w, i32_w]
                      rfl
                    refine pure_ (i := 2) (N := some 29) (v := ?_) (a' := ?_) #[true, true, true, false, false, false, false, false, false, false, false, false, false, false] rfl rfl (any_of HT_.out (by kernel_rfl)) (fun _ _ _ h => h) (Or.inl ⟨by rfl, ?_⟩) ?_ ?_
                    rotate_left
                    · intro w'
                      go_simp
                      with_reducible rfl
                    rotate_left
                    · simp only [Act.put, List.setIfInBounds_toArray, List.set_cons_zero, List.set_cons_succ, i64_w, i32_w]
                      rfl
                    refine pure_ (i := 3) (N := some 30) (v := ?_) (a' := ?_) #[true, true, true, true, false, false, false, false, false, false, false, false, false, false] rfl rfl (any_of HT_.out (by kernel_rfl)) (fun _ _ _ h => h) (Or.inl ⟨by rfl, ?_⟩) ?_ ?_
                    rotate_left
                    · intro w'
                      go_simp
                      with_reducible rfl
                    rotate_left
                    · simp only [Act.put, List.setIfInBounds_toArray, List.set_cons_zero, List.set_cons_succ, i64_w, i32_w]
                      rfl
                    refine pure_ (i := 4) (N := some 31) (v := ?_) (a' := ?_) #[true, true, true, true, true, false, false, false, false, false, false, false, false, false] rfl rfl (any_of HT_.out (by kernel_rfl)) (fun _ _ _ h => h) (Or.inl ⟨by rfl, ?_⟩) ?_ ?_
                    rotate_left
                    · intro w'
                      go_simp
                      with_reducible rfl
                    rotate_left
                    · simp only [Act.put, List.setIfInBounds_toArray, List.set_cons_zero, List.set_cons_succ, i64_w, i32_w]
                      rfl
                    refine pure_ (i := 5) (N := some 32) (v := ?_) (a' := ?_) #[true, true, true, true, true, true, false, false, false, false, false, false, false, false] rfl rfl (any_of HT_.out (by kernel_rfl)) (fun _ _ _ h => h) (Or.inl ⟨by rfl, ?_⟩) ?_ ?_
                    rotate_left
                    · intro w'
                      go_simp
                      with_reducible rfl
                    rotate_left
                    · simp only [Act.put, List.setIfInBounds_toArray, List.set_cons_zero, List.set_cons_succ, i64_w, i32_w]
                      rfl
                    refine pure_ (i := 6) (N := some 33) (v := ?_) (a' := ?_) #[true, true, true, true, true, true, true, false, false, false, false, false, false, false] rfl rfl (any_of HT_.out (by kernel_rfl)) (fun _ _ _ h => h) (Or.inl ⟨by rfl, ?_⟩) ?_ ?_
                    rotate_left
                    · intro w'
                      go_simp
                      with_reducible rfl
                    rotate_left
                    · simp only [Act.put, List.setIfInBounds_toArray, List.set_cons_zero, List.set_cons_succ, i64_w, i32_w]
                      rfl
                    refine pure_ (i := 7) (N := some 34) (v := ?_) (a' := ?_) #[true, true, true, true, true, true, true, true, false, false, false, false, false, false] rfl rfl (any_of HT_.out (by kernel_rfl)) (fun _ _ _ h => h) (Or.inl ⟨by rfl, ?_⟩) ?_ ?_
                    rotate_left
                    · intro w'
                      go_simp
                      with_reducible rfl
                    rotate_left
                    · simp only [Act.put, List.setIfInBounds_toArray, List.set_cons_zero, List.set_cons_succ, i64_w, i32_w]
                      rfl
                    refine pure_ (i := 8) (N := some 35) (v := ?_) (a' := ?_) #[true, true, true, true, true, true, true, true, true, false, false, false, false, false] rfl rfl (any_of HT_.out (by kernel_rfl)) (fun _ _ _ h => h) (Or.inl ⟨by rfl, ?_⟩) ?_ ?_
                    rotate_left
                    · intro w'
                      go_simp
                      with_reducible rfl
                    rotate_left
                    · simp only [Act.put, List.setIfInBounds_toArray, List.set_cons_zero, List.set_cons_succ, i64_w, i32_w]
                      rfl
                    refine pure_ (i := 9) (N := some 36) (v := ?_) (a' := ?_) #[true, true, true, true, true, true, true, true, true, true, false, false, false, false] rfl rfl (any_of HT_.out (by kernel_rfl)) (fun _ _ _ h => h) (Or.inl ⟨by rfl, ?_⟩) ?_ ?_
                    rotate_left
                    · intro w'
                      go_simp
                      with_reducible rfl
                    rotate_left
                    · simp only [Act.put, List.setIfInBounds_toArray, List.set_cons_zero, List.set_cons_succ, i64_w, i32_w]
                      rfl
                    refine pure_ (i := 10) (N := some 37) (v := ?_) (a' := ?_) #[true, true, true, true, true, true, true, true, true, true, true, false, false, false] rfl rfl (any_of HT_.out (by kernel_rfl)) (fun _ _ _ h => h) (Or.inl ⟨by rfl, ?_⟩) ?_ ?_
                    rotate_left
                    · intro w'
                      go_simp
                      with_reducible rfl
                    rotate_left
                    · simp only [Act.put, List.setIfInBounds_toArray, List.set_cons_zero, List.set_cons_succ, i64_w, i32_w]
                      rfl
                    refine pure_ (i := 11) (N := some 38) (v := ?_) (a' := ?_) #[true, true, true, true, true, true, true, true, true, true, true, true, false, false] rfl rfl (any_of HT_.out (by kernel_rfl)) (fun _ _ _ h => h) (Or.inl ⟨by rfl, ?_⟩) ?_ ?_
                    rotate_left
                    · intro w'
                      go_simp
                      with_reducible rfl
                    rotate_left
                    · simp only [Act.put, List.setIfInBounds_toArray, List.set_cons_zero, List.set_cons_succ, i64_w, i32_w]
                      rfl
                    refine last_ (i := 12) (N := none) #[true, true, true, true, true, true, true, true, true, true, true, true, true, false] rfl rfl (one_of HT_.out (by kernel_rfl)) (by decide) (fun K hK => ?_)
                    refine skip_ (w1 := ?_) (by rfl) rfl ?_ ?_
                    rotate_left
                    · go_simp
                      rfl
                    refine hK.out _ _ ?_
                    clear hK K
                    refine pure_ (i := 13) (N := some 7) (v := ?_) (a' := ?_) #[true, true, true, true, true, true, true, true, true, true, true, true, true, true] rfl rfl (any_of HT_.out (by kernel_rfl)) (fun _ _ _ h => h) (Or.inl ⟨by rfl, ?_⟩) ?_ ?_
                    rotate_left
                    · intro w'
                      go_simp
                      with_reducible rfl
                    rotate_left
                    · simp only [Act.put, List.setIfInBounds_toArray, List.set_cons_zero, List.set_cons_succ, i64_w, i32_w]
                      rfl
                    refine done_ (done_of HT_.out (by kernel_rfl)) ?_
                    try go_wp2
                    go_roundg k1
                    case measure => have := HK1.out; omega
                    case rel => exact ⟨(y155), (Int.tmod (Go.bits .or .u64 (IntKind.u64.wrap (x7_1 * 4294967296)) (IntKind.u64.wrap (rd l0 x8_1))) (IntKind.u64.wrap (a1))), (wrap64 (x8_1 - 1)), (by first | rfl | (simp; done) | (simp [*]; done)), (by first | rfl | (simp; done) | (simp [*]; done)), H', ⟨by have := HK1.out; omega⟩, ⟨by (with_reducible repeat (first | apply Kd.R_alloc | apply Kd.R_drewN | apply Kd.R_drew)); exact HQ14.out⟩, ⟨by repeat (first | (with_reducible first | exact HB.out | apply below_alloc | apply pw_below_drewN | apply below_drew1 | refine below_set ?_ GB12.out) | exact HB.out)⟩⟩
                  · rw [if_neg c11] at H
                    exact absurd H (by simp)
              · rw [if_neg c9] at H
                exact absurd H (by simp)
            · rw [if_neg c8] at H
              exact absurd H (by simp)
          · rw [if_neg c7] at H
            have c7b0 : decide (0 ≤ x8_1) = false := decide_eq_false c7
            clear c7
            replace H := Option.bind_eq_some_iff.mp H
            obtain ⟨t156, A150, H⟩ := H
            replace H : (some (t156, (x7_1) % 4294967296)) = some (r1, r2) := H
            have A15 := Aside0.mk A150
            clear A150
            simp only [Option.some.injEq, Prod.mk.injEq] at H
            obtain ⟨rfl, rfl⟩ := H
            obtain ⟨Ao16, co16, eo16⟩ := Kd.R_slice HO_6.out
            subst eo16
            go_wp2_with (first | ((with_reducible refine gate_callee (f := 76) rfl ?_); refine goesL_ (some 40) rfl rfl Tryd.func76 (by kernel_rfl) rfl #[.slice Ao16 x6_1.length co16] rfl (by (try simp only [List.map_toArray, List.map_cons, List.map_nil]); first | done | rfl | (simp only [List.length_drop, List.length_take]; rfl)) ?_; (with_reducible refine (bignat_trimmed.calls k1 (fun k_ => some k_ = (.slice Ao16 x6_1.length co16 : Value).ownBlock) (.slice Ao16 x6_1.length co16) x6_1 t156 w _ ?side1 ?side2 A15.out).mono ?_); (case side1 => repeat (first | (with_reducible first | exact HB.out | apply below_alloc | apply pw_below_drewN | apply below_drew1) | exact HB.out)); (case side2 => exact Kd.R_tight rfl HO_6.out); rintro e w17 ⟨v157, rfl, ho0, hb, hkp⟩; refine ⟨_, rfl, ?_⟩; have n0_ := Aside0.mk (Kd.R_mono (ok' := fun k_ => True) ho0 (fun k_ hk_ => trivial)); have n1_ := Aside0.mk (hb); clear HB; clear HO_6; have HO158 := n0_; have HB := n1_; clear n0_ n1_; (try clear hb); (try clear hkp); (try clear ho0)))
            go_ret2
            exact ⟨_, by first | rfl | (simp [errW_none, errW_some] <;> rfl) | (simp [*, errW_none, errW_some] <;> rfl), by (with_reducible repeat (first | apply Kd.R_alloc | apply Kd.R_drewN | apply Kd.R_drew)); exact HO158.out, by repeat (first | (with_reducible first | exact HB.out | apply below_alloc | apply pw_below_drewN | apply below_drew1) | exact HB.out)⟩
    · rw [if_neg c4] at H
      exact absurd H (by simp)
  · rw [if_neg c3] at H
    exact absurd H (by simp)

/-! ### bits_Len32: function 110 -/
/-- The number of bits. -/
def bits_Len32.f (a0 : Int) : Option (Int) := if 0 ≤ a0 ∧ a0 ≤ 4294967295 then some (Lib.bitLen a0.toNat : Int) else none
theorem bits_Len32.calls (a0 : Int) (r : Int) (w : World) (h : bits_Len32.f a0 = some r) :
    Calls Tryd.prog 110 #[.int .u32 a0] w fun e w' => e = .returned (.int .i64 r) ∧ Drawn0 w w' := by
  unfold bits_Len32.f at h
  split at h
  · rename_i hc
    injection h with h
    subst h
    exact (Tryd.bits_Len32 a0 w hc.1 hc.2).mono fun e w' ⟨h1, h2⟩ => ⟨h1, by rw [h2]; exact Drawn0.refl _⟩
  · cases h

/-! ### bits_LeadingZeros32: function 79 -/
def bits_LeadingZeros32.f (a0 : Int) : Option (Int) := (bits_Len32.f a0).bind fun t159 => (some (wrap64 (32 - t159)))
set_option maxHeartbeats 8000000 in
set_option maxRecDepth 100000 in
theorem bits_LeadingZeros32.calls (a0 : Int) (r : Int) (w : World) (h : bits_LeadingZeros32.f a0 = some r) :
    Calls Tryd.prog 79 #[.int .u32 a0] w fun e w' => e = .returned (.int .i64 r) ∧ Drawn0 w w' := by
  have H : ((bits_Len32.f a0).bind fun t159 => (some (wrap64 (32 - t159)))) = some r := h
  clear h
  replace H := Option.bind_eq_some_iff.mp H
  obtain ⟨t159, A20, H⟩ := H
  replace H : (some (wrap64 (32 - t159))) = some r := H
  have A2 := Aside0.mk A20
  clear A20
  obtain rfl := Option.some.inj H
  go_enter Tryd.func79, Tryd.ntmps79
  go_wp2_with (first | ((with_reducible refine gate_callee (f := 110) rfl ?_); refine goesL_ (some 4) rfl rfl Tryd.func110 (by kernel_rfl) rfl #[.int .u32 a0] rfl (by (try simp only [List.map_toArray, List.map_cons, List.map_nil]); first | done | rfl | (simp only [List.length_drop, List.length_take]; rfl)) ?_; (with_reducible refine (bits_Len32.calls a0 t159 _ A2.out).mono ?_); rintro e w' ⟨rfl, ⟨nd, rfl⟩⟩; refine ⟨_, rfl, ?_⟩))
  go_ret
  exact ⟨by first | rfl | (simp; done) | (simp [*]; done), by repeat (first | exact Drawn0.refl _ | apply Drawn0.step)⟩

/-! ### bignat_left: function 80 -/
def bignat_left.l0 : Nat → List Int → Int → List Int → Int → Int → Option (List Int)
  | 0, _, _, _, _, _ => none
  | k + 1, x0, x1, x5, x13, x14 => if x14 < x13 then (if 0 ≤ x14 then (if x14 < (x0.length : Int) then (if 0 ≤ x1 then (if x14 < (x5.length : Int) then (if 0 ≤ (wrap64 (x14 + 1)) then (if (wrap64 (x14 + 1)) < (x5.length : Int) then (bignat_left.l0 k x0 x1 ((x5.set (x14 : Int).toNat (Go.bits .or .u32 (rd x5 x14) ((shl .u64 (IntKind.u64.wrap (rd x0 x14)) x1) % 4294967296))).set ((wrap64 (x14 + 1)) : Int).toNat (((shl .u64 (IntKind.u64.wrap (rd x0 x14)) x1) / 4294967296) % 4294967296)) x13 (wrap64 (x14 + 1))) else (none)) else (none)) else (none)) else (none)) else (none)) else (none)) else (some x5)
def bignat_left.f (k : Nat) (l0 : List Int) (a1 : Int) : Option (List Int) := if 0 ≤ (wrap64 ((l0.length : Int) + 1)) then (if (wrap64 ((l0.length : Int) + 1) : Int).toNat ≤ 70368744177664 then (bignat_left.l0 k l0 a1 (List.replicate (wrap64 ((l0.length : Int) + 1) : Int).toNat 0) (l0.length : Int) 0) else (none)) else (none)
set_option maxHeartbeats 8000000 in
set_option maxRecDepth 100000 in
theorem bignat_left.calls (k : Nat) (A0 : Option Addr) (c0 : Nat) (l0 : List Int) (a1 : Int) (r : List Int) (w : World) (hr0 : Kd.C (Kd.int .u32) w A0 l0.length l0) (hc0 : l0.length ≤ c0) (h : bignat_left.f k l0 a1 = some r) :
    Calls Tryd.prog 80 #[.slice A0 l0.length c0, .int .i64 a1] w fun e w' => ∃ v0_ : Value, e = .returned (v0_) ∧ Kd.R (Kd.int .u32) 63 w' w.heap.size (fun _ => True) v0_ r ∧ Below w.heap.size w w' := by
  have HR0 := Aside0.mk hr0
  have HC0 := Aside0.mk hc0
  clear hr0 hc0
  have HB := Aside0.mk (Below.refl w.heap.size w)
  have H : (if 0 ≤ (wrap64 ((l0.length : Int) + 1)) then (if (wrap64 ((l0.length : Int) + 1) : Int).toNat ≤ 70368744177664 then (bignat_left.l0 k l0 a1 (List.replicate (wrap64 ((l0.length : Int) + 1) : Int).toNat 0) (l0.length : Int) 0) else (none)) else (none)) = some r := h
  clear h
  obtain ⟨ji3, hji3⟩ : ∃ j_ : Int, (wrap64 ((l0.length : Int) + 1)) = j_ := ⟨_, rfl⟩
  replace H : (if 0 ≤ (ji3) then (if (ji3 : Int).toNat ≤ 70368744177664 then (bignat_left.l0 k l0 a1 (List.replicate (ji3 : Int).toNat 0) (l0.length : Int) 0) else (none)) else (none)) = some r := by first | (rw [hji3] at H; exact H) | (simp only [hji3] at H ⊢; exact H)
  have hji3w : (IntKind.i64.wrap ((l0.length : Int) + 1)) = ji3 := (i64_w _).trans hji3
  by_cases c4 : 0 ≤ (ji3)
  · rw [if_pos c4] at H
    have c4b0 := eq_true c4
    have c4b1 : decide (0 ≤ (ji3)) = true := decide_eq_true c4
    clear c4
    by_cases c5 : (ji3 : Int).toNat ≤ 70368744177664
    · rw [if_pos c5] at H
      have c5b0 := eq_true c5
      have c5b1 : decide ((ji3 : Int).toNat ≤ 70368744177664) = true := decide_eq_true c5
      clear c5
      obtain ⟨y160, hy160⟩ : ∃ y_ : List Int, y_ = (List.replicate (ji3 : Int).toNat 0) := ⟨_, rfl⟩
      replace H : (bignat_left.l0 k l0 a1 y160 (l0.length : Int) 0) = some r := by first | (rw [hy160]; with_reducible exact H) | (have H2_ := (Option.bind_some _ _).symm.trans H; rw [hy160]; with_reducible exact H2_) | (have H2_ := (Option.bind_some _ _).symm.trans H; with_reducible exact H2_) | with_reducible exact H | (rw [hy160]; exact H) | exact H
      have Ny160 := Aside0.mk hy160
      clear hy160
      have H' := Aside0.mk H
      clear H
      go_enter Tryd.func80, Tryd.ntmps80
      go_wp2_with (first | ((with_reducible refine gate_dst (N := 11) rfl ?_); refine Kd.R_make (Kd.int .u32) _ 63 rfl (N := 11) rfl 22 _ _ rfl ji3 rfl rfl Tryd.underlying22 (.int .u32 0) 4 info63 rfl (by decide) (by omega) 0 (ok := fun _ => True) (okp := fun _ => True) rfl (fun _ hk => hk) trivial (of_decide_eq_true (by first | (with_reducible assumption) | assumption)) (Nat.le_trans (Nat.mul_le_mul_right _ (of_decide_eq_true (by first | (with_reducible assumption) | assumption) : ji3.toNat ≤ 70368744177664)) (by omega)) (Below.refl _ _) (Nat.le_refl _) ?_; intro v161 w6 ho7 hb hg_ hnew_; clear hg_ hnew_; (first | rw [← Ny160.out] at ho7 | (simp only [Int.reduceToNat] at ho7; rw [← Ny160.out] at ho7)); have n0_ := Aside0.mk (Kd.R_lower ho7 (below_size (by repeat (first | (with_reducible first | exact HB.out | apply below_alloc | apply pw_below_drewN | apply below_drew1) | exact HB.out)))); have n1_ := Aside0.mk (below_step (by repeat (first | (with_reducible first | exact HB.out | apply below_alloc | apply pw_below_drewN | apply below_drew1) | exact HB.out)) hb); clear HB; have HO162 := n0_; have HB := n1_; clear n0_ n1_; clear hb ho7))
      go_loopg [14] k (fun kq v14 w' => ∃ (x5_1 : List Int) (x14_1 : Int), v14 = .int .i64 x14_1 ∧ Aside0 (bignat_left.l0 kq l0 a1 x5_1 (l0.length : Int) x14_1 = some r) ∧ Aside0 (kq ≤ k) ∧ Aside0 (Kd.R (Kd.int .u32) 63 w' w.heap.size (fun _ => True) v161 x5_1) ∧ Aside0 (Below w.heap.size w w'))
      case atStart => exact ⟨(y160), (0), (by first | rfl | (simp; done) | (simp [*]; done)), H', ⟨Nat.le_refl _⟩, ⟨by (with_reducible repeat (first | apply Kd.R_alloc | apply Kd.R_drewN | apply Kd.R_drew)); exact HO162.out⟩, ⟨by repeat (first | (with_reducible first | exact HB.out | apply below_alloc | apply pw_below_drewN | apply below_drew1) | exact HB.out)⟩⟩
      case round =>
        clear H'
        try clear p2
        try clear c4
        try clear c4b0
        try clear c4b1
        try clear c5
        try clear c5b0
        try clear c5b1
        try clear p6
        obtain ⟨x5_1, x14_1, rfl, HA, HK1, HO_5, HB⟩ := hrel
        cases gk with
        | zero => exact absurd HA.out (by simp [bignat_left.l0])
        | succ k1 =>
          have H := HA.out
          clear HA
          simp only [bignat_left.l0] at H
          by_cases c8 : x14_1 < (l0.length : Int)
          · rw [if_pos c8] at H
            have c8b0 : decide (x14_1 < (l0.length : Int)) = true := decide_eq_true c8
            clear c8
            by_cases c9 : 0 ≤ x14_1
            · rw [if_pos c9] at H
              have c9b0 : decide (0 ≤ x14_1) = true := decide_eq_true c9
              clear c9
              by_cases c10 : x14_1 < (l0.length : Int)
              · rw [if_pos c10] at H
                have c10b0 : decide (x14_1 < (l0.length : Int)) = true := decide_eq_true c10
                clear c10
                by_cases c11 : 0 ≤ a1
                · rw [if_pos c11] at H
                  have c11b0 := eq_true c11
                  have c11b1 : decide (0 ≤ a1) = true := decide_eq_true c11
                  clear c11
                  obtain ⟨ji12, hji12⟩ : ∃ j_ : Int, (shl .u64 (IntKind.u64.wrap (rd l0 x14_1)) a1) = j_ := ⟨_, rfl⟩
                  replace H : (if x14_1 < (x5_1.length : Int) then (if 0 ≤ (wrap64 (x14_1 + 1)) then (if (wrap64 (x14_1 + 1)) < (x5_1.length : Int) then (bignat_left.l0 k1 l0 a1 ((x5_1.set (x14_1 : Int).toNat (Go.bits .or .u32 (rd x5_1 x14_1) ((ji12) % 4294967296))).set ((wrap64 (x14_1 + 1)) : Int).toNat (((ji12) / 4294967296) % 4294967296)) (l0.length : Int) (wrap64 (x14_1 + 1))) else (none)) else (none)) else (none)) = some r := by first | (rw [hji12] at H; exact H) | (simp only [hji12] at H ⊢; exact H)
                  have hji12_ : (IntKind.u64.wrap ((IntKind.u64.wrap (rd l0 x14_1)) * 2 ^ min a1.toNat 64)) = ji12 := hji12
                  have hji12z : a1 ≤ 64 → (IntKind.u64.wrap ((IntKind.u64.wrap (rd l0 x14_1)) * 2 ^ a1.toNat)) = ji12 := shl_small hji12
                  by_cases c13 : x14_1 < (x5_1.length : Int)
                  · rw [if_pos c13] at H
                    have c13b0 : decide (x14_1 < (x5_1.length : Int)) = true := decide_eq_true c13
                    clear c13
                    obtain ⟨y165, hy165⟩ : ∃ y_ : List Int, y_ = (x5_1.set (x14_1 : Int).toNat (Go.bits .or .u32 (rd x5_1 x14_1) ((ji12) % 4294967296))) := ⟨_, rfl⟩
                    replace H : (if 0 ≤ (wrap64 (x14_1 + 1)) then (if (wrap64 (x14_1 + 1)) < (x5_1.length : Int) then (bignat_left.l0 k1 l0 a1 (y165.set ((wrap64 (x14_1 + 1)) : Int).toNat (((ji12) / 4294967296) % 4294967296)) (l0.length : Int) (wrap64 (x14_1 + 1))) else (none)) else (none)) = some r := by first | (rw [hy165]; with_reducible exact H) | (have H2_ := (Option.bind_some _ _).symm.trans H; rw [hy165]; with_reducible exact H2_) | (have H2_ := (Option.bind_some _ _).symm.trans H; with_reducible exact H2_) | with_reducible exact H | (rw [hy165]; exact H) | exact H
                    have Ny165 := Aside0.mk hy165
                    clear hy165
                    obtain ⟨ji15, hji15⟩ : ∃ j_ : Int, (wrap64 (x14_1 + 1)) = j_ := ⟨_, rfl⟩
                    replace H : (if 0 ≤ (ji15) then (if (ji15) < (x5_1.length : Int) then (bignat_left.l0 k1 l0 a1 (y165.set ((ji15) : Int).toNat (((ji12) / 4294967296) % 4294967296)) (l0.length : Int) ji15) else (none)) else (none)) = some r := by first | (rw [hji15] at H; exact H) | (simp only [hji15] at H ⊢; exact H)
                    have hji15w : (IntKind.i64.wrap (x14_1 + 1)) = ji15 := (i64_w _).trans hji15
                    by_cases c16 : 0 ≤ (ji15)
                    · rw [if_pos c16] at H
                      have c16b0 : decide (0 ≤ (ji15)) = true := decide_eq_true c16
                      clear c16
                      by_cases c17 : (ji15) < (x5_1.length : Int)
                      · rw [if_pos c17] at H
                        have c17b0 : decide ((ji15) < (x5_1.length : Int)) = true := decide_eq_true c17
                        clear c17
                        obtain ⟨y166, hy166⟩ : ∃ y_ : List Int, y_ = (y165.set ((ji15) : Int).toNat (((ji12) / 4294967296) % 4294967296)) := ⟨_, rfl⟩
                        replace H : (bignat_left.l0 k1 l0 a1 y166 (l0.length : Int) ji15) = some r := by first | (rw [hy166]; with_reducible exact H) | (have H2_ := (Option.bind_some _ _).symm.trans H; rw [hy166]; with_reducible exact H2_) | (have H2_ := (Option.bind_some _ _).symm.trans H; with_reducible exact H2_) | with_reducible exact H | (rw [hy166]; exact H) | exact H
                        have Ny166 := Aside0.mk hy166
                        clear hy166
                        have H' := Aside0.mk H
                        clear H
                        have p163 : 0 ≤ (x14_1 : Int) := of_decide_eq_true (by first | (with_reducible assumption) | assumption)
                        have q163 : x14_1 < (l0.length : Int) := of_decide_eq_true (by first | (with_reducible assumption) | assumption)
                        obtain ⟨ad163, e163, hx163_0⟩ := Kd.at_int HR0.out x14_1 p163 q163
                        cases e163
                        replace hx163_0 := (HB.out.cell (World.block_lt_of_cell? w _ hx163_0)).trans hx163_0
                        replace p163 := eq_true p163
                        replace q163 := eq_true q163
                        obtain ⟨Ao19, co19, eo19⟩ := Kd.R_slice HO_5.out
                        subst eo19
                        have p164 : 0 ≤ (x14_1 : Int) := of_decide_eq_true (by first | (with_reducible assumption) | assumption)
                        have q164 : x14_1 < (x5_1.length : Int) := of_decide_eq_true (by first | (with_reducible assumption) | assumption)
                        obtain ⟨ad164, e164, hx164_0⟩ := Kd.at_int (Kd.R_reads' HO_5.out).2.2 x14_1 p164 q164
                        cases e164
                        replace p164 := eq_true p164
                        replace q164 := eq_true q164
                        have p14 : 0 ≤ (x14_1 : Int) := of_decide_eq_true (by first | (with_reducible assumption) | assumption)
                        have q14 : (x14_1 : Int) < ((x5_1.length : Int) : Int) := of_decide_eq_true (by first | (with_reducible assumption) | assumption)
                        obtain ⟨go14, co14, eo14, gb14, gl14, cl14, HG14⟩ := Kd.R_form HO_5.out (by omega)
                        (first | cases eo14 | (injection eo14 with ea_ en_ ec_; (first | subst ea_ | (injection ea_ with ea_; subst ea_)); subst ec_; clear en_))
                        have GB14 := Aside0.mk gb14
                        have GG14 := Aside0.mk HG14
                        clear gb14 gl14 HG14
                        (first | simp only [add_plain] at hx164_0 | skip)
                        obtain ⟨hx14_0, hf14_0⟩ := Kd.R_celln 0 HO_5.out (x14_1 : Int) p14 q14
                        replace p14 := eq_true p14
                        replace q14 := eq_true q14
                        have HP20 := Kd.R_putg HO_5.out (x14_1 : Int) (Go.bits .or .u32 (rd x5_1 x14_1) ((ji12) % 4294967296))
                        go_wp2_with (first | ((with_reducible refine gate_store (t := 63) (p := 31) rfl ?_); refine store_event (t := 63) (p := 31) (v := ?vo_w21) (w1 := (wr.setCell ⟨go14, (x14_1 : Int).toNat, none⟩ (.int .u32 (Go.bits .or .u32 (rd x5_1 x14_1) ((ji12) % 4294967296))))) ?hg ?ho ?hn ?hr ?_; (case ho => rfl); (case hg => rfl); (case hn => rfl); (case hr => first | (go_simp; done) | (go_simp; rfl)); intro w21 hw; have hg : wr.grownBy w21 (some go14) := (by rw [hw]; exact HP20.2); have hp_ : Kd.R (Kd.int .u32) 63 w21 w.heap.size (fun _ => True) (.slice (some ⟨go14, 0, none⟩) x5_1.length co19) y165 := (by rw [hw, Ny165.out]; exact HP20.1); clear HP20; have n0_ := Aside0.mk (hp_); have n1_ := Aside0.mk ((by rw [hw]; exact below_set (HB.out) GB14.out : Below w.heap.size w w21)); clear HO_5; clear HB; have HO_5 := n0_; have HB := n1_; clear n0_ n1_; clear hg hw hp_; have p18 : 0 ≤ ((ji15) : Int) := of_decide_eq_true (by first | (with_reducible assumption) | assumption); have q18 : ((ji15) : Int) < ((x5_1.length : Int) : Int) := of_decide_eq_true (by first | (with_reducible assumption) | assumption); obtain ⟨hx18_0, hf18_0⟩ := Kd.R_celln 0 HO_5.out ((ji15) : Int) p18 q18; replace p18 := eq_true p18; replace q18 := eq_true q18; obtain ⟨hy22_, hz22_⟩ := Kd.R_celln 0 HO_5.out ((ji15) : Int) (of_decide_eq_true (by first | (with_reducible assumption) | assumption)) (of_decide_eq_true (by first | (with_reducible assumption) | assumption)); have HP22 := Kd.R_putg HO_5.out ((ji15) : Int) (((ji12) / 4294967296) % 4294967296)) | ((with_reducible refine gate_store (t := 63) (p := 38) rfl ?_); refine store_event (t := 63) (p := 38) (v := ?vo_w23) (w1 := (w21.setCell ⟨go14, ((ji15) : Int).toNat, none⟩ (.int .u32 (((ji12) / 4294967296) % 4294967296)))) ?hg ?ho ?hn ?hr ?_; (case ho => rfl); (case hg => rfl); (case hn => rfl); (case hr => first | (go_simp; done) | (go_simp; rfl)); intro w23 hw; have hg : w21.grownBy w23 (some go14) := (by rw [hw]; exact HP22.2); have hp_ : Kd.R (Kd.int .u32) 63 w23 w.heap.size (fun _ => True) (.slice (some ⟨go14, 0, none⟩) x5_1.length co19) y166 := (by rw [hw, Ny166.out]; exact HP22.1); clear HP22; have n0_ := Aside0.mk (hp_); have n1_ := Aside0.mk ((by rw [hw]; exact below_set (HB.out) GB14.out : Below w.heap.size w w23)); clear HO_5; clear HB; have HO_5 := n0_; have HB := n1_; clear n0_ n1_; clear hg hw hp_))
                        go_roundg k1
                        case measure => have := HK1.out; omega
                        case rel => exact ⟨(y166), (ji15), (by first | rfl | (simp; done) | (simp only [← hji15] <;> (first | rfl | simp)) | (simp [*]; done)), H', ⟨by have := HK1.out; omega⟩, ⟨by (with_reducible repeat (first | apply Kd.R_alloc | apply Kd.R_drewN | apply Kd.R_drew)); exact HO_5.out⟩, ⟨by repeat (first | (with_reducible first | exact HB.out | apply below_alloc | apply pw_below_drewN | apply below_drew1) | exact HB.out)⟩⟩
                      · rw [if_neg c17] at H
                        exact absurd H (by simp)
                    · rw [if_neg c16] at H
                      exact absurd H (by simp)
                  · rw [if_neg c13] at H
                    exact absurd H (by simp)
                · rw [if_neg c11] at H
                  exact absurd H (by simp)
              · rw [if_neg c10] at H
                exact absurd H (by simp)
            · rw [if_neg c9] at H
              exact absurd H (by simp)
          · rw [if_neg c8] at H
            have c8b0 : decide (x14_1 < (l0.length : Int)) = false := decide_eq_false c8
            clear c8
            obtain rfl := Option.some.inj H
            go_wp2
            go_ret
            exact ⟨_, by first | rfl | (simp [errW_none, errW_some] <;> rfl) | (simp only [← hji3]; first | rfl | (simp [errW_none, errW_some] <;> rfl)) | (simp [*, errW_none, errW_some] <;> rfl), by (with_reducible repeat (first | apply Kd.R_alloc | apply Kd.R_drewN | apply Kd.R_drew)); exact HO_5.out, by repeat (first | (with_reducible first | exact HB.out | apply below_alloc | apply pw_below_drewN | apply below_drew1) | exact HB.out)⟩
    · rw [if_neg c5] at H
      exact absurd H (by simp)
  · rw [if_neg c4] at H
    exact absurd H (by simp)

/-! ### bits_Sub32: function 89 -/
theorem nv_take_nat (l : List Int) (i : Nat) : Bn.nv (l.take (i + 1)) = Bn.nv (l.take i) + 4294967296 ^ i * (rd l (i : Int)).toNat := by
  simp only [rd, Int.toNat_natCast, List.getD_eq_getElem?_getD]
  by_cases hi : i < l.length
  · rw [List.take_add_one, List.getElem?_eq_getElem hi, Bn.nv_append, List.length_take, Nat.min_eq_left (by omega)]
    simp [Bn.nv]
  · rw [List.getElem?_eq_none (by omega), List.take_of_length_le (by omega), List.take_of_length_le (by omega)]
    simp
theorem nv_take_lt {l : List Int} (h : Bn.Limbs l) (i : Nat) (hi : i ≤ l.length) : Bn.nv (l.take i) < 4294967296 ^ i := by
  have := Bn.nv_lt (h.take i)
  rwa [List.length_take, Nat.min_eq_left hi] at this
/-- The order of two numbers, as -1, 0, 1. -/
def cmpN (a b : Nat) : Int := if a < b then -1 else if b < a then 1 else 0
theorem cmpN_add (a b c : Nat) : cmpN (a + c) (b + c) = cmpN a b := by
  unfold cmpN
  by_cases h1 : a < b
  · rw [if_pos h1, if_pos (by omega)]
  · rw [if_neg h1, if_neg (by omega)]
    by_cases h2 : b < a
    · rw [if_pos h2, if_pos (by omega)]
    · rw [if_neg h2, if_neg (by omega)]
theorem cmpN_self (a : Nat) : cmpN a a = 0 := by simp [cmpN]
theorem cmpN_lt {a b : Nat} (h : a < b) : cmpN a b = -1 := by simp [cmpN, h]
theorem cmpN_gt {a b : Nat} (h : b < a) : cmpN a b = 1 := by unfold cmpN; rw [if_neg (by omega), if_pos h]
theorem cmp_Compare_uint32_f (x y : Int) : cmp_Compare_uint32.f x y = some (if x < y then -1 else if x > y then 1 else 0) := by
  unfold cmp_Compare_uint32.f cmp_isNaN_uint32.f
  simp
  split
  · rfl
  · split <;> rfl
theorem cmp_Compare_int_f (x y : Int) : cmp_Compare_int.f x y = some (if x < y then -1 else if x > y then 1 else 0) := by
  unfold cmp_Compare_int.f cmp_isNaN_int.f
  simp
  split
  · rfl
  · split <;> rfl
theorem Compare_l0 {a b : List Int} (ha : Bn.Limbs a) (hb : Bn.Limbs b) (hl : a.length = b.length) (hs : a.length ≤ 4611686018427387904) : ∀ (n k : Nat), n ≤ a.length → n < k → bignat_Compare.l0 k a b ((n : Int) - 1) = some (cmpN (Bn.nv (a.take n)) (Bn.nv (b.take n))) := by
  intro n
  induction n with
  | zero =>
    intro k _ hk
    obtain ⟨k, rfl⟩ : ∃ m, k = m + 1 := ⟨k - 1, by omega⟩
    simp only [bignat_Compare.l0]
    rw [if_neg (by omega)]
    simp [cmpN]
  | succ n ih =>
    intro k hn hk
    obtain ⟨k, rfl⟩ : ∃ m, k = m + 1 := ⟨k - 1, by omega⟩
    simp only [bignat_Compare.l0]
    have e : ((n + 1 : Nat) : Int) - 1 = (n : Int) := by omega
    rw [e, if_pos (by omega), if_pos (by omega), if_pos (by omega), if_pos (by omega)]
    have h1 := rd_limb ha n
    have h2 := rd_limb hb n
    have l1 := nv_take_lt ha n (by omega)
    have l2 := nv_take_lt hb n (by omega)
    rw [nv_take_nat, nv_take_nat]
    by_cases h0 : rd a (n : Int) = rd b (n : Int)
    · rw [if_pos h0, w64 (by omega) (by omega), ih k (by omega) (by omega), h0, cmpN_add]
    · rw [if_neg h0, cmp_Compare_uint32_f]
      simp only [Option.bind_some]
      congr 1
      generalize 4294967296 ^ n = P at l1 l2 ⊢
      generalize Bn.nv (a.take n) = X at l1 ⊢
      generalize Bn.nv (b.take n) = Y at l2 ⊢
      obtain ⟨x, hx⟩ := Int.eq_ofNat_of_zero_le h1.1
      obtain ⟨y, hy⟩ := Int.eq_ofNat_of_zero_le h2.1
      rw [hx, hy] at h0 ⊢
      simp only [Int.toNat_natCast]
      by_cases hlt : x < y
      · rw [if_pos (by omega), cmpN_lt]
        have : P * (x + 1) ≤ P * y := Nat.mul_le_mul_left P hlt
        rw [Nat.mul_add, Nat.mul_one] at this
        omega
      · have hgt : y < x := by omega
        rw [if_neg (by omega), if_pos (by omega), cmpN_gt]
        have : P * (y + 1) ≤ P * x := Nat.mul_le_mul_left P hgt
        rw [Nat.mul_add, Nat.mul_one] at this
        omega
/-- A number, or zero where it is not valid. -/
def ozB (l : List Int) : List Int := if validB l then l else []
def vv (l : List Int) : Nat := Bn.nv (ozB l)
theorem orZero_f (l : List Int) : bignat_orZero.f l = some (ozB l) := by
  unfold bignat_orZero.f ozB
  rw [Valid_f]
  simp only [Option.bind_some]
  cases validB l <;> rfl
theorem oz_nrm {l : List Int} (h : Bn.Limbs l) : Bn.Nrm (ozB l) ∧ (ozB l).length ≤ 128 := by
  unfold ozB
  by_cases hv : validB l = true
  · rw [if_pos hv]
    exact (validB_iff h).1 hv
  · rw [if_neg hv]
    exact ⟨Bn.nrm_nil, by simp⟩
theorem nv_len_lt {a b : List Int} (ha : Bn.Nrm a) (hb : Bn.Nrm b) (h : a.length < b.length) : Bn.nv a < Bn.nv b := by
  have h1 := Bn.nv_lt ha.1
  have h2 := Bn.nv_ge hb (by intro e; subst e; simp at h)
  have h3 : 4294967296 ^ a.length ≤ 4294967296 ^ (b.length - 1) := Nat.pow_le_pow_right (by decide) (by omega)
  omega
theorem Compare_f {a b : List Int} (ha : Bn.Limbs a) (hb : Bn.Limbs b) {k : Nat} (hk : 128 < k) : bignat_Compare.f k a b = some (cmpN (vv a) (vv b)) := by
  unfold bignat_Compare.f vv
  rw [orZero_f, orZero_f]
  simp only [Option.bind_some]
  obtain ⟨na, la⟩ := oz_nrm ha
  obtain ⟨nb, lb⟩ := oz_nrm hb
  generalize ozB a = x at na la ⊢
  generalize ozB b = y at nb lb ⊢
  by_cases hl : x.length = y.length
  · rw [if_pos (by omega), w64 (by omega) (by omega), Compare_l0 na.1 nb.1 hl (by omega) x.length k (Nat.le_refl _) (by omega), List.take_length, hl, List.take_length]
  · rw [if_neg (by omega), cmp_Compare_int_f]
    simp only [Option.bind_some]
    by_cases h : x.length < y.length
    · rw [if_pos (by omega), cmpN_lt (nv_len_lt na nb h)]
    · rw [if_neg (by omega), if_pos (by omega), cmpN_gt (nv_len_lt nb na (by omega))]
theorem FromUint_f {n : Int} (h0 : 0 ≤ n) (h1 : n < 18446744073709551616) {k : Nat} (hk : 2 < k) : bignat_FromUint.f k n = some (Bn.limbs n.toNat) := by
  unfold bignat_FromUint.f
  have hL : Bn.Limbs [n % 4294967296, n / 4294967296 % 4294967296] := Bn.Limbs.mk (by omega) (Bn.Limbs.mk (by omega) Bn.Limbs.nil)
  rw [trimmed_f hL (by simp) (by simpa using hk)]
  simp only [Option.bind_some, Bn.nv]
  congr 2
  omega
theorem bits_u32_nat (a b : Nat) (ha : a < 4294967296) (hb : b < 4294967296) : Go.bits .and .u32 a b = ((a &&& b : Nat) : Int) ∧ Go.bits .or .u32 a b = ((a ||| b : Nat) : Int) ∧ Go.bits .xor .u32 a b = ((a ^^^ b : Nat) : Int) := by
  have ha' : a % 2 ^ 32 = a := Nat.mod_eq_of_lt ha
  have hb' : b % 2 ^ 32 = b := Nat.mod_eq_of_lt hb
  have hw : ∀ n : Nat, n < 4294967296 → IntKind.u32.wrap (n : Int) = n := fun n hn => by rw [IntKind.wrap_u32]; omega
  have hk : IntKind.u32.bits = 32 := rfl
  refine ⟨?_, ?_, ?_⟩
  · simp only [Go.bits, hk, BitVec.ofInt_natCast, BitVec.toNat_and, BitVec.toNat_ofNat, ha', hb']
    exact hw _ (Nat.and_lt_two_pow (n := 32) _ hb)
  · simp only [Go.bits, hk, BitVec.ofInt_natCast, BitVec.toNat_or, BitVec.toNat_ofNat, ha', hb']
    exact hw _ (Nat.or_lt_two_pow (n := 32) ha hb)
  · simp only [Go.bits, hk, BitVec.ofInt_natCast, BitVec.toNat_xor, BitVec.toNat_ofNat, ha', hb']
    exact hw _ (Nat.xor_lt_two_pow (n := 32) ha hb)
theorem borrow_top (x y d : Nat) : (((4294967295 ^^^ x) &&& y) ||| ((4294967295 ^^^ (x ^^^ y)) &&& d)) / 2147483648 = ((1 ^^^ (x / 2147483648)) &&& (y / 2147483648)) ||| ((1 ^^^ ((x / 2147483648) ^^^ (y / 2147483648))) &&& (d / 2147483648)) := by
  have e : ∀ n : Nat, n / 2147483648 = n >>> 31 := fun n => by rw [Nat.shiftRight_eq_div_pow]
  simp only [e, Nat.shiftRight_or_distrib, Nat.shiftRight_and_distrib, Nat.shiftRight_xor_distrib]
  rfl
def borrowed (a0 a1 a2 : Int) : Int := if a0 < a1 + a2 then 1 else 0
theorem borrow_bits (a0 a1 a2 : Int) (h0 : 0 ≤ a0 ∧ a0 < 4294967296) (h1 : 0 ≤ a1 ∧ a1 < 4294967296) (h2 : 0 ≤ a2 ∧ a2 ≤ 1) :
    Go.bits .or .u32 (Go.bits .and .u32 (Go.bits .xor .u32 IntKind.u32.max a0) a1) (Go.bits .and .u32 (Go.bits .xor .u32 IntKind.u32.max (Go.bits .xor .u32 a0 a1)) ((a0 - a1 - a2) % 4294967296)) / 2147483648 = borrowed a0 a1 a2 := by
  obtain ⟨x, rfl⟩ := Int.eq_ofNat_of_zero_le h0.1
  obtain ⟨y, rfl⟩ := Int.eq_ofNat_of_zero_le h1.1
  obtain ⟨d, hd⟩ := Int.eq_ofNat_of_zero_le (show 0 ≤ ((x : Int) - y - a2) % 4294967296 by omega)
  have hx : x < 4294967296 := by omega
  have hy : y < 4294967296 := by omega
  have hdl : d < 4294967296 := by omega
  rw [hd, show IntKind.u32.max = ((4294967295 : Nat) : Int) by decide]
  have b1 : 4294967295 ^^^ x < 4294967296 := Nat.xor_lt_two_pow (n := 32) (by decide) hx
  have b2 : x ^^^ y < 4294967296 := Nat.xor_lt_two_pow (n := 32) hx hy
  have b3 : 4294967295 ^^^ (x ^^^ y) < 4294967296 := Nat.xor_lt_two_pow (n := 32) (by decide) b2
  rw [(bits_u32_nat 4294967295 x (by decide) hx).2.2, (bits_u32_nat x y hx hy).2.2, (bits_u32_nat 4294967295 _ (by decide) b2).2.2, (bits_u32_nat _ y b1 hy).1, (bits_u32_nat _ d b3 hdl).1,
    (bits_u32_nat _ _ (Nat.and_lt_two_pow (n := 32) _ hy) (Nat.and_lt_two_pow (n := 32) _ hdl)).2.1]
  rw [show (2147483648 : Int) = ((2147483648 : Nat) : Int) from rfl, ← Int.natCast_ediv, borrow_top]
  unfold borrowed
  have tx : x / 2147483648 = 0 ∨ x / 2147483648 = 1 := by omega
  have ty : y / 2147483648 = 0 ∨ y / 2147483648 = 1 := by omega
  have td : d / 2147483648 = 0 ∨ d / 2147483648 = 1 := by omega
  rcases tx with tx | tx <;> rcases ty with ty | ty <;> rcases td with td | td <;> rw [tx, ty, td] <;> split <;> first | rfl | (exfalso; omega)
/-- The difference of two limbs and a borrow of 0 or 1, and the borrow. -/
def bits_Sub32.f (a0 a1 a2 : Int) : Option (Int × Int) := if (0 ≤ a0 ∧ a0 < 4294967296) ∧ (0 ≤ a1 ∧ a1 < 4294967296) ∧ (0 ≤ a2 ∧ a2 ≤ 1) then some ((a0 - a1 - a2) % 4294967296, borrowed a0 a1 a2) else none
set_option maxHeartbeats 8000000 in
set_option maxRecDepth 100000 in
theorem bits_Sub32.calls (a0 : Int) (a1 : Int) (a2 : Int) (r1 : Int) (r2 : Int) (w : World) (h : bits_Sub32.f a0 a1 a2 = some (r1, r2)) :
    Calls Tryd.prog 89 #[.int .u32 a0, .int .u32 a1, .int .u32 a2] w fun e w' => e = .returned (.tuple #[.int .u32 r1, .int .u32 r2]) ∧ Drawn0 w w' := by
  unfold bits_Sub32.f at h
  split at h
  · rename_i hc
    obtain ⟨h0, h1, h2⟩ := hc
    simp only [Option.some.injEq, Prod.mk.injEq] at h
    obtain ⟨rfl, rfl⟩ := h
    have HB := Aside0.mk (borrow_bits a0 a1 a2 h0 h1 h2)
    go_enter Tryd.func89, Tryd.ntmps89
    go_wp2
    go_ret2
    exact ⟨by first | rfl | (rw [← HB.out]; rfl), Drawn0.refl _⟩
  · cases h


/-! ### bignat_reduce: function 81 -/
def bignat_reduce.l0 : Nat → List Int → List Int → Int → Int → Int → Int → Int → Int → Option (Bool × List Int)
  | 0, _, _, _, _, _, _, _, _ => none
  | k + 1, x0, x1, x2, x3, x9, x10, x13, x14 => if x14 < x13 then (if 0 ≤ x14 then (if x14 < (x1.length : Int) then (if 0 ≤ (wrap64 (x2 + x14)) then (if (wrap64 (x2 + x14)) < (x0.length : Int) then ((bits_Sub32.f (rd x0 (wrap64 (x2 + x14))) ((IntKind.u64.wrap (x9 + (IntKind.u64.wrap (x3 * (IntKind.u64.wrap (rd x1 x14)))))) % 4294967296) x10).bind fun bt169 => (bignat_reduce.l0 k (x0.set ((wrap64 (x2 + x14)) : Int).toNat bt169.1) x1 x2 x3 ((IntKind.u64.wrap (x9 + (IntKind.u64.wrap (x3 * (IntKind.u64.wrap (rd x1 x14)))))) / 4294967296) bt169.2 x13 (wrap64 (x14 + 1)))) else (none)) else (none)) else (none)) else (none)) else (if 0 ≤ (wrap64 (x2 + (x1.length : Int))) then (if (wrap64 (x2 + (x1.length : Int))) < (x0.length : Int) then ((bits_Sub32.f (rd x0 (wrap64 (x2 + (x1.length : Int)))) ((x9) % 4294967296) x10).bind fun bt173 => (some ((bt173.2 == 1), (x0.set ((wrap64 (x2 + (x1.length : Int))) : Int).toNat bt173.1)))) else (none)) else (none))
def bignat_reduce.f (k : Nat) (l0 : List Int) (l1 : List Int) (a2 : Int) (a3 : Int) : Option (Bool × List Int) := bignat_reduce.l0 k l0 l1 a2 a3 0 0 (l1.length : Int) 0
set_option maxHeartbeats 8000000 in
set_option maxRecDepth 100000 in
theorem bignat_reduce.calls (k : Nat) (P0_ : Nat → Prop) (u9000_ : Value) (l0 : List Int) (A1 : Option Addr) (c1 : Nat) (l1 : List Int) (a2 : Int) (a3 : Int) (r1 : Bool) (r2 : List Int) (w0 w : World) (hB : Below w0.heap.size w0 w) (ho0 : Kd.R (Kd.int .u32) 63 w w0.heap.size P0_ u9000_ l0) (hr1 : ∀ W_, Kept w W_ (fun k_ => P0_ k_) → Kd.C (Kd.int .u32) W_ A1 l1.length l1) (hc1 : l1.length ≤ c1) (h : bignat_reduce.f k l0 l1 a2 a3 = some (r1, r2)) :
    Calls Tryd.prog 81 #[u9000_, .slice A1 l1.length c1, .int .i64 a2, .int .u64 a3] w fun e w' => e = .returned (.bool r1) ∧ Kd.R (Kd.int .u32) 63 w' w0.heap.size (fun k_ => (P0_ k_ ∨ w.heap.size ≤ k_)) u9000_ r2 ∧ Below w0.heap.size w0 w' ∧ Kept w w' (fun k_ => P0_ k_) := by
  have HO0 := Aside0.mk (show Kd.R (Kd.int .u32) 63 w w0.heap.size (fun k_ => (P0_ k_ ∨ w.heap.size ≤ k_)) u9000_ l0 from Kd.R_mono ho0 (fun k_ hk => (.inl hk)))
  have HR1 := Aside0.mk hr1
  have HC1 := Aside0.mk hc1
  clear hr1 hc1
  have HK := Aside0.mk (Kept.refl w (fun k_ => P0_ k_))
  have HW0 := Aside0.mk hB.size
  have HB := Aside0.mk hB
  clear hB
  have H : (bignat_reduce.l0 k l0 l1 a2 a3 0 0 (l1.length : Int) 0) = some (r1, r2) := h
  clear h
  have H' := Aside0.mk H
  clear H
  go_enter Tryd.func81, Tryd.ntmps81
  go_wp2
  go_loopg [9, 10, 14] k (fun kq v9 v10 v14 w' => ∃ (x0_1 : List Int) (x9_1 : Int) (x10_1 : Int) (x14_1 : Int), v9 = .int .u64 x9_1 ∧ v10 = .int .u32 x10_1 ∧ v14 = .int .i64 x14_1 ∧ Aside0 (bignat_reduce.l0 kq x0_1 l1 a2 a3 x9_1 x10_1 (l1.length : Int) x14_1 = some (r1, r2)) ∧ Aside0 (kq ≤ k) ∧ Aside0 (Kd.R (Kd.int .u32) 63 w' w0.heap.size (fun k_ => (P0_ k_ ∨ w.heap.size ≤ k_)) u9000_ x0_1) ∧ Aside0 (Kept w w' (fun k_ => P0_ k_)) ∧ Aside0 (Below w0.heap.size w0 w'))
  case atStart => exact ⟨(l0), (0), (0), (0), (by first | rfl | (simp; done) | (simp [*]; done)), (by first | rfl | (simp; done) | (simp [*]; done)), (by first | rfl | (simp; done) | (simp [*]; done)), H', ⟨Nat.le_refl _⟩, ⟨by (with_reducible repeat (first | apply Kd.R_alloc | apply Kd.R_drewN | apply Kd.R_drew)); exact HO0.out⟩, ⟨by repeat (first | (with_reducible first | exact HK.out | apply Kept.alloc | apply Kept.drewN | apply Kept.drew) | exact HK.out)⟩, ⟨by repeat (first | (with_reducible first | exact HB.out | apply below_alloc | apply pw_below_drewN | apply below_drew1) | exact HB.out)⟩⟩
  case round =>
    clear H'
    try clear c1
    try clear p2
    obtain ⟨x0_1, x9_1, x10_1, x14_1, rfl, rfl, rfl, HA, HK1, HO_0, HK, HB⟩ := hrel
    cases gk with
    | zero => exact absurd HA.out (by simp [bignat_reduce.l0])
    | succ k1 =>
      have H := HA.out
      clear HA
      simp only [bignat_reduce.l0] at H
      by_cases c5 : x14_1 < (l1.length : Int)
      · rw [if_pos c5] at H
        have c5b0 : decide (x14_1 < (l1.length : Int)) = true := decide_eq_true c5
        clear c5
        by_cases c6 : 0 ≤ x14_1
        · rw [if_pos c6] at H
          have c6b0 : decide (0 ≤ x14_1) = true := decide_eq_true c6
          clear c6
          by_cases c7 : x14_1 < (l1.length : Int)
          · rw [if_pos c7] at H
            have c7b0 : decide (x14_1 < (l1.length : Int)) = true := decide_eq_true c7
            clear c7
            obtain ⟨ji8, hji8⟩ : ∃ j_ : Int, (wrap64 (a2 + x14_1)) = j_ := ⟨_, rfl⟩
            replace H : (if 0 ≤ (ji8) then (if (ji8) < (x0_1.length : Int) then ((bits_Sub32.f (rd x0_1 (ji8)) ((IntKind.u64.wrap (x9_1 + (IntKind.u64.wrap (a3 * (IntKind.u64.wrap (rd l1 x14_1)))))) % 4294967296) x10_1).bind fun bt169 => (bignat_reduce.l0 k1 (x0_1.set ((ji8) : Int).toNat bt169.1) l1 a2 a3 ((IntKind.u64.wrap (x9_1 + (IntKind.u64.wrap (a3 * (IntKind.u64.wrap (rd l1 x14_1)))))) / 4294967296) bt169.2 (l1.length : Int) (wrap64 (x14_1 + 1)))) else (none)) else (none)) = some (r1, r2) := by first | (rw [hji8] at H; exact H) | (simp only [hji8] at H ⊢; exact H)
            have hji8w : (IntKind.i64.wrap (a2 + x14_1)) = ji8 := (i64_w _).trans hji8
            by_cases c9 : 0 ≤ (ji8)
            · rw [if_pos c9] at H
              have c9b0 : decide (0 ≤ (ji8)) = true := decide_eq_true c9
              clear c9
              by_cases c10 : (ji8) < (x0_1.length : Int)
              · rw [if_pos c10] at H
                have c10b0 : decide ((ji8) < (x0_1.length : Int)) = true := decide_eq_true c10
                clear c10
                replace H := Option.bind_eq_some_iff.mp H
                obtain ⟨⟨t169, t170⟩, A110, H⟩ := H
                replace H : (bignat_reduce.l0 k1 (x0_1.set ((ji8) : Int).toNat t169) l1 a2 a3 ((IntKind.u64.wrap (x9_1 + (IntKind.u64.wrap (a3 * (IntKind.u64.wrap (rd l1 x14_1)))))) / 4294967296) t170 (l1.length : Int) (wrap64 (x14_1 + 1))) = some (r1, r2) := H
                have A11 := Aside0.mk A110
                clear A110
                obtain ⟨y171, hy171⟩ : ∃ y_ : List Int, y_ = (x0_1.set ((ji8) : Int).toNat t169) := ⟨_, rfl⟩
                replace H : (bignat_reduce.l0 k1 y171 l1 a2 a3 ((IntKind.u64.wrap (x9_1 + (IntKind.u64.wrap (a3 * (IntKind.u64.wrap (rd l1 x14_1)))))) / 4294967296) t170 (l1.length : Int) (wrap64 (x14_1 + 1))) = some (r1, r2) := by first | (rw [hy171]; with_reducible exact H) | (have H2_ := (Option.bind_some _ _).symm.trans H; rw [hy171]; with_reducible exact H2_) | (have H2_ := (Option.bind_some _ _).symm.trans H; with_reducible exact H2_) | with_reducible exact H | (rw [hy171]; exact H) | exact H
                have Ny171 := Aside0.mk hy171
                clear hy171
                have H' := Aside0.mk H
                clear H
                have p167 : 0 ≤ (x14_1 : Int) := of_decide_eq_true (by first | (with_reducible assumption) | assumption)
                have q167 : x14_1 < (l1.length : Int) := of_decide_eq_true (by first | (with_reducible assumption) | assumption)
                obtain ⟨ad167, e167, hx167_0⟩ := Kd.at_int (Kd.C_kept_now HR1.out HK.out) x14_1 p167 q167
                cases e167
                replace p167 := eq_true p167
                replace q167 := eq_true q167
                obtain ⟨Ao13, co13, eo13⟩ := Kd.R_slice HO_0.out
                subst eo13
                have p168 : 0 ≤ ((ji8) : Int) := of_decide_eq_true (by first | (with_reducible assumption) | assumption)
                have q168 : (ji8) < (x0_1.length : Int) := of_decide_eq_true (by first | (with_reducible assumption) | assumption)
                obtain ⟨ad168, e168, hx168_0⟩ := Kd.at_int (Kd.R_reads' HO_0.out).2.2 (ji8) p168 q168
                cases e168
                replace p168 := eq_true p168
                replace q168 := eq_true q168
                go_wp2_with (first | ((with_reducible refine gate_callee (f := 89) rfl ?_); refine goesL_ (some 40) rfl rfl Tryd.func89 (by kernel_rfl) rfl #[.int .u32 (rd x0_1 (ji8)), .int .u32 ((IntKind.u64.wrap (x9_1 + (IntKind.u64.wrap (a3 * (IntKind.u64.wrap (rd l1 x14_1)))))) % 4294967296), .int .u32 x10_1] rfl (by (try simp only [List.map_toArray, List.map_cons, List.map_nil]); first | done | (simp only [hji8]; rfl) | rfl | (simp only [List.length_drop, List.length_take]; rfl)) ?_; (with_reducible refine (bits_Sub32.calls (rd x0_1 (ji8)) ((IntKind.u64.wrap (x9_1 + (IntKind.u64.wrap (a3 * (IntKind.u64.wrap (rd l1 x14_1)))))) % 4294967296) x10_1 t169 t170 _ A11.out).mono ?_); rintro e w' ⟨rfl, ⟨nd, rfl⟩⟩; refine ⟨_, rfl, ?_⟩; (try (rw [drewN_self wr]; generalize hq_ : World.drewN wr _ = wr; have n0_ : Aside0 (Kd.R (Kd.int .u32) 63 wr w0.heap.size (fun k_ => (P0_ k_ ∨ w.heap.size ≤ k_)) (.slice (some ad168) x0_1.length co13) x0_1) := ⟨by rw [← hq_]; exact (by (with_reducible repeat (first | apply Kd.R_alloc | apply Kd.R_drewN | apply Kd.R_drew)); exact HO_0.out)⟩; have n1_ : Aside0 (Kept w wr (fun k_ => P0_ k_)) := ⟨by rw [← hq_]; exact (by repeat (first | (with_reducible first | exact HK.out | apply Kept.alloc | apply Kept.drewN | apply Kept.drew) | exact HK.out))⟩; have n2_ : Aside0 (Below w0.heap.size w0 wr) := ⟨by rw [← hq_]; exact (by repeat (first | (with_reducible first | exact HB.out | apply below_alloc | apply pw_below_drewN | apply below_drew1) | exact HB.out))⟩; clear HO_0 HK HB hq_; have HO_0 := n0_; have HK := n1_; have HB := n2_; clear n0_ n1_ n2_)); have p12 : 0 ≤ ((ji8) : Int) := of_decide_eq_true (by first | (with_reducible assumption) | assumption); have q12 : ((ji8) : Int) < ((x0_1.length : Int) : Int) := of_decide_eq_true (by first | (with_reducible assumption) | assumption); obtain ⟨go12, co12, eo12, gb12, gl12, cl12, HG12⟩ := Kd.R_form HO_0.out (by omega); (first | cases eo12 | (injection eo12 with ea_ en_ ec_; (first | subst ea_ | (injection ea_ with ea_; subst ea_)); subst ec_; clear en_)); have GB12 := Aside0.mk gb12; have GG12 := Aside0.mk HG12; clear gb12 gl12 HG12; have HMgo12 := Aside0.mk (show (P0_ go12 ∨ w.heap.size ≤ go12) from (HO_0.out.1 _ rfl)); (first | simp only [add_plain] at hx168_0 | skip); obtain ⟨hx12_0, hf12_0⟩ := Kd.R_celln 0 HO_0.out ((ji8) : Int) p12 q12; replace p12 := eq_true p12; replace q12 := eq_true q12; obtain ⟨hy14_, hz14_⟩ := Kd.R_celln 0 HO_0.out ((ji8) : Int) (of_decide_eq_true (by first | (with_reducible assumption) | assumption)) (of_decide_eq_true (by first | (with_reducible assumption) | assumption)); have HP14 := Kd.R_putg HO_0.out ((ji8) : Int) t169) | ((with_reducible refine gate_store (t := 63) (p := 43) rfl ?_); refine store_event (t := 63) (p := 43) (v := ?vo_w15) (w1 := (wr.setCell ⟨go12, ((ji8) : Int).toNat, none⟩ (.int .u32 t169))) ?hg ?ho ?hn ?hr ?_; (case ho => rfl); (case hg => rfl); (case hn => rfl); (case hr => first | (go_simp; done) | (go_simp; rfl)); intro w15 hw; have hg : wr.grownBy w15 (some go12) := (by rw [hw]; exact HP14.2); have hp_ : Kd.R (Kd.int .u32) 63 w15 w0.heap.size (fun k_ => (P0_ k_ ∨ w.heap.size ≤ k_)) (.slice (some ⟨go12, 0, none⟩) x0_1.length co13) y171 := (by rw [hw, Ny171.out]; exact HP14.1); clear HP14; have n0_ := Aside0.mk (hp_); have n1_ := Aside0.mk ((by rw [hw]; exact below_set (HB.out) GB12.out : Below w0.heap.size w0 w15)); have n2_ := Aside0.mk (Kept.of_grown (S := (fun k_ => P0_ k_)) hg (by repeat (first | (with_reducible first | exact HK.out | apply Kept.alloc | apply Kept.drewN | apply Kept.drew) | exact HK.out)) (fun k_ e_ => (HO_0.out.1 k_ e_))); clear HO_0; clear HB; clear HK; have HO_0 := n0_; have HB := n1_; have HK := n2_; clear n0_ n1_ n2_; clear hg hw hp_))
                go_roundg k1
                case measure => have := HK1.out; omega
                case rel => exact ⟨(y171), ((IntKind.u64.wrap (x9_1 + (IntKind.u64.wrap (a3 * (IntKind.u64.wrap (rd l1 x14_1)))))) / 4294967296), (t170), (wrap64 (x14_1 + 1)), (by first | rfl | (simp; done) | (simp [*]; done)), (by first | rfl | (simp; done) | (simp [*]; done)), (by first | rfl | (simp; done) | (simp [*]; done)), H', ⟨by have := HK1.out; omega⟩, ⟨by (with_reducible repeat (first | apply Kd.R_alloc | apply Kd.R_drewN | apply Kd.R_drew)); exact HO_0.out⟩, ⟨by repeat (first | (with_reducible first | exact HK.out | apply Kept.alloc | apply Kept.drewN | apply Kept.drew) | exact HK.out)⟩, ⟨by repeat (first | (with_reducible first | exact HB.out | apply below_alloc | apply pw_below_drewN | apply below_drew1) | exact HB.out)⟩⟩
              · rw [if_neg c10] at H
                exact absurd H (by simp)
            · rw [if_neg c9] at H
              exact absurd H (by simp)
          · rw [if_neg c7] at H
            exact absurd H (by simp)
        · rw [if_neg c6] at H
          exact absurd H (by simp)
      · rw [if_neg c5] at H
        have c5b0 : decide (x14_1 < (l1.length : Int)) = false := decide_eq_false c5
        clear c5
        obtain ⟨ji16, hji16⟩ : ∃ j_ : Int, (wrap64 (a2 + (l1.length : Int))) = j_ := ⟨_, rfl⟩
        replace H : (if 0 ≤ (ji16) then (if (ji16) < (x0_1.length : Int) then ((bits_Sub32.f (rd x0_1 (ji16)) ((x9_1) % 4294967296) x10_1).bind fun bt173 => (some ((bt173.2 == 1), (x0_1.set ((ji16) : Int).toNat bt173.1)))) else (none)) else (none)) = some (r1, r2) := by first | (rw [hji16] at H; exact H) | (simp only [hji16] at H ⊢; exact H)
        have hji16w : (IntKind.i64.wrap (a2 + (l1.length : Int))) = ji16 := (i64_w _).trans hji16
        by_cases c17 : 0 ≤ (ji16)
        · rw [if_pos c17] at H
          have c17b0 : decide (0 ≤ (ji16)) = true := decide_eq_true c17
          clear c17
          by_cases c18 : (ji16) < (x0_1.length : Int)
          · rw [if_pos c18] at H
            have c18b0 : decide ((ji16) < (x0_1.length : Int)) = true := decide_eq_true c18
            clear c18
            replace H := Option.bind_eq_some_iff.mp H
            obtain ⟨⟨t173, t174⟩, A190, H⟩ := H
            replace H : (some ((t174 == 1), (x0_1.set ((ji16) : Int).toNat t173))) = some (r1, r2) := H
            have A19 := Aside0.mk A190
            clear A190
            obtain ⟨y175, hy175⟩ : ∃ y_ : List Int, y_ = (x0_1.set ((ji16) : Int).toNat t173) := ⟨_, rfl⟩
            replace H : (some ((t174 == 1), y175)) = some (r1, r2) := by first | (rw [hy175]; with_reducible exact H) | (have H2_ := (Option.bind_some _ _).symm.trans H; rw [hy175]; with_reducible exact H2_) | (have H2_ := (Option.bind_some _ _).symm.trans H; with_reducible exact H2_) | with_reducible exact H | (rw [hy175]; exact H) | exact H
            have Ny175 := Aside0.mk hy175
            clear hy175
            simp only [Option.some.injEq, Prod.mk.injEq] at H
            obtain ⟨rfl, rfl⟩ := H
            obtain ⟨Ao21, co21, eo21⟩ := Kd.R_slice HO_0.out
            subst eo21
            have p172 : 0 ≤ ((ji16) : Int) := of_decide_eq_true (by first | (with_reducible assumption) | assumption)
            have q172 : (ji16) < (x0_1.length : Int) := of_decide_eq_true (by first | (with_reducible assumption) | assumption)
            obtain ⟨ad172, e172, hx172_0⟩ := Kd.at_int (Kd.R_reads' HO_0.out).2.2 (ji16) p172 q172
            cases e172
            replace p172 := eq_true p172
            replace q172 := eq_true q172
            go_wp2_with (first | ((with_reducible refine gate_callee (f := 89) rfl ?_); refine goesL_ (some 63) rfl rfl Tryd.func89 (by kernel_rfl) rfl #[.int .u32 (rd x0_1 (ji16)), .int .u32 ((x9_1) % 4294967296), .int .u32 x10_1] rfl (by (try simp only [List.map_toArray, List.map_cons, List.map_nil]); first | done | (simp only [hji16]; rfl) | rfl | (simp only [List.length_drop, List.length_take]; rfl)) ?_; (with_reducible refine (bits_Sub32.calls (rd x0_1 (ji16)) ((x9_1) % 4294967296) x10_1 t173 t174 _ A19.out).mono ?_); rintro e w' ⟨rfl, ⟨nd, rfl⟩⟩; refine ⟨_, rfl, ?_⟩; (try (rw [drewN_self wr]; generalize hq_ : World.drewN wr _ = wr; have n0_ : Aside0 (Kd.R (Kd.int .u32) 63 wr w0.heap.size (fun k_ => (P0_ k_ ∨ w.heap.size ≤ k_)) (.slice (some ad172) x0_1.length co21) x0_1) := ⟨by rw [← hq_]; exact (by (with_reducible repeat (first | apply Kd.R_alloc | apply Kd.R_drewN | apply Kd.R_drew)); exact HO_0.out)⟩; have n1_ : Aside0 (Kept w wr (fun k_ => P0_ k_)) := ⟨by rw [← hq_]; exact (by repeat (first | (with_reducible first | exact HK.out | apply Kept.alloc | apply Kept.drewN | apply Kept.drew) | exact HK.out))⟩; have n2_ : Aside0 (Below w0.heap.size w0 wr) := ⟨by rw [← hq_]; exact (by repeat (first | (with_reducible first | exact HB.out | apply below_alloc | apply pw_below_drewN | apply below_drew1) | exact HB.out))⟩; clear HO_0 HK HB hq_; have HO_0 := n0_; have HK := n1_; have HB := n2_; clear n0_ n1_ n2_)); have p20 : 0 ≤ ((ji16) : Int) := of_decide_eq_true (by first | (with_reducible assumption) | assumption); have q20 : ((ji16) : Int) < ((x0_1.length : Int) : Int) := of_decide_eq_true (by first | (with_reducible assumption) | assumption); obtain ⟨go20, co20, eo20, gb20, gl20, cl20, HG20⟩ := Kd.R_form HO_0.out (by omega); (first | cases eo20 | (injection eo20 with ea_ en_ ec_; (first | subst ea_ | (injection ea_ with ea_; subst ea_)); subst ec_; clear en_)); have GB20 := Aside0.mk gb20; have GG20 := Aside0.mk HG20; clear gb20 gl20 HG20; have HMgo20 := Aside0.mk (show (P0_ go20 ∨ w.heap.size ≤ go20) from (HO_0.out.1 _ rfl)); (first | simp only [add_plain] at hx172_0 | skip); obtain ⟨hx20_0, hf20_0⟩ := Kd.R_celln 0 HO_0.out ((ji16) : Int) p20 q20; replace p20 := eq_true p20; replace q20 := eq_true q20; obtain ⟨hy22_, hz22_⟩ := Kd.R_celln 0 HO_0.out ((ji16) : Int) (of_decide_eq_true (by first | (with_reducible assumption) | assumption)) (of_decide_eq_true (by first | (with_reducible assumption) | assumption)); have HP22 := Kd.R_putg HO_0.out ((ji16) : Int) t173) | ((with_reducible refine gate_store (t := 63) (p := 66) rfl ?_); refine store_event (t := 63) (p := 66) (v := ?vo_w23) (w1 := (wr.setCell ⟨go20, ((ji16) : Int).toNat, none⟩ (.int .u32 t173))) ?hg ?ho ?hn ?hr ?_; (case ho => rfl); (case hg => rfl); (case hn => rfl); (case hr => first | (go_simp; done) | (go_simp; rfl)); intro w23 hw; have hg : wr.grownBy w23 (some go20) := (by rw [hw]; exact HP22.2); have hp_ : Kd.R (Kd.int .u32) 63 w23 w0.heap.size (fun k_ => (P0_ k_ ∨ w.heap.size ≤ k_)) (.slice (some ⟨go20, 0, none⟩) x0_1.length co21) y175 := (by rw [hw, Ny175.out]; exact HP22.1); clear HP22; have n0_ := Aside0.mk (hp_); have n1_ := Aside0.mk ((by rw [hw]; exact below_set (HB.out) GB20.out : Below w0.heap.size w0 w23)); have n2_ := Aside0.mk (Kept.of_grown (S := (fun k_ => P0_ k_)) hg (by repeat (first | (with_reducible first | exact HK.out | apply Kept.alloc | apply Kept.drewN | apply Kept.drew) | exact HK.out)) (fun k_ e_ => (HO_0.out.1 k_ e_))); clear HO_0; clear HB; clear HK; have HO_0 := n0_; have HB := n1_; have HK := n2_; clear n0_ n1_ n2_; clear hg hw hp_))
            go_ret
            exact ⟨by first | rfl | (simp [errW_none, errW_some] <;> rfl) | (simp only [← hji16]; first | rfl | (simp [errW_none, errW_some] <;> rfl)) | (simp [*, errW_none, errW_some] <;> rfl), by (with_reducible repeat (first | apply Kd.R_alloc | apply Kd.R_drewN | apply Kd.R_drew)); exact HO_0.out, by repeat (first | (with_reducible first | exact HB.out | apply below_alloc | apply pw_below_drewN | apply below_drew1) | exact HB.out), by repeat (first | (with_reducible first | exact HK.out | apply Kept.alloc | apply Kept.drewN | apply Kept.drew) | exact HK.out)⟩
          · rw [if_neg c18] at H
            exact absurd H (by simp)
        · rw [if_neg c17] at H
          exact absurd H (by simp)

end Go.Proofs.YtoakfjcejamoeaaDoor.B
