-- PRINTED by print.py (a twelfth state) out of the translation. Not trusted: Lean checks it.
import Derived.Test.YtoakfjcejamoeaaDoorBx0
import Derived.Test.YtoakfjcejamoeaaDoorBx1
import Derived.Test.YtoakfjcejamoeaaDoorBx2
import Derived.Test.YtoakfjcejamoeaaDoorBx3
import Derived.Test.YtoakfjcejamoeaaDoorBx7
import Derived.Test.YtoakfjcejamoeaaDoorBx8
import Derived.Test.YtoakfjcejamoeaaDoorBx9
namespace Go.Proofs.YtoakfjcejamoeaaDoor.B
open Go.RowKit Go.Proofs.YtoakfjcejamoeaaDoorW.PrintWords Go.Proofs.YtoakfjcejamoeaaDoorW.PrintLast Go.Proofs.YtoakfjcejamoeaaDoorW.PrintMore
attribute [local go_sem] max2_int min2_int max_two min_two max_three min_three max_four min_four   -- for this text's walks alone
set_option linter.unusedVariables false
set_option linter.unusedSimpArgs false

/-! ### bignat_Sub: function 38 -/
/-- The borrow into place i, and the limb at place i, of a difference. -/
def subC (a b : List Int) : Nat → Int
  | 0 => 0
  | i + 1 => borrowed (rd a (i : Int)) (rd b (i : Int)) (subC a b i)
def subS (a b : List Int) (i : Nat) : Int := (rd a (i : Int) - rd b (i : Int) - subC a b i) % 4294967296
def subOut (a b : List Int) (n : Nat) : List Int := (List.range n).map (subS a b)
theorem subC_le (a b : List Int) : ∀ i, 0 ≤ subC a b i ∧ subC a b i ≤ 1
  | 0 => by simp [subC]
  | i + 1 => by
    simp only [subC, borrowed]
    split <;> omega
theorem sub32_f {x y c : Int} (hx : 0 ≤ x ∧ x < 4294967296) (hy : 0 ≤ y ∧ y < 4294967296) (hc : 0 ≤ c ∧ c ≤ 1) : bits_Sub32.f x y c = some ((x - y - c) % 4294967296, borrowed x y c) := by
  unfold bits_Sub32.f
  rw [if_pos ⟨hx, hy, hc⟩]
theorem subOut_nv {a b : List Int} (ha : Bn.Limbs a) (hb : Bn.Limbs b) : ∀ n : Nat, (Bn.nv (subOut a b n) : Int) + Bn.nv (b.take n) = Bn.nv (a.take n) + 4294967296 ^ n * subC a b n
  | 0 => by simp [subOut, Bn.nv, subC]
  | n + 1 => by
    have ih := subOut_nv ha hb n
    have h1 := rd_limb ha n
    have h2 := rd_limb hb n
    have h3 := subC_le a b n
    rw [nv_take_succ, nv_take_succ]
    unfold subOut at ih ⊢
    rw [List.range_succ, List.map_append, Bn.nv_append]
    simp only [List.map_cons, List.map_nil, List.length_map, List.length_range, Bn.nv, subC, subS]
    generalize Bn.nv (List.map (subS a b) (List.range n)) = X at ih ⊢
    have e1 : ((rd a (n : Int)).toNat : Int) = rd a (n : Int) := Int.toNat_of_nonneg h1.1
    have e2 : ((rd b (n : Int)).toNat : Int) = rd b (n : Int) := Int.toNat_of_nonneg h2.1
    have e3 : (((rd a (n : Int) - rd b (n : Int) - subC a b n) % 4294967296).toNat : Int) = (rd a (n : Int) - rd b (n : Int) - subC a b n) % 4294967296 := Int.toNat_of_nonneg (by omega)
    have e4 : (rd a (n : Int) - rd b (n : Int) - subC a b n) % 4294967296 = rd a (n : Int) - rd b (n : Int) - subC a b n + 4294967296 * borrowed (rd a (n : Int)) (rd b (n : Int)) (subC a b n) := by
      unfold borrowed
      split <;> omega
    simp only [Nat.mul_zero, Nat.add_zero, Int.natCast_add, Int.natCast_mul, Int.natCast_pow, Int.cast_ofNat_Int]
    rw [e1, e2, e3, e4]
    generalize borrowed (rd a (n : Int)) (rd b (n : Int)) (subC a b n) = q
    rw [Int.pow_succ]
    grind
theorem subOut_limbs (a b : List Int) (n : Nat) : Bn.Limbs (subOut a b n) := fun x hx => by
  obtain ⟨i, _, rfl⟩ := List.mem_map.1 hx
  unfold subS
  omega
theorem subOut_eq {a b : List Int} (ha : Bn.Nrm a) (hb : Bn.Nrm b) (h : Bn.nv b ≤ Bn.nv a) : Bn.nv (subOut a b a.length) = Bn.nv a - Bn.nv b := by
  have h1 := subOut_nv ha.1 hb.1 a.length
  have hl : b.length ≤ a.length := by
    apply Classical.byContradiction
    intro hn
    have := nv_len_lt ha hb (by omega)
    omega
  rw [List.take_length, List.take_of_length_le hl] at h1
  have h2 := Bn.nv_lt (subOut_limbs a b a.length)
  have hlen : (subOut a b a.length).length = a.length := by simp [subOut]
  rw [hlen] at h2
  have h3 := subC_le a b a.length
  have hp : ((4294967296 ^ a.length : Nat) : Int) = (4294967296 : Int) ^ a.length := by rw [Int.natCast_pow]; rfl
  rw [← hp] at h1
  generalize 4294967296 ^ a.length = P at h1 h2
  have h4 : subC a b a.length = 0 ∨ subC a b a.length = 1 := by omega
  rcases h4 with h4 | h4
  · rw [h4] at h1; omega
  · rw [h4] at h1; omega
theorem subOut_set (a b : List Int) {n i : Nat} (h : i < n) : (subOut a b i ++ List.replicate (n - i) 0).set i (subS a b i) = subOut a b (i + 1) ++ List.replicate (n - (i + 1)) 0 := by
  obtain ⟨m, hm⟩ : ∃ m, n - i = m + 1 := ⟨n - i - 1, by omega⟩
  rw [hm, show n - (i + 1) = m by omega, List.replicate_succ, List.set_append_right _ _ (by simp [subOut])]
  simp [subOut, List.range_succ]
/-- The difference. -/
def bignat_Sub.f (l0 l1 : List Int) : Option (List Int × Bool) := if okL l0 && okL l1 then some (if validB l0 && validB l1 && decide (Bn.nv l1 ≤ Bn.nv l0) then (Bn.limbs (Bn.nv l0 - Bn.nv l1), true) else ([], false)) else none
set_option maxHeartbeats 8000000 in
set_option maxRecDepth 100000 in
theorem bignat_Sub.calls (A0 : Option Addr) (c0 : Nat) (l0 : List Int) (A1 : Option Addr) (c1 : Nat) (l1 : List Int) (r1 : List Int) (r2 : Bool) (w : World) (hr0 : Kd.C (Kd.int .u32) w A0 l0.length l0) (hc0 : l0.length ≤ c0) (hr1 : Kd.C (Kd.int .u32) w A1 l1.length l1) (hc1 : l1.length ≤ c1) (h : bignat_Sub.f l0 l1 = some (r1, r2)) :
    Calls Tryd.prog 38 #[.slice A0 l0.length c0, .slice A1 l1.length c1] w fun e w' => ∃ v0_ : Value, e = .returned (.tuple #[v0_, .bool r2]) ∧ Kd.R (Kd.int .u32) 63 w' w.heap.size (fun _ => True) v0_ r1 ∧ Below w.heap.size w w' := by
  unfold bignat_Sub.f at h
  split at h
  · rename_i hok
    rw [Bool.and_eq_true, okL_iff, okL_iff] at hok
    obtain ⟨⟨hL0, hn0⟩, hL1, hn1⟩ := hok
    have HR0 := Aside0.mk hr0
    have HC0 := Aside0.mk hc0
    have HR1 := Aside0.mk hr1
    have HC1 := Aside0.mk hc1
    have HL0 := Aside0.mk hL0
    have HL1 := Aside0.mk hL1
    have HH := Aside0.mk (Option.some.inj h)
    clear hr0 hc0 hr1 hc1 h hL0 hL1
    obtain ⟨v0, hv0⟩ : ∃ b, validB l0 = b := ⟨_, rfl⟩
    obtain ⟨v1, hv1⟩ : ∃ b, validB l1 = b := ⟨_, rfl⟩
    have HV0 := Aside0.mk (show bignat_Valid.f l0 = some v0 by rw [Valid_f, hv0])
    have HV1 := Aside0.mk (show bignat_Valid.f l1 = some v1 by rw [Valid_f, hv1])
    have HB0 := Aside0.mk hv0
    have HB1 := Aside0.mk hv1
    clear hv0 hv1
    cases v0 with
    | false =>
      go_enter Tryd.func38, Tryd.ntmps38
      go_wp2_with fail
      refine (bignat_Valid.calls A0 c0 l0 false w HR0.out HC0.out HV0.out).mono ?_
      rintro e w1 ⟨rfl, hd⟩
      have HW1 := Aside0.mk hd.below
      clear hd
      go_wp2_with fail
      have hv : (validB l0 && validB l1 && decide (Bn.nv l1 ≤ Bn.nv l0)) = false := by rw [HB0.out]; rfl
      have hh := HH.out
      rw [hv] at hh
      obtain ⟨rfl, rfl⟩ := Prod.mk.inj hh
      go_ret2
      exact ⟨_, rfl, Kd.R_nil _ _ _ _ _, HW1.out⟩
    | true =>
    cases v1 with
    | false =>
      go_enter Tryd.func38, Tryd.ntmps38
      go_wp2_with fail
      refine (bignat_Valid.calls A0 c0 l0 true w HR0.out HC0.out HV0.out).mono ?_
      rintro e w1 ⟨rfl, hd⟩
      have HW1 := Aside0.mk hd.below
      clear hd
      go_wp2_with fail
      refine (bignat_Valid.calls A1 c1 l1 false w1 (Kd.C_below HR1.out HW1.out) HC1.out HV1.out).mono ?_
      rintro e w2 ⟨rfl, hd⟩
      have HW2 := Aside0.mk (below_step HW1.out hd.below)
      clear hd HW1
      go_wp2_with fail
      have hv : (validB l0 && validB l1 && decide (Bn.nv l1 ≤ Bn.nv l0)) = false := by rw [HB0.out, HB1.out]; rfl
      have hh := HH.out
      rw [hv] at hh
      obtain ⟨rfl, rfl⟩ := Prod.mk.inj hh
      go_ret2
      exact ⟨_, rfl, Kd.R_nil _ _ _ _ _, HW2.out⟩
    | true =>
    have HCMP := Aside0.mk (show bignat_Compare.f 129 l0 l1 = some (cmpN (Bn.nv l0) (Bn.nv l1)) by
      rw [Compare_f HL0.out HL1.out (by omega)]
      unfold vv ozB
      rw [HB0.out, HB1.out]
      rfl)
    by_cases hle : Bn.nv l1 ≤ Bn.nv l0
    rotate_left
    · have HLE := Aside0.mk hle
      clear hle
      have HCMP2 := Aside0.mk (show bignat_Compare.f 129 l0 l1 = some (-1) by rw [HCMP.out, cmpN_lt (by have := HLE.out; omega)])
      go_enter Tryd.func38, Tryd.ntmps38
      go_wp2_with fail
      refine (bignat_Valid.calls A0 c0 l0 true w HR0.out HC0.out HV0.out).mono ?_
      rintro e w1 ⟨rfl, hd⟩
      have HW1 := Aside0.mk hd.below
      clear hd
      go_wp2_with fail
      refine (bignat_Valid.calls A1 c1 l1 true w1 (Kd.C_below HR1.out HW1.out) HC1.out HV1.out).mono ?_
      rintro e w2 ⟨rfl, hd⟩
      have HW2 := Aside0.mk (below_step HW1.out hd.below)
      clear hd HW1
      go_wp2_with fail
      refine (bignat_Compare.calls 129 A0 c0 l0 A1 c1 l1 (-1) w2 (Kd.C_below HR0.out HW2.out) HC0.out (Kd.C_below HR1.out HW2.out) HC1.out HCMP2.out).mono ?_
      rintro e w3 ⟨rfl, hd⟩
      have HW3 := Aside0.mk (below_step HW2.out hd)
      clear hd
      go_wp2_with fail
      have hv : (validB l0 && validB l1 && decide (Bn.nv l1 ≤ Bn.nv l0)) = false := by rw [HB0.out, HB1.out, decide_eq_false HLE.out]; rfl
      have hh := HH.out
      rw [hv] at hh
      obtain ⟨rfl, rfl⟩ := Prod.mk.inj hh
      go_ret2
      exact ⟨_, rfl, Kd.R_nil _ _ _ _ _, HW3.out⟩
    · have HLE := Aside0.mk hle
      clear hle
      obtain ⟨cm, hcm⟩ : ∃ c, cmpN (Bn.nv l0) (Bn.nv l1) = c := ⟨_, rfl⟩
      rw [hcm] at HCMP
      have hcm0 : ¬ (cm < 0) := by have := HLE.out; rw [← hcm]; unfold cmpN; rw [if_neg (by omega)]; split <;> omega
      clear hcm
      go_enter Tryd.func38, Tryd.ntmps38
      go_wp2_with fail
      refine (bignat_Valid.calls A0 c0 l0 true w HR0.out HC0.out HV0.out).mono ?_
      rintro e w1 ⟨rfl, hd⟩
      have HW1 := Aside0.mk hd.below
      clear hd
      go_wp2_with fail
      refine (bignat_Valid.calls A1 c1 l1 true w1 (Kd.C_below HR1.out HW1.out) HC1.out HV1.out).mono ?_
      rintro e w2 ⟨rfl, hd⟩
      have HW2 := Aside0.mk (below_step HW1.out hd.below)
      clear hd HW1
      go_wp2_with fail
      refine (bignat_Compare.calls 129 A0 c0 l0 A1 c1 l1 cm w2 (Kd.C_below HR0.out HW2.out) HC0.out (Kd.C_below HR1.out HW2.out) HC1.out HCMP.out).mono ?_
      rintro e w2' ⟨rfl, hd⟩
      have HW2' := Aside0.mk (below_step HW2.out hd)
      clear hd HW2
      go_wp2_with fail
      refine (limbAt_calls A0 l0.length c0 w2').mono ?_
      rintro e w3 ⟨b0, rfl, hb0, hw3⟩
      have HW3 := Aside0.mk (below_step HW2'.out hw3)
      have HX0 := Aside0.mk hb0
      clear hb0 hw3 HW2'
      go_wp2_with fail
      refine (limbAt_calls A1 l1.length c1 w3).mono ?_
      rintro e w4 ⟨b1, rfl, hb1, hw4⟩
      have HW4 := Aside0.mk (below_step HW3.out hw4)
      have HX0' := Aside0.mk ((hw4.block b0 (blk_lt HX0.out)).trans HX0.out)
      have HX1 := Aside0.mk hb1
      have HR0' := Aside0.mk (Kd.C_below HR0.out HW4.out)
      have HR1' := Aside0.mk (Kd.C_below HR1.out HW4.out)
      clear hb1 hw4 HW3 HX0 HR0 HR1
      obtain ⟨n, hn⟩ : ∃ n : Nat, n = l0.length := ⟨_, rfl⟩
      have HN := Aside0.mk hn
      have hn2 : n ≤ 1048577 := by omega
      clear hn
      go_wp2_with (first | ((with_reducible refine gate_dst (N := 31) rfl ?_); refine Kd.R_make (Kd.int .u32) w4.heap.size 63 rfl (N := 31) rfl 22 _ _ rfl (l0.length : Int) rfl rfl Tryd.underlying22 (.int .u32 0) 4 info63 rfl (by decide) (by omega) 0 (ok := fun _ => True) (okp := fun _ => True) rfl (fun _ hk => hk) trivial (by omega) (by omega) (Below.refl _ _) (Nat.le_refl _) ?_; intro v5 w5 ho5 hb5 hg_ hnew_; clear hg_ hnew_; have HO5 := Aside0.mk ho5; have HW5 := Aside0.mk hb5; clear ho5 hb5; obtain ⟨A5, c5, rfl⟩ := Kd.R_slice HO5.out; have HS := Aside0.mk (show (List.replicate ((l0.length : Int)).toNat (0 : Int)).length = n by have := HN.out; rw [List.length_replicate]; omega); have HO5' := Aside0.mk (show Kd.R (Kd.int .u32) 63 w5 w4.heap.size (fun _ => True) (.slice A5 n c5) (subOut l0 l1 0 ++ List.replicate (n - 0) 0) from (by have h := HO5.out; rw [HS.out, show ((l0.length : Int)).toNat = n from (by have := HN.out; omega)] at h; simpa [subOut] using h)); rw [HS.out]; clear HO5 HS))
      go_loopw [9, 34] (fun vc vi wr => ∃ i : Nat, i ≤ n ∧ vi = .int .i64 (i : Int) ∧ vc = .int .u32 (subC l0 l1 i) ∧ Aside0 (Below w4.heap.size w4 wr) ∧ Aside0 (Kd.R (Kd.int .u32) 63 wr w4.heap.size (fun _ => True) (.slice A5 n c5) (subOut l0 l1 i ++ List.replicate (n - i) 0))) (fun _ vi _ => n - (intOf vi).toNat)
      case atStart => exact ⟨0, Nat.zero_le _, rfl, rfl, HW5, HO5'⟩
      case round =>
        obtain ⟨i, hi, rfl, rfl, HBR, HOR⟩ := hrel
        clear HW5 HO5'
        by_cases hlt : i < n
        · have hlt' : ((i : Int) < (n : Int)) := by omega
          go_wp2_with fail
          refine (limb_any A0 c0 b0 l0 i wr ((HBR.out.block b0 (blk_lt HX0'.out)).trans HX0'.out) (Kd.C_below HR0'.out HBR.out)).mono ?_
          rintro e wa ⟨rfl, hd⟩
          have HBA := Aside0.mk (below_step HBR.out hd.below)
          have HOA := Aside0.mk (Kd.R_below HOR.out hd.below)
          clear hd HBR HOR
          go_wp2_with fail
          refine (limb_any A1 c1 b1 l1 i wa ((HBA.out.block b1 (blk_lt HX1.out)).trans HX1.out) (Kd.C_below HR1'.out HBA.out)).mono ?_
          rintro e wb ⟨rfl, hd⟩
          have HBB := Aside0.mk (below_step HBA.out hd.below)
          have HOB := Aside0.mk (Kd.R_below HOA.out hd.below)
          clear hd HBA HOA
          go_wp2_with fail
          refine (bits_Sub32.calls (rd l0 (i : Int)) (rd l1 (i : Int)) (subC l0 l1 i) (subS l0 l1 i) (subC l0 l1 (i + 1)) wb (sub32_f (rd_limb HL0.out i) (rd_limb HL1.out i) (subC_le l0 l1 i))).mono ?_
          rintro e wc ⟨rfl, hd⟩
          have HBC := Aside0.mk (below_step HBB.out hd.below)
          have HOC := Aside0.mk (Kd.R_below HOB.out hd.below)
          clear hd HBB HOB
          have hpos : 0 < (subOut l0 l1 i ++ List.replicate (n - i) 0).length := by simp [subOut]; omega
          obtain ⟨g5, c5', e5, hg5, _, _⟩ := Kd.R_form HOC.out hpos
          injection e5 with e51 e52 e53
          subst e51
          have HG5 := Aside0.mk hg5
          clear hg5 hpos e52 e53
          obtain ⟨hx, hf⟩ := Kd.R_celln 0 HOC.out (i : Int) (by omega) (by omega)
          simp only [Int.toNat_natCast] at hx hf
          go_wp2_with fail
          go_roundw
          case rel =>
            refine ⟨i + 1, hlt, by go_num, rfl, ⟨below_set HBC.out HG5.out⟩, ⟨?_⟩⟩
            have h := (Kd.R_putg HOC.out (i : Int) (subS l0 l1 i)).1
            rw [Int.toNat_natCast, subOut_set l0 l1 hlt] at h
            exact h
          case measure => simp [intOf]; omega
        · obtain rfl : i = n := by omega
          have hlt' : ¬ ((i : Int) < (i : Int)) := by omega
          have hd : (validB l0 && validB l1 && decide (Bn.nv l1 ≤ Bn.nv l0)) = true := by rw [HB0.out, HB1.out, decide_eq_true HLE.out]; rfl
          have hh := HH.out
          rw [hd, if_pos rfl] at hh
          obtain ⟨hh1, rfl⟩ := Prod.mk.inj hh
          have htr : bignat_trimmed.f (i + 1) (subOut l0 l1 i ++ List.replicate (i - i) 0) = some r1 := by
            rw [Nat.sub_self, List.replicate_zero, List.append_nil, trimmed_f (subOut_limbs l0 l1 i) (by simp [subOut]; omega) (by simp [subOut])]
            rw [show Bn.nv (subOut l0 l1 i) = Bn.nv l0 - Bn.nv l1 by rw [HN.out]; exact subOut_eq ((validB_iff HL0.out).1 HB0.out).1 ((validB_iff HL1.out).1 HB1.out).1 HLE.out, hh1]
          have HF := Aside0.mk htr
          clear htr hh hd hh1
          go_wp2_with fail
          refine (bignat_trimmed.calls (i + 1) (fun _ => True) _ _ r1 w4 wr HBR.out HOR.out HF.out).mono ?_
          rintro e w9 ⟨v9, rfl, hr9, hb9, _⟩
          have HR9 := Aside0.mk hr9
          have HB9 := Aside0.mk (below_step HW4.out hb9)
          clear hr9 hb9
          go_wp2_with fail
          go_ret2
          exact ⟨_, rfl, Kd.R_mono (Kd.R_lower HR9.out HW4.out.size) (fun _ _ => trivial), HB9.out⟩
  · cases h

/-! ### lineageref03_Sub: function 39 -/
def lineageref03_Sub.l0 : Nat → List Int → List Int → List Int → Int → Int → Option (List Int)
  | 0, _, _, _, _, _ => none
  | k + 1, x0, x1, x5, x6, x7 => if x7 < (x0.length : Int) then ((lineageref03_limb.f x0 x7).bind fun t349 => ((lineageref03_limb.f x1 x7).bind fun t350 => (if t349 < (IntKind.u64.wrap (t350 + x6)) then (if x5.length < 35184372088832 then (lineageref03_Sub.l0 k x0 x1 (x5 ++ [(IntKind.u64.wrap ((IntKind.u64.wrap (t349 + 4294967296)) - (IntKind.u64.wrap (t350 + x6)))) % 4294967296]) 1 (wrap64 (x7 + 1))) else (none)) else (if x5.length < 35184372088832 then (lineageref03_Sub.l0 k x0 x1 (x5 ++ [(IntKind.u64.wrap (t349 - (IntKind.u64.wrap (t350 + x6)))) % 4294967296]) 0 (wrap64 (x7 + 1))) else (none))))) else ((lineageref03_trim.f k x5).bind fun t346 => (some t346))
def lineageref03_Sub.f (k : Nat) (l0 : List Int) (l1 : List Int) : Option (List Int) := lineageref03_Sub.l0 k l0 l1 (([] : List Int)) 0 0
set_option maxHeartbeats 8000000 in
set_option maxRecDepth 100000 in
theorem lineageref03_Sub.calls (k : Nat) (A0 : Option Addr) (c0 : Nat) (l0 : List Int) (A1 : Option Addr) (c1 : Nat) (l1 : List Int) (r : List Int) (w : World) (hr0 : Kd.C (Kd.int .u32) w A0 l0.length l0) (hc0 : l0.length ≤ c0) (hr1 : Kd.C (Kd.int .u32) w A1 l1.length l1) (hc1 : l1.length ≤ c1) (h : lineageref03_Sub.f k l0 l1 = some r) :
    Calls Tryd.prog 39 #[.slice A0 l0.length c0, .slice A1 l1.length c1] w fun e w' => ∃ v0_ : Value, e = .returned (v0_) ∧ Kd.V (Kd.int .u32) 63 w' w.heap.size (fun k_ => (w.heap.size ≤ k_)) v0_ r ∧ Below w.heap.size w w' := by
  have HR0 := Aside0.mk hr0
  have HC0 := Aside0.mk hc0
  clear hr0 hc0
  have HR1 := Aside0.mk hr1
  have HC1 := Aside0.mk hc1
  clear hr1 hc1
  have HB := Aside0.mk (Below.refl w.heap.size w)
  have H : (lineageref03_Sub.l0 k l0 l1 (([] : List Int)) 0 0) = some r := h
  clear h
  obtain ⟨y343, hy343⟩ : ∃ y_ : List Int, y_ = (([] : List Int)) := ⟨_, rfl⟩
  replace H : (lineageref03_Sub.l0 k l0 l1 y343 0 0) = some r := by first | (rw [hy343]; with_reducible exact H) | (have H2_ := (Option.bind_some _ _).symm.trans H; rw [hy343]; with_reducible exact H2_) | (have H2_ := (Option.bind_some _ _).symm.trans H; with_reducible exact H2_) | with_reducible exact H | (rw [hy343]; exact H) | exact H
  have Ny343 := Aside0.mk hy343
  clear hy343
  have H' := Aside0.mk H
  clear H
  go_enter Tryd.func39, Tryd.ntmps39
  go_wp2_with (first | ((with_reducible refine gate_dst (N := 10) rfl ?_); refine Kd.R_lit (Kd.int .u32) _ 63 ?hg (N := 10) ?hd (xs := ([] : List Int)) (inner := []) (ok := fun _ => True) (okp := fun _ => True) ?hr ?hp (fun _ hk => hk) trivial (Below.refl _ _) (Nat.le_refl _) (by simp) ?_; (case hd => rfl); (case hg => rfl); (case hr => first | (go_simp; done) | (go_simp; rfl)); (case hp => exact (Reps.none _ _)); intro v344 w3 ho4 hb hg_ hnew_; clear hg_ hnew_; (first | rw [← Ny343.out] at ho4 | (simp only [Int.reduceToNat] at ho4; rw [← Ny343.out] at ho4)); have n0_ := Aside0.mk (Kd.R_lower (Kd.R_newM (M := fun k_ => (w.heap.size ≤ k_)) ho4 (below_size (by repeat (first | (with_reducible first | exact HB.out | apply below_alloc | apply pw_below_drewN | apply below_drew1) | exact HB.out))) (fun k_ h_ => h_)) (below_size (by repeat (first | (with_reducible first | exact HB.out | apply below_alloc | apply pw_below_drewN | apply below_drew1) | exact HB.out)))); have n1_ := Aside0.mk (below_step (by repeat (first | (with_reducible first | exact HB.out | apply below_alloc | apply pw_below_drewN | apply below_drew1) | exact HB.out)) hb); clear HB; have HO345 := n0_; have HB := n1_; clear n0_ n1_; clear hb ho4))
  go_loopg [5, 6, 7] k (fun kq v5 v6 v7 w' => ∃ (x5_1 : List Int) (x6_1 : Int) (x7_1 : Int), v6 = .int .u64 x6_1 ∧ v7 = .int .i64 x7_1 ∧ Aside0 (lineageref03_Sub.l0 kq l0 l1 x5_1 x6_1 x7_1 = some r) ∧ Aside0 (kq ≤ k) ∧ Aside0 (Kd.R (Kd.int .u32) 63 w' w.heap.size (fun k_ => (w.heap.size ≤ k_)) v5 x5_1) ∧ Aside0 (Below w.heap.size w w'))
  case atStart => exact ⟨(y343), (0), (0), (by first | rfl | (simp; done) | (simp [*]; done)), (by first | rfl | (simp; done) | (simp [*]; done)), H', ⟨Nat.le_refl _⟩, ⟨by (with_reducible repeat (first | apply Kd.R_alloc | apply Kd.R_drewN | apply Kd.R_drew)); exact Kd.R_mono HO345.out (fun _ hk => hk.1)⟩, ⟨by repeat (first | (with_reducible first | exact HB.out | apply below_alloc | apply pw_below_drewN | apply below_drew1) | exact HB.out)⟩⟩
  case round =>
    clear H'
    try clear c1
    try clear p2
    try clear c3
    obtain ⟨x5_1, x6_1, x7_1, rfl, rfl, HA, HK1, HO_5, HB⟩ := hrel
    cases gk with
    | zero => exact absurd HA.out (by simp [lineageref03_Sub.l0])
    | succ k1 =>
      have H := HA.out
      clear HA
      simp only [lineageref03_Sub.l0] at H
      by_cases c5 : x7_1 < (l0.length : Int)
      · rw [if_pos c5] at H
        have c5b0 : decide (x7_1 < (l0.length : Int)) = true := decide_eq_true c5
        clear c5
        replace H := Option.bind_eq_some_iff.mp H
        obtain ⟨t349, A60, H⟩ := H
        replace H : ((lineageref03_limb.f l1 x7_1).bind fun t350 => (if t349 < (IntKind.u64.wrap (t350 + x6_1)) then (if x5_1.length < 35184372088832 then (lineageref03_Sub.l0 k1 l0 l1 (x5_1 ++ [(IntKind.u64.wrap ((IntKind.u64.wrap (t349 + 4294967296)) - (IntKind.u64.wrap (t350 + x6_1)))) % 4294967296]) 1 (wrap64 (x7_1 + 1))) else (none)) else (if x5_1.length < 35184372088832 then (lineageref03_Sub.l0 k1 l0 l1 (x5_1 ++ [(IntKind.u64.wrap (t349 - (IntKind.u64.wrap (t350 + x6_1)))) % 4294967296]) 0 (wrap64 (x7_1 + 1))) else (none)))) = some r := H
        have A6 := Aside0.mk A60
        clear A60
        replace H := Option.bind_eq_some_iff.mp H
        obtain ⟨t350, A70, H⟩ := H
        replace H : (if t349 < (IntKind.u64.wrap (t350 + x6_1)) then (if x5_1.length < 35184372088832 then (lineageref03_Sub.l0 k1 l0 l1 (x5_1 ++ [(IntKind.u64.wrap ((IntKind.u64.wrap (t349 + 4294967296)) - (IntKind.u64.wrap (t350 + x6_1)))) % 4294967296]) 1 (wrap64 (x7_1 + 1))) else (none)) else (if x5_1.length < 35184372088832 then (lineageref03_Sub.l0 k1 l0 l1 (x5_1 ++ [(IntKind.u64.wrap (t349 - (IntKind.u64.wrap (t350 + x6_1)))) % 4294967296]) 0 (wrap64 (x7_1 + 1))) else (none))) = some r := H
        have A7 := Aside0.mk A70
        clear A70
        by_cases c8 : t349 < (IntKind.u64.wrap (t350 + x6_1))
        · rw [if_pos c8] at H
          have c8b0 : decide (t349 < (IntKind.u64.wrap (t350 + x6_1))) = true := decide_eq_true c8
          clear c8
          by_cases c9 : x5_1.length < 35184372088832
          · rw [if_pos c9] at H
            have LMc9 := Aside0.mk c9
            clear c9
            obtain ⟨y351, hy351⟩ : ∃ y_ : List Int, y_ = (x5_1 ++ [(IntKind.u64.wrap ((IntKind.u64.wrap (t349 + 4294967296)) - (IntKind.u64.wrap (t350 + x6_1)))) % 4294967296]) := ⟨_, rfl⟩
            replace H : (lineageref03_Sub.l0 k1 l0 l1 y351 1 (wrap64 (x7_1 + 1))) = some r := by first | (rw [hy351]; with_reducible exact H) | (have H2_ := (Option.bind_some _ _).symm.trans H; rw [hy351]; with_reducible exact H2_) | (have H2_ := (Option.bind_some _ _).symm.trans H; with_reducible exact H2_) | with_reducible exact H | (rw [hy351]; exact H) | exact H
            have Ny351 := Aside0.mk hy351
            clear hy351
            have H' := Aside0.mk H
            clear H
            go_wp2_with (first | ((with_reducible refine gate_callee (f := 84) rfl ?_); refine goesL_ (some 19) rfl rfl Tryd.func84 (by kernel_rfl) rfl #[.slice A0 l0.length c0, .int .i64 x7_1] rfl (by (try simp only [List.map_toArray, List.map_cons, List.map_nil]); first | done | rfl | (simp only [List.length_drop, List.length_take]; rfl)) ?_; (with_reducible refine (lineageref03_limb.calls _ _ l0 x7_1 t349 _ ?side1 ?side2 A6.out).mono ?_); (case side1 => repeat (first | exact (Kd.C_below HR0.out HB.out) | (with_reducible refine Kd.C_alloc ?_ _) | (with_reducible refine Kd.C_drewN ?_ _) | (with_reducible refine Kd.C_drew ?_))); (case side2 => exact HC0.out); rintro e w' ⟨rfl, ⟨nd, rfl⟩⟩; refine ⟨_, rfl, ?_⟩) | ((with_reducible refine gate_callee (f := 84) rfl ?_); refine goesL_ (some 22) rfl rfl Tryd.func84 (by kernel_rfl) rfl #[.slice A1 l1.length c1, .int .i64 x7_1] rfl (by (try simp only [List.map_toArray, List.map_cons, List.map_nil]); first | done | rfl | (simp only [List.length_drop, List.length_take]; rfl)) ?_; (with_reducible refine (lineageref03_limb.calls _ _ l1 x7_1 t350 _ ?side1 ?side2 A7.out).mono ?_); (case side1 => repeat (first | exact (Kd.C_below HR1.out (by repeat (first | (with_reducible first | exact HB.out | apply below_alloc | apply pw_below_drewN | apply below_drew1) | exact HB.out))) | (with_reducible refine Kd.C_alloc ?_ _) | (with_reducible refine Kd.C_drewN ?_ _) | (with_reducible refine Kd.C_drew ?_))); (case side2 => exact HC1.out); rintro e w' ⟨rfl, ⟨nd, rfl⟩⟩; refine ⟨_, rfl, ?_⟩) | ((with_reducible refine gate_builtin (b := .append) (xs := #[.tmp 30, .tmp 35]) rfl ?_); at_builtin; refine Kd.R_append (Kd.int .u32) (w0 := w) w.heap.size rfl (.tmp 30) (.tmp 35) 23 63 (.int .u32 0) 4 rfl Tryd.underlying23 info63 rfl (by decide) (by omega) u5 x5_1 ((IntKind.u64.wrap ((IntKind.u64.wrap (t349 + 4294967296)) - (IntKind.u64.wrap (t350 + x6_1)))) % 4294967296) [.int .u32 ((IntKind.u64.wrap ((IntKind.u64.wrap (t349 + 4294967296)) - (IntKind.u64.wrap (t350 + x6_1)))) % 4294967296)] (fun k_ => (w.heap.size ≤ k_)) (fun _ => False) rfl rfl ?aP (fun _ hk => hk.elim) ?aF ?aO ?aB ?aS ?aL ?_; (case aP => exact rfl); (case aB => exact (by repeat (first | (with_reducible first | exact HB.out | apply below_alloc | apply pw_below_drewN | apply below_drew1) | exact HB.out))); (case aF => exact (fun k_ hk => (Nat.le_trans (below_size (by repeat (first | (with_reducible first | exact HB.out | apply below_alloc | apply pw_below_drewN | apply below_drew1) | exact HB.out))) hk))); (case aO => exact (by (with_reducible repeat (first | apply Kd.R_alloc | apply Kd.R_drewN | apply Kd.R_drew)); exact HO_5.out)); (case aS => exact (below_size (by repeat (first | (with_reducible first | exact HB.out | apply below_alloc | apply pw_below_drewN | apply below_drew1) | exact HB.out)))); (case aL => have := LMc9.out; omega); intro v352 w10 ho hb hg hat; rw [← Ny351.out] at ho; have n0_ := Aside0.mk (hb); have n1_ := Aside0.mk (ho); clear HB; clear HO_5; have HB := n0_; have HO353 := n1_; clear n0_ n1_; clear ho hb hg hat))
            go_roundg k1
            case measure => have := HK1.out; omega
            case rel => exact ⟨(y351), (1), (wrap64 (x7_1 + 1)), (by first | rfl | (simp; done) | (simp [*]; done)), (by first | rfl | (simp; done) | (simp [*]; done)), H', ⟨by have := HK1.out; omega⟩, ⟨by (with_reducible repeat (first | apply Kd.R_alloc | apply Kd.R_drewN | apply Kd.R_drew)); exact HO353.out⟩, ⟨by repeat (first | (with_reducible first | exact HB.out | apply below_alloc | apply pw_below_drewN | apply below_drew1) | exact HB.out)⟩⟩
          · rw [if_neg c9] at H
            exact absurd H (by simp)
        · rw [if_neg c8] at H
          have c8b0 : decide (t349 < (IntKind.u64.wrap (t350 + x6_1))) = false := decide_eq_false c8
          clear c8
          by_cases c11 : x5_1.length < 35184372088832
          · rw [if_pos c11] at H
            have LMc11 := Aside0.mk c11
            clear c11
            obtain ⟨y354, hy354⟩ : ∃ y_ : List Int, y_ = (x5_1 ++ [(IntKind.u64.wrap (t349 - (IntKind.u64.wrap (t350 + x6_1)))) % 4294967296]) := ⟨_, rfl⟩
            replace H : (lineageref03_Sub.l0 k1 l0 l1 y354 0 (wrap64 (x7_1 + 1))) = some r := by first | (rw [hy354]; with_reducible exact H) | (have H2_ := (Option.bind_some _ _).symm.trans H; rw [hy354]; with_reducible exact H2_) | (have H2_ := (Option.bind_some _ _).symm.trans H; with_reducible exact H2_) | with_reducible exact H | (rw [hy354]; exact H) | exact H
            have Ny354 := Aside0.mk hy354
            clear hy354
            have H' := Aside0.mk H
            clear H
            go_wp2_with (first | ((with_reducible refine gate_callee (f := 84) rfl ?_); refine goesL_ (some 19) rfl rfl Tryd.func84 (by kernel_rfl) rfl #[.slice A0 l0.length c0, .int .i64 x7_1] rfl (by (try simp only [List.map_toArray, List.map_cons, List.map_nil]); first | done | rfl | (simp only [List.length_drop, List.length_take]; rfl)) ?_; (with_reducible refine (lineageref03_limb.calls _ _ l0 x7_1 t349 _ ?side1 ?side2 A6.out).mono ?_); (case side1 => repeat (first | exact (Kd.C_below HR0.out HB.out) | (with_reducible refine Kd.C_alloc ?_ _) | (with_reducible refine Kd.C_drewN ?_ _) | (with_reducible refine Kd.C_drew ?_))); (case side2 => exact HC0.out); rintro e w' ⟨rfl, ⟨nd, rfl⟩⟩; refine ⟨_, rfl, ?_⟩) | ((with_reducible refine gate_callee (f := 84) rfl ?_); refine goesL_ (some 22) rfl rfl Tryd.func84 (by kernel_rfl) rfl #[.slice A1 l1.length c1, .int .i64 x7_1] rfl (by (try simp only [List.map_toArray, List.map_cons, List.map_nil]); first | done | rfl | (simp only [List.length_drop, List.length_take]; rfl)) ?_; (with_reducible refine (lineageref03_limb.calls _ _ l1 x7_1 t350 _ ?side1 ?side2 A7.out).mono ?_); (case side1 => repeat (first | exact (Kd.C_below HR1.out (by repeat (first | (with_reducible first | exact HB.out | apply below_alloc | apply pw_below_drewN | apply below_drew1) | exact HB.out))) | (with_reducible refine Kd.C_alloc ?_ _) | (with_reducible refine Kd.C_drewN ?_ _) | (with_reducible refine Kd.C_drew ?_))); (case side2 => exact HC1.out); rintro e w' ⟨rfl, ⟨nd, rfl⟩⟩; refine ⟨_, rfl, ?_⟩) | ((with_reducible refine gate_builtin (b := .append) (xs := #[.tmp 30, .tmp 35]) rfl ?_); at_builtin; refine Kd.R_append (Kd.int .u32) (w0 := w) w.heap.size rfl (.tmp 30) (.tmp 35) 23 63 (.int .u32 0) 4 rfl Tryd.underlying23 info63 rfl (by decide) (by omega) u5 x5_1 ((IntKind.u64.wrap (t349 - (IntKind.u64.wrap (t350 + x6_1)))) % 4294967296) [.int .u32 ((IntKind.u64.wrap (t349 - (IntKind.u64.wrap (t350 + x6_1)))) % 4294967296)] (fun k_ => (w.heap.size ≤ k_)) (fun _ => False) rfl rfl ?aP (fun _ hk => hk.elim) ?aF ?aO ?aB ?aS ?aL ?_; (case aP => exact rfl); (case aB => exact (by repeat (first | (with_reducible first | exact HB.out | apply below_alloc | apply pw_below_drewN | apply below_drew1) | exact HB.out))); (case aF => exact (fun k_ hk => (Nat.le_trans (below_size (by repeat (first | (with_reducible first | exact HB.out | apply below_alloc | apply pw_below_drewN | apply below_drew1) | exact HB.out))) hk))); (case aO => exact (by (with_reducible repeat (first | apply Kd.R_alloc | apply Kd.R_drewN | apply Kd.R_drew)); exact HO_5.out)); (case aS => exact (below_size (by repeat (first | (with_reducible first | exact HB.out | apply below_alloc | apply pw_below_drewN | apply below_drew1) | exact HB.out)))); (case aL => have := LMc11.out; omega); intro v355 w12 ho hb hg hat; rw [← Ny354.out] at ho; have n0_ := Aside0.mk (hb); have n1_ := Aside0.mk (ho); clear HB; clear HO_5; have HB := n0_; have HO356 := n1_; clear n0_ n1_; clear ho hb hg hat))
            go_roundg k1
            case measure => have := HK1.out; omega
            case rel => exact ⟨(y354), (0), (wrap64 (x7_1 + 1)), (by first | rfl | (simp; done) | (simp [*]; done)), (by first | rfl | (simp; done) | (simp [*]; done)), H', ⟨by have := HK1.out; omega⟩, ⟨by (with_reducible repeat (first | apply Kd.R_alloc | apply Kd.R_drewN | apply Kd.R_drew)); exact HO356.out⟩, ⟨by repeat (first | (with_reducible first | exact HB.out | apply below_alloc | apply pw_below_drewN | apply below_drew1) | exact HB.out)⟩⟩
          · rw [if_neg c11] at H
            exact absurd H (by simp)
      · rw [if_neg c5] at H
        have c5b0 : decide (x7_1 < (l0.length : Int)) = false := decide_eq_false c5
        clear c5
        replace H := Option.bind_eq_some_iff.mp H
        obtain ⟨t346, A130, H⟩ := H
        replace H : (some t346) = some r := H
        have A13 := Aside0.mk A130
        clear A130
        obtain rfl := Option.some.inj H
        obtain ⟨Ao14, co14, eo14⟩ := Kd.R_slice HO_5.out
        subst eo14
        go_wp2_with (first | ((with_reducible refine gate_callee (f := 73) rfl ?_); refine goesL_ (some 38) rfl rfl Tryd.func73 (by kernel_rfl) rfl #[.slice Ao14 x5_1.length co14] rfl (by (try simp only [List.map_toArray, List.map_cons, List.map_nil]); first | done | rfl | (simp only [List.length_drop, List.length_take]; rfl)) ?_; (with_reducible refine (lineageref03_trim.calls k1 (fun k_ => some k_ = (.slice Ao14 x5_1.length co14 : Value).ownBlock) _ _ x5_1 t346 _ ?side1 A13.out).mono ?_); (case side1 => exact Kd.R_V (Kd.R_tight rfl (HO_5.out))); rintro e w15 ⟨v347, rfl, ho0, hb⟩; refine ⟨_, rfl, ?_⟩; have n0_ := Aside0.mk (Kd.R_below (by (with_reducible repeat (first | apply Kd.R_alloc | apply Kd.R_drewN | apply Kd.R_drew)); exact HO_5.out) hb); have n1_ := Aside0.mk (Kd.V_lower (Kd.V_mono (ok' := fun k_ => (w.heap.size ≤ k_)) ho0 (fun k_ hk_ => Or.elim hk_ (fun hs_ => ((HO_5.out).1 k_ hs_.symm)) (fun hn_ => (Nat.le_trans (below_size (by repeat (first | (with_reducible first | exact HB.out | apply below_alloc | apply pw_below_drewN | apply below_drew1) | exact HB.out))) hn_)))) (below_size (by repeat (first | (with_reducible first | exact HB.out | apply below_alloc | apply pw_below_drewN | apply below_drew1) | exact HB.out)))); have n2_ := Aside0.mk (below_step (by repeat (first | (with_reducible first | exact HB.out | apply below_alloc | apply pw_below_drewN | apply below_drew1) | exact HB.out)) hb); clear HO_5; clear HB; have HO_5 := n0_; have HO348 := n1_; have HB := n2_; clear n0_ n1_ n2_; (try clear hb); (try clear hb2); (try clear hk); (try clear hi); (try clear ho0)))
        go_ret
        exact ⟨_, by first | rfl | (simp [errW_none, errW_some] <;> rfl) | (simp [*, errW_none, errW_some] <;> rfl), by (with_reducible repeat (first | apply Kd.V_alloc | apply Kd.V_drewN | apply Kd.V_drew)); exact HO348.out, by repeat (first | (with_reducible first | exact HB.out | apply below_alloc | apply pw_below_drewN | apply below_drew1) | exact HB.out)⟩

end Go.Proofs.YtoakfjcejamoeaaDoor.B
