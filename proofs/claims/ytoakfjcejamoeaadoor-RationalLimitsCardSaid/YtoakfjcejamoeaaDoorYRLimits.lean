/- The walk of the law RationalLimits. -/
import Derived.Test.YtoakfjcejamoeaaDoorQF
import Derived.Test.YtoakfjcejamoeaaDoorLS
import Derived.Test.YtoakfjcejamoeaaDoorBx11
namespace Go.Proofs.YtoakfjcejamoeaaDoor.B
open Go.RowKit Go.Proofs.YtoakfjcejamoeaaDoorW.PrintWords Go.Proofs.YtoakfjcejamoeaaDoorW.PrintLast Go.Proofs.YtoakfjcejamoeaaDoorW.PrintMore
set_option exponentiation.threshold 8200
set_option linter.unusedVariables false
set_option linter.unusedSimpArgs false
theorem fits_lt {n : Nat} (h : n < 4294967296 ^ 128) : fitsB n = true := decide_eq_true ((Bn.limbs_len n 128).2 h)
theorem lt_pow {l : List Int} (h : Bn.Limbs l) {k : Nat} (hl : l.length ≤ k) : Bn.nv l < 4294967296 ^ k := Nat.lt_of_lt_of_le (Bn.nv_lt h) (Nat.pow_le_pow_right (by decide) hl)
theorem mul_pow {a b j k : Nat} (ha : a < 4294967296 ^ j) (hb : b < 4294967296 ^ k) : a * b < 4294967296 ^ (j + k) := by
 rw [Nat.pow_add]
 exact Nat.mul_lt_mul'' ha hb
theorem pow_le {a j k : Nat} (ha : a < 4294967296 ^ j) (h : j ≤ k) : a < 4294967296 ^ k := Nat.lt_of_lt_of_le ha (Nat.pow_le_pow_right (by decide) h)
theorem add_pow {a b j : Nat} (ha : a < 4294967296 ^ j) (hb : b < 4294967296 ^ j) : a + b < 4294967296 ^ (j + 1) := by
 rw [Nat.pow_succ]
 omega
/-- the lowest terms of N/D -/
theorem redB_spec {N D : Nat} (hN : fitsB N = true) (hD : fitsB D = true) (h0 : 0 < D) {x y : List Int} (h : redB N D = (x, y)) : ratB x y = true ∧ Bn.Limbs x ∧ Bn.Limbs y ∧ ∃ g, 0 < g ∧ Bn.nv x * g = N ∧ Bn.nv y * g = D := by
 unfold redB at h
 injection h with h1 h2
 have hg : 0 < Nat.gcd N D := Nat.gcd_pos_of_pos_right _ h0
 have d1 := Nat.gcd_dvd_left N D
 have d2 := Nat.gcd_dvd_right N D
 have L1 : Bn.Limbs x := by rw [← h1]; exact Bn.limbs_limbs _
 have L2 : Bn.Limbs y := by rw [← h2]; exact Bn.limbs_limbs _
 have ex : Bn.nv x = N / Nat.gcd N D := by rw [← h1, Bn.nv_limbs]
 have ey : Bn.nv y = D / Nat.gcd N D := by rw [← h2, Bn.nv_limbs]
 refine ⟨(ratB_iff L1 L2).2 ⟨⟨by rw [← h1]; exact Bn.nrm_limbs _, by rw [← h1]; exact div_row hN⟩, ⟨by rw [← h2]; exact Bn.nrm_limbs _, by rw [← h2]; exact div_row hD⟩, by rw [← h2]; exact limbs_ne (Nat.div_pos (Nat.le_of_dvd h0 d2) hg), ?_⟩, L1, L2, Nat.gcd N D, hg, by rw [ex]; exact Nat.div_mul_cancel d1, by rw [ey]; exact Nat.div_mul_cancel d2⟩
 rw [ex, ey, Nat.gcd_div d1 d2, Nat.div_self hg]
/-- a fraction in lowest terms is what its own numbers reduce to -/
theorem redB_self {a b : List Int} (La : Bn.Limbs a) (Lb : Bn.Limbs b) (h : ratB a b = true) {g : Nat} (hg : 0 < g) : redB (Bn.nv a * g) (Bn.nv b * g) = (a, b) := by
 obtain ⟨va, vb, vb0, hc⟩ := (ratB_iff La Lb).1 h
 unfold redB
 rw [Nat.gcd_mul_right, hc, Nat.one_mul, Nat.mul_div_cancel _ hg, Nat.mul_div_cancel _ hg, va.1.2, vb.1.2]
/-- equal fractions have the same lowest terms -/
theorem redB_cross {N D N' D' : Nat} (h0 : 0 < D) (h1 : 0 < D') (h : N * D' = N' * D) : redB N D = redB N' D' := by
 have key : ∀ {n d : Nat} (k : Nat), 0 < k → redB (n * k) (d * k) = redB n d := by
  intro n d k hk
  unfold redB
  rw [Nat.gcd_mul_right, Nat.mul_div_mul_right _ _ hk, Nat.mul_div_mul_right _ _ hk]
 rw [← key (n := N) (d := D) D' h1, ← key (n := N') (d := D') D h0, h, Nat.mul_comm D D']

theorem two_fits {n : Nat} (h : n ≤ 4095) : fitsB (2 ^ n) = true := by
 refine fits_lt ?_
 rw [show (4294967296 : Nat) ^ 128 = 2 ^ 4096 by rw [show (4294967296 : Nat) = 2 ^ 32 by decide, ← Nat.pow_mul]]
 exact Nat.pow_lt_pow_right (by decide) (by omega)
theorem two_big {n : Nat} (h : 4096 ≤ n) : fitsB (2 ^ n) = false := by
 unfold fitsB
 refine decide_eq_false fun h2 => ?_
 have h3 := (Bn.limbs_len _ _).1 h2
 rw [show (4294967296 : Nat) ^ 128 = 2 ^ 4096 by rw [show (4294967296 : Nat) = 2 ^ 32 by decide, ← Nat.pow_mul]] at h3
 exact absurd ((Nat.pow_lt_pow_iff_right (by decide)).1 h3) (by omega)
theorem sum_fits {i j : Nat} (h : i + j < 4096) : fitsB (2 ^ i + 2 ^ j) = true := by
 refine fits_lt ?_
 rw [show (4294967296 : Nat) ^ 128 = 2 ^ 4096 by rw [show (4294967296 : Nat) = 2 ^ 32 by decide, ← Nat.pow_mul]]
 by_cases hi : i = 4095
 ·obtain rfl : j = 0 := by omega
  rw [hi, show (2 : Nat) ^ 4096 = 2 ^ 4095 * 2 from rfl]
  have : 2 ≤ 2 ^ 4095 := Nat.le_trans (by decide) (Nat.pow_le_pow_right (show 0 < 2 by decide) (show 1 ≤ 4095 by decide))
  rw [Nat.pow_zero]
  generalize (2 : Nat) ^ 4095 = P at *
  omega
 ·by_cases hj : j = 4095
  ·obtain rfl : i = 0 := by omega
   rw [hj, show (2 : Nat) ^ 4096 = 2 ^ 4095 * 2 from rfl]
   have : 2 ≤ 2 ^ 4095 := Nat.le_trans (by decide) (Nat.pow_le_pow_right (show 0 < 2 by decide) (show 1 ≤ 4095 by decide))
   rw [Nat.pow_zero]
   generalize (2 : Nat) ^ 4095 = P at *
   omega
  ·have h1 : 2 ^ i ≤ 2 ^ 4094 := Nat.pow_le_pow_right (by decide) (by omega)
   have h2 : 2 ^ j ≤ 2 ^ 4094 := Nat.pow_le_pow_right (by decide) (by omega)
   have h3 : (2 : Nat) ^ 4096 = 2 ^ 4094 * 4 := by rw [show (4096 : Nat) = 4094 + 2 from rfl, Nat.pow_add]
   have h4 : 0 < 2 ^ 4094 := Nat.pow_pos (by decide)
   rw [h3]
   generalize (2 : Nat) ^ 4094 = P at *
   omega
theorem shift_two {n : Nat} (h : n ≤ 4095) : bignat_Shift.f 1100 [1] (n : Int) = some (Bn.limbs (2 ^ n), 0) := by
 have hv : validB [1] = true := (validB_iff nrm_one.1).2 ⟨nrm_one, by decide⟩
 rw [Shift_f nrm_one.1 (by decide) _ (by omega) (by omega) (by decide), if_pos hv]
 unfold shiftB
 rw [show Bn.nv [1] = 1 by decide, if_neg (by decide), if_neg (by omega), if_neg (by omega), Int.toNat_natCast, Nat.one_mul]
 have hf := two_fits h
 unfold fitsB at hf
 have hf2 := of_decide_eq_true hf
 unfold fitB
 rw [if_neg (by omega)]
theorem two_rat {n : Nat} (h : n ≤ 4095) : ratB (Bn.limbs (2 ^ n)) [1] = true ∧ ratB [1] (Bn.limbs (2 ^ n)) = true := by
 have hf := of_decide_eq_true (two_fits h)
 have h1 : Bn.nv [1] = 1 := by decide
 constructor
 ·refine (ratB_iff (Bn.limbs_limbs _) nrm_one.1).2 ⟨⟨Bn.nrm_limbs _, hf⟩, ⟨nrm_one, by decide⟩, by decide, ?_⟩
  rw [h1, Nat.gcd_one_right]
 ·refine (ratB_iff nrm_one.1 (Bn.limbs_limbs _)).2 ⟨⟨nrm_one, by decide⟩, ⟨Bn.nrm_limbs _, hf⟩, limbs_ne (Nat.pow_pos (by decide)), ?_⟩
  rw [h1, Nat.gcd_one_left]
theorem fits_one : fitsB 1 = true := by decide +kernel
/-- RationalLimits, on numbers -/
theorem limits_facts {i j : Nat} (hi : i ≤ 4095) (hj : j ≤ 4095) :
  (4096 ≤ i + j → mulR (Bn.limbs (2 ^ i)) [1] (Bn.limbs (2 ^ j)) [1] = (([], []), 6) ∧ addR [1] (Bn.limbs (2 ^ i)) [1] (Bn.limbs (2 ^ j)) = (([], []), 6)) ∧
  (i + j < 4096 → ∃ sn sd, mulR (Bn.limbs (2 ^ i)) [1] (Bn.limbs (2 ^ j)) [1] = ((Bn.limbs (2 ^ (i + j)), [1]), 0) ∧ addR [1] (Bn.limbs (2 ^ i)) [1] (Bn.limbs (2 ^ j)) = ((sn, sd), 0) ∧
   bignat_Add.f (Bn.limbs (2 ^ (max i j - min i j))) [1] = some (Bn.limbs (2 ^ (max i j - min i j) + 1), 0) ∧ newB (Bn.limbs (2 ^ (max i j - min i j) + 1)) (Bn.limbs (2 ^ max i j)) = ((sn, sd), 0)) := by
 have h1 : Bn.nv [1] = 1 := by decide
 refine ⟨fun h => ?_, fun h => ?_⟩
 ·constructor
  ·unfold mulR
   rw [if_pos ⟨(two_rat hi).1, (two_rat hj).1⟩, Bn.nv_limbs, Bn.nv_limbs, ← Nat.pow_add, if_neg (by rintro ⟨x, -⟩; rw [two_big h] at x; cases x)]
  ·unfold addR
   rw [if_pos ⟨(two_rat hi).2, (two_rat hj).2⟩, Bn.nv_limbs, Bn.nv_limbs, h1, ← Nat.pow_add, if_neg (by rintro ⟨-, -, x, -⟩; rw [two_big h] at x; cases x)]
 ·have hm : fitsB (2 ^ (i + j)) = true := two_fits (by omega)
  have hl : max i j - min i j ≤ 4095 := by omega
  have hs : fitsB (2 ^ (max i j - min i j) + 1) = true := by
   have h2 := sum_fits (i := max i j - min i j) (j := 0) (by omega)
   rwa [Nat.pow_zero] at h2
  obtain ⟨⟨sn, sd⟩, hr⟩ : ∃ t, redB (2 ^ j + 2 ^ i) (2 ^ (i + j)) = t := ⟨_, rfl⟩
  refine ⟨sn, sd, ?_, ?_, ?_, ?_⟩
  ·unfold mulR
   rw [if_pos ⟨(two_rat hi).1, (two_rat hj).1⟩, Bn.nv_limbs, Bn.nv_limbs, h1, ← Nat.pow_add, if_pos ⟨hm, fits_one⟩]
   unfold redB
   rw [Nat.gcd_one_right, Nat.div_one, limbs_1]
  ·unfold addR
   rw [if_pos ⟨(two_rat hi).2, (two_rat hj).2⟩, Bn.nv_limbs, Bn.nv_limbs, h1, ← Nat.pow_add, Nat.one_mul, Nat.one_mul, if_pos ⟨two_fits hj, two_fits hi, hm, by have h2 := sum_fits (i := j) (j := i) (by omega); exact h2⟩, hr]
  ·have hv : validB [1] = true := (validB_iff nrm_one.1).2 ⟨nrm_one, by decide⟩
   unfold bignat_Add.f
   have hw := of_decide_eq_true (two_fits hl)
   rw [okL_mk (Bn.limbs_limbs _) (by omega), okL_mk nrm_one.1 (by decide), validB_limbs hw, hv, Bn.nv_limbs, h1]
   have hs2 := of_decide_eq_true hs
   show some (fitB (2 ^ (max i j - min i j) + 1)) = _
   unfold fitB
   rw [if_neg (Nat.not_lt.2 hs2)]
  ·rw [newB_limbs hs (two_fits (by omega)) (Nat.pow_pos (by decide)), ← hr]
   congr 1
   refine redB_cross (Nat.pow_pos (by decide)) (Nat.pow_pos (by decide)) ?_
   rcases Nat.le_total i j with hij | hij
   ·rw [Nat.max_eq_right hij, Nat.min_eq_left hij]
    obtain ⟨k, rfl⟩ : ∃ k, j = i + k := ⟨j - i, by omega⟩
    rw [Nat.add_sub_cancel_left, Nat.add_mul, Nat.add_mul, Nat.one_mul, ← Nat.pow_add, ← Nat.pow_add, ← Nat.pow_add, show k + (i + (i + k)) = i + k + (i + k) by omega]
   ·rw [Nat.max_eq_left hij, Nat.min_eq_right hij]
    obtain ⟨k, rfl⟩ : ∃ k, i = j + k := ⟨i - j, by omega⟩
    rw [Nat.add_sub_cancel_left, Nat.add_mul, Nat.add_mul, Nat.one_mul, ← Nat.pow_add, ← Nat.pow_add, ← Nat.pow_add, show k + (j + k + j) = j + k + (j + k) by omega, Nat.add_comm, show j + k + j = j + (j + k) by omega]

set_option maxHeartbeats 16000000 in
set_option maxRecDepth 100000 in
/-- RationalLimits. -/
theorem limitsLaw  (a0 a1 : Int) (w : World)  (ht_ : Tab w)  :
  Calls Tryd.prog 16 #[.int .i64 a0, .int .i64 a1] w fun e w' => e = .returned (.bool true) ∧ Below w.heap.size w w' := by
 have HT_ := Aside0.mk ht_
 clear ht_
 have HB := Aside0.mk (Below.refl w.heap.size w)
 go_enter Tryd.func16, Tryd.ntmps16
 go_wp2_with fail
 refine (awake10_calls w (HT_.out.below HB.out)).mono ?_
 rintro e wa1 ⟨rfl, hb_⟩
 replace HB := Aside0.mk (below_step HB.out hb_)
 clear hb_
 by_cases k1 : a0 < 0
 ·have gk1 : decide (a0 < 0) = true := decide_eq_true k1
  go_wp2_with fail
  go_ret
  exact ⟨rfl, HB.out⟩
 ·have gk1 : decide (a0 < 0) = false := decide_eq_false k1
  by_cases k2 : a1 < 0
  ·have gk2 : decide (a1 < 0) = true := decide_eq_true k2
   go_wp2_with fail
   go_ret
   exact ⟨rfl, HB.out⟩
  ·have gk2 : decide (a1 < 0) = false := decide_eq_false k2
   by_cases k3 : a0 > 4095
   ·have gk3 : decide (a0 > 4095) = true := decide_eq_true k3
    go_wp2_with fail
    go_ret
    exact ⟨rfl, HB.out⟩
   ·have gk3 : decide (a0 > 4095) = false := decide_eq_false k3
    by_cases k4 : a1 > 4095
    ·have gk4 : decide (a1 > 4095) = true := decide_eq_true k4
     go_wp2_with fail
     go_ret
     exact ⟨rfl, HB.out⟩
    ·have gk4 : decide (a1 > 4095) = false := decide_eq_false k4
     obtain ⟨i, rfl⟩ := Int.eq_ofNat_of_zero_le (show 0 ≤ a0 by omega)
     obtain ⟨j, rfl⟩ := Int.eq_ofNat_of_zero_le (show 0 ≤ a1 by omega)
     have hi : i ≤ 4095 := by omega
     have hj : j ≤ 4095 := by omega
     have hSi := Aside0.mk (shift_two hi)
     have hSj := Aside0.mk (shift_two hj)
     have hF := Aside0.mk (limits_facts hi hj)
     have hI := Aside0.mk hi
     have hJ := Aside0.mk hj
     obtain ⟨x, hx⟩ : ∃ x, x = Bn.limbs (2 ^ i) := ⟨_, rfl⟩
     obtain ⟨y, hy⟩ : ∃ y, y = Bn.limbs (2 ^ j) := ⟨_, rfl⟩
     rw [← hx] at hSi hF
     rw [← hy] at hSj hF
     have hxe := Aside0.mk hx
     have hye := Aside0.mk hy
     have hXL := Aside0.mk (show Bn.Limbs x from hx ▸ Bn.limbs_limbs _)
     have hYL := Aside0.mk (show Bn.Limbs y from hy ▸ Bn.limbs_limbs _)
     have hO := Aside0.mk nrm_one.1
     clear hx hy hi hj k1 k2 k3 k4
     go_wp2_with (first | ((with_reducible refine gate_dst (N := 42) rfl ?_); (try (refine gate_guard (by rfl) ?_; dsimp only)); refine lit_event ?hg (N := 42) ?hd [1] 1 rfl (by decide) ?hr ?_; (case hd => rfl); (case hg => rfl); (case hr => first | (go_simp; done) | (go_simp; rfl)); intro Ao1 wa2 hc_ hb_; replace HB := Aside0.mk (below_step HB.out hb_); have Co1 := Aside0.mk hc_; have Ho1 := Aside0.mk (Nat.le_refl 1); clear hc_ hb_))
     refine (bignat_Shift.calls 1100 Ao1 1 [1] (i : Int) x 0 wa2 Co1.out Ho1.out hSi.out).mono ?_
     rintro e wa3 ⟨v_, rfl, hr_, hb_⟩
     replace Co1 := Aside0.mk (Kd.C_below Co1.out hb_)
     replace HB := Aside0.mk (below_step HB.out hb_)
     obtain ⟨Ax, cx, rfl⟩ := Kd.R_slice hr_
     have Cx := Aside0.mk (Kd.R_reads' hr_).2.2
     have Hx := Aside0.mk (show x.length ≤ cx from (Kd.R_reads' hr_).2.1)
     clear hr_ hb_
     go_wp2_with (first | ((with_reducible refine gate_dst (N := 48) rfl ?_); (try (refine gate_guard (by rfl) ?_; dsimp only)); refine lit_event ?hg (N := 48) ?hd [1] 1 rfl (by decide) ?hr ?_; (case hd => rfl); (case hg => rfl); (case hr => first | (go_simp; done) | (go_simp; rfl)); intro Ao2 wa4 hc_ hb_; replace Co1 := Aside0.mk (Kd.C_below Co1.out hb_); replace Cx := Aside0.mk (Kd.C_below Cx.out hb_); replace HB := Aside0.mk (below_step HB.out hb_); have Co2 := Aside0.mk hc_; have Ho2 := Aside0.mk (Nat.le_refl 1); clear hc_ hb_))
     refine (bignat_Shift.calls 1100 Ao2 1 [1] (j : Int) y 0 wa4 Co2.out Ho2.out hSj.out).mono ?_
     rintro e wa5 ⟨v_, rfl, hr_, hb_⟩
     replace Co1 := Aside0.mk (Kd.C_below Co1.out hb_)
     replace Cx := Aside0.mk (Kd.C_below Cx.out hb_)
     replace Co2 := Aside0.mk (Kd.C_below Co2.out hb_)
     replace HB := Aside0.mk (below_step HB.out hb_)
     obtain ⟨Ay, cy, rfl⟩ := Kd.R_slice hr_
     have Cy := Aside0.mk (Kd.R_reads' hr_).2.2
     have Hy := Aside0.mk (show y.length ≤ cy from (Kd.R_reads' hr_).2.1)
     clear hr_ hb_
     by_cases hs : 4096 ≤ i + j
     ·have hi := hI.out
      have hj := hJ.out
      have w1 : wrap64 ((i : Int) + (j : Int)) = (i : Int) + (j : Int) := w64 (by omega) (by omega)
      clear hi hj
      have g5 : decide ((i : Int) + (j : Int) ≥ 4096) = true := decide_eq_true (by omega)
      have hM := Aside0.mk (hF.out.1 hs).1
      have hA := Aside0.mk (hF.out.1 hs).2
      clear hF
      go_wp2_with (first | ((with_reducible refine gate_dst (N := 61) rfl ?_); (try (refine gate_guard (by rfl) ?_; dsimp only)); refine lit_event ?hg (N := 61) ?hd [1] 1 rfl (by decide) ?hr ?_; (case hd => rfl); (case hg => rfl); (case hr => first | (go_simp; done) | (go_simp; rfl)); intro Ao3 wa6 hc_ hb_; replace Co1 := Aside0.mk (Kd.C_below Co1.out hb_); replace Cx := Aside0.mk (Kd.C_below Cx.out hb_); replace Co2 := Aside0.mk (Kd.C_below Co2.out hb_); replace Cy := Aside0.mk (Kd.C_below Cy.out hb_); replace HB := Aside0.mk (below_step HB.out hb_); have Co3 := Aside0.mk hc_; have Ho3 := Aside0.mk (Nat.le_refl 1); clear hc_ hb_) | ((with_reducible refine gate_dst (N := 64) rfl ?_); (try (refine gate_guard (by rfl) ?_; dsimp only)); refine lit_event ?hg (N := 64) ?hd [1] 1 rfl (by decide) ?hr ?_; (case hd => rfl); (case hg => rfl); (case hr => first | (go_simp; done) | (go_simp; rfl)); intro Ao4 wa7 hc_ hb_; replace Co1 := Aside0.mk (Kd.C_below Co1.out hb_); replace Cx := Aside0.mk (Kd.C_below Cx.out hb_); replace Co2 := Aside0.mk (Kd.C_below Co2.out hb_); replace Cy := Aside0.mk (Kd.C_below Cy.out hb_); replace Co3 := Aside0.mk (Kd.C_below Co3.out hb_); replace HB := Aside0.mk (below_step HB.out hb_); have Co4 := Aside0.mk hc_; have Ho4 := Aside0.mk (Nat.le_refl 1); clear hc_ hb_))
      refine (ratMul_calls Ax cx x Ao3 1 [1] Ay cy y Ao4 1 [1] [] [] 6 wa7 Cx.out Hx.out Co3.out Ho3.out Cy.out Hy.out Co4.out Ho4.out hXL.out hO.out hYL.out hO.out hM.out).mono ?_
      rintro e wa8 ⟨Apn, cpn, Apd, cpd, rfl, hCpn_, hHpn_, hCpd_, hHpd_, hb_⟩
      replace Co1 := Aside0.mk (Kd.C_below Co1.out hb_)
      replace Cx := Aside0.mk (Kd.C_below Cx.out hb_)
      replace Co2 := Aside0.mk (Kd.C_below Co2.out hb_)
      replace Cy := Aside0.mk (Kd.C_below Cy.out hb_)
      replace Co3 := Aside0.mk (Kd.C_below Co3.out hb_)
      replace Co4 := Aside0.mk (Kd.C_below Co4.out hb_)
      replace HB := Aside0.mk (below_step HB.out hb_)
      have Cpn := Aside0.mk hCpn_
      have Hpn := Aside0.mk hHpn_
      clear hCpn_ hHpn_
      have Cpd := Aside0.mk hCpd_
      have Hpd := Aside0.mk hHpd_
      clear hCpd_ hHpd_
      clear hb_
      go_wp2_with (first | ((with_reducible refine gate_dst (N := 9) rfl ?_); (try (refine gate_guard (by rfl) ?_; dsimp only)); refine box_event ?hg (N := 9) ?hd (.slice none 0 0) (.slice none 0 0) ?hr ?_; (case hd => rfl); (case hg => rfl); (case hr => first | (go_simp; done) | (go_simp; rfl)); intro bq1 wa9 hx_ hs_ hb_; skip; have Sq1 := Aside0.mk (Nat.le_trans (below_size HB.out) hs_); have Xq1 := Aside0.mk hx_; replace Co1 := Aside0.mk (Kd.C_below Co1.out hb_); replace Cx := Aside0.mk (Kd.C_below Cx.out hb_); replace Co2 := Aside0.mk (Kd.C_below Co2.out hb_); replace Cy := Aside0.mk (Kd.C_below Cy.out hb_); replace Co3 := Aside0.mk (Kd.C_below Co3.out hb_); replace Co4 := Aside0.mk (Kd.C_below Co4.out hb_); replace Cpn := Aside0.mk (Kd.C_below Cpn.out hb_); replace Cpd := Aside0.mk (Kd.C_below Cpd.out hb_); replace HB := Aside0.mk (below_step HB.out hb_); have qaq1 := Bx.c0 Xq1.out; have qbq1 := Bx.c1 Xq1.out; have qcq1 := Bx.f0 Xq1.out; have qdq1 := Bx.f1 Xq1.out; clear hb_ hx_ hs_) | (refine store_event (by rfl) (by rfl) Xq1.out (.slice Apn ([] : List Int).length cpn) (.slice Apd ([] : List Int).length cpd) ?hr ?_; (case hr => first | (go_simp; done) | (go_simp; rfl)); intro wa10 he_ hx_; replace Co1 := Aside0.mk (C_store Xq1.out Co1.out (.slice Apn ([] : List Int).length cpn) (.slice Apd ([] : List Int).length cpd)); replace Cx := Aside0.mk (C_store Xq1.out Cx.out (.slice Apn ([] : List Int).length cpn) (.slice Apd ([] : List Int).length cpd)); replace Co2 := Aside0.mk (C_store Xq1.out Co2.out (.slice Apn ([] : List Int).length cpn) (.slice Apd ([] : List Int).length cpd)); replace Cy := Aside0.mk (C_store Xq1.out Cy.out (.slice Apn ([] : List Int).length cpn) (.slice Apd ([] : List Int).length cpd)); replace Co3 := Aside0.mk (C_store Xq1.out Co3.out (.slice Apn ([] : List Int).length cpn) (.slice Apd ([] : List Int).length cpd)); replace Co4 := Aside0.mk (C_store Xq1.out Co4.out (.slice Apn ([] : List Int).length cpn) (.slice Apd ([] : List Int).length cpd)); replace Cpn := Aside0.mk (C_store Xq1.out Cpn.out (.slice Apn ([] : List Int).length cpn) (.slice Apd ([] : List Int).length cpd)); replace Cpd := Aside0.mk (C_store Xq1.out Cpd.out (.slice Apn ([] : List Int).length cpn) (.slice Apd ([] : List Int).length cpd)); clear qaq1 qbq1; clear qcq1 qdq1; replace HB := Aside0.mk (below_set (j := 1) (v := (.slice Apd ([] : List Int).length cpd)) (below_set (j := 0) (v := (.slice Apn ([] : List Int).length cpn)) HB.out Sq1.out) Sq1.out); clear Xq1; have Xq1 := Aside0.mk hx_; have qaq1 := Bx.c0 Xq1.out; have qbq1 := Bx.c1 Xq1.out; have qcq1 := Bx.f0 Xq1.out; have qdq1 := Bx.f1 Xq1.out; generalize (wa9.setCell ⟨bq1, 0, none⟩ (.slice Apn ([] : List Int).length cpn)).setCell ⟨bq1, 1, none⟩ (.slice Apd ([] : List Int).length cpd) = wg_ at *; subst he_; clear hx_) | ((with_reducible refine gate_dst (N := 70) rfl ?_); (try (refine gate_guard (by rfl) ?_; dsimp only)); refine lit_event ?hg (N := 70) ?hd [1] 1 rfl (by decide) ?hr ?_; (case hd => rfl); (case hg => rfl); (case hr => first | (go_simp; done) | (go_simp; rfl)); intro Ao5 wa11 hc_ hb_; replace Co1 := Aside0.mk (Kd.C_below Co1.out hb_); replace Cx := Aside0.mk (Kd.C_below Cx.out hb_); replace Co2 := Aside0.mk (Kd.C_below Co2.out hb_); replace Cy := Aside0.mk (Kd.C_below Cy.out hb_); replace Co3 := Aside0.mk (Kd.C_below Co3.out hb_); replace Co4 := Aside0.mk (Kd.C_below Co4.out hb_); replace Cpn := Aside0.mk (Kd.C_below Cpn.out hb_); replace Cpd := Aside0.mk (Kd.C_below Cpd.out hb_); clear qaq1 qbq1; clear qcq1 qdq1; replace Xq1 := Aside0.mk (Bx.below Xq1.out hb_); have qaq1 := Bx.c0 Xq1.out; have qbq1 := Bx.c1 Xq1.out; have qcq1 := Bx.f0 Xq1.out; have qdq1 := Bx.f1 Xq1.out; replace HB := Aside0.mk (below_step HB.out hb_); have Co5 := Aside0.mk hc_; have Ho5 := Aside0.mk (Nat.le_refl 1); clear hc_ hb_) | ((with_reducible refine gate_dst (N := 73) rfl ?_); (try (refine gate_guard (by rfl) ?_; dsimp only)); refine lit_event ?hg (N := 73) ?hd [1] 1 rfl (by decide) ?hr ?_; (case hd => rfl); (case hg => rfl); (case hr => first | (go_simp; done) | (go_simp; rfl)); intro Ao6 wa12 hc_ hb_; replace Co1 := Aside0.mk (Kd.C_below Co1.out hb_); replace Cx := Aside0.mk (Kd.C_below Cx.out hb_); replace Co2 := Aside0.mk (Kd.C_below Co2.out hb_); replace Cy := Aside0.mk (Kd.C_below Cy.out hb_); replace Co3 := Aside0.mk (Kd.C_below Co3.out hb_); replace Co4 := Aside0.mk (Kd.C_below Co4.out hb_); replace Cpn := Aside0.mk (Kd.C_below Cpn.out hb_); replace Cpd := Aside0.mk (Kd.C_below Cpd.out hb_); replace Co5 := Aside0.mk (Kd.C_below Co5.out hb_); clear qaq1 qbq1; clear qcq1 qdq1; replace Xq1 := Aside0.mk (Bx.below Xq1.out hb_); have qaq1 := Bx.c0 Xq1.out; have qbq1 := Bx.c1 Xq1.out; have qcq1 := Bx.f0 Xq1.out; have qdq1 := Bx.f1 Xq1.out; replace HB := Aside0.mk (below_step HB.out hb_); have Co6 := Aside0.mk hc_; have Ho6 := Aside0.mk (Nat.le_refl 1); clear hc_ hb_))
      refine (ratAdd_calls Ao5 1 [1] Ax cx x Ao6 1 [1] Ay cy y [] [] 6 wa12 Co5.out Ho5.out Cx.out Hx.out Co6.out Ho6.out Cy.out Hy.out hO.out hXL.out hO.out hYL.out hA.out).mono ?_
      rintro e wa13 ⟨Asn, csn, Asd, csd, rfl, hCsn_, hHsn_, hCsd_, hHsd_, hb_⟩
      replace Co1 := Aside0.mk (Kd.C_below Co1.out hb_)
      replace Cx := Aside0.mk (Kd.C_below Cx.out hb_)
      replace Co2 := Aside0.mk (Kd.C_below Co2.out hb_)
      replace Cy := Aside0.mk (Kd.C_below Cy.out hb_)
      replace Co3 := Aside0.mk (Kd.C_below Co3.out hb_)
      replace Co4 := Aside0.mk (Kd.C_below Co4.out hb_)
      replace Cpn := Aside0.mk (Kd.C_below Cpn.out hb_)
      replace Cpd := Aside0.mk (Kd.C_below Cpd.out hb_)
      replace Co5 := Aside0.mk (Kd.C_below Co5.out hb_)
      replace Co6 := Aside0.mk (Kd.C_below Co6.out hb_)
      clear qaq1 qbq1
      clear qcq1 qdq1
      replace Xq1 := Aside0.mk (Bx.below Xq1.out hb_)
      have qaq1 := Bx.c0 Xq1.out
      have qbq1 := Bx.c1 Xq1.out
      have qcq1 := Bx.f0 Xq1.out
      have qdq1 := Bx.f1 Xq1.out
      replace HB := Aside0.mk (below_step HB.out hb_)
      have Csn := Aside0.mk hCsn_
      have Hsn := Aside0.mk hHsn_
      clear hCsn_ hHsn_
      have Csd := Aside0.mk hCsd_
      have Hsd := Aside0.mk hHsd_
      clear hCsd_ hHsd_
      clear hb_
      go_wp2_with (first | ((with_reducible refine gate_dst (N := 11) rfl ?_); (try (refine gate_guard (by rfl) ?_; dsimp only)); refine box_event ?hg (N := 11) ?hd (.slice none 0 0) (.slice none 0 0) ?hr ?_; (case hd => rfl); (case hg => rfl); (case hr => first | (go_simp; done) | (go_simp; rfl)); intro bq2 wa14 hx_ hs_ hb_; have Nq1q2 := Aside0.mk (Bx.ne Xq1.out hs_); skip; have Sq2 := Aside0.mk (Nat.le_trans (below_size HB.out) hs_); have Xq2 := Aside0.mk hx_; replace Co1 := Aside0.mk (Kd.C_below Co1.out hb_); replace Cx := Aside0.mk (Kd.C_below Cx.out hb_); replace Co2 := Aside0.mk (Kd.C_below Co2.out hb_); replace Cy := Aside0.mk (Kd.C_below Cy.out hb_); replace Co3 := Aside0.mk (Kd.C_below Co3.out hb_); replace Co4 := Aside0.mk (Kd.C_below Co4.out hb_); replace Cpn := Aside0.mk (Kd.C_below Cpn.out hb_); replace Cpd := Aside0.mk (Kd.C_below Cpd.out hb_); replace Co5 := Aside0.mk (Kd.C_below Co5.out hb_); replace Co6 := Aside0.mk (Kd.C_below Co6.out hb_); replace Csn := Aside0.mk (Kd.C_below Csn.out hb_); replace Csd := Aside0.mk (Kd.C_below Csd.out hb_); clear qaq1 qbq1; clear qcq1 qdq1; replace Xq1 := Aside0.mk (Bx.below Xq1.out hb_); have qaq1 := Bx.c0 Xq1.out; have qbq1 := Bx.c1 Xq1.out; have qcq1 := Bx.f0 Xq1.out; have qdq1 := Bx.f1 Xq1.out; replace HB := Aside0.mk (below_step HB.out hb_); have qaq2 := Bx.c0 Xq2.out; have qbq2 := Bx.c1 Xq2.out; have qcq2 := Bx.f0 Xq2.out; have qdq2 := Bx.f1 Xq2.out; clear hb_ hx_ hs_) | (refine store_event (by rfl) (by rfl) Xq2.out (.slice Asn ([] : List Int).length csn) (.slice Asd ([] : List Int).length csd) ?hr ?_; (case hr => first | (go_simp; done) | (go_simp; rfl)); intro wa15 he_ hx_; replace Co1 := Aside0.mk (C_store Xq2.out Co1.out (.slice Asn ([] : List Int).length csn) (.slice Asd ([] : List Int).length csd)); replace Cx := Aside0.mk (C_store Xq2.out Cx.out (.slice Asn ([] : List Int).length csn) (.slice Asd ([] : List Int).length csd)); replace Co2 := Aside0.mk (C_store Xq2.out Co2.out (.slice Asn ([] : List Int).length csn) (.slice Asd ([] : List Int).length csd)); replace Cy := Aside0.mk (C_store Xq2.out Cy.out (.slice Asn ([] : List Int).length csn) (.slice Asd ([] : List Int).length csd)); replace Co3 := Aside0.mk (C_store Xq2.out Co3.out (.slice Asn ([] : List Int).length csn) (.slice Asd ([] : List Int).length csd)); replace Co4 := Aside0.mk (C_store Xq2.out Co4.out (.slice Asn ([] : List Int).length csn) (.slice Asd ([] : List Int).length csd)); replace Cpn := Aside0.mk (C_store Xq2.out Cpn.out (.slice Asn ([] : List Int).length csn) (.slice Asd ([] : List Int).length csd)); replace Cpd := Aside0.mk (C_store Xq2.out Cpd.out (.slice Asn ([] : List Int).length csn) (.slice Asd ([] : List Int).length csd)); replace Co5 := Aside0.mk (C_store Xq2.out Co5.out (.slice Asn ([] : List Int).length csn) (.slice Asd ([] : List Int).length csd)); replace Co6 := Aside0.mk (C_store Xq2.out Co6.out (.slice Asn ([] : List Int).length csn) (.slice Asd ([] : List Int).length csd)); replace Csn := Aside0.mk (C_store Xq2.out Csn.out (.slice Asn ([] : List Int).length csn) (.slice Asd ([] : List Int).length csd)); replace Csd := Aside0.mk (C_store Xq2.out Csd.out (.slice Asn ([] : List Int).length csn) (.slice Asd ([] : List Int).length csd)); clear qaq1 qbq1; clear qcq1 qdq1; replace Xq1 := Aside0.mk (Bx.other Xq1.out Nq1q2.out (.slice Asn ([] : List Int).length csn) (.slice Asd ([] : List Int).length csd)); clear qaq2 qbq2; clear qcq2 qdq2; replace HB := Aside0.mk (below_set (j := 1) (v := (.slice Asd ([] : List Int).length csd)) (below_set (j := 0) (v := (.slice Asn ([] : List Int).length csn)) HB.out Sq2.out) Sq2.out); clear Xq2; have Xq2 := Aside0.mk hx_; have qaq1 := Bx.c0 Xq1.out; have qbq1 := Bx.c1 Xq1.out; have qcq1 := Bx.f0 Xq1.out; have qdq1 := Bx.f1 Xq1.out; have qaq2 := Bx.c0 Xq2.out; have qbq2 := Bx.c1 Xq2.out; have qcq2 := Bx.f0 Xq2.out; have qdq2 := Bx.f1 Xq2.out; generalize (wa14.setCell ⟨bq2, 0, none⟩ (.slice Asn ([] : List Int).length csn)).setCell ⟨bq2, 1, none⟩ (.slice Asd ([] : List Int).length csd) = wg_ at *; subst he_; clear hx_))
      go_ret
      exact ⟨rfl, HB.out⟩
     ·have g5 : decide ((i : Int) + (j : Int) ≥ 4096) = false := decide_eq_false (by omega)
      obtain ⟨sn, sd, m1, m2, m3, m4⟩ := hF.out.2 (by omega)
      obtain ⟨z, hz⟩ : ∃ z, z = Bn.limbs (2 ^ (i + j)) := ⟨_, rfl⟩
      obtain ⟨v, hv⟩ : ∃ v, v = Bn.limbs (2 ^ (max i j - min i j)) := ⟨_, rfl⟩
      obtain ⟨u, hu⟩ : ∃ u, u = Bn.limbs (2 ^ (max i j - min i j) + 1) := ⟨_, rfl⟩
      obtain ⟨d, hd⟩ : ∃ d, d = Bn.limbs (2 ^ max i j) := ⟨_, rfl⟩
      have hi := hI.out
      have hj := hJ.out
      have hSz := Aside0.mk (shift_two (show i + j ≤ 4095 by omega))
      have hSv := Aside0.mk (shift_two (show max i j - min i j ≤ 4095 by omega))
      have hSd := Aside0.mk (shift_two (show max i j ≤ 4095 by omega))
      rw [← hz] at m1 hSz
      rw [← hv] at m3 hSv
      rw [← hu] at m3 m4
      rw [← hd] at m4 hSd
      have hM := Aside0.mk m1
      have hA := Aside0.mk m2
      have hAd := Aside0.mk m3
      have hN := Aside0.mk (show Bn.Limbs u ∧ Bn.Limbs d ∧ newB u d = ((sn, sd), 0) from ⟨hu ▸ Bn.limbs_limbs _, hd ▸ Bn.limbs_limbs _, m4⟩)
      have hSl := Aside0.mk (addR_len m2)
      have hC := Aside0.mk (show bignat_Compare.f 200 z z = some 0 from by rw [Compare_f (hz ▸ Bn.limbs_limbs _) (hz ▸ Bn.limbs_limbs _) (by decide), cmpN_self])
      have hmx : (max (i : Int) (j : Int)) = ((max i j : Nat) : Int) := by omega
      have hmn : (min (i : Int) (j : Int)) = ((min i j : Nat) : Int) := by omega
      have w1 : wrap64 ((i : Int) + (j : Int)) = (i : Int) + (j : Int) := w64 (by omega) (by omega)
      rw [show ((i + j : Nat) : Int) = (i : Int) + (j : Int) by omega] at hSz
      rw [show ((max i j - min i j : Nat) : Int) = ((max i j : Nat) : Int) - ((min i j : Nat) : Int) by omega] at hSv
      clear m1 m2 m3 m4 hz hv hu hd hF hs
      go_wp2_with (first | ((with_reducible refine gate_dst (N := 61) rfl ?_); (try (refine gate_guard (by rfl) ?_; dsimp only)); refine lit_event ?hg (N := 61) ?hd [1] 1 rfl (by decide) ?hr ?_; (case hd => rfl); (case hg => rfl); (case hr => first | (go_simp; done) | (go_simp; rfl)); intro Ao3 wa6 hc_ hb_; replace Co1 := Aside0.mk (Kd.C_below Co1.out hb_); replace Cx := Aside0.mk (Kd.C_below Cx.out hb_); replace Co2 := Aside0.mk (Kd.C_below Co2.out hb_); replace Cy := Aside0.mk (Kd.C_below Cy.out hb_); replace HB := Aside0.mk (below_step HB.out hb_); have Co3 := Aside0.mk hc_; have Ho3 := Aside0.mk (Nat.le_refl 1); clear hc_ hb_) | ((with_reducible refine gate_dst (N := 64) rfl ?_); (try (refine gate_guard (by rfl) ?_; dsimp only)); refine lit_event ?hg (N := 64) ?hd [1] 1 rfl (by decide) ?hr ?_; (case hd => rfl); (case hg => rfl); (case hr => first | (go_simp; done) | (go_simp; rfl)); intro Ao4 wa7 hc_ hb_; replace Co1 := Aside0.mk (Kd.C_below Co1.out hb_); replace Cx := Aside0.mk (Kd.C_below Cx.out hb_); replace Co2 := Aside0.mk (Kd.C_below Co2.out hb_); replace Cy := Aside0.mk (Kd.C_below Cy.out hb_); replace Co3 := Aside0.mk (Kd.C_below Co3.out hb_); replace HB := Aside0.mk (below_step HB.out hb_); have Co4 := Aside0.mk hc_; have Ho4 := Aside0.mk (Nat.le_refl 1); clear hc_ hb_))
      refine (ratMul_calls Ax cx x Ao3 1 [1] Ay cy y Ao4 1 [1] z [1] 0 wa7 Cx.out Hx.out Co3.out Ho3.out Cy.out Hy.out Co4.out Ho4.out hXL.out hO.out hYL.out hO.out hM.out).mono ?_
      rintro e wa8 ⟨Apn, cpn, Apd, cpd, rfl, hCpn_, hHpn_, hCpd_, hHpd_, hb_⟩
      replace Co1 := Aside0.mk (Kd.C_below Co1.out hb_)
      replace Cx := Aside0.mk (Kd.C_below Cx.out hb_)
      replace Co2 := Aside0.mk (Kd.C_below Co2.out hb_)
      replace Cy := Aside0.mk (Kd.C_below Cy.out hb_)
      replace Co3 := Aside0.mk (Kd.C_below Co3.out hb_)
      replace Co4 := Aside0.mk (Kd.C_below Co4.out hb_)
      replace HB := Aside0.mk (below_step HB.out hb_)
      have Cpn := Aside0.mk hCpn_
      have Hpn := Aside0.mk hHpn_
      clear hCpn_ hHpn_
      have Cpd := Aside0.mk hCpd_
      have Hpd := Aside0.mk hHpd_
      clear hCpd_ hHpd_
      clear hb_
      go_wp2_with (first | ((with_reducible refine gate_dst (N := 9) rfl ?_); (try (refine gate_guard (by rfl) ?_; dsimp only)); refine box_event ?hg (N := 9) ?hd (.slice none 0 0) (.slice none 0 0) ?hr ?_; (case hd => rfl); (case hg => rfl); (case hr => first | (go_simp; done) | (go_simp; rfl)); intro bq1 wa9 hx_ hs_ hb_; skip; have Sq1 := Aside0.mk (Nat.le_trans (below_size HB.out) hs_); have Xq1 := Aside0.mk hx_; replace Co1 := Aside0.mk (Kd.C_below Co1.out hb_); replace Cx := Aside0.mk (Kd.C_below Cx.out hb_); replace Co2 := Aside0.mk (Kd.C_below Co2.out hb_); replace Cy := Aside0.mk (Kd.C_below Cy.out hb_); replace Co3 := Aside0.mk (Kd.C_below Co3.out hb_); replace Co4 := Aside0.mk (Kd.C_below Co4.out hb_); replace Cpn := Aside0.mk (Kd.C_below Cpn.out hb_); replace Cpd := Aside0.mk (Kd.C_below Cpd.out hb_); replace HB := Aside0.mk (below_step HB.out hb_); have qaq1 := Bx.c0 Xq1.out; have qbq1 := Bx.c1 Xq1.out; have qcq1 := Bx.f0 Xq1.out; have qdq1 := Bx.f1 Xq1.out; clear hb_ hx_ hs_) | (refine store_event (by rfl) (by rfl) Xq1.out (.slice Apn z.length cpn) (.slice Apd ([1] : List Int).length cpd) ?hr ?_; (case hr => first | (go_simp; done) | (go_simp; rfl)); intro wa10 he_ hx_; replace Co1 := Aside0.mk (C_store Xq1.out Co1.out (.slice Apn z.length cpn) (.slice Apd ([1] : List Int).length cpd)); replace Cx := Aside0.mk (C_store Xq1.out Cx.out (.slice Apn z.length cpn) (.slice Apd ([1] : List Int).length cpd)); replace Co2 := Aside0.mk (C_store Xq1.out Co2.out (.slice Apn z.length cpn) (.slice Apd ([1] : List Int).length cpd)); replace Cy := Aside0.mk (C_store Xq1.out Cy.out (.slice Apn z.length cpn) (.slice Apd ([1] : List Int).length cpd)); replace Co3 := Aside0.mk (C_store Xq1.out Co3.out (.slice Apn z.length cpn) (.slice Apd ([1] : List Int).length cpd)); replace Co4 := Aside0.mk (C_store Xq1.out Co4.out (.slice Apn z.length cpn) (.slice Apd ([1] : List Int).length cpd)); replace Cpn := Aside0.mk (C_store Xq1.out Cpn.out (.slice Apn z.length cpn) (.slice Apd ([1] : List Int).length cpd)); replace Cpd := Aside0.mk (C_store Xq1.out Cpd.out (.slice Apn z.length cpn) (.slice Apd ([1] : List Int).length cpd)); clear qaq1 qbq1; clear qcq1 qdq1; replace HB := Aside0.mk (below_set (j := 1) (v := (.slice Apd ([1] : List Int).length cpd)) (below_set (j := 0) (v := (.slice Apn z.length cpn)) HB.out Sq1.out) Sq1.out); clear Xq1; have Xq1 := Aside0.mk hx_; have qaq1 := Bx.c0 Xq1.out; have qbq1 := Bx.c1 Xq1.out; have qcq1 := Bx.f0 Xq1.out; have qdq1 := Bx.f1 Xq1.out; generalize (wa9.setCell ⟨bq1, 0, none⟩ (.slice Apn z.length cpn)).setCell ⟨bq1, 1, none⟩ (.slice Apd ([1] : List Int).length cpd) = wg_ at *; subst he_; clear hx_) | ((with_reducible refine gate_dst (N := 70) rfl ?_); (try (refine gate_guard (by rfl) ?_; dsimp only)); refine lit_event ?hg (N := 70) ?hd [1] 1 rfl (by decide) ?hr ?_; (case hd => rfl); (case hg => rfl); (case hr => first | (go_simp; done) | (go_simp; rfl)); intro Ao5 wa11 hc_ hb_; replace Co1 := Aside0.mk (Kd.C_below Co1.out hb_); replace Cx := Aside0.mk (Kd.C_below Cx.out hb_); replace Co2 := Aside0.mk (Kd.C_below Co2.out hb_); replace Cy := Aside0.mk (Kd.C_below Cy.out hb_); replace Co3 := Aside0.mk (Kd.C_below Co3.out hb_); replace Co4 := Aside0.mk (Kd.C_below Co4.out hb_); replace Cpn := Aside0.mk (Kd.C_below Cpn.out hb_); replace Cpd := Aside0.mk (Kd.C_below Cpd.out hb_); clear qaq1 qbq1; clear qcq1 qdq1; replace Xq1 := Aside0.mk (Bx.below Xq1.out hb_); have qaq1 := Bx.c0 Xq1.out; have qbq1 := Bx.c1 Xq1.out; have qcq1 := Bx.f0 Xq1.out; have qdq1 := Bx.f1 Xq1.out; replace HB := Aside0.mk (below_step HB.out hb_); have Co5 := Aside0.mk hc_; have Ho5 := Aside0.mk (Nat.le_refl 1); clear hc_ hb_) | ((with_reducible refine gate_dst (N := 73) rfl ?_); (try (refine gate_guard (by rfl) ?_; dsimp only)); refine lit_event ?hg (N := 73) ?hd [1] 1 rfl (by decide) ?hr ?_; (case hd => rfl); (case hg => rfl); (case hr => first | (go_simp; done) | (go_simp; rfl)); intro Ao6 wa12 hc_ hb_; replace Co1 := Aside0.mk (Kd.C_below Co1.out hb_); replace Cx := Aside0.mk (Kd.C_below Cx.out hb_); replace Co2 := Aside0.mk (Kd.C_below Co2.out hb_); replace Cy := Aside0.mk (Kd.C_below Cy.out hb_); replace Co3 := Aside0.mk (Kd.C_below Co3.out hb_); replace Co4 := Aside0.mk (Kd.C_below Co4.out hb_); replace Cpn := Aside0.mk (Kd.C_below Cpn.out hb_); replace Cpd := Aside0.mk (Kd.C_below Cpd.out hb_); replace Co5 := Aside0.mk (Kd.C_below Co5.out hb_); clear qaq1 qbq1; clear qcq1 qdq1; replace Xq1 := Aside0.mk (Bx.below Xq1.out hb_); have qaq1 := Bx.c0 Xq1.out; have qbq1 := Bx.c1 Xq1.out; have qcq1 := Bx.f0 Xq1.out; have qdq1 := Bx.f1 Xq1.out; replace HB := Aside0.mk (below_step HB.out hb_); have Co6 := Aside0.mk hc_; have Ho6 := Aside0.mk (Nat.le_refl 1); clear hc_ hb_))
      refine (ratAdd_calls Ao5 1 [1] Ax cx x Ao6 1 [1] Ay cy y sn sd 0 wa12 Co5.out Ho5.out Cx.out Hx.out Co6.out Ho6.out Cy.out Hy.out hO.out hXL.out hO.out hYL.out hA.out).mono ?_
      rintro e wa13 ⟨Asn, csn, Asd, csd, rfl, hCsn_, hHsn_, hCsd_, hHsd_, hb_⟩
      replace Co1 := Aside0.mk (Kd.C_below Co1.out hb_)
      replace Cx := Aside0.mk (Kd.C_below Cx.out hb_)
      replace Co2 := Aside0.mk (Kd.C_below Co2.out hb_)
      replace Cy := Aside0.mk (Kd.C_below Cy.out hb_)
      replace Co3 := Aside0.mk (Kd.C_below Co3.out hb_)
      replace Co4 := Aside0.mk (Kd.C_below Co4.out hb_)
      replace Cpn := Aside0.mk (Kd.C_below Cpn.out hb_)
      replace Cpd := Aside0.mk (Kd.C_below Cpd.out hb_)
      replace Co5 := Aside0.mk (Kd.C_below Co5.out hb_)
      replace Co6 := Aside0.mk (Kd.C_below Co6.out hb_)
      clear qaq1 qbq1
      clear qcq1 qdq1
      replace Xq1 := Aside0.mk (Bx.below Xq1.out hb_)
      have qaq1 := Bx.c0 Xq1.out
      have qbq1 := Bx.c1 Xq1.out
      have qcq1 := Bx.f0 Xq1.out
      have qdq1 := Bx.f1 Xq1.out
      replace HB := Aside0.mk (below_step HB.out hb_)
      have Csn := Aside0.mk hCsn_
      have Hsn := Aside0.mk hHsn_
      clear hCsn_ hHsn_
      have Csd := Aside0.mk hCsd_
      have Hsd := Aside0.mk hHsd_
      clear hCsd_ hHsd_
      clear hb_
      go_wp2_with (first | ((with_reducible refine gate_dst (N := 11) rfl ?_); (try (refine gate_guard (by rfl) ?_; dsimp only)); refine box_event ?hg (N := 11) ?hd (.slice none 0 0) (.slice none 0 0) ?hr ?_; (case hd => rfl); (case hg => rfl); (case hr => first | (go_simp; done) | (go_simp; rfl)); intro bq2 wa14 hx_ hs_ hb_; have Nq1q2 := Aside0.mk (Bx.ne Xq1.out hs_); skip; have Sq2 := Aside0.mk (Nat.le_trans (below_size HB.out) hs_); have Xq2 := Aside0.mk hx_; replace Co1 := Aside0.mk (Kd.C_below Co1.out hb_); replace Cx := Aside0.mk (Kd.C_below Cx.out hb_); replace Co2 := Aside0.mk (Kd.C_below Co2.out hb_); replace Cy := Aside0.mk (Kd.C_below Cy.out hb_); replace Co3 := Aside0.mk (Kd.C_below Co3.out hb_); replace Co4 := Aside0.mk (Kd.C_below Co4.out hb_); replace Cpn := Aside0.mk (Kd.C_below Cpn.out hb_); replace Cpd := Aside0.mk (Kd.C_below Cpd.out hb_); replace Co5 := Aside0.mk (Kd.C_below Co5.out hb_); replace Co6 := Aside0.mk (Kd.C_below Co6.out hb_); replace Csn := Aside0.mk (Kd.C_below Csn.out hb_); replace Csd := Aside0.mk (Kd.C_below Csd.out hb_); clear qaq1 qbq1; clear qcq1 qdq1; replace Xq1 := Aside0.mk (Bx.below Xq1.out hb_); have qaq1 := Bx.c0 Xq1.out; have qbq1 := Bx.c1 Xq1.out; have qcq1 := Bx.f0 Xq1.out; have qdq1 := Bx.f1 Xq1.out; replace HB := Aside0.mk (below_step HB.out hb_); have qaq2 := Bx.c0 Xq2.out; have qbq2 := Bx.c1 Xq2.out; have qcq2 := Bx.f0 Xq2.out; have qdq2 := Bx.f1 Xq2.out; clear hb_ hx_ hs_) | (refine store_event (by rfl) (by rfl) Xq2.out (.slice Asn sn.length csn) (.slice Asd sd.length csd) ?hr ?_; (case hr => first | (go_simp; done) | (go_simp; rfl)); intro wa15 he_ hx_; replace Co1 := Aside0.mk (C_store Xq2.out Co1.out (.slice Asn sn.length csn) (.slice Asd sd.length csd)); replace Cx := Aside0.mk (C_store Xq2.out Cx.out (.slice Asn sn.length csn) (.slice Asd sd.length csd)); replace Co2 := Aside0.mk (C_store Xq2.out Co2.out (.slice Asn sn.length csn) (.slice Asd sd.length csd)); replace Cy := Aside0.mk (C_store Xq2.out Cy.out (.slice Asn sn.length csn) (.slice Asd sd.length csd)); replace Co3 := Aside0.mk (C_store Xq2.out Co3.out (.slice Asn sn.length csn) (.slice Asd sd.length csd)); replace Co4 := Aside0.mk (C_store Xq2.out Co4.out (.slice Asn sn.length csn) (.slice Asd sd.length csd)); replace Cpn := Aside0.mk (C_store Xq2.out Cpn.out (.slice Asn sn.length csn) (.slice Asd sd.length csd)); replace Cpd := Aside0.mk (C_store Xq2.out Cpd.out (.slice Asn sn.length csn) (.slice Asd sd.length csd)); replace Co5 := Aside0.mk (C_store Xq2.out Co5.out (.slice Asn sn.length csn) (.slice Asd sd.length csd)); replace Co6 := Aside0.mk (C_store Xq2.out Co6.out (.slice Asn sn.length csn) (.slice Asd sd.length csd)); replace Csn := Aside0.mk (C_store Xq2.out Csn.out (.slice Asn sn.length csn) (.slice Asd sd.length csd)); replace Csd := Aside0.mk (C_store Xq2.out Csd.out (.slice Asn sn.length csn) (.slice Asd sd.length csd)); clear qaq1 qbq1; clear qcq1 qdq1; replace Xq1 := Aside0.mk (Bx.other Xq1.out Nq1q2.out (.slice Asn sn.length csn) (.slice Asd sd.length csd)); clear qaq2 qbq2; clear qcq2 qdq2; replace HB := Aside0.mk (below_set (j := 1) (v := (.slice Asd sd.length csd)) (below_set (j := 0) (v := (.slice Asn sn.length csn)) HB.out Sq2.out) Sq2.out); clear Xq2; have Xq2 := Aside0.mk hx_; have qaq1 := Bx.c0 Xq1.out; have qbq1 := Bx.c1 Xq1.out; have qcq1 := Bx.f0 Xq1.out; have qdq1 := Bx.f1 Xq1.out; have qaq2 := Bx.c0 Xq2.out; have qbq2 := Bx.c1 Xq2.out; have qcq2 := Bx.f0 Xq2.out; have qdq2 := Bx.f1 Xq2.out; generalize (wa14.setCell ⟨bq2, 0, none⟩ (.slice Asn sn.length csn)).setCell ⟨bq2, 1, none⟩ (.slice Asd sd.length csd) = wg_ at *; subst he_; clear hx_) | ((with_reducible refine gate_dst (N := 102) rfl ?_); (try (refine gate_guard (by rfl) ?_; dsimp only)); refine lit_event ?hg (N := 102) ?hd [1] 1 rfl (by decide) ?hr ?_; (case hd => rfl); (case hg => rfl); (case hr => first | (go_simp; done) | (go_simp; rfl)); intro Ao7 wa16 hc_ hb_; replace Co1 := Aside0.mk (Kd.C_below Co1.out hb_); replace Cx := Aside0.mk (Kd.C_below Cx.out hb_); replace Co2 := Aside0.mk (Kd.C_below Co2.out hb_); replace Cy := Aside0.mk (Kd.C_below Cy.out hb_); replace Co3 := Aside0.mk (Kd.C_below Co3.out hb_); replace Co4 := Aside0.mk (Kd.C_below Co4.out hb_); replace Cpn := Aside0.mk (Kd.C_below Cpn.out hb_); replace Cpd := Aside0.mk (Kd.C_below Cpd.out hb_); replace Co5 := Aside0.mk (Kd.C_below Co5.out hb_); replace Co6 := Aside0.mk (Kd.C_below Co6.out hb_); replace Csn := Aside0.mk (Kd.C_below Csn.out hb_); replace Csd := Aside0.mk (Kd.C_below Csd.out hb_); clear qaq1 qbq1; clear qcq1 qdq1; replace Xq1 := Aside0.mk (Bx.below Xq1.out hb_); have qaq1 := Bx.c0 Xq1.out; have qbq1 := Bx.c1 Xq1.out; have qcq1 := Bx.f0 Xq1.out; have qdq1 := Bx.f1 Xq1.out; clear qaq2 qbq2; clear qcq2 qdq2; replace Xq2 := Aside0.mk (Bx.below Xq2.out hb_); have qaq2 := Bx.c0 Xq2.out; have qbq2 := Bx.c1 Xq2.out; have qcq2 := Bx.f0 Xq2.out; have qdq2 := Bx.f1 Xq2.out; replace HB := Aside0.mk (below_step HB.out hb_); have Co7 := Aside0.mk hc_; have Ho7 := Aside0.mk (Nat.le_refl 1); clear hc_ hb_))
      refine (bignat_Shift.calls 1100 Ao7 1 [1] ((i : Int) + (j : Int)) z 0 wa16 Co7.out Ho7.out hSz.out).mono ?_
      rintro e wa17 ⟨v_, rfl, hr_, hb_⟩
      replace Co1 := Aside0.mk (Kd.C_below Co1.out hb_)
      replace Cx := Aside0.mk (Kd.C_below Cx.out hb_)
      replace Co2 := Aside0.mk (Kd.C_below Co2.out hb_)
      replace Cy := Aside0.mk (Kd.C_below Cy.out hb_)
      replace Co3 := Aside0.mk (Kd.C_below Co3.out hb_)
      replace Co4 := Aside0.mk (Kd.C_below Co4.out hb_)
      replace Cpn := Aside0.mk (Kd.C_below Cpn.out hb_)
      replace Cpd := Aside0.mk (Kd.C_below Cpd.out hb_)
      replace Co5 := Aside0.mk (Kd.C_below Co5.out hb_)
      replace Co6 := Aside0.mk (Kd.C_below Co6.out hb_)
      replace Csn := Aside0.mk (Kd.C_below Csn.out hb_)
      replace Csd := Aside0.mk (Kd.C_below Csd.out hb_)
      replace Co7 := Aside0.mk (Kd.C_below Co7.out hb_)
      clear qaq1 qbq1
      clear qcq1 qdq1
      replace Xq1 := Aside0.mk (Bx.below Xq1.out hb_)
      have qaq1 := Bx.c0 Xq1.out
      have qbq1 := Bx.c1 Xq1.out
      have qcq1 := Bx.f0 Xq1.out
      have qdq1 := Bx.f1 Xq1.out
      clear qaq2 qbq2
      clear qcq2 qdq2
      replace Xq2 := Aside0.mk (Bx.below Xq2.out hb_)
      have qaq2 := Bx.c0 Xq2.out
      have qbq2 := Bx.c1 Xq2.out
      have qcq2 := Bx.f0 Xq2.out
      have qdq2 := Bx.f1 Xq2.out
      replace HB := Aside0.mk (below_step HB.out hb_)
      obtain ⟨Az, cz, rfl⟩ := Kd.R_slice hr_
      have Cz := Aside0.mk (Kd.R_reads' hr_).2.2
      have Hz := Aside0.mk (show z.length ≤ cz from (Kd.R_reads' hr_).2.1)
      clear hr_ hb_
      go_wp2_with (first | ((with_reducible refine gate_dst (N := 116) rfl ?_); (try (refine gate_guard (by rfl) ?_; dsimp only)); refine lit_event ?hg (N := 116) ?hd [1] 1 rfl (by decide) ?hr ?_; (case hd => rfl); (case hg => rfl); (case hr => first | (go_simp; done) | (go_simp; rfl)); intro Ao8 wa18 hc_ hb_; replace Co1 := Aside0.mk (Kd.C_below Co1.out hb_); replace Cx := Aside0.mk (Kd.C_below Cx.out hb_); replace Co2 := Aside0.mk (Kd.C_below Co2.out hb_); replace Cy := Aside0.mk (Kd.C_below Cy.out hb_); replace Co3 := Aside0.mk (Kd.C_below Co3.out hb_); replace Co4 := Aside0.mk (Kd.C_below Co4.out hb_); replace Cpn := Aside0.mk (Kd.C_below Cpn.out hb_); replace Cpd := Aside0.mk (Kd.C_below Cpd.out hb_); replace Co5 := Aside0.mk (Kd.C_below Co5.out hb_); replace Co6 := Aside0.mk (Kd.C_below Co6.out hb_); replace Csn := Aside0.mk (Kd.C_below Csn.out hb_); replace Csd := Aside0.mk (Kd.C_below Csd.out hb_); replace Co7 := Aside0.mk (Kd.C_below Co7.out hb_); replace Cz := Aside0.mk (Kd.C_below Cz.out hb_); clear qaq1 qbq1; clear qcq1 qdq1; replace Xq1 := Aside0.mk (Bx.below Xq1.out hb_); have qaq1 := Bx.c0 Xq1.out; have qbq1 := Bx.c1 Xq1.out; have qcq1 := Bx.f0 Xq1.out; have qdq1 := Bx.f1 Xq1.out; clear qaq2 qbq2; clear qcq2 qdq2; replace Xq2 := Aside0.mk (Bx.below Xq2.out hb_); have qaq2 := Bx.c0 Xq2.out; have qbq2 := Bx.c1 Xq2.out; have qcq2 := Bx.f0 Xq2.out; have qdq2 := Bx.f1 Xq2.out; replace HB := Aside0.mk (below_step HB.out hb_); have Co8 := Aside0.mk hc_; have Ho8 := Aside0.mk (Nat.le_refl 1); clear hc_ hb_))
      refine (bignat_Shift.calls 1100 Ao8 1 [1] (((max i j : Nat) : Int) - ((min i j : Nat) : Int)) v 0 wa18 Co8.out Ho8.out hSv.out).mono ?_
      rintro e wa19 ⟨v_, rfl, hr_, hb_⟩
      replace Co1 := Aside0.mk (Kd.C_below Co1.out hb_)
      replace Cx := Aside0.mk (Kd.C_below Cx.out hb_)
      replace Co2 := Aside0.mk (Kd.C_below Co2.out hb_)
      replace Cy := Aside0.mk (Kd.C_below Cy.out hb_)
      replace Co3 := Aside0.mk (Kd.C_below Co3.out hb_)
      replace Co4 := Aside0.mk (Kd.C_below Co4.out hb_)
      replace Cpn := Aside0.mk (Kd.C_below Cpn.out hb_)
      replace Cpd := Aside0.mk (Kd.C_below Cpd.out hb_)
      replace Co5 := Aside0.mk (Kd.C_below Co5.out hb_)
      replace Co6 := Aside0.mk (Kd.C_below Co6.out hb_)
      replace Csn := Aside0.mk (Kd.C_below Csn.out hb_)
      replace Csd := Aside0.mk (Kd.C_below Csd.out hb_)
      replace Co7 := Aside0.mk (Kd.C_below Co7.out hb_)
      replace Cz := Aside0.mk (Kd.C_below Cz.out hb_)
      replace Co8 := Aside0.mk (Kd.C_below Co8.out hb_)
      clear qaq1 qbq1
      clear qcq1 qdq1
      replace Xq1 := Aside0.mk (Bx.below Xq1.out hb_)
      have qaq1 := Bx.c0 Xq1.out
      have qbq1 := Bx.c1 Xq1.out
      have qcq1 := Bx.f0 Xq1.out
      have qdq1 := Bx.f1 Xq1.out
      clear qaq2 qbq2
      clear qcq2 qdq2
      replace Xq2 := Aside0.mk (Bx.below Xq2.out hb_)
      have qaq2 := Bx.c0 Xq2.out
      have qbq2 := Bx.c1 Xq2.out
      have qcq2 := Bx.f0 Xq2.out
      have qdq2 := Bx.f1 Xq2.out
      replace HB := Aside0.mk (below_step HB.out hb_)
      obtain ⟨Av, cv, rfl⟩ := Kd.R_slice hr_
      have Cv := Aside0.mk (Kd.R_reads' hr_).2.2
      have Hv := Aside0.mk (show v.length ≤ cv from (Kd.R_reads' hr_).2.1)
      clear hr_ hb_
      go_wp2_with fail
      refine (bignat_Compare.calls 200 Apn cpn z Az cz z 0 wa19 Cpn.out Hpn.out Cz.out Hz.out hC.out).mono ?_
      rintro e wa20 ⟨rfl, hb_⟩
      replace Co1 := Aside0.mk (Kd.C_below Co1.out hb_)
      replace Cx := Aside0.mk (Kd.C_below Cx.out hb_)
      replace Co2 := Aside0.mk (Kd.C_below Co2.out hb_)
      replace Cy := Aside0.mk (Kd.C_below Cy.out hb_)
      replace Co3 := Aside0.mk (Kd.C_below Co3.out hb_)
      replace Co4 := Aside0.mk (Kd.C_below Co4.out hb_)
      replace Cpn := Aside0.mk (Kd.C_below Cpn.out hb_)
      replace Cpd := Aside0.mk (Kd.C_below Cpd.out hb_)
      replace Co5 := Aside0.mk (Kd.C_below Co5.out hb_)
      replace Co6 := Aside0.mk (Kd.C_below Co6.out hb_)
      replace Csn := Aside0.mk (Kd.C_below Csn.out hb_)
      replace Csd := Aside0.mk (Kd.C_below Csd.out hb_)
      replace Co7 := Aside0.mk (Kd.C_below Co7.out hb_)
      replace Cz := Aside0.mk (Kd.C_below Cz.out hb_)
      replace Co8 := Aside0.mk (Kd.C_below Co8.out hb_)
      replace Cv := Aside0.mk (Kd.C_below Cv.out hb_)
      clear qaq1 qbq1
      clear qcq1 qdq1
      replace Xq1 := Aside0.mk (Bx.below Xq1.out hb_)
      have qaq1 := Bx.c0 Xq1.out
      have qbq1 := Bx.c1 Xq1.out
      have qcq1 := Bx.f0 Xq1.out
      have qdq1 := Bx.f1 Xq1.out
      clear qaq2 qbq2
      clear qcq2 qdq2
      replace Xq2 := Aside0.mk (Bx.below Xq2.out hb_)
      have qaq2 := Bx.c0 Xq2.out
      have qbq2 := Bx.c1 Xq2.out
      have qcq2 := Bx.f0 Xq2.out
      have qdq2 := Bx.f1 Xq2.out
      replace HB := Aside0.mk (below_step HB.out hb_)
      clear hb_
      go_wp2_with (first | ((with_reducible refine gate_dst (N := 146) rfl ?_); (try (refine gate_guard (by rfl) ?_; dsimp only)); refine lit_event ?hg (N := 146) ?hd [1] 1 rfl (by decide) ?hr ?_; (case hd => rfl); (case hg => rfl); (case hr => first | (go_simp; done) | (go_simp; rfl)); intro Ao9 wa21 hc_ hb_; replace Co1 := Aside0.mk (Kd.C_below Co1.out hb_); replace Cx := Aside0.mk (Kd.C_below Cx.out hb_); replace Co2 := Aside0.mk (Kd.C_below Co2.out hb_); replace Cy := Aside0.mk (Kd.C_below Cy.out hb_); replace Co3 := Aside0.mk (Kd.C_below Co3.out hb_); replace Co4 := Aside0.mk (Kd.C_below Co4.out hb_); replace Cpn := Aside0.mk (Kd.C_below Cpn.out hb_); replace Cpd := Aside0.mk (Kd.C_below Cpd.out hb_); replace Co5 := Aside0.mk (Kd.C_below Co5.out hb_); replace Co6 := Aside0.mk (Kd.C_below Co6.out hb_); replace Csn := Aside0.mk (Kd.C_below Csn.out hb_); replace Csd := Aside0.mk (Kd.C_below Csd.out hb_); replace Co7 := Aside0.mk (Kd.C_below Co7.out hb_); replace Cz := Aside0.mk (Kd.C_below Cz.out hb_); replace Co8 := Aside0.mk (Kd.C_below Co8.out hb_); replace Cv := Aside0.mk (Kd.C_below Cv.out hb_); clear qaq1 qbq1; clear qcq1 qdq1; replace Xq1 := Aside0.mk (Bx.below Xq1.out hb_); have qaq1 := Bx.c0 Xq1.out; have qbq1 := Bx.c1 Xq1.out; have qcq1 := Bx.f0 Xq1.out; have qdq1 := Bx.f1 Xq1.out; clear qaq2 qbq2; clear qcq2 qdq2; replace Xq2 := Aside0.mk (Bx.below Xq2.out hb_); have qaq2 := Bx.c0 Xq2.out; have qbq2 := Bx.c1 Xq2.out; have qcq2 := Bx.f0 Xq2.out; have qdq2 := Bx.f1 Xq2.out; replace HB := Aside0.mk (below_step HB.out hb_); have Co9 := Aside0.mk hc_; have Ho9 := Aside0.mk (Nat.le_refl 1); clear hc_ hb_))
      refine (bignat_Add.calls Av cv v Ao9 1 [1] u 0 wa21 Cv.out Hv.out Co9.out Ho9.out hAd.out).mono ?_
      rintro e wa22 ⟨v_, rfl, hr_, hb_⟩
      replace Co1 := Aside0.mk (Kd.C_below Co1.out hb_)
      replace Cx := Aside0.mk (Kd.C_below Cx.out hb_)
      replace Co2 := Aside0.mk (Kd.C_below Co2.out hb_)
      replace Cy := Aside0.mk (Kd.C_below Cy.out hb_)
      replace Co3 := Aside0.mk (Kd.C_below Co3.out hb_)
      replace Co4 := Aside0.mk (Kd.C_below Co4.out hb_)
      replace Cpn := Aside0.mk (Kd.C_below Cpn.out hb_)
      replace Cpd := Aside0.mk (Kd.C_below Cpd.out hb_)
      replace Co5 := Aside0.mk (Kd.C_below Co5.out hb_)
      replace Co6 := Aside0.mk (Kd.C_below Co6.out hb_)
      replace Csn := Aside0.mk (Kd.C_below Csn.out hb_)
      replace Csd := Aside0.mk (Kd.C_below Csd.out hb_)
      replace Co7 := Aside0.mk (Kd.C_below Co7.out hb_)
      replace Cz := Aside0.mk (Kd.C_below Cz.out hb_)
      replace Co8 := Aside0.mk (Kd.C_below Co8.out hb_)
      replace Cv := Aside0.mk (Kd.C_below Cv.out hb_)
      replace Co9 := Aside0.mk (Kd.C_below Co9.out hb_)
      clear qaq1 qbq1
      clear qcq1 qdq1
      replace Xq1 := Aside0.mk (Bx.below Xq1.out hb_)
      have qaq1 := Bx.c0 Xq1.out
      have qbq1 := Bx.c1 Xq1.out
      have qcq1 := Bx.f0 Xq1.out
      have qdq1 := Bx.f1 Xq1.out
      clear qaq2 qbq2
      clear qcq2 qdq2
      replace Xq2 := Aside0.mk (Bx.below Xq2.out hb_)
      have qaq2 := Bx.c0 Xq2.out
      have qbq2 := Bx.c1 Xq2.out
      have qcq2 := Bx.f0 Xq2.out
      have qdq2 := Bx.f1 Xq2.out
      replace HB := Aside0.mk (below_step HB.out hb_)
      obtain ⟨Au, cu, rfl⟩ := Kd.R_slice hr_
      have Cu := Aside0.mk (Kd.R_reads' hr_).2.2
      have Hu := Aside0.mk (show u.length ≤ cu from (Kd.R_reads' hr_).2.1)
      clear hr_ hb_
      go_wp2_with (first | ((with_reducible refine gate_dst (N := 151) rfl ?_); (try (refine gate_guard (by rfl) ?_; dsimp only)); refine lit_event ?hg (N := 151) ?hd [1] 1 rfl (by decide) ?hr ?_; (case hd => rfl); (case hg => rfl); (case hr => first | (go_simp; done) | (go_simp; rfl)); intro Ao10 wa23 hc_ hb_; replace Co1 := Aside0.mk (Kd.C_below Co1.out hb_); replace Cx := Aside0.mk (Kd.C_below Cx.out hb_); replace Co2 := Aside0.mk (Kd.C_below Co2.out hb_); replace Cy := Aside0.mk (Kd.C_below Cy.out hb_); replace Co3 := Aside0.mk (Kd.C_below Co3.out hb_); replace Co4 := Aside0.mk (Kd.C_below Co4.out hb_); replace Cpn := Aside0.mk (Kd.C_below Cpn.out hb_); replace Cpd := Aside0.mk (Kd.C_below Cpd.out hb_); replace Co5 := Aside0.mk (Kd.C_below Co5.out hb_); replace Co6 := Aside0.mk (Kd.C_below Co6.out hb_); replace Csn := Aside0.mk (Kd.C_below Csn.out hb_); replace Csd := Aside0.mk (Kd.C_below Csd.out hb_); replace Co7 := Aside0.mk (Kd.C_below Co7.out hb_); replace Cz := Aside0.mk (Kd.C_below Cz.out hb_); replace Co8 := Aside0.mk (Kd.C_below Co8.out hb_); replace Cv := Aside0.mk (Kd.C_below Cv.out hb_); replace Co9 := Aside0.mk (Kd.C_below Co9.out hb_); replace Cu := Aside0.mk (Kd.C_below Cu.out hb_); clear qaq1 qbq1; clear qcq1 qdq1; replace Xq1 := Aside0.mk (Bx.below Xq1.out hb_); have qaq1 := Bx.c0 Xq1.out; have qbq1 := Bx.c1 Xq1.out; have qcq1 := Bx.f0 Xq1.out; have qdq1 := Bx.f1 Xq1.out; clear qaq2 qbq2; clear qcq2 qdq2; replace Xq2 := Aside0.mk (Bx.below Xq2.out hb_); have qaq2 := Bx.c0 Xq2.out; have qbq2 := Bx.c1 Xq2.out; have qcq2 := Bx.f0 Xq2.out; have qdq2 := Bx.f1 Xq2.out; replace HB := Aside0.mk (below_step HB.out hb_); have Co10 := Aside0.mk hc_; have Ho10 := Aside0.mk (Nat.le_refl 1); clear hc_ hb_))
      refine (bignat_Shift.calls 1100 Ao10 1 [1] ((max i j : Nat) : Int) d 0 wa23 Co10.out Ho10.out hSd.out).mono ?_
      rintro e wa24 ⟨v_, rfl, hr_, hb_⟩
      replace Co1 := Aside0.mk (Kd.C_below Co1.out hb_)
      replace Cx := Aside0.mk (Kd.C_below Cx.out hb_)
      replace Co2 := Aside0.mk (Kd.C_below Co2.out hb_)
      replace Cy := Aside0.mk (Kd.C_below Cy.out hb_)
      replace Co3 := Aside0.mk (Kd.C_below Co3.out hb_)
      replace Co4 := Aside0.mk (Kd.C_below Co4.out hb_)
      replace Cpn := Aside0.mk (Kd.C_below Cpn.out hb_)
      replace Cpd := Aside0.mk (Kd.C_below Cpd.out hb_)
      replace Co5 := Aside0.mk (Kd.C_below Co5.out hb_)
      replace Co6 := Aside0.mk (Kd.C_below Co6.out hb_)
      replace Csn := Aside0.mk (Kd.C_below Csn.out hb_)
      replace Csd := Aside0.mk (Kd.C_below Csd.out hb_)
      replace Co7 := Aside0.mk (Kd.C_below Co7.out hb_)
      replace Cz := Aside0.mk (Kd.C_below Cz.out hb_)
      replace Co8 := Aside0.mk (Kd.C_below Co8.out hb_)
      replace Cv := Aside0.mk (Kd.C_below Cv.out hb_)
      replace Co9 := Aside0.mk (Kd.C_below Co9.out hb_)
      replace Cu := Aside0.mk (Kd.C_below Cu.out hb_)
      replace Co10 := Aside0.mk (Kd.C_below Co10.out hb_)
      clear qaq1 qbq1
      clear qcq1 qdq1
      replace Xq1 := Aside0.mk (Bx.below Xq1.out hb_)
      have qaq1 := Bx.c0 Xq1.out
      have qbq1 := Bx.c1 Xq1.out
      have qcq1 := Bx.f0 Xq1.out
      have qdq1 := Bx.f1 Xq1.out
      clear qaq2 qbq2
      clear qcq2 qdq2
      replace Xq2 := Aside0.mk (Bx.below Xq2.out hb_)
      have qaq2 := Bx.c0 Xq2.out
      have qbq2 := Bx.c1 Xq2.out
      have qcq2 := Bx.f0 Xq2.out
      have qdq2 := Bx.f1 Xq2.out
      replace HB := Aside0.mk (below_step HB.out hb_)
      obtain ⟨Ad, cd, rfl⟩ := Kd.R_slice hr_
      have Cd := Aside0.mk (Kd.R_reads' hr_).2.2
      have Hd := Aside0.mk (show d.length ≤ cd from (Kd.R_reads' hr_).2.1)
      clear hr_ hb_
      go_wp2_with fail
      refine (ratNew_calls Au cu u Ad cd d sn sd 0 wa24 Cu.out Hu.out Cd.out Hd.out hN.out.1 hN.out.2.1 hN.out.2.2).mono ?_
      rintro e wa25 ⟨Awn, cwn, Awd, cwd, rfl, hCwn_, hHwn_, hCwd_, hHwd_, hb_⟩
      replace Co1 := Aside0.mk (Kd.C_below Co1.out hb_)
      replace Cx := Aside0.mk (Kd.C_below Cx.out hb_)
      replace Co2 := Aside0.mk (Kd.C_below Co2.out hb_)
      replace Cy := Aside0.mk (Kd.C_below Cy.out hb_)
      replace Co3 := Aside0.mk (Kd.C_below Co3.out hb_)
      replace Co4 := Aside0.mk (Kd.C_below Co4.out hb_)
      replace Cpn := Aside0.mk (Kd.C_below Cpn.out hb_)
      replace Cpd := Aside0.mk (Kd.C_below Cpd.out hb_)
      replace Co5 := Aside0.mk (Kd.C_below Co5.out hb_)
      replace Co6 := Aside0.mk (Kd.C_below Co6.out hb_)
      replace Csn := Aside0.mk (Kd.C_below Csn.out hb_)
      replace Csd := Aside0.mk (Kd.C_below Csd.out hb_)
      replace Co7 := Aside0.mk (Kd.C_below Co7.out hb_)
      replace Cz := Aside0.mk (Kd.C_below Cz.out hb_)
      replace Co8 := Aside0.mk (Kd.C_below Co8.out hb_)
      replace Cv := Aside0.mk (Kd.C_below Cv.out hb_)
      replace Co9 := Aside0.mk (Kd.C_below Co9.out hb_)
      replace Cu := Aside0.mk (Kd.C_below Cu.out hb_)
      replace Co10 := Aside0.mk (Kd.C_below Co10.out hb_)
      replace Cd := Aside0.mk (Kd.C_below Cd.out hb_)
      clear qaq1 qbq1
      clear qcq1 qdq1
      replace Xq1 := Aside0.mk (Bx.below Xq1.out hb_)
      have qaq1 := Bx.c0 Xq1.out
      have qbq1 := Bx.c1 Xq1.out
      have qcq1 := Bx.f0 Xq1.out
      have qdq1 := Bx.f1 Xq1.out
      clear qaq2 qbq2
      clear qcq2 qdq2
      replace Xq2 := Aside0.mk (Bx.below Xq2.out hb_)
      have qaq2 := Bx.c0 Xq2.out
      have qbq2 := Bx.c1 Xq2.out
      have qcq2 := Bx.f0 Xq2.out
      have qdq2 := Bx.f1 Xq2.out
      replace HB := Aside0.mk (below_step HB.out hb_)
      have Cwn := Aside0.mk hCwn_
      have Hwn := Aside0.mk hHwn_
      clear hCwn_ hHwn_
      have Cwd := Aside0.mk hCwd_
      have Hwd := Aside0.mk hHwd_
      clear hCwd_ hHwd_
      clear hb_
      go_wp2_with (first | ((with_reducible refine gate_dst (N := 23) rfl ?_); (try (refine gate_guard (by rfl) ?_; dsimp only)); refine box_event ?hg (N := 23) ?hd (.slice none 0 0) (.slice none 0 0) ?hr ?_; (case hd => rfl); (case hg => rfl); (case hr => first | (go_simp; done) | (go_simp; rfl)); intro bq3 wa26 hx_ hs_ hb_; have Nq1q3 := Aside0.mk (Bx.ne Xq1.out hs_); have Nq2q3 := Aside0.mk (Bx.ne Xq2.out hs_); skip; have Sq3 := Aside0.mk (Nat.le_trans (below_size HB.out) hs_); have Xq3 := Aside0.mk hx_; replace Co1 := Aside0.mk (Kd.C_below Co1.out hb_); replace Cx := Aside0.mk (Kd.C_below Cx.out hb_); replace Co2 := Aside0.mk (Kd.C_below Co2.out hb_); replace Cy := Aside0.mk (Kd.C_below Cy.out hb_); replace Co3 := Aside0.mk (Kd.C_below Co3.out hb_); replace Co4 := Aside0.mk (Kd.C_below Co4.out hb_); replace Cpn := Aside0.mk (Kd.C_below Cpn.out hb_); replace Cpd := Aside0.mk (Kd.C_below Cpd.out hb_); replace Co5 := Aside0.mk (Kd.C_below Co5.out hb_); replace Co6 := Aside0.mk (Kd.C_below Co6.out hb_); replace Csn := Aside0.mk (Kd.C_below Csn.out hb_); replace Csd := Aside0.mk (Kd.C_below Csd.out hb_); replace Co7 := Aside0.mk (Kd.C_below Co7.out hb_); replace Cz := Aside0.mk (Kd.C_below Cz.out hb_); replace Co8 := Aside0.mk (Kd.C_below Co8.out hb_); replace Cv := Aside0.mk (Kd.C_below Cv.out hb_); replace Co9 := Aside0.mk (Kd.C_below Co9.out hb_); replace Cu := Aside0.mk (Kd.C_below Cu.out hb_); replace Co10 := Aside0.mk (Kd.C_below Co10.out hb_); replace Cd := Aside0.mk (Kd.C_below Cd.out hb_); replace Cwn := Aside0.mk (Kd.C_below Cwn.out hb_); replace Cwd := Aside0.mk (Kd.C_below Cwd.out hb_); clear qaq1 qbq1; clear qcq1 qdq1; replace Xq1 := Aside0.mk (Bx.below Xq1.out hb_); have qaq1 := Bx.c0 Xq1.out; have qbq1 := Bx.c1 Xq1.out; have qcq1 := Bx.f0 Xq1.out; have qdq1 := Bx.f1 Xq1.out; clear qaq2 qbq2; clear qcq2 qdq2; replace Xq2 := Aside0.mk (Bx.below Xq2.out hb_); have qaq2 := Bx.c0 Xq2.out; have qbq2 := Bx.c1 Xq2.out; have qcq2 := Bx.f0 Xq2.out; have qdq2 := Bx.f1 Xq2.out; replace HB := Aside0.mk (below_step HB.out hb_); have qaq3 := Bx.c0 Xq3.out; have qbq3 := Bx.c1 Xq3.out; have qcq3 := Bx.f0 Xq3.out; have qdq3 := Bx.f1 Xq3.out; clear hb_ hx_ hs_) | (refine store_event (by rfl) (by rfl) Xq3.out (.slice Awn sn.length cwn) (.slice Awd sd.length cwd) ?hr ?_; (case hr => first | (go_simp; done) | (go_simp; rfl)); intro wa27 he_ hx_; replace Co1 := Aside0.mk (C_store Xq3.out Co1.out (.slice Awn sn.length cwn) (.slice Awd sd.length cwd)); replace Cx := Aside0.mk (C_store Xq3.out Cx.out (.slice Awn sn.length cwn) (.slice Awd sd.length cwd)); replace Co2 := Aside0.mk (C_store Xq3.out Co2.out (.slice Awn sn.length cwn) (.slice Awd sd.length cwd)); replace Cy := Aside0.mk (C_store Xq3.out Cy.out (.slice Awn sn.length cwn) (.slice Awd sd.length cwd)); replace Co3 := Aside0.mk (C_store Xq3.out Co3.out (.slice Awn sn.length cwn) (.slice Awd sd.length cwd)); replace Co4 := Aside0.mk (C_store Xq3.out Co4.out (.slice Awn sn.length cwn) (.slice Awd sd.length cwd)); replace Cpn := Aside0.mk (C_store Xq3.out Cpn.out (.slice Awn sn.length cwn) (.slice Awd sd.length cwd)); replace Cpd := Aside0.mk (C_store Xq3.out Cpd.out (.slice Awn sn.length cwn) (.slice Awd sd.length cwd)); replace Co5 := Aside0.mk (C_store Xq3.out Co5.out (.slice Awn sn.length cwn) (.slice Awd sd.length cwd)); replace Co6 := Aside0.mk (C_store Xq3.out Co6.out (.slice Awn sn.length cwn) (.slice Awd sd.length cwd)); replace Csn := Aside0.mk (C_store Xq3.out Csn.out (.slice Awn sn.length cwn) (.slice Awd sd.length cwd)); replace Csd := Aside0.mk (C_store Xq3.out Csd.out (.slice Awn sn.length cwn) (.slice Awd sd.length cwd)); replace Co7 := Aside0.mk (C_store Xq3.out Co7.out (.slice Awn sn.length cwn) (.slice Awd sd.length cwd)); replace Cz := Aside0.mk (C_store Xq3.out Cz.out (.slice Awn sn.length cwn) (.slice Awd sd.length cwd)); replace Co8 := Aside0.mk (C_store Xq3.out Co8.out (.slice Awn sn.length cwn) (.slice Awd sd.length cwd)); replace Cv := Aside0.mk (C_store Xq3.out Cv.out (.slice Awn sn.length cwn) (.slice Awd sd.length cwd)); replace Co9 := Aside0.mk (C_store Xq3.out Co9.out (.slice Awn sn.length cwn) (.slice Awd sd.length cwd)); replace Cu := Aside0.mk (C_store Xq3.out Cu.out (.slice Awn sn.length cwn) (.slice Awd sd.length cwd)); replace Co10 := Aside0.mk (C_store Xq3.out Co10.out (.slice Awn sn.length cwn) (.slice Awd sd.length cwd)); replace Cd := Aside0.mk (C_store Xq3.out Cd.out (.slice Awn sn.length cwn) (.slice Awd sd.length cwd)); replace Cwn := Aside0.mk (C_store Xq3.out Cwn.out (.slice Awn sn.length cwn) (.slice Awd sd.length cwd)); replace Cwd := Aside0.mk (C_store Xq3.out Cwd.out (.slice Awn sn.length cwn) (.slice Awd sd.length cwd)); clear qaq1 qbq1; clear qcq1 qdq1; replace Xq1 := Aside0.mk (Bx.other Xq1.out Nq1q3.out (.slice Awn sn.length cwn) (.slice Awd sd.length cwd)); clear qaq2 qbq2; clear qcq2 qdq2; replace Xq2 := Aside0.mk (Bx.other Xq2.out Nq2q3.out (.slice Awn sn.length cwn) (.slice Awd sd.length cwd)); clear qaq3 qbq3; clear qcq3 qdq3; replace HB := Aside0.mk (below_set (j := 1) (v := (.slice Awd sd.length cwd)) (below_set (j := 0) (v := (.slice Awn sn.length cwn)) HB.out Sq3.out) Sq3.out); clear Xq3; have Xq3 := Aside0.mk hx_; have qaq1 := Bx.c0 Xq1.out; have qbq1 := Bx.c1 Xq1.out; have qcq1 := Bx.f0 Xq1.out; have qdq1 := Bx.f1 Xq1.out; have qaq2 := Bx.c0 Xq2.out; have qbq2 := Bx.c1 Xq2.out; have qcq2 := Bx.f0 Xq2.out; have qdq2 := Bx.f1 Xq2.out; have qaq3 := Bx.c0 Xq3.out; have qbq3 := Bx.c1 Xq3.out; have qcq3 := Bx.f0 Xq3.out; have qdq3 := Bx.f1 Xq3.out; generalize (wa26.setCell ⟨bq3, 0, none⟩ (.slice Awn sn.length cwn)).setCell ⟨bq3, 1, none⟩ (.slice Awd sd.length cwd) = wg_ at *; subst he_; clear hx_))
      refine (Same_calls Asn csn sn Asd csd sd Awn cwn sn Awd cwd sd true wa27 Csn.out Hsn.out Csd.out Hsd.out Cwn.out Hwn.out Cwd.out Hwd.out (Nat.le_trans hSl.out.1 (by decide)) (Nat.le_trans hSl.out.2.1 (by decide)) (by simp)).mono ?_
      rintro e wa28 ⟨rfl, hb_⟩
      replace Co1 := Aside0.mk (Kd.C_below Co1.out hb_)
      replace Cx := Aside0.mk (Kd.C_below Cx.out hb_)
      replace Co2 := Aside0.mk (Kd.C_below Co2.out hb_)
      replace Cy := Aside0.mk (Kd.C_below Cy.out hb_)
      replace Co3 := Aside0.mk (Kd.C_below Co3.out hb_)
      replace Co4 := Aside0.mk (Kd.C_below Co4.out hb_)
      replace Cpn := Aside0.mk (Kd.C_below Cpn.out hb_)
      replace Cpd := Aside0.mk (Kd.C_below Cpd.out hb_)
      replace Co5 := Aside0.mk (Kd.C_below Co5.out hb_)
      replace Co6 := Aside0.mk (Kd.C_below Co6.out hb_)
      replace Csn := Aside0.mk (Kd.C_below Csn.out hb_)
      replace Csd := Aside0.mk (Kd.C_below Csd.out hb_)
      replace Co7 := Aside0.mk (Kd.C_below Co7.out hb_)
      replace Cz := Aside0.mk (Kd.C_below Cz.out hb_)
      replace Co8 := Aside0.mk (Kd.C_below Co8.out hb_)
      replace Cv := Aside0.mk (Kd.C_below Cv.out hb_)
      replace Co9 := Aside0.mk (Kd.C_below Co9.out hb_)
      replace Cu := Aside0.mk (Kd.C_below Cu.out hb_)
      replace Co10 := Aside0.mk (Kd.C_below Co10.out hb_)
      replace Cd := Aside0.mk (Kd.C_below Cd.out hb_)
      replace Cwn := Aside0.mk (Kd.C_below Cwn.out hb_)
      replace Cwd := Aside0.mk (Kd.C_below Cwd.out hb_)
      clear qaq1 qbq1
      clear qcq1 qdq1
      replace Xq1 := Aside0.mk (Bx.below Xq1.out hb_)
      have qaq1 := Bx.c0 Xq1.out
      have qbq1 := Bx.c1 Xq1.out
      have qcq1 := Bx.f0 Xq1.out
      have qdq1 := Bx.f1 Xq1.out
      clear qaq2 qbq2
      clear qcq2 qdq2
      replace Xq2 := Aside0.mk (Bx.below Xq2.out hb_)
      have qaq2 := Bx.c0 Xq2.out
      have qbq2 := Bx.c1 Xq2.out
      have qcq2 := Bx.f0 Xq2.out
      have qdq2 := Bx.f1 Xq2.out
      clear qaq3 qbq3
      clear qcq3 qdq3
      replace Xq3 := Aside0.mk (Bx.below Xq3.out hb_)
      have qaq3 := Bx.c0 Xq3.out
      have qbq3 := Bx.c1 Xq3.out
      have qcq3 := Bx.f0 Xq3.out
      have qdq3 := Bx.f1 Xq3.out
      replace HB := Aside0.mk (below_step HB.out hb_)
      clear hb_
      go_wp2_with fail
      go_ret
      exact ⟨rfl, HB.out⟩

end Go.Proofs.YtoakfjcejamoeaaDoor.B
