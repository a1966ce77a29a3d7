/- The walk of the law RationalOrder. -/
import Derived.Test.YtoakfjcejamoeaaDoorQF
import Derived.Test.YtoakfjcejamoeaaDoorQG
namespace Go.Proofs.YtoakfjcejamoeaaDoor.B
open Go.RowKit Go.Proofs.YtoakfjcejamoeaaDoorW.PrintWords Go.Proofs.YtoakfjcejamoeaaDoorW.PrintLast Go.Proofs.YtoakfjcejamoeaaDoorW.PrintMore
set_option exponentiation.threshold 8200
set_option linter.unusedVariables false
set_option linter.unusedSimpArgs false
theorem fits_lt {n : Nat} (h : n < 4294967296 ^ 128) : fitsB n = true := decide_eq_true ((Bn.limbs_len n 128).2 h)
theorem lt_pow {l : List Int} (h : Bn.Limbs l) {k : Nat} (hl : l.length ≤ k) : Bn.nv l < 4294967296 ^ k := Nat.lt_of_lt_of_le (Bn.nv_lt h) (Nat.pow_le_pow_right (by decide) hl)
theorem mul_pow {a b j k : Nat} (ha : a < 4294967296 ^ j) (hb : b < 4294967296 ^ k) : a * b < 4294967296 ^ (j + k) := by
 rw [Nat.pow_add]
 exact Nat.mul_lt_mul'' ha hb
theorem pow_le {a j k : Nat} (ha : a < 4294967296 ^ j) (h : j ≤ k) : a < 4294967296 ^ k := Nat.lt_of_lt_of_le ha (Nat.pow_le_pow_right (by decide) h)
theorem add_pow {a b j : Nat} (ha : a < 4294967296 ^ j) (hb : b < 4294967296 ^ j) : a + b < 4294967296 ^ (j + 1) := by
 rw [Nat.pow_succ]
 omega
/-- the lowest terms of N/D -/
theorem redB_spec {N D : Nat} (hN : fitsB N = true) (hD : fitsB D = true) (h0 : 0 < D) {x y : List Int} (h : redB N D = (x, y)) : ratB x y = true ∧ Bn.Limbs x ∧ Bn.Limbs y ∧ ∃ g, 0 < g ∧ Bn.nv x * g = N ∧ Bn.nv y * g = D := by
 unfold redB at h
 injection h with h1 h2
 have hg : 0 < Nat.gcd N D := Nat.gcd_pos_of_pos_right _ h0
 have d1 := Nat.gcd_dvd_left N D
 have d2 := Nat.gcd_dvd_right N D
 have L1 : Bn.Limbs x := by rw [← h1]; exact Bn.limbs_limbs _
 have L2 : Bn.Limbs y := by rw [← h2]; exact Bn.limbs_limbs _
 have ex : Bn.nv x = N / Nat.gcd N D := by rw [← h1, Bn.nv_limbs]
 have ey : Bn.nv y = D / Nat.gcd N D := by rw [← h2, Bn.nv_limbs]
 refine ⟨(ratB_iff L1 L2).2 ⟨⟨by rw [← h1]; exact Bn.nrm_limbs _, by rw [← h1]; exact div_row hN⟩, ⟨by rw [← h2]; exact Bn.nrm_limbs _, by rw [← h2]; exact div_row hD⟩, by rw [← h2]; exact limbs_ne (Nat.div_pos (Nat.le_of_dvd h0 d2) hg), ?_⟩, L1, L2, Nat.gcd N D, hg, by rw [ex]; exact Nat.div_mul_cancel d1, by rw [ey]; exact Nat.div_mul_cancel d2⟩
 rw [ex, ey, Nat.gcd_div d1 d2, Nat.div_self hg]
/-- a fraction in lowest terms is what its own numbers reduce to -/
theorem redB_self {a b : List Int} (La : Bn.Limbs a) (Lb : Bn.Limbs b) (h : ratB a b = true) {g : Nat} (hg : 0 < g) : redB (Bn.nv a * g) (Bn.nv b * g) = (a, b) := by
 obtain ⟨va, vb, vb0, hc⟩ := (ratB_iff La Lb).1 h
 unfold redB
 rw [Nat.gcd_mul_right, hc, Nat.one_mul, Nat.mul_div_cancel _ hg, Nat.mul_div_cancel _ hg, va.1.2, vb.1.2]
/-- equal fractions have the same lowest terms -/
theorem redB_cross {N D N' D' : Nat} (h0 : 0 < D) (h1 : 0 < D') (h : N * D' = N' * D) : redB N D = redB N' D' := by
 have key : ∀ {n d : Nat} (k : Nat), 0 < k → redB (n * k) (d * k) = redB n d := by
  intro n d k hk
  unfold redB
  rw [Nat.gcd_mul_right, Nat.mul_div_mul_right _ _ hk, Nat.mul_div_mul_right _ _ hk]
 rw [← key (n := N) (d := D) D' h1, ← key (n := N') (d := D') D h0, h, Nat.mul_comm D D']

theorem cmpN_mul {a b k : Nat} (hk : 0 < k) : cmpN (a * k) (b * k) = cmpN a b := by
 unfold cmpN
 rcases Nat.lt_trichotomy a b with h | h | h
 ·rw [if_pos h, if_pos (Nat.mul_lt_mul_of_pos_right h hk)]
 ·rw [h, if_neg (Nat.lt_irrefl _), if_neg (Nat.lt_irrefl _), if_neg (Nat.lt_irrefl _), if_neg (Nat.lt_irrefl _)]
 ·have h2 := Nat.mul_lt_mul_of_pos_right h hk
  rw [if_neg (by omega), if_pos h2, if_neg (by omega), if_pos h]
theorem cmp_pos {a b : Nat} : cmpN a b > 0 ↔ b < a := by
 unfold cmpN
 rcases Nat.lt_trichotomy a b with h | h | h
 ·rw [if_pos h]; omega
 ·rw [if_neg (by omega), if_neg (by omega)]; omega
 ·rw [if_neg (by omega), if_pos h]; omega
theorem cmp_flipR (a b c d : List Int) : compareR c d a b = -compareR a b c d := by
 unfold compareR
 exact cmp_flip _ _
theorem cmp_selfR (a b : List Int) : compareR a b a b = 0 := by
 unfold compareR
 exact cmpN_self _
theorem cmp_valsR (a b c d : List Int) : compareR a b c d = -1 ∨ compareR a b c d = 0 ∨ compareR a b c d = 1 := by
 unfold compareR
 exact cmp_vals _ _
theorem compareR_valid {a b c d : List Int} (h1 : ratB a b = true) (h2 : ratB c d = true) : compareR a b c d = cmpN (Bn.nv a * Bn.nv d) (Bn.nv c * Bn.nv b) := by
 unfold compareR cleanB
 rw [if_pos h1, if_pos h2]
theorem order_facts {a b c d e f : List Int} (La : Bn.Limbs a) (Lb : Bn.Limbs b) (Lc : Bn.Limbs c) (Ld : Bn.Limbs d) (Le : Bn.Limbs e) (Lf : Bn.Limbs f) (sa : a.length ≤ 4) (sb : b.length ≤ 4) (sc : c.length ≤ 4) (sd : d.length ≤ 4) (se : e.length ≤ 4) (sf : f.length ≤ 4) (ha : ratB a b = true) (hb : ratB c d = true) (hc : ratB e f = true) :
  ∃ sn sd tn td, addR a b e f = ((sn, sd), 0) ∧ addR c d e f = ((tn, td), 0) ∧ Bn.Limbs sn ∧ Bn.Limbs sd ∧ Bn.Limbs tn ∧ Bn.Limbs td ∧ compareR sn sd tn td = compareR a b c d ∧ ((compareR a b c d == 0) = (decide (a = c) && decide (b = d))) ∧ (compareR a b c d > 0 ∨ compareR c d e f > 0 ∨ compareR a b e f ≤ 0) := by
 obtain ⟨va, vb, vb0, -⟩ := (ratB_iff La Lb).1 ha
 obtain ⟨vc, vd, vd0, -⟩ := (ratB_iff Lc Ld).1 hb
 obtain ⟨ve, vf, vf0, -⟩ := (ratB_iff Le Lf).1 hc
 have pb := nv_pos vb.1 vb0
 have pd := nv_pos vd.1 vd0
 have pf := nv_pos vf.1 vf0
 have A := lt_pow La sa
 have B := lt_pow Lb sb
 have C := lt_pow Lc sc
 have D := lt_pow Ld sd
 have E := lt_pow Le se
 have F := lt_pow Lf sf
 have fit : ∀ {x y z w : Nat}, x < 4294967296 ^ 4 → y < 4294967296 ^ 4 → z < 4294967296 ^ 4 → w < 4294967296 ^ 4 → fitsB (x * w) = true ∧ fitsB (z * y) = true ∧ fitsB (y * w) = true ∧ fitsB (x * w + z * y) = true := fun hx hy hz hw =>
  ⟨fits_lt (pow_le (mul_pow hx hw) (by decide)), fits_lt (pow_le (mul_pow hz hy) (by decide)), fits_lt (pow_le (mul_pow hy hw) (by decide)), fits_lt (pow_le (add_pow (mul_pow hx hw) (mul_pow hz hy)) (by decide))⟩
 have k1 := fit A B E F
 have k2 := fit C D E F
 obtain ⟨⟨sn, sdd⟩, hs⟩ : ∃ t, redB (Bn.nv a * Bn.nv f + Bn.nv e * Bn.nv b) (Bn.nv b * Bn.nv f) = t := ⟨_, rfl⟩
 obtain ⟨⟨tn, td⟩, ht⟩ : ∃ t, redB (Bn.nv c * Bn.nv f + Bn.nv e * Bn.nv d) (Bn.nv d * Bn.nv f) = t := ⟨_, rfl⟩
 obtain ⟨rs, Ls, Lsd, g, g0, e1, e2⟩ := redB_spec k1.2.2.2 k1.2.2.1 (Nat.mul_pos pb pf) hs
 obtain ⟨rt, Lt, Ltd, h, h0, e3, e4⟩ := redB_spec k2.2.2.2 k2.2.2.1 (Nat.mul_pos pd pf) ht
 refine ⟨sn, sdd, tn, td, ?_, ?_, Ls, Lsd, Lt, Ltd, ?_, ?_, ?_⟩
 ·unfold addR
  rw [if_pos ⟨ha, hc⟩, if_pos k1, hs]
 ·unfold addR
  rw [if_pos ⟨hb, hc⟩, if_pos k2, ht]
 ·rw [compareR_valid rs rt, compareR_valid ha hb, ← cmpN_mul (a := Bn.nv sn * Bn.nv td) (b := Bn.nv tn * Bn.nv sdd) (Nat.mul_pos g0 h0), ← cmpN_mul (a := Bn.nv a * Bn.nv d) (b := Bn.nv c * Bn.nv b) (Nat.mul_pos pf pf)]
  have q1 : Bn.nv sn * Bn.nv td * (g * h) = (Bn.nv sn * g) * (Bn.nv td * h) := by ac_rfl
  have q2 : Bn.nv tn * Bn.nv sdd * (g * h) = (Bn.nv tn * h) * (Bn.nv sdd * g) := by ac_rfl
  rw [q1, q2, e1, e2, e3, e4]
  have r1 : (Bn.nv a * Bn.nv f + Bn.nv e * Bn.nv b) * (Bn.nv d * Bn.nv f) = Bn.nv a * Bn.nv d * (Bn.nv f * Bn.nv f) + Bn.nv e * Bn.nv b * Bn.nv d * Bn.nv f := by
   rw [Nat.add_mul]
   congr 1 <;> ac_rfl
  have r2 : (Bn.nv c * Bn.nv f + Bn.nv e * Bn.nv d) * (Bn.nv b * Bn.nv f) = Bn.nv c * Bn.nv b * (Bn.nv f * Bn.nv f) + Bn.nv e * Bn.nv b * Bn.nv d * Bn.nv f := by
   rw [Nat.add_mul]
   congr 1 <;> ac_rfl
  rw [r1, r2, cmpN_add]
 ·rw [compareR_valid ha hb]
  by_cases hz : cmpN (Bn.nv a * Bn.nv d) (Bn.nv c * Bn.nv b) = 0
  ·have hx := cmp_zero hz
   have s1 := redB_self La Lb ha (g := 1) (by decide)
   have s2 := redB_self Lc Ld hb (g := 1) (by decide)
   rw [Nat.mul_one, Nat.mul_one] at s1 s2
   have s3 := redB_cross pb pd hx
   rw [s1, s2] at s3
   injection s3 with s4 s5
   rw [hz, s4, s5]
   simp
  ·have hne : ¬ (a = c ∧ b = d) := fun ⟨x, y⟩ => hz (by rw [x, y, cmpN_self])
   rw [beq_eq_false_iff_ne.2 hz]
   symm
   simpa using hne
 ·rw [compareR_valid ha hb, compareR_valid hb hc, compareR_valid ha hc]
  by_cases h1 : cmpN (Bn.nv a * Bn.nv d) (Bn.nv c * Bn.nv b) > 0
  ·exact .inl h1
  ·by_cases h2 : cmpN (Bn.nv c * Bn.nv f) (Bn.nv e * Bn.nv d) > 0
   ·exact .inr (.inl h2)
   ·refine .inr (.inr (Int.not_lt.1 fun h3 => ?_))
    rw [cmp_pos] at h1 h2
    have h3 := cmp_pos.1 h3
    have h1 := Nat.not_lt.1 h1
    have h2 := Nat.not_lt.1 h2
    have i1 := Nat.mul_le_mul_right (Bn.nv f) h1
    have i2 := Nat.mul_le_mul_right (Bn.nv b) h2
    have i3 := Nat.mul_lt_mul_of_pos_right h3 pd
    have j1 : Bn.nv a * Bn.nv d * Bn.nv f = Bn.nv a * Bn.nv f * Bn.nv d := by ac_rfl
    have j2 : Bn.nv c * Bn.nv b * Bn.nv f = Bn.nv c * Bn.nv f * Bn.nv b := by ac_rfl
    have j3 : Bn.nv e * Bn.nv d * Bn.nv b = Bn.nv e * Bn.nv b * Bn.nv d := by ac_rfl
    omega

set_option maxHeartbeats 16000000 in
set_option maxRecDepth 100000 in
/-- RationalOrder. -/
theorem orderLaw (A0 : Option Addr) (c0 : Nat) (l0 : List Int) (A1 : Option Addr) (c1 : Nat) (l1 : List Int) (A2 : Option Addr) (c2 : Nat) (l2 : List Int) (A3 : Option Addr) (c3 : Nat) (l3 : List Int) (A4 : Option Addr) (c4 : Nat) (l4 : List Int) (A5 : Option Addr) (c5 : Nat) (l5 : List Int)  (w : World) (hr0 : Kd.C (Kd.int .u32) w A0 l0.length l0) (hc0 : l0.length ≤ c0) (hr1 : Kd.C (Kd.int .u32) w A1 l1.length l1) (hc1 : l1.length ≤ c1) (hr2 : Kd.C (Kd.int .u32) w A2 l2.length l2) (hc2 : l2.length ≤ c2) (hr3 : Kd.C (Kd.int .u32) w A3 l3.length l3) (hc3 : l3.length ≤ c3) (hr4 : Kd.C (Kd.int .u32) w A4 l4.length l4) (hc4 : l4.length ≤ c4) (hr5 : Kd.C (Kd.int .u32) w A5 l5.length l5) (hc5 : l5.length ≤ c5) (ht_ : Tab w) (L0 : Bn.Limbs l0) (L1 : Bn.Limbs l1) (L2 : Bn.Limbs l2) (L3 : Bn.Limbs l3) (L4 : Bn.Limbs l4) (L5 : Bn.Limbs l5) :
  Calls Tryd.prog 10 #[.agg #[.slice A0 l0.length c0, .slice A1 l1.length c1], .agg #[.slice A2 l2.length c2, .slice A3 l3.length c3], .agg #[.slice A4 l4.length c4, .slice A5 l5.length c5]] w fun e w' => e = .returned (.bool true) ∧ Below w.heap.size w w' := by
 have HT_ := Aside0.mk ht_
 clear ht_
 have C0 := Aside0.mk hr0
 have H0 := Aside0.mk hc0
 clear hr0 hc0
 have C1 := Aside0.mk hr1
 have H1 := Aside0.mk hc1
 clear hr1 hc1
 have C2 := Aside0.mk hr2
 have H2 := Aside0.mk hc2
 clear hr2 hc2
 have C3 := Aside0.mk hr3
 have H3 := Aside0.mk hc3
 clear hr3 hc3
 have C4 := Aside0.mk hr4
 have H4 := Aside0.mk hc4
 clear hr4 hc4
 have C5 := Aside0.mk hr5
 have H5 := Aside0.mk hc5
 clear hr5 hc5
 have HB := Aside0.mk (Below.refl w.heap.size w)
 obtain ⟨fa, hqfa⟩ : ∃ f, f = (decide ((l0.length : Int) ≤ 128) && decide ((l1.length : Int) ≤ 128)) := ⟨_, rfl⟩
 have hfa := Aside0.mk hqfa
 obtain ⟨fb, hqfb⟩ : ∃ f, f = (decide ((l2.length : Int) ≤ 128) && decide ((l3.length : Int) ≤ 128)) := ⟨_, rfl⟩
 have hfb := Aside0.mk hqfb
 obtain ⟨fc, hqfc⟩ : ∃ f, f = (decide ((l4.length : Int) ≤ 4) && decide ((l5.length : Int) ≤ 4)) := ⟨_, rfl⟩
 have hfc := Aside0.mk hqfc
 obtain ⟨f0, hqf0⟩ : ∃ f, f = (decide ((l0.length : Int) ≤ 4) && decide ((l1.length : Int) ≤ 4)) := ⟨_, rfl⟩
 have hf0 := Aside0.mk hqf0
 obtain ⟨f1, hqf1⟩ : ∃ f, f = (decide ((l2.length : Int) ≤ 4) && decide ((l3.length : Int) ≤ 4)) := ⟨_, rfl⟩
 have hf1 := Aside0.mk hqf1
 obtain ⟨p0, hp0⟩ : ∃ p, p = ratB l0 l1 := ⟨_, rfl⟩
 obtain ⟨p1, hp1⟩ : ∃ p, p = ratB l2 l3 := ⟨_, rfl⟩
 obtain ⟨p2, hp2⟩ : ∃ p, p = ratB l4 l5 := ⟨_, rfl⟩
 have hP0 := Aside0.mk hp0
 have hP1 := Aside0.mk hp1
 have hP2 := Aside0.mk hp2
 have hL := Aside0.mk (show Bn.Limbs l0 ∧ Bn.Limbs l1 ∧ Bn.Limbs l2 ∧ Bn.Limbs l3 ∧ Bn.Limbs l4 ∧ Bn.Limbs l5 from ⟨L0, L1, L2, L3, L4, L5⟩)
 have hG := Aside0.mk (show f0 = true → f1 = true → fc = true → p0 = true → p1 = true → p2 = true → (l0.length ≤ 4 ∧ l1.length ≤ 4) ∧ _ from fun h0 h1 h2 h3 h4 h5 => by
   have z0 : l0.length ≤ 4 ∧ l1.length ≤ 4 := by
    rw [hqf0] at h0
    simp at h0
    omega
   have z1 : l2.length ≤ 4 ∧ l3.length ≤ 4 := by
    rw [hqf1] at h1
    simp at h1
    omega
   have z2 : l4.length ≤ 4 ∧ l5.length ≤ 4 := by
    rw [hqfc] at h2
    simp at h2
    omega
   exact ⟨z0, order_facts L0 L1 L2 L3 L4 L5 z0.1 z0.2 z1.1 z1.2 z2.1 z2.2 (hp0 ▸ h3) (hp1 ▸ h4) (hp2 ▸ h5)⟩)
 obtain ⟨X, hX⟩ : ∃ c, c = compareR l0 l1 l2 l3 := ⟨_, rfl⟩
 obtain ⟨X2, hX2⟩ : ∃ c, c = compareR l2 l3 l0 l1 := ⟨_, rfl⟩
 obtain ⟨Y, hY⟩ : ∃ c, c = compareR l2 l3 l4 l5 := ⟨_, rfl⟩
 obtain ⟨Z, hZ⟩ : ∃ c, c = compareR l0 l1 l4 l5 := ⟨_, rfl⟩
 have hneg : wrap64 (-X) = X2 := by
   rw [hX2, cmp_flipR l0 l1 l2 l3, ← hX]
   rcases cmp_valsR l0 l1 l2 l3 with e | e | e <;> rw [hX, e] <;> exact w64 (by omega) (by omega)
 have hKX := Aside0.mk hX
 have hKX2 := Aside0.mk hX2
 have hKY := Aside0.mk hY
 have hKZ := Aside0.mk hZ
 have hK0 := Aside0.mk (cmp_selfR l0 l1).symm
 rw [← hX, ← hY, ← hZ] at hG
 clear hX hX2 hY hZ hp0 hp1 hp2 hqfa hqfb hqfc hqf0 hqf1 L0 L1 L2 L3 L4 L5
 go_enter Tryd.func10, Tryd.ntmps10
 go_wp2_with (first | ((with_reducible refine gate_dst (N := 3) rfl ?_); (try (refine gate_guard (by rfl) ?_; dsimp only)); refine box_event ?hg (N := 3) ?hd (.slice A0 l0.length c0) (.slice A1 l1.length c1) ?hr ?_; (case hd => rfl); (case hg => rfl); (case hr => first | (go_simp; done) | (go_simp; rfl)); intro ba wa1 hx_ hs_ hb_; skip; have Sa := Aside0.mk (Nat.le_trans (below_size HB.out) hs_); have Xa := Aside0.mk hx_; replace C0 := Aside0.mk (Kd.C_below C0.out hb_); replace C1 := Aside0.mk (Kd.C_below C1.out hb_); replace C2 := Aside0.mk (Kd.C_below C2.out hb_); replace C3 := Aside0.mk (Kd.C_below C3.out hb_); replace C4 := Aside0.mk (Kd.C_below C4.out hb_); replace C5 := Aside0.mk (Kd.C_below C5.out hb_); replace HB := Aside0.mk (below_step HB.out hb_); have qaa := Bx.c0 Xa.out; have qba := Bx.c1 Xa.out; clear hb_ hx_ hs_) | ((with_reducible refine gate_dst (N := 4) rfl ?_); (try (refine gate_guard (by rfl) ?_; dsimp only)); refine box_event ?hg (N := 4) ?hd (.slice A2 l2.length c2) (.slice A3 l3.length c3) ?hr ?_; (case hd => rfl); (case hg => rfl); (case hr => first | (go_simp; done) | (go_simp; rfl)); intro bb wa2 hx_ hs_ hb_; have Nab := Aside0.mk (Bx.ne Xa.out hs_); skip; have Sb := Aside0.mk (Nat.le_trans (below_size HB.out) hs_); have Xb := Aside0.mk hx_; replace C0 := Aside0.mk (Kd.C_below C0.out hb_); replace C1 := Aside0.mk (Kd.C_below C1.out hb_); replace C2 := Aside0.mk (Kd.C_below C2.out hb_); replace C3 := Aside0.mk (Kd.C_below C3.out hb_); replace C4 := Aside0.mk (Kd.C_below C4.out hb_); replace C5 := Aside0.mk (Kd.C_below C5.out hb_); clear qaa qba; replace Xa := Aside0.mk (Bx.below Xa.out hb_); have qaa := Bx.c0 Xa.out; have qba := Bx.c1 Xa.out; replace HB := Aside0.mk (below_step HB.out hb_); have qab := Bx.c0 Xb.out; have qbb := Bx.c1 Xb.out; clear hb_ hx_ hs_) | ((with_reducible refine gate_dst (N := 5) rfl ?_); (try (refine gate_guard (by rfl) ?_; dsimp only)); refine box_event ?hg (N := 5) ?hd (.slice A4 l4.length c4) (.slice A5 l5.length c5) ?hr ?_; (case hd => rfl); (case hg => rfl); (case hr => first | (go_simp; done) | (go_simp; rfl)); intro bc wa3 hx_ hs_ hb_; have Nac := Aside0.mk (Bx.ne Xa.out hs_); have Nbc := Aside0.mk (Bx.ne Xb.out hs_); skip; have Sc := Aside0.mk (Nat.le_trans (below_size HB.out) hs_); have Xc := Aside0.mk hx_; replace C0 := Aside0.mk (Kd.C_below C0.out hb_); replace C1 := Aside0.mk (Kd.C_below C1.out hb_); replace C2 := Aside0.mk (Kd.C_below C2.out hb_); replace C3 := Aside0.mk (Kd.C_below C3.out hb_); replace C4 := Aside0.mk (Kd.C_below C4.out hb_); replace C5 := Aside0.mk (Kd.C_below C5.out hb_); clear qaa qba; replace Xa := Aside0.mk (Bx.below Xa.out hb_); have qaa := Bx.c0 Xa.out; have qba := Bx.c1 Xa.out; clear qab qbb; replace Xb := Aside0.mk (Bx.below Xb.out hb_); have qab := Bx.c0 Xb.out; have qbb := Bx.c1 Xb.out; replace HB := Aside0.mk (below_step HB.out hb_); have qac := Bx.c0 Xc.out; have qbc := Bx.c1 Xc.out; clear hb_ hx_ hs_))
 refine (awake10_calls wa3 (HT_.out.below HB.out)).mono ?_
 rintro e wa4 ⟨rfl, hb_⟩
 replace C0 := Aside0.mk (Kd.C_below C0.out hb_)
 replace C1 := Aside0.mk (Kd.C_below C1.out hb_)
 replace C2 := Aside0.mk (Kd.C_below C2.out hb_)
 replace C3 := Aside0.mk (Kd.C_below C3.out hb_)
 replace C4 := Aside0.mk (Kd.C_below C4.out hb_)
 replace C5 := Aside0.mk (Kd.C_below C5.out hb_)
 clear qaa qba
 replace Xa := Aside0.mk (Bx.below Xa.out hb_)
 have qaa := Bx.c0 Xa.out
 have qba := Bx.c1 Xa.out
 clear qab qbb
 replace Xb := Aside0.mk (Bx.below Xb.out hb_)
 have qab := Bx.c0 Xb.out
 have qbb := Bx.c1 Xb.out
 clear qac qbc
 replace Xc := Aside0.mk (Bx.below Xc.out hb_)
 have qac := Bx.c0 Xc.out
 have qbc := Bx.c1 Xc.out
 replace HB := Aside0.mk (below_step HB.out hb_)
 clear hb_
 go_wp2_with fail
 refine (Few_calls A0 c0 l0 A1 c1 l1 128 fa wa4 hfa.out).mono ?_
 rintro e wa5 ⟨rfl, hb_⟩
 replace C0 := Aside0.mk (Kd.C_below C0.out hb_)
 replace C1 := Aside0.mk (Kd.C_below C1.out hb_)
 replace C2 := Aside0.mk (Kd.C_below C2.out hb_)
 replace C3 := Aside0.mk (Kd.C_below C3.out hb_)
 replace C4 := Aside0.mk (Kd.C_below C4.out hb_)
 replace C5 := Aside0.mk (Kd.C_below C5.out hb_)
 clear qaa qba
 replace Xa := Aside0.mk (Bx.below Xa.out hb_)
 have qaa := Bx.c0 Xa.out
 have qba := Bx.c1 Xa.out
 clear qab qbb
 replace Xb := Aside0.mk (Bx.below Xb.out hb_)
 have qab := Bx.c0 Xb.out
 have qbb := Bx.c1 Xb.out
 clear qac qbc
 replace Xc := Aside0.mk (Bx.below Xc.out hb_)
 have qac := Bx.c0 Xc.out
 have qbc := Bx.c1 Xc.out
 replace HB := Aside0.mk (below_step HB.out hb_)
 clear hb_
 cases fa with
 | false =>
  go_wp2_with fail
  go_ret
  exact ⟨rfl, HB.out⟩
 | true =>
  go_wp2_with fail
  refine (Few_calls A2 c2 l2 A3 c3 l3 128 fb wa5 hfb.out).mono ?_
  rintro e wa6 ⟨rfl, hb_⟩
  replace C0 := Aside0.mk (Kd.C_below C0.out hb_)
  replace C1 := Aside0.mk (Kd.C_below C1.out hb_)
  replace C2 := Aside0.mk (Kd.C_below C2.out hb_)
  replace C3 := Aside0.mk (Kd.C_below C3.out hb_)
  replace C4 := Aside0.mk (Kd.C_below C4.out hb_)
  replace C5 := Aside0.mk (Kd.C_below C5.out hb_)
  clear qaa qba
  replace Xa := Aside0.mk (Bx.below Xa.out hb_)
  have qaa := Bx.c0 Xa.out
  have qba := Bx.c1 Xa.out
  clear qab qbb
  replace Xb := Aside0.mk (Bx.below Xb.out hb_)
  have qab := Bx.c0 Xb.out
  have qbb := Bx.c1 Xb.out
  clear qac qbc
  replace Xc := Aside0.mk (Bx.below Xc.out hb_)
  have qac := Bx.c0 Xc.out
  have qbc := Bx.c1 Xc.out
  replace HB := Aside0.mk (below_step HB.out hb_)
  clear hb_
  cases fb with
  | false =>
   go_wp2_with fail
   go_ret
   exact ⟨rfl, HB.out⟩
  | true =>
   go_wp2_with fail
   refine (Few_calls A4 c4 l4 A5 c5 l5 4 fc wa6 hfc.out).mono ?_
   rintro e wa7 ⟨rfl, hb_⟩
   replace C0 := Aside0.mk (Kd.C_below C0.out hb_)
   replace C1 := Aside0.mk (Kd.C_below C1.out hb_)
   replace C2 := Aside0.mk (Kd.C_below C2.out hb_)
   replace C3 := Aside0.mk (Kd.C_below C3.out hb_)
   replace C4 := Aside0.mk (Kd.C_below C4.out hb_)
   replace C5 := Aside0.mk (Kd.C_below C5.out hb_)
   clear qaa qba
   replace Xa := Aside0.mk (Bx.below Xa.out hb_)
   have qaa := Bx.c0 Xa.out
   have qba := Bx.c1 Xa.out
   clear qab qbb
   replace Xb := Aside0.mk (Bx.below Xb.out hb_)
   have qab := Bx.c0 Xb.out
   have qbb := Bx.c1 Xb.out
   clear qac qbc
   replace Xc := Aside0.mk (Bx.below Xc.out hb_)
   have qac := Bx.c0 Xc.out
   have qbc := Bx.c1 Xc.out
   replace HB := Aside0.mk (below_step HB.out hb_)
   clear hb_
   cases fc with
   | false =>
    go_wp2_with fail
    go_ret
    exact ⟨rfl, HB.out⟩
   | true =>
    go_wp2_with fail
    refine (ratCompare_calls A0 c0 l0 A1 c1 l1 A2 c2 l2 A3 c3 l3 X wa7 C0.out H0.out C1.out H1.out C2.out H2.out C3.out H3.out hL.out.1 hL.out.2.1 hL.out.2.2.1 hL.out.2.2.2.1 hKX.out).mono ?_
    rintro e wa8 ⟨rfl, hb_⟩
    replace C0 := Aside0.mk (Kd.C_below C0.out hb_)
    replace C1 := Aside0.mk (Kd.C_below C1.out hb_)
    replace C2 := Aside0.mk (Kd.C_below C2.out hb_)
    replace C3 := Aside0.mk (Kd.C_below C3.out hb_)
    replace C4 := Aside0.mk (Kd.C_below C4.out hb_)
    replace C5 := Aside0.mk (Kd.C_below C5.out hb_)
    clear qaa qba
    replace Xa := Aside0.mk (Bx.below Xa.out hb_)
    have qaa := Bx.c0 Xa.out
    have qba := Bx.c1 Xa.out
    clear qab qbb
    replace Xb := Aside0.mk (Bx.below Xb.out hb_)
    have qab := Bx.c0 Xb.out
    have qbb := Bx.c1 Xb.out
    clear qac qbc
    replace Xc := Aside0.mk (Bx.below Xc.out hb_)
    have qac := Bx.c0 Xc.out
    have qbc := Bx.c1 Xc.out
    replace HB := Aside0.mk (below_step HB.out hb_)
    clear hb_
    go_wp2_with fail
    refine (refRatCompare_calls A0 c0 l0 A1 c1 l1 A2 c2 l2 A3 c3 l3 X wa8 C0.out H0.out C1.out H1.out C2.out H2.out C3.out H3.out hL.out.1 hL.out.2.1 hL.out.2.2.1 hL.out.2.2.2.1 hKX.out).mono ?_
    rintro e wa9 ⟨rfl, hb_⟩
    replace C0 := Aside0.mk (Kd.C_below C0.out hb_)
    replace C1 := Aside0.mk (Kd.C_below C1.out hb_)
    replace C2 := Aside0.mk (Kd.C_below C2.out hb_)
    replace C3 := Aside0.mk (Kd.C_below C3.out hb_)
    replace C4 := Aside0.mk (Kd.C_below C4.out hb_)
    replace C5 := Aside0.mk (Kd.C_below C5.out hb_)
    clear qaa qba
    replace Xa := Aside0.mk (Bx.below Xa.out hb_)
    have qaa := Bx.c0 Xa.out
    have qba := Bx.c1 Xa.out
    clear qab qbb
    replace Xb := Aside0.mk (Bx.below Xb.out hb_)
    have qab := Bx.c0 Xb.out
    have qbb := Bx.c1 Xb.out
    clear qac qbc
    replace Xc := Aside0.mk (Bx.below Xc.out hb_)
    have qac := Bx.c0 Xc.out
    have qbc := Bx.c1 Xc.out
    replace HB := Aside0.mk (below_step HB.out hb_)
    clear hb_
    go_wp2_with fail
    refine (ratCompare_calls A2 c2 l2 A3 c3 l3 A0 c0 l0 A1 c1 l1 X2 wa9 C2.out H2.out C3.out H3.out C0.out H0.out C1.out H1.out hL.out.2.2.1 hL.out.2.2.2.1 hL.out.1 hL.out.2.1 hKX2.out).mono ?_
    rintro e wa10 ⟨rfl, hb_⟩
    replace C0 := Aside0.mk (Kd.C_below C0.out hb_)
    replace C1 := Aside0.mk (Kd.C_below C1.out hb_)
    replace C2 := Aside0.mk (Kd.C_below C2.out hb_)
    replace C3 := Aside0.mk (Kd.C_below C3.out hb_)
    replace C4 := Aside0.mk (Kd.C_below C4.out hb_)
    replace C5 := Aside0.mk (Kd.C_below C5.out hb_)
    clear qaa qba
    replace Xa := Aside0.mk (Bx.below Xa.out hb_)
    have qaa := Bx.c0 Xa.out
    have qba := Bx.c1 Xa.out
    clear qab qbb
    replace Xb := Aside0.mk (Bx.below Xb.out hb_)
    have qab := Bx.c0 Xb.out
    have qbb := Bx.c1 Xb.out
    clear qac qbc
    replace Xc := Aside0.mk (Bx.below Xc.out hb_)
    have qac := Bx.c0 Xc.out
    have qbc := Bx.c1 Xc.out
    replace HB := Aside0.mk (below_step HB.out hb_)
    clear hb_
    go_wp2_with fail
    refine (ratCompare_calls A0 c0 l0 A1 c1 l1 A0 c0 l0 A1 c1 l1 0 wa10 C0.out H0.out C1.out H1.out C0.out H0.out C1.out H1.out hL.out.1 hL.out.2.1 hL.out.1 hL.out.2.1 hK0.out).mono ?_
    rintro e wa11 ⟨rfl, hb_⟩
    replace C0 := Aside0.mk (Kd.C_below C0.out hb_)
    replace C1 := Aside0.mk (Kd.C_below C1.out hb_)
    replace C2 := Aside0.mk (Kd.C_below C2.out hb_)
    replace C3 := Aside0.mk (Kd.C_below C3.out hb_)
    replace C4 := Aside0.mk (Kd.C_below C4.out hb_)
    replace C5 := Aside0.mk (Kd.C_below C5.out hb_)
    clear qaa qba
    replace Xa := Aside0.mk (Bx.below Xa.out hb_)
    have qaa := Bx.c0 Xa.out
    have qba := Bx.c1 Xa.out
    clear qab qbb
    replace Xb := Aside0.mk (Bx.below Xb.out hb_)
    have qab := Bx.c0 Xb.out
    have qbb := Bx.c1 Xb.out
    clear qac qbc
    replace Xc := Aside0.mk (Bx.below Xc.out hb_)
    have qac := Bx.c0 Xc.out
    have qbc := Bx.c1 Xc.out
    replace HB := Aside0.mk (below_step HB.out hb_)
    clear hb_
    go_wp2_with (first | ((with_reducible refine gate_dst (N := 53) rfl ?_); (try (refine gate_guard (by rfl) ?_; dsimp only)); refine rats_event ?hg (N := 53) ?hd #[.slice A0 l0.length c0, .slice A1 l1.length c1, .slice A2 l2.length c2, .slice A3 l3.length c3] 2 ?hr ?_; (case hd => rfl); (case hg => rfl); (case hr => first | (go_simp; done) | (go_simp; rfl)); intro blt wa12 hp_ hb_; replace C0 := Aside0.mk (Kd.C_below C0.out hb_); replace C1 := Aside0.mk (Kd.C_below C1.out hb_); replace C2 := Aside0.mk (Kd.C_below C2.out hb_); replace C3 := Aside0.mk (Kd.C_below C3.out hb_); replace C4 := Aside0.mk (Kd.C_below C4.out hb_); replace C5 := Aside0.mk (Kd.C_below C5.out hb_); clear qaa qba; replace Xa := Aside0.mk (Bx.below Xa.out hb_); have qaa := Bx.c0 Xa.out; have qba := Bx.c1 Xa.out; clear qab qbb; replace Xb := Aside0.mk (Bx.below Xb.out hb_); have qab := Bx.c0 Xb.out; have qbb := Bx.c1 Xb.out; clear qac qbc; replace Xc := Aside0.mk (Bx.below Xc.out hb_); have qac := Bx.c0 Xc.out; have qbc := Bx.c1 Xc.out; replace HB := Aside0.mk (below_step HB.out hb_); have Plt := Aside0.mk hp_; clear hp_ hb_))
    refine (light2_calls A0 c0 l0 A1 c1 l1 f0 A2 c2 l2 A3 c3 l3 f1 blt wa12 hf0.out hf1.out Plt.out).mono ?_
    rintro e wa13 ⟨rfl, hb_⟩
    replace C0 := Aside0.mk (Kd.C_below C0.out hb_)
    replace C1 := Aside0.mk (Kd.C_below C1.out hb_)
    replace C2 := Aside0.mk (Kd.C_below C2.out hb_)
    replace C3 := Aside0.mk (Kd.C_below C3.out hb_)
    replace C4 := Aside0.mk (Kd.C_below C4.out hb_)
    replace C5 := Aside0.mk (Kd.C_below C5.out hb_)
    clear qaa qba
    replace Xa := Aside0.mk (Bx.below Xa.out hb_)
    have qaa := Bx.c0 Xa.out
    have qba := Bx.c1 Xa.out
    clear qab qbb
    replace Xb := Aside0.mk (Bx.below Xb.out hb_)
    have qab := Bx.c0 Xb.out
    have qbb := Bx.c1 Xb.out
    clear qac qbc
    replace Xc := Aside0.mk (Bx.below Xc.out hb_)
    have qac := Bx.c0 Xc.out
    have qbc := Bx.c1 Xc.out
    replace HB := Aside0.mk (below_step HB.out hb_)
    clear hb_
    clear Plt
    cases f0 with
    | false =>
     go_wp2_with fail
     go_ret
     exact ⟨rfl, HB.out⟩
    | true =>
     cases f1 with
     | false =>
      go_wp2_with fail
      go_ret
      exact ⟨rfl, HB.out⟩
     | true =>
      go_wp2_with fail
      refine (refRatValid_calls A0 c0 l0 A1 c1 l1 p0 wa13 C0.out H0.out C1.out H1.out hL.out.1 hL.out.2.1 hP0.out).mono ?_
      rintro e wa14 ⟨rfl, hb_⟩
      replace C0 := Aside0.mk (Kd.C_below C0.out hb_)
      replace C1 := Aside0.mk (Kd.C_below C1.out hb_)
      replace C2 := Aside0.mk (Kd.C_below C2.out hb_)
      replace C3 := Aside0.mk (Kd.C_below C3.out hb_)
      replace C4 := Aside0.mk (Kd.C_below C4.out hb_)
      replace C5 := Aside0.mk (Kd.C_below C5.out hb_)
      clear qaa qba
      replace Xa := Aside0.mk (Bx.below Xa.out hb_)
      have qaa := Bx.c0 Xa.out
      have qba := Bx.c1 Xa.out
      clear qab qbb
      replace Xb := Aside0.mk (Bx.below Xb.out hb_)
      have qab := Bx.c0 Xb.out
      have qbb := Bx.c1 Xb.out
      clear qac qbc
      replace Xc := Aside0.mk (Bx.below Xc.out hb_)
      have qac := Bx.c0 Xc.out
      have qbc := Bx.c1 Xc.out
      replace HB := Aside0.mk (below_step HB.out hb_)
      clear hb_
      cases p0 with
      | false =>
       go_wp2_with fail
       go_ret
       exact ⟨rfl, HB.out⟩
      | true =>
       go_wp2_with fail
       refine (refRatValid_calls A2 c2 l2 A3 c3 l3 p1 wa14 C2.out H2.out C3.out H3.out hL.out.2.2.1 hL.out.2.2.2.1 hP1.out).mono ?_
       rintro e wa15 ⟨rfl, hb_⟩
       replace C0 := Aside0.mk (Kd.C_below C0.out hb_)
       replace C1 := Aside0.mk (Kd.C_below C1.out hb_)
       replace C2 := Aside0.mk (Kd.C_below C2.out hb_)
       replace C3 := Aside0.mk (Kd.C_below C3.out hb_)
       replace C4 := Aside0.mk (Kd.C_below C4.out hb_)
       replace C5 := Aside0.mk (Kd.C_below C5.out hb_)
       clear qaa qba
       replace Xa := Aside0.mk (Bx.below Xa.out hb_)
       have qaa := Bx.c0 Xa.out
       have qba := Bx.c1 Xa.out
       clear qab qbb
       replace Xb := Aside0.mk (Bx.below Xb.out hb_)
       have qab := Bx.c0 Xb.out
       have qbb := Bx.c1 Xb.out
       clear qac qbc
       replace Xc := Aside0.mk (Bx.below Xc.out hb_)
       have qac := Bx.c0 Xc.out
       have qbc := Bx.c1 Xc.out
       replace HB := Aside0.mk (below_step HB.out hb_)
       clear hb_
       cases p1 with
       | false =>
        go_wp2_with fail
        go_ret
        exact ⟨rfl, HB.out⟩
       | true =>
        go_wp2_with fail
        refine (refRatValid_calls A4 c4 l4 A5 c5 l5 p2 wa15 C4.out H4.out C5.out H5.out hL.out.2.2.2.2.1 hL.out.2.2.2.2.2 hP2.out).mono ?_
        rintro e wa16 ⟨rfl, hb_⟩
        replace C0 := Aside0.mk (Kd.C_below C0.out hb_)
        replace C1 := Aside0.mk (Kd.C_below C1.out hb_)
        replace C2 := Aside0.mk (Kd.C_below C2.out hb_)
        replace C3 := Aside0.mk (Kd.C_below C3.out hb_)
        replace C4 := Aside0.mk (Kd.C_below C4.out hb_)
        replace C5 := Aside0.mk (Kd.C_below C5.out hb_)
        clear qaa qba
        replace Xa := Aside0.mk (Bx.below Xa.out hb_)
        have qaa := Bx.c0 Xa.out
        have qba := Bx.c1 Xa.out
        clear qab qbb
        replace Xb := Aside0.mk (Bx.below Xb.out hb_)
        have qab := Bx.c0 Xb.out
        have qbb := Bx.c1 Xb.out
        clear qac qbc
        replace Xc := Aside0.mk (Bx.below Xc.out hb_)
        have qac := Bx.c0 Xc.out
        have qbc := Bx.c1 Xc.out
        replace HB := Aside0.mk (below_step HB.out hb_)
        clear hb_
        cases p2 with
        | false =>
         go_wp2_with fail
         go_ret
         exact ⟨rfl, HB.out⟩
        | true =>
         obtain ⟨z0, sn, sd, tn, td, e1, e2, e3, e4, e5, e6, e7, e8, e9⟩ := hG.out (by trivial) (by trivial) (by trivial) (by trivial) (by trivial) (by trivial)
         have hA1 := Aside0.mk e1
         have hA2 := Aside0.mk e2
         have hSL := Aside0.mk (show Bn.Limbs sn ∧ Bn.Limbs sd ∧ Bn.Limbs tn ∧ Bn.Limbs td from ⟨e3, e4, e5, e6⟩)
         have hS := Aside0.mk e7.symm
         have hz := Aside0.mk z0
         have hO := Aside0.mk e9
         obtain ⟨r, hr⟩ : ∃ r, r = (decide (l0 = l2) && decide (l1 = l3)) := ⟨_, rfl⟩
         rw [← hr] at e8
         have hSm := Aside0.mk hr
         clear z0 e1 e2 e3 e4 e5 e6 e7 e9 hr hG
         go_wp2_with fail
         refine (ratAdd_calls A0 c0 l0 A1 c1 l1 A4 c4 l4 A5 c5 l5 sn sd 0 wa16 C0.out H0.out C1.out H1.out C4.out H4.out C5.out H5.out hL.out.1 hL.out.2.1 hL.out.2.2.2.2.1 hL.out.2.2.2.2.2 hA1.out).mono ?_
         rintro e wa17 ⟨Asn, csn, Asd, csd, rfl, hCsn_, hHsn_, hCsd_, hHsd_, hb_⟩
         replace C0 := Aside0.mk (Kd.C_below C0.out hb_)
         replace C1 := Aside0.mk (Kd.C_below C1.out hb_)
         replace C2 := Aside0.mk (Kd.C_below C2.out hb_)
         replace C3 := Aside0.mk (Kd.C_below C3.out hb_)
         replace C4 := Aside0.mk (Kd.C_below C4.out hb_)
         replace C5 := Aside0.mk (Kd.C_below C5.out hb_)
         clear qaa qba
         replace Xa := Aside0.mk (Bx.below Xa.out hb_)
         have qaa := Bx.c0 Xa.out
         have qba := Bx.c1 Xa.out
         clear qab qbb
         replace Xb := Aside0.mk (Bx.below Xb.out hb_)
         have qab := Bx.c0 Xb.out
         have qbb := Bx.c1 Xb.out
         clear qac qbc
         replace Xc := Aside0.mk (Bx.below Xc.out hb_)
         have qac := Bx.c0 Xc.out
         have qbc := Bx.c1 Xc.out
         replace HB := Aside0.mk (below_step HB.out hb_)
         have Csn := Aside0.mk hCsn_
         have Hsn := Aside0.mk hHsn_
         clear hCsn_ hHsn_
         have Csd := Aside0.mk hCsd_
         have Hsd := Aside0.mk hHsd_
         clear hCsd_ hHsd_
         clear hb_
         go_wp2_with (first | ((with_reducible refine gate_dst (N := 8) rfl ?_); (try (refine gate_guard (by rfl) ?_; dsimp only)); refine box_event ?hg (N := 8) ?hd (.slice none 0 0) (.slice none 0 0) ?hr ?_; (case hd => rfl); (case hg => rfl); (case hr => first | (go_simp; done) | (go_simp; rfl)); intro bq1 wa18 hx_ hs_ hb_; have Naq1 := Aside0.mk (Bx.ne Xa.out hs_); have Nbq1 := Aside0.mk (Bx.ne Xb.out hs_); have Ncq1 := Aside0.mk (Bx.ne Xc.out hs_); skip; have Sq1 := Aside0.mk (Nat.le_trans (below_size HB.out) hs_); have Xq1 := Aside0.mk hx_; replace C0 := Aside0.mk (Kd.C_below C0.out hb_); replace C1 := Aside0.mk (Kd.C_below C1.out hb_); replace C2 := Aside0.mk (Kd.C_below C2.out hb_); replace C3 := Aside0.mk (Kd.C_below C3.out hb_); replace C4 := Aside0.mk (Kd.C_below C4.out hb_); replace C5 := Aside0.mk (Kd.C_below C5.out hb_); replace Csn := Aside0.mk (Kd.C_below Csn.out hb_); replace Csd := Aside0.mk (Kd.C_below Csd.out hb_); clear qaa qba; replace Xa := Aside0.mk (Bx.below Xa.out hb_); have qaa := Bx.c0 Xa.out; have qba := Bx.c1 Xa.out; clear qab qbb; replace Xb := Aside0.mk (Bx.below Xb.out hb_); have qab := Bx.c0 Xb.out; have qbb := Bx.c1 Xb.out; clear qac qbc; replace Xc := Aside0.mk (Bx.below Xc.out hb_); have qac := Bx.c0 Xc.out; have qbc := Bx.c1 Xc.out; replace HB := Aside0.mk (below_step HB.out hb_); have qaq1 := Bx.c0 Xq1.out; have qbq1 := Bx.c1 Xq1.out; have qcq1 := Bx.f0 Xq1.out; have qdq1 := Bx.f1 Xq1.out; clear hb_ hx_ hs_) | (refine store_event (by rfl) (by rfl) Xq1.out (.slice Asn sn.length csn) (.slice Asd sd.length csd) ?hr ?_; (case hr => first | (go_simp; done) | (go_simp; rfl)); intro wa19 he_ hx_; replace C0 := Aside0.mk (C_store Xq1.out C0.out (.slice Asn sn.length csn) (.slice Asd sd.length csd)); replace C1 := Aside0.mk (C_store Xq1.out C1.out (.slice Asn sn.length csn) (.slice Asd sd.length csd)); replace C2 := Aside0.mk (C_store Xq1.out C2.out (.slice Asn sn.length csn) (.slice Asd sd.length csd)); replace C3 := Aside0.mk (C_store Xq1.out C3.out (.slice Asn sn.length csn) (.slice Asd sd.length csd)); replace C4 := Aside0.mk (C_store Xq1.out C4.out (.slice Asn sn.length csn) (.slice Asd sd.length csd)); replace C5 := Aside0.mk (C_store Xq1.out C5.out (.slice Asn sn.length csn) (.slice Asd sd.length csd)); replace Csn := Aside0.mk (C_store Xq1.out Csn.out (.slice Asn sn.length csn) (.slice Asd sd.length csd)); replace Csd := Aside0.mk (C_store Xq1.out Csd.out (.slice Asn sn.length csn) (.slice Asd sd.length csd)); clear qaa qba; replace Xa := Aside0.mk (Bx.other Xa.out Naq1.out (.slice Asn sn.length csn) (.slice Asd sd.length csd)); clear qab qbb; replace Xb := Aside0.mk (Bx.other Xb.out Nbq1.out (.slice Asn sn.length csn) (.slice Asd sd.length csd)); clear qac qbc; replace Xc := Aside0.mk (Bx.other Xc.out Ncq1.out (.slice Asn sn.length csn) (.slice Asd sd.length csd)); clear qaq1 qbq1; clear qcq1 qdq1; replace HB := Aside0.mk (below_set (j := 1) (v := (.slice Asd sd.length csd)) (below_set (j := 0) (v := (.slice Asn sn.length csn)) HB.out Sq1.out) Sq1.out); clear Xq1; have Xq1 := Aside0.mk hx_; have qaa := Bx.c0 Xa.out; have qba := Bx.c1 Xa.out; have qab := Bx.c0 Xb.out; have qbb := Bx.c1 Xb.out; have qac := Bx.c0 Xc.out; have qbc := Bx.c1 Xc.out; have qaq1 := Bx.c0 Xq1.out; have qbq1 := Bx.c1 Xq1.out; have qcq1 := Bx.f0 Xq1.out; have qdq1 := Bx.f1 Xq1.out; generalize (wa18.setCell ⟨bq1, 0, none⟩ (.slice Asn sn.length csn)).setCell ⟨bq1, 1, none⟩ (.slice Asd sd.length csd) = wg_ at *; subst he_; clear hx_))
         refine (ratAdd_calls A2 c2 l2 A3 c3 l3 A4 c4 l4 A5 c5 l5 tn td 0 wa19 C2.out H2.out C3.out H3.out C4.out H4.out C5.out H5.out hL.out.2.2.1 hL.out.2.2.2.1 hL.out.2.2.2.2.1 hL.out.2.2.2.2.2 hA2.out).mono ?_
         rintro e wa20 ⟨Atn, ctn, Atd, ctd, rfl, hCtn_, hHtn_, hCtd_, hHtd_, hb_⟩
         replace C0 := Aside0.mk (Kd.C_below C0.out hb_)
         replace C1 := Aside0.mk (Kd.C_below C1.out hb_)
         replace C2 := Aside0.mk (Kd.C_below C2.out hb_)
         replace C3 := Aside0.mk (Kd.C_below C3.out hb_)
         replace C4 := Aside0.mk (Kd.C_below C4.out hb_)
         replace C5 := Aside0.mk (Kd.C_below C5.out hb_)
         replace Csn := Aside0.mk (Kd.C_below Csn.out hb_)
         replace Csd := Aside0.mk (Kd.C_below Csd.out hb_)
         clear qaa qba
         replace Xa := Aside0.mk (Bx.below Xa.out hb_)
         have qaa := Bx.c0 Xa.out
         have qba := Bx.c1 Xa.out
         clear qab qbb
         replace Xb := Aside0.mk (Bx.below Xb.out hb_)
         have qab := Bx.c0 Xb.out
         have qbb := Bx.c1 Xb.out
         clear qac qbc
         replace Xc := Aside0.mk (Bx.below Xc.out hb_)
         have qac := Bx.c0 Xc.out
         have qbc := Bx.c1 Xc.out
         clear qaq1 qbq1
         clear qcq1 qdq1
         replace Xq1 := Aside0.mk (Bx.below Xq1.out hb_)
         have qaq1 := Bx.c0 Xq1.out
         have qbq1 := Bx.c1 Xq1.out
         have qcq1 := Bx.f0 Xq1.out
         have qdq1 := Bx.f1 Xq1.out
         replace HB := Aside0.mk (below_step HB.out hb_)
         have Ctn := Aside0.mk hCtn_
         have Htn := Aside0.mk hHtn_
         clear hCtn_ hHtn_
         have Ctd := Aside0.mk hCtd_
         have Htd := Aside0.mk hHtd_
         clear hCtd_ hHtd_
         clear hb_
         go_wp2_with (first | ((with_reducible refine gate_dst (N := 10) rfl ?_); (try (refine gate_guard (by rfl) ?_; dsimp only)); refine box_event ?hg (N := 10) ?hd (.slice none 0 0) (.slice none 0 0) ?hr ?_; (case hd => rfl); (case hg => rfl); (case hr => first | (go_simp; done) | (go_simp; rfl)); intro bq2 wa21 hx_ hs_ hb_; have Naq2 := Aside0.mk (Bx.ne Xa.out hs_); have Nbq2 := Aside0.mk (Bx.ne Xb.out hs_); have Ncq2 := Aside0.mk (Bx.ne Xc.out hs_); have Nq1q2 := Aside0.mk (Bx.ne Xq1.out hs_); skip; have Sq2 := Aside0.mk (Nat.le_trans (below_size HB.out) hs_); have Xq2 := Aside0.mk hx_; replace C0 := Aside0.mk (Kd.C_below C0.out hb_); replace C1 := Aside0.mk (Kd.C_below C1.out hb_); replace C2 := Aside0.mk (Kd.C_below C2.out hb_); replace C3 := Aside0.mk (Kd.C_below C3.out hb_); replace C4 := Aside0.mk (Kd.C_below C4.out hb_); replace C5 := Aside0.mk (Kd.C_below C5.out hb_); replace Csn := Aside0.mk (Kd.C_below Csn.out hb_); replace Csd := Aside0.mk (Kd.C_below Csd.out hb_); replace Ctn := Aside0.mk (Kd.C_below Ctn.out hb_); replace Ctd := Aside0.mk (Kd.C_below Ctd.out hb_); clear qaa qba; replace Xa := Aside0.mk (Bx.below Xa.out hb_); have qaa := Bx.c0 Xa.out; have qba := Bx.c1 Xa.out; clear qab qbb; replace Xb := Aside0.mk (Bx.below Xb.out hb_); have qab := Bx.c0 Xb.out; have qbb := Bx.c1 Xb.out; clear qac qbc; replace Xc := Aside0.mk (Bx.below Xc.out hb_); have qac := Bx.c0 Xc.out; have qbc := Bx.c1 Xc.out; clear qaq1 qbq1; clear qcq1 qdq1; replace Xq1 := Aside0.mk (Bx.below Xq1.out hb_); have qaq1 := Bx.c0 Xq1.out; have qbq1 := Bx.c1 Xq1.out; have qcq1 := Bx.f0 Xq1.out; have qdq1 := Bx.f1 Xq1.out; replace HB := Aside0.mk (below_step HB.out hb_); have qaq2 := Bx.c0 Xq2.out; have qbq2 := Bx.c1 Xq2.out; have qcq2 := Bx.f0 Xq2.out; have qdq2 := Bx.f1 Xq2.out; clear hb_ hx_ hs_) | (refine store_event (by rfl) (by rfl) Xq2.out (.slice Atn tn.length ctn) (.slice Atd td.length ctd) ?hr ?_; (case hr => first | (go_simp; done) | (go_simp; rfl)); intro wa22 he_ hx_; replace C0 := Aside0.mk (C_store Xq2.out C0.out (.slice Atn tn.length ctn) (.slice Atd td.length ctd)); replace C1 := Aside0.mk (C_store Xq2.out C1.out (.slice Atn tn.length ctn) (.slice Atd td.length ctd)); replace C2 := Aside0.mk (C_store Xq2.out C2.out (.slice Atn tn.length ctn) (.slice Atd td.length ctd)); replace C3 := Aside0.mk (C_store Xq2.out C3.out (.slice Atn tn.length ctn) (.slice Atd td.length ctd)); replace C4 := Aside0.mk (C_store Xq2.out C4.out (.slice Atn tn.length ctn) (.slice Atd td.length ctd)); replace C5 := Aside0.mk (C_store Xq2.out C5.out (.slice Atn tn.length ctn) (.slice Atd td.length ctd)); replace Csn := Aside0.mk (C_store Xq2.out Csn.out (.slice Atn tn.length ctn) (.slice Atd td.length ctd)); replace Csd := Aside0.mk (C_store Xq2.out Csd.out (.slice Atn tn.length ctn) (.slice Atd td.length ctd)); replace Ctn := Aside0.mk (C_store Xq2.out Ctn.out (.slice Atn tn.length ctn) (.slice Atd td.length ctd)); replace Ctd := Aside0.mk (C_store Xq2.out Ctd.out (.slice Atn tn.length ctn) (.slice Atd td.length ctd)); clear qaa qba; replace Xa := Aside0.mk (Bx.other Xa.out Naq2.out (.slice Atn tn.length ctn) (.slice Atd td.length ctd)); clear qab qbb; replace Xb := Aside0.mk (Bx.other Xb.out Nbq2.out (.slice Atn tn.length ctn) (.slice Atd td.length ctd)); clear qac qbc; replace Xc := Aside0.mk (Bx.other Xc.out Ncq2.out (.slice Atn tn.length ctn) (.slice Atd td.length ctd)); clear qaq1 qbq1; clear qcq1 qdq1; replace Xq1 := Aside0.mk (Bx.other Xq1.out Nq1q2.out (.slice Atn tn.length ctn) (.slice Atd td.length ctd)); clear qaq2 qbq2; clear qcq2 qdq2; replace HB := Aside0.mk (below_set (j := 1) (v := (.slice Atd td.length ctd)) (below_set (j := 0) (v := (.slice Atn tn.length ctn)) HB.out Sq2.out) Sq2.out); clear Xq2; have Xq2 := Aside0.mk hx_; have qaa := Bx.c0 Xa.out; have qba := Bx.c1 Xa.out; have qab := Bx.c0 Xb.out; have qbb := Bx.c1 Xb.out; have qac := Bx.c0 Xc.out; have qbc := Bx.c1 Xc.out; have qaq1 := Bx.c0 Xq1.out; have qbq1 := Bx.c1 Xq1.out; have qcq1 := Bx.f0 Xq1.out; have qdq1 := Bx.f1 Xq1.out; have qaq2 := Bx.c0 Xq2.out; have qbq2 := Bx.c1 Xq2.out; have qcq2 := Bx.f0 Xq2.out; have qdq2 := Bx.f1 Xq2.out; generalize (wa21.setCell ⟨bq2, 0, none⟩ (.slice Atn tn.length ctn)).setCell ⟨bq2, 1, none⟩ (.slice Atd td.length ctd) = wg_ at *; subst he_; clear hx_))
         have hb_ : Below wa22.heap.size wa22 wa22.drew := below_drew1 (Below.refl _ _)
         have hSd_ : (fun w' : World => w'.cell? ⟨ba, 0, none⟩ = some (.slice A0 l0.length c0) ∧ w'.cell? ⟨ba, 1, none⟩ = some (.slice A1 l1.length c1) ∧ w'.cell? ⟨bb, 0, none⟩ = some (.slice A2 l2.length c2) ∧ w'.cell? ⟨bb, 1, none⟩ = some (.slice A3 l3.length c3) ∧ w'.cell? ⟨bc, 0, none⟩ = some (.slice A4 l4.length c4) ∧ w'.cell? ⟨bc, 1, none⟩ = some (.slice A5 l5.length c5)) wa22.drew := ⟨qaa, qba, qab, qbb, qac, qbc⟩
         refine start_ (n := 8) (S := fun w' => w'.cell? ⟨ba, 0, none⟩ = some (.slice A0 l0.length c0) ∧ w'.cell? ⟨ba, 1, none⟩ = some (.slice A1 l1.length c1) ∧ w'.cell? ⟨bb, 0, none⟩ = some (.slice A2 l2.length c2) ∧ w'.cell? ⟨bb, 1, none⟩ = some (.slice A3 l3.length c3) ∧ w'.cell? ⟨bc, 0, none⟩ = some (.slice A4 l4.length c4) ∧ w'.cell? ⟨bc, 1, none⟩ = some (.slice A5 l5.length c5)) (ds := [5]) #[false, false, false, false, false, false, false, false] (by kernel_rfl) rfl rfl hSd_ (fun hHeld => ?_)
         clear hSd_
         replace C0 := Aside0.mk (Kd.C_below C0.out hb_)
         replace C1 := Aside0.mk (Kd.C_below C1.out hb_)
         replace C2 := Aside0.mk (Kd.C_below C2.out hb_)
         replace C3 := Aside0.mk (Kd.C_below C3.out hb_)
         replace C4 := Aside0.mk (Kd.C_below C4.out hb_)
         replace C5 := Aside0.mk (Kd.C_below C5.out hb_)
         replace Csn := Aside0.mk (Kd.C_below Csn.out hb_)
         replace Csd := Aside0.mk (Kd.C_below Csd.out hb_)
         replace Ctn := Aside0.mk (Kd.C_below Ctn.out hb_)
         replace Ctd := Aside0.mk (Kd.C_below Ctd.out hb_)
         clear qaa qba
         replace Xa := Aside0.mk (Bx.below Xa.out hb_)
         have qaa := Bx.c0 Xa.out
         have qba := Bx.c1 Xa.out
         clear qab qbb
         replace Xb := Aside0.mk (Bx.below Xb.out hb_)
         have qab := Bx.c0 Xb.out
         have qbb := Bx.c1 Xb.out
         clear qac qbc
         replace Xc := Aside0.mk (Bx.below Xc.out hb_)
         have qac := Bx.c0 Xc.out
         have qbc := Bx.c1 Xc.out
         clear qaq1 qbq1
         clear qcq1 qdq1
         replace Xq1 := Aside0.mk (Bx.below Xq1.out hb_)
         have qaq1 := Bx.c0 Xq1.out
         have qbq1 := Bx.c1 Xq1.out
         have qcq1 := Bx.f0 Xq1.out
         have qdq1 := Bx.f1 Xq1.out
         clear qaq2 qbq2
         clear qcq2 qdq2
         replace Xq2 := Aside0.mk (Bx.below Xq2.out hb_)
         have qaq2 := Bx.c0 Xq2.out
         have qbq2 := Bx.c1 Xq2.out
         have qcq2 := Bx.f0 Xq2.out
         have qdq2 := Bx.f1 Xq2.out
         replace HB := Aside0.mk (below_step HB.out hb_)
         clear hb_
         generalize wa22.drew = wa23 at *
         refine take_ (i := 0) (N := some 83) (v := ?_) (a' := ?_) #[true, false, false, false, false, false, false, false] rfl rfl (by kernel_rfl) (fun _ _ _ h => h) (Or.inl ⟨by rfl, ?_⟩) hHeld ?_ ?_
         rotate_left
         ·rintro w' ⟨s0, s1, s2, s3, s4, s5⟩
          go_simp
          with_reducible rfl
         rotate_left
         ·simp only [Act.put, List.setIfInBounds_toArray, List.set_cons_zero, List.set_cons_succ, i64_w, i32_w]
          rfl
         refine take_ (i := 1) (N := some 84) (v := ?_) (a' := ?_) #[true, true, false, false, false, false, false, false] rfl rfl (by kernel_rfl) (fun _ _ _ h => h) (Or.inl ⟨by rfl, ?_⟩) hHeld ?_ ?_
         rotate_left
         ·rintro w' ⟨s0, s1, s2, s3, s4, s5⟩
          go_simp
          with_reducible rfl
         rotate_left
         ·simp only [Act.put, List.setIfInBounds_toArray, List.set_cons_zero, List.set_cons_succ, i64_w, i32_w]
          rfl
         refine take_ (i := 3) (N := some 86) (v := ?_) (a' := ?_) #[true, true, false, true, false, false, false, false] rfl rfl (by kernel_rfl) (fun _ _ _ h => h) (Or.inl ⟨by rfl, ?_⟩) hHeld ?_ ?_
         rotate_left
         ·rintro w' ⟨s0, s1, s2, s3, s4, s5⟩
          go_simp
          with_reducible rfl
         rotate_left
         ·simp only [Act.put, List.setIfInBounds_toArray, List.set_cons_zero, List.set_cons_succ, i64_w, i32_w]
          rfl
         refine take_ (i := 4) (N := some 87) (v := ?_) (a' := ?_) #[true, true, false, true, true, false, false, false] rfl rfl (by kernel_rfl) (fun _ _ _ h => h) (Or.inl ⟨by rfl, ?_⟩) hHeld ?_ ?_
         rotate_left
         ·rintro w' ⟨s0, s1, s2, s3, s4, s5⟩
          go_simp
          with_reducible rfl
         rotate_left
         ·simp only [Act.put, List.setIfInBounds_toArray, List.set_cons_zero, List.set_cons_succ, i64_w, i32_w]
          rfl
         refine one_ (i := 2) (N := some 85) #[true, true, true, true, true, false, false, false] rfl rfl (by kernel_rfl) (by decide) (fun K hK => ?_)
         refine goes_ Tryd.func44 (by kernel_rfl) rfl #[.agg #[.slice A2 l2.length c2, .slice A3 l3.length c3], .agg #[.slice A4 l4.length c4, .slice A5 l5.length c5]] (by rfl) rfl rfl (by (try simp only [List.map_toArray, List.map_cons, List.map_nil]); first | done | rfl) ?_
         refine (ratCompare_calls A2 c2 l2 A3 c3 l3 A4 c4 l4 A5 c5 l5 Y wa23 C2.out H2.out C3.out H3.out C4.out H4.out C5.out H5.out hL.out.2.2.1 hL.out.2.2.2.1 hL.out.2.2.2.2.1 hL.out.2.2.2.2.2 hKY.out).mono ?_
         rintro e wa24 ⟨rfl, hb_⟩
         replace C0 := Aside0.mk (Kd.C_below C0.out hb_)
         replace C1 := Aside0.mk (Kd.C_below C1.out hb_)
         replace C2 := Aside0.mk (Kd.C_below C2.out hb_)
         replace C3 := Aside0.mk (Kd.C_below C3.out hb_)
         replace C4 := Aside0.mk (Kd.C_below C4.out hb_)
         replace C5 := Aside0.mk (Kd.C_below C5.out hb_)
         replace Csn := Aside0.mk (Kd.C_below Csn.out hb_)
         replace Csd := Aside0.mk (Kd.C_below Csd.out hb_)
         replace Ctn := Aside0.mk (Kd.C_below Ctn.out hb_)
         replace Ctd := Aside0.mk (Kd.C_below Ctd.out hb_)
         clear qaa qba
         replace Xa := Aside0.mk (Bx.below Xa.out hb_)
         have qaa := Bx.c0 Xa.out
         have qba := Bx.c1 Xa.out
         clear qab qbb
         replace Xb := Aside0.mk (Bx.below Xb.out hb_)
         have qab := Bx.c0 Xb.out
         have qbb := Bx.c1 Xb.out
         clear qac qbc
         replace Xc := Aside0.mk (Bx.below Xc.out hb_)
         have qac := Bx.c0 Xc.out
         have qbc := Bx.c1 Xc.out
         clear qaq1 qbq1
         clear qcq1 qdq1
         replace Xq1 := Aside0.mk (Bx.below Xq1.out hb_)
         have qaq1 := Bx.c0 Xq1.out
         have qbq1 := Bx.c1 Xq1.out
         have qcq1 := Bx.f0 Xq1.out
         have qdq1 := Bx.f1 Xq1.out
         clear qaq2 qbq2
         clear qcq2 qdq2
         replace Xq2 := Aside0.mk (Bx.below Xq2.out hb_)
         have qaq2 := Bx.c0 Xq2.out
         have qbq2 := Bx.c1 Xq2.out
         have qcq2 := Bx.f0 Xq2.out
         have qdq2 := Bx.f1 Xq2.out
         replace HB := Aside0.mk (below_step HB.out hb_)
         clear hb_
         refine ⟨_, rfl, ?_⟩
         clear hHeld
         refine hK.out _ _ ⟨qaa, qba, qab, qbb, qac, qbc⟩ (fun hHeld => ?_)
         clear hK K
         refine norm_ (a' := ?_) ?_ ?_
         rotate_left
         ·show Act.put _ (some 85) _ = _
          simp only [Act.put, List.setIfInBounds_toArray, List.set_cons_zero, List.set_cons_succ, i64_w, i32_w]
          rfl
         refine last_ (i := 5) (N := some 88) #[true, true, true, true, true, true, false, false] rfl rfl (by kernel_rfl) (by decide) (fun K hK => ?_)
         refine goes_ Tryd.func44 (by kernel_rfl) rfl #[.agg #[.slice A0 l0.length c0, .slice A1 l1.length c1], .agg #[.slice A4 l4.length c4, .slice A5 l5.length c5]] (by rfl) rfl rfl (by (try simp only [List.map_toArray, List.map_cons, List.map_nil]); first | done | rfl) ?_
         refine (ratCompare_calls A0 c0 l0 A1 c1 l1 A4 c4 l4 A5 c5 l5 Z wa24 C0.out H0.out C1.out H1.out C4.out H4.out C5.out H5.out hL.out.1 hL.out.2.1 hL.out.2.2.2.2.1 hL.out.2.2.2.2.2 hKZ.out).mono ?_
         rintro e wa25 ⟨rfl, hb_⟩
         replace C0 := Aside0.mk (Kd.C_below C0.out hb_)
         replace C1 := Aside0.mk (Kd.C_below C1.out hb_)
         replace C2 := Aside0.mk (Kd.C_below C2.out hb_)
         replace C3 := Aside0.mk (Kd.C_below C3.out hb_)
         replace C4 := Aside0.mk (Kd.C_below C4.out hb_)
         replace C5 := Aside0.mk (Kd.C_below C5.out hb_)
         replace Csn := Aside0.mk (Kd.C_below Csn.out hb_)
         replace Csd := Aside0.mk (Kd.C_below Csd.out hb_)
         replace Ctn := Aside0.mk (Kd.C_below Ctn.out hb_)
         replace Ctd := Aside0.mk (Kd.C_below Ctd.out hb_)
         clear qaa qba
         replace Xa := Aside0.mk (Bx.below Xa.out hb_)
         have qaa := Bx.c0 Xa.out
         have qba := Bx.c1 Xa.out
         clear qab qbb
         replace Xb := Aside0.mk (Bx.below Xb.out hb_)
         have qab := Bx.c0 Xb.out
         have qbb := Bx.c1 Xb.out
         clear qac qbc
         replace Xc := Aside0.mk (Bx.below Xc.out hb_)
         have qac := Bx.c0 Xc.out
         have qbc := Bx.c1 Xc.out
         clear qaq1 qbq1
         clear qcq1 qdq1
         replace Xq1 := Aside0.mk (Bx.below Xq1.out hb_)
         have qaq1 := Bx.c0 Xq1.out
         have qbq1 := Bx.c1 Xq1.out
         have qcq1 := Bx.f0 Xq1.out
         have qdq1 := Bx.f1 Xq1.out
         clear qaq2 qbq2
         clear qcq2 qdq2
         replace Xq2 := Aside0.mk (Bx.below Xq2.out hb_)
         have qaq2 := Bx.c0 Xq2.out
         have qbq2 := Bx.c1 Xq2.out
         have qcq2 := Bx.f0 Xq2.out
         have qdq2 := Bx.f1 Xq2.out
         replace HB := Aside0.mk (below_step HB.out hb_)
         clear hb_
         refine ⟨_, rfl, ?_⟩
         refine hK.out _ _ ?_
         clear hK K
         refine norm_ (a' := ?_) ?_ ?_
         rotate_left
         ·show Act.put _ (some 88) _ = _
          simp only [Act.put, List.setIfInBounds_toArray, List.set_cons_zero, List.set_cons_succ, i64_w, i32_w]
          rfl
         refine pure_ (i := 6) (N := some 12) (v := ?_) (a' := ?_) #[true, true, true, true, true, true, true, false] rfl rfl (by kernel_rfl) (fun _ _ _ h => h) (Or.inl ⟨by rfl, ?_⟩) ?_ ?_
         rotate_left
         ·intro w'
          go_simp
          with_reducible rfl
         rotate_left
         ·simp only [Act.put, List.setIfInBounds_toArray, List.set_cons_zero, List.set_cons_succ, i64_w, i32_w]
          rfl
         refine pure_ (i := 7) (N := some 13) (v := ?_) (a' := ?_) #[true, true, true, true, true, true, true, true] rfl rfl (by kernel_rfl) (fun _ _ _ h => h) (Or.inl ⟨by rfl, ?_⟩) ?_ ?_
         rotate_left
         ·intro w'
          go_simp
          with_reducible rfl
         rotate_left
         ·simp only [Act.put, List.setIfInBounds_toArray, List.set_cons_zero, List.set_cons_succ, i64_w, i32_w]
          rfl
         refine done_ (by kernel_rfl) ?_
         go_wp2_with fail
         refine (ratCompare_calls Asn csn sn Asd csd sd Atn ctn tn Atd ctd td X wa25 Csn.out Hsn.out Csd.out Hsd.out Ctn.out Htn.out Ctd.out Htd.out hSL.out.1 hSL.out.2.1 hSL.out.2.2.1 hSL.out.2.2.2 hS.out).mono ?_
         rintro e wa26 ⟨rfl, hb_⟩
         replace C0 := Aside0.mk (Kd.C_below C0.out hb_)
         replace C1 := Aside0.mk (Kd.C_below C1.out hb_)
         replace C2 := Aside0.mk (Kd.C_below C2.out hb_)
         replace C3 := Aside0.mk (Kd.C_below C3.out hb_)
         replace C4 := Aside0.mk (Kd.C_below C4.out hb_)
         replace C5 := Aside0.mk (Kd.C_below C5.out hb_)
         replace Csn := Aside0.mk (Kd.C_below Csn.out hb_)
         replace Csd := Aside0.mk (Kd.C_below Csd.out hb_)
         replace Ctn := Aside0.mk (Kd.C_below Ctn.out hb_)
         replace Ctd := Aside0.mk (Kd.C_below Ctd.out hb_)
         clear qaa qba
         replace Xa := Aside0.mk (Bx.below Xa.out hb_)
         have qaa := Bx.c0 Xa.out
         have qba := Bx.c1 Xa.out
         clear qab qbb
         replace Xb := Aside0.mk (Bx.below Xb.out hb_)
         have qab := Bx.c0 Xb.out
         have qbb := Bx.c1 Xb.out
         clear qac qbc
         replace Xc := Aside0.mk (Bx.below Xc.out hb_)
         have qac := Bx.c0 Xc.out
         have qbc := Bx.c1 Xc.out
         clear qaq1 qbq1
         clear qcq1 qdq1
         replace Xq1 := Aside0.mk (Bx.below Xq1.out hb_)
         have qaq1 := Bx.c0 Xq1.out
         have qbq1 := Bx.c1 Xq1.out
         have qcq1 := Bx.f0 Xq1.out
         have qdq1 := Bx.f1 Xq1.out
         clear qaq2 qbq2
         clear qcq2 qdq2
         replace Xq2 := Aside0.mk (Bx.below Xq2.out hb_)
         have qaq2 := Bx.c0 Xq2.out
         have qbq2 := Bx.c1 Xq2.out
         have qcq2 := Bx.f0 Xq2.out
         have qdq2 := Bx.f1 Xq2.out
         replace HB := Aside0.mk (below_step HB.out hb_)
         clear hb_
         go_wp2_with fail
         refine (Same_calls A0 c0 l0 A1 c1 l1 A2 c2 l2 A3 c3 l3 r wa26 C0.out H0.out C1.out H1.out C2.out H2.out C3.out H3.out (Nat.le_trans hz.out.1 (by decide)) (Nat.le_trans hz.out.2 (by decide)) hSm.out).mono ?_
         rintro e wa27 ⟨rfl, hb_⟩
         replace C0 := Aside0.mk (Kd.C_below C0.out hb_)
         replace C1 := Aside0.mk (Kd.C_below C1.out hb_)
         replace C2 := Aside0.mk (Kd.C_below C2.out hb_)
         replace C3 := Aside0.mk (Kd.C_below C3.out hb_)
         replace C4 := Aside0.mk (Kd.C_below C4.out hb_)
         replace C5 := Aside0.mk (Kd.C_below C5.out hb_)
         replace Csn := Aside0.mk (Kd.C_below Csn.out hb_)
         replace Csd := Aside0.mk (Kd.C_below Csd.out hb_)
         replace Ctn := Aside0.mk (Kd.C_below Ctn.out hb_)
         replace Ctd := Aside0.mk (Kd.C_below Ctd.out hb_)
         clear qaa qba
         replace Xa := Aside0.mk (Bx.below Xa.out hb_)
         have qaa := Bx.c0 Xa.out
         have qba := Bx.c1 Xa.out
         clear qab qbb
         replace Xb := Aside0.mk (Bx.below Xb.out hb_)
         have qab := Bx.c0 Xb.out
         have qbb := Bx.c1 Xb.out
         clear qac qbc
         replace Xc := Aside0.mk (Bx.below Xc.out hb_)
         have qac := Bx.c0 Xc.out
         have qbc := Bx.c1 Xc.out
         clear qaq1 qbq1
         clear qcq1 qdq1
         replace Xq1 := Aside0.mk (Bx.below Xq1.out hb_)
         have qaq1 := Bx.c0 Xq1.out
         have qbq1 := Bx.c1 Xq1.out
         have qcq1 := Bx.f0 Xq1.out
         have qdq1 := Bx.f1 Xq1.out
         clear qaq2 qbq2
         clear qcq2 qdq2
         replace Xq2 := Aside0.mk (Bx.below Xq2.out hb_)
         have qaq2 := Bx.c0 Xq2.out
         have qbq2 := Bx.c1 Xq2.out
         have qcq2 := Bx.f0 Xq2.out
         have qdq2 := Bx.f1 Xq2.out
         replace HB := Aside0.mk (below_step HB.out hb_)
         clear hb_
         by_cases h1 : X > 0
         ·have g1 : decide (X > 0) = true := decide_eq_true h1
          go_wp2_with fail
          go_ret
          exact ⟨rfl, HB.out⟩
         ·have g1 : decide (X > 0) = false := decide_eq_false h1
          by_cases h2 : Y > 0
          ·have g2 : decide (Y > 0) = true := decide_eq_true h2
           go_wp2_with fail
           go_ret
           exact ⟨rfl, HB.out⟩
          ·have g2 : decide (Y > 0) = false := decide_eq_false h2
           have g3 : decide (Z ≤ 0) = true := decide_eq_true (by rcases hO.out with h | h | h; exact absurd h h1; exact absurd h h2; exact h)
           go_wp2_with fail
           go_ret
           exact ⟨rfl, HB.out⟩

end Go.Proofs.YtoakfjcejamoeaaDoor.B
