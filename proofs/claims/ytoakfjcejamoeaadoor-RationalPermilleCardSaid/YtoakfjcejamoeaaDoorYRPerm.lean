/- The walk of the law RationalPermille. -/
import Derived.Test.YtoakfjcejamoeaaDoorQF
import Derived.Test.YtoakfjcejamoeaaDoorQH
namespace Go.Proofs.YtoakfjcejamoeaaDoor.B
open Go.RowKit Go.Proofs.YtoakfjcejamoeaaDoorW.PrintWords Go.Proofs.YtoakfjcejamoeaaDoorW.PrintLast Go.Proofs.YtoakfjcejamoeaaDoorW.PrintMore
set_option exponentiation.threshold 8200
set_option linter.unusedVariables false
set_option linter.unusedSimpArgs false
theorem above_factsM {m : Nat} (hn : m ≤ 1000001) {a b x y : List Int} (La : Bn.Limbs a) (Lb : Bn.Limbs b) (hv : ratB a b = true) (h : newB (Bn.limbs m) (Bn.limbs 1000) = ((x, y), 0)) : Bn.Limbs x ∧ Bn.Limbs y ∧ decide (compareR x y a b > 0) = decide (1000 * Bn.nv a < m * Bn.nv b) := by
 unfold newB at h
 have h1 : (Bn.limbs m).length ≤ 128 := Nat.le_trans ((Bn.limbs_len _ 1).2 (by omega)) (by decide)
 have h2 : (Bn.limbs 1000).length ≤ 128 := Nat.le_trans ((Bn.limbs_len _ 1).2 (by decide)) (by decide)
 rw [if_pos ⟨validB_limbs h1, validB_limbs h2, limbs_ne (by decide)⟩, Bn.nv_limbs, Bn.nv_limbs] at h
 injection h with h3 h4
 injection h3 with h5 h6
 have hg : 0 < Nat.gcd m 1000 := Nat.gcd_pos_of_pos_right _ (by decide)
 have d1 := Nat.gcd_dvd_left m 1000
 have d2 := Nat.gcd_dvd_right m 1000
 have L1 : Bn.Limbs x := by rw [← h5]; exact Bn.limbs_limbs _
 have L2 : Bn.Limbs y := by rw [← h6]; exact Bn.limbs_limbs _
 have ex : Bn.nv x = m / Nat.gcd m 1000 := by rw [← h5, Bn.nv_limbs]
 have ey : Bn.nv y = 1000 / Nat.gcd m 1000 := by rw [← h6, Bn.nv_limbs]
 have hr : ratB x y = true := by
  have hx : (Bn.limbs (m / Nat.gcd m 1000)).length ≤ 128 := Nat.le_trans ((Bn.limbs_len _ 1).2 (Nat.lt_of_le_of_lt (Nat.div_le_self _ _) (by omega))) (by decide)
  have hy : (Bn.limbs (1000 / Nat.gcd m 1000)).length ≤ 128 := Nat.le_trans ((Bn.limbs_len _ 1).2 (Nat.lt_of_le_of_lt (Nat.div_le_self _ _) (by decide))) (by decide)
  refine (ratB_iff L1 L2).2 ⟨⟨by rw [← h5]; exact Bn.nrm_limbs _, by rw [← h5]; exact hx⟩, ⟨by rw [← h6]; exact Bn.nrm_limbs _, by rw [← h6]; exact hy⟩, by rw [← h6]; exact limbs_ne (Nat.div_pos (Nat.le_of_dvd (by decide) d2) hg), ?_⟩
  rw [ex, ey]
  rw [Nat.gcd_div d1 d2, Nat.div_self hg]
 refine ⟨L1, L2, ?_⟩
 unfold compareR cleanB
 rw [if_pos hr, if_pos hv]
 show decide (cmpN (Bn.nv x * Bn.nv b) (Bn.nv a * Bn.nv y) > 0) = _
 have key : m * Bn.nv b = Nat.gcd m 1000 * (Bn.nv x * Bn.nv b) ∧ 1000 * Bn.nv a = Nat.gcd m 1000 * (Bn.nv a * Bn.nv y) := by
  constructor
  ·rw [← Nat.mul_assoc, ex, Nat.mul_div_cancel' d1]
  ·rw [Nat.mul_comm (Bn.nv a), ← Nat.mul_assoc, ey, Nat.mul_div_cancel' d2]
 rw [key.1, key.2]
 generalize Bn.nv x * Bn.nv b = X
 generalize Bn.nv a * Bn.nv y = Y
 unfold cmpN
 rcases Nat.lt_trichotomy X Y with h | h | h
 ·have h7 := Nat.mul_le_mul_left (Nat.gcd m 1000) (Nat.le_of_lt h)
  rw [if_pos h, decide_eq_false (show ¬ (Nat.gcd m 1000 * Y < Nat.gcd m 1000 * X) by omega)]
  rfl
 ·rw [if_neg (by omega), if_neg (by omega), h, decide_eq_false (show ¬ (Nat.gcd m 1000 * Y < Nat.gcd m 1000 * Y) by omega)]
  rfl
 ·have h7 := Nat.mul_lt_mul_of_pos_left h hg
  rw [if_neg (by omega), if_pos h, decide_eq_true h7]
  rfl

theorem perm_law {a b : List Int} (La : Bn.Limbs a) (Lb : Bn.Limbs b) (hv : ratB a b = true) (hR : permR a b ≠ 1000000) : ∃ n x y x' y', permR a b = ((n : Nat) : Int) ∧ n < 1000000 ∧ newB (Bn.limbs n) (Bn.limbs 1000) = ((x, y), 0) ∧ newB (Bn.limbs (n + 1)) (Bn.limbs 1000) = ((x', y'), 0) ∧ Bn.Limbs x ∧ Bn.Limbs y ∧ Bn.Limbs x' ∧ Bn.Limbs y' ∧ compareR x y a b ≤ 0 ∧ compareR x' y' a b > 0 := by
 have hp := nv_pos ((ratB_iff La Lb).1 hv).2.1.1 ((ratB_iff La Lb).1 hv).2.2.1
 have e : permR a b = ((permN a b : Nat) : Int) := if_pos hv
 have hlt : permN a b < 1000000 := by
  have : permN a b ≤ 1000000 := Nat.min_le_right _ _
  omega
 have hq : permN a b = 1000 * Bn.nv a / Bn.nv b := by
  unfold permN at *
  omega
 have nb : ∀ m, m ≤ 1000001 → ∃ x y, newB (Bn.limbs m) (Bn.limbs 1000) = ((x, y), 0) := fun m hm => by
  have h1 : (Bn.limbs m).length ≤ 128 := Nat.le_trans ((Bn.limbs_len _ 1).2 (by omega)) (by decide)
  have h2 : (Bn.limbs 1000).length ≤ 128 := Nat.le_trans ((Bn.limbs_len _ 1).2 (by decide)) (by decide)
  unfold newB
  rw [if_pos ⟨validB_limbs h1, validB_limbs h2, limbs_ne (by decide)⟩]
  exact ⟨_, _, rfl⟩
 obtain ⟨x, y, h1⟩ := nb (permN a b) (by omega)
 obtain ⟨x', y', h2⟩ := nb (permN a b + 1) (by omega)
 obtain ⟨k1, k2, k3⟩ := above_factsM (show permN a b ≤ 1000001 by omega) La Lb hv h1
 obtain ⟨k4, k5, k6⟩ := above_factsM (show permN a b + 1 ≤ 1000001 by omega) La Lb hv h2
 refine ⟨permN a b, x, y, x', y', e, hlt, h1, h2, k1, k2, k4, k5, ?_, ?_⟩
 ·rw [decide_eq_false (show ¬ 1000 * Bn.nv a < permN a b * Bn.nv b by
   rw [hq]
   exact Nat.not_lt.2 (Nat.div_mul_le_self _ _))] at k3
  exact Int.not_lt.1 (of_decide_eq_false k3)
 ·rw [decide_eq_true (show 1000 * Bn.nv a < (permN a b + 1) * Bn.nv b by
   rw [hq]
   exact (Nat.div_lt_iff_lt_mul hp).1 (Nat.lt_succ_self _))] at k6
  exact of_decide_eq_true k6
theorem permR_bounds (a b : List Int) : 0 ≤ permR a b ∧ permR a b ≤ 1000000 := by
 unfold permR
 have : permN a b ≤ 1000000 := Nat.min_le_right _ _
 split <;> omega
set_option maxHeartbeats 16000000 in
set_option maxRecDepth 100000 in
/-- RationalPermille. -/
theorem permLaw (A0 : Option Addr) (c0 : Nat) (l0 : List Int) (A1 : Option Addr) (c1 : Nat) (l1 : List Int)  (w : World) (hr0 : Kd.C (Kd.int .u32) w A0 l0.length l0) (hc0 : l0.length ≤ c0) (hr1 : Kd.C (Kd.int .u32) w A1 l1.length l1) (hc1 : l1.length ≤ c1) (ht_ : Tab w) (L0 : Bn.Limbs l0) (L1 : Bn.Limbs l1) :
  Calls Tryd.prog 11 #[.agg #[.slice A0 l0.length c0, .slice A1 l1.length c1]] w fun e w' => e = .returned (.bool true) ∧ Below w.heap.size w w' := by
 have HT_ := Aside0.mk ht_
 clear ht_
 have C0 := Aside0.mk hr0
 have H0 := Aside0.mk hc0
 clear hr0 hc0
 have C1 := Aside0.mk hr1
 have H1 := Aside0.mk hc1
 clear hr1 hc1
 have HB := Aside0.mk (Below.refl w.heap.size w)
 obtain ⟨f, hq⟩ : ∃ f, f = (decide ((l0.length : Int) ≤ 128) && decide ((l1.length : Int) ≤ 128)) := ⟨_, rfl⟩
 have hf := Aside0.mk hq
 obtain ⟨p, hp⟩ : ∃ p, p = ratB l0 l1 := ⟨_, rfl⟩
 have hP := Aside0.mk (show Bn.Limbs l0 ∧ Bn.Limbs l1 ∧ p = ratB l0 l1 from ⟨L0, L1, hp⟩)
 have hG := Aside0.mk (show p = true → permR l0 l1 ≠ 1000000 → _ from fun h1 h2 => perm_law L0 L1 (hp ▸ h1) h2)
 obtain ⟨hb0, hb1⟩ := permR_bounds l0 l1
 obtain ⟨R, hR⟩ : ∃ R, R = permR l0 l1 := ⟨_, rfl⟩
 rw [← hR] at hb0 hb1
 have hRR := Aside0.mk hR
 have g1 : decide (R < 0) = false := decide_eq_false (by omega)
 have g2 : decide (R > 1000000) = false := decide_eq_false (by omega)
 clear hq hp hR L0 L1 hb0 hb1
 go_enter Tryd.func11, Tryd.ntmps11
 go_wp2_with (first | ((with_reducible refine gate_dst (N := 1) rfl ?_); (try (refine gate_guard (by rfl) ?_; dsimp only)); refine box_event ?hg (N := 1) ?hd (.slice A0 l0.length c0) (.slice A1 l1.length c1) ?hr ?_; (case hd => rfl); (case hg => rfl); (case hr => first | (go_simp; done) | (go_simp; rfl)); intro ba wa1 hx_ hs_ hb_; skip; have Sa := Aside0.mk (Nat.le_trans (below_size HB.out) hs_); have Xa := Aside0.mk hx_; replace C0 := Aside0.mk (Kd.C_below C0.out hb_); replace C1 := Aside0.mk (Kd.C_below C1.out hb_); replace HB := Aside0.mk (below_step HB.out hb_); have qaa := Bx.c0 Xa.out; have qba := Bx.c1 Xa.out; clear hb_ hx_ hs_))
 refine (awake10_calls wa1 (HT_.out.below HB.out)).mono ?_
 rintro e wa2 ⟨rfl, hb_⟩
 replace C0 := Aside0.mk (Kd.C_below C0.out hb_)
 replace C1 := Aside0.mk (Kd.C_below C1.out hb_)
 clear qaa qba
 replace Xa := Aside0.mk (Bx.below Xa.out hb_)
 have qaa := Bx.c0 Xa.out
 have qba := Bx.c1 Xa.out
 replace HB := Aside0.mk (below_step HB.out hb_)
 clear hb_
 go_wp2_with fail
 refine (Few_calls A0 c0 l0 A1 c1 l1 128 f wa2 hf.out).mono ?_
 rintro e wa3 ⟨rfl, hb_⟩
 replace C0 := Aside0.mk (Kd.C_below C0.out hb_)
 replace C1 := Aside0.mk (Kd.C_below C1.out hb_)
 clear qaa qba
 replace Xa := Aside0.mk (Bx.below Xa.out hb_)
 have qaa := Bx.c0 Xa.out
 have qba := Bx.c1 Xa.out
 replace HB := Aside0.mk (below_step HB.out hb_)
 clear hb_
 cases f with
 | false =>
  go_wp2_with fail
  go_ret
  exact ⟨rfl, HB.out⟩
 | true =>
  go_wp2_with fail
  refine (permille_calls A0 c0 l0 A1 c1 l1 R wa3 C0.out H0.out C1.out H1.out hP.out.1 hP.out.2.1 hRR.out).mono ?_
  rintro e wa4 ⟨rfl, hb_⟩
  replace C0 := Aside0.mk (Kd.C_below C0.out hb_)
  replace C1 := Aside0.mk (Kd.C_below C1.out hb_)
  clear qaa qba
  replace Xa := Aside0.mk (Bx.below Xa.out hb_)
  have qaa := Bx.c0 Xa.out
  have qba := Bx.c1 Xa.out
  replace HB := Aside0.mk (below_step HB.out hb_)
  clear hb_
  go_wp2_with fail
  refine (refPermille_calls A0 c0 l0 A1 c1 l1 R wa4 C0.out H0.out C1.out H1.out hP.out.1 hP.out.2.1 hRR.out).mono ?_
  rintro e wa5 ⟨rfl, hb_⟩
  replace C0 := Aside0.mk (Kd.C_below C0.out hb_)
  replace C1 := Aside0.mk (Kd.C_below C1.out hb_)
  clear qaa qba
  replace Xa := Aside0.mk (Bx.below Xa.out hb_)
  have qaa := Bx.c0 Xa.out
  have qba := Bx.c1 Xa.out
  replace HB := Aside0.mk (below_step HB.out hb_)
  clear hb_
  go_wp2_with fail
  refine (refRatValid_calls A0 c0 l0 A1 c1 l1 p wa5 C0.out H0.out C1.out H1.out hP.out.1 hP.out.2.1 hP.out.2.2).mono ?_
  rintro e wa6 ⟨rfl, hb_⟩
  replace C0 := Aside0.mk (Kd.C_below C0.out hb_)
  replace C1 := Aside0.mk (Kd.C_below C1.out hb_)
  clear qaa qba
  replace Xa := Aside0.mk (Bx.below Xa.out hb_)
  have qaa := Bx.c0 Xa.out
  have qba := Bx.c1 Xa.out
  replace HB := Aside0.mk (below_step HB.out hb_)
  clear hb_
  cases p with
  | false =>
   go_wp2_with fail
   go_ret
   exact ⟨rfl, HB.out⟩
  | true =>
   by_cases hm : R = 1000000
   ·obtain rfl := hm
    go_wp2_with fail
    go_ret
    exact ⟨rfl, HB.out⟩
   ·obtain ⟨n, x, y, x', y', e1, hn, h1, h2, k1, k2, k3, k4, k5, k6⟩ := hG.out (by trivial) (by rw [← hRR.out]; exact hm)
    rw [← hRR.out] at e1
    obtain rfl := e1
    have hN1 := Aside0.mk (show n < 18446744073709551616 ∧ 1000 < 18446744073709551616 ∧ newB (Bn.limbs n) (Bn.limbs 1000) = ((x, y), 0) from ⟨by omega, by decide, h1⟩)
    have hN2 := Aside0.mk (show n + 1 < 18446744073709551616 ∧ 1000 < 18446744073709551616 ∧ newB (Bn.limbs (n + 1)) (Bn.limbs 1000) = ((x', y'), 0) from ⟨by omega, by decide, h2⟩)
    obtain ⟨c, hc⟩ : ∃ c, c = compareR x y l0 l1 := ⟨_, rfl⟩
    obtain ⟨c2, hc2⟩ : ∃ c, c = compareR x' y' l0 l1 := ⟨_, rfl⟩
    rw [← hc] at k5
    rw [← hc2] at k6
    have g3 : decide (c ≤ 0) = true := decide_eq_true k5
    have g4 : decide (c2 > 0) = true := decide_eq_true k6
    have hC1 := Aside0.mk (show Bn.Limbs x ∧ Bn.Limbs y ∧ c = compareR x y l0 l1 from ⟨k1, k2, hc⟩)
    have hC2 := Aside0.mk (show Bn.Limbs x' ∧ Bn.Limbs y' ∧ c2 = compareR x' y' l0 l1 from ⟨k3, k4, hc2⟩)
    have w1 : IntKind.u64.wrap (n : Int) = (n : Int) := u64N (by omega)
    have w2 : IntKind.u64.wrap ((n : Int) + 1) = ((n + 1 : Nat) : Int) := by
     rw [show (n : Int) + 1 = ((n + 1 : Nat) : Int) by omega]
     exact u64N (by omega)
    have g5 : ((n : Int) == 1000000) = false := by
     rw [beq_eq_false_iff_ne]
     omega
    clear hc hc2 k1 k2 k3 k4 k5 k6 h1 h2 hn hG
    go_wp2_with fail
    refine (FromInts_calls n 1000 x y 0 wa6 hN1.out.1 hN1.out.2.1 hN1.out.2.2).mono ?_
    rintro e wa7 ⟨Ax, cx, Ay, cy, rfl, hCx_, hHx_, hCy_, hHy_, hb_⟩
    replace C0 := Aside0.mk (Kd.C_below C0.out hb_)
    replace C1 := Aside0.mk (Kd.C_below C1.out hb_)
    clear qaa qba
    replace Xa := Aside0.mk (Bx.below Xa.out hb_)
    have qaa := Bx.c0 Xa.out
    have qba := Bx.c1 Xa.out
    replace HB := Aside0.mk (below_step HB.out hb_)
    have Cx := Aside0.mk hCx_
    have Hx := Aside0.mk hHx_
    clear hCx_ hHx_
    have Cy := Aside0.mk hCy_
    have Hy := Aside0.mk hHy_
    clear hCy_ hHy_
    clear hb_
    go_wp2_with (first | ((with_reducible refine gate_dst (N := 4) rfl ?_); (try (refine gate_guard (by rfl) ?_; dsimp only)); refine box_event ?hg (N := 4) ?hd (.slice none 0 0) (.slice none 0 0) ?hr ?_; (case hd => rfl); (case hg => rfl); (case hr => first | (go_simp; done) | (go_simp; rfl)); intro bq1 wa8 hx_ hs_ hb_; have Naq1 := Aside0.mk (Bx.ne Xa.out hs_); skip; have Sq1 := Aside0.mk (Nat.le_trans (below_size HB.out) hs_); have Xq1 := Aside0.mk hx_; replace C0 := Aside0.mk (Kd.C_below C0.out hb_); replace C1 := Aside0.mk (Kd.C_below C1.out hb_); replace Cx := Aside0.mk (Kd.C_below Cx.out hb_); replace Cy := Aside0.mk (Kd.C_below Cy.out hb_); clear qaa qba; replace Xa := Aside0.mk (Bx.below Xa.out hb_); have qaa := Bx.c0 Xa.out; have qba := Bx.c1 Xa.out; replace HB := Aside0.mk (below_step HB.out hb_); have qaq1 := Bx.c0 Xq1.out; have qbq1 := Bx.c1 Xq1.out; have qcq1 := Bx.f0 Xq1.out; have qdq1 := Bx.f1 Xq1.out; clear hb_ hx_ hs_) | (refine store_event (by rfl) (by rfl) Xq1.out (.slice Ax x.length cx) (.slice Ay y.length cy) ?hr ?_; (case hr => first | (go_simp; done) | (go_simp; rfl)); intro wa9 he_ hx_; replace C0 := Aside0.mk (C_store Xq1.out C0.out (.slice Ax x.length cx) (.slice Ay y.length cy)); replace C1 := Aside0.mk (C_store Xq1.out C1.out (.slice Ax x.length cx) (.slice Ay y.length cy)); replace Cx := Aside0.mk (C_store Xq1.out Cx.out (.slice Ax x.length cx) (.slice Ay y.length cy)); replace Cy := Aside0.mk (C_store Xq1.out Cy.out (.slice Ax x.length cx) (.slice Ay y.length cy)); clear qaa qba; replace Xa := Aside0.mk (Bx.other Xa.out Naq1.out (.slice Ax x.length cx) (.slice Ay y.length cy)); clear qaq1 qbq1; clear qcq1 qdq1; replace HB := Aside0.mk (below_set (j := 1) (v := (.slice Ay y.length cy)) (below_set (j := 0) (v := (.slice Ax x.length cx)) HB.out Sq1.out) Sq1.out); clear Xq1; have Xq1 := Aside0.mk hx_; have qaa := Bx.c0 Xa.out; have qba := Bx.c1 Xa.out; have qaq1 := Bx.c0 Xq1.out; have qbq1 := Bx.c1 Xq1.out; have qcq1 := Bx.f0 Xq1.out; have qdq1 := Bx.f1 Xq1.out; generalize (wa8.setCell ⟨bq1, 0, none⟩ (.slice Ax x.length cx)).setCell ⟨bq1, 1, none⟩ (.slice Ay y.length cy) = wg_ at *; subst he_; clear hx_))
    refine (FromInts_calls (n + 1) 1000 x' y' 0 wa9 hN2.out.1 hN2.out.2.1 hN2.out.2.2).mono ?_
    rintro e wa10 ⟨Ax2, cx2, Ay2, cy2, rfl, hCx2_, hHx2_, hCy2_, hHy2_, hb_⟩
    replace C0 := Aside0.mk (Kd.C_below C0.out hb_)
    replace C1 := Aside0.mk (Kd.C_below C1.out hb_)
    replace Cx := Aside0.mk (Kd.C_below Cx.out hb_)
    replace Cy := Aside0.mk (Kd.C_below Cy.out hb_)
    clear qaa qba
    replace Xa := Aside0.mk (Bx.below Xa.out hb_)
    have qaa := Bx.c0 Xa.out
    have qba := Bx.c1 Xa.out
    clear qaq1 qbq1
    clear qcq1 qdq1
    replace Xq1 := Aside0.mk (Bx.below Xq1.out hb_)
    have qaq1 := Bx.c0 Xq1.out
    have qbq1 := Bx.c1 Xq1.out
    have qcq1 := Bx.f0 Xq1.out
    have qdq1 := Bx.f1 Xq1.out
    replace HB := Aside0.mk (below_step HB.out hb_)
    have Cx2 := Aside0.mk hCx2_
    have Hx2 := Aside0.mk hHx2_
    clear hCx2_ hHx2_
    have Cy2 := Aside0.mk hCy2_
    have Hy2 := Aside0.mk hHy2_
    clear hCy2_ hHy2_
    clear hb_
    go_wp2_with (first | ((with_reducible refine gate_dst (N := 6) rfl ?_); (try (refine gate_guard (by rfl) ?_; dsimp only)); refine box_event ?hg (N := 6) ?hd (.slice none 0 0) (.slice none 0 0) ?hr ?_; (case hd => rfl); (case hg => rfl); (case hr => first | (go_simp; done) | (go_simp; rfl)); intro bq2 wa11 hx_ hs_ hb_; have Naq2 := Aside0.mk (Bx.ne Xa.out hs_); have Nq1q2 := Aside0.mk (Bx.ne Xq1.out hs_); skip; have Sq2 := Aside0.mk (Nat.le_trans (below_size HB.out) hs_); have Xq2 := Aside0.mk hx_; replace C0 := Aside0.mk (Kd.C_below C0.out hb_); replace C1 := Aside0.mk (Kd.C_below C1.out hb_); replace Cx := Aside0.mk (Kd.C_below Cx.out hb_); replace Cy := Aside0.mk (Kd.C_below Cy.out hb_); replace Cx2 := Aside0.mk (Kd.C_below Cx2.out hb_); replace Cy2 := Aside0.mk (Kd.C_below Cy2.out hb_); clear qaa qba; replace Xa := Aside0.mk (Bx.below Xa.out hb_); have qaa := Bx.c0 Xa.out; have qba := Bx.c1 Xa.out; clear qaq1 qbq1; clear qcq1 qdq1; replace Xq1 := Aside0.mk (Bx.below Xq1.out hb_); have qaq1 := Bx.c0 Xq1.out; have qbq1 := Bx.c1 Xq1.out; have qcq1 := Bx.f0 Xq1.out; have qdq1 := Bx.f1 Xq1.out; replace HB := Aside0.mk (below_step HB.out hb_); have qaq2 := Bx.c0 Xq2.out; have qbq2 := Bx.c1 Xq2.out; have qcq2 := Bx.f0 Xq2.out; have qdq2 := Bx.f1 Xq2.out; clear hb_ hx_ hs_) | (refine store_event (by rfl) (by rfl) Xq2.out (.slice Ax2 x'.length cx2) (.slice Ay2 y'.length cy2) ?hr ?_; (case hr => first | (go_simp; done) | (go_simp; rfl)); intro wa12 he_ hx_; replace C0 := Aside0.mk (C_store Xq2.out C0.out (.slice Ax2 x'.length cx2) (.slice Ay2 y'.length cy2)); replace C1 := Aside0.mk (C_store Xq2.out C1.out (.slice Ax2 x'.length cx2) (.slice Ay2 y'.length cy2)); replace Cx := Aside0.mk (C_store Xq2.out Cx.out (.slice Ax2 x'.length cx2) (.slice Ay2 y'.length cy2)); replace Cy := Aside0.mk (C_store Xq2.out Cy.out (.slice Ax2 x'.length cx2) (.slice Ay2 y'.length cy2)); replace Cx2 := Aside0.mk (C_store Xq2.out Cx2.out (.slice Ax2 x'.length cx2) (.slice Ay2 y'.length cy2)); replace Cy2 := Aside0.mk (C_store Xq2.out Cy2.out (.slice Ax2 x'.length cx2) (.slice Ay2 y'.length cy2)); clear qaa qba; replace Xa := Aside0.mk (Bx.other Xa.out Naq2.out (.slice Ax2 x'.length cx2) (.slice Ay2 y'.length cy2)); clear qaq1 qbq1; clear qcq1 qdq1; replace Xq1 := Aside0.mk (Bx.other Xq1.out Nq1q2.out (.slice Ax2 x'.length cx2) (.slice Ay2 y'.length cy2)); clear qaq2 qbq2; clear qcq2 qdq2; replace HB := Aside0.mk (below_set (j := 1) (v := (.slice Ay2 y'.length cy2)) (below_set (j := 0) (v := (.slice Ax2 x'.length cx2)) HB.out Sq2.out) Sq2.out); clear Xq2; have Xq2 := Aside0.mk hx_; have qaa := Bx.c0 Xa.out; have qba := Bx.c1 Xa.out; have qaq1 := Bx.c0 Xq1.out; have qbq1 := Bx.c1 Xq1.out; have qcq1 := Bx.f0 Xq1.out; have qdq1 := Bx.f1 Xq1.out; have qaq2 := Bx.c0 Xq2.out; have qbq2 := Bx.c1 Xq2.out; have qcq2 := Bx.f0 Xq2.out; have qdq2 := Bx.f1 Xq2.out; generalize (wa11.setCell ⟨bq2, 0, none⟩ (.slice Ax2 x'.length cx2)).setCell ⟨bq2, 1, none⟩ (.slice Ay2 y'.length cy2) = wg_ at *; subst he_; clear hx_))
    refine (ratCompare_calls Ax cx x Ay cy y A0 c0 l0 A1 c1 l1 c wa12 Cx.out Hx.out Cy.out Hy.out C0.out H0.out C1.out H1.out hC1.out.1 hC1.out.2.1 hP.out.1 hP.out.2.1 hC1.out.2.2).mono ?_
    rintro e wa13 ⟨rfl, hb_⟩
    replace C0 := Aside0.mk (Kd.C_below C0.out hb_)
    replace C1 := Aside0.mk (Kd.C_below C1.out hb_)
    replace Cx := Aside0.mk (Kd.C_below Cx.out hb_)
    replace Cy := Aside0.mk (Kd.C_below Cy.out hb_)
    replace Cx2 := Aside0.mk (Kd.C_below Cx2.out hb_)
    replace Cy2 := Aside0.mk (Kd.C_below Cy2.out hb_)
    clear qaa qba
    replace Xa := Aside0.mk (Bx.below Xa.out hb_)
    have qaa := Bx.c0 Xa.out
    have qba := Bx.c1 Xa.out
    clear qaq1 qbq1
    clear qcq1 qdq1
    replace Xq1 := Aside0.mk (Bx.below Xq1.out hb_)
    have qaq1 := Bx.c0 Xq1.out
    have qbq1 := Bx.c1 Xq1.out
    have qcq1 := Bx.f0 Xq1.out
    have qdq1 := Bx.f1 Xq1.out
    clear qaq2 qbq2
    clear qcq2 qdq2
    replace Xq2 := Aside0.mk (Bx.below Xq2.out hb_)
    have qaq2 := Bx.c0 Xq2.out
    have qbq2 := Bx.c1 Xq2.out
    have qcq2 := Bx.f0 Xq2.out
    have qdq2 := Bx.f1 Xq2.out
    replace HB := Aside0.mk (below_step HB.out hb_)
    clear hb_
    go_wp2_with fail
    refine (ratCompare_calls Ax2 cx2 x' Ay2 cy2 y' A0 c0 l0 A1 c1 l1 c2 wa13 Cx2.out Hx2.out Cy2.out Hy2.out C0.out H0.out C1.out H1.out hC2.out.1 hC2.out.2.1 hP.out.1 hP.out.2.1 hC2.out.2.2).mono ?_
    rintro e wa14 ⟨rfl, hb_⟩
    replace C0 := Aside0.mk (Kd.C_below C0.out hb_)
    replace C1 := Aside0.mk (Kd.C_below C1.out hb_)
    replace Cx := Aside0.mk (Kd.C_below Cx.out hb_)
    replace Cy := Aside0.mk (Kd.C_below Cy.out hb_)
    replace Cx2 := Aside0.mk (Kd.C_below Cx2.out hb_)
    replace Cy2 := Aside0.mk (Kd.C_below Cy2.out hb_)
    clear qaa qba
    replace Xa := Aside0.mk (Bx.below Xa.out hb_)
    have qaa := Bx.c0 Xa.out
    have qba := Bx.c1 Xa.out
    clear qaq1 qbq1
    clear qcq1 qdq1
    replace Xq1 := Aside0.mk (Bx.below Xq1.out hb_)
    have qaq1 := Bx.c0 Xq1.out
    have qbq1 := Bx.c1 Xq1.out
    have qcq1 := Bx.f0 Xq1.out
    have qdq1 := Bx.f1 Xq1.out
    clear qaq2 qbq2
    clear qcq2 qdq2
    replace Xq2 := Aside0.mk (Bx.below Xq2.out hb_)
    have qaq2 := Bx.c0 Xq2.out
    have qbq2 := Bx.c1 Xq2.out
    have qcq2 := Bx.f0 Xq2.out
    have qdq2 := Bx.f1 Xq2.out
    replace HB := Aside0.mk (below_step HB.out hb_)
    clear hb_
    go_wp2_with fail
    go_ret
    exact ⟨rfl, HB.out⟩

end Go.Proofs.YtoakfjcejamoeaaDoor.B
