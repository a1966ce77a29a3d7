/- The contracts of IsProbability. -/
import Derived.Test.YtoakfjcejamoeaaDoorQB
namespace Go.Proofs.YtoakfjcejamoeaaDoor.B
open Go.RowKit Go.Proofs.YtoakfjcejamoeaaDoorW.PrintWords Go.Proofs.YtoakfjcejamoeaaDoorW.PrintLast Go.Proofs.YtoakfjcejamoeaaDoorW.PrintMore
set_option exponentiation.threshold 8200
set_option linter.unusedVariables false
set_option linter.unusedSimpArgs false
/-- a probability -/
def probB (a b : List Int) : Bool := ratB a b && decide (Bn.nv a ≤ Bn.nv b)
theorem cmp_le (a b : Nat) : decide (cmpN a b ≤ 0) = decide (a ≤ b) := by
 unfold cmpN
 rcases Nat.lt_trichotomy a b with h | h | h
 ·rw [if_pos h, decide_eq_true (show a ≤ b by omega)]; rfl
 ·rw [if_neg (by omega), if_neg (by omega), decide_eq_true (show a ≤ b by omega)]; rfl
 ·rw [if_neg (by omega), if_pos h, decide_eq_false (show ¬ a ≤ b by omega)]; rfl

set_option maxHeartbeats 16000000 in
set_option maxRecDepth 100000 in
/-- IsProbability. -/
theorem isProb_calls (A0 : Option Addr) (c0 : Nat) (l0 : List Int) (A1 : Option Addr) (c1 : Nat) (l1 : List Int) (r : Bool) (w : World) (hr0 : Kd.C (Kd.int .u32) w A0 l0.length l0) (hc0 : l0.length ≤ c0) (hr1 : Kd.C (Kd.int .u32) w A1 l1.length l1) (hc1 : l1.length ≤ c1)  (L0 : Bn.Limbs l0) (L1 : Bn.Limbs l1) (hr : r = probB l0 l1) :
  Calls Tryd.prog 66 #[.agg #[.slice A0 l0.length c0, .slice A1 l1.length c1]] w fun e w' => e = .returned (.bool r) ∧ Below w.heap.size w w' := by
 have C0 := Aside0.mk hr0
 have H0 := Aside0.mk hc0
 clear hr0 hc0
 have C1 := Aside0.mk hr1
 have H1 := Aside0.mk hc1
 clear hr1 hc1
 have HB := Aside0.mk (Below.refl w.heap.size w)
 obtain ⟨p0, hp0⟩ : ∃ p, p = ratB l0 l1 := ⟨_, rfl⟩
 have hP0 := Aside0.mk hp0
 have hL := Aside0.mk (show Bn.Limbs l0 ∧ Bn.Limbs l1 from ⟨L0, L1⟩)
 obtain ⟨c, hc⟩ : ∃ c, c = cmpN (Bn.nv l0) (Bn.nv l1) := ⟨_, rfl⟩
 have hR := Aside0.mk (show r = (p0 && decide (c ≤ 0)) from by rw [hr, hp0, hc, cmp_le]; rfl)
 have hC := Aside0.mk (show p0 = true → bignat_Compare.f 200 l0 l1 = some c from fun h0 => by
   obtain ⟨va, vb, -, -⟩ := (ratB_iff L0 L1).1 (hp0 ▸ h0)
   rw [hc]
   rw [Compare_f va.1.1 vb.1.1 (by decide), vv_valid ((validB_iff va.1.1).2 va), vv_valid ((validB_iff vb.1.1).2 vb)])
 clear hp0 hc hr L0 L1
 go_enter Tryd.func66, Tryd.ntmps66
 go_wp2_with (first | ((with_reducible refine gate_dst (N := 1) rfl ?_); (try (refine gate_guard (by rfl) ?_; dsimp only)); refine box_event ?hg (N := 1) ?hd (.slice A0 l0.length c0) (.slice A1 l1.length c1) ?hr ?_; (case hd => rfl); (case hg => rfl); (case hr => first | (go_simp; done) | (go_simp; rfl)); intro ba wa1 hx_ hs_ hb_; skip; have Sa := Aside0.mk (Nat.le_trans (below_size HB.out) hs_); have Xa := Aside0.mk hx_; replace C0 := Aside0.mk (Kd.C_below C0.out hb_); replace C1 := Aside0.mk (Kd.C_below C1.out hb_); replace HB := Aside0.mk (below_step HB.out hb_); have qaa := Bx.c0 Xa.out; have qba := Bx.c1 Xa.out; clear hb_ hx_ hs_))
 refine (ratValid_calls A0 c0 l0 A1 c1 l1 p0 wa1 C0.out H0.out C1.out H1.out hL.out.1 hL.out.2 hP0.out).mono ?_
 rintro e wa2 ⟨rfl, hb_⟩
 replace C0 := Aside0.mk (Kd.C_below C0.out hb_)
 replace C1 := Aside0.mk (Kd.C_below C1.out hb_)
 clear qaa qba
 replace Xa := Aside0.mk (Bx.below Xa.out hb_)
 have qaa := Bx.c0 Xa.out
 have qba := Bx.c1 Xa.out
 replace HB := Aside0.mk (below_step HB.out hb_)
 clear hb_
 cases p0 with
 | false =>
  obtain rfl : r = false := by rw [hR.out]; rfl
  go_wp2_with fail
  go_ret
  exact ⟨rfl, HB.out⟩
 | true =>
  have hC2 := Aside0.mk (hC.out (by trivial))
  clear hC
  go_wp2_with fail
  refine (bignat_Compare.calls 200 A0 c0 l0 A1 c1 l1 c wa2 C0.out H0.out C1.out H1.out hC2.out).mono ?_
  rintro e wa3 ⟨rfl, hb_⟩
  replace C0 := Aside0.mk (Kd.C_below C0.out hb_)
  replace C1 := Aside0.mk (Kd.C_below C1.out hb_)
  clear qaa qba
  replace Xa := Aside0.mk (Bx.below Xa.out hb_)
  have qaa := Bx.c0 Xa.out
  have qba := Bx.c1 Xa.out
  replace HB := Aside0.mk (below_step HB.out hb_)
  clear hb_
  obtain ⟨b, hb⟩ : ∃ b, decide (c ≤ 0) = b := ⟨_, rfl⟩
  obtain rfl : r = b := by rw [hR.out, hb]; rfl
  clear hR
  go_wp2_with fail
  go_ret
  exact ⟨rfl, HB.out⟩

set_option maxHeartbeats 16000000 in
set_option maxRecDepth 100000 in
/-- IsProbability. -/
theorem refIsProb_calls (A0 : Option Addr) (c0 : Nat) (l0 : List Int) (A1 : Option Addr) (c1 : Nat) (l1 : List Int) (r : Bool) (w : World) (hr0 : Kd.C (Kd.int .u32) w A0 l0.length l0) (hc0 : l0.length ≤ c0) (hr1 : Kd.C (Kd.int .u32) w A1 l1.length l1) (hc1 : l1.length ≤ c1)  (L0 : Bn.Limbs l0) (L1 : Bn.Limbs l1) (hr : r = probB l0 l1) :
  Calls Tryd.prog 67 #[.agg #[.slice A0 l0.length c0, .slice A1 l1.length c1]] w fun e w' => e = .returned (.bool r) ∧ Below w.heap.size w w' := by
 have C0 := Aside0.mk hr0
 have H0 := Aside0.mk hc0
 clear hr0 hc0
 have C1 := Aside0.mk hr1
 have H1 := Aside0.mk hc1
 clear hr1 hc1
 have HB := Aside0.mk (Below.refl w.heap.size w)
 obtain ⟨p0, hp0⟩ : ∃ p, p = ratB l0 l1 := ⟨_, rfl⟩
 have hP0 := Aside0.mk hp0
 have hL := Aside0.mk (show Bn.Limbs l0 ∧ Bn.Limbs l1 from ⟨L0, L1⟩)
 obtain ⟨c, hc⟩ : ∃ c, c = cmpN (Bn.nv l0) (Bn.nv l1) := ⟨_, rfl⟩
 have hR := Aside0.mk (show r = (p0 && decide (c ≤ 0)) from by rw [hr, hp0, hc, cmp_le]; rfl)
 have hC := Aside0.mk (show p0 = true → lineageref03_Compare.f 200 l0 l1 = some c from fun h0 => by
   obtain ⟨va, vb, -, -⟩ := (ratB_iff L0 L1).1 (hp0 ▸ h0)
   rw [hc]
   exact refCompare_f va.1 vb.1 (by omega) (by omega))
 clear hp0 hc hr L0 L1
 go_enter Tryd.func67, Tryd.ntmps67
 go_wp2_with (first | ((with_reducible refine gate_dst (N := 1) rfl ?_); (try (refine gate_guard (by rfl) ?_; dsimp only)); refine box_event ?hg (N := 1) ?hd (.slice A0 l0.length c0) (.slice A1 l1.length c1) ?hr ?_; (case hd => rfl); (case hg => rfl); (case hr => first | (go_simp; done) | (go_simp; rfl)); intro ba wa1 hx_ hs_ hb_; skip; have Sa := Aside0.mk (Nat.le_trans (below_size HB.out) hs_); have Xa := Aside0.mk hx_; replace C0 := Aside0.mk (Kd.C_below C0.out hb_); replace C1 := Aside0.mk (Kd.C_below C1.out hb_); replace HB := Aside0.mk (below_step HB.out hb_); have qaa := Bx.c0 Xa.out; have qba := Bx.c1 Xa.out; clear hb_ hx_ hs_))
 refine (refRatValid_calls A0 c0 l0 A1 c1 l1 p0 wa1 C0.out H0.out C1.out H1.out hL.out.1 hL.out.2 hP0.out).mono ?_
 rintro e wa2 ⟨rfl, hb_⟩
 replace C0 := Aside0.mk (Kd.C_below C0.out hb_)
 replace C1 := Aside0.mk (Kd.C_below C1.out hb_)
 clear qaa qba
 replace Xa := Aside0.mk (Bx.below Xa.out hb_)
 have qaa := Bx.c0 Xa.out
 have qba := Bx.c1 Xa.out
 replace HB := Aside0.mk (below_step HB.out hb_)
 clear hb_
 cases p0 with
 | false =>
  obtain rfl : r = false := by rw [hR.out]; rfl
  go_wp2_with fail
  go_ret
  exact ⟨rfl, HB.out⟩
 | true =>
  have hC2 := Aside0.mk (hC.out (by trivial))
  clear hC
  go_wp2_with fail
  refine (lineageref03_Compare.calls 200 A0 c0 l0 A1 c1 l1 c wa2 C0.out H0.out C1.out H1.out hC2.out).mono ?_
  rintro e wa3 ⟨rfl, hd_⟩
  have hb_ := hd_.below
  replace C0 := Aside0.mk (Kd.C_below C0.out hb_)
  replace C1 := Aside0.mk (Kd.C_below C1.out hb_)
  clear qaa qba
  replace Xa := Aside0.mk (Bx.below Xa.out hb_)
  have qaa := Bx.c0 Xa.out
  have qba := Bx.c1 Xa.out
  replace HB := Aside0.mk (below_step HB.out hb_)
  clear hb_ hd_
  obtain ⟨b, hb⟩ : ∃ b, decide (c ≤ 0) = b := ⟨_, rfl⟩
  obtain rfl : r = b := by rw [hR.out, hb]; rfl
  clear hR
  go_wp2_with fail
  go_ret
  exact ⟨rfl, HB.out⟩

end Go.Proofs.YtoakfjcejamoeaaDoor.B
