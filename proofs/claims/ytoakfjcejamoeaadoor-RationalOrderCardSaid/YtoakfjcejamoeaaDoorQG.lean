/- The contract of the reference's Compare. -/
import Derived.Test.YtoakfjcejamoeaaDoorQE
namespace Go.Proofs.YtoakfjcejamoeaaDoor.B
open Go.RowKit Go.Proofs.YtoakfjcejamoeaaDoorW.PrintWords Go.Proofs.YtoakfjcejamoeaaDoorW.PrintLast Go.Proofs.YtoakfjcejamoeaaDoorW.PrintMore
set_option exponentiation.threshold 8200
set_option linter.unusedVariables false
set_option linter.unusedSimpArgs false
set_option maxHeartbeats 16000000 in
set_option maxRecDepth 100000 in
/-- The reference's Compare. -/
theorem refRatCompare_calls (A0 : Option Addr) (c0 : Nat) (l0 : List Int) (A1 : Option Addr) (c1 : Nat) (l1 : List Int) (A2 : Option Addr) (c2 : Nat) (l2 : List Int) (A3 : Option Addr) (c3 : Nat) (l3 : List Int) (R : Int) (w : World) (hr0 : Kd.C (Kd.int .u32) w A0 l0.length l0) (hc0 : l0.length ≤ c0) (hr1 : Kd.C (Kd.int .u32) w A1 l1.length l1) (hc1 : l1.length ≤ c1) (hr2 : Kd.C (Kd.int .u32) w A2 l2.length l2) (hc2 : l2.length ≤ c2) (hr3 : Kd.C (Kd.int .u32) w A3 l3.length l3) (hc3 : l3.length ≤ c3)  (L0 : Bn.Limbs l0) (L1 : Bn.Limbs l1) (L2 : Bn.Limbs l2) (L3 : Bn.Limbs l3) (hR : R = compareR l0 l1 l2 l3) :
  Calls Tryd.prog 45 #[.agg #[.slice A0 l0.length c0, .slice A1 l1.length c1], .agg #[.slice A2 l2.length c2, .slice A3 l3.length c3]] w fun e w' => e = .returned (.int .i64 R) ∧ Below w.heap.size w w' := by
 have C0 := Aside0.mk hr0
 have H0 := Aside0.mk hc0
 clear hr0 hc0
 have C1 := Aside0.mk hr1
 have H1 := Aside0.mk hc1
 clear hr1 hc1
 have C2 := Aside0.mk hr2
 have H2 := Aside0.mk hc2
 clear hr2 hc2
 have C3 := Aside0.mk hr3
 have H3 := Aside0.mk hc3
 clear hr3 hc3
 have HB := Aside0.mk (Below.refl w.heap.size w)
 obtain ⟨⟨n0, d0⟩, hc0⟩ : ∃ t, t = cleanB l0 l1 := ⟨_, rfl⟩
 obtain ⟨⟨n1, d1⟩, hc1⟩ : ∃ t, t = cleanB l2 l3 := ⟨_, rfl⟩
 obtain ⟨p0, hp0⟩ : ∃ p, p = ratB l0 l1 := ⟨_, rfl⟩
 obtain ⟨p1, hp1⟩ : ∃ p, p = ratB l2 l3 := ⟨_, rfl⟩
 have hP0 := Aside0.mk (show Bn.Limbs l0 ∧ Bn.Limbs l1 ∧ p0 = ratB l0 l1 from ⟨L0, L1, hp0⟩)
 have hP1 := Aside0.mk (show Bn.Limbs l2 ∧ Bn.Limbs l3 ∧ p1 = ratB l2 l3 from ⟨L2, L3, hp1⟩)
 have hE0 := Aside0.mk (clean_eq hp0 hc0)
 have hE1 := Aside0.mk (clean_eq hp1 hc1)
 obtain ⟨m0, m1, f0, f1, f2⟩ := refcmp_facts (n0 := n0) (d0 := d0) (n1 := n1) (d1 := d1) (by have h := clean_ok L0 L1; rwa [← hc0] at h) (by have h := clean_ok L2 L3; rwa [← hc1] at h)
 have M0 := Aside0.mk f0
 have M1 := Aside0.mk f1
 have hC := Aside0.mk (show lineageref03_Compare.f 1000 m0 m1 = some R from by rw [f2, hR]; unfold compareR; rw [← hc0, ← hc1])
 clear f0 f1 f2 hc0 hc1 hp0 hp1 hR L0 L1 L2 L3
 go_enter Tryd.func45, Tryd.ntmps45
 go_wp2_with (first | ((with_reducible refine gate_dst (N := 2) rfl ?_); (try (refine gate_guard (by rfl) ?_; dsimp only)); refine box_event ?hg (N := 2) ?hd (.slice A0 l0.length c0) (.slice A1 l1.length c1) ?hr ?_; (case hd => rfl); (case hg => rfl); (case hr => first | (go_simp; done) | (go_simp; rfl)); intro ba wa1 hx_ hs_ hb_; skip; have Sa := Aside0.mk (Nat.le_trans (below_size HB.out) hs_); have Xa := Aside0.mk hx_; replace C0 := Aside0.mk (Kd.C_below C0.out hb_); replace C1 := Aside0.mk (Kd.C_below C1.out hb_); replace C2 := Aside0.mk (Kd.C_below C2.out hb_); replace C3 := Aside0.mk (Kd.C_below C3.out hb_); replace HB := Aside0.mk (below_step HB.out hb_); have qaa := Bx.c0 Xa.out; have qba := Bx.c1 Xa.out; clear hb_ hx_ hs_) | ((with_reducible refine gate_dst (N := 3) rfl ?_); (try (refine gate_guard (by rfl) ?_; dsimp only)); refine box_event ?hg (N := 3) ?hd (.slice A2 l2.length c2) (.slice A3 l3.length c3) ?hr ?_; (case hd => rfl); (case hg => rfl); (case hr => first | (go_simp; done) | (go_simp; rfl)); intro bb wa2 hx_ hs_ hb_; have Nab := Aside0.mk (Bx.ne Xa.out hs_); skip; have Sb := Aside0.mk (Nat.le_trans (below_size HB.out) hs_); have Xb := Aside0.mk hx_; replace C0 := Aside0.mk (Kd.C_below C0.out hb_); replace C1 := Aside0.mk (Kd.C_below C1.out hb_); replace C2 := Aside0.mk (Kd.C_below C2.out hb_); replace C3 := Aside0.mk (Kd.C_below C3.out hb_); clear qaa qba; replace Xa := Aside0.mk (Bx.below Xa.out hb_); have qaa := Bx.c0 Xa.out; have qba := Bx.c1 Xa.out; replace HB := Aside0.mk (below_step HB.out hb_); have qab := Bx.c0 Xb.out; have qbb := Bx.c1 Xb.out; clear hb_ hx_ hs_))
 refine (refRatValid_calls A0 c0 l0 A1 c1 l1 p0 wa2 C0.out H0.out C1.out H1.out hP0.out.1 hP0.out.2.1 hP0.out.2.2).mono ?_
 rintro e wa3 ⟨rfl, hb_⟩
 replace C0 := Aside0.mk (Kd.C_below C0.out hb_)
 replace C1 := Aside0.mk (Kd.C_below C1.out hb_)
 replace C2 := Aside0.mk (Kd.C_below C2.out hb_)
 replace C3 := Aside0.mk (Kd.C_below C3.out hb_)
 clear qaa qba
 replace Xa := Aside0.mk (Bx.below Xa.out hb_)
 have qaa := Bx.c0 Xa.out
 have qba := Bx.c1 Xa.out
 clear qab qbb
 replace Xb := Aside0.mk (Bx.below Xb.out hb_)
 have qab := Bx.c0 Xb.out
 have qbb := Bx.c1 Xb.out
 replace HB := Aside0.mk (below_step HB.out hb_)
 clear hb_
 cases p0 with
 | false =>
  obtain ⟨rfl, rfl⟩ := hE0.out.2 (by trivial)
  go_wp2_with fail
  refine (refZero_calls wa3).mono ?_
  rintro e wa4 ⟨Az0, cz0, Ao0, co0, rfl, hCz0_, hHz0_, hCo0_, hHo0_, hb_⟩
  replace C0 := Aside0.mk (Kd.C_below C0.out hb_)
  replace C1 := Aside0.mk (Kd.C_below C1.out hb_)
  replace C2 := Aside0.mk (Kd.C_below C2.out hb_)
  replace C3 := Aside0.mk (Kd.C_below C3.out hb_)
  clear qaa qba
  replace Xa := Aside0.mk (Bx.below Xa.out hb_)
  have qaa := Bx.c0 Xa.out
  have qba := Bx.c1 Xa.out
  clear qab qbb
  replace Xb := Aside0.mk (Bx.below Xb.out hb_)
  have qab := Bx.c0 Xb.out
  have qbb := Bx.c1 Xb.out
  replace HB := Aside0.mk (below_step HB.out hb_)
  have Cz0 := Aside0.mk hCz0_
  have Hz0 := Aside0.mk hHz0_
  clear hCz0_ hHz0_
  have Co0 := Aside0.mk hCo0_
  have Ho0 := Aside0.mk hHo0_
  clear hCo0_ hHo0_
  clear hb_
  have qca := Bx.f0 Xa.out
  have qda := Bx.f1 Xa.out
  go_wp2_with (first | (refine store_event (by rfl) (by rfl) Xa.out (.slice Az0 0 cz0) (.slice Ao0 1 co0) ?hr ?_; (case hr => first | (go_simp; done) | (go_simp; rfl)); intro wa5 he_ hx_; replace C0 := Aside0.mk (C_store Xa.out C0.out (.slice Az0 0 cz0) (.slice Ao0 1 co0)); replace C1 := Aside0.mk (C_store Xa.out C1.out (.slice Az0 0 cz0) (.slice Ao0 1 co0)); replace C2 := Aside0.mk (C_store Xa.out C2.out (.slice Az0 0 cz0) (.slice Ao0 1 co0)); replace C3 := Aside0.mk (C_store Xa.out C3.out (.slice Az0 0 cz0) (.slice Ao0 1 co0)); replace Cz0 := Aside0.mk (C_store Xa.out Cz0.out (.slice Az0 0 cz0) (.slice Ao0 1 co0)); replace Co0 := Aside0.mk (C_store Xa.out Co0.out (.slice Az0 0 cz0) (.slice Ao0 1 co0)); clear qaa qba; clear qca qda; clear qab qbb; replace Xb := Aside0.mk (Bx.other Xb.out (Ne.symm Nab.out) (.slice Az0 0 cz0) (.slice Ao0 1 co0)); replace HB := Aside0.mk (below_set (j := 1) (v := (.slice Ao0 1 co0)) (below_set (j := 0) (v := (.slice Az0 0 cz0)) HB.out Sa.out) Sa.out); clear Xa; have Xa := Aside0.mk hx_; have qaa := Bx.c0 Xa.out; have qba := Bx.c1 Xa.out; have qca := Bx.f0 Xa.out; have qda := Bx.f1 Xa.out; have qab := Bx.c0 Xb.out; have qbb := Bx.c1 Xb.out; generalize (wa4.setCell ⟨ba, 0, none⟩ (.slice Az0 0 cz0)).setCell ⟨ba, 1, none⟩ (.slice Ao0 1 co0) = wg_ at *; subst he_; clear hx_))
  refine (refRatValid_calls A2 c2 l2 A3 c3 l3 p1 wa5 C2.out H2.out C3.out H3.out hP1.out.1 hP1.out.2.1 hP1.out.2.2).mono ?_
  rintro e wa6 ⟨rfl, hb_⟩
  replace C0 := Aside0.mk (Kd.C_below C0.out hb_)
  replace C1 := Aside0.mk (Kd.C_below C1.out hb_)
  replace C2 := Aside0.mk (Kd.C_below C2.out hb_)
  replace C3 := Aside0.mk (Kd.C_below C3.out hb_)
  replace Cz0 := Aside0.mk (Kd.C_below Cz0.out hb_)
  replace Co0 := Aside0.mk (Kd.C_below Co0.out hb_)
  clear qaa qba
  clear qca qda
  replace Xa := Aside0.mk (Bx.below Xa.out hb_)
  have qaa := Bx.c0 Xa.out
  have qba := Bx.c1 Xa.out
  have qca := Bx.f0 Xa.out
  have qda := Bx.f1 Xa.out
  clear qab qbb
  replace Xb := Aside0.mk (Bx.below Xb.out hb_)
  have qab := Bx.c0 Xb.out
  have qbb := Bx.c1 Xb.out
  replace HB := Aside0.mk (below_step HB.out hb_)
  clear hb_
  cases p1 with
  | false =>
   obtain ⟨rfl, rfl⟩ := hE1.out.2 (by trivial)
   go_wp2_with fail
   refine (refZero_calls wa6).mono ?_
   rintro e wa7 ⟨Az1, cz1, Ao1, co1, rfl, hCz1_, hHz1_, hCo1_, hHo1_, hb_⟩
   replace C0 := Aside0.mk (Kd.C_below C0.out hb_)
   replace C1 := Aside0.mk (Kd.C_below C1.out hb_)
   replace C2 := Aside0.mk (Kd.C_below C2.out hb_)
   replace C3 := Aside0.mk (Kd.C_below C3.out hb_)
   replace Cz0 := Aside0.mk (Kd.C_below Cz0.out hb_)
   replace Co0 := Aside0.mk (Kd.C_below Co0.out hb_)
   clear qaa qba
   clear qca qda
   replace Xa := Aside0.mk (Bx.below Xa.out hb_)
   have qaa := Bx.c0 Xa.out
   have qba := Bx.c1 Xa.out
   have qca := Bx.f0 Xa.out
   have qda := Bx.f1 Xa.out
   clear qab qbb
   replace Xb := Aside0.mk (Bx.below Xb.out hb_)
   have qab := Bx.c0 Xb.out
   have qbb := Bx.c1 Xb.out
   replace HB := Aside0.mk (below_step HB.out hb_)
   have Cz1 := Aside0.mk hCz1_
   have Hz1 := Aside0.mk hHz1_
   clear hCz1_ hHz1_
   have Co1 := Aside0.mk hCo1_
   have Ho1 := Aside0.mk hHo1_
   clear hCo1_ hHo1_
   clear hb_
   have qcb := Bx.f0 Xb.out
   have qdb := Bx.f1 Xb.out
   go_wp2_with (first | (refine store_event (by rfl) (by rfl) Xb.out (.slice Az1 0 cz1) (.slice Ao1 1 co1) ?hr ?_; (case hr => first | (go_simp; done) | (go_simp; rfl)); intro wa8 he_ hx_; replace C0 := Aside0.mk (C_store Xb.out C0.out (.slice Az1 0 cz1) (.slice Ao1 1 co1)); replace C1 := Aside0.mk (C_store Xb.out C1.out (.slice Az1 0 cz1) (.slice Ao1 1 co1)); replace C2 := Aside0.mk (C_store Xb.out C2.out (.slice Az1 0 cz1) (.slice Ao1 1 co1)); replace C3 := Aside0.mk (C_store Xb.out C3.out (.slice Az1 0 cz1) (.slice Ao1 1 co1)); replace Cz0 := Aside0.mk (C_store Xb.out Cz0.out (.slice Az1 0 cz1) (.slice Ao1 1 co1)); replace Co0 := Aside0.mk (C_store Xb.out Co0.out (.slice Az1 0 cz1) (.slice Ao1 1 co1)); replace Cz1 := Aside0.mk (C_store Xb.out Cz1.out (.slice Az1 0 cz1) (.slice Ao1 1 co1)); replace Co1 := Aside0.mk (C_store Xb.out Co1.out (.slice Az1 0 cz1) (.slice Ao1 1 co1)); clear qaa qba; clear qca qda; replace Xa := Aside0.mk (Bx.other Xa.out Nab.out (.slice Az1 0 cz1) (.slice Ao1 1 co1)); clear qab qbb; clear qcb qdb; replace HB := Aside0.mk (below_set (j := 1) (v := (.slice Ao1 1 co1)) (below_set (j := 0) (v := (.slice Az1 0 cz1)) HB.out Sb.out) Sb.out); clear Xb; have Xb := Aside0.mk hx_; have qaa := Bx.c0 Xa.out; have qba := Bx.c1 Xa.out; have qca := Bx.f0 Xa.out; have qda := Bx.f1 Xa.out; have qab := Bx.c0 Xb.out; have qbb := Bx.c1 Xb.out; have qcb := Bx.f0 Xb.out; have qdb := Bx.f1 Xb.out; generalize (wa7.setCell ⟨bb, 0, none⟩ (.slice Az1 0 cz1)).setCell ⟨bb, 1, none⟩ (.slice Ao1 1 co1) = wg_ at *; subst he_; clear hx_))
   have hb_ : Below wa8.heap.size wa8 wa8.drew := below_drew1 (Below.refl _ _)
   have hSd_ : (fun w' : World => w'.cell? ⟨ba, 0, none⟩ = some (.slice Az0 0 cz0) ∧ w'.cell? ⟨ba, 1, none⟩ = some (.slice Ao0 1 co0) ∧ w'.cell? ⟨bb, 0, none⟩ = some (.slice Az1 0 cz1) ∧ w'.cell? ⟨bb, 1, none⟩ = some (.slice Ao1 1 co1)) wa8.drew := ⟨qaa, qba, qab, qbb⟩
   refine start_ (n := 12) (S := fun w' => w'.cell? ⟨ba, 0, none⟩ = some (.slice Az0 0 cz0) ∧ w'.cell? ⟨ba, 1, none⟩ = some (.slice Ao0 1 co0) ∧ w'.cell? ⟨bb, 0, none⟩ = some (.slice Az1 0 cz1) ∧ w'.cell? ⟨bb, 1, none⟩ = some (.slice Ao1 1 co1)) (ds := [9, 10]) #[false, false, false, false, false, false, false, false, false, false, false, false] (by kernel_rfl) rfl rfl hSd_ (fun hHeld => ?_)
   clear hSd_
   replace C0 := Aside0.mk (Kd.C_below C0.out hb_)
   replace C1 := Aside0.mk (Kd.C_below C1.out hb_)
   replace C2 := Aside0.mk (Kd.C_below C2.out hb_)
   replace C3 := Aside0.mk (Kd.C_below C3.out hb_)
   replace Cz0 := Aside0.mk (Kd.C_below Cz0.out hb_)
   replace Co0 := Aside0.mk (Kd.C_below Co0.out hb_)
   replace Cz1 := Aside0.mk (Kd.C_below Cz1.out hb_)
   replace Co1 := Aside0.mk (Kd.C_below Co1.out hb_)
   clear qaa qba
   clear qca qda
   replace Xa := Aside0.mk (Bx.below Xa.out hb_)
   have qaa := Bx.c0 Xa.out
   have qba := Bx.c1 Xa.out
   have qca := Bx.f0 Xa.out
   have qda := Bx.f1 Xa.out
   clear qab qbb
   clear qcb qdb
   replace Xb := Aside0.mk (Bx.below Xb.out hb_)
   have qab := Bx.c0 Xb.out
   have qbb := Bx.c1 Xb.out
   have qcb := Bx.f0 Xb.out
   have qdb := Bx.f1 Xb.out
   replace HB := Aside0.mk (below_step HB.out hb_)
   clear hb_
   generalize wa8.drew = wa9 at *
   refine pure_ (i := 0) (N := some 13) (v := ?_) (a' := ?_) #[true, false, false, false, false, false, false, false, false, false, false, false] rfl rfl (by kernel_rfl) (fun _ _ _ h => h) (Or.inl ⟨by rfl, ?_⟩) ?_ ?_
   rotate_left
   ·intro w'
    go_simp
    with_reducible rfl
   rotate_left
   ·simp only [Act.put, List.setIfInBounds_toArray, List.set_cons_zero, List.set_cons_succ, i64_w, i32_w]
    rfl
   refine take_ (i := 1) (N := some 14) (v := ?_) (a' := ?_) #[true, true, false, false, false, false, false, false, false, false, false, false] rfl rfl (by kernel_rfl) (fun _ _ _ h => h) (Or.inl ⟨by rfl, ?_⟩) hHeld ?_ ?_
   rotate_left
   ·rintro w' ⟨s0, s1, s2, s3⟩
    go_simp
    with_reducible rfl
   rotate_left
   ·simp only [Act.put, List.setIfInBounds_toArray, List.set_cons_zero, List.set_cons_succ, i64_w, i32_w]
    rfl
   refine pure_ (i := 2) (N := some 15) (v := ?_) (a' := ?_) #[true, true, true, false, false, false, false, false, false, false, false, false] rfl rfl (by kernel_rfl) (fun _ _ _ h => h) (Or.inl ⟨by rfl, ?_⟩) ?_ ?_
   rotate_left
   ·intro w'
    go_simp
    with_reducible rfl
   rotate_left
   ·simp only [Act.put, List.setIfInBounds_toArray, List.set_cons_zero, List.set_cons_succ, i64_w, i32_w]
    rfl
   refine take_ (i := 3) (N := some 16) (v := ?_) (a' := ?_) #[true, true, true, true, false, false, false, false, false, false, false, false] rfl rfl (by kernel_rfl) (fun _ _ _ h => h) (Or.inl ⟨by rfl, ?_⟩) hHeld ?_ ?_
   rotate_left
   ·rintro w' ⟨s0, s1, s2, s3⟩
    go_simp
    with_reducible rfl
   rotate_left
   ·simp only [Act.put, List.setIfInBounds_toArray, List.set_cons_zero, List.set_cons_succ, i64_w, i32_w]
    rfl
   refine pure_ (i := 5) (N := some 18) (v := ?_) (a' := ?_) #[true, true, true, true, false, true, false, false, false, false, false, false] rfl rfl (by kernel_rfl) (fun _ _ _ h => h) (Or.inl ⟨by rfl, ?_⟩) ?_ ?_
   rotate_left
   ·intro w'
    go_simp
    with_reducible rfl
   rotate_left
   ·simp only [Act.put, List.setIfInBounds_toArray, List.set_cons_zero, List.set_cons_succ, i64_w, i32_w]
    rfl
   refine take_ (i := 6) (N := some 19) (v := ?_) (a' := ?_) #[true, true, true, true, false, true, true, false, false, false, false, false] rfl rfl (by kernel_rfl) (fun _ _ _ h => h) (Or.inl ⟨by rfl, ?_⟩) hHeld ?_ ?_
   rotate_left
   ·rintro w' ⟨s0, s1, s2, s3⟩
    go_simp
    with_reducible rfl
   rotate_left
   ·simp only [Act.put, List.setIfInBounds_toArray, List.set_cons_zero, List.set_cons_succ, i64_w, i32_w]
    rfl
   refine pure_ (i := 7) (N := some 20) (v := ?_) (a' := ?_) #[true, true, true, true, false, true, true, true, false, false, false, false] rfl rfl (by kernel_rfl) (fun _ _ _ h => h) (Or.inl ⟨by rfl, ?_⟩) ?_ ?_
   rotate_left
   ·intro w'
    go_simp
    with_reducible rfl
   rotate_left
   ·simp only [Act.put, List.setIfInBounds_toArray, List.set_cons_zero, List.set_cons_succ, i64_w, i32_w]
    rfl
   refine take_ (i := 8) (N := some 21) (v := ?_) (a' := ?_) #[true, true, true, true, false, true, true, true, true, false, false, false] rfl rfl (by kernel_rfl) (fun _ _ _ h => h) (Or.inl ⟨by rfl, ?_⟩) hHeld ?_ ?_
   rotate_left
   ·rintro w' ⟨s0, s1, s2, s3⟩
    go_simp
    with_reducible rfl
   rotate_left
   ·simp only [Act.put, List.setIfInBounds_toArray, List.set_cons_zero, List.set_cons_succ, i64_w, i32_w]
    rfl
   refine one_ (i := 4) (N := some 17) #[true, true, true, true, true, true, true, true, true, false, false, false] rfl rfl (by kernel_rfl) (by decide) (fun K hK => ?_)
   refine goes_ Tryd.func22 (by kernel_rfl) rfl #[.slice Az0 0 cz0, .slice Ao1 1 co1] (by rfl) rfl rfl (by (try simp only [List.map_toArray, List.map_cons, List.map_nil]); first | done | rfl) ?_
   refine (lineageref03_Mul.calls 20000 Az0 cz0 ([] : List Int) Ao1 co1 [(1 : Int)] m0 wa9 Cz0.out Hz0.out Co1.out Ho1.out M0.out).mono ?_
   rintro e wa10 ⟨v_, rfl, hr_, hb_⟩
   replace C0 := Aside0.mk (Kd.C_below C0.out hb_)
   replace C1 := Aside0.mk (Kd.C_below C1.out hb_)
   replace C2 := Aside0.mk (Kd.C_below C2.out hb_)
   replace C3 := Aside0.mk (Kd.C_below C3.out hb_)
   replace Cz0 := Aside0.mk (Kd.C_below Cz0.out hb_)
   replace Co0 := Aside0.mk (Kd.C_below Co0.out hb_)
   replace Cz1 := Aside0.mk (Kd.C_below Cz1.out hb_)
   replace Co1 := Aside0.mk (Kd.C_below Co1.out hb_)
   clear qaa qba
   clear qca qda
   replace Xa := Aside0.mk (Bx.below Xa.out hb_)
   have qaa := Bx.c0 Xa.out
   have qba := Bx.c1 Xa.out
   have qca := Bx.f0 Xa.out
   have qda := Bx.f1 Xa.out
   clear qab qbb
   clear qcb qdb
   replace Xb := Aside0.mk (Bx.below Xb.out hb_)
   have qab := Bx.c0 Xb.out
   have qbb := Bx.c1 Xb.out
   have qcb := Bx.f0 Xb.out
   have qdb := Bx.f1 Xb.out
   replace HB := Aside0.mk (below_step HB.out hb_)
   obtain ⟨Am0, cm0, rfl⟩ := Kd.V_slice hr_
   have Cm0 := Aside0.mk (Kd.V_reads' hr_).2.2
   have Hm0 := Aside0.mk (show m0.length ≤ cm0 from (Kd.V_reads' hr_).2.1)
   clear hr_ hb_
   refine ⟨_, rfl, ?_⟩
   clear hHeld
   refine hK.out _ _ ⟨qaa, qba, qab, qbb⟩ (fun hHeld => ?_)
   clear hK K
   refine norm_ (a' := ?_) ?_ ?_
   rotate_left
   ·show Act.put _ (some 17) _ = _
    simp only [Act.put, List.setIfInBounds_toArray, List.set_cons_zero, List.set_cons_succ, i64_w, i32_w]
    rfl
   refine last_ (i := 9) (N := some 22) #[true, true, true, true, true, true, true, true, true, true, false, false] rfl rfl (by kernel_rfl) (by decide) (fun K hK => ?_)
   refine goes_ Tryd.func22 (by kernel_rfl) rfl #[.slice Az1 0 cz1, .slice Ao0 1 co0] (by rfl) rfl rfl (by (try simp only [List.map_toArray, List.map_cons, List.map_nil]); first | done | rfl) ?_
   refine (lineageref03_Mul.calls 20000 Az1 cz1 ([] : List Int) Ao0 co0 [(1 : Int)] m1 wa10 Cz1.out Hz1.out Co0.out Ho0.out M1.out).mono ?_
   rintro e wa11 ⟨v_, rfl, hr_, hb_⟩
   replace C0 := Aside0.mk (Kd.C_below C0.out hb_)
   replace C1 := Aside0.mk (Kd.C_below C1.out hb_)
   replace C2 := Aside0.mk (Kd.C_below C2.out hb_)
   replace C3 := Aside0.mk (Kd.C_below C3.out hb_)
   replace Cz0 := Aside0.mk (Kd.C_below Cz0.out hb_)
   replace Co0 := Aside0.mk (Kd.C_below Co0.out hb_)
   replace Cz1 := Aside0.mk (Kd.C_below Cz1.out hb_)
   replace Co1 := Aside0.mk (Kd.C_below Co1.out hb_)
   replace Cm0 := Aside0.mk (Kd.C_below Cm0.out hb_)
   clear qaa qba
   clear qca qda
   replace Xa := Aside0.mk (Bx.below Xa.out hb_)
   have qaa := Bx.c0 Xa.out
   have qba := Bx.c1 Xa.out
   have qca := Bx.f0 Xa.out
   have qda := Bx.f1 Xa.out
   clear qab qbb
   clear qcb qdb
   replace Xb := Aside0.mk (Bx.below Xb.out hb_)
   have qab := Bx.c0 Xb.out
   have qbb := Bx.c1 Xb.out
   have qcb := Bx.f0 Xb.out
   have qdb := Bx.f1 Xb.out
   replace HB := Aside0.mk (below_step HB.out hb_)
   obtain ⟨Am1, cm1, rfl⟩ := Kd.V_slice hr_
   have Cm1 := Aside0.mk (Kd.V_reads' hr_).2.2
   have Hm1 := Aside0.mk (show m1.length ≤ cm1 from (Kd.V_reads' hr_).2.1)
   clear hr_ hb_
   refine ⟨_, rfl, ?_⟩
   refine hK.out _ _ ?_
   clear hK K
   refine norm_ (a' := ?_) ?_ ?_
   rotate_left
   ·show Act.put _ (some 22) _ = _
    simp only [Act.put, List.setIfInBounds_toArray, List.set_cons_zero, List.set_cons_succ, i64_w, i32_w]
    rfl
   refine last_ (i := 10) (N := some 23) #[true, true, true, true, true, true, true, true, true, true, true, false] rfl rfl (by kernel_rfl) (by decide) (fun K hK => ?_)
   refine goes_ Tryd.func28 (by kernel_rfl) rfl #[.slice Am0 m0.length cm0, .slice Am1 m1.length cm1] (by rfl) rfl rfl (by (try simp only [List.map_toArray, List.map_cons, List.map_nil]); first | done | rfl) ?_
   refine (lineageref03_Compare.calls 1000 Am0 cm0 m0 Am1 cm1 m1 R wa11 Cm0.out Hm0.out Cm1.out Hm1.out hC.out).mono ?_
   rintro e wa12 ⟨rfl, hd_⟩
   have hb_ := hd_.below
   replace C0 := Aside0.mk (Kd.C_below C0.out hb_)
   replace C1 := Aside0.mk (Kd.C_below C1.out hb_)
   replace C2 := Aside0.mk (Kd.C_below C2.out hb_)
   replace C3 := Aside0.mk (Kd.C_below C3.out hb_)
   replace Cz0 := Aside0.mk (Kd.C_below Cz0.out hb_)
   replace Co0 := Aside0.mk (Kd.C_below Co0.out hb_)
   replace Cz1 := Aside0.mk (Kd.C_below Cz1.out hb_)
   replace Co1 := Aside0.mk (Kd.C_below Co1.out hb_)
   replace Cm0 := Aside0.mk (Kd.C_below Cm0.out hb_)
   replace Cm1 := Aside0.mk (Kd.C_below Cm1.out hb_)
   clear qaa qba
   clear qca qda
   replace Xa := Aside0.mk (Bx.below Xa.out hb_)
   have qaa := Bx.c0 Xa.out
   have qba := Bx.c1 Xa.out
   have qca := Bx.f0 Xa.out
   have qda := Bx.f1 Xa.out
   clear qab qbb
   clear qcb qdb
   replace Xb := Aside0.mk (Bx.below Xb.out hb_)
   have qab := Bx.c0 Xb.out
   have qbb := Bx.c1 Xb.out
   have qcb := Bx.f0 Xb.out
   have qdb := Bx.f1 Xb.out
   replace HB := Aside0.mk (below_step HB.out hb_)
   clear hb_ hd_
   refine ⟨_, rfl, ?_⟩
   refine hK.out _ _ ?_
   clear hK K
   refine norm_ (a' := ?_) ?_ ?_
   rotate_left
   ·show Act.put _ (some 23) _ = _
    simp only [Act.put, List.setIfInBounds_toArray, List.set_cons_zero, List.set_cons_succ, i64_w, i32_w]
    rfl
   refine pure_ (i := 11) (N := some 4) (v := ?_) (a' := ?_) #[true, true, true, true, true, true, true, true, true, true, true, true] rfl rfl (by kernel_rfl) (fun _ _ _ h => h) (Or.inl ⟨by rfl, ?_⟩) ?_ ?_
   rotate_left
   ·intro w'
    go_simp
    with_reducible rfl
   rotate_left
   ·simp only [Act.put, List.setIfInBounds_toArray, List.set_cons_zero, List.set_cons_succ, i64_w, i32_w]
    rfl
   refine done_ (by kernel_rfl) ?_
   go_wp2_with fail
   go_ret
   exact ⟨rfl, HB.out⟩
  | true =>
   obtain ⟨rfl, rfl⟩ := hE1.out.1 (by trivial)
   go_wp2_with fail
   have hb_ : Below wa6.heap.size wa6 wa6.drew := below_drew1 (Below.refl _ _)
   have hSd_ : (fun w' : World => w'.cell? ⟨ba, 0, none⟩ = some (.slice Az0 0 cz0) ∧ w'.cell? ⟨ba, 1, none⟩ = some (.slice Ao0 1 co0) ∧ w'.cell? ⟨bb, 0, none⟩ = some (.slice A2 n1.length c2) ∧ w'.cell? ⟨bb, 1, none⟩ = some (.slice A3 d1.length c3)) wa6.drew := ⟨qaa, qba, qab, qbb⟩
   refine start_ (n := 12) (S := fun w' => w'.cell? ⟨ba, 0, none⟩ = some (.slice Az0 0 cz0) ∧ w'.cell? ⟨ba, 1, none⟩ = some (.slice Ao0 1 co0) ∧ w'.cell? ⟨bb, 0, none⟩ = some (.slice A2 n1.length c2) ∧ w'.cell? ⟨bb, 1, none⟩ = some (.slice A3 d1.length c3)) (ds := [9, 10]) #[false, false, false, false, false, false, false, false, false, false, false, false] (by kernel_rfl) rfl rfl hSd_ (fun hHeld => ?_)
   clear hSd_
   replace C0 := Aside0.mk (Kd.C_below C0.out hb_)
   replace C1 := Aside0.mk (Kd.C_below C1.out hb_)
   replace C2 := Aside0.mk (Kd.C_below C2.out hb_)
   replace C3 := Aside0.mk (Kd.C_below C3.out hb_)
   replace Cz0 := Aside0.mk (Kd.C_below Cz0.out hb_)
   replace Co0 := Aside0.mk (Kd.C_below Co0.out hb_)
   clear qaa qba
   clear qca qda
   replace Xa := Aside0.mk (Bx.below Xa.out hb_)
   have qaa := Bx.c0 Xa.out
   have qba := Bx.c1 Xa.out
   have qca := Bx.f0 Xa.out
   have qda := Bx.f1 Xa.out
   clear qab qbb
   replace Xb := Aside0.mk (Bx.below Xb.out hb_)
   have qab := Bx.c0 Xb.out
   have qbb := Bx.c1 Xb.out
   replace HB := Aside0.mk (below_step HB.out hb_)
   clear hb_
   generalize wa6.drew = wa7 at *
   refine pure_ (i := 0) (N := some 13) (v := ?_) (a' := ?_) #[true, false, false, false, false, false, false, false, false, false, false, false] rfl rfl (by kernel_rfl) (fun _ _ _ h => h) (Or.inl ⟨by rfl, ?_⟩) ?_ ?_
   rotate_left
   ·intro w'
    go_simp
    with_reducible rfl
   rotate_left
   ·simp only [Act.put, List.setIfInBounds_toArray, List.set_cons_zero, List.set_cons_succ, i64_w, i32_w]
    rfl
   refine take_ (i := 1) (N := some 14) (v := ?_) (a' := ?_) #[true, true, false, false, false, false, false, false, false, false, false, false] rfl rfl (by kernel_rfl) (fun _ _ _ h => h) (Or.inl ⟨by rfl, ?_⟩) hHeld ?_ ?_
   rotate_left
   ·rintro w' ⟨s0, s1, s2, s3⟩
    go_simp
    with_reducible rfl
   rotate_left
   ·simp only [Act.put, List.setIfInBounds_toArray, List.set_cons_zero, List.set_cons_succ, i64_w, i32_w]
    rfl
   refine pure_ (i := 2) (N := some 15) (v := ?_) (a' := ?_) #[true, true, true, false, false, false, false, false, false, false, false, false] rfl rfl (by kernel_rfl) (fun _ _ _ h => h) (Or.inl ⟨by rfl, ?_⟩) ?_ ?_
   rotate_left
   ·intro w'
    go_simp
    with_reducible rfl
   rotate_left
   ·simp only [Act.put, List.setIfInBounds_toArray, List.set_cons_zero, List.set_cons_succ, i64_w, i32_w]
    rfl
   refine take_ (i := 3) (N := some 16) (v := ?_) (a' := ?_) #[true, true, true, true, false, false, false, false, false, false, false, false] rfl rfl (by kernel_rfl) (fun _ _ _ h => h) (Or.inl ⟨by rfl, ?_⟩) hHeld ?_ ?_
   rotate_left
   ·rintro w' ⟨s0, s1, s2, s3⟩
    go_simp
    with_reducible rfl
   rotate_left
   ·simp only [Act.put, List.setIfInBounds_toArray, List.set_cons_zero, List.set_cons_succ, i64_w, i32_w]
    rfl
   refine pure_ (i := 5) (N := some 18) (v := ?_) (a' := ?_) #[true, true, true, true, false, true, false, false, false, false, false, false] rfl rfl (by kernel_rfl) (fun _ _ _ h => h) (Or.inl ⟨by rfl, ?_⟩) ?_ ?_
   rotate_left
   ·intro w'
    go_simp
    with_reducible rfl
   rotate_left
   ·simp only [Act.put, List.setIfInBounds_toArray, List.set_cons_zero, List.set_cons_succ, i64_w, i32_w]
    rfl
   refine take_ (i := 6) (N := some 19) (v := ?_) (a' := ?_) #[true, true, true, true, false, true, true, false, false, false, false, false] rfl rfl (by kernel_rfl) (fun _ _ _ h => h) (Or.inl ⟨by rfl, ?_⟩) hHeld ?_ ?_
   rotate_left
   ·rintro w' ⟨s0, s1, s2, s3⟩
    go_simp
    with_reducible rfl
   rotate_left
   ·simp only [Act.put, List.setIfInBounds_toArray, List.set_cons_zero, List.set_cons_succ, i64_w, i32_w]
    rfl
   refine pure_ (i := 7) (N := some 20) (v := ?_) (a' := ?_) #[true, true, true, true, false, true, true, true, false, false, false, false] rfl rfl (by kernel_rfl) (fun _ _ _ h => h) (Or.inl ⟨by rfl, ?_⟩) ?_ ?_
   rotate_left
   ·intro w'
    go_simp
    with_reducible rfl
   rotate_left
   ·simp only [Act.put, List.setIfInBounds_toArray, List.set_cons_zero, List.set_cons_succ, i64_w, i32_w]
    rfl
   refine take_ (i := 8) (N := some 21) (v := ?_) (a' := ?_) #[true, true, true, true, false, true, true, true, true, false, false, false] rfl rfl (by kernel_rfl) (fun _ _ _ h => h) (Or.inl ⟨by rfl, ?_⟩) hHeld ?_ ?_
   rotate_left
   ·rintro w' ⟨s0, s1, s2, s3⟩
    go_simp
    with_reducible rfl
   rotate_left
   ·simp only [Act.put, List.setIfInBounds_toArray, List.set_cons_zero, List.set_cons_succ, i64_w, i32_w]
    rfl
   refine one_ (i := 4) (N := some 17) #[true, true, true, true, true, true, true, true, true, false, false, false] rfl rfl (by kernel_rfl) (by decide) (fun K hK => ?_)
   refine goes_ Tryd.func22 (by kernel_rfl) rfl #[.slice Az0 0 cz0, .slice A3 d1.length c3] (by rfl) rfl rfl (by (try simp only [List.map_toArray, List.map_cons, List.map_nil]); first | done | rfl) ?_
   refine (lineageref03_Mul.calls 20000 Az0 cz0 ([] : List Int) A3 c3 d1 m0 wa7 Cz0.out Hz0.out C3.out H3.out M0.out).mono ?_
   rintro e wa8 ⟨v_, rfl, hr_, hb_⟩
   replace C0 := Aside0.mk (Kd.C_below C0.out hb_)
   replace C1 := Aside0.mk (Kd.C_below C1.out hb_)
   replace C2 := Aside0.mk (Kd.C_below C2.out hb_)
   replace C3 := Aside0.mk (Kd.C_below C3.out hb_)
   replace Cz0 := Aside0.mk (Kd.C_below Cz0.out hb_)
   replace Co0 := Aside0.mk (Kd.C_below Co0.out hb_)
   clear qaa qba
   clear qca qda
   replace Xa := Aside0.mk (Bx.below Xa.out hb_)
   have qaa := Bx.c0 Xa.out
   have qba := Bx.c1 Xa.out
   have qca := Bx.f0 Xa.out
   have qda := Bx.f1 Xa.out
   clear qab qbb
   replace Xb := Aside0.mk (Bx.below Xb.out hb_)
   have qab := Bx.c0 Xb.out
   have qbb := Bx.c1 Xb.out
   replace HB := Aside0.mk (below_step HB.out hb_)
   obtain ⟨Am0, cm0, rfl⟩ := Kd.V_slice hr_
   have Cm0 := Aside0.mk (Kd.V_reads' hr_).2.2
   have Hm0 := Aside0.mk (show m0.length ≤ cm0 from (Kd.V_reads' hr_).2.1)
   clear hr_ hb_
   refine ⟨_, rfl, ?_⟩
   clear hHeld
   refine hK.out _ _ ⟨qaa, qba, qab, qbb⟩ (fun hHeld => ?_)
   clear hK K
   refine norm_ (a' := ?_) ?_ ?_
   rotate_left
   ·show Act.put _ (some 17) _ = _
    simp only [Act.put, List.setIfInBounds_toArray, List.set_cons_zero, List.set_cons_succ, i64_w, i32_w]
    rfl
   refine last_ (i := 9) (N := some 22) #[true, true, true, true, true, true, true, true, true, true, false, false] rfl rfl (by kernel_rfl) (by decide) (fun K hK => ?_)
   refine goes_ Tryd.func22 (by kernel_rfl) rfl #[.slice A2 n1.length c2, .slice Ao0 1 co0] (by rfl) rfl rfl (by (try simp only [List.map_toArray, List.map_cons, List.map_nil]); first | done | rfl) ?_
   refine (lineageref03_Mul.calls 20000 A2 c2 n1 Ao0 co0 [(1 : Int)] m1 wa8 C2.out H2.out Co0.out Ho0.out M1.out).mono ?_
   rintro e wa9 ⟨v_, rfl, hr_, hb_⟩
   replace C0 := Aside0.mk (Kd.C_below C0.out hb_)
   replace C1 := Aside0.mk (Kd.C_below C1.out hb_)
   replace C2 := Aside0.mk (Kd.C_below C2.out hb_)
   replace C3 := Aside0.mk (Kd.C_below C3.out hb_)
   replace Cz0 := Aside0.mk (Kd.C_below Cz0.out hb_)
   replace Co0 := Aside0.mk (Kd.C_below Co0.out hb_)
   replace Cm0 := Aside0.mk (Kd.C_below Cm0.out hb_)
   clear qaa qba
   clear qca qda
   replace Xa := Aside0.mk (Bx.below Xa.out hb_)
   have qaa := Bx.c0 Xa.out
   have qba := Bx.c1 Xa.out
   have qca := Bx.f0 Xa.out
   have qda := Bx.f1 Xa.out
   clear qab qbb
   replace Xb := Aside0.mk (Bx.below Xb.out hb_)
   have qab := Bx.c0 Xb.out
   have qbb := Bx.c1 Xb.out
   replace HB := Aside0.mk (below_step HB.out hb_)
   obtain ⟨Am1, cm1, rfl⟩ := Kd.V_slice hr_
   have Cm1 := Aside0.mk (Kd.V_reads' hr_).2.2
   have Hm1 := Aside0.mk (show m1.length ≤ cm1 from (Kd.V_reads' hr_).2.1)
   clear hr_ hb_
   refine ⟨_, rfl, ?_⟩
   refine hK.out _ _ ?_
   clear hK K
   refine norm_ (a' := ?_) ?_ ?_
   rotate_left
   ·show Act.put _ (some 22) _ = _
    simp only [Act.put, List.setIfInBounds_toArray, List.set_cons_zero, List.set_cons_succ, i64_w, i32_w]
    rfl
   refine last_ (i := 10) (N := some 23) #[true, true, true, true, true, true, true, true, true, true, true, false] rfl rfl (by kernel_rfl) (by decide) (fun K hK => ?_)
   refine goes_ Tryd.func28 (by kernel_rfl) rfl #[.slice Am0 m0.length cm0, .slice Am1 m1.length cm1] (by rfl) rfl rfl (by (try simp only [List.map_toArray, List.map_cons, List.map_nil]); first | done | rfl) ?_
   refine (lineageref03_Compare.calls 1000 Am0 cm0 m0 Am1 cm1 m1 R wa9 Cm0.out Hm0.out Cm1.out Hm1.out hC.out).mono ?_
   rintro e wa10 ⟨rfl, hd_⟩
   have hb_ := hd_.below
   replace C0 := Aside0.mk (Kd.C_below C0.out hb_)
   replace C1 := Aside0.mk (Kd.C_below C1.out hb_)
   replace C2 := Aside0.mk (Kd.C_below C2.out hb_)
   replace C3 := Aside0.mk (Kd.C_below C3.out hb_)
   replace Cz0 := Aside0.mk (Kd.C_below Cz0.out hb_)
   replace Co0 := Aside0.mk (Kd.C_below Co0.out hb_)
   replace Cm0 := Aside0.mk (Kd.C_below Cm0.out hb_)
   replace Cm1 := Aside0.mk (Kd.C_below Cm1.out hb_)
   clear qaa qba
   clear qca qda
   replace Xa := Aside0.mk (Bx.below Xa.out hb_)
   have qaa := Bx.c0 Xa.out
   have qba := Bx.c1 Xa.out
   have qca := Bx.f0 Xa.out
   have qda := Bx.f1 Xa.out
   clear qab qbb
   replace Xb := Aside0.mk (Bx.below Xb.out hb_)
   have qab := Bx.c0 Xb.out
   have qbb := Bx.c1 Xb.out
   replace HB := Aside0.mk (below_step HB.out hb_)
   clear hb_ hd_
   refine ⟨_, rfl, ?_⟩
   refine hK.out _ _ ?_
   clear hK K
   refine norm_ (a' := ?_) ?_ ?_
   rotate_left
   ·show Act.put _ (some 23) _ = _
    simp only [Act.put, List.setIfInBounds_toArray, List.set_cons_zero, List.set_cons_succ, i64_w, i32_w]
    rfl
   refine pure_ (i := 11) (N := some 4) (v := ?_) (a' := ?_) #[true, true, true, true, true, true, true, true, true, true, true, true] rfl rfl (by kernel_rfl) (fun _ _ _ h => h) (Or.inl ⟨by rfl, ?_⟩) ?_ ?_
   rotate_left
   ·intro w'
    go_simp
    with_reducible rfl
   rotate_left
   ·simp only [Act.put, List.setIfInBounds_toArray, List.set_cons_zero, List.set_cons_succ, i64_w, i32_w]
    rfl
   refine done_ (by kernel_rfl) ?_
   go_wp2_with fail
   go_ret
   exact ⟨rfl, HB.out⟩
 | true =>
  obtain ⟨rfl, rfl⟩ := hE0.out.1 (by trivial)
  go_wp2_with fail
  refine (refRatValid_calls A2 c2 l2 A3 c3 l3 p1 wa3 C2.out H2.out C3.out H3.out hP1.out.1 hP1.out.2.1 hP1.out.2.2).mono ?_
  rintro e wa4 ⟨rfl, hb_⟩
  replace C0 := Aside0.mk (Kd.C_below C0.out hb_)
  replace C1 := Aside0.mk (Kd.C_below C1.out hb_)
  replace C2 := Aside0.mk (Kd.C_below C2.out hb_)
  replace C3 := Aside0.mk (Kd.C_below C3.out hb_)
  clear qaa qba
  replace Xa := Aside0.mk (Bx.below Xa.out hb_)
  have qaa := Bx.c0 Xa.out
  have qba := Bx.c1 Xa.out
  clear qab qbb
  replace Xb := Aside0.mk (Bx.below Xb.out hb_)
  have qab := Bx.c0 Xb.out
  have qbb := Bx.c1 Xb.out
  replace HB := Aside0.mk (below_step HB.out hb_)
  clear hb_
  cases p1 with
  | false =>
   obtain ⟨rfl, rfl⟩ := hE1.out.2 (by trivial)
   go_wp2_with fail
   refine (refZero_calls wa4).mono ?_
   rintro e wa5 ⟨Az1, cz1, Ao1, co1, rfl, hCz1_, hHz1_, hCo1_, hHo1_, hb_⟩
   replace C0 := Aside0.mk (Kd.C_below C0.out hb_)
   replace C1 := Aside0.mk (Kd.C_below C1.out hb_)
   replace C2 := Aside0.mk (Kd.C_below C2.out hb_)
   replace C3 := Aside0.mk (Kd.C_below C3.out hb_)
   clear qaa qba
   replace Xa := Aside0.mk (Bx.below Xa.out hb_)
   have qaa := Bx.c0 Xa.out
   have qba := Bx.c1 Xa.out
   clear qab qbb
   replace Xb := Aside0.mk (Bx.below Xb.out hb_)
   have qab := Bx.c0 Xb.out
   have qbb := Bx.c1 Xb.out
   replace HB := Aside0.mk (below_step HB.out hb_)
   have Cz1 := Aside0.mk hCz1_
   have Hz1 := Aside0.mk hHz1_
   clear hCz1_ hHz1_
   have Co1 := Aside0.mk hCo1_
   have Ho1 := Aside0.mk hHo1_
   clear hCo1_ hHo1_
   clear hb_
   have qcb := Bx.f0 Xb.out
   have qdb := Bx.f1 Xb.out
   go_wp2_with (first | (refine store_event (by rfl) (by rfl) Xb.out (.slice Az1 0 cz1) (.slice Ao1 1 co1) ?hr ?_; (case hr => first | (go_simp; done) | (go_simp; rfl)); intro wa6 he_ hx_; replace C0 := Aside0.mk (C_store Xb.out C0.out (.slice Az1 0 cz1) (.slice Ao1 1 co1)); replace C1 := Aside0.mk (C_store Xb.out C1.out (.slice Az1 0 cz1) (.slice Ao1 1 co1)); replace C2 := Aside0.mk (C_store Xb.out C2.out (.slice Az1 0 cz1) (.slice Ao1 1 co1)); replace C3 := Aside0.mk (C_store Xb.out C3.out (.slice Az1 0 cz1) (.slice Ao1 1 co1)); replace Cz1 := Aside0.mk (C_store Xb.out Cz1.out (.slice Az1 0 cz1) (.slice Ao1 1 co1)); replace Co1 := Aside0.mk (C_store Xb.out Co1.out (.slice Az1 0 cz1) (.slice Ao1 1 co1)); clear qaa qba; replace Xa := Aside0.mk (Bx.other Xa.out Nab.out (.slice Az1 0 cz1) (.slice Ao1 1 co1)); clear qab qbb; clear qcb qdb; replace HB := Aside0.mk (below_set (j := 1) (v := (.slice Ao1 1 co1)) (below_set (j := 0) (v := (.slice Az1 0 cz1)) HB.out Sb.out) Sb.out); clear Xb; have Xb := Aside0.mk hx_; have qaa := Bx.c0 Xa.out; have qba := Bx.c1 Xa.out; have qab := Bx.c0 Xb.out; have qbb := Bx.c1 Xb.out; have qcb := Bx.f0 Xb.out; have qdb := Bx.f1 Xb.out; generalize (wa5.setCell ⟨bb, 0, none⟩ (.slice Az1 0 cz1)).setCell ⟨bb, 1, none⟩ (.slice Ao1 1 co1) = wg_ at *; subst he_; clear hx_))
   have hb_ : Below wa6.heap.size wa6 wa6.drew := below_drew1 (Below.refl _ _)
   have hSd_ : (fun w' : World => w'.cell? ⟨ba, 0, none⟩ = some (.slice A0 n0.length c0) ∧ w'.cell? ⟨ba, 1, none⟩ = some (.slice A1 d0.length c1) ∧ w'.cell? ⟨bb, 0, none⟩ = some (.slice Az1 0 cz1) ∧ w'.cell? ⟨bb, 1, none⟩ = some (.slice Ao1 1 co1)) wa6.drew := ⟨qaa, qba, qab, qbb⟩
   refine start_ (n := 12) (S := fun w' => w'.cell? ⟨ba, 0, none⟩ = some (.slice A0 n0.length c0) ∧ w'.cell? ⟨ba, 1, none⟩ = some (.slice A1 d0.length c1) ∧ w'.cell? ⟨bb, 0, none⟩ = some (.slice Az1 0 cz1) ∧ w'.cell? ⟨bb, 1, none⟩ = some (.slice Ao1 1 co1)) (ds := [9, 10]) #[false, false, false, false, false, false, false, false, false, false, false, false] (by kernel_rfl) rfl rfl hSd_ (fun hHeld => ?_)
   clear hSd_
   replace C0 := Aside0.mk (Kd.C_below C0.out hb_)
   replace C1 := Aside0.mk (Kd.C_below C1.out hb_)
   replace C2 := Aside0.mk (Kd.C_below C2.out hb_)
   replace C3 := Aside0.mk (Kd.C_below C3.out hb_)
   replace Cz1 := Aside0.mk (Kd.C_below Cz1.out hb_)
   replace Co1 := Aside0.mk (Kd.C_below Co1.out hb_)
   clear qaa qba
   replace Xa := Aside0.mk (Bx.below Xa.out hb_)
   have qaa := Bx.c0 Xa.out
   have qba := Bx.c1 Xa.out
   clear qab qbb
   clear qcb qdb
   replace Xb := Aside0.mk (Bx.below Xb.out hb_)
   have qab := Bx.c0 Xb.out
   have qbb := Bx.c1 Xb.out
   have qcb := Bx.f0 Xb.out
   have qdb := Bx.f1 Xb.out
   replace HB := Aside0.mk (below_step HB.out hb_)
   clear hb_
   generalize wa6.drew = wa7 at *
   refine pure_ (i := 0) (N := some 13) (v := ?_) (a' := ?_) #[true, false, false, false, false, false, false, false, false, false, false, false] rfl rfl (by kernel_rfl) (fun _ _ _ h => h) (Or.inl ⟨by rfl, ?_⟩) ?_ ?_
   rotate_left
   ·intro w'
    go_simp
    with_reducible rfl
   rotate_left
   ·simp only [Act.put, List.setIfInBounds_toArray, List.set_cons_zero, List.set_cons_succ, i64_w, i32_w]
    rfl
   refine take_ (i := 1) (N := some 14) (v := ?_) (a' := ?_) #[true, true, false, false, false, false, false, false, false, false, false, false] rfl rfl (by kernel_rfl) (fun _ _ _ h => h) (Or.inl ⟨by rfl, ?_⟩) hHeld ?_ ?_
   rotate_left
   ·rintro w' ⟨s0, s1, s2, s3⟩
    go_simp
    with_reducible rfl
   rotate_left
   ·simp only [Act.put, List.setIfInBounds_toArray, List.set_cons_zero, List.set_cons_succ, i64_w, i32_w]
    rfl
   refine pure_ (i := 2) (N := some 15) (v := ?_) (a' := ?_) #[true, true, true, false, false, false, false, false, false, false, false, false] rfl rfl (by kernel_rfl) (fun _ _ _ h => h) (Or.inl ⟨by rfl, ?_⟩) ?_ ?_
   rotate_left
   ·intro w'
    go_simp
    with_reducible rfl
   rotate_left
   ·simp only [Act.put, List.setIfInBounds_toArray, List.set_cons_zero, List.set_cons_succ, i64_w, i32_w]
    rfl
   refine take_ (i := 3) (N := some 16) (v := ?_) (a' := ?_) #[true, true, true, true, false, false, false, false, false, false, false, false] rfl rfl (by kernel_rfl) (fun _ _ _ h => h) (Or.inl ⟨by rfl, ?_⟩) hHeld ?_ ?_
   rotate_left
   ·rintro w' ⟨s0, s1, s2, s3⟩
    go_simp
    with_reducible rfl
   rotate_left
   ·simp only [Act.put, List.setIfInBounds_toArray, List.set_cons_zero, List.set_cons_succ, i64_w, i32_w]
    rfl
   refine pure_ (i := 5) (N := some 18) (v := ?_) (a' := ?_) #[true, true, true, true, false, true, false, false, false, false, false, false] rfl rfl (by kernel_rfl) (fun _ _ _ h => h) (Or.inl ⟨by rfl, ?_⟩) ?_ ?_
   rotate_left
   ·intro w'
    go_simp
    with_reducible rfl
   rotate_left
   ·simp only [Act.put, List.setIfInBounds_toArray, List.set_cons_zero, List.set_cons_succ, i64_w, i32_w]
    rfl
   refine take_ (i := 6) (N := some 19) (v := ?_) (a' := ?_) #[true, true, true, true, false, true, true, false, false, false, false, false] rfl rfl (by kernel_rfl) (fun _ _ _ h => h) (Or.inl ⟨by rfl, ?_⟩) hHeld ?_ ?_
   rotate_left
   ·rintro w' ⟨s0, s1, s2, s3⟩
    go_simp
    with_reducible rfl
   rotate_left
   ·simp only [Act.put, List.setIfInBounds_toArray, List.set_cons_zero, List.set_cons_succ, i64_w, i32_w]
    rfl
   refine pure_ (i := 7) (N := some 20) (v := ?_) (a' := ?_) #[true, true, true, true, false, true, true, true, false, false, false, false] rfl rfl (by kernel_rfl) (fun _ _ _ h => h) (Or.inl ⟨by rfl, ?_⟩) ?_ ?_
   rotate_left
   ·intro w'
    go_simp
    with_reducible rfl
   rotate_left
   ·simp only [Act.put, List.setIfInBounds_toArray, List.set_cons_zero, List.set_cons_succ, i64_w, i32_w]
    rfl
   refine take_ (i := 8) (N := some 21) (v := ?_) (a' := ?_) #[true, true, true, true, false, true, true, true, true, false, false, false] rfl rfl (by kernel_rfl) (fun _ _ _ h => h) (Or.inl ⟨by rfl, ?_⟩) hHeld ?_ ?_
   rotate_left
   ·rintro w' ⟨s0, s1, s2, s3⟩
    go_simp
    with_reducible rfl
   rotate_left
   ·simp only [Act.put, List.setIfInBounds_toArray, List.set_cons_zero, List.set_cons_succ, i64_w, i32_w]
    rfl
   refine one_ (i := 4) (N := some 17) #[true, true, true, true, true, true, true, true, true, false, false, false] rfl rfl (by kernel_rfl) (by decide) (fun K hK => ?_)
   refine goes_ Tryd.func22 (by kernel_rfl) rfl #[.slice A0 n0.length c0, .slice Ao1 1 co1] (by rfl) rfl rfl (by (try simp only [List.map_toArray, List.map_cons, List.map_nil]); first | done | rfl) ?_
   refine (lineageref03_Mul.calls 20000 A0 c0 n0 Ao1 co1 [(1 : Int)] m0 wa7 C0.out H0.out Co1.out Ho1.out M0.out).mono ?_
   rintro e wa8 ⟨v_, rfl, hr_, hb_⟩
   replace C0 := Aside0.mk (Kd.C_below C0.out hb_)
   replace C1 := Aside0.mk (Kd.C_below C1.out hb_)
   replace C2 := Aside0.mk (Kd.C_below C2.out hb_)
   replace C3 := Aside0.mk (Kd.C_below C3.out hb_)
   replace Cz1 := Aside0.mk (Kd.C_below Cz1.out hb_)
   replace Co1 := Aside0.mk (Kd.C_below Co1.out hb_)
   clear qaa qba
   replace Xa := Aside0.mk (Bx.below Xa.out hb_)
   have qaa := Bx.c0 Xa.out
   have qba := Bx.c1 Xa.out
   clear qab qbb
   clear qcb qdb
   replace Xb := Aside0.mk (Bx.below Xb.out hb_)
   have qab := Bx.c0 Xb.out
   have qbb := Bx.c1 Xb.out
   have qcb := Bx.f0 Xb.out
   have qdb := Bx.f1 Xb.out
   replace HB := Aside0.mk (below_step HB.out hb_)
   obtain ⟨Am0, cm0, rfl⟩ := Kd.V_slice hr_
   have Cm0 := Aside0.mk (Kd.V_reads' hr_).2.2
   have Hm0 := Aside0.mk (show m0.length ≤ cm0 from (Kd.V_reads' hr_).2.1)
   clear hr_ hb_
   refine ⟨_, rfl, ?_⟩
   clear hHeld
   refine hK.out _ _ ⟨qaa, qba, qab, qbb⟩ (fun hHeld => ?_)
   clear hK K
   refine norm_ (a' := ?_) ?_ ?_
   rotate_left
   ·show Act.put _ (some 17) _ = _
    simp only [Act.put, List.setIfInBounds_toArray, List.set_cons_zero, List.set_cons_succ, i64_w, i32_w]
    rfl
   refine last_ (i := 9) (N := some 22) #[true, true, true, true, true, true, true, true, true, true, false, false] rfl rfl (by kernel_rfl) (by decide) (fun K hK => ?_)
   refine goes_ Tryd.func22 (by kernel_rfl) rfl #[.slice Az1 0 cz1, .slice A1 d0.length c1] (by rfl) rfl rfl (by (try simp only [List.map_toArray, List.map_cons, List.map_nil]); first | done | rfl) ?_
   refine (lineageref03_Mul.calls 20000 Az1 cz1 ([] : List Int) A1 c1 d0 m1 wa8 Cz1.out Hz1.out C1.out H1.out M1.out).mono ?_
   rintro e wa9 ⟨v_, rfl, hr_, hb_⟩
   replace C0 := Aside0.mk (Kd.C_below C0.out hb_)
   replace C1 := Aside0.mk (Kd.C_below C1.out hb_)
   replace C2 := Aside0.mk (Kd.C_below C2.out hb_)
   replace C3 := Aside0.mk (Kd.C_below C3.out hb_)
   replace Cz1 := Aside0.mk (Kd.C_below Cz1.out hb_)
   replace Co1 := Aside0.mk (Kd.C_below Co1.out hb_)
   replace Cm0 := Aside0.mk (Kd.C_below Cm0.out hb_)
   clear qaa qba
   replace Xa := Aside0.mk (Bx.below Xa.out hb_)
   have qaa := Bx.c0 Xa.out
   have qba := Bx.c1 Xa.out
   clear qab qbb
   clear qcb qdb
   replace Xb := Aside0.mk (Bx.below Xb.out hb_)
   have qab := Bx.c0 Xb.out
   have qbb := Bx.c1 Xb.out
   have qcb := Bx.f0 Xb.out
   have qdb := Bx.f1 Xb.out
   replace HB := Aside0.mk (below_step HB.out hb_)
   obtain ⟨Am1, cm1, rfl⟩ := Kd.V_slice hr_
   have Cm1 := Aside0.mk (Kd.V_reads' hr_).2.2
   have Hm1 := Aside0.mk (show m1.length ≤ cm1 from (Kd.V_reads' hr_).2.1)
   clear hr_ hb_
   refine ⟨_, rfl, ?_⟩
   refine hK.out _ _ ?_
   clear hK K
   refine norm_ (a' := ?_) ?_ ?_
   rotate_left
   ·show Act.put _ (some 22) _ = _
    simp only [Act.put, List.setIfInBounds_toArray, List.set_cons_zero, List.set_cons_succ, i64_w, i32_w]
    rfl
   refine last_ (i := 10) (N := some 23) #[true, true, true, true, true, true, true, true, true, true, true, false] rfl rfl (by kernel_rfl) (by decide) (fun K hK => ?_)
   refine goes_ Tryd.func28 (by kernel_rfl) rfl #[.slice Am0 m0.length cm0, .slice Am1 m1.length cm1] (by rfl) rfl rfl (by (try simp only [List.map_toArray, List.map_cons, List.map_nil]); first | done | rfl) ?_
   refine (lineageref03_Compare.calls 1000 Am0 cm0 m0 Am1 cm1 m1 R wa9 Cm0.out Hm0.out Cm1.out Hm1.out hC.out).mono ?_
   rintro e wa10 ⟨rfl, hd_⟩
   have hb_ := hd_.below
   replace C0 := Aside0.mk (Kd.C_below C0.out hb_)
   replace C1 := Aside0.mk (Kd.C_below C1.out hb_)
   replace C2 := Aside0.mk (Kd.C_below C2.out hb_)
   replace C3 := Aside0.mk (Kd.C_below C3.out hb_)
   replace Cz1 := Aside0.mk (Kd.C_below Cz1.out hb_)
   replace Co1 := Aside0.mk (Kd.C_below Co1.out hb_)
   replace Cm0 := Aside0.mk (Kd.C_below Cm0.out hb_)
   replace Cm1 := Aside0.mk (Kd.C_below Cm1.out hb_)
   clear qaa qba
   replace Xa := Aside0.mk (Bx.below Xa.out hb_)
   have qaa := Bx.c0 Xa.out
   have qba := Bx.c1 Xa.out
   clear qab qbb
   clear qcb qdb
   replace Xb := Aside0.mk (Bx.below Xb.out hb_)
   have qab := Bx.c0 Xb.out
   have qbb := Bx.c1 Xb.out
   have qcb := Bx.f0 Xb.out
   have qdb := Bx.f1 Xb.out
   replace HB := Aside0.mk (below_step HB.out hb_)
   clear hb_ hd_
   refine ⟨_, rfl, ?_⟩
   refine hK.out _ _ ?_
   clear hK K
   refine norm_ (a' := ?_) ?_ ?_
   rotate_left
   ·show Act.put _ (some 23) _ = _
    simp only [Act.put, List.setIfInBounds_toArray, List.set_cons_zero, List.set_cons_succ, i64_w, i32_w]
    rfl
   refine pure_ (i := 11) (N := some 4) (v := ?_) (a' := ?_) #[true, true, true, true, true, true, true, true, true, true, true, true] rfl rfl (by kernel_rfl) (fun _ _ _ h => h) (Or.inl ⟨by rfl, ?_⟩) ?_ ?_
   rotate_left
   ·intro w'
    go_simp
    with_reducible rfl
   rotate_left
   ·simp only [Act.put, List.setIfInBounds_toArray, List.set_cons_zero, List.set_cons_succ, i64_w, i32_w]
    rfl
   refine done_ (by kernel_rfl) ?_
   go_wp2_with fail
   go_ret
   exact ⟨rfl, HB.out⟩
  | true =>
   obtain ⟨rfl, rfl⟩ := hE1.out.1 (by trivial)
   go_wp2_with fail
   have hb_ : Below wa4.heap.size wa4 wa4.drew := below_drew1 (Below.refl _ _)
   have hSd_ : (fun w' : World => w'.cell? ⟨ba, 0, none⟩ = some (.slice A0 n0.length c0) ∧ w'.cell? ⟨ba, 1, none⟩ = some (.slice A1 d0.length c1) ∧ w'.cell? ⟨bb, 0, none⟩ = some (.slice A2 n1.length c2) ∧ w'.cell? ⟨bb, 1, none⟩ = some (.slice A3 d1.length c3)) wa4.drew := ⟨qaa, qba, qab, qbb⟩
   refine start_ (n := 12) (S := fun w' => w'.cell? ⟨ba, 0, none⟩ = some (.slice A0 n0.length c0) ∧ w'.cell? ⟨ba, 1, none⟩ = some (.slice A1 d0.length c1) ∧ w'.cell? ⟨bb, 0, none⟩ = some (.slice A2 n1.length c2) ∧ w'.cell? ⟨bb, 1, none⟩ = some (.slice A3 d1.length c3)) (ds := [9, 10]) #[false, false, false, false, false, false, false, false, false, false, false, false] (by kernel_rfl) rfl rfl hSd_ (fun hHeld => ?_)
   clear hSd_
   replace C0 := Aside0.mk (Kd.C_below C0.out hb_)
   replace C1 := Aside0.mk (Kd.C_below C1.out hb_)
   replace C2 := Aside0.mk (Kd.C_below C2.out hb_)
   replace C3 := Aside0.mk (Kd.C_below C3.out hb_)
   clear qaa qba
   replace Xa := Aside0.mk (Bx.below Xa.out hb_)
   have qaa := Bx.c0 Xa.out
   have qba := Bx.c1 Xa.out
   clear qab qbb
   replace Xb := Aside0.mk (Bx.below Xb.out hb_)
   have qab := Bx.c0 Xb.out
   have qbb := Bx.c1 Xb.out
   replace HB := Aside0.mk (below_step HB.out hb_)
   clear hb_
   generalize wa4.drew = wa5 at *
   refine pure_ (i := 0) (N := some 13) (v := ?_) (a' := ?_) #[true, false, false, false, false, false, false, false, false, false, false, false] rfl rfl (by kernel_rfl) (fun _ _ _ h => h) (Or.inl ⟨by rfl, ?_⟩) ?_ ?_
   rotate_left
   ·intro w'
    go_simp
    with_reducible rfl
   rotate_left
   ·simp only [Act.put, List.setIfInBounds_toArray, List.set_cons_zero, List.set_cons_succ, i64_w, i32_w]
    rfl
   refine take_ (i := 1) (N := some 14) (v := ?_) (a' := ?_) #[true, true, false, false, false, false, false, false, false, false, false, false] rfl rfl (by kernel_rfl) (fun _ _ _ h => h) (Or.inl ⟨by rfl, ?_⟩) hHeld ?_ ?_
   rotate_left
   ·rintro w' ⟨s0, s1, s2, s3⟩
    go_simp
    with_reducible rfl
   rotate_left
   ·simp only [Act.put, List.setIfInBounds_toArray, List.set_cons_zero, List.set_cons_succ, i64_w, i32_w]
    rfl
   refine pure_ (i := 2) (N := some 15) (v := ?_) (a' := ?_) #[true, true, true, false, false, false, false, false, false, false, false, false] rfl rfl (by kernel_rfl) (fun _ _ _ h => h) (Or.inl ⟨by rfl, ?_⟩) ?_ ?_
   rotate_left
   ·intro w'
    go_simp
    with_reducible rfl
   rotate_left
   ·simp only [Act.put, List.setIfInBounds_toArray, List.set_cons_zero, List.set_cons_succ, i64_w, i32_w]
    rfl
   refine take_ (i := 3) (N := some 16) (v := ?_) (a' := ?_) #[true, true, true, true, false, false, false, false, false, false, false, false] rfl rfl (by kernel_rfl) (fun _ _ _ h => h) (Or.inl ⟨by rfl, ?_⟩) hHeld ?_ ?_
   rotate_left
   ·rintro w' ⟨s0, s1, s2, s3⟩
    go_simp
    with_reducible rfl
   rotate_left
   ·simp only [Act.put, List.setIfInBounds_toArray, List.set_cons_zero, List.set_cons_succ, i64_w, i32_w]
    rfl
   refine pure_ (i := 5) (N := some 18) (v := ?_) (a' := ?_) #[true, true, true, true, false, true, false, false, false, false, false, false] rfl rfl (by kernel_rfl) (fun _ _ _ h => h) (Or.inl ⟨by rfl, ?_⟩) ?_ ?_
   rotate_left
   ·intro w'
    go_simp
    with_reducible rfl
   rotate_left
   ·simp only [Act.put, List.setIfInBounds_toArray, List.set_cons_zero, List.set_cons_succ, i64_w, i32_w]
    rfl
   refine take_ (i := 6) (N := some 19) (v := ?_) (a' := ?_) #[true, true, true, true, false, true, true, false, false, false, false, false] rfl rfl (by kernel_rfl) (fun _ _ _ h => h) (Or.inl ⟨by rfl, ?_⟩) hHeld ?_ ?_
   rotate_left
   ·rintro w' ⟨s0, s1, s2, s3⟩
    go_simp
    with_reducible rfl
   rotate_left
   ·simp only [Act.put, List.setIfInBounds_toArray, List.set_cons_zero, List.set_cons_succ, i64_w, i32_w]
    rfl
   refine pure_ (i := 7) (N := some 20) (v := ?_) (a' := ?_) #[true, true, true, true, false, true, true, true, false, false, false, false] rfl rfl (by kernel_rfl) (fun _ _ _ h => h) (Or.inl ⟨by rfl, ?_⟩) ?_ ?_
   rotate_left
   ·intro w'
    go_simp
    with_reducible rfl
   rotate_left
   ·simp only [Act.put, List.setIfInBounds_toArray, List.set_cons_zero, List.set_cons_succ, i64_w, i32_w]
    rfl
   refine take_ (i := 8) (N := some 21) (v := ?_) (a' := ?_) #[true, true, true, true, false, true, true, true, true, false, false, false] rfl rfl (by kernel_rfl) (fun _ _ _ h => h) (Or.inl ⟨by rfl, ?_⟩) hHeld ?_ ?_
   rotate_left
   ·rintro w' ⟨s0, s1, s2, s3⟩
    go_simp
    with_reducible rfl
   rotate_left
   ·simp only [Act.put, List.setIfInBounds_toArray, List.set_cons_zero, List.set_cons_succ, i64_w, i32_w]
    rfl
   refine one_ (i := 4) (N := some 17) #[true, true, true, true, true, true, true, true, true, false, false, false] rfl rfl (by kernel_rfl) (by decide) (fun K hK => ?_)
   refine goes_ Tryd.func22 (by kernel_rfl) rfl #[.slice A0 n0.length c0, .slice A3 d1.length c3] (by rfl) rfl rfl (by (try simp only [List.map_toArray, List.map_cons, List.map_nil]); first | done | rfl) ?_
   refine (lineageref03_Mul.calls 20000 A0 c0 n0 A3 c3 d1 m0 wa5 C0.out H0.out C3.out H3.out M0.out).mono ?_
   rintro e wa6 ⟨v_, rfl, hr_, hb_⟩
   replace C0 := Aside0.mk (Kd.C_below C0.out hb_)
   replace C1 := Aside0.mk (Kd.C_below C1.out hb_)
   replace C2 := Aside0.mk (Kd.C_below C2.out hb_)
   replace C3 := Aside0.mk (Kd.C_below C3.out hb_)
   clear qaa qba
   replace Xa := Aside0.mk (Bx.below Xa.out hb_)
   have qaa := Bx.c0 Xa.out
   have qba := Bx.c1 Xa.out
   clear qab qbb
   replace Xb := Aside0.mk (Bx.below Xb.out hb_)
   have qab := Bx.c0 Xb.out
   have qbb := Bx.c1 Xb.out
   replace HB := Aside0.mk (below_step HB.out hb_)
   obtain ⟨Am0, cm0, rfl⟩ := Kd.V_slice hr_
   have Cm0 := Aside0.mk (Kd.V_reads' hr_).2.2
   have Hm0 := Aside0.mk (show m0.length ≤ cm0 from (Kd.V_reads' hr_).2.1)
   clear hr_ hb_
   refine ⟨_, rfl, ?_⟩
   clear hHeld
   refine hK.out _ _ ⟨qaa, qba, qab, qbb⟩ (fun hHeld => ?_)
   clear hK K
   refine norm_ (a' := ?_) ?_ ?_
   rotate_left
   ·show Act.put _ (some 17) _ = _
    simp only [Act.put, List.setIfInBounds_toArray, List.set_cons_zero, List.set_cons_succ, i64_w, i32_w]
    rfl
   refine last_ (i := 9) (N := some 22) #[true, true, true, true, true, true, true, true, true, true, false, false] rfl rfl (by kernel_rfl) (by decide) (fun K hK => ?_)
   refine goes_ Tryd.func22 (by kernel_rfl) rfl #[.slice A2 n1.length c2, .slice A1 d0.length c1] (by rfl) rfl rfl (by (try simp only [List.map_toArray, List.map_cons, List.map_nil]); first | done | rfl) ?_
   refine (lineageref03_Mul.calls 20000 A2 c2 n1 A1 c1 d0 m1 wa6 C2.out H2.out C1.out H1.out M1.out).mono ?_
   rintro e wa7 ⟨v_, rfl, hr_, hb_⟩
   replace C0 := Aside0.mk (Kd.C_below C0.out hb_)
   replace C1 := Aside0.mk (Kd.C_below C1.out hb_)
   replace C2 := Aside0.mk (Kd.C_below C2.out hb_)
   replace C3 := Aside0.mk (Kd.C_below C3.out hb_)
   replace Cm0 := Aside0.mk (Kd.C_below Cm0.out hb_)
   clear qaa qba
   replace Xa := Aside0.mk (Bx.below Xa.out hb_)
   have qaa := Bx.c0 Xa.out
   have qba := Bx.c1 Xa.out
   clear qab qbb
   replace Xb := Aside0.mk (Bx.below Xb.out hb_)
   have qab := Bx.c0 Xb.out
   have qbb := Bx.c1 Xb.out
   replace HB := Aside0.mk (below_step HB.out hb_)
   obtain ⟨Am1, cm1, rfl⟩ := Kd.V_slice hr_
   have Cm1 := Aside0.mk (Kd.V_reads' hr_).2.2
   have Hm1 := Aside0.mk (show m1.length ≤ cm1 from (Kd.V_reads' hr_).2.1)
   clear hr_ hb_
   refine ⟨_, rfl, ?_⟩
   refine hK.out _ _ ?_
   clear hK K
   refine norm_ (a' := ?_) ?_ ?_
   rotate_left
   ·show Act.put _ (some 22) _ = _
    simp only [Act.put, List.setIfInBounds_toArray, List.set_cons_zero, List.set_cons_succ, i64_w, i32_w]
    rfl
   refine last_ (i := 10) (N := some 23) #[true, true, true, true, true, true, true, true, true, true, true, false] rfl rfl (by kernel_rfl) (by decide) (fun K hK => ?_)
   refine goes_ Tryd.func28 (by kernel_rfl) rfl #[.slice Am0 m0.length cm0, .slice Am1 m1.length cm1] (by rfl) rfl rfl (by (try simp only [List.map_toArray, List.map_cons, List.map_nil]); first | done | rfl) ?_
   refine (lineageref03_Compare.calls 1000 Am0 cm0 m0 Am1 cm1 m1 R wa7 Cm0.out Hm0.out Cm1.out Hm1.out hC.out).mono ?_
   rintro e wa8 ⟨rfl, hd_⟩
   have hb_ := hd_.below
   replace C0 := Aside0.mk (Kd.C_below C0.out hb_)
   replace C1 := Aside0.mk (Kd.C_below C1.out hb_)
   replace C2 := Aside0.mk (Kd.C_below C2.out hb_)
   replace C3 := Aside0.mk (Kd.C_below C3.out hb_)
   replace Cm0 := Aside0.mk (Kd.C_below Cm0.out hb_)
   replace Cm1 := Aside0.mk (Kd.C_below Cm1.out hb_)
   clear qaa qba
   replace Xa := Aside0.mk (Bx.below Xa.out hb_)
   have qaa := Bx.c0 Xa.out
   have qba := Bx.c1 Xa.out
   clear qab qbb
   replace Xb := Aside0.mk (Bx.below Xb.out hb_)
   have qab := Bx.c0 Xb.out
   have qbb := Bx.c1 Xb.out
   replace HB := Aside0.mk (below_step HB.out hb_)
   clear hb_ hd_
   refine ⟨_, rfl, ?_⟩
   refine hK.out _ _ ?_
   clear hK K
   refine norm_ (a' := ?_) ?_ ?_
   rotate_left
   ·show Act.put _ (some 23) _ = _
    simp only [Act.put, List.setIfInBounds_toArray, List.set_cons_zero, List.set_cons_succ, i64_w, i32_w]
    rfl
   refine pure_ (i := 11) (N := some 4) (v := ?_) (a' := ?_) #[true, true, true, true, true, true, true, true, true, true, true, true] rfl rfl (by kernel_rfl) (fun _ _ _ h => h) (Or.inl ⟨by rfl, ?_⟩) ?_ ?_
   rotate_left
   ·intro w'
    go_simp
    with_reducible rfl
   rotate_left
   ·simp only [Act.put, List.setIfInBounds_toArray, List.set_cons_zero, List.set_cons_succ, i64_w, i32_w]
    rfl
   refine done_ (by kernel_rfl) ?_
   go_wp2_with fail
   go_ret
   exact ⟨rfl, HB.out⟩

end Go.Proofs.YtoakfjcejamoeaaDoor.B
