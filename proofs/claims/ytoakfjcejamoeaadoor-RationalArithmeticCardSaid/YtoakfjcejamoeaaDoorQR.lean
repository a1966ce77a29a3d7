/- The contracts of the reference's Mul and Complement. -/
import Derived.Test.YtoakfjcejamoeaaDoorQB
namespace Go.Proofs.YtoakfjcejamoeaaDoor.B
open Go.RowKit Go.Proofs.YtoakfjcejamoeaaDoorW.PrintWords Go.Proofs.YtoakfjcejamoeaaDoorW.PrintLast Go.Proofs.YtoakfjcejamoeaaDoorW.PrintMore
set_option exponentiation.threshold 8200
set_option linter.unusedVariables false
set_option linter.unusedSimpArgs false
set_option maxHeartbeats 16000000 in
set_option maxRecDepth 100000 in
/-- The reference's Mul. -/
theorem refRatMul_calls (A0 : Option Addr) (c0 : Nat) (l0 : List Int) (A1 : Option Addr) (c1 : Nat) (l1 : List Int) (A2 : Option Addr) (c2 : Nat) (l2 : List Int) (A3 : Option Addr) (c3 : Nat) (l3 : List Int) (n d : List Int) (ec : Int) (w : World) (hr0 : Kd.C (Kd.int .u32) w A0 l0.length l0) (hc0 : l0.length ≤ c0) (hr1 : Kd.C (Kd.int .u32) w A1 l1.length l1) (hc1 : l1.length ≤ c1) (hr2 : Kd.C (Kd.int .u32) w A2 l2.length l2) (hc2 : l2.length ≤ c2) (hr3 : Kd.C (Kd.int .u32) w A3 l3.length l3) (hc3 : l3.length ≤ c3)  (L0 : Bn.Limbs l0) (L1 : Bn.Limbs l1) (L2 : Bn.Limbs l2) (L3 : Bn.Limbs l3) (h : mulR l0 l1 l2 l3 = ((n, d), ec)) :
  Calls Tryd.prog 64 #[.agg #[.slice A0 l0.length c0, .slice A1 l1.length c1], .agg #[.slice A2 l2.length c2, .slice A3 l3.length c3]] w fun e_ w' => Rat2 n d ec w e_ w' := by
 have C0 := Aside0.mk hr0
 have H0 := Aside0.mk hc0
 clear hr0 hc0
 have C1 := Aside0.mk hr1
 have H1 := Aside0.mk hc1
 clear hr1 hc1
 have C2 := Aside0.mk hr2
 have H2 := Aside0.mk hc2
 clear hr2 hc2
 have C3 := Aside0.mk hr3
 have H3 := Aside0.mk hc3
 clear hr3 hc3
 have HB := Aside0.mk (Below.refl w.heap.size w)
 obtain ⟨p0, hp0⟩ : ∃ p, p = ratB l0 l1 := ⟨_, rfl⟩
 obtain ⟨p1, hp1⟩ : ∃ p, p = ratB l2 l3 := ⟨_, rfl⟩
 have hP0 := Aside0.mk hp0
 have hP1 := Aside0.mk hp1
 have hL := Aside0.mk (show Bn.Limbs l0 ∧ Bn.Limbs l1 ∧ Bn.Limbs l2 ∧ Bn.Limbs l3 from ⟨L0, L1, L2, L3⟩)
 have hBad := Aside0.mk (show ¬ (p0 = true ∧ p1 = true) → n = [] ∧ d = [] ∧ ec = 1 from fun hn => by
   unfold mulR at h
   rw [hp0, hp1] at hn
   rw [if_neg hn] at h
   injection h with h1 h2
   injection h1 with h1 h3
   exact ⟨h1.symm, h3.symm, h2.symm⟩)
 have hGood := Aside0.mk (show p0 = true → p1 = true → _ from fun h0 h1 => refmulR_facts L0 L1 L2 L3 h (hp0 ▸ h0) (hp1 ▸ h1))
 clear hp0 hp1 h L0 L1 L2 L3
 go_enter Tryd.func64, Tryd.ntmps64
 go_wp2_with (first | ((with_reducible refine gate_dst (N := 2) rfl ?_); (try (refine gate_guard (by rfl) ?_; dsimp only)); refine box_event ?hg (N := 2) ?hd (.slice A0 l0.length c0) (.slice A1 l1.length c1) ?hr ?_; (case hd => rfl); (case hg => rfl); (case hr => first | (go_simp; done) | (go_simp; rfl)); intro ba wa1 hx_ hs_ hb_; skip; have Sa := Aside0.mk (Nat.le_trans (below_size HB.out) hs_); have Xa := Aside0.mk hx_; replace C0 := Aside0.mk (Kd.C_below C0.out hb_); replace C1 := Aside0.mk (Kd.C_below C1.out hb_); replace C2 := Aside0.mk (Kd.C_below C2.out hb_); replace C3 := Aside0.mk (Kd.C_below C3.out hb_); replace HB := Aside0.mk (below_step HB.out hb_); have qaa := Bx.c0 Xa.out; have qba := Bx.c1 Xa.out; clear hb_ hx_ hs_) | ((with_reducible refine gate_dst (N := 3) rfl ?_); (try (refine gate_guard (by rfl) ?_; dsimp only)); refine box_event ?hg (N := 3) ?hd (.slice A2 l2.length c2) (.slice A3 l3.length c3) ?hr ?_; (case hd => rfl); (case hg => rfl); (case hr => first | (go_simp; done) | (go_simp; rfl)); intro bb wa2 hx_ hs_ hb_; skip; have Sb := Aside0.mk (Nat.le_trans (below_size HB.out) hs_); have Xb := Aside0.mk hx_; replace C0 := Aside0.mk (Kd.C_below C0.out hb_); replace C1 := Aside0.mk (Kd.C_below C1.out hb_); replace C2 := Aside0.mk (Kd.C_below C2.out hb_); replace C3 := Aside0.mk (Kd.C_below C3.out hb_); clear qaa qba; replace Xa := Aside0.mk (Bx.below Xa.out hb_); have qaa := Bx.c0 Xa.out; have qba := Bx.c1 Xa.out; replace HB := Aside0.mk (below_step HB.out hb_); have qab := Bx.c0 Xb.out; have qbb := Bx.c1 Xb.out; clear hb_ hx_ hs_) | ((with_reducible refine gate_dst (N := 4) rfl ?_); (try (refine gate_guard (by rfl) ?_; dsimp only)); refine box_event ?hg (N := 4) ?hd (.slice none 0 0) (.slice none 0 0) ?hr ?_; (case hd => rfl); (case hg => rfl); (case hr => first | (go_simp; done) | (go_simp; rfl)); intro bz wa3 hx_ hs_ hb_; skip; have Sz := Aside0.mk (Nat.le_trans (below_size HB.out) hs_); have Xz := Aside0.mk hx_; replace C0 := Aside0.mk (Kd.C_below C0.out hb_); replace C1 := Aside0.mk (Kd.C_below C1.out hb_); replace C2 := Aside0.mk (Kd.C_below C2.out hb_); replace C3 := Aside0.mk (Kd.C_below C3.out hb_); clear qaa qba; replace Xa := Aside0.mk (Bx.below Xa.out hb_); have qaa := Bx.c0 Xa.out; have qba := Bx.c1 Xa.out; clear qab qbb; replace Xb := Aside0.mk (Bx.below Xb.out hb_); have qab := Bx.c0 Xb.out; have qbb := Bx.c1 Xb.out; replace HB := Aside0.mk (below_step HB.out hb_); skip; clear hb_ hx_ hs_))
 refine (refRatValid_calls A0 c0 l0 A1 c1 l1 p0 wa3 C0.out H0.out C1.out H1.out hL.out.1 hL.out.2.1 hP0.out).mono ?_
 rintro e wa4 ⟨rfl, hb_⟩
 replace C0 := Aside0.mk (Kd.C_below C0.out hb_)
 replace C1 := Aside0.mk (Kd.C_below C1.out hb_)
 replace C2 := Aside0.mk (Kd.C_below C2.out hb_)
 replace C3 := Aside0.mk (Kd.C_below C3.out hb_)
 clear qaa qba
 replace Xa := Aside0.mk (Bx.below Xa.out hb_)
 have qaa := Bx.c0 Xa.out
 have qba := Bx.c1 Xa.out
 clear qab qbb
 replace Xb := Aside0.mk (Bx.below Xb.out hb_)
 have qab := Bx.c0 Xb.out
 have qbb := Bx.c1 Xb.out
 replace Xz := Aside0.mk (Bx.below Xz.out hb_)
 replace HB := Aside0.mk (below_step HB.out hb_)
 clear hb_
 cases p0 with
 | false =>
  obtain ⟨rfl, rfl, rfl⟩ := hBad.out (by simp)
  have Cn := Aside0.mk (nilC wa4)
  have Hn := Aside0.mk (Nat.le_refl 0)
  clear qaa qba
  clear qab qbb
  have qaz := Bx.c0 Xz.out
  have qbz := Bx.c1 Xz.out
  have qcz := Bx.f0 Xz.out
  have qdz := Bx.f1 Xz.out
  go_wp2_with fail
  refine bodyPost_ret (results_cell48t rfl rfl (Bx.store Xz.out (.slice none 0 0) (.slice none 0 0))) rfl ?_
  exact Rat2.intro ⟨_, _, _, _, rfl, C_store Xz.out Cn.out _ _, Hn.out, C_store Xz.out Cn.out _ _, Hn.out, below_set (below_set HB.out Sz.out) Sz.out⟩
 | true =>
  go_wp2_with fail
  refine (refRatValid_calls A2 c2 l2 A3 c3 l3 p1 wa4 C2.out H2.out C3.out H3.out hL.out.2.2.1 hL.out.2.2.2 hP1.out).mono ?_
  rintro e wa5 ⟨rfl, hb_⟩
  replace C0 := Aside0.mk (Kd.C_below C0.out hb_)
  replace C1 := Aside0.mk (Kd.C_below C1.out hb_)
  replace C2 := Aside0.mk (Kd.C_below C2.out hb_)
  replace C3 := Aside0.mk (Kd.C_below C3.out hb_)
  clear qaa qba
  replace Xa := Aside0.mk (Bx.below Xa.out hb_)
  have qaa := Bx.c0 Xa.out
  have qba := Bx.c1 Xa.out
  clear qab qbb
  replace Xb := Aside0.mk (Bx.below Xb.out hb_)
  have qab := Bx.c0 Xb.out
  have qbb := Bx.c1 Xb.out
  replace Xz := Aside0.mk (Bx.below Xz.out hb_)
  replace HB := Aside0.mk (below_step HB.out hb_)
  clear hb_
  cases p1 with
  | false =>
   obtain ⟨rfl, rfl, rfl⟩ := hBad.out (by simp)
   have Cn := Aside0.mk (nilC wa5)
   have Hn := Aside0.mk (Nat.le_refl 0)
   clear qaa qba
   clear qab qbb
   have qaz := Bx.c0 Xz.out
   have qbz := Bx.c1 Xz.out
   have qcz := Bx.f0 Xz.out
   have qdz := Bx.f1 Xz.out
   go_wp2_with fail
   refine bodyPost_ret (results_cell48t rfl rfl (Bx.store Xz.out (.slice none 0 0) (.slice none 0 0))) rfl ?_
   exact Rat2.intro ⟨_, _, _, _, rfl, C_store Xz.out Cn.out _ _, Hn.out, C_store Xz.out Cn.out _ _, Hn.out, below_set (below_set HB.out Sz.out) Sz.out⟩
  | true =>
   obtain ⟨n0, n1, f0, f1, m0, m1, hf0, hf1, hF, hT⟩ := hGood.out (by trivial) (by trivial)
   have M0 := Aside0.mk m0
   have M1 := Aside0.mk m1
   have G0 := Aside0.mk hf0
   have G1 := Aside0.mk hf1
   have hFa := Aside0.mk hF
   have hTr := Aside0.mk hT
   clear m0 m1 hf0 hf1 hF hT hGood hBad
   go_wp2_with fail
   have hb_ : Below wa5.heap.size wa5 wa5.drew := below_drew1 (Below.refl _ _)
   have hSd_ : (fun w' : World => w'.cell? ⟨ba, 0, none⟩ = some (.slice A0 l0.length c0) ∧ w'.cell? ⟨ba, 1, none⟩ = some (.slice A1 l1.length c1) ∧ w'.cell? ⟨bb, 0, none⟩ = some (.slice A2 l2.length c2) ∧ w'.cell? ⟨bb, 1, none⟩ = some (.slice A3 l3.length c3)) wa5.drew := ⟨qaa, qba, qab, qbb⟩
   refine start_ (n := 12) (S := fun w' => w'.cell? ⟨ba, 0, none⟩ = some (.slice A0 l0.length c0) ∧ w'.cell? ⟨ba, 1, none⟩ = some (.slice A1 l1.length c1) ∧ w'.cell? ⟨bb, 0, none⟩ = some (.slice A2 l2.length c2) ∧ w'.cell? ⟨bb, 1, none⟩ = some (.slice A3 l3.length c3)) (ds := [9]) #[false, false, false, false, false, false, false, false, false, false, false, false] (by kernel_rfl) rfl rfl hSd_ (fun hHeld => ?_)
   clear hSd_
   replace C0 := Aside0.mk (Kd.C_below C0.out hb_)
   replace C1 := Aside0.mk (Kd.C_below C1.out hb_)
   replace C2 := Aside0.mk (Kd.C_below C2.out hb_)
   replace C3 := Aside0.mk (Kd.C_below C3.out hb_)
   clear qaa qba
   replace Xa := Aside0.mk (Bx.below Xa.out hb_)
   have qaa := Bx.c0 Xa.out
   have qba := Bx.c1 Xa.out
   clear qab qbb
   replace Xb := Aside0.mk (Bx.below Xb.out hb_)
   have qab := Bx.c0 Xb.out
   have qbb := Bx.c1 Xb.out
   replace Xz := Aside0.mk (Bx.below Xz.out hb_)
   replace HB := Aside0.mk (below_step HB.out hb_)
   clear hb_
   generalize wa5.drew = wa6 at *
   refine pure_ (i := 0) (N := some 17) (v := ?_) (a' := ?_) #[true, false, false, false, false, false, false, false, false, false, false, false] rfl rfl (by kernel_rfl) (fun _ _ _ h => h) (Or.inl ⟨by rfl, ?_⟩) ?_ ?_
   rotate_left
   ·intro w'
    go_simp
    with_reducible rfl
   rotate_left
   ·simp only [Act.put, List.setIfInBounds_toArray, List.set_cons_zero, List.set_cons_succ, i64_w, i32_w]
    rfl
   refine take_ (i := 1) (N := some 18) (v := ?_) (a' := ?_) #[true, true, false, false, false, false, false, false, false, false, false, false] rfl rfl (by kernel_rfl) (fun _ _ _ h => h) (Or.inl ⟨by rfl, ?_⟩) hHeld ?_ ?_
   rotate_left
   ·rintro w' ⟨s0, s1, s2, s3⟩
    go_simp
    with_reducible rfl
   rotate_left
   ·simp only [Act.put, List.setIfInBounds_toArray, List.set_cons_zero, List.set_cons_succ, i64_w, i32_w]
    rfl
   refine pure_ (i := 2) (N := some 19) (v := ?_) (a' := ?_) #[true, true, true, false, false, false, false, false, false, false, false, false] rfl rfl (by kernel_rfl) (fun _ _ _ h => h) (Or.inl ⟨by rfl, ?_⟩) ?_ ?_
   rotate_left
   ·intro w'
    go_simp
    with_reducible rfl
   rotate_left
   ·simp only [Act.put, List.setIfInBounds_toArray, List.set_cons_zero, List.set_cons_succ, i64_w, i32_w]
    rfl
   refine take_ (i := 3) (N := some 20) (v := ?_) (a' := ?_) #[true, true, true, true, false, false, false, false, false, false, false, false] rfl rfl (by kernel_rfl) (fun _ _ _ h => h) (Or.inl ⟨by rfl, ?_⟩) hHeld ?_ ?_
   rotate_left
   ·rintro w' ⟨s0, s1, s2, s3⟩
    go_simp
    with_reducible rfl
   rotate_left
   ·simp only [Act.put, List.setIfInBounds_toArray, List.set_cons_zero, List.set_cons_succ, i64_w, i32_w]
    rfl
   refine pure_ (i := 5) (N := some 22) (v := ?_) (a' := ?_) #[true, true, true, true, false, true, false, false, false, false, false, false] rfl rfl (by kernel_rfl) (fun _ _ _ h => h) (Or.inl ⟨by rfl, ?_⟩) ?_ ?_
   rotate_left
   ·intro w'
    go_simp
    with_reducible rfl
   rotate_left
   ·simp only [Act.put, List.setIfInBounds_toArray, List.set_cons_zero, List.set_cons_succ, i64_w, i32_w]
    rfl
   refine take_ (i := 6) (N := some 23) (v := ?_) (a' := ?_) #[true, true, true, true, false, true, true, false, false, false, false, false] rfl rfl (by kernel_rfl) (fun _ _ _ h => h) (Or.inl ⟨by rfl, ?_⟩) hHeld ?_ ?_
   rotate_left
   ·rintro w' ⟨s0, s1, s2, s3⟩
    go_simp
    with_reducible rfl
   rotate_left
   ·simp only [Act.put, List.setIfInBounds_toArray, List.set_cons_zero, List.set_cons_succ, i64_w, i32_w]
    rfl
   refine pure_ (i := 7) (N := some 24) (v := ?_) (a' := ?_) #[true, true, true, true, false, true, true, true, false, false, false, false] rfl rfl (by kernel_rfl) (fun _ _ _ h => h) (Or.inl ⟨by rfl, ?_⟩) ?_ ?_
   rotate_left
   ·intro w'
    go_simp
    with_reducible rfl
   rotate_left
   ·simp only [Act.put, List.setIfInBounds_toArray, List.set_cons_zero, List.set_cons_succ, i64_w, i32_w]
    rfl
   refine take_ (i := 8) (N := some 25) (v := ?_) (a' := ?_) #[true, true, true, true, false, true, true, true, true, false, false, false] rfl rfl (by kernel_rfl) (fun _ _ _ h => h) (Or.inl ⟨by rfl, ?_⟩) hHeld ?_ ?_
   rotate_left
   ·rintro w' ⟨s0, s1, s2, s3⟩
    go_simp
    with_reducible rfl
   rotate_left
   ·simp only [Act.put, List.setIfInBounds_toArray, List.set_cons_zero, List.set_cons_succ, i64_w, i32_w]
    rfl
   refine one_ (i := 4) (N := some 21) #[true, true, true, true, true, true, true, true, true, false, false, false] rfl rfl (by kernel_rfl) (by decide) (fun K hK => ?_)
   refine goes_ Tryd.func22 (by kernel_rfl) rfl #[.slice A0 l0.length c0, .slice A2 l2.length c2] (by rfl) rfl rfl (by (try simp only [List.map_toArray, List.map_cons, List.map_nil]); first | done | rfl) ?_
   refine (lineageref03_Mul.calls 20000 A0 c0 l0 A2 c2 l2 n0 wa6 C0.out H0.out C2.out H2.out M0.out).mono ?_
   rintro e wa7 ⟨v_, rfl, hr_, hb_⟩
   replace C0 := Aside0.mk (Kd.C_below C0.out hb_)
   replace C1 := Aside0.mk (Kd.C_below C1.out hb_)
   replace C2 := Aside0.mk (Kd.C_below C2.out hb_)
   replace C3 := Aside0.mk (Kd.C_below C3.out hb_)
   clear qaa qba
   replace Xa := Aside0.mk (Bx.below Xa.out hb_)
   have qaa := Bx.c0 Xa.out
   have qba := Bx.c1 Xa.out
   clear qab qbb
   replace Xb := Aside0.mk (Bx.below Xb.out hb_)
   have qab := Bx.c0 Xb.out
   have qbb := Bx.c1 Xb.out
   replace Xz := Aside0.mk (Bx.below Xz.out hb_)
   replace HB := Aside0.mk (below_step HB.out hb_)
   obtain ⟨An0, cn0, rfl⟩ := Kd.V_slice hr_
   have Cn0 := Aside0.mk (Kd.V_reads' hr_).2.2
   have Hn0 := Aside0.mk (show n0.length ≤ cn0 from (Kd.V_reads' hr_).2.1)
   clear hr_ hb_
   refine ⟨_, rfl, ?_⟩
   clear hHeld
   refine hK.out _ _ ⟨qaa, qba, qab, qbb⟩ (fun hHeld => ?_)
   clear hK K
   refine norm_ (a' := ?_) ?_ ?_
   rotate_left
   ·show Act.put _ (some 21) _ = _
    simp only [Act.put, List.setIfInBounds_toArray, List.set_cons_zero, List.set_cons_succ, i64_w, i32_w]
    rfl
   refine last_ (i := 9) (N := some 26) #[true, true, true, true, true, true, true, true, true, true, false, false] rfl rfl (by kernel_rfl) (by decide) (fun K hK => ?_)
   refine goes_ Tryd.func22 (by kernel_rfl) rfl #[.slice A1 l1.length c1, .slice A3 l3.length c3] (by rfl) rfl rfl (by (try simp only [List.map_toArray, List.map_cons, List.map_nil]); first | done | rfl) ?_
   refine (lineageref03_Mul.calls 20000 A1 c1 l1 A3 c3 l3 n1 wa7 C1.out H1.out C3.out H3.out M1.out).mono ?_
   rintro e wa8 ⟨v_, rfl, hr_, hb_⟩
   replace C0 := Aside0.mk (Kd.C_below C0.out hb_)
   replace C1 := Aside0.mk (Kd.C_below C1.out hb_)
   replace C2 := Aside0.mk (Kd.C_below C2.out hb_)
   replace C3 := Aside0.mk (Kd.C_below C3.out hb_)
   replace Cn0 := Aside0.mk (Kd.C_below Cn0.out hb_)
   clear qaa qba
   replace Xa := Aside0.mk (Bx.below Xa.out hb_)
   have qaa := Bx.c0 Xa.out
   have qba := Bx.c1 Xa.out
   clear qab qbb
   replace Xb := Aside0.mk (Bx.below Xb.out hb_)
   have qab := Bx.c0 Xb.out
   have qbb := Bx.c1 Xb.out
   replace Xz := Aside0.mk (Bx.below Xz.out hb_)
   replace HB := Aside0.mk (below_step HB.out hb_)
   obtain ⟨An1, cn1, rfl⟩ := Kd.V_slice hr_
   have Cn1 := Aside0.mk (Kd.V_reads' hr_).2.2
   have Hn1 := Aside0.mk (show n1.length ≤ cn1 from (Kd.V_reads' hr_).2.1)
   clear hr_ hb_
   refine ⟨_, rfl, ?_⟩
   refine hK.out _ _ ?_
   clear hK K
   refine norm_ (a' := ?_) ?_ ?_
   rotate_left
   ·show Act.put _ (some 26) _ = _
    simp only [Act.put, List.setIfInBounds_toArray, List.set_cons_zero, List.set_cons_succ, i64_w, i32_w]
    rfl
   refine pure_ (i := 10) (N := some 6) (v := ?_) (a' := ?_) #[true, true, true, true, true, true, true, true, true, true, true, false] rfl rfl (by kernel_rfl) (fun _ _ _ h => h) (Or.inl ⟨by rfl, ?_⟩) ?_ ?_
   rotate_left
   ·intro w'
    go_simp
    with_reducible rfl
   rotate_left
   ·simp only [Act.put, List.setIfInBounds_toArray, List.set_cons_zero, List.set_cons_succ, i64_w, i32_w]
    rfl
   refine pure_ (i := 11) (N := some 7) (v := ?_) (a' := ?_) #[true, true, true, true, true, true, true, true, true, true, true, true] rfl rfl (by kernel_rfl) (fun _ _ _ h => h) (Or.inl ⟨by rfl, ?_⟩) ?_ ?_
   rotate_left
   ·intro w'
    go_simp
    with_reducible rfl
   rotate_left
   ·simp only [Act.put, List.setIfInBounds_toArray, List.set_cons_zero, List.set_cons_succ, i64_w, i32_w]
    rfl
   refine done_ (by kernel_rfl) ?_
   go_wp2_with fail
   refine (large_calls An0 cn0 n0 f0 wa8 G0.out).mono ?_
   rintro e wa9 ⟨rfl, hb_⟩
   replace C0 := Aside0.mk (Kd.C_below C0.out hb_)
   replace C1 := Aside0.mk (Kd.C_below C1.out hb_)
   replace C2 := Aside0.mk (Kd.C_below C2.out hb_)
   replace C3 := Aside0.mk (Kd.C_below C3.out hb_)
   replace Cn0 := Aside0.mk (Kd.C_below Cn0.out hb_)
   replace Cn1 := Aside0.mk (Kd.C_below Cn1.out hb_)
   clear qaa qba
   replace Xa := Aside0.mk (Bx.below Xa.out hb_)
   have qaa := Bx.c0 Xa.out
   have qba := Bx.c1 Xa.out
   clear qab qbb
   replace Xb := Aside0.mk (Bx.below Xb.out hb_)
   have qab := Bx.c0 Xb.out
   have qbb := Bx.c1 Xb.out
   replace Xz := Aside0.mk (Bx.below Xz.out hb_)
   replace HB := Aside0.mk (below_step HB.out hb_)
   clear hb_
   cases f0 with
   | true =>
    obtain ⟨rfl, rfl, rfl⟩ := hFa.out (by simp)
    have Cn := Aside0.mk (nilC wa9)
    have Hn := Aside0.mk (Nat.le_refl 0)
    clear qaa qba
    clear qab qbb
    have qaz := Bx.c0 Xz.out
    have qbz := Bx.c1 Xz.out
    have qcz := Bx.f0 Xz.out
    have qdz := Bx.f1 Xz.out
    go_wp2_with fail
    refine bodyPost_ret (results_cell48t rfl rfl (Bx.store Xz.out (.slice none 0 0) (.slice none 0 0))) rfl ?_
    exact Rat2.intro ⟨_, _, _, _, rfl, C_store Xz.out Cn.out _ _, Hn.out, C_store Xz.out Cn.out _ _, Hn.out, below_set (below_set HB.out Sz.out) Sz.out⟩
   | false =>
    go_wp2_with fail
    refine (large_calls An1 cn1 n1 f1 wa9 G1.out).mono ?_
    rintro e wa10 ⟨rfl, hb_⟩
    replace C0 := Aside0.mk (Kd.C_below C0.out hb_)
    replace C1 := Aside0.mk (Kd.C_below C1.out hb_)
    replace C2 := Aside0.mk (Kd.C_below C2.out hb_)
    replace C3 := Aside0.mk (Kd.C_below C3.out hb_)
    replace Cn0 := Aside0.mk (Kd.C_below Cn0.out hb_)
    replace Cn1 := Aside0.mk (Kd.C_below Cn1.out hb_)
    clear qaa qba
    replace Xa := Aside0.mk (Bx.below Xa.out hb_)
    have qaa := Bx.c0 Xa.out
    have qba := Bx.c1 Xa.out
    clear qab qbb
    replace Xb := Aside0.mk (Bx.below Xb.out hb_)
    have qab := Bx.c0 Xb.out
    have qbb := Bx.c1 Xb.out
    replace Xz := Aside0.mk (Bx.below Xz.out hb_)
    replace HB := Aside0.mk (below_step HB.out hb_)
    clear hb_
    cases f1 with
    | true =>
     obtain ⟨rfl, rfl, rfl⟩ := hFa.out (by simp)
     have Cn := Aside0.mk (nilC wa10)
     have Hn := Aside0.mk (Nat.le_refl 0)
     clear qaa qba
     clear qab qbb
     have qaz := Bx.c0 Xz.out
     have qbz := Bx.c1 Xz.out
     have qcz := Bx.f0 Xz.out
     have qdz := Bx.f1 Xz.out
     go_wp2_with fail
     refine bodyPost_ret (results_cell48t rfl rfl (Bx.store Xz.out (.slice none 0 0) (.slice none 0 0))) rfl ?_
     exact Rat2.intro ⟨_, _, _, _, rfl, C_store Xz.out Cn.out _ _, Hn.out, C_store Xz.out Cn.out _ _, Hn.out, below_set (below_set HB.out Sz.out) Sz.out⟩
    | false =>
     obtain ⟨rfl, hh_⟩ := hTr.out (by trivial) (by trivial)
     have hh := Aside0.mk hh_
     clear hh_ hTr hFa
     go_wp2_with fail
     refine (Reduce_calls An0 cn0 n0 An1 cn1 n1 n d wa10 Cn0.out Hn0.out Cn1.out Hn1.out hh.out).mono ?_
     rintro e wa11 ⟨Aq, cq, Ae, ce, rfl, hCq_, hHq_, hCe_, hHe_, hb_⟩
     replace C0 := Aside0.mk (Kd.C_below C0.out hb_)
     replace C1 := Aside0.mk (Kd.C_below C1.out hb_)
     replace C2 := Aside0.mk (Kd.C_below C2.out hb_)
     replace C3 := Aside0.mk (Kd.C_below C3.out hb_)
     replace Cn0 := Aside0.mk (Kd.C_below Cn0.out hb_)
     replace Cn1 := Aside0.mk (Kd.C_below Cn1.out hb_)
     clear qaa qba
     replace Xa := Aside0.mk (Bx.below Xa.out hb_)
     have qaa := Bx.c0 Xa.out
     have qba := Bx.c1 Xa.out
     clear qab qbb
     replace Xb := Aside0.mk (Bx.below Xb.out hb_)
     have qab := Bx.c0 Xb.out
     have qbb := Bx.c1 Xb.out
     replace Xz := Aside0.mk (Bx.below Xz.out hb_)
     replace HB := Aside0.mk (below_step HB.out hb_)
     have Cq := Aside0.mk hCq_
     have Hq := Aside0.mk hHq_
     clear hCq_ hHq_
     have Ce := Aside0.mk hCe_
     have He := Aside0.mk hHe_
     clear hCe_ hHe_
     clear hb_
     clear qaa qba
     clear qab qbb
     have qaz := Bx.c0 Xz.out
     have qbz := Bx.c1 Xz.out
     have qcz := Bx.f0 Xz.out
     have qdz := Bx.f1 Xz.out
     go_wp2_with fail
     refine bodyPost_ret (results_cell48t rfl rfl (Bx.store Xz.out (.slice Aq n.length cq) (.slice Ae d.length ce))) rfl ?_
     exact Rat2.intro ⟨_, _, _, _, rfl, C_store Xz.out Cq.out _ _, Hq.out, C_store Xz.out Ce.out _ _, He.out, below_set (below_set HB.out Sz.out) Sz.out⟩

set_option maxHeartbeats 16000000 in
set_option maxRecDepth 100000 in
/-- Complement. -/
theorem refRatComp_calls (A0 : Option Addr) (c0 : Nat) (l0 : List Int) (A1 : Option Addr) (c1 : Nat) (l1 : List Int) (n d : List Int) (ec : Int) (w : World) (hr0 : Kd.C (Kd.int .u32) w A0 l0.length l0) (hc0 : l0.length ≤ c0) (hr1 : Kd.C (Kd.int .u32) w A1 l1.length l1) (hc1 : l1.length ≤ c1)  (L0 : Bn.Limbs l0) (L1 : Bn.Limbs l1) (h : compR l0 l1 = ((n, d), ec)) :
  Calls Tryd.prog 65 #[.agg #[.slice A0 l0.length c0, .slice A1 l1.length c1]] w fun e_ w' => Rat2 n d ec w e_ w' := by
 have C0 := Aside0.mk hr0
 have H0 := Aside0.mk hc0
 clear hr0 hc0
 have C1 := Aside0.mk hr1
 have H1 := Aside0.mk hc1
 clear hr1 hc1
 have HB := Aside0.mk (Below.refl w.heap.size w)
 obtain ⟨p0, hp0⟩ : ∃ p, p = ratB l0 l1 := ⟨_, rfl⟩
 have hP0 := Aside0.mk hp0
 have hL := Aside0.mk (show Bn.Limbs l0 ∧ Bn.Limbs l1 from ⟨L0, L1⟩)
 have hBad := Aside0.mk (show ¬ (p0 = true) → n = [] ∧ d = [] ∧ ec = 1 from fun hn => by
   unfold compR at h
   rw [hp0] at hn
   rw [if_neg hn] at h
   injection h with h1 h2
   injection h1 with h1 h3
   exact ⟨h1.symm, h3.symm, h2.symm⟩)
 have hGood := Aside0.mk (show p0 = true → _ from fun h0 => compR_facts L0 L1 h (hp0 ▸ h0))
 clear hp0 h L0 L1
 go_enter Tryd.func65, Tryd.ntmps65
 go_wp2_with (first | ((with_reducible refine gate_dst (N := 1) rfl ?_); (try (refine gate_guard (by rfl) ?_; dsimp only)); refine box_event ?hg (N := 1) ?hd (.slice A0 l0.length c0) (.slice A1 l1.length c1) ?hr ?_; (case hd => rfl); (case hg => rfl); (case hr => first | (go_simp; done) | (go_simp; rfl)); intro ba wa1 hx_ hs_ hb_; skip; have Sa := Aside0.mk (Nat.le_trans (below_size HB.out) hs_); have Xa := Aside0.mk hx_; replace C0 := Aside0.mk (Kd.C_below C0.out hb_); replace C1 := Aside0.mk (Kd.C_below C1.out hb_); replace HB := Aside0.mk (below_step HB.out hb_); have qaa := Bx.c0 Xa.out; have qba := Bx.c1 Xa.out; clear hb_ hx_ hs_) | ((with_reducible refine gate_dst (N := 2) rfl ?_); (try (refine gate_guard (by rfl) ?_; dsimp only)); refine box_event ?hg (N := 2) ?hd (.slice none 0 0) (.slice none 0 0) ?hr ?_; (case hd => rfl); (case hg => rfl); (case hr => first | (go_simp; done) | (go_simp; rfl)); intro bz wa2 hx_ hs_ hb_; skip; have Sz := Aside0.mk (Nat.le_trans (below_size HB.out) hs_); have Xz := Aside0.mk hx_; replace C0 := Aside0.mk (Kd.C_below C0.out hb_); replace C1 := Aside0.mk (Kd.C_below C1.out hb_); clear qaa qba; replace Xa := Aside0.mk (Bx.below Xa.out hb_); have qaa := Bx.c0 Xa.out; have qba := Bx.c1 Xa.out; replace HB := Aside0.mk (below_step HB.out hb_); skip; clear hb_ hx_ hs_))
 refine (refRatValid_calls A0 c0 l0 A1 c1 l1 p0 wa2 C0.out H0.out C1.out H1.out hL.out.1 hL.out.2 hP0.out).mono ?_
 rintro e wa3 ⟨rfl, hb_⟩
 replace C0 := Aside0.mk (Kd.C_below C0.out hb_)
 replace C1 := Aside0.mk (Kd.C_below C1.out hb_)
 clear qaa qba
 replace Xa := Aside0.mk (Bx.below Xa.out hb_)
 have qaa := Bx.c0 Xa.out
 have qba := Bx.c1 Xa.out
 replace Xz := Aside0.mk (Bx.below Xz.out hb_)
 replace HB := Aside0.mk (below_step HB.out hb_)
 clear hb_
 cases p0 with
 | false =>
  obtain ⟨rfl, rfl, rfl⟩ := hBad.out (by simp)
  have Cn := Aside0.mk (nilC wa3)
  have Hn := Aside0.mk (Nat.le_refl 0)
  clear qaa qba
  have qaz := Bx.c0 Xz.out
  have qbz := Bx.c1 Xz.out
  have qcz := Bx.f0 Xz.out
  have qdz := Bx.f1 Xz.out
  go_wp2_with fail
  refine bodyPost_ret (results_cell48t rfl rfl (Bx.store Xz.out (.slice none 0 0) (.slice none 0 0))) rfl ?_
  exact Rat2.intro ⟨_, _, _, _, rfl, C_store Xz.out Cn.out _ _, Hn.out, C_store Xz.out Cn.out _ _, Hn.out, below_set (below_set HB.out Sz.out) Sz.out⟩
 | true =>
  rcases hGood.out (by trivial) with ⟨hle, rfl, rfl, hn, hN, hLn, hS, hC, hRS⟩ | ⟨hgt, rfl, rfl, rfl, hS, hC⟩
  ·clear hBad hGood
   have hSu := Aside0.mk hRS
   obtain ⟨c, hc⟩ : ∃ c, c = cmpN (Bn.nv l0) (Bn.nv d) := ⟨_, rfl⟩
   rw [← hc] at hC
   have hCm := Aside0.mk hC
   have hc0 : decide (c > 0) = false := by
    rw [hc]
    unfold cmpN
    rcases Nat.lt_or_ge (Bn.nv l0) (Bn.nv d) with h | h
    ·rw [if_pos h]; rfl
    ·rw [if_neg (by omega), if_neg (by omega)]; rfl
   clear hle hn hN hLn hS hC hRS hc
   go_wp2_with fail
   refine (lineageref03_Compare.calls 200 A0 c0 l0 A1 c1 d c wa3 C0.out H0.out C1.out H1.out hCm.out).mono ?_
   rintro e wa4 ⟨rfl, hd_⟩
   have hb_ := hd_.below
   replace C0 := Aside0.mk (Kd.C_below C0.out hb_)
   replace C1 := Aside0.mk (Kd.C_below C1.out hb_)
   clear qaa qba
   replace Xa := Aside0.mk (Bx.below Xa.out hb_)
   have qaa := Bx.c0 Xa.out
   have qba := Bx.c1 Xa.out
   replace Xz := Aside0.mk (Bx.below Xz.out hb_)
   replace HB := Aside0.mk (below_step HB.out hb_)
   clear hb_ hd_
   go_wp2_with fail
   have hb_ : Below wa4.heap.size wa4 wa4.drew := below_drew1 (Below.refl _ _)
   have hSd_ : (fun w' : World => w'.cell? ⟨ba, 0, none⟩ = some (.slice A0 l0.length c0) ∧ w'.cell? ⟨ba, 1, none⟩ = some (.slice A1 d.length c1)) wa4.drew := ⟨qaa, qba⟩
   refine start_ (n := 10) (S := fun w' => w'.cell? ⟨ba, 0, none⟩ = some (.slice A0 l0.length c0) ∧ w'.cell? ⟨ba, 1, none⟩ = some (.slice A1 d.length c1)) (ds := [8]) #[false, false, false, false, false, false, false, false, false, false] (by kernel_rfl) rfl rfl hSd_ (fun hHeld => ?_)
   clear hSd_
   replace C0 := Aside0.mk (Kd.C_below C0.out hb_)
   replace C1 := Aside0.mk (Kd.C_below C1.out hb_)
   clear qaa qba
   replace Xa := Aside0.mk (Bx.below Xa.out hb_)
   have qaa := Bx.c0 Xa.out
   have qba := Bx.c1 Xa.out
   replace Xz := Aside0.mk (Bx.below Xz.out hb_)
   replace HB := Aside0.mk (below_step HB.out hb_)
   clear hb_
   generalize wa4.drew = wa5 at *
   refine pure_ (i := 0) (N := some 15) (v := ?_) (a' := ?_) #[true, false, false, false, false, false, false, false, false, false] rfl rfl (by kernel_rfl) (fun _ _ _ h => h) (Or.inl ⟨by rfl, ?_⟩) ?_ ?_
   rotate_left
   ·intro w'
    go_simp
    with_reducible rfl
   rotate_left
   ·simp only [Act.put, List.setIfInBounds_toArray, List.set_cons_zero, List.set_cons_succ, i64_w, i32_w]
    rfl
   refine take_ (i := 1) (N := some 16) (v := ?_) (a' := ?_) #[true, true, false, false, false, false, false, false, false, false] rfl rfl (by kernel_rfl) (fun _ _ _ h => h) (Or.inl ⟨by rfl, ?_⟩) hHeld ?_ ?_
   rotate_left
   ·rintro w' ⟨s0, s1⟩
    go_simp
    with_reducible rfl
   rotate_left
   ·simp only [Act.put, List.setIfInBounds_toArray, List.set_cons_zero, List.set_cons_succ, i64_w, i32_w]
    rfl
   refine pure_ (i := 2) (N := some 17) (v := ?_) (a' := ?_) #[true, true, true, false, false, false, false, false, false, false] rfl rfl (by kernel_rfl) (fun _ _ _ h => h) (Or.inl ⟨by rfl, ?_⟩) ?_ ?_
   rotate_left
   ·intro w'
    go_simp
    with_reducible rfl
   rotate_left
   ·simp only [Act.put, List.setIfInBounds_toArray, List.set_cons_zero, List.set_cons_succ, i64_w, i32_w]
    rfl
   refine take_ (i := 3) (N := some 18) (v := ?_) (a' := ?_) #[true, true, true, true, false, false, false, false, false, false] rfl rfl (by kernel_rfl) (fun _ _ _ h => h) (Or.inl ⟨by rfl, ?_⟩) hHeld ?_ ?_
   rotate_left
   ·rintro w' ⟨s0, s1⟩
    go_simp
    with_reducible rfl
   rotate_left
   ·simp only [Act.put, List.setIfInBounds_toArray, List.set_cons_zero, List.set_cons_succ, i64_w, i32_w]
    rfl
   refine pure_ (i := 5) (N := some 20) (v := ?_) (a' := ?_) #[true, true, true, true, false, true, false, false, false, false] rfl rfl (by kernel_rfl) (fun _ _ _ h => h) (Or.inl ⟨by rfl, ?_⟩) ?_ ?_
   rotate_left
   ·intro w'
    go_simp
    with_reducible rfl
   rotate_left
   ·simp only [Act.put, List.setIfInBounds_toArray, List.set_cons_zero, List.set_cons_succ, i64_w, i32_w]
    rfl
   refine take_ (i := 6) (N := some 21) (v := ?_) (a' := ?_) #[true, true, true, true, false, true, true, false, false, false] rfl rfl (by kernel_rfl) (fun _ _ _ h => h) (Or.inl ⟨by rfl, ?_⟩) hHeld ?_ ?_
   rotate_left
   ·rintro w' ⟨s0, s1⟩
    go_simp
    with_reducible rfl
   rotate_left
   ·simp only [Act.put, List.setIfInBounds_toArray, List.set_cons_zero, List.set_cons_succ, i64_w, i32_w]
    rfl
   refine one_ (i := 4) (N := some 19) #[true, true, true, true, true, true, true, false, false, false] rfl rfl (by kernel_rfl) (by decide) (fun K hK => ?_)
   refine goes_ Tryd.func39 (by kernel_rfl) rfl #[.slice A1 d.length c1, .slice A0 l0.length c0] (by rfl) rfl rfl (by (try simp only [List.map_toArray, List.map_cons, List.map_nil]); first | done | rfl) ?_
   refine (lineageref03_Sub.calls 500 A1 c1 d A0 c0 l0 n wa5 C1.out H1.out C0.out H0.out hSu.out).mono ?_
   rintro e wa6 ⟨v_, rfl, hr_, hb_⟩
   replace C0 := Aside0.mk (Kd.C_below C0.out hb_)
   replace C1 := Aside0.mk (Kd.C_below C1.out hb_)
   clear qaa qba
   replace Xa := Aside0.mk (Bx.below Xa.out hb_)
   have qaa := Bx.c0 Xa.out
   have qba := Bx.c1 Xa.out
   replace Xz := Aside0.mk (Bx.below Xz.out hb_)
   replace HB := Aside0.mk (below_step HB.out hb_)
   obtain ⟨As, cs, rfl⟩ := Kd.V_slice hr_
   have Cs := Aside0.mk (Kd.V_reads' hr_).2.2
   have Hs := Aside0.mk (show n.length ≤ cs from (Kd.V_reads' hr_).2.1)
   clear hr_ hb_
   refine ⟨_, rfl, ?_⟩
   clear hHeld
   refine hK.out _ _ ⟨qaa, qba⟩ (fun hHeld => ?_)
   clear hK K
   refine norm_ (a' := ?_) ?_ ?_
   rotate_left
   ·show Act.put _ (some 19) _ = _
    simp only [Act.put, List.setIfInBounds_toArray, List.set_cons_zero, List.set_cons_succ, i64_w, i32_w]
    rfl
   refine pure_ (i := 7) (N := some 22) (v := ?_) (a' := ?_) #[true, true, true, true, true, true, true, true, false, false] rfl rfl (by kernel_rfl) (fun _ _ _ h => h) (Or.inl ⟨by rfl, ?_⟩) ?_ ?_
   rotate_left
   ·intro w'
    go_simp
    with_reducible rfl
   rotate_left
   ·simp only [Act.put, List.setIfInBounds_toArray, List.set_cons_zero, List.set_cons_succ, i64_w, i32_w]
    rfl
   have qaz := Bx.c0 Xz.out
   have qbz := Bx.c1 Xz.out
   have qcz := Bx.f0 Xz.out
   have qdz := Bx.f1 Xz.out
   refine last_ (i := 8) (N := none) #[true, true, true, true, true, true, true, true, true, false] rfl rfl (by kernel_rfl) (by decide) (fun K hK => ?_)
   refine skip_ (w1 := ?_) (by rfl) rfl ?_ ?_
   rotate_left
   ·go_simp
    first | rfl | exact ⟨rfl, rfl⟩
   refine hK.out _ _ ?_
   clear hK K
   refine pure_ (i := 9) (N := some 3) (v := ?_) (a' := ?_) #[true, true, true, true, true, true, true, true, true, true] rfl rfl (by kernel_rfl) (fun _ _ _ h => h) (Or.inl ⟨by rfl, ?_⟩) ?_ ?_
   rotate_left
   ·intro w'
    go_simp
    with_reducible rfl
   rotate_left
   ·simp only [Act.put, List.setIfInBounds_toArray, List.set_cons_zero, List.set_cons_succ, i64_w, i32_w]
    rfl
   refine done_ (by kernel_rfl) ?_
   clear qaa qba
   go_wp2_with fail
   refine bodyPost_ret (results_cell48t rfl rfl (Bx.store Xz.out (.slice As n.length cs) (.slice A1 d.length c1))) rfl ?_
   exact Rat2.intro ⟨_, _, _, _, rfl, C_store Xz.out Cs.out _ _, Hs.out, C_store Xz.out C1.out _ _, H1.out, below_set (below_set HB.out Sz.out) Sz.out⟩
  ·clear hBad hGood
   have hCm := Aside0.mk hC
   clear hgt hS hC
   go_wp2_with fail
   refine (lineageref03_Compare.calls 200 A0 c0 l0 A1 c1 l1 1 wa3 C0.out H0.out C1.out H1.out hCm.out).mono ?_
   rintro e wa4 ⟨rfl, hd_⟩
   have hb_ := hd_.below
   replace C0 := Aside0.mk (Kd.C_below C0.out hb_)
   replace C1 := Aside0.mk (Kd.C_below C1.out hb_)
   clear qaa qba
   replace Xa := Aside0.mk (Bx.below Xa.out hb_)
   have qaa := Bx.c0 Xa.out
   have qba := Bx.c1 Xa.out
   replace Xz := Aside0.mk (Bx.below Xz.out hb_)
   replace HB := Aside0.mk (below_step HB.out hb_)
   clear hb_ hd_
   have Cn := Aside0.mk (nilC wa4)
   have Hn := Aside0.mk (Nat.le_refl 0)
   clear qaa qba
   have qaz := Bx.c0 Xz.out
   have qbz := Bx.c1 Xz.out
   have qcz := Bx.f0 Xz.out
   have qdz := Bx.f1 Xz.out
   go_wp2_with fail
   refine bodyPost_ret (results_cell48t rfl rfl (Bx.store Xz.out (.slice none 0 0) (.slice none 0 0))) rfl ?_
   exact Rat2.intro ⟨_, _, _, _, rfl, C_store Xz.out Cn.out _ _, Hn.out, C_store Xz.out Cn.out _ _, Hn.out, below_set (below_set HB.out Sz.out) Sz.out⟩

end Go.Proofs.YtoakfjcejamoeaaDoor.B
