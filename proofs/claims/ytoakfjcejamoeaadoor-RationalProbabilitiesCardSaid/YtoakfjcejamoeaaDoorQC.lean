/- The contract of rational.Add. -/
import Derived.Test.YtoakfjcejamoeaaDoorQB
namespace Go.Proofs.YtoakfjcejamoeaaDoor.B
open Go.RowKit Go.Proofs.YtoakfjcejamoeaaDoorW.PrintWords Go.Proofs.YtoakfjcejamoeaaDoorW.PrintLast Go.Proofs.YtoakfjcejamoeaaDoorW.PrintMore
set_option exponentiation.threshold 8200
set_option linter.unusedVariables false
set_option linter.unusedSimpArgs false
set_option maxHeartbeats 16000000 in
set_option maxRecDepth 100000 in
/-- Add. -/
theorem ratAdd_calls (A0 : Option Addr) (c0 : Nat) (l0 : List Int) (A1 : Option Addr) (c1 : Nat) (l1 : List Int) (A2 : Option Addr) (c2 : Nat) (l2 : List Int) (A3 : Option Addr) (c3 : Nat) (l3 : List Int) (n d : List Int) (ec : Int) (w : World) (hr0 : Kd.C (Kd.int .u32) w A0 l0.length l0) (hc0 : l0.length ≤ c0) (hr1 : Kd.C (Kd.int .u32) w A1 l1.length l1) (hc1 : l1.length ≤ c1) (hr2 : Kd.C (Kd.int .u32) w A2 l2.length l2) (hc2 : l2.length ≤ c2) (hr3 : Kd.C (Kd.int .u32) w A3 l3.length l3) (hc3 : l3.length ≤ c3)  (L0 : Bn.Limbs l0) (L1 : Bn.Limbs l1) (L2 : Bn.Limbs l2) (L3 : Bn.Limbs l3) (h : addR l0 l1 l2 l3 = ((n, d), ec)) :
  Calls Tryd.prog 48 #[.agg #[.slice A0 l0.length c0, .slice A1 l1.length c1], .agg #[.slice A2 l2.length c2, .slice A3 l3.length c3]] w fun e_ w' => Rat2 n d ec w e_ w' := by
 have C0 := Aside0.mk hr0
 have H0 := Aside0.mk hc0
 clear hr0 hc0
 have C1 := Aside0.mk hr1
 have H1 := Aside0.mk hc1
 clear hr1 hc1
 have C2 := Aside0.mk hr2
 have H2 := Aside0.mk hc2
 clear hr2 hc2
 have C3 := Aside0.mk hr3
 have H3 := Aside0.mk hc3
 clear hr3 hc3
 have HB := Aside0.mk (Below.refl w.heap.size w)
 obtain ⟨p0, hp0⟩ : ∃ p, p = ratB l0 l1 := ⟨_, rfl⟩
 obtain ⟨p1, hp1⟩ : ∃ p, p = ratB l2 l3 := ⟨_, rfl⟩
 have hP0 := Aside0.mk hp0
 have hP1 := Aside0.mk hp1
 have hL := Aside0.mk (show Bn.Limbs l0 ∧ Bn.Limbs l1 ∧ Bn.Limbs l2 ∧ Bn.Limbs l3 from ⟨L0, L1, L2, L3⟩)
 have hBad := Aside0.mk (show ¬ (p0 = true ∧ p1 = true) → n = [] ∧ d = [] ∧ ec = 1 from fun hn => by
   unfold addR at h
   rw [hp0, hp1] at hn
   rw [if_neg hn] at h
   injection h with h1 h2
   injection h1 with h1 h3
   exact ⟨h1.symm, h3.symm, h2.symm⟩)
 have hGood := Aside0.mk (show p0 = true → p1 = true → _ from fun h0 h1 => addR_facts L0 L1 L2 L3 h (hp0 ▸ h0) (hp1 ▸ h1))
 clear hp0 hp1 h L0 L1 L2 L3
 go_enter Tryd.func48, Tryd.ntmps48
 go_wp2_with (first | ((with_reducible refine gate_dst (N := 2) rfl ?_); (try (refine gate_guard (by rfl) ?_; dsimp only)); refine box_event ?hg (N := 2) ?hd (.slice A0 l0.length c0) (.slice A1 l1.length c1) ?hr ?_; (case hd => rfl); (case hg => rfl); (case hr => first | (go_simp; done) | (go_simp; rfl)); intro ba wa1 hx_ hs_ hb_; skip; have Sa := Aside0.mk (Nat.le_trans (below_size HB.out) hs_); have Xa := Aside0.mk hx_; replace C0 := Aside0.mk (Kd.C_below C0.out hb_); replace C1 := Aside0.mk (Kd.C_below C1.out hb_); replace C2 := Aside0.mk (Kd.C_below C2.out hb_); replace C3 := Aside0.mk (Kd.C_below C3.out hb_); replace HB := Aside0.mk (below_step HB.out hb_); have qaa := Bx.c0 Xa.out; have qba := Bx.c1 Xa.out; clear hb_ hx_ hs_) | ((with_reducible refine gate_dst (N := 3) rfl ?_); (try (refine gate_guard (by rfl) ?_; dsimp only)); refine box_event ?hg (N := 3) ?hd (.slice A2 l2.length c2) (.slice A3 l3.length c3) ?hr ?_; (case hd => rfl); (case hg => rfl); (case hr => first | (go_simp; done) | (go_simp; rfl)); intro bb wa2 hx_ hs_ hb_; skip; have Sb := Aside0.mk (Nat.le_trans (below_size HB.out) hs_); have Xb := Aside0.mk hx_; replace C0 := Aside0.mk (Kd.C_below C0.out hb_); replace C1 := Aside0.mk (Kd.C_below C1.out hb_); replace C2 := Aside0.mk (Kd.C_below C2.out hb_); replace C3 := Aside0.mk (Kd.C_below C3.out hb_); clear qaa qba; replace Xa := Aside0.mk (Bx.below Xa.out hb_); have qaa := Bx.c0 Xa.out; have qba := Bx.c1 Xa.out; replace HB := Aside0.mk (below_step HB.out hb_); have qab := Bx.c0 Xb.out; have qbb := Bx.c1 Xb.out; clear hb_ hx_ hs_) | ((with_reducible refine gate_dst (N := 4) rfl ?_); (try (refine gate_guard (by rfl) ?_; dsimp only)); refine box_event ?hg (N := 4) ?hd (.slice none 0 0) (.slice none 0 0) ?hr ?_; (case hd => rfl); (case hg => rfl); (case hr => first | (go_simp; done) | (go_simp; rfl)); intro bz wa3 hx_ hs_ hb_; skip; have Sz := Aside0.mk (Nat.le_trans (below_size HB.out) hs_); have Xz := Aside0.mk hx_; replace C0 := Aside0.mk (Kd.C_below C0.out hb_); replace C1 := Aside0.mk (Kd.C_below C1.out hb_); replace C2 := Aside0.mk (Kd.C_below C2.out hb_); replace C3 := Aside0.mk (Kd.C_below C3.out hb_); clear qaa qba; replace Xa := Aside0.mk (Bx.below Xa.out hb_); have qaa := Bx.c0 Xa.out; have qba := Bx.c1 Xa.out; clear qab qbb; replace Xb := Aside0.mk (Bx.below Xb.out hb_); have qab := Bx.c0 Xb.out; have qbb := Bx.c1 Xb.out; replace HB := Aside0.mk (below_step HB.out hb_); skip; clear hb_ hx_ hs_))
 refine (ratValid_calls A0 c0 l0 A1 c1 l1 p0 wa3 C0.out H0.out C1.out H1.out hL.out.1 hL.out.2.1 hP0.out).mono ?_
 rintro e wa4 ⟨rfl, hb_⟩
 replace C0 := Aside0.mk (Kd.C_below C0.out hb_)
 replace C1 := Aside0.mk (Kd.C_below C1.out hb_)
 replace C2 := Aside0.mk (Kd.C_below C2.out hb_)
 replace C3 := Aside0.mk (Kd.C_below C3.out hb_)
 clear qaa qba
 replace Xa := Aside0.mk (Bx.below Xa.out hb_)
 have qaa := Bx.c0 Xa.out
 have qba := Bx.c1 Xa.out
 clear qab qbb
 replace Xb := Aside0.mk (Bx.below Xb.out hb_)
 have qab := Bx.c0 Xb.out
 have qbb := Bx.c1 Xb.out
 replace Xz := Aside0.mk (Bx.below Xz.out hb_)
 replace HB := Aside0.mk (below_step HB.out hb_)
 clear hb_
 cases p0 with
 | false =>
  obtain ⟨rfl, rfl, rfl⟩ := hBad.out (by simp)
  have Cn := Aside0.mk (nilC wa4)
  have Hn := Aside0.mk (Nat.le_refl 0)
  clear qaa qba
  clear qab qbb
  have qaz := Bx.c0 Xz.out
  have qbz := Bx.c1 Xz.out
  have qcz := Bx.f0 Xz.out
  have qdz := Bx.f1 Xz.out
  go_wp2_with fail
  refine bodyPost_ret (results_cell48t rfl rfl (Bx.store Xz.out (.slice none 0 0) (.slice none 0 0))) rfl ?_
  exact Rat2.intro ⟨_, _, _, _, rfl, C_store Xz.out Cn.out _ _, Hn.out, C_store Xz.out Cn.out _ _, Hn.out, below_set (below_set HB.out Sz.out) Sz.out⟩
 | true =>
  go_wp2_with fail
  refine (ratValid_calls A2 c2 l2 A3 c3 l3 p1 wa4 C2.out H2.out C3.out H3.out hL.out.2.2.1 hL.out.2.2.2 hP1.out).mono ?_
  rintro e wa5 ⟨rfl, hb_⟩
  replace C0 := Aside0.mk (Kd.C_below C0.out hb_)
  replace C1 := Aside0.mk (Kd.C_below C1.out hb_)
  replace C2 := Aside0.mk (Kd.C_below C2.out hb_)
  replace C3 := Aside0.mk (Kd.C_below C3.out hb_)
  clear qaa qba
  replace Xa := Aside0.mk (Bx.below Xa.out hb_)
  have qaa := Bx.c0 Xa.out
  have qba := Bx.c1 Xa.out
  clear qab qbb
  replace Xb := Aside0.mk (Bx.below Xb.out hb_)
  have qab := Bx.c0 Xb.out
  have qbb := Bx.c1 Xb.out
  replace Xz := Aside0.mk (Bx.below Xz.out hb_)
  replace HB := Aside0.mk (below_step HB.out hb_)
  clear hb_
  cases p1 with
  | false =>
   obtain ⟨rfl, rfl, rfl⟩ := hBad.out (by simp)
   have Cn := Aside0.mk (nilC wa5)
   have Hn := Aside0.mk (Nat.le_refl 0)
   clear qaa qba
   clear qab qbb
   have qaz := Bx.c0 Xz.out
   have qbz := Bx.c1 Xz.out
   have qcz := Bx.f0 Xz.out
   have qdz := Bx.f1 Xz.out
   go_wp2_with fail
   refine bodyPost_ret (results_cell48t rfl rfl (Bx.store Xz.out (.slice none 0 0) (.slice none 0 0))) rfl ?_
   exact Rat2.intro ⟨_, _, _, _, rfl, C_store Xz.out Cn.out _ _, Hn.out, C_store Xz.out Cn.out _ _, Hn.out, below_set (below_set HB.out Sz.out) Sz.out⟩
  | true =>
   obtain ⟨n0, e0, n1, e1, n2, e2, ok, m0, m1, m2, hok, hF, hT⟩ := hGood.out (by trivial) (by trivial)
   have M0 := Aside0.mk m0
   have M1 := Aside0.mk m1
   have M2 := Aside0.mk m2
   have hOk := Aside0.mk hok
   have hFa := Aside0.mk hF
   have hTr := Aside0.mk hT
   clear m0 m1 m2 hok hF hT hGood hBad
   go_wp2_with (first | ((with_reducible refine gate_dst (N := 35) rfl ?_); (try (refine gate_guard (by rfl) ?_; dsimp only)); refine pairs_event ?hg (N := 35) ?hd #[.slice A0 l0.length c0, .slice A3 l3.length c3, .slice A2 l2.length c2, .slice A1 l1.length c1, .slice A1 l1.length c1, .slice A3 l3.length c3] 3 ?hr ?_; (case hd => rfl); (case hg => rfl); (case hr => first | (go_simp; done) | (go_simp; rfl)); intro bps wa6 hp_ hb_; replace C0 := Aside0.mk (Kd.C_below C0.out hb_); replace C1 := Aside0.mk (Kd.C_below C1.out hb_); replace C2 := Aside0.mk (Kd.C_below C2.out hb_); replace C3 := Aside0.mk (Kd.C_below C3.out hb_); clear qaa qba; replace Xa := Aside0.mk (Bx.below Xa.out hb_); have qaa := Bx.c0 Xa.out; have qba := Bx.c1 Xa.out; clear qab qbb; replace Xb := Aside0.mk (Bx.below Xb.out hb_); have qab := Bx.c0 Xb.out; have qbb := Bx.c1 Xb.out; replace Xz := Aside0.mk (Bx.below Xz.out hb_); replace HB := Aside0.mk (below_step HB.out hb_); have Pps := Aside0.mk hp_; clear hp_ hb_))
   clear qaa qba
   clear qab qbb
   refine (products3_calls A0 c0 l0 A3 c3 l3 A2 c2 l2 A1 c1 l1 A1 c1 l1 A3 c3 l3 n0 e0 n1 e1 n2 e2 ok bps wa6 C0.out H0.out C3.out H3.out M0.out C2.out H2.out C1.out H1.out M1.out C1.out H1.out C3.out H3.out M2.out hOk.out Pps.out).mono ?_
   rintro e wa7 ⟨hS_, hF_, hb_⟩
   replace C0 := Aside0.mk (Kd.C_below C0.out hb_)
   replace C1 := Aside0.mk (Kd.C_below C1.out hb_)
   replace C2 := Aside0.mk (Kd.C_below C2.out hb_)
   replace C3 := Aside0.mk (Kd.C_below C3.out hb_)
   replace Xa := Aside0.mk (Bx.below Xa.out hb_)
   replace Xb := Aside0.mk (Bx.below Xb.out hb_)
   replace Xz := Aside0.mk (Bx.below Xz.out hb_)
   replace HB := Aside0.mk (below_step HB.out hb_)
   clear hb_ Pps
   cases ok with
   | false =>
    obtain rfl := hF_ rfl
    clear hF_ hS_
    obtain ⟨rfl, rfl, rfl⟩ := hFa.out (by trivial)
    have Cn := Aside0.mk (nilC wa7)
    have Hn := Aside0.mk (Nat.le_refl 0)
    have qaz := Bx.c0 Xz.out
    have qbz := Bx.c1 Xz.out
    have qcz := Bx.f0 Xz.out
    have qdz := Bx.f1 Xz.out
    go_wp2_with fail
    refine bodyPost_ret (results_cell48t rfl rfl (Bx.store Xz.out (.slice none 0 0) (.slice none 0 0))) rfl ?_
    exact Rat2.intro ⟨_, _, _, _, rfl, C_store Xz.out Cn.out _ _, Hn.out, C_store Xz.out Cn.out _ _, Hn.out, below_set (below_set HB.out Sz.out) Sz.out⟩
   | true =>
    obtain ⟨v_, An0, cn0, An1, cn1, An2, cn2, rfl, ho_, ⟨hCn0_, hHn0_⟩, ⟨hCn1_, hHn1_⟩, ⟨hCn2_, hHn2_⟩⟩ := hS_ rfl
    clear hS_ hF_
    have Cn0 := Aside0.mk hCn0_
    have Hn0 := Aside0.mk hHn0_
    clear hCn0_ hHn0_
    have Cn1 := Aside0.mk hCn1_
    have Hn1 := Aside0.mk hHn1_
    clear hCn1_ hHn1_
    have Cn2 := Aside0.mk hCn2_
    have Hn2 := Aside0.mk hHn2_
    clear hCn2_ hHn2_
    obtain ⟨g_, cap_, rfl⟩ := own_slice ho_ (by decide)
    have O := Aside0.mk ho_
    have hcap : 3 ≤ cap_ := own_le ho_
    clear ho_
    have oc0 := own_cell O.out (i := 0) rfl
    have oc1 := own_cell O.out (i := 1) rfl
    have oc2 := own_cell O.out (i := 2) rfl
    obtain ⟨s, es, t0, t1, t2⟩ := hTr.out (by trivial)
    have hA := Aside0.mk t0
    have hX := Aside0.mk t1
    have hY := Aside0.mk t2
    clear t0 t1 t2 hTr hFa hOk
    go_wp2_with fail
    have hb_ : Below wa7.heap.size wa7 wa7.drew := below_drew1 (Below.refl _ _)
    have hSd_ : (fun w' : World => w'.cell? ⟨g_, 0, none⟩ = some (.slice An0 n0.length cn0) ∧ w'.cell? ⟨g_, 1, none⟩ = some (.slice An1 n1.length cn1)) wa7.drew := ⟨oc0, oc1⟩
    refine start_ (n := 12) (S := fun w' => w'.cell? ⟨g_, 0, none⟩ = some (.slice An0 n0.length cn0) ∧ w'.cell? ⟨g_, 1, none⟩ = some (.slice An1 n1.length cn1)) (ds := [6]) #[false, false, false, false, false, false, false, false, false, false, false, false] (by kernel_rfl) rfl rfl hSd_ (fun hHeld => ?_)
    clear hSd_
    replace O := Aside0.mk (own_row_below O.out hb_)
    clear oc0
    clear oc1
    clear oc2
    replace C0 := Aside0.mk (Kd.C_below C0.out hb_)
    replace C1 := Aside0.mk (Kd.C_below C1.out hb_)
    replace C2 := Aside0.mk (Kd.C_below C2.out hb_)
    replace C3 := Aside0.mk (Kd.C_below C3.out hb_)
    replace Cn0 := Aside0.mk (Kd.C_below Cn0.out hb_)
    replace Cn1 := Aside0.mk (Kd.C_below Cn1.out hb_)
    replace Cn2 := Aside0.mk (Kd.C_below Cn2.out hb_)
    replace Xa := Aside0.mk (Bx.below Xa.out hb_)
    replace Xb := Aside0.mk (Bx.below Xb.out hb_)
    replace Xz := Aside0.mk (Bx.below Xz.out hb_)
    replace HB := Aside0.mk (below_step HB.out hb_)
    have oc0 := own_cell O.out (i := 0) rfl
    have oc1 := own_cell O.out (i := 1) rfl
    have oc2 := own_cell O.out (i := 2) rfl
    clear hb_
    generalize wa7.drew = wa8 at *
    refine pure_ (i := 0) (N := some 43) (v := ?_) (a' := ?_) #[true, false, false, false, false, false, false, false, false, false, false, false] rfl rfl (by kernel_rfl) (fun _ _ _ h => h) (Or.inl ⟨by rfl, ?_⟩) ?_ ?_
    rotate_left
    ·intro w'
     go_simp
     with_reducible rfl
    rotate_left
    ·simp only [Act.put, List.setIfInBounds_toArray, List.set_cons_zero, List.set_cons_succ, i64_w, i32_w]
     rfl
    refine pure_ (i := 1) (N := some 44) (v := ?_) (a' := ?_) #[true, true, false, false, false, false, false, false, false, false, false, false] rfl rfl (by kernel_rfl) (fun _ _ _ h => h) (Or.inl ⟨by rfl, ?_⟩) ?_ ?_
    rotate_left
    ·intro w'
     go_simp
     with_reducible rfl
    rotate_left
    ·simp only [Act.put, List.setIfInBounds_toArray, List.set_cons_zero, List.set_cons_succ, i64_w, i32_w]
     rfl
    refine take_ (i := 2) (N := some 45) (v := ?_) (a' := ?_) #[true, true, true, false, false, false, false, false, false, false, false, false] rfl rfl (by kernel_rfl) (fun _ _ _ h => h) (Or.inl ⟨by rfl, ?_⟩) hHeld ?_ ?_
    rotate_left
    ·rintro w' ⟨s0, s1⟩
     go_simp
     with_reducible rfl
    rotate_left
    ·simp only [Act.put, List.setIfInBounds_toArray, List.set_cons_zero, List.set_cons_succ, i64_w, i32_w]
     rfl
    refine pure_ (i := 3) (N := some 46) (v := ?_) (a' := ?_) #[true, true, true, true, false, false, false, false, false, false, false, false] rfl rfl (by kernel_rfl) (fun _ _ _ h => h) (Or.inl ⟨by rfl, ?_⟩) ?_ ?_
    rotate_left
    ·intro w'
     go_simp
     with_reducible rfl
    rotate_left
    ·simp only [Act.put, List.setIfInBounds_toArray, List.set_cons_zero, List.set_cons_succ, i64_w, i32_w]
     rfl
    refine pure_ (i := 4) (N := some 47) (v := ?_) (a' := ?_) #[true, true, true, true, true, false, false, false, false, false, false, false] rfl rfl (by kernel_rfl) (fun _ _ _ h => h) (Or.inl ⟨by rfl, ?_⟩) ?_ ?_
    rotate_left
    ·intro w'
     go_simp
     with_reducible rfl
    rotate_left
    ·simp only [Act.put, List.setIfInBounds_toArray, List.set_cons_zero, List.set_cons_succ, i64_w, i32_w]
     rfl
    refine take_ (i := 5) (N := some 48) (v := ?_) (a' := ?_) #[true, true, true, true, true, true, false, false, false, false, false, false] rfl rfl (by kernel_rfl) (fun _ _ _ h => h) (Or.inl ⟨by rfl, ?_⟩) hHeld ?_ ?_
    rotate_left
    ·rintro w' ⟨s0, s1⟩
     go_simp
     with_reducible rfl
    rotate_left
    ·simp only [Act.put, List.setIfInBounds_toArray, List.set_cons_zero, List.set_cons_succ, i64_w, i32_w]
     rfl
    refine last_ (i := 6) (N := some 49) #[true, true, true, true, true, true, true, false, false, false, false, false] rfl rfl (by kernel_rfl) (by decide) (fun K hK => ?_)
    refine goes_ Tryd.func25 (by kernel_rfl) rfl #[.slice An0 n0.length cn0, .slice An1 n1.length cn1] (by rfl) rfl rfl (by (try simp only [List.map_toArray, List.map_cons, List.map_nil]); first | done | rfl) ?_
    refine (bignat_Add.calls An0 cn0 n0 An1 cn1 n1 s es wa8 Cn0.out Hn0.out Cn1.out Hn1.out hA.out).mono ?_
    rintro e wa9 ⟨v_, rfl, hr_, hb_⟩
    replace O := Aside0.mk (own_row_below O.out hb_)
    clear oc0
    clear oc1
    clear oc2
    replace C0 := Aside0.mk (Kd.C_below C0.out hb_)
    replace C1 := Aside0.mk (Kd.C_below C1.out hb_)
    replace C2 := Aside0.mk (Kd.C_below C2.out hb_)
    replace C3 := Aside0.mk (Kd.C_below C3.out hb_)
    replace Cn0 := Aside0.mk (Kd.C_below Cn0.out hb_)
    replace Cn1 := Aside0.mk (Kd.C_below Cn1.out hb_)
    replace Cn2 := Aside0.mk (Kd.C_below Cn2.out hb_)
    replace Xa := Aside0.mk (Bx.below Xa.out hb_)
    replace Xb := Aside0.mk (Bx.below Xb.out hb_)
    replace Xz := Aside0.mk (Bx.below Xz.out hb_)
    replace HB := Aside0.mk (below_step HB.out hb_)
    have oc0 := own_cell O.out (i := 0) rfl
    have oc1 := own_cell O.out (i := 1) rfl
    have oc2 := own_cell O.out (i := 2) rfl
    obtain ⟨As, cs, rfl⟩ := Kd.R_slice hr_
    have Cs := Aside0.mk (Kd.R_reads' hr_).2.2
    have Hs := Aside0.mk (show s.length ≤ cs from (Kd.R_reads' hr_).2.1)
    clear hr_ hb_
    refine ⟨_, rfl, ?_⟩
    refine hK.out _ _ ?_
    clear hK K
    refine norm_ (a' := ?_) ?_ ?_
    rotate_left
    ·show Act.put _ (some 49) _ = _
     simp only [Act.put, List.setIfInBounds_toArray, List.set_cons_zero, List.set_cons_succ, i64_w, i32_w]
     rfl
    refine pure_ (i := 7) (N := some 42) (v := ?_) (a' := ?_) #[true, true, true, true, true, true, true, true, false, false, false, false] rfl rfl (by kernel_rfl) (fun _ _ _ h => h) (Or.inl ⟨by rfl, ?_⟩) ?_ ?_
    rotate_left
    ·intro w'
     go_simp
     with_reducible rfl
    rotate_left
    ·simp only [Act.put, List.setIfInBounds_toArray, List.set_cons_zero, List.set_cons_succ, i64_w, i32_w]
     rfl
    refine pure_ (i := 8) (N := some 50) (v := ?_) (a' := ?_) #[true, true, true, true, true, true, true, true, true, false, false, false] rfl rfl (by kernel_rfl) (fun _ _ _ h => h) (Or.inl ⟨by rfl, ?_⟩) ?_ ?_
    rotate_left
    ·intro w'
     go_simp
     with_reducible rfl
    rotate_left
    ·simp only [Act.put, List.setIfInBounds_toArray, List.set_cons_zero, List.set_cons_succ, i64_w, i32_w]
     rfl
    refine pure_ (i := 9) (N := some 51) (v := ?_) (a' := ?_) #[true, true, true, true, true, true, true, true, true, true, false, false] rfl rfl (by kernel_rfl) (fun _ _ _ h => h) (Or.inl ⟨by rfl, ?_⟩) ?_ ?_
    rotate_left
    ·intro w'
     go_simp
     with_reducible rfl
    rotate_left
    ·simp only [Act.put, List.setIfInBounds_toArray, List.set_cons_zero, List.set_cons_succ, i64_w, i32_w]
     rfl
    refine pure_ (i := 10) (N := some 8) (v := ?_) (a' := ?_) #[true, true, true, true, true, true, true, true, true, true, true, false] rfl rfl (by kernel_rfl) (fun _ _ _ h => h) (Or.inl ⟨by rfl, ?_⟩) ?_ ?_
    rotate_left
    ·intro w'
     go_simp
     with_reducible rfl
    rotate_left
    ·simp only [Act.put, List.setIfInBounds_toArray, List.set_cons_zero, List.set_cons_succ, i64_w, i32_w]
     rfl
    refine pure_ (i := 11) (N := some 9) (v := ?_) (a' := ?_) #[true, true, true, true, true, true, true, true, true, true, true, true] rfl rfl (by kernel_rfl) (fun _ _ _ h => h) (Or.inl ⟨by rfl, ?_⟩) ?_ ?_
    rotate_left
    ·intro w'
     go_simp
     with_reducible rfl
    rotate_left
    ·simp only [Act.put, List.setIfInBounds_toArray, List.set_cons_zero, List.set_cons_succ, i64_w, i32_w]
     rfl
    refine done_ (by kernel_rfl) ?_
    by_cases hes : es = 0
    ·obtain rfl := hes
     have hN := Aside0.mk (hY.out (by trivial))
     clear hX hY
     go_wp2_with fail
     refine (ratNew_calls As cs s An2 cn2 n2 n d ec wa9 Cs.out Hs.out Cn2.out Hn2.out hN.out.1 hN.out.2.1 hN.out.2.2).mono ?_
     rintro e wa10 ⟨Aq, cq, Ae, ce, rfl, hCq_, hHq_, hCe_, hHe_, hb_⟩
     replace O := Aside0.mk (own_row_below O.out hb_)
     clear oc0
     clear oc1
     clear oc2
     replace C0 := Aside0.mk (Kd.C_below C0.out hb_)
     replace C1 := Aside0.mk (Kd.C_below C1.out hb_)
     replace C2 := Aside0.mk (Kd.C_below C2.out hb_)
     replace C3 := Aside0.mk (Kd.C_below C3.out hb_)
     replace Cn0 := Aside0.mk (Kd.C_below Cn0.out hb_)
     replace Cn1 := Aside0.mk (Kd.C_below Cn1.out hb_)
     replace Cn2 := Aside0.mk (Kd.C_below Cn2.out hb_)
     replace Cs := Aside0.mk (Kd.C_below Cs.out hb_)
     replace Xa := Aside0.mk (Bx.below Xa.out hb_)
     replace Xb := Aside0.mk (Bx.below Xb.out hb_)
     replace Xz := Aside0.mk (Bx.below Xz.out hb_)
     replace HB := Aside0.mk (below_step HB.out hb_)
     have oc0 := own_cell O.out (i := 0) rfl
     have oc1 := own_cell O.out (i := 1) rfl
     have oc2 := own_cell O.out (i := 2) rfl
     have Cq := Aside0.mk hCq_
     have Hq := Aside0.mk hHq_
     clear hCq_ hHq_
     have Ce := Aside0.mk hCe_
     have He := Aside0.mk hHe_
     clear hCe_ hHe_
     clear hb_
     clear oc0 oc1 oc2
     have qaz := Bx.c0 Xz.out
     have qbz := Bx.c1 Xz.out
     have qcz := Bx.f0 Xz.out
     have qdz := Bx.f1 Xz.out
     go_wp2_with fail
     refine bodyPost_ret (results_cell48t rfl rfl (Bx.store Xz.out (.slice Aq n.length cq) (.slice Ae d.length ce))) rfl ?_
     exact Rat2.intro ⟨_, _, _, _, rfl, C_store Xz.out Cq.out _ _, Hq.out, C_store Xz.out Ce.out _ _, He.out, below_set (below_set HB.out Sz.out) Sz.out⟩
    ·obtain ⟨rfl, rfl, rfl⟩ := hX.out hes
     have hz : (ec != 0) = true := bne_iff_ne.2 hes
     have hz1 : (ec == 0) = false := beq_eq_false_iff_ne.2 hes
     have Cn := Aside0.mk (nilC wa9)
     have Hn := Aside0.mk (Nat.le_refl 0)
     clear oc0 oc1 oc2
     have qaz := Bx.c0 Xz.out
     have qbz := Bx.c1 Xz.out
     have qcz := Bx.f0 Xz.out
     have qdz := Bx.f1 Xz.out
     go_wp2_with fail
     refine bodyPost_ret (results_cell48t rfl rfl (Bx.store Xz.out (.slice none 0 0) (.slice none 0 0))) rfl ?_
     exact Rat2.intro ⟨_, _, _, _, rfl, C_store Xz.out Cn.out _ _, Hn.out, C_store Xz.out Cn.out _ _, Hn.out, below_set (below_set HB.out Sz.out) Sz.out⟩

end Go.Proofs.YtoakfjcejamoeaaDoor.B
