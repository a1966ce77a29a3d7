/- The walk of the law RationalArithmetic. -/
import Derived.Test.YtoakfjcejamoeaaDoorQF
import Derived.Test.YtoakfjcejamoeaaDoorQD
import Derived.Test.YtoakfjcejamoeaaDoorQR
namespace Go.Proofs.YtoakfjcejamoeaaDoor.B
open Go.RowKit Go.Proofs.YtoakfjcejamoeaaDoorW.PrintWords Go.Proofs.YtoakfjcejamoeaaDoorW.PrintLast Go.Proofs.YtoakfjcejamoeaaDoorW.PrintMore
set_option exponentiation.threshold 8200
set_option linter.unusedVariables false
set_option linter.unusedSimpArgs false
set_option maxHeartbeats 16000000 in
set_option maxRecDepth 100000 in
/-- RationalArithmetic. -/
theorem arithLaw (A0 : Option Addr) (c0 : Nat) (l0 : List Int) (A1 : Option Addr) (c1 : Nat) (l1 : List Int) (A2 : Option Addr) (c2 : Nat) (l2 : List Int) (A3 : Option Addr) (c3 : Nat) (l3 : List Int)  (w : World) (hr0 : Kd.C (Kd.int .u32) w A0 l0.length l0) (hc0 : l0.length ≤ c0) (hr1 : Kd.C (Kd.int .u32) w A1 l1.length l1) (hc1 : l1.length ≤ c1) (hr2 : Kd.C (Kd.int .u32) w A2 l2.length l2) (hc2 : l2.length ≤ c2) (hr3 : Kd.C (Kd.int .u32) w A3 l3.length l3) (hc3 : l3.length ≤ c3) (ht_ : Tab w) (L0 : Bn.Limbs l0) (L1 : Bn.Limbs l1) (L2 : Bn.Limbs l2) (L3 : Bn.Limbs l3) :
  Calls Tryd.prog 13 #[.agg #[.slice A0 l0.length c0, .slice A1 l1.length c1], .agg #[.slice A2 l2.length c2, .slice A3 l3.length c3]] w fun e w' => e = .returned (.bool true) ∧ Below w.heap.size w w' := by
 have HT_ := Aside0.mk ht_
 clear ht_
 have C0 := Aside0.mk hr0
 have H0 := Aside0.mk hc0
 clear hr0 hc0
 have C1 := Aside0.mk hr1
 have H1 := Aside0.mk hc1
 clear hr1 hc1
 have C2 := Aside0.mk hr2
 have H2 := Aside0.mk hc2
 clear hr2 hc2
 have C3 := Aside0.mk hr3
 have H3 := Aside0.mk hc3
 clear hr3 hc3
 have HB := Aside0.mk (Below.refl w.heap.size w)
 obtain ⟨f0, hq0⟩ : ∃ f, f = (decide ((l0.length : Int) ≤ 4) && decide ((l1.length : Int) ≤ 4)) := ⟨_, rfl⟩
 obtain ⟨f1, hq1⟩ : ∃ f, f = (decide ((l2.length : Int) ≤ 4) && decide ((l3.length : Int) ≤ 4)) := ⟨_, rfl⟩
 have hf0 := Aside0.mk hq0
 have hf1 := Aside0.mk hq1
 obtain ⟨⟨⟨xn, xd⟩, xe⟩, hx⟩ : ∃ t, t = addR l0 l1 l2 l3 := ⟨_, rfl⟩
 obtain ⟨⟨⟨yn, yd⟩, ye⟩, hy⟩ : ∃ t, t = mulR l0 l1 l2 l3 := ⟨_, rfl⟩
 obtain ⟨⟨⟨zn, zd⟩, ze⟩, hz⟩ : ∃ t, t = compR l0 l1 := ⟨_, rfl⟩
 have Zx := Aside0.mk (addR_len hx.symm)
 have Zy := Aside0.mk (mulR_len hy.symm)
 have Zz := Aside0.mk (compR_len L0 L1 hz.symm)
 have hX := Aside0.mk hx.symm
 have hY := Aside0.mk hy.symm
 have hZ := Aside0.mk hz.symm
 have hL := Aside0.mk (show Bn.Limbs l0 ∧ Bn.Limbs l1 ∧ Bn.Limbs l2 ∧ Bn.Limbs l3 from ⟨L0, L1, L2, L3⟩)
 clear hq0 hq1 hx hy hz L0 L1 L2 L3
 go_enter Tryd.func13, Tryd.ntmps13
 go_wp2_with (first | ((with_reducible refine gate_dst (N := 2) rfl ?_); (try (refine gate_guard (by rfl) ?_; dsimp only)); refine box_event ?hg (N := 2) ?hd (.slice A0 l0.length c0) (.slice A1 l1.length c1) ?hr ?_; (case hd => rfl); (case hg => rfl); (case hr => first | (go_simp; done) | (go_simp; rfl)); intro ba wa1 hx_ hs_ hb_; skip; have Sa := Aside0.mk (Nat.le_trans (below_size HB.out) hs_); have Xa := Aside0.mk hx_; replace C0 := Aside0.mk (Kd.C_below C0.out hb_); replace C1 := Aside0.mk (Kd.C_below C1.out hb_); replace C2 := Aside0.mk (Kd.C_below C2.out hb_); replace C3 := Aside0.mk (Kd.C_below C3.out hb_); replace HB := Aside0.mk (below_step HB.out hb_); have qaa := Bx.c0 Xa.out; have qba := Bx.c1 Xa.out; clear hb_ hx_ hs_) | ((with_reducible refine gate_dst (N := 3) rfl ?_); (try (refine gate_guard (by rfl) ?_; dsimp only)); refine box_event ?hg (N := 3) ?hd (.slice A2 l2.length c2) (.slice A3 l3.length c3) ?hr ?_; (case hd => rfl); (case hg => rfl); (case hr => first | (go_simp; done) | (go_simp; rfl)); intro bb wa2 hx_ hs_ hb_; have Nab := Aside0.mk (Bx.ne Xa.out hs_); skip; have Sb := Aside0.mk (Nat.le_trans (below_size HB.out) hs_); have Xb := Aside0.mk hx_; replace C0 := Aside0.mk (Kd.C_below C0.out hb_); replace C1 := Aside0.mk (Kd.C_below C1.out hb_); replace C2 := Aside0.mk (Kd.C_below C2.out hb_); replace C3 := Aside0.mk (Kd.C_below C3.out hb_); clear qaa qba; replace Xa := Aside0.mk (Bx.below Xa.out hb_); have qaa := Bx.c0 Xa.out; have qba := Bx.c1 Xa.out; replace HB := Aside0.mk (below_step HB.out hb_); have qab := Bx.c0 Xb.out; have qbb := Bx.c1 Xb.out; clear hb_ hx_ hs_))
 refine (awake10_calls wa2 (HT_.out.below HB.out)).mono ?_
 rintro e wa3 ⟨rfl, hb_⟩
 replace C0 := Aside0.mk (Kd.C_below C0.out hb_)
 replace C1 := Aside0.mk (Kd.C_below C1.out hb_)
 replace C2 := Aside0.mk (Kd.C_below C2.out hb_)
 replace C3 := Aside0.mk (Kd.C_below C3.out hb_)
 clear qaa qba
 replace Xa := Aside0.mk (Bx.below Xa.out hb_)
 have qaa := Bx.c0 Xa.out
 have qba := Bx.c1 Xa.out
 clear qab qbb
 replace Xb := Aside0.mk (Bx.below Xb.out hb_)
 have qab := Bx.c0 Xb.out
 have qbb := Bx.c1 Xb.out
 replace HB := Aside0.mk (below_step HB.out hb_)
 clear hb_
 go_wp2_with (first | ((with_reducible refine gate_dst (N := 21) rfl ?_); (try (refine gate_guard (by rfl) ?_; dsimp only)); refine rats_event ?hg (N := 21) ?hd #[.slice A0 l0.length c0, .slice A1 l1.length c1, .slice A2 l2.length c2, .slice A3 l3.length c3] 2 ?hr ?_; (case hd => rfl); (case hg => rfl); (case hr => first | (go_simp; done) | (go_simp; rfl)); intro blt wa4 hp_ hb_; replace C0 := Aside0.mk (Kd.C_below C0.out hb_); replace C1 := Aside0.mk (Kd.C_below C1.out hb_); replace C2 := Aside0.mk (Kd.C_below C2.out hb_); replace C3 := Aside0.mk (Kd.C_below C3.out hb_); clear qaa qba; replace Xa := Aside0.mk (Bx.below Xa.out hb_); have qaa := Bx.c0 Xa.out; have qba := Bx.c1 Xa.out; clear qab qbb; replace Xb := Aside0.mk (Bx.below Xb.out hb_); have qab := Bx.c0 Xb.out; have qbb := Bx.c1 Xb.out; replace HB := Aside0.mk (below_step HB.out hb_); have Plt := Aside0.mk hp_; clear hp_ hb_))
 refine (light2_calls A0 c0 l0 A1 c1 l1 f0 A2 c2 l2 A3 c3 l3 f1 blt wa4 hf0.out hf1.out Plt.out).mono ?_
 rintro e wa5 ⟨rfl, hb_⟩
 replace C0 := Aside0.mk (Kd.C_below C0.out hb_)
 replace C1 := Aside0.mk (Kd.C_below C1.out hb_)
 replace C2 := Aside0.mk (Kd.C_below C2.out hb_)
 replace C3 := Aside0.mk (Kd.C_below C3.out hb_)
 clear qaa qba
 replace Xa := Aside0.mk (Bx.below Xa.out hb_)
 have qaa := Bx.c0 Xa.out
 have qba := Bx.c1 Xa.out
 clear qab qbb
 replace Xb := Aside0.mk (Bx.below Xb.out hb_)
 have qab := Bx.c0 Xb.out
 have qbb := Bx.c1 Xb.out
 replace HB := Aside0.mk (below_step HB.out hb_)
 clear hb_
 clear Plt
 cases f0 with
 | false =>
  go_wp2_with fail
  go_ret
  exact ⟨rfl, HB.out⟩
 | true =>
  cases f1 with
  | false =>
   go_wp2_with fail
   go_ret
   exact ⟨rfl, HB.out⟩
  | true =>
   go_wp2_with fail
   refine (ratAdd_calls A0 c0 l0 A1 c1 l1 A2 c2 l2 A3 c3 l3 xn xd xe wa5 C0.out H0.out C1.out H1.out C2.out H2.out C3.out H3.out hL.out.1 hL.out.2.1 hL.out.2.2.1 hL.out.2.2.2 hX.out).mono ?_
   rintro e wa6 ⟨Axn, cxn, Axd, cxd, rfl, hCxn_, hHxn_, hCxd_, hHxd_, hb_⟩
   replace C0 := Aside0.mk (Kd.C_below C0.out hb_)
   replace C1 := Aside0.mk (Kd.C_below C1.out hb_)
   replace C2 := Aside0.mk (Kd.C_below C2.out hb_)
   replace C3 := Aside0.mk (Kd.C_below C3.out hb_)
   clear qaa qba
   replace Xa := Aside0.mk (Bx.below Xa.out hb_)
   have qaa := Bx.c0 Xa.out
   have qba := Bx.c1 Xa.out
   clear qab qbb
   replace Xb := Aside0.mk (Bx.below Xb.out hb_)
   have qab := Bx.c0 Xb.out
   have qbb := Bx.c1 Xb.out
   replace HB := Aside0.mk (below_step HB.out hb_)
   have Cxn := Aside0.mk hCxn_
   have Hxn := Aside0.mk hHxn_
   clear hCxn_ hHxn_
   have Cxd := Aside0.mk hCxd_
   have Hxd := Aside0.mk hHxd_
   clear hCxd_ hHxd_
   clear hb_
   go_wp2_with (first | ((with_reducible refine gate_dst (N := 5) rfl ?_); (try (refine gate_guard (by rfl) ?_; dsimp only)); refine box_event ?hg (N := 5) ?hd (.slice none 0 0) (.slice none 0 0) ?hr ?_; (case hd => rfl); (case hg => rfl); (case hr => first | (go_simp; done) | (go_simp; rfl)); intro bq1 wa7 hx_ hs_ hb_; have Naq1 := Aside0.mk (Bx.ne Xa.out hs_); have Nbq1 := Aside0.mk (Bx.ne Xb.out hs_); skip; have Sq1 := Aside0.mk (Nat.le_trans (below_size HB.out) hs_); have Xq1 := Aside0.mk hx_; replace C0 := Aside0.mk (Kd.C_below C0.out hb_); replace C1 := Aside0.mk (Kd.C_below C1.out hb_); replace C2 := Aside0.mk (Kd.C_below C2.out hb_); replace C3 := Aside0.mk (Kd.C_below C3.out hb_); replace Cxn := Aside0.mk (Kd.C_below Cxn.out hb_); replace Cxd := Aside0.mk (Kd.C_below Cxd.out hb_); clear qaa qba; replace Xa := Aside0.mk (Bx.below Xa.out hb_); have qaa := Bx.c0 Xa.out; have qba := Bx.c1 Xa.out; clear qab qbb; replace Xb := Aside0.mk (Bx.below Xb.out hb_); have qab := Bx.c0 Xb.out; have qbb := Bx.c1 Xb.out; replace HB := Aside0.mk (below_step HB.out hb_); have qaq1 := Bx.c0 Xq1.out; have qbq1 := Bx.c1 Xq1.out; have qcq1 := Bx.f0 Xq1.out; have qdq1 := Bx.f1 Xq1.out; clear hb_ hx_ hs_) | (refine store_event (by rfl) (by rfl) Xq1.out (.slice Axn xn.length cxn) (.slice Axd xd.length cxd) ?hr ?_; (case hr => first | (go_simp; done) | (go_simp; rfl)); intro wa8 he_ hx_; replace C0 := Aside0.mk (C_store Xq1.out C0.out (.slice Axn xn.length cxn) (.slice Axd xd.length cxd)); replace C1 := Aside0.mk (C_store Xq1.out C1.out (.slice Axn xn.length cxn) (.slice Axd xd.length cxd)); replace C2 := Aside0.mk (C_store Xq1.out C2.out (.slice Axn xn.length cxn) (.slice Axd xd.length cxd)); replace C3 := Aside0.mk (C_store Xq1.out C3.out (.slice Axn xn.length cxn) (.slice Axd xd.length cxd)); replace Cxn := Aside0.mk (C_store Xq1.out Cxn.out (.slice Axn xn.length cxn) (.slice Axd xd.length cxd)); replace Cxd := Aside0.mk (C_store Xq1.out Cxd.out (.slice Axn xn.length cxn) (.slice Axd xd.length cxd)); clear qaa qba; replace Xa := Aside0.mk (Bx.other Xa.out Naq1.out (.slice Axn xn.length cxn) (.slice Axd xd.length cxd)); clear qab qbb; replace Xb := Aside0.mk (Bx.other Xb.out Nbq1.out (.slice Axn xn.length cxn) (.slice Axd xd.length cxd)); clear qaq1 qbq1; clear qcq1 qdq1; replace HB := Aside0.mk (below_set (j := 1) (v := (.slice Axd xd.length cxd)) (below_set (j := 0) (v := (.slice Axn xn.length cxn)) HB.out Sq1.out) Sq1.out); clear Xq1; have Xq1 := Aside0.mk hx_; have qaa := Bx.c0 Xa.out; have qba := Bx.c1 Xa.out; have qab := Bx.c0 Xb.out; have qbb := Bx.c1 Xb.out; have qaq1 := Bx.c0 Xq1.out; have qbq1 := Bx.c1 Xq1.out; have qcq1 := Bx.f0 Xq1.out; have qdq1 := Bx.f1 Xq1.out; generalize (wa7.setCell ⟨bq1, 0, none⟩ (.slice Axn xn.length cxn)).setCell ⟨bq1, 1, none⟩ (.slice Axd xd.length cxd) = wg_ at *; subst he_; clear hx_))
   refine (ratMul_calls A0 c0 l0 A1 c1 l1 A2 c2 l2 A3 c3 l3 yn yd ye wa8 C0.out H0.out C1.out H1.out C2.out H2.out C3.out H3.out hL.out.1 hL.out.2.1 hL.out.2.2.1 hL.out.2.2.2 hY.out).mono ?_
   rintro e wa9 ⟨Ayn, cyn, Ayd, cyd, rfl, hCyn_, hHyn_, hCyd_, hHyd_, hb_⟩
   replace C0 := Aside0.mk (Kd.C_below C0.out hb_)
   replace C1 := Aside0.mk (Kd.C_below C1.out hb_)
   replace C2 := Aside0.mk (Kd.C_below C2.out hb_)
   replace C3 := Aside0.mk (Kd.C_below C3.out hb_)
   replace Cxn := Aside0.mk (Kd.C_below Cxn.out hb_)
   replace Cxd := Aside0.mk (Kd.C_below Cxd.out hb_)
   clear qaa qba
   replace Xa := Aside0.mk (Bx.below Xa.out hb_)
   have qaa := Bx.c0 Xa.out
   have qba := Bx.c1 Xa.out
   clear qab qbb
   replace Xb := Aside0.mk (Bx.below Xb.out hb_)
   have qab := Bx.c0 Xb.out
   have qbb := Bx.c1 Xb.out
   clear qaq1 qbq1
   clear qcq1 qdq1
   replace Xq1 := Aside0.mk (Bx.below Xq1.out hb_)
   have qaq1 := Bx.c0 Xq1.out
   have qbq1 := Bx.c1 Xq1.out
   have qcq1 := Bx.f0 Xq1.out
   have qdq1 := Bx.f1 Xq1.out
   replace HB := Aside0.mk (below_step HB.out hb_)
   have Cyn := Aside0.mk hCyn_
   have Hyn := Aside0.mk hHyn_
   clear hCyn_ hHyn_
   have Cyd := Aside0.mk hCyd_
   have Hyd := Aside0.mk hHyd_
   clear hCyd_ hHyd_
   clear hb_
   go_wp2_with (first | ((with_reducible refine gate_dst (N := 7) rfl ?_); (try (refine gate_guard (by rfl) ?_; dsimp only)); refine box_event ?hg (N := 7) ?hd (.slice none 0 0) (.slice none 0 0) ?hr ?_; (case hd => rfl); (case hg => rfl); (case hr => first | (go_simp; done) | (go_simp; rfl)); intro bq2 wa10 hx_ hs_ hb_; have Naq2 := Aside0.mk (Bx.ne Xa.out hs_); have Nbq2 := Aside0.mk (Bx.ne Xb.out hs_); have Nq1q2 := Aside0.mk (Bx.ne Xq1.out hs_); skip; have Sq2 := Aside0.mk (Nat.le_trans (below_size HB.out) hs_); have Xq2 := Aside0.mk hx_; replace C0 := Aside0.mk (Kd.C_below C0.out hb_); replace C1 := Aside0.mk (Kd.C_below C1.out hb_); replace C2 := Aside0.mk (Kd.C_below C2.out hb_); replace C3 := Aside0.mk (Kd.C_below C3.out hb_); replace Cxn := Aside0.mk (Kd.C_below Cxn.out hb_); replace Cxd := Aside0.mk (Kd.C_below Cxd.out hb_); replace Cyn := Aside0.mk (Kd.C_below Cyn.out hb_); replace Cyd := Aside0.mk (Kd.C_below Cyd.out hb_); clear qaa qba; replace Xa := Aside0.mk (Bx.below Xa.out hb_); have qaa := Bx.c0 Xa.out; have qba := Bx.c1 Xa.out; clear qab qbb; replace Xb := Aside0.mk (Bx.below Xb.out hb_); have qab := Bx.c0 Xb.out; have qbb := Bx.c1 Xb.out; clear qaq1 qbq1; clear qcq1 qdq1; replace Xq1 := Aside0.mk (Bx.below Xq1.out hb_); have qaq1 := Bx.c0 Xq1.out; have qbq1 := Bx.c1 Xq1.out; have qcq1 := Bx.f0 Xq1.out; have qdq1 := Bx.f1 Xq1.out; replace HB := Aside0.mk (below_step HB.out hb_); have qaq2 := Bx.c0 Xq2.out; have qbq2 := Bx.c1 Xq2.out; have qcq2 := Bx.f0 Xq2.out; have qdq2 := Bx.f1 Xq2.out; clear hb_ hx_ hs_) | (refine store_event (by rfl) (by rfl) Xq2.out (.slice Ayn yn.length cyn) (.slice Ayd yd.length cyd) ?hr ?_; (case hr => first | (go_simp; done) | (go_simp; rfl)); intro wa11 he_ hx_; replace C0 := Aside0.mk (C_store Xq2.out C0.out (.slice Ayn yn.length cyn) (.slice Ayd yd.length cyd)); replace C1 := Aside0.mk (C_store Xq2.out C1.out (.slice Ayn yn.length cyn) (.slice Ayd yd.length cyd)); replace C2 := Aside0.mk (C_store Xq2.out C2.out (.slice Ayn yn.length cyn) (.slice Ayd yd.length cyd)); replace C3 := Aside0.mk (C_store Xq2.out C3.out (.slice Ayn yn.length cyn) (.slice Ayd yd.length cyd)); replace Cxn := Aside0.mk (C_store Xq2.out Cxn.out (.slice Ayn yn.length cyn) (.slice Ayd yd.length cyd)); replace Cxd := Aside0.mk (C_store Xq2.out Cxd.out (.slice Ayn yn.length cyn) (.slice Ayd yd.length cyd)); replace Cyn := Aside0.mk (C_store Xq2.out Cyn.out (.slice Ayn yn.length cyn) (.slice Ayd yd.length cyd)); replace Cyd := Aside0.mk (C_store Xq2.out Cyd.out (.slice Ayn yn.length cyn) (.slice Ayd yd.length cyd)); clear qaa qba; replace Xa := Aside0.mk (Bx.other Xa.out Naq2.out (.slice Ayn yn.length cyn) (.slice Ayd yd.length cyd)); clear qab qbb; replace Xb := Aside0.mk (Bx.other Xb.out Nbq2.out (.slice Ayn yn.length cyn) (.slice Ayd yd.length cyd)); clear qaq1 qbq1; clear qcq1 qdq1; replace Xq1 := Aside0.mk (Bx.other Xq1.out Nq1q2.out (.slice Ayn yn.length cyn) (.slice Ayd yd.length cyd)); clear qaq2 qbq2; clear qcq2 qdq2; replace HB := Aside0.mk (below_set (j := 1) (v := (.slice Ayd yd.length cyd)) (below_set (j := 0) (v := (.slice Ayn yn.length cyn)) HB.out Sq2.out) Sq2.out); clear Xq2; have Xq2 := Aside0.mk hx_; have qaa := Bx.c0 Xa.out; have qba := Bx.c1 Xa.out; have qab := Bx.c0 Xb.out; have qbb := Bx.c1 Xb.out; have qaq1 := Bx.c0 Xq1.out; have qbq1 := Bx.c1 Xq1.out; have qcq1 := Bx.f0 Xq1.out; have qdq1 := Bx.f1 Xq1.out; have qaq2 := Bx.c0 Xq2.out; have qbq2 := Bx.c1 Xq2.out; have qcq2 := Bx.f0 Xq2.out; have qdq2 := Bx.f1 Xq2.out; generalize (wa10.setCell ⟨bq2, 0, none⟩ (.slice Ayn yn.length cyn)).setCell ⟨bq2, 1, none⟩ (.slice Ayd yd.length cyd) = wg_ at *; subst he_; clear hx_))
   refine (ratComp_calls A0 c0 l0 A1 c1 l1 zn zd ze wa11 C0.out H0.out C1.out H1.out hL.out.1 hL.out.2.1 hZ.out).mono ?_
   rintro e wa12 ⟨Azn, czn, Azd, czd, rfl, hCzn_, hHzn_, hCzd_, hHzd_, hb_⟩
   replace C0 := Aside0.mk (Kd.C_below C0.out hb_)
   replace C1 := Aside0.mk (Kd.C_below C1.out hb_)
   replace C2 := Aside0.mk (Kd.C_below C2.out hb_)
   replace C3 := Aside0.mk (Kd.C_below C3.out hb_)
   replace Cxn := Aside0.mk (Kd.C_below Cxn.out hb_)
   replace Cxd := Aside0.mk (Kd.C_below Cxd.out hb_)
   replace Cyn := Aside0.mk (Kd.C_below Cyn.out hb_)
   replace Cyd := Aside0.mk (Kd.C_below Cyd.out hb_)
   clear qaa qba
   replace Xa := Aside0.mk (Bx.below Xa.out hb_)
   have qaa := Bx.c0 Xa.out
   have qba := Bx.c1 Xa.out
   clear qab qbb
   replace Xb := Aside0.mk (Bx.below Xb.out hb_)
   have qab := Bx.c0 Xb.out
   have qbb := Bx.c1 Xb.out
   clear qaq1 qbq1
   clear qcq1 qdq1
   replace Xq1 := Aside0.mk (Bx.below Xq1.out hb_)
   have qaq1 := Bx.c0 Xq1.out
   have qbq1 := Bx.c1 Xq1.out
   have qcq1 := Bx.f0 Xq1.out
   have qdq1 := Bx.f1 Xq1.out
   clear qaq2 qbq2
   clear qcq2 qdq2
   replace Xq2 := Aside0.mk (Bx.below Xq2.out hb_)
   have qaq2 := Bx.c0 Xq2.out
   have qbq2 := Bx.c1 Xq2.out
   have qcq2 := Bx.f0 Xq2.out
   have qdq2 := Bx.f1 Xq2.out
   replace HB := Aside0.mk (below_step HB.out hb_)
   have Czn := Aside0.mk hCzn_
   have Hzn := Aside0.mk hHzn_
   clear hCzn_ hHzn_
   have Czd := Aside0.mk hCzd_
   have Hzd := Aside0.mk hHzd_
   clear hCzd_ hHzd_
   clear hb_
   go_wp2_with (first | ((with_reducible refine gate_dst (N := 9) rfl ?_); (try (refine gate_guard (by rfl) ?_; dsimp only)); refine box_event ?hg (N := 9) ?hd (.slice none 0 0) (.slice none 0 0) ?hr ?_; (case hd => rfl); (case hg => rfl); (case hr => first | (go_simp; done) | (go_simp; rfl)); intro bq3 wa13 hx_ hs_ hb_; have Naq3 := Aside0.mk (Bx.ne Xa.out hs_); have Nbq3 := Aside0.mk (Bx.ne Xb.out hs_); have Nq1q3 := Aside0.mk (Bx.ne Xq1.out hs_); have Nq2q3 := Aside0.mk (Bx.ne Xq2.out hs_); skip; have Sq3 := Aside0.mk (Nat.le_trans (below_size HB.out) hs_); have Xq3 := Aside0.mk hx_; replace C0 := Aside0.mk (Kd.C_below C0.out hb_); replace C1 := Aside0.mk (Kd.C_below C1.out hb_); replace C2 := Aside0.mk (Kd.C_below C2.out hb_); replace C3 := Aside0.mk (Kd.C_below C3.out hb_); replace Cxn := Aside0.mk (Kd.C_below Cxn.out hb_); replace Cxd := Aside0.mk (Kd.C_below Cxd.out hb_); replace Cyn := Aside0.mk (Kd.C_below Cyn.out hb_); replace Cyd := Aside0.mk (Kd.C_below Cyd.out hb_); replace Czn := Aside0.mk (Kd.C_below Czn.out hb_); replace Czd := Aside0.mk (Kd.C_below Czd.out hb_); clear qaa qba; replace Xa := Aside0.mk (Bx.below Xa.out hb_); have qaa := Bx.c0 Xa.out; have qba := Bx.c1 Xa.out; clear qab qbb; replace Xb := Aside0.mk (Bx.below Xb.out hb_); have qab := Bx.c0 Xb.out; have qbb := Bx.c1 Xb.out; clear qaq1 qbq1; clear qcq1 qdq1; replace Xq1 := Aside0.mk (Bx.below Xq1.out hb_); have qaq1 := Bx.c0 Xq1.out; have qbq1 := Bx.c1 Xq1.out; have qcq1 := Bx.f0 Xq1.out; have qdq1 := Bx.f1 Xq1.out; clear qaq2 qbq2; clear qcq2 qdq2; replace Xq2 := Aside0.mk (Bx.below Xq2.out hb_); have qaq2 := Bx.c0 Xq2.out; have qbq2 := Bx.c1 Xq2.out; have qcq2 := Bx.f0 Xq2.out; have qdq2 := Bx.f1 Xq2.out; replace HB := Aside0.mk (below_step HB.out hb_); have qaq3 := Bx.c0 Xq3.out; have qbq3 := Bx.c1 Xq3.out; have qcq3 := Bx.f0 Xq3.out; have qdq3 := Bx.f1 Xq3.out; clear hb_ hx_ hs_) | (refine store_event (by rfl) (by rfl) Xq3.out (.slice Azn zn.length czn) (.slice Azd zd.length czd) ?hr ?_; (case hr => first | (go_simp; done) | (go_simp; rfl)); intro wa14 he_ hx_; replace C0 := Aside0.mk (C_store Xq3.out C0.out (.slice Azn zn.length czn) (.slice Azd zd.length czd)); replace C1 := Aside0.mk (C_store Xq3.out C1.out (.slice Azn zn.length czn) (.slice Azd zd.length czd)); replace C2 := Aside0.mk (C_store Xq3.out C2.out (.slice Azn zn.length czn) (.slice Azd zd.length czd)); replace C3 := Aside0.mk (C_store Xq3.out C3.out (.slice Azn zn.length czn) (.slice Azd zd.length czd)); replace Cxn := Aside0.mk (C_store Xq3.out Cxn.out (.slice Azn zn.length czn) (.slice Azd zd.length czd)); replace Cxd := Aside0.mk (C_store Xq3.out Cxd.out (.slice Azn zn.length czn) (.slice Azd zd.length czd)); replace Cyn := Aside0.mk (C_store Xq3.out Cyn.out (.slice Azn zn.length czn) (.slice Azd zd.length czd)); replace Cyd := Aside0.mk (C_store Xq3.out Cyd.out (.slice Azn zn.length czn) (.slice Azd zd.length czd)); replace Czn := Aside0.mk (C_store Xq3.out Czn.out (.slice Azn zn.length czn) (.slice Azd zd.length czd)); replace Czd := Aside0.mk (C_store Xq3.out Czd.out (.slice Azn zn.length czn) (.slice Azd zd.length czd)); clear qaa qba; replace Xa := Aside0.mk (Bx.other Xa.out Naq3.out (.slice Azn zn.length czn) (.slice Azd zd.length czd)); clear qab qbb; replace Xb := Aside0.mk (Bx.other Xb.out Nbq3.out (.slice Azn zn.length czn) (.slice Azd zd.length czd)); clear qaq1 qbq1; clear qcq1 qdq1; replace Xq1 := Aside0.mk (Bx.other Xq1.out Nq1q3.out (.slice Azn zn.length czn) (.slice Azd zd.length czd)); clear qaq2 qbq2; clear qcq2 qdq2; replace Xq2 := Aside0.mk (Bx.other Xq2.out Nq2q3.out (.slice Azn zn.length czn) (.slice Azd zd.length czd)); clear qaq3 qbq3; clear qcq3 qdq3; replace HB := Aside0.mk (below_set (j := 1) (v := (.slice Azd zd.length czd)) (below_set (j := 0) (v := (.slice Azn zn.length czn)) HB.out Sq3.out) Sq3.out); clear Xq3; have Xq3 := Aside0.mk hx_; have qaa := Bx.c0 Xa.out; have qba := Bx.c1 Xa.out; have qab := Bx.c0 Xb.out; have qbb := Bx.c1 Xb.out; have qaq1 := Bx.c0 Xq1.out; have qbq1 := Bx.c1 Xq1.out; have qcq1 := Bx.f0 Xq1.out; have qdq1 := Bx.f1 Xq1.out; have qaq2 := Bx.c0 Xq2.out; have qbq2 := Bx.c1 Xq2.out; have qcq2 := Bx.f0 Xq2.out; have qdq2 := Bx.f1 Xq2.out; have qaq3 := Bx.c0 Xq3.out; have qbq3 := Bx.c1 Xq3.out; have qcq3 := Bx.f0 Xq3.out; have qdq3 := Bx.f1 Xq3.out; generalize (wa13.setCell ⟨bq3, 0, none⟩ (.slice Azn zn.length czn)).setCell ⟨bq3, 1, none⟩ (.slice Azd zd.length czd) = wg_ at *; subst he_; clear hx_))
   refine (refRatAdd_calls A0 c0 l0 A1 c1 l1 A2 c2 l2 A3 c3 l3 xn xd xe wa14 C0.out H0.out C1.out H1.out C2.out H2.out C3.out H3.out hL.out.1 hL.out.2.1 hL.out.2.2.1 hL.out.2.2.2 hX.out).mono ?_
   rintro e wa15 ⟨Aun, cun, Aud, cud, rfl, hCun_, hHun_, hCud_, hHud_, hb_⟩
   replace C0 := Aside0.mk (Kd.C_below C0.out hb_)
   replace C1 := Aside0.mk (Kd.C_below C1.out hb_)
   replace C2 := Aside0.mk (Kd.C_below C2.out hb_)
   replace C3 := Aside0.mk (Kd.C_below C3.out hb_)
   replace Cxn := Aside0.mk (Kd.C_below Cxn.out hb_)
   replace Cxd := Aside0.mk (Kd.C_below Cxd.out hb_)
   replace Cyn := Aside0.mk (Kd.C_below Cyn.out hb_)
   replace Cyd := Aside0.mk (Kd.C_below Cyd.out hb_)
   replace Czn := Aside0.mk (Kd.C_below Czn.out hb_)
   replace Czd := Aside0.mk (Kd.C_below Czd.out hb_)
   clear qaa qba
   replace Xa := Aside0.mk (Bx.below Xa.out hb_)
   have qaa := Bx.c0 Xa.out
   have qba := Bx.c1 Xa.out
   clear qab qbb
   replace Xb := Aside0.mk (Bx.below Xb.out hb_)
   have qab := Bx.c0 Xb.out
   have qbb := Bx.c1 Xb.out
   clear qaq1 qbq1
   clear qcq1 qdq1
   replace Xq1 := Aside0.mk (Bx.below Xq1.out hb_)
   have qaq1 := Bx.c0 Xq1.out
   have qbq1 := Bx.c1 Xq1.out
   have qcq1 := Bx.f0 Xq1.out
   have qdq1 := Bx.f1 Xq1.out
   clear qaq2 qbq2
   clear qcq2 qdq2
   replace Xq2 := Aside0.mk (Bx.below Xq2.out hb_)
   have qaq2 := Bx.c0 Xq2.out
   have qbq2 := Bx.c1 Xq2.out
   have qcq2 := Bx.f0 Xq2.out
   have qdq2 := Bx.f1 Xq2.out
   clear qaq3 qbq3
   clear qcq3 qdq3
   replace Xq3 := Aside0.mk (Bx.below Xq3.out hb_)
   have qaq3 := Bx.c0 Xq3.out
   have qbq3 := Bx.c1 Xq3.out
   have qcq3 := Bx.f0 Xq3.out
   have qdq3 := Bx.f1 Xq3.out
   replace HB := Aside0.mk (below_step HB.out hb_)
   have Cun := Aside0.mk hCun_
   have Hun := Aside0.mk hHun_
   clear hCun_ hHun_
   have Cud := Aside0.mk hCud_
   have Hud := Aside0.mk hHud_
   clear hCud_ hHud_
   clear hb_
   go_wp2_with (first | ((with_reducible refine gate_dst (N := 11) rfl ?_); (try (refine gate_guard (by rfl) ?_; dsimp only)); refine box_event ?hg (N := 11) ?hd (.slice none 0 0) (.slice none 0 0) ?hr ?_; (case hd => rfl); (case hg => rfl); (case hr => first | (go_simp; done) | (go_simp; rfl)); intro bq4 wa16 hx_ hs_ hb_; have Naq4 := Aside0.mk (Bx.ne Xa.out hs_); have Nbq4 := Aside0.mk (Bx.ne Xb.out hs_); have Nq1q4 := Aside0.mk (Bx.ne Xq1.out hs_); have Nq2q4 := Aside0.mk (Bx.ne Xq2.out hs_); have Nq3q4 := Aside0.mk (Bx.ne Xq3.out hs_); skip; have Sq4 := Aside0.mk (Nat.le_trans (below_size HB.out) hs_); have Xq4 := Aside0.mk hx_; replace C0 := Aside0.mk (Kd.C_below C0.out hb_); replace C1 := Aside0.mk (Kd.C_below C1.out hb_); replace C2 := Aside0.mk (Kd.C_below C2.out hb_); replace C3 := Aside0.mk (Kd.C_below C3.out hb_); replace Cxn := Aside0.mk (Kd.C_below Cxn.out hb_); replace Cxd := Aside0.mk (Kd.C_below Cxd.out hb_); replace Cyn := Aside0.mk (Kd.C_below Cyn.out hb_); replace Cyd := Aside0.mk (Kd.C_below Cyd.out hb_); replace Czn := Aside0.mk (Kd.C_below Czn.out hb_); replace Czd := Aside0.mk (Kd.C_below Czd.out hb_); replace Cun := Aside0.mk (Kd.C_below Cun.out hb_); replace Cud := Aside0.mk (Kd.C_below Cud.out hb_); clear qaa qba; replace Xa := Aside0.mk (Bx.below Xa.out hb_); have qaa := Bx.c0 Xa.out; have qba := Bx.c1 Xa.out; clear qab qbb; replace Xb := Aside0.mk (Bx.below Xb.out hb_); have qab := Bx.c0 Xb.out; have qbb := Bx.c1 Xb.out; clear qaq1 qbq1; clear qcq1 qdq1; replace Xq1 := Aside0.mk (Bx.below Xq1.out hb_); have qaq1 := Bx.c0 Xq1.out; have qbq1 := Bx.c1 Xq1.out; have qcq1 := Bx.f0 Xq1.out; have qdq1 := Bx.f1 Xq1.out; clear qaq2 qbq2; clear qcq2 qdq2; replace Xq2 := Aside0.mk (Bx.below Xq2.out hb_); have qaq2 := Bx.c0 Xq2.out; have qbq2 := Bx.c1 Xq2.out; have qcq2 := Bx.f0 Xq2.out; have qdq2 := Bx.f1 Xq2.out; clear qaq3 qbq3; clear qcq3 qdq3; replace Xq3 := Aside0.mk (Bx.below Xq3.out hb_); have qaq3 := Bx.c0 Xq3.out; have qbq3 := Bx.c1 Xq3.out; have qcq3 := Bx.f0 Xq3.out; have qdq3 := Bx.f1 Xq3.out; replace HB := Aside0.mk (below_step HB.out hb_); have qaq4 := Bx.c0 Xq4.out; have qbq4 := Bx.c1 Xq4.out; have qcq4 := Bx.f0 Xq4.out; have qdq4 := Bx.f1 Xq4.out; clear hb_ hx_ hs_) | (refine store_event (by rfl) (by rfl) Xq4.out (.slice Aun xn.length cun) (.slice Aud xd.length cud) ?hr ?_; (case hr => first | (go_simp; done) | (go_simp; rfl)); intro wa17 he_ hx_; replace C0 := Aside0.mk (C_store Xq4.out C0.out (.slice Aun xn.length cun) (.slice Aud xd.length cud)); replace C1 := Aside0.mk (C_store Xq4.out C1.out (.slice Aun xn.length cun) (.slice Aud xd.length cud)); replace C2 := Aside0.mk (C_store Xq4.out C2.out (.slice Aun xn.length cun) (.slice Aud xd.length cud)); replace C3 := Aside0.mk (C_store Xq4.out C3.out (.slice Aun xn.length cun) (.slice Aud xd.length cud)); replace Cxn := Aside0.mk (C_store Xq4.out Cxn.out (.slice Aun xn.length cun) (.slice Aud xd.length cud)); replace Cxd := Aside0.mk (C_store Xq4.out Cxd.out (.slice Aun xn.length cun) (.slice Aud xd.length cud)); replace Cyn := Aside0.mk (C_store Xq4.out Cyn.out (.slice Aun xn.length cun) (.slice Aud xd.length cud)); replace Cyd := Aside0.mk (C_store Xq4.out Cyd.out (.slice Aun xn.length cun) (.slice Aud xd.length cud)); replace Czn := Aside0.mk (C_store Xq4.out Czn.out (.slice Aun xn.length cun) (.slice Aud xd.length cud)); replace Czd := Aside0.mk (C_store Xq4.out Czd.out (.slice Aun xn.length cun) (.slice Aud xd.length cud)); replace Cun := Aside0.mk (C_store Xq4.out Cun.out (.slice Aun xn.length cun) (.slice Aud xd.length cud)); replace Cud := Aside0.mk (C_store Xq4.out Cud.out (.slice Aun xn.length cun) (.slice Aud xd.length cud)); clear qaa qba; replace Xa := Aside0.mk (Bx.other Xa.out Naq4.out (.slice Aun xn.length cun) (.slice Aud xd.length cud)); clear qab qbb; replace Xb := Aside0.mk (Bx.other Xb.out Nbq4.out (.slice Aun xn.length cun) (.slice Aud xd.length cud)); clear qaq1 qbq1; clear qcq1 qdq1; replace Xq1 := Aside0.mk (Bx.other Xq1.out Nq1q4.out (.slice Aun xn.length cun) (.slice Aud xd.length cud)); clear qaq2 qbq2; clear qcq2 qdq2; replace Xq2 := Aside0.mk (Bx.other Xq2.out Nq2q4.out (.slice Aun xn.length cun) (.slice Aud xd.length cud)); clear qaq3 qbq3; clear qcq3 qdq3; replace Xq3 := Aside0.mk (Bx.other Xq3.out Nq3q4.out (.slice Aun xn.length cun) (.slice Aud xd.length cud)); clear qaq4 qbq4; clear qcq4 qdq4; replace HB := Aside0.mk (below_set (j := 1) (v := (.slice Aud xd.length cud)) (below_set (j := 0) (v := (.slice Aun xn.length cun)) HB.out Sq4.out) Sq4.out); clear Xq4; have Xq4 := Aside0.mk hx_; have qaa := Bx.c0 Xa.out; have qba := Bx.c1 Xa.out; have qab := Bx.c0 Xb.out; have qbb := Bx.c1 Xb.out; have qaq1 := Bx.c0 Xq1.out; have qbq1 := Bx.c1 Xq1.out; have qcq1 := Bx.f0 Xq1.out; have qdq1 := Bx.f1 Xq1.out; have qaq2 := Bx.c0 Xq2.out; have qbq2 := Bx.c1 Xq2.out; have qcq2 := Bx.f0 Xq2.out; have qdq2 := Bx.f1 Xq2.out; have qaq3 := Bx.c0 Xq3.out; have qbq3 := Bx.c1 Xq3.out; have qcq3 := Bx.f0 Xq3.out; have qdq3 := Bx.f1 Xq3.out; have qaq4 := Bx.c0 Xq4.out; have qbq4 := Bx.c1 Xq4.out; have qcq4 := Bx.f0 Xq4.out; have qdq4 := Bx.f1 Xq4.out; generalize (wa16.setCell ⟨bq4, 0, none⟩ (.slice Aun xn.length cun)).setCell ⟨bq4, 1, none⟩ (.slice Aud xd.length cud) = wg_ at *; subst he_; clear hx_))
   refine (refRatMul_calls A0 c0 l0 A1 c1 l1 A2 c2 l2 A3 c3 l3 yn yd ye wa17 C0.out H0.out C1.out H1.out C2.out H2.out C3.out H3.out hL.out.1 hL.out.2.1 hL.out.2.2.1 hL.out.2.2.2 hY.out).mono ?_
   rintro e wa18 ⟨Avn, cvn, Avd, cvd, rfl, hCvn_, hHvn_, hCvd_, hHvd_, hb_⟩
   replace C0 := Aside0.mk (Kd.C_below C0.out hb_)
   replace C1 := Aside0.mk (Kd.C_below C1.out hb_)
   replace C2 := Aside0.mk (Kd.C_below C2.out hb_)
   replace C3 := Aside0.mk (Kd.C_below C3.out hb_)
   replace Cxn := Aside0.mk (Kd.C_below Cxn.out hb_)
   replace Cxd := Aside0.mk (Kd.C_below Cxd.out hb_)
   replace Cyn := Aside0.mk (Kd.C_below Cyn.out hb_)
   replace Cyd := Aside0.mk (Kd.C_below Cyd.out hb_)
   replace Czn := Aside0.mk (Kd.C_below Czn.out hb_)
   replace Czd := Aside0.mk (Kd.C_below Czd.out hb_)
   replace Cun := Aside0.mk (Kd.C_below Cun.out hb_)
   replace Cud := Aside0.mk (Kd.C_below Cud.out hb_)
   clear qaa qba
   replace Xa := Aside0.mk (Bx.below Xa.out hb_)
   have qaa := Bx.c0 Xa.out
   have qba := Bx.c1 Xa.out
   clear qab qbb
   replace Xb := Aside0.mk (Bx.below Xb.out hb_)
   have qab := Bx.c0 Xb.out
   have qbb := Bx.c1 Xb.out
   clear qaq1 qbq1
   clear qcq1 qdq1
   replace Xq1 := Aside0.mk (Bx.below Xq1.out hb_)
   have qaq1 := Bx.c0 Xq1.out
   have qbq1 := Bx.c1 Xq1.out
   have qcq1 := Bx.f0 Xq1.out
   have qdq1 := Bx.f1 Xq1.out
   clear qaq2 qbq2
   clear qcq2 qdq2
   replace Xq2 := Aside0.mk (Bx.below Xq2.out hb_)
   have qaq2 := Bx.c0 Xq2.out
   have qbq2 := Bx.c1 Xq2.out
   have qcq2 := Bx.f0 Xq2.out
   have qdq2 := Bx.f1 Xq2.out
   clear qaq3 qbq3
   clear qcq3 qdq3
   replace Xq3 := Aside0.mk (Bx.below Xq3.out hb_)
   have qaq3 := Bx.c0 Xq3.out
   have qbq3 := Bx.c1 Xq3.out
   have qcq3 := Bx.f0 Xq3.out
   have qdq3 := Bx.f1 Xq3.out
   clear qaq4 qbq4
   clear qcq4 qdq4
   replace Xq4 := Aside0.mk (Bx.below Xq4.out hb_)
   have qaq4 := Bx.c0 Xq4.out
   have qbq4 := Bx.c1 Xq4.out
   have qcq4 := Bx.f0 Xq4.out
   have qdq4 := Bx.f1 Xq4.out
   replace HB := Aside0.mk (below_step HB.out hb_)
   have Cvn := Aside0.mk hCvn_
   have Hvn := Aside0.mk hHvn_
   clear hCvn_ hHvn_
   have Cvd := Aside0.mk hCvd_
   have Hvd := Aside0.mk hHvd_
   clear hCvd_ hHvd_
   clear hb_
   go_wp2_with (first | ((with_reducible refine gate_dst (N := 13) rfl ?_); (try (refine gate_guard (by rfl) ?_; dsimp only)); refine box_event ?hg (N := 13) ?hd (.slice none 0 0) (.slice none 0 0) ?hr ?_; (case hd => rfl); (case hg => rfl); (case hr => first | (go_simp; done) | (go_simp; rfl)); intro bq5 wa19 hx_ hs_ hb_; have Naq5 := Aside0.mk (Bx.ne Xa.out hs_); have Nbq5 := Aside0.mk (Bx.ne Xb.out hs_); have Nq1q5 := Aside0.mk (Bx.ne Xq1.out hs_); have Nq2q5 := Aside0.mk (Bx.ne Xq2.out hs_); have Nq3q5 := Aside0.mk (Bx.ne Xq3.out hs_); have Nq4q5 := Aside0.mk (Bx.ne Xq4.out hs_); skip; have Sq5 := Aside0.mk (Nat.le_trans (below_size HB.out) hs_); have Xq5 := Aside0.mk hx_; replace C0 := Aside0.mk (Kd.C_below C0.out hb_); replace C1 := Aside0.mk (Kd.C_below C1.out hb_); replace C2 := Aside0.mk (Kd.C_below C2.out hb_); replace C3 := Aside0.mk (Kd.C_below C3.out hb_); replace Cxn := Aside0.mk (Kd.C_below Cxn.out hb_); replace Cxd := Aside0.mk (Kd.C_below Cxd.out hb_); replace Cyn := Aside0.mk (Kd.C_below Cyn.out hb_); replace Cyd := Aside0.mk (Kd.C_below Cyd.out hb_); replace Czn := Aside0.mk (Kd.C_below Czn.out hb_); replace Czd := Aside0.mk (Kd.C_below Czd.out hb_); replace Cun := Aside0.mk (Kd.C_below Cun.out hb_); replace Cud := Aside0.mk (Kd.C_below Cud.out hb_); replace Cvn := Aside0.mk (Kd.C_below Cvn.out hb_); replace Cvd := Aside0.mk (Kd.C_below Cvd.out hb_); clear qaa qba; replace Xa := Aside0.mk (Bx.below Xa.out hb_); have qaa := Bx.c0 Xa.out; have qba := Bx.c1 Xa.out; clear qab qbb; replace Xb := Aside0.mk (Bx.below Xb.out hb_); have qab := Bx.c0 Xb.out; have qbb := Bx.c1 Xb.out; clear qaq1 qbq1; clear qcq1 qdq1; replace Xq1 := Aside0.mk (Bx.below Xq1.out hb_); have qaq1 := Bx.c0 Xq1.out; have qbq1 := Bx.c1 Xq1.out; have qcq1 := Bx.f0 Xq1.out; have qdq1 := Bx.f1 Xq1.out; clear qaq2 qbq2; clear qcq2 qdq2; replace Xq2 := Aside0.mk (Bx.below Xq2.out hb_); have qaq2 := Bx.c0 Xq2.out; have qbq2 := Bx.c1 Xq2.out; have qcq2 := Bx.f0 Xq2.out; have qdq2 := Bx.f1 Xq2.out; clear qaq3 qbq3; clear qcq3 qdq3; replace Xq3 := Aside0.mk (Bx.below Xq3.out hb_); have qaq3 := Bx.c0 Xq3.out; have qbq3 := Bx.c1 Xq3.out; have qcq3 := Bx.f0 Xq3.out; have qdq3 := Bx.f1 Xq3.out; clear qaq4 qbq4; clear qcq4 qdq4; replace Xq4 := Aside0.mk (Bx.below Xq4.out hb_); have qaq4 := Bx.c0 Xq4.out; have qbq4 := Bx.c1 Xq4.out; have qcq4 := Bx.f0 Xq4.out; have qdq4 := Bx.f1 Xq4.out; replace HB := Aside0.mk (below_step HB.out hb_); have qaq5 := Bx.c0 Xq5.out; have qbq5 := Bx.c1 Xq5.out; have qcq5 := Bx.f0 Xq5.out; have qdq5 := Bx.f1 Xq5.out; clear hb_ hx_ hs_) | (refine store_event (by rfl) (by rfl) Xq5.out (.slice Avn yn.length cvn) (.slice Avd yd.length cvd) ?hr ?_; (case hr => first | (go_simp; done) | (go_simp; rfl)); intro wa20 he_ hx_; replace C0 := Aside0.mk (C_store Xq5.out C0.out (.slice Avn yn.length cvn) (.slice Avd yd.length cvd)); replace C1 := Aside0.mk (C_store Xq5.out C1.out (.slice Avn yn.length cvn) (.slice Avd yd.length cvd)); replace C2 := Aside0.mk (C_store Xq5.out C2.out (.slice Avn yn.length cvn) (.slice Avd yd.length cvd)); replace C3 := Aside0.mk (C_store Xq5.out C3.out (.slice Avn yn.length cvn) (.slice Avd yd.length cvd)); replace Cxn := Aside0.mk (C_store Xq5.out Cxn.out (.slice Avn yn.length cvn) (.slice Avd yd.length cvd)); replace Cxd := Aside0.mk (C_store Xq5.out Cxd.out (.slice Avn yn.length cvn) (.slice Avd yd.length cvd)); replace Cyn := Aside0.mk (C_store Xq5.out Cyn.out (.slice Avn yn.length cvn) (.slice Avd yd.length cvd)); replace Cyd := Aside0.mk (C_store Xq5.out Cyd.out (.slice Avn yn.length cvn) (.slice Avd yd.length cvd)); replace Czn := Aside0.mk (C_store Xq5.out Czn.out (.slice Avn yn.length cvn) (.slice Avd yd.length cvd)); replace Czd := Aside0.mk (C_store Xq5.out Czd.out (.slice Avn yn.length cvn) (.slice Avd yd.length cvd)); replace Cun := Aside0.mk (C_store Xq5.out Cun.out (.slice Avn yn.length cvn) (.slice Avd yd.length cvd)); replace Cud := Aside0.mk (C_store Xq5.out Cud.out (.slice Avn yn.length cvn) (.slice Avd yd.length cvd)); replace Cvn := Aside0.mk (C_store Xq5.out Cvn.out (.slice Avn yn.length cvn) (.slice Avd yd.length cvd)); replace Cvd := Aside0.mk (C_store Xq5.out Cvd.out (.slice Avn yn.length cvn) (.slice Avd yd.length cvd)); clear qaa qba; replace Xa := Aside0.mk (Bx.other Xa.out Naq5.out (.slice Avn yn.length cvn) (.slice Avd yd.length cvd)); clear qab qbb; replace Xb := Aside0.mk (Bx.other Xb.out Nbq5.out (.slice Avn yn.length cvn) (.slice Avd yd.length cvd)); clear qaq1 qbq1; clear qcq1 qdq1; replace Xq1 := Aside0.mk (Bx.other Xq1.out Nq1q5.out (.slice Avn yn.length cvn) (.slice Avd yd.length cvd)); clear qaq2 qbq2; clear qcq2 qdq2; replace Xq2 := Aside0.mk (Bx.other Xq2.out Nq2q5.out (.slice Avn yn.length cvn) (.slice Avd yd.length cvd)); clear qaq3 qbq3; clear qcq3 qdq3; replace Xq3 := Aside0.mk (Bx.other Xq3.out Nq3q5.out (.slice Avn yn.length cvn) (.slice Avd yd.length cvd)); clear qaq4 qbq4; clear qcq4 qdq4; replace Xq4 := Aside0.mk (Bx.other Xq4.out Nq4q5.out (.slice Avn yn.length cvn) (.slice Avd yd.length cvd)); clear qaq5 qbq5; clear qcq5 qdq5; replace HB := Aside0.mk (below_set (j := 1) (v := (.slice Avd yd.length cvd)) (below_set (j := 0) (v := (.slice Avn yn.length cvn)) HB.out Sq5.out) Sq5.out); clear Xq5; have Xq5 := Aside0.mk hx_; have qaa := Bx.c0 Xa.out; have qba := Bx.c1 Xa.out; have qab := Bx.c0 Xb.out; have qbb := Bx.c1 Xb.out; have qaq1 := Bx.c0 Xq1.out; have qbq1 := Bx.c1 Xq1.out; have qcq1 := Bx.f0 Xq1.out; have qdq1 := Bx.f1 Xq1.out; have qaq2 := Bx.c0 Xq2.out; have qbq2 := Bx.c1 Xq2.out; have qcq2 := Bx.f0 Xq2.out; have qdq2 := Bx.f1 Xq2.out; have qaq3 := Bx.c0 Xq3.out; have qbq3 := Bx.c1 Xq3.out; have qcq3 := Bx.f0 Xq3.out; have qdq3 := Bx.f1 Xq3.out; have qaq4 := Bx.c0 Xq4.out; have qbq4 := Bx.c1 Xq4.out; have qcq4 := Bx.f0 Xq4.out; have qdq4 := Bx.f1 Xq4.out; have qaq5 := Bx.c0 Xq5.out; have qbq5 := Bx.c1 Xq5.out; have qcq5 := Bx.f0 Xq5.out; have qdq5 := Bx.f1 Xq5.out; generalize (wa19.setCell ⟨bq5, 0, none⟩ (.slice Avn yn.length cvn)).setCell ⟨bq5, 1, none⟩ (.slice Avd yd.length cvd) = wg_ at *; subst he_; clear hx_))
   refine (refRatComp_calls A0 c0 l0 A1 c1 l1 zn zd ze wa20 C0.out H0.out C1.out H1.out hL.out.1 hL.out.2.1 hZ.out).mono ?_
   rintro e wa21 ⟨Awn, cwn, Awd, cwd, rfl, hCwn_, hHwn_, hCwd_, hHwd_, hb_⟩
   replace C0 := Aside0.mk (Kd.C_below C0.out hb_)
   replace C1 := Aside0.mk (Kd.C_below C1.out hb_)
   replace C2 := Aside0.mk (Kd.C_below C2.out hb_)
   replace C3 := Aside0.mk (Kd.C_below C3.out hb_)
   replace Cxn := Aside0.mk (Kd.C_below Cxn.out hb_)
   replace Cxd := Aside0.mk (Kd.C_below Cxd.out hb_)
   replace Cyn := Aside0.mk (Kd.C_below Cyn.out hb_)
   replace Cyd := Aside0.mk (Kd.C_below Cyd.out hb_)
   replace Czn := Aside0.mk (Kd.C_below Czn.out hb_)
   replace Czd := Aside0.mk (Kd.C_below Czd.out hb_)
   replace Cun := Aside0.mk (Kd.C_below Cun.out hb_)
   replace Cud := Aside0.mk (Kd.C_below Cud.out hb_)
   replace Cvn := Aside0.mk (Kd.C_below Cvn.out hb_)
   replace Cvd := Aside0.mk (Kd.C_below Cvd.out hb_)
   clear qaa qba
   replace Xa := Aside0.mk (Bx.below Xa.out hb_)
   have qaa := Bx.c0 Xa.out
   have qba := Bx.c1 Xa.out
   clear qab qbb
   replace Xb := Aside0.mk (Bx.below Xb.out hb_)
   have qab := Bx.c0 Xb.out
   have qbb := Bx.c1 Xb.out
   clear qaq1 qbq1
   clear qcq1 qdq1
   replace Xq1 := Aside0.mk (Bx.below Xq1.out hb_)
   have qaq1 := Bx.c0 Xq1.out
   have qbq1 := Bx.c1 Xq1.out
   have qcq1 := Bx.f0 Xq1.out
   have qdq1 := Bx.f1 Xq1.out
   clear qaq2 qbq2
   clear qcq2 qdq2
   replace Xq2 := Aside0.mk (Bx.below Xq2.out hb_)
   have qaq2 := Bx.c0 Xq2.out
   have qbq2 := Bx.c1 Xq2.out
   have qcq2 := Bx.f0 Xq2.out
   have qdq2 := Bx.f1 Xq2.out
   clear qaq3 qbq3
   clear qcq3 qdq3
   replace Xq3 := Aside0.mk (Bx.below Xq3.out hb_)
   have qaq3 := Bx.c0 Xq3.out
   have qbq3 := Bx.c1 Xq3.out
   have qcq3 := Bx.f0 Xq3.out
   have qdq3 := Bx.f1 Xq3.out
   clear qaq4 qbq4
   clear qcq4 qdq4
   replace Xq4 := Aside0.mk (Bx.below Xq4.out hb_)
   have qaq4 := Bx.c0 Xq4.out
   have qbq4 := Bx.c1 Xq4.out
   have qcq4 := Bx.f0 Xq4.out
   have qdq4 := Bx.f1 Xq4.out
   clear qaq5 qbq5
   clear qcq5 qdq5
   replace Xq5 := Aside0.mk (Bx.below Xq5.out hb_)
   have qaq5 := Bx.c0 Xq5.out
   have qbq5 := Bx.c1 Xq5.out
   have qcq5 := Bx.f0 Xq5.out
   have qdq5 := Bx.f1 Xq5.out
   replace HB := Aside0.mk (below_step HB.out hb_)
   have Cwn := Aside0.mk hCwn_
   have Hwn := Aside0.mk hHwn_
   clear hCwn_ hHwn_
   have Cwd := Aside0.mk hCwd_
   have Hwd := Aside0.mk hHwd_
   clear hCwd_ hHwd_
   clear hb_
   go_wp2_with (first | ((with_reducible refine gate_dst (N := 15) rfl ?_); (try (refine gate_guard (by rfl) ?_; dsimp only)); refine box_event ?hg (N := 15) ?hd (.slice none 0 0) (.slice none 0 0) ?hr ?_; (case hd => rfl); (case hg => rfl); (case hr => first | (go_simp; done) | (go_simp; rfl)); intro bq6 wa22 hx_ hs_ hb_; have Naq6 := Aside0.mk (Bx.ne Xa.out hs_); have Nbq6 := Aside0.mk (Bx.ne Xb.out hs_); have Nq1q6 := Aside0.mk (Bx.ne Xq1.out hs_); have Nq2q6 := Aside0.mk (Bx.ne Xq2.out hs_); have Nq3q6 := Aside0.mk (Bx.ne Xq3.out hs_); have Nq4q6 := Aside0.mk (Bx.ne Xq4.out hs_); have Nq5q6 := Aside0.mk (Bx.ne Xq5.out hs_); skip; have Sq6 := Aside0.mk (Nat.le_trans (below_size HB.out) hs_); have Xq6 := Aside0.mk hx_; replace C0 := Aside0.mk (Kd.C_below C0.out hb_); replace C1 := Aside0.mk (Kd.C_below C1.out hb_); replace C2 := Aside0.mk (Kd.C_below C2.out hb_); replace C3 := Aside0.mk (Kd.C_below C3.out hb_); replace Cxn := Aside0.mk (Kd.C_below Cxn.out hb_); replace Cxd := Aside0.mk (Kd.C_below Cxd.out hb_); replace Cyn := Aside0.mk (Kd.C_below Cyn.out hb_); replace Cyd := Aside0.mk (Kd.C_below Cyd.out hb_); replace Czn := Aside0.mk (Kd.C_below Czn.out hb_); replace Czd := Aside0.mk (Kd.C_below Czd.out hb_); replace Cun := Aside0.mk (Kd.C_below Cun.out hb_); replace Cud := Aside0.mk (Kd.C_below Cud.out hb_); replace Cvn := Aside0.mk (Kd.C_below Cvn.out hb_); replace Cvd := Aside0.mk (Kd.C_below Cvd.out hb_); replace Cwn := Aside0.mk (Kd.C_below Cwn.out hb_); replace Cwd := Aside0.mk (Kd.C_below Cwd.out hb_); clear qaa qba; replace Xa := Aside0.mk (Bx.below Xa.out hb_); have qaa := Bx.c0 Xa.out; have qba := Bx.c1 Xa.out; clear qab qbb; replace Xb := Aside0.mk (Bx.below Xb.out hb_); have qab := Bx.c0 Xb.out; have qbb := Bx.c1 Xb.out; clear qaq1 qbq1; clear qcq1 qdq1; replace Xq1 := Aside0.mk (Bx.below Xq1.out hb_); have qaq1 := Bx.c0 Xq1.out; have qbq1 := Bx.c1 Xq1.out; have qcq1 := Bx.f0 Xq1.out; have qdq1 := Bx.f1 Xq1.out; clear qaq2 qbq2; clear qcq2 qdq2; replace Xq2 := Aside0.mk (Bx.below Xq2.out hb_); have qaq2 := Bx.c0 Xq2.out; have qbq2 := Bx.c1 Xq2.out; have qcq2 := Bx.f0 Xq2.out; have qdq2 := Bx.f1 Xq2.out; clear qaq3 qbq3; clear qcq3 qdq3; replace Xq3 := Aside0.mk (Bx.below Xq3.out hb_); have qaq3 := Bx.c0 Xq3.out; have qbq3 := Bx.c1 Xq3.out; have qcq3 := Bx.f0 Xq3.out; have qdq3 := Bx.f1 Xq3.out; clear qaq4 qbq4; clear qcq4 qdq4; replace Xq4 := Aside0.mk (Bx.below Xq4.out hb_); have qaq4 := Bx.c0 Xq4.out; have qbq4 := Bx.c1 Xq4.out; have qcq4 := Bx.f0 Xq4.out; have qdq4 := Bx.f1 Xq4.out; clear qaq5 qbq5; clear qcq5 qdq5; replace Xq5 := Aside0.mk (Bx.below Xq5.out hb_); have qaq5 := Bx.c0 Xq5.out; have qbq5 := Bx.c1 Xq5.out; have qcq5 := Bx.f0 Xq5.out; have qdq5 := Bx.f1 Xq5.out; replace HB := Aside0.mk (below_step HB.out hb_); have qaq6 := Bx.c0 Xq6.out; have qbq6 := Bx.c1 Xq6.out; have qcq6 := Bx.f0 Xq6.out; have qdq6 := Bx.f1 Xq6.out; clear hb_ hx_ hs_) | (refine store_event (by rfl) (by rfl) Xq6.out (.slice Awn zn.length cwn) (.slice Awd zd.length cwd) ?hr ?_; (case hr => first | (go_simp; done) | (go_simp; rfl)); intro wa23 he_ hx_; replace C0 := Aside0.mk (C_store Xq6.out C0.out (.slice Awn zn.length cwn) (.slice Awd zd.length cwd)); replace C1 := Aside0.mk (C_store Xq6.out C1.out (.slice Awn zn.length cwn) (.slice Awd zd.length cwd)); replace C2 := Aside0.mk (C_store Xq6.out C2.out (.slice Awn zn.length cwn) (.slice Awd zd.length cwd)); replace C3 := Aside0.mk (C_store Xq6.out C3.out (.slice Awn zn.length cwn) (.slice Awd zd.length cwd)); replace Cxn := Aside0.mk (C_store Xq6.out Cxn.out (.slice Awn zn.length cwn) (.slice Awd zd.length cwd)); replace Cxd := Aside0.mk (C_store Xq6.out Cxd.out (.slice Awn zn.length cwn) (.slice Awd zd.length cwd)); replace Cyn := Aside0.mk (C_store Xq6.out Cyn.out (.slice Awn zn.length cwn) (.slice Awd zd.length cwd)); replace Cyd := Aside0.mk (C_store Xq6.out Cyd.out (.slice Awn zn.length cwn) (.slice Awd zd.length cwd)); replace Czn := Aside0.mk (C_store Xq6.out Czn.out (.slice Awn zn.length cwn) (.slice Awd zd.length cwd)); replace Czd := Aside0.mk (C_store Xq6.out Czd.out (.slice Awn zn.length cwn) (.slice Awd zd.length cwd)); replace Cun := Aside0.mk (C_store Xq6.out Cun.out (.slice Awn zn.length cwn) (.slice Awd zd.length cwd)); replace Cud := Aside0.mk (C_store Xq6.out Cud.out (.slice Awn zn.length cwn) (.slice Awd zd.length cwd)); replace Cvn := Aside0.mk (C_store Xq6.out Cvn.out (.slice Awn zn.length cwn) (.slice Awd zd.length cwd)); replace Cvd := Aside0.mk (C_store Xq6.out Cvd.out (.slice Awn zn.length cwn) (.slice Awd zd.length cwd)); replace Cwn := Aside0.mk (C_store Xq6.out Cwn.out (.slice Awn zn.length cwn) (.slice Awd zd.length cwd)); replace Cwd := Aside0.mk (C_store Xq6.out Cwd.out (.slice Awn zn.length cwn) (.slice Awd zd.length cwd)); clear qaa qba; replace Xa := Aside0.mk (Bx.other Xa.out Naq6.out (.slice Awn zn.length cwn) (.slice Awd zd.length cwd)); clear qab qbb; replace Xb := Aside0.mk (Bx.other Xb.out Nbq6.out (.slice Awn zn.length cwn) (.slice Awd zd.length cwd)); clear qaq1 qbq1; clear qcq1 qdq1; replace Xq1 := Aside0.mk (Bx.other Xq1.out Nq1q6.out (.slice Awn zn.length cwn) (.slice Awd zd.length cwd)); clear qaq2 qbq2; clear qcq2 qdq2; replace Xq2 := Aside0.mk (Bx.other Xq2.out Nq2q6.out (.slice Awn zn.length cwn) (.slice Awd zd.length cwd)); clear qaq3 qbq3; clear qcq3 qdq3; replace Xq3 := Aside0.mk (Bx.other Xq3.out Nq3q6.out (.slice Awn zn.length cwn) (.slice Awd zd.length cwd)); clear qaq4 qbq4; clear qcq4 qdq4; replace Xq4 := Aside0.mk (Bx.other Xq4.out Nq4q6.out (.slice Awn zn.length cwn) (.slice Awd zd.length cwd)); clear qaq5 qbq5; clear qcq5 qdq5; replace Xq5 := Aside0.mk (Bx.other Xq5.out Nq5q6.out (.slice Awn zn.length cwn) (.slice Awd zd.length cwd)); clear qaq6 qbq6; clear qcq6 qdq6; replace HB := Aside0.mk (below_set (j := 1) (v := (.slice Awd zd.length cwd)) (below_set (j := 0) (v := (.slice Awn zn.length cwn)) HB.out Sq6.out) Sq6.out); clear Xq6; have Xq6 := Aside0.mk hx_; have qaa := Bx.c0 Xa.out; have qba := Bx.c1 Xa.out; have qab := Bx.c0 Xb.out; have qbb := Bx.c1 Xb.out; have qaq1 := Bx.c0 Xq1.out; have qbq1 := Bx.c1 Xq1.out; have qcq1 := Bx.f0 Xq1.out; have qdq1 := Bx.f1 Xq1.out; have qaq2 := Bx.c0 Xq2.out; have qbq2 := Bx.c1 Xq2.out; have qcq2 := Bx.f0 Xq2.out; have qdq2 := Bx.f1 Xq2.out; have qaq3 := Bx.c0 Xq3.out; have qbq3 := Bx.c1 Xq3.out; have qcq3 := Bx.f0 Xq3.out; have qdq3 := Bx.f1 Xq3.out; have qaq4 := Bx.c0 Xq4.out; have qbq4 := Bx.c1 Xq4.out; have qcq4 := Bx.f0 Xq4.out; have qdq4 := Bx.f1 Xq4.out; have qaq5 := Bx.c0 Xq5.out; have qbq5 := Bx.c1 Xq5.out; have qcq5 := Bx.f0 Xq5.out; have qdq5 := Bx.f1 Xq5.out; have qaq6 := Bx.c0 Xq6.out; have qbq6 := Bx.c1 Xq6.out; have qcq6 := Bx.f0 Xq6.out; have qdq6 := Bx.f1 Xq6.out; generalize (wa22.setCell ⟨bq6, 0, none⟩ (.slice Awn zn.length cwn)).setCell ⟨bq6, 1, none⟩ (.slice Awd zd.length cwd) = wg_ at *; subst he_; clear hx_))
   refine (Same_calls Axn cxn xn Axd cxd xd Aun cun xn Aud cud xd true wa23 Cxn.out Hxn.out Cxd.out Hxd.out Cun.out Hun.out Cud.out Hud.out (Nat.le_trans Zx.out.1 (by decide)) (Nat.le_trans Zx.out.2.1 (by decide)) (by simp)).mono ?_
   rintro e wa24 ⟨rfl, hb_⟩
   replace C0 := Aside0.mk (Kd.C_below C0.out hb_)
   replace C1 := Aside0.mk (Kd.C_below C1.out hb_)
   replace C2 := Aside0.mk (Kd.C_below C2.out hb_)
   replace C3 := Aside0.mk (Kd.C_below C3.out hb_)
   replace Cxn := Aside0.mk (Kd.C_below Cxn.out hb_)
   replace Cxd := Aside0.mk (Kd.C_below Cxd.out hb_)
   replace Cyn := Aside0.mk (Kd.C_below Cyn.out hb_)
   replace Cyd := Aside0.mk (Kd.C_below Cyd.out hb_)
   replace Czn := Aside0.mk (Kd.C_below Czn.out hb_)
   replace Czd := Aside0.mk (Kd.C_below Czd.out hb_)
   replace Cun := Aside0.mk (Kd.C_below Cun.out hb_)
   replace Cud := Aside0.mk (Kd.C_below Cud.out hb_)
   replace Cvn := Aside0.mk (Kd.C_below Cvn.out hb_)
   replace Cvd := Aside0.mk (Kd.C_below Cvd.out hb_)
   replace Cwn := Aside0.mk (Kd.C_below Cwn.out hb_)
   replace Cwd := Aside0.mk (Kd.C_below Cwd.out hb_)
   clear qaa qba
   replace Xa := Aside0.mk (Bx.below Xa.out hb_)
   have qaa := Bx.c0 Xa.out
   have qba := Bx.c1 Xa.out
   clear qab qbb
   replace Xb := Aside0.mk (Bx.below Xb.out hb_)
   have qab := Bx.c0 Xb.out
   have qbb := Bx.c1 Xb.out
   clear qaq1 qbq1
   clear qcq1 qdq1
   replace Xq1 := Aside0.mk (Bx.below Xq1.out hb_)
   have qaq1 := Bx.c0 Xq1.out
   have qbq1 := Bx.c1 Xq1.out
   have qcq1 := Bx.f0 Xq1.out
   have qdq1 := Bx.f1 Xq1.out
   clear qaq2 qbq2
   clear qcq2 qdq2
   replace Xq2 := Aside0.mk (Bx.below Xq2.out hb_)
   have qaq2 := Bx.c0 Xq2.out
   have qbq2 := Bx.c1 Xq2.out
   have qcq2 := Bx.f0 Xq2.out
   have qdq2 := Bx.f1 Xq2.out
   clear qaq3 qbq3
   clear qcq3 qdq3
   replace Xq3 := Aside0.mk (Bx.below Xq3.out hb_)
   have qaq3 := Bx.c0 Xq3.out
   have qbq3 := Bx.c1 Xq3.out
   have qcq3 := Bx.f0 Xq3.out
   have qdq3 := Bx.f1 Xq3.out
   clear qaq4 qbq4
   clear qcq4 qdq4
   replace Xq4 := Aside0.mk (Bx.below Xq4.out hb_)
   have qaq4 := Bx.c0 Xq4.out
   have qbq4 := Bx.c1 Xq4.out
   have qcq4 := Bx.f0 Xq4.out
   have qdq4 := Bx.f1 Xq4.out
   clear qaq5 qbq5
   clear qcq5 qdq5
   replace Xq5 := Aside0.mk (Bx.below Xq5.out hb_)
   have qaq5 := Bx.c0 Xq5.out
   have qbq5 := Bx.c1 Xq5.out
   have qcq5 := Bx.f0 Xq5.out
   have qdq5 := Bx.f1 Xq5.out
   clear qaq6 qbq6
   clear qcq6 qdq6
   replace Xq6 := Aside0.mk (Bx.below Xq6.out hb_)
   have qaq6 := Bx.c0 Xq6.out
   have qbq6 := Bx.c1 Xq6.out
   have qcq6 := Bx.f0 Xq6.out
   have qdq6 := Bx.f1 Xq6.out
   replace HB := Aside0.mk (below_step HB.out hb_)
   clear hb_
   go_wp2_with fail
   refine (Same_calls Ayn cyn yn Ayd cyd yd Avn cvn yn Avd cvd yd true wa24 Cyn.out Hyn.out Cyd.out Hyd.out Cvn.out Hvn.out Cvd.out Hvd.out (Nat.le_trans Zy.out.1 (by decide)) (Nat.le_trans Zy.out.2.1 (by decide)) (by simp)).mono ?_
   rintro e wa25 ⟨rfl, hb_⟩
   replace C0 := Aside0.mk (Kd.C_below C0.out hb_)
   replace C1 := Aside0.mk (Kd.C_below C1.out hb_)
   replace C2 := Aside0.mk (Kd.C_below C2.out hb_)
   replace C3 := Aside0.mk (Kd.C_below C3.out hb_)
   replace Cxn := Aside0.mk (Kd.C_below Cxn.out hb_)
   replace Cxd := Aside0.mk (Kd.C_below Cxd.out hb_)
   replace Cyn := Aside0.mk (Kd.C_below Cyn.out hb_)
   replace Cyd := Aside0.mk (Kd.C_below Cyd.out hb_)
   replace Czn := Aside0.mk (Kd.C_below Czn.out hb_)
   replace Czd := Aside0.mk (Kd.C_below Czd.out hb_)
   replace Cun := Aside0.mk (Kd.C_below Cun.out hb_)
   replace Cud := Aside0.mk (Kd.C_below Cud.out hb_)
   replace Cvn := Aside0.mk (Kd.C_below Cvn.out hb_)
   replace Cvd := Aside0.mk (Kd.C_below Cvd.out hb_)
   replace Cwn := Aside0.mk (Kd.C_below Cwn.out hb_)
   replace Cwd := Aside0.mk (Kd.C_below Cwd.out hb_)
   clear qaa qba
   replace Xa := Aside0.mk (Bx.below Xa.out hb_)
   have qaa := Bx.c0 Xa.out
   have qba := Bx.c1 Xa.out
   clear qab qbb
   replace Xb := Aside0.mk (Bx.below Xb.out hb_)
   have qab := Bx.c0 Xb.out
   have qbb := Bx.c1 Xb.out
   clear qaq1 qbq1
   clear qcq1 qdq1
   replace Xq1 := Aside0.mk (Bx.below Xq1.out hb_)
   have qaq1 := Bx.c0 Xq1.out
   have qbq1 := Bx.c1 Xq1.out
   have qcq1 := Bx.f0 Xq1.out
   have qdq1 := Bx.f1 Xq1.out
   clear qaq2 qbq2
   clear qcq2 qdq2
   replace Xq2 := Aside0.mk (Bx.below Xq2.out hb_)
   have qaq2 := Bx.c0 Xq2.out
   have qbq2 := Bx.c1 Xq2.out
   have qcq2 := Bx.f0 Xq2.out
   have qdq2 := Bx.f1 Xq2.out
   clear qaq3 qbq3
   clear qcq3 qdq3
   replace Xq3 := Aside0.mk (Bx.below Xq3.out hb_)
   have qaq3 := Bx.c0 Xq3.out
   have qbq3 := Bx.c1 Xq3.out
   have qcq3 := Bx.f0 Xq3.out
   have qdq3 := Bx.f1 Xq3.out
   clear qaq4 qbq4
   clear qcq4 qdq4
   replace Xq4 := Aside0.mk (Bx.below Xq4.out hb_)
   have qaq4 := Bx.c0 Xq4.out
   have qbq4 := Bx.c1 Xq4.out
   have qcq4 := Bx.f0 Xq4.out
   have qdq4 := Bx.f1 Xq4.out
   clear qaq5 qbq5
   clear qcq5 qdq5
   replace Xq5 := Aside0.mk (Bx.below Xq5.out hb_)
   have qaq5 := Bx.c0 Xq5.out
   have qbq5 := Bx.c1 Xq5.out
   have qcq5 := Bx.f0 Xq5.out
   have qdq5 := Bx.f1 Xq5.out
   clear qaq6 qbq6
   clear qcq6 qdq6
   replace Xq6 := Aside0.mk (Bx.below Xq6.out hb_)
   have qaq6 := Bx.c0 Xq6.out
   have qbq6 := Bx.c1 Xq6.out
   have qcq6 := Bx.f0 Xq6.out
   have qdq6 := Bx.f1 Xq6.out
   replace HB := Aside0.mk (below_step HB.out hb_)
   clear hb_
   go_wp2_with fail
   refine (Same_calls Azn czn zn Azd czd zd Awn cwn zn Awd cwd zd true wa25 Czn.out Hzn.out Czd.out Hzd.out Cwn.out Hwn.out Cwd.out Hwd.out (Nat.le_trans Zz.out.1 (by decide)) (Nat.le_trans Zz.out.2.1 (by decide)) (by simp)).mono ?_
   rintro e wa26 ⟨rfl, hb_⟩
   replace C0 := Aside0.mk (Kd.C_below C0.out hb_)
   replace C1 := Aside0.mk (Kd.C_below C1.out hb_)
   replace C2 := Aside0.mk (Kd.C_below C2.out hb_)
   replace C3 := Aside0.mk (Kd.C_below C3.out hb_)
   replace Cxn := Aside0.mk (Kd.C_below Cxn.out hb_)
   replace Cxd := Aside0.mk (Kd.C_below Cxd.out hb_)
   replace Cyn := Aside0.mk (Kd.C_below Cyn.out hb_)
   replace Cyd := Aside0.mk (Kd.C_below Cyd.out hb_)
   replace Czn := Aside0.mk (Kd.C_below Czn.out hb_)
   replace Czd := Aside0.mk (Kd.C_below Czd.out hb_)
   replace Cun := Aside0.mk (Kd.C_below Cun.out hb_)
   replace Cud := Aside0.mk (Kd.C_below Cud.out hb_)
   replace Cvn := Aside0.mk (Kd.C_below Cvn.out hb_)
   replace Cvd := Aside0.mk (Kd.C_below Cvd.out hb_)
   replace Cwn := Aside0.mk (Kd.C_below Cwn.out hb_)
   replace Cwd := Aside0.mk (Kd.C_below Cwd.out hb_)
   clear qaa qba
   replace Xa := Aside0.mk (Bx.below Xa.out hb_)
   have qaa := Bx.c0 Xa.out
   have qba := Bx.c1 Xa.out
   clear qab qbb
   replace Xb := Aside0.mk (Bx.below Xb.out hb_)
   have qab := Bx.c0 Xb.out
   have qbb := Bx.c1 Xb.out
   clear qaq1 qbq1
   clear qcq1 qdq1
   replace Xq1 := Aside0.mk (Bx.below Xq1.out hb_)
   have qaq1 := Bx.c0 Xq1.out
   have qbq1 := Bx.c1 Xq1.out
   have qcq1 := Bx.f0 Xq1.out
   have qdq1 := Bx.f1 Xq1.out
   clear qaq2 qbq2
   clear qcq2 qdq2
   replace Xq2 := Aside0.mk (Bx.below Xq2.out hb_)
   have qaq2 := Bx.c0 Xq2.out
   have qbq2 := Bx.c1 Xq2.out
   have qcq2 := Bx.f0 Xq2.out
   have qdq2 := Bx.f1 Xq2.out
   clear qaq3 qbq3
   clear qcq3 qdq3
   replace Xq3 := Aside0.mk (Bx.below Xq3.out hb_)
   have qaq3 := Bx.c0 Xq3.out
   have qbq3 := Bx.c1 Xq3.out
   have qcq3 := Bx.f0 Xq3.out
   have qdq3 := Bx.f1 Xq3.out
   clear qaq4 qbq4
   clear qcq4 qdq4
   replace Xq4 := Aside0.mk (Bx.below Xq4.out hb_)
   have qaq4 := Bx.c0 Xq4.out
   have qbq4 := Bx.c1 Xq4.out
   have qcq4 := Bx.f0 Xq4.out
   have qdq4 := Bx.f1 Xq4.out
   clear qaq5 qbq5
   clear qcq5 qdq5
   replace Xq5 := Aside0.mk (Bx.below Xq5.out hb_)
   have qaq5 := Bx.c0 Xq5.out
   have qbq5 := Bx.c1 Xq5.out
   have qcq5 := Bx.f0 Xq5.out
   have qdq5 := Bx.f1 Xq5.out
   clear qaq6 qbq6
   clear qcq6 qdq6
   replace Xq6 := Aside0.mk (Bx.below Xq6.out hb_)
   have qaq6 := Bx.c0 Xq6.out
   have qbq6 := Bx.c1 Xq6.out
   have qcq6 := Bx.f0 Xq6.out
   have qdq6 := Bx.f1 Xq6.out
   replace HB := Aside0.mk (below_step HB.out hb_)
   clear hb_
   go_wp2_with fail
   go_ret
   exact ⟨rfl, HB.out⟩
end Go.Proofs.YtoakfjcejamoeaaDoor.B
