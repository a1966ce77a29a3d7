/- A part of the proofs of the rational laws. -/
import Derived.Test.YtoakfjcejamoeaaDoorD7
import Derived.Test.YtoakfjcejamoeaaDoorL10
namespace Go.Proofs.YtoakfjcejamoeaaDoor.B
open Go.RowKit Go.Proofs.YtoakfjcejamoeaaDoorW.PrintWords Go.Proofs.YtoakfjcejamoeaaDoorW.PrintLast Go.Proofs.YtoakfjcejamoeaaDoorW.PrintMore
set_option exponentiation.threshold 8200
set_option linter.unusedVariables false
set_option linter.unusedSimpArgs false
set_option maxHeartbeats 16000000 in
set_option maxRecDepth 100000 in
/-- Of returns the number, or zero. -/
theorem Of_calls (A0 : Option Addr) (c0 : Nat) (l0 : List Int) (w : World) (hr0 : Kd.C (Kd.int .u32) w A0 l0.length l0) (hc0 : l0.length ≤ c0) :
  Calls Tryd.prog 31 #[.slice A0 l0.length c0] w fun e w' => ∃ A c, e = .returned (.slice A (ozB l0).length c) ∧ Kd.C (Kd.int .u32) w' A (ozB l0).length (ozB l0) ∧ (ozB l0).length ≤ c ∧ Below w.heap.size w w' := by
 have C0 := Aside0.mk hr0
 have H0 := Aside0.mk hc0
 have HB := Aside0.mk (Below.refl w.heap.size w)
 clear hr0 hc0
 obtain ⟨v, hv⟩ : ∃ v, v = validB l0 := ⟨_, rfl⟩
 have hVa := Aside0.mk (show lineageref03_Valid.f l0 = some v from hv ▸ refValid_f l0)
 have hoz : ozB l0 = if v = true then l0 else [] := by rw [hv]; rfl
 have hO := Aside0.mk hoz
 clear hv hoz
 go_enter Tryd.func31, Tryd.ntmps31
 go_wp2_with fail
 refine (lineageref03_Valid.calls A0 c0 l0 v w C0.out H0.out hVa.out).mono ?_
 rintro e wa1 ⟨rfl, hd_⟩
 have hb_ := hd_.below
 replace C0 := Aside0.mk (Kd.C_below C0.out hb_)
 replace HB := Aside0.mk (below_step HB.out hb_)
 clear hb_ hd_
 cases v with
 | false =>
  go_wp2_with ((with_reducible refine gate_dst (N := 6) rfl ?_); (try (refine gate_guard (by rfl) ?_; dsimp only)); refine lit_event ?hg (N := 6) ?hd [] 0 rfl (by decide) ?hr ?_; (case hd => rfl); (case hg => rfl); (case hr => first | (go_simp; done) | (go_simp; rfl)); intro A6 wa2 hc_ hb_; have HB_ := Aside0.mk (below_step HB.out hb_); have C6 := Aside0.mk hc_; clear HB hb_ hc_; have HB := HB_; clear HB_)
  go_ret
  have e : ozB l0 = [] := by rw [hO.out]; rfl
  rw [e]
  exact ⟨_, _, rfl, C6.out, Nat.le_refl _, HB.out⟩
 | true =>
  go_wp2_with fail
  go_ret
  have e : ozB l0 = l0 := by rw [hO.out]; rfl
  rw [e]
  exact ⟨_, _, rfl, C0.out, H0.out, HB.out⟩
section
variable {P : Program} {ops : Array Oper} {rest : List Oper} {o : Oper} {a : Act} {Q : Exit → Act → World → Prop}
/-- A literal of rows of limbs. -/
theorem lits_event {W : World} (hgd : o.guard = none) {N : Tmp} (hd : o.dst = some N) {LL : List (List Int)} {inner : List Value}
  (hrun : (execOp a.eval o).run P W = .ok (.value (.slice (some ⟨W.heap.size, 0, none⟩) LL.length LL.length)) (W.alloc (.cells inner.toArray 23)))
  (hrep : Reps (Kd.FK (Kd.slice 63 (Kd.int .u32)) W (fun k => k < W.heap.size)) (Kd.slice 63 (Kd.int .u32)).sz LL inner) (hm : LL.length ≤ 1000)
  (h : ∀ A c w1, Kd.C (Kd.slice 63 (Kd.int .u32)) w1 A LL.length LL → LL.length ≤ c → Below W.heap.size W w1 → wpList P ops Q rest (a.put o.dst (.slice A LL.length c)) w1) : wpList P ops Q (o :: rest) a W :=
 Kd.N_lit (Kd.slice 63 (Kd.int .u32)) (w0 := W) W.heap.size 23 hgd hd (ok := fun _ => True) (okp := fun k => k < W.heap.size) hrun hrep (fun _ _ => trivial) trivial (Below.refl _ _) (Nat.le_refl _) (by omega) (fun v1 w1 hn hb _ _ => by
  obtain ⟨A, c, rfl⟩ := Kd.N_slice hn
  exact h A c w1 (Kd.N_reads' hn).2.2 (Kd.N_reads' hn).2.1 hb)
end
/-- What the law asks of Parse. -/
theorem parse_facts {l : List UInt8} {x : List Int} {xe : Int} (hl : l.length ≤ 300) (h : parseT l = (x, xe)) : x.length ≤ 40 ∧ ((xe = 0 ∧ bignat_Format.f 501 x = some ⟨l.toArray⟩) ∨ xe = 3) := by
 unfold parseT at h
 split at h
 ·rename_i ht
  injection h with h1 h2
  have hp := textB_parts ht
  have hb : dvalA 0 l < 10 ^ 320 := Nat.lt_of_lt_of_le (dvalA_lt hp.2.1) (Nat.pow_le_pow_right (by decide) (by omega))
  refine ⟨?_, Or.inl ⟨h2.symm, ?_⟩⟩
  ·rw [← h1]
   exact big_len hb
  ·rw [← h1, Format_f (Bn.limbs_limbs _) (by decide), vv_valid (big_valid hb), Bn.nv_limbs, dd_text ht]
 ·injection h with h1 h2
  exact ⟨by rw [← h1]; decide, Or.inr h2.symm⟩
theorem dec_facts {l1 : List Int} {D : List UInt8} (L1 : Bn.Limbs l1) (hl : l1.length ≤ 30) (hD : D = Lib.decDigits (vv l1)) : bignat_Format.f 501 l1 = some ⟨D.toArray⟩ ∧ D.length ≤ 300 ∧ parseT D = (ozB l1, 0) ∧ ozB l1 = Bn.limbs (vv l1) ∧ True := by
 have hz : ozB l1 = Bn.limbs (vv l1) := (ozB_nrm L1).1.2.symm
 refine ⟨by rw [Format_f L1 (by decide), hD], ?_, ?_, hz, trivial⟩
 ·have ho : (ozB l1).length ≤ 30 := by
   unfold ozB
   split
   ·exact hl
   ·simp
  have hv : vv l1 < 10 ^ 300 := Nat.lt_of_lt_of_le (Nat.lt_of_lt_of_le (Bn.nv_lt (ozB_nrm L1).1.1) (Nat.pow_le_pow_right (by decide) ho)) (Nat.le_of_ble_eq_true rfl)
  have h3 := ddz_len 300 _ hv
  unfold ddz at h3
  rw [hD]
  split at h3
  ·rename_i h0
   rw [h0, dd_lt (by decide)]
   decide
  ·exact h3
 ·unfold parseT
  rw [hD, if_pos (textB_dd _), (text_dd _).2.1, hz]
set_option maxHeartbeats 16000000 in
set_option maxRecDepth 100000 in
theorem decimalLaw (A1 : Option Addr) (c1 : Nat) (l1 : List Int) (w : World) (hr1 : Kd.C (Kd.int .u32) w A1 l1.length l1) (hc1 : l1.length ≤ c1) (ht_ : Tab w) (l : List UInt8) (L1 : Bn.Limbs l1) :
  Calls Tryd.prog 17 #[.string ⟨l.toArray⟩, .slice A1 l1.length c1] w fun e w' => e = .returned (.bool true) ∧ Below w.heap.size w w' := by
 have HT_ := Aside0.mk ht_
 clear ht_
 have C1 := Aside0.mk hr1
 have H1 := Aside0.mk hc1
 clear hr1 hc1
 have HB := Aside0.mk (Below.refl w.heap.size w)
 obtain ⟨sm, hs, hsm⟩ : ∃ s : Bool, lineagelaw03_small.f 10 30 [l1] = some s ∧ (s = true → l1.length ≤ 30) := by
  refine ⟨_, small_f 30 [l1] (by simp) (by simp), fun h => ?_⟩
  have h2 : ((l1.length : Int) ≤ 30) := by simpa using h
  omega
 have hSm := Aside0.mk hs
 have hSm2 := Aside0.mk hsm
 obtain ⟨⟨x, xe⟩, hx⟩ : ∃ t, t = parseT l := ⟨_, rfl⟩
 have hX := Aside0.mk hx.symm
 have hL1 := Aside0.mk L1
 obtain ⟨D, hD⟩ : ∃ D, D = Lib.decDigits (vv l1) := ⟨_, rfl⟩
 have hDe := Aside0.mk hD
 clear hs hsm hx L1 hD
 go_enter Tryd.func17, Tryd.ntmps17
 go_wp2_with fail
 refine (lineagelaw03_awake.calls true w rfl (HT_.out.below HB.out)).mono ?_
 rintro e wa1 ⟨rfl, hb_⟩
 replace C1 := Aside0.mk (Kd.C_below C1.out hb_)
 replace HB := Aside0.mk (below_step HB.out hb_)
 clear hb_
 by_cases hs3 : (300 : Int) < (l.length : Int)
 ·go_wp2_with fail
  refine (lineagelaw03_awake.calls true wa1 rfl (HT_.out.below HB.out)).mono ?_
  rintro e wa2 ⟨rfl, hb_⟩
  replace C1 := Aside0.mk (Kd.C_below C1.out hb_)
  replace HB := Aside0.mk (below_step HB.out hb_)
  clear hb_
  go_wp2_with fail
  go_ret
  exact ⟨rfl, HB.out⟩
 have hs3d : decide ((300 : Int) < (l.length : Int)) = false := decide_eq_false hs3
 have hl3 := Aside0.mk (show l.length ≤ 300 by omega)
 clear hs3
 go_wp2_with (first | ((with_reducible refine gate_dst (N := 21) rfl ?_); (try (refine gate_guard (by rfl) ?_; dsimp only)); refine lits_event ?hg (N := 21) ?hd (LL := [l1]) (inner := [.slice A1 l1.length c1]) ?hr (Reps.one (Kd.FK_slice_mk (l := l1) H1.out (Kd.C_F (Kd.heap_int .u32) C1.out)) (Reps.none _ _)) (by simp) ?_; (case hd => rfl); (case hg => rfl); (case hr => first | (go_simp; done) | (go_simp; rfl)); intro As cs wa2 hl_ hm_ hb_; replace C1 := Aside0.mk (Kd.C_below C1.out hb_); replace HB := Aside0.mk (below_step HB.out hb_); have Ds := Aside0.mk hl_; have Es := Aside0.mk hm_; clear hl_ hm_ hb_))
 have hcall_ := lineagelaw03_small.calls 10 30 As cs [l1] sm wa2 Ds.out Es.out hSm.out
 rw [show ([l1] : List (List Int)).length = 1 from rfl] at hcall_
 have hcl_ := Aside0.mk hcall_
 clear hcall_
 refine hcl_.out.mono ?_
 rintro e wa3 ⟨rfl, hd_⟩
 have hb_ := hd_.below
 replace C1 := Aside0.mk (Kd.C_below C1.out hb_)
 replace HB := Aside0.mk (below_step HB.out hb_)
 clear hb_ hd_
 clear Ds Es hcl_
 cases sm with
 | false =>
  go_wp2_with fail
  refine (lineagelaw03_awake.calls true wa3 rfl (HT_.out.below HB.out)).mono ?_
  rintro e wa4 ⟨rfl, hb_⟩
  replace C1 := Aside0.mk (Kd.C_below C1.out hb_)
  replace HB := Aside0.mk (below_step HB.out hb_)
  clear hb_
  go_wp2_with fail
  go_ret
  exact ⟨rfl, HB.out⟩
 | true =>
  clear hs3d
  have hlen := Aside0.mk (hSm2.out rfl)
  have hX2 := Aside0.mk (parse_facts hl3.out hX.out)
  have hDf := Aside0.mk (dec_facts hL1.out hlen.out hDe.out)
  have hSx := Aside0.mk (show lineagelaw03_same.f 200 x x = some true from by rw [same_f _ _ (by have := (parse_facts hl3.out hX.out).1; omega) (by have := (parse_facts hl3.out hX.out).1; omega)]; simp)
  clear hSm hSm2
  go_wp2_with fail
  refine (parse_calls l hl3.out x xe hX.out wa3).mono ?_
  rintro e wa4 ⟨Ax, cx, rfl, hC_, hH_, hb_⟩
  replace C1 := Aside0.mk (Kd.C_below C1.out hb_)
  replace HB := Aside0.mk (below_step HB.out hb_)
  have Cx := Aside0.mk hC_
  have Hx := Aside0.mk hH_
  clear hC_ hH_ hb_
  go_wp2_with fail
  refine (refParse_calls l hl3.out x xe hX.out wa4).mono ?_
  rintro e wa5 ⟨Ay, cy, rfl, hC_, hH_, hb_⟩
  replace C1 := Aside0.mk (Kd.C_below C1.out hb_)
  replace Cx := Aside0.mk (Kd.C_below Cx.out hb_)
  replace HB := Aside0.mk (below_step HB.out hb_)
  have Cy := Aside0.mk hC_
  have Hy := Aside0.mk hH_
  clear hC_ hH_ hb_
  rcases hX2.out.2 with ⟨he_, hf_⟩ | he_
  ·subst he_
   have hFx := Aside0.mk hf_
   have hSo := Aside0.mk (show lineagelaw03_same.f 200 (ozB l1) (ozB l1) = some true from by rw [same_f _ _ (by have := (ozB_nrm hL1.out).2; omega) (by have := (ozB_nrm hL1.out).2; omega)]; simp)
   clear hf_ hX2
   go_wp2_with fail
   refine (lineagelaw03_same.calls 200 Ax cx x Ay cy x true wa5 Cx.out Hx.out Cy.out Hy.out hSx.out).mono ?_
   rintro e wa6 ⟨rfl, hd_⟩
   have hb_ := hd_.below
   replace C1 := Aside0.mk (Kd.C_below C1.out hb_)
   replace Cx := Aside0.mk (Kd.C_below Cx.out hb_)
   replace Cy := Aside0.mk (Kd.C_below Cy.out hb_)
   replace HB := Aside0.mk (below_step HB.out hb_)
   clear hb_ hd_
   go_wp2_with fail
   refine (bignat_Format.calls 501 Ax cx x ⟨l.toArray⟩ wa6 Cx.out Hx.out hFx.out (HT_.out.below HB.out)).mono ?_
   rintro e wa7 ⟨rfl, hb_⟩
   replace C1 := Aside0.mk (Kd.C_below C1.out hb_)
   replace Cx := Aside0.mk (Kd.C_below Cx.out hb_)
   replace Cy := Aside0.mk (Kd.C_below Cy.out hb_)
   replace HB := Aside0.mk (below_step HB.out hb_)
   clear hb_
   go_wp2_with fail
   refine (bignat_Format.calls 501 A1 c1 l1 ⟨D.toArray⟩ wa7 C1.out H1.out hDf.out.1 (HT_.out.below HB.out)).mono ?_
   rintro e wa8 ⟨rfl, hb_⟩
   replace C1 := Aside0.mk (Kd.C_below C1.out hb_)
   replace Cx := Aside0.mk (Kd.C_below Cx.out hb_)
   replace Cy := Aside0.mk (Kd.C_below Cy.out hb_)
   replace HB := Aside0.mk (below_step HB.out hb_)
   clear hb_
   go_wp2_with fail
   refine (parse_calls D hDf.out.2.1 (ozB l1) 0 hDf.out.2.2.1 wa8).mono ?_
   rintro e wa9 ⟨Az, cz, rfl, hC_, hH_, hb_⟩
   replace C1 := Aside0.mk (Kd.C_below C1.out hb_)
   replace Cx := Aside0.mk (Kd.C_below Cx.out hb_)
   replace Cy := Aside0.mk (Kd.C_below Cy.out hb_)
   replace HB := Aside0.mk (below_step HB.out hb_)
   have Cz := Aside0.mk hC_
   have Hz := Aside0.mk hH_
   clear hC_ hH_ hb_
   go_wp2_with fail
   refine (Of_calls A1 c1 l1 wa9 C1.out H1.out).mono ?_
   rintro e wa10 ⟨Ao, co, rfl, hC_, hH_, hb_⟩
   replace C1 := Aside0.mk (Kd.C_below C1.out hb_)
   replace Cx := Aside0.mk (Kd.C_below Cx.out hb_)
   replace Cy := Aside0.mk (Kd.C_below Cy.out hb_)
   replace Cz := Aside0.mk (Kd.C_below Cz.out hb_)
   replace HB := Aside0.mk (below_step HB.out hb_)
   have Co := Aside0.mk hC_
   have Ho := Aside0.mk hH_
   clear hC_ hH_ hb_
   go_wp2_with fail
   refine (refFormat_calls Ao co (ozB l1) (vv l1) wa10 Co.out Ho.out hDf.out.2.2.2.1 (ozB_nrm hL1.out).2 ⟨D.toArray⟩ (by rw [hDe.out])).mono ?_
   rintro e wa11 ⟨rfl, hb_⟩
   replace C1 := Aside0.mk (Kd.C_below C1.out hb_)
   replace Cx := Aside0.mk (Kd.C_below Cx.out hb_)
   replace Cy := Aside0.mk (Kd.C_below Cy.out hb_)
   replace Cz := Aside0.mk (Kd.C_below Cz.out hb_)
   replace Co := Aside0.mk (Kd.C_below Co.out hb_)
   replace HB := Aside0.mk (below_step HB.out hb_)
   clear hb_
   go_wp2_with fail
   refine (Of_calls A1 c1 l1 wa11 C1.out H1.out).mono ?_
   rintro e wa12 ⟨Aq, cq, rfl, hC_, hH_, hb_⟩
   replace C1 := Aside0.mk (Kd.C_below C1.out hb_)
   replace Cx := Aside0.mk (Kd.C_below Cx.out hb_)
   replace Cy := Aside0.mk (Kd.C_below Cy.out hb_)
   replace Cz := Aside0.mk (Kd.C_below Cz.out hb_)
   replace Co := Aside0.mk (Kd.C_below Co.out hb_)
   replace HB := Aside0.mk (below_step HB.out hb_)
   have Cq := Aside0.mk hC_
   have Hq := Aside0.mk hH_
   clear hC_ hH_ hb_
   go_wp2_with fail
   refine (lineagelaw03_same.calls 200 Az cz (ozB l1) Aq cq (ozB l1) true wa12 Cz.out Hz.out Cq.out Hq.out hSo.out).mono ?_
   rintro e wa13 ⟨rfl, hd_⟩
   have hb_ := hd_.below
   replace C1 := Aside0.mk (Kd.C_below C1.out hb_)
   replace Cx := Aside0.mk (Kd.C_below Cx.out hb_)
   replace Cy := Aside0.mk (Kd.C_below Cy.out hb_)
   replace Cz := Aside0.mk (Kd.C_below Cz.out hb_)
   replace Co := Aside0.mk (Kd.C_below Co.out hb_)
   replace Cq := Aside0.mk (Kd.C_below Cq.out hb_)
   replace HB := Aside0.mk (below_step HB.out hb_)
   clear hb_ hd_
   go_wp2_with fail
   go_ret
   exact ⟨rfl, HB.out⟩
  ·subst he_
   have hSo := Aside0.mk (show lineagelaw03_same.f 200 (ozB l1) (ozB l1) = some true from by rw [same_f _ _ (by have := (ozB_nrm hL1.out).2; omega) (by have := (ozB_nrm hL1.out).2; omega)]; simp)
   clear hX2
   go_wp2_with fail
   refine (lineagelaw03_same.calls 200 Ax cx x Ay cy x true wa5 Cx.out Hx.out Cy.out Hy.out hSx.out).mono ?_
   rintro e wa6 ⟨rfl, hd_⟩
   have hb_ := hd_.below
   replace C1 := Aside0.mk (Kd.C_below C1.out hb_)
   replace Cx := Aside0.mk (Kd.C_below Cx.out hb_)
   replace Cy := Aside0.mk (Kd.C_below Cy.out hb_)
   replace HB := Aside0.mk (below_step HB.out hb_)
   clear hb_ hd_
   go_wp2_with fail
   refine (bignat_Format.calls 501 A1 c1 l1 ⟨D.toArray⟩ wa6 C1.out H1.out hDf.out.1 (HT_.out.below HB.out)).mono ?_
   rintro e wa7 ⟨rfl, hb_⟩
   replace C1 := Aside0.mk (Kd.C_below C1.out hb_)
   replace Cx := Aside0.mk (Kd.C_below Cx.out hb_)
   replace Cy := Aside0.mk (Kd.C_below Cy.out hb_)
   replace HB := Aside0.mk (below_step HB.out hb_)
   clear hb_
   go_wp2_with fail
   refine (parse_calls D hDf.out.2.1 (ozB l1) 0 hDf.out.2.2.1 wa7).mono ?_
   rintro e wa8 ⟨Az, cz, rfl, hC_, hH_, hb_⟩
   replace C1 := Aside0.mk (Kd.C_below C1.out hb_)
   replace Cx := Aside0.mk (Kd.C_below Cx.out hb_)
   replace Cy := Aside0.mk (Kd.C_below Cy.out hb_)
   replace HB := Aside0.mk (below_step HB.out hb_)
   have Cz := Aside0.mk hC_
   have Hz := Aside0.mk hH_
   clear hC_ hH_ hb_
   go_wp2_with fail
   refine (Of_calls A1 c1 l1 wa8 C1.out H1.out).mono ?_
   rintro e wa9 ⟨Ao, co, rfl, hC_, hH_, hb_⟩
   replace C1 := Aside0.mk (Kd.C_below C1.out hb_)
   replace Cx := Aside0.mk (Kd.C_below Cx.out hb_)
   replace Cy := Aside0.mk (Kd.C_below Cy.out hb_)
   replace Cz := Aside0.mk (Kd.C_below Cz.out hb_)
   replace HB := Aside0.mk (below_step HB.out hb_)
   have Co := Aside0.mk hC_
   have Ho := Aside0.mk hH_
   clear hC_ hH_ hb_
   go_wp2_with fail
   refine (refFormat_calls Ao co (ozB l1) (vv l1) wa9 Co.out Ho.out hDf.out.2.2.2.1 (ozB_nrm hL1.out).2 ⟨D.toArray⟩ (by rw [hDe.out])).mono ?_
   rintro e wa10 ⟨rfl, hb_⟩
   replace C1 := Aside0.mk (Kd.C_below C1.out hb_)
   replace Cx := Aside0.mk (Kd.C_below Cx.out hb_)
   replace Cy := Aside0.mk (Kd.C_below Cy.out hb_)
   replace Cz := Aside0.mk (Kd.C_below Cz.out hb_)
   replace Co := Aside0.mk (Kd.C_below Co.out hb_)
   replace HB := Aside0.mk (below_step HB.out hb_)
   clear hb_
   go_wp2_with fail
   refine (Of_calls A1 c1 l1 wa10 C1.out H1.out).mono ?_
   rintro e wa11 ⟨Aq, cq, rfl, hC_, hH_, hb_⟩
   replace C1 := Aside0.mk (Kd.C_below C1.out hb_)
   replace Cx := Aside0.mk (Kd.C_below Cx.out hb_)
   replace Cy := Aside0.mk (Kd.C_below Cy.out hb_)
   replace Cz := Aside0.mk (Kd.C_below Cz.out hb_)
   replace Co := Aside0.mk (Kd.C_below Co.out hb_)
   replace HB := Aside0.mk (below_step HB.out hb_)
   have Cq := Aside0.mk hC_
   have Hq := Aside0.mk hH_
   clear hC_ hH_ hb_
   go_wp2_with fail
   refine (lineagelaw03_same.calls 200 Az cz (ozB l1) Aq cq (ozB l1) true wa11 Cz.out Hz.out Cq.out Hq.out hSo.out).mono ?_
   rintro e wa12 ⟨rfl, hd_⟩
   have hb_ := hd_.below
   replace C1 := Aside0.mk (Kd.C_below C1.out hb_)
   replace Cx := Aside0.mk (Kd.C_below Cx.out hb_)
   replace Cy := Aside0.mk (Kd.C_below Cy.out hb_)
   replace Cz := Aside0.mk (Kd.C_below Cz.out hb_)
   replace Co := Aside0.mk (Kd.C_below Co.out hb_)
   replace Cq := Aside0.mk (Kd.C_below Cq.out hb_)
   replace HB := Aside0.mk (below_step HB.out hb_)
   clear hb_ hd_
   go_wp2_with fail
   go_ret
   exact ⟨rfl, HB.out⟩

end Go.Proofs.YtoakfjcejamoeaaDoor.B
