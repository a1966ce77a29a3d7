/- Contracts of Compare, Search and Permille. -/
import Derived.Test.YtoakfjcejamoeaaDoorQB
import Derived.WalkMore
namespace Go.Proofs.YtoakfjcejamoeaaDoor.B
open Go.RowKit Go.Proofs.YtoakfjcejamoeaaDoorW.PrintWords Go.Proofs.YtoakfjcejamoeaaDoorW.PrintLast Go.Proofs.YtoakfjcejamoeaaDoorW.PrintMore
set_option exponentiation.threshold 8200
set_option linter.unusedVariables false
set_option linter.unusedSimpArgs false
theorem cmp_round {a b c d : Nat} (hb : 0 < b) (hd : 0 < d) : (a / b ≠ c / d → cmpN (a * d) (c * b) = cmpN (a / b) (c / d)) ∧ (a / b = c / d → cmpN (a * d) (c * b) = cmpN (a % b * d) (c % d * b)) := by
 have ha := Nat.div_add_mod a b
 have hc := Nat.div_add_mod c d
 have hr := Nat.mod_lt a hb
 have hs := Nat.mod_lt c hd
 generalize a / b = p at *
 generalize c / d = q at *
 generalize a % b = r at *
 generalize c % d = s at *
 have e1 : a * d = b * d * p + r * d := by rw [← ha, Nat.add_mul, Nat.mul_right_comm]
 have e2 : c * b = b * d * q + s * b := by rw [← hc, Nat.add_mul, Nat.mul_comm b d, Nat.mul_right_comm]
 have l1 : r * d < b * d := Nat.mul_lt_mul_of_pos_right hr hd
 have l2 : s * b < b * d := by rw [Nat.mul_comm b d]; exact Nat.mul_lt_mul_of_pos_right hs hb
 refine ⟨fun h => ?_, fun h => ?_⟩
 ·rcases Nat.lt_or_gt_of_ne h with h | h
  ·have : b * d * (p + 1) ≤ b * d * q := Nat.mul_le_mul_left _ h
   rw [Nat.mul_add, Nat.mul_one] at this
   rw [cmpN_lt h, cmpN_lt (by omega)]
  ·have : b * d * (q + 1) ≤ b * d * p := Nat.mul_le_mul_left _ h
   rw [Nat.mul_add, Nat.mul_one] at this
   rw [cmpN_gt h, cmpN_gt (by omega)]
 ·rw [e1, e2, h, Nat.add_comm, Nat.add_comm _ (s * b), cmpN_add]
theorem cmp_flip (a b : Nat) : cmpN b a = - cmpN a b := by
 unfold cmpN
 rcases Nat.lt_trichotomy a b with h | h | h
 ·rw [if_neg (by omega), if_pos h, if_pos h]; rfl
 ·rw [if_neg (by omega), if_neg (by omega), if_neg (by omega), if_neg (by omega)]; rfl
 ·rw [if_pos h, if_neg (by omega), if_pos h]
theorem cmp_vals (a b : Nat) : cmpN a b = -1 ∨ cmpN a b = 0 ∨ cmpN a b = 1 := by
 unfold cmpN
 split
 ·exact .inl rfl
 ·split
  ·exact .inr (.inr rfl)
  ·exact .inr (.inl rfl)
theorem cmp_zero {a b : Nat} (h : cmpN a b = 0) : a = b := by
 unfold cmpN at h
 split at h
 ·cases h
 ·split at h
  ·cases h
  ·omega
def cleanB (a b : List Int) : List Int × List Int := if ratB a b = true then (a, b) else ([], [1])
/-- what a fraction that Compare walks over is -/
def FracOk (n d : List Int) : Prop := Bn.Nrm n ∧ n.length ≤ 128 ∧ Bn.Nrm d ∧ d.length ≤ 128 ∧ d ≠ []
theorem clean_ok {a b : List Int} (La : Bn.Limbs a) (Lb : Bn.Limbs b) : FracOk (cleanB a b).1 (cleanB a b).2 := by
 unfold cleanB
 by_cases h : ratB a b = true
 ·obtain ⟨x, y, z, -⟩ := (ratB_iff La Lb).1 h
  rw [if_pos h]
  exact ⟨x.1, x.2, y.1, y.2, z⟩
 ·rw [if_neg h]
  exact ⟨Bn.nrm_nil, by decide, nrm_one, by decide, by decide⟩
/-- Compare, on numbers -/
def compareR (a b c d : List Int) : Int := cmpN (Bn.nv (cleanB a b).1 * Bn.nv (cleanB c d).2) (Bn.nv (cleanB c d).1 * Bn.nv (cleanB a b).2)
theorem FracOk.divs {n d : List Int} (h : FracOk n d) : ∃ p r, bignat_DivMod.f 4001 n d = some (p, r, 0) ∧ Bn.Limbs p ∧ p.length ≤ 128 ∧ vv p = Bn.nv n / Bn.nv d ∧ Bn.nv r = Bn.nv n % Bn.nv d ∧ Bn.nv r < Bn.nv d ∧ (r ≠ [] → FracOk d r) ∧ (r = [] ↔ Bn.nv r = 0) := by
 obtain ⟨n0, s0, n1, s1, hd⟩ := h
 have hp := nv_pos n1 hd
 have hml := Nat.mod_lt (Bn.nv n) hp
 have hl : (Bn.limbs (Bn.nv n / Bn.nv d)).length ≤ 128 := Nat.le_trans (limbs_le n0.1 (Nat.div_le_self _ _)) s0
 refine ⟨Bn.limbs (Bn.nv n / Bn.nv d), Bn.limbs (Bn.nv n % Bn.nv d), ?_, Bn.limbs_limbs _, hl, ?_, Bn.nv_limbs _, by rw [Bn.nv_limbs]; exact hml, fun h => ⟨n1, s1, Bn.nrm_limbs _, Nat.le_trans (limbs_le n1.1 (by omega)) s1, h⟩, by rw [Bn.nv_limbs]; exact Bn.limbs_nil⟩
 ·rw [DivMod_f n0.1 n1.1 (Nat.le_refl _)]
  unfold divB
  rw [if_pos ⟨(validB_iff n0.1).2 ⟨n0, s0⟩, (validB_iff n1.1).2 ⟨n1, s1⟩, hd⟩]
 ·rw [vv_valid (validB_limbs hl), Bn.nv_limbs]
/-- a round of Compare: what it answers -/
theorem cmp_step {sign c a b p d r s R : Int} {A B C D : Nat} (hB : 0 < B) (hD : 0 < D) (hs : sign = 1 ∨ sign = -1) (hR : sign * cmpN (A * D) (C * B) = R) :
  (cmpN (A / B) (C / D) ≠ 0 → wrap64 (sign * cmpN (A / B) (C / D)) = R) ∧
  (cmpN (A / B) (C / D) = 0 → (A % B = 0 → C % D = 0 → (0 : Int) = R) ∧ (A % B = 0 → C % D ≠ 0 → wrap64 (-sign) = R) ∧ (A % B ≠ 0 → C % D = 0 → sign = R) ∧ (wrap64 (-sign) * cmpN (B * (C % D)) (D * (A % B)) = R)) := by
 obtain ⟨h1, h2⟩ := cmp_round (a := A) (c := C) hB hD
 refine ⟨fun h => ?_, fun h => ?_⟩
 ·have hne : A / B ≠ C / D := fun e => h (by rw [e, cmpN_self])
  rw [← hR, h1 hne]
  rcases hs with rfl | rfl <;> rcases cmp_vals (A / B) (C / D) with e | e | e <;> rw [e] <;> exact w64 (by omega) (by omega)
 ·have e := h2 (cmp_zero h)
  rw [← hR, e]
  have w1 : wrap64 (-sign) = -sign := by rcases hs with rfl | rfl <;> exact w64 (by omega) (by omega)
  refine ⟨fun h3 h4 => ?_, fun h3 h4 => ?_, fun h3 h4 => ?_, ?_⟩
  ·rw [h3, h4, Nat.zero_mul, Nat.zero_mul, cmpN_self]; omega
  ·rw [h3, Nat.zero_mul, cmpN_lt (Nat.mul_pos (by omega) hB), w1]; omega
  ·rw [h4, Nat.zero_mul, cmpN_gt (Nat.mul_pos (by omega) hD)]; omega
  ·rw [w1, Nat.mul_comm B, Nat.mul_comm D, cmp_flip (A % B * D)]
   rw [Int.neg_mul_neg]

theorem Bx.other {W : World} {b b' : Nat} {v0 v1 : Value} (h : Bx W b v0 v1) (hne : b ≠ b') (u0 u1 : Value) : Bx ((W.setCell ⟨b', 0, none⟩ u0).setCell ⟨b', 1, none⟩ u1) b v0 v1 := by
 unfold Bx at *
 simp [World.setCell, Array.getElem?_modify, Ne.symm hne, h]
theorem Bx.ne {W : World} {b b' : Nat} {v0 v1 : Value} (h : Bx W b v0 v1) (hs : W.heap.size ≤ b') : b ≠ b' := by
 have := h.lt
 omega
section
variable {P : Program} {ops : Array Oper} {rest : List Oper} {o : Oper} {a : Act} {Q : Exit → Act → World → Prop}
/-- An operation that yields a value. -/
theorem value1_ {Q : Exit → Act → World → Prop} {K : Act → World → Prop} {oi : Oper} {N : Option Tmp} {a : Act} {w : World} {v : Value} (hw : Region.wanted oi (yielded ops a.tmps) = true) (hN : oi.dst = N) (hrun : (execOp a.eval oi).run P w = .ok (.value v) w)
  (h : K (a.put N v) w) : if Region.wanted oi (yielded ops a.tmps) = true then Oper.wp P oi a w K Q else K (a.put N undef) w := by
 rw [if_pos hw]
 unfold Oper.wp
 rw [hrun]
 show K (a.put oi.dst v) w
 rw [hN]
 exact h
/-- A rational is stored over another one. -/
theorem store_event {W : World} (ho : o.dst = none) (hgd : o.guard = none) {b : Nat} {v0 v1 : Value} (hx : Bx W b v0 v1) (u0 u1 : Value)
  (hrun : (execOp a.eval o).run P W = .ok .skip ((W.setCell ⟨b, 0, none⟩ u0).setCell ⟨b, 1, none⟩ u1))
  (h : ∀ w1, w1 = (W.setCell ⟨b, 0, none⟩ u0).setCell ⟨b, 1, none⟩ u1 → Bx w1 b u0 u1 → wpList P ops Q rest a w1) : wpList P ops Q (o :: rest) a W := by
 refine wpList_plain hgd fun K hK => ?_
 unfold Oper.wp
 rw [hrun]
 have e : a.put o.dst undef = a := by rw [ho]; rfl
 show K (a.put o.dst undef) _
 rw [e]
 exact hK _ _ (h _ rfl (hx.store u0 u1))
end

set_option maxHeartbeats 16000000 in
set_option maxRecDepth 100000 in
/-- The closure of Compare. -/
theorem clean_calls (A0 : Option Addr) (c0 : Nat) (l0 : List Int) (A1 : Option Addr) (c1 : Nat) (l1 : List Int) (n d : List Int) (w : World) (hr0 : Kd.C (Kd.int .u32) w A0 l0.length l0) (hc0 : l0.length ≤ c0) (hr1 : Kd.C (Kd.int .u32) w A1 l1.length l1) (hc1 : l1.length ≤ c1)  (L0 : Bn.Limbs l0) (L1 : Bn.Limbs l1) (h : cleanB l0 l1 = (n, d)) :
  Calls Tryd.prog 93 #[.agg #[.slice A0 l0.length c0, .slice A1 l1.length c1]] w fun e_ w' => Rat1 n d w e_ w' := by
 have C0 := Aside0.mk hr0
 have H0 := Aside0.mk hc0
 clear hr0 hc0
 have C1 := Aside0.mk hr1
 have H1 := Aside0.mk hc1
 clear hr1 hc1
 have HB := Aside0.mk (Below.refl w.heap.size w)
 obtain ⟨p0, hp0⟩ : ∃ p, p = ratB l0 l1 := ⟨_, rfl⟩
 have hP0 := Aside0.mk hp0
 have hL := Aside0.mk (show Bn.Limbs l0 ∧ Bn.Limbs l1 from ⟨L0, L1⟩)
 have hN := Aside0.mk (show (p0 = true → n = l0 ∧ d = l1) ∧ (p0 = false → n = Bn.limbs 0 ∧ d = Bn.limbs 1) from by
   unfold cleanB at h
   rw [← hp0] at h
   refine ⟨fun e => ?_, fun e => ?_⟩
   ·rw [if_pos e] at h
    injection h with h1 h2
    exact ⟨h1.symm, h2.symm⟩
   ·rw [if_neg (by rw [e]; decide)] at h
    injection h with h1 h2
    exact ⟨by rw [Bn.limbs_zero]; exact h1.symm, by rw [limbs_1]; exact h2.symm⟩)
 clear hp0 h L0 L1
 go_enter Tryd.func93, Tryd.ntmps93
 go_wp2_with (first | ((with_reducible refine gate_dst (N := 1) rfl ?_); (try (refine gate_guard (by rfl) ?_; dsimp only)); refine box_event ?hg (N := 1) ?hd (.slice A0 l0.length c0) (.slice A1 l1.length c1) ?hr ?_; (case hd => rfl); (case hg => rfl); (case hr => first | (go_simp; done) | (go_simp; rfl)); intro ba wa1 hx_ hs_ hb_; skip; have Sa := Aside0.mk (Nat.le_trans (below_size HB.out) hs_); have Xa := Aside0.mk hx_; replace C0 := Aside0.mk (Kd.C_below C0.out hb_); replace C1 := Aside0.mk (Kd.C_below C1.out hb_); replace HB := Aside0.mk (below_step HB.out hb_); have qaa := Bx.c0 Xa.out; have qba := Bx.c1 Xa.out; clear hb_ hx_ hs_) | ((with_reducible refine gate_dst (N := 2) rfl ?_); (try (refine gate_guard (by rfl) ?_; dsimp only)); refine box_event ?hg (N := 2) ?hd (.slice none 0 0) (.slice none 0 0) ?hr ?_; (case hd => rfl); (case hg => rfl); (case hr => first | (go_simp; done) | (go_simp; rfl)); intro bz wa2 hx_ hs_ hb_; have Naz := Aside0.mk (Bx.ne Xa.out hs_); skip; have Sz := Aside0.mk (Nat.le_trans (below_size HB.out) hs_); have Xz := Aside0.mk hx_; replace C0 := Aside0.mk (Kd.C_below C0.out hb_); replace C1 := Aside0.mk (Kd.C_below C1.out hb_); clear qaa qba; replace Xa := Aside0.mk (Bx.below Xa.out hb_); have qaa := Bx.c0 Xa.out; have qba := Bx.c1 Xa.out; replace HB := Aside0.mk (below_step HB.out hb_); skip; clear hb_ hx_ hs_))
 refine (ratValid_calls A0 c0 l0 A1 c1 l1 p0 wa2 C0.out H0.out C1.out H1.out hL.out.1 hL.out.2 hP0.out).mono ?_
 rintro e wa3 ⟨rfl, hb_⟩
 replace C0 := Aside0.mk (Kd.C_below C0.out hb_)
 replace C1 := Aside0.mk (Kd.C_below C1.out hb_)
 clear qaa qba
 replace Xa := Aside0.mk (Bx.below Xa.out hb_)
 have qaa := Bx.c0 Xa.out
 have qba := Bx.c1 Xa.out
 replace Xz := Aside0.mk (Bx.below Xz.out hb_)
 replace HB := Aside0.mk (below_step HB.out hb_)
 clear hb_
 cases p0 with
 | false =>
  obtain ⟨e0_, e1_⟩ := hN.out.2 (by trivial)
  have hZ := Aside0.mk (show n = Bn.limbs 0 ∧ d = Bn.limbs 1 from ⟨e0_, e1_⟩)
  clear e0_ e1_ hN
  go_wp2_with fail
  refine (ratZero_calls n d wa3 hZ.out).mono ?_
  rintro e wa4 ⟨Aq, cq, Ae, ce, rfl, hCq_, hHq_, hCe_, hHe_, hb_⟩
  replace C0 := Aside0.mk (Kd.C_below C0.out hb_)
  replace C1 := Aside0.mk (Kd.C_below C1.out hb_)
  clear qaa qba
  replace Xa := Aside0.mk (Bx.below Xa.out hb_)
  have qaa := Bx.c0 Xa.out
  have qba := Bx.c1 Xa.out
  replace Xz := Aside0.mk (Bx.below Xz.out hb_)
  replace HB := Aside0.mk (below_step HB.out hb_)
  have Cq := Aside0.mk hCq_
  have Hq := Aside0.mk hHq_
  clear hCq_ hHq_
  have Ce := Aside0.mk hCe_
  have He := Aside0.mk hHe_
  clear hCe_ hHe_
  clear hb_
  clear qaa qba
  have qaz := Bx.c0 Xz.out
  have qbz := Bx.c1 Xz.out
  have qcz := Bx.f0 Xz.out
  have qdz := Bx.f1 Xz.out
  go_wp2_with fail
  refine bodyPost_ret (results_cell48 rfl rfl (Bx.store Xz.out (.slice Aq n.length cq) (.slice Ae d.length ce))) rfl ?_
  exact Rat1.intro ⟨_, _, _, _, rfl, C_store Xz.out Cq.out _ _, Hq.out, C_store Xz.out Ce.out _ _, He.out, below_set (below_set HB.out Sz.out) Sz.out⟩
 | true =>
  obtain ⟨rfl, rfl⟩ := hN.out.1 (by trivial)
  clear hN
  have qaz := Bx.c0 Xz.out
  have qbz := Bx.c1 Xz.out
  have qcz := Bx.f0 Xz.out
  have qdz := Bx.f1 Xz.out
  go_wp2_with fail
  refine bodyPost_ret (results_cell48 rfl rfl (Bx.store Xz.out (.slice A0 n.length c0) (.slice A1 d.length c1))) rfl ?_
  exact Rat1.intro ⟨_, _, _, _, rfl, C_store Xz.out C0.out _ _, H0.out, C_store Xz.out C1.out _ _, H1.out, below_set (below_set HB.out Sz.out) Sz.out⟩

set_option maxHeartbeats 16000000 in
set_option maxRecDepth 100000 in
/-- Compare. -/
theorem ratCompare_calls (A0 : Option Addr) (c0 : Nat) (l0 : List Int) (A1 : Option Addr) (c1 : Nat) (l1 : List Int) (A2 : Option Addr) (c2 : Nat) (l2 : List Int) (A3 : Option Addr) (c3 : Nat) (l3 : List Int) (R : Int) (w : World) (hr0 : Kd.C (Kd.int .u32) w A0 l0.length l0) (hc0 : l0.length ≤ c0) (hr1 : Kd.C (Kd.int .u32) w A1 l1.length l1) (hc1 : l1.length ≤ c1) (hr2 : Kd.C (Kd.int .u32) w A2 l2.length l2) (hc2 : l2.length ≤ c2) (hr3 : Kd.C (Kd.int .u32) w A3 l3.length l3) (hc3 : l3.length ≤ c3)  (L0 : Bn.Limbs l0) (L1 : Bn.Limbs l1) (L2 : Bn.Limbs l2) (L3 : Bn.Limbs l3) (hR : R = compareR l0 l1 l2 l3) :
  Calls Tryd.prog 44 #[.agg #[.slice A0 l0.length c0, .slice A1 l1.length c1], .agg #[.slice A2 l2.length c2, .slice A3 l3.length c3]] w fun e w' => e = .returned (.int .i64 R) ∧ Below w.heap.size w w' := by
 have C0 := Aside0.mk hr0
 have H0 := Aside0.mk hc0
 clear hr0 hc0
 have C1 := Aside0.mk hr1
 have H1 := Aside0.mk hc1
 clear hr1 hc1
 have C2 := Aside0.mk hr2
 have H2 := Aside0.mk hc2
 clear hr2 hc2
 have C3 := Aside0.mk hr3
 have H3 := Aside0.mk hc3
 clear hr3 hc3
 have HB := Aside0.mk (Below.refl w.heap.size w)
 obtain ⟨⟨n0, d0⟩, hc0⟩ : ∃ t, t = cleanB l0 l1 := ⟨_, rfl⟩
 obtain ⟨⟨n1, d1⟩, hc1⟩ : ∃ t, t = cleanB l2 l3 := ⟨_, rfl⟩
 have hK0 := Aside0.mk (show Bn.Limbs l0 ∧ Bn.Limbs l1 ∧ cleanB l0 l1 = (n0, d0) from ⟨L0, L1, hc0.symm⟩)
 have hK1 := Aside0.mk (show Bn.Limbs l2 ∧ Bn.Limbs l3 ∧ cleanB l2 l3 = (n1, d1) from ⟨L2, L3, hc1.symm⟩)
 have hF0 := Aside0.mk (show FracOk n0 d0 ∧ FracOk n1 d1 from ⟨by have h := clean_ok L0 L1; rwa [← hc0] at h, by have h := clean_ok L2 L3; rwa [← hc1] at h⟩)
 have hRR := Aside0.mk (show (1 : Int) * cmpN (Bn.nv n0 * Bn.nv d1) (Bn.nv n1 * Bn.nv d0) = R from by rw [hR, Int.one_mul]; unfold compareR; rw [← hc0, ← hc1])
 clear hc0 hc1 hR L0 L1 L2 L3
 go_enter Tryd.func44, Tryd.ntmps44
 go_wp2_with (first | ((with_reducible refine gate_dst (N := 2) rfl ?_); (try (refine gate_guard (by rfl) ?_; dsimp only)); refine box_event ?hg (N := 2) ?hd (.slice A0 l0.length c0) (.slice A1 l1.length c1) ?hr ?_; (case hd => rfl); (case hg => rfl); (case hr => first | (go_simp; done) | (go_simp; rfl)); intro ba wa1 hx_ hs_ hb_; skip; have Sa := Aside0.mk (Nat.le_trans (below_size HB.out) hs_); have Xa := Aside0.mk hx_; replace C0 := Aside0.mk (Kd.C_below C0.out hb_); replace C1 := Aside0.mk (Kd.C_below C1.out hb_); replace C2 := Aside0.mk (Kd.C_below C2.out hb_); replace C3 := Aside0.mk (Kd.C_below C3.out hb_); replace HB := Aside0.mk (below_step HB.out hb_); have qaa := Bx.c0 Xa.out; have qba := Bx.c1 Xa.out; clear hb_ hx_ hs_) | ((with_reducible refine gate_dst (N := 3) rfl ?_); (try (refine gate_guard (by rfl) ?_; dsimp only)); refine box_event ?hg (N := 3) ?hd (.slice A2 l2.length c2) (.slice A3 l3.length c3) ?hr ?_; (case hd => rfl); (case hg => rfl); (case hr => first | (go_simp; done) | (go_simp; rfl)); intro bb wa2 hx_ hs_ hb_; have Nab := Aside0.mk (Bx.ne Xa.out hs_); skip; have Sb := Aside0.mk (Nat.le_trans (below_size HB.out) hs_); have Xb := Aside0.mk hx_; replace C0 := Aside0.mk (Kd.C_below C0.out hb_); replace C1 := Aside0.mk (Kd.C_below C1.out hb_); replace C2 := Aside0.mk (Kd.C_below C2.out hb_); replace C3 := Aside0.mk (Kd.C_below C3.out hb_); clear qaa qba; replace Xa := Aside0.mk (Bx.below Xa.out hb_); have qaa := Bx.c0 Xa.out; have qba := Bx.c1 Xa.out; replace HB := Aside0.mk (below_step HB.out hb_); have qab := Bx.c0 Xb.out; have qbb := Bx.c1 Xb.out; clear hb_ hx_ hs_))
 go_step3
 go_wp2_with fail
 have hb_ : Below wa2.heap.size wa2 wa2.drew := below_drew1 (Below.refl _ _)
 have hSd_ : (fun w' : World => w'.cell? ⟨ba, 0, none⟩ = some (.slice A0 l0.length c0) ∧ w'.cell? ⟨ba, 1, none⟩ = some (.slice A1 l1.length c1) ∧ w'.cell? ⟨bb, 0, none⟩ = some (.slice A2 l2.length c2) ∧ w'.cell? ⟨bb, 1, none⟩ = some (.slice A3 l3.length c3)) wa2.drew := ⟨qaa, qba, qab, qbb⟩
 refine start_ (n := 8) (S := fun w' => w'.cell? ⟨ba, 0, none⟩ = some (.slice A0 l0.length c0) ∧ w'.cell? ⟨ba, 1, none⟩ = some (.slice A1 l1.length c1) ∧ w'.cell? ⟨bb, 0, none⟩ = some (.slice A2 l2.length c2) ∧ w'.cell? ⟨bb, 1, none⟩ = some (.slice A3 l3.length c3)) (ds := [5, 6, 7]) #[false, false, false, false, false, false, false, false] (by kernel_rfl) rfl rfl hSd_ (fun hHeld => ?_)
 clear hSd_
 replace C0 := Aside0.mk (Kd.C_below C0.out hb_)
 replace C1 := Aside0.mk (Kd.C_below C1.out hb_)
 replace C2 := Aside0.mk (Kd.C_below C2.out hb_)
 replace C3 := Aside0.mk (Kd.C_below C3.out hb_)
 clear qaa qba
 replace Xa := Aside0.mk (Bx.below Xa.out hb_)
 have qaa := Bx.c0 Xa.out
 have qba := Bx.c1 Xa.out
 clear qab qbb
 replace Xb := Aside0.mk (Bx.below Xb.out hb_)
 have qab := Bx.c0 Xb.out
 have qbb := Bx.c1 Xb.out
 replace HB := Aside0.mk (below_step HB.out hb_)
 clear hb_
 generalize wa2.drew = wa3 at *
 refine pure_ (i := 0) (N := some 14) (v := ?_) (a' := ?_) #[true, false, false, false, false, false, false, false] rfl rfl (by kernel_rfl) (fun _ _ _ h => h) (Or.inl ⟨by rfl, ?_⟩) ?_ ?_
 rotate_left
 ·intro w'
  go_simp
  with_reducible rfl
 rotate_left
 ·simp only [Act.put, List.setIfInBounds_toArray, List.set_cons_zero, List.set_cons_succ, i64_w, i32_w]
  rfl
 refine take_ (i := 1) (N := some 15) (v := ?_) (a' := ?_) #[true, true, false, false, false, false, false, false] rfl rfl (by kernel_rfl) (fun _ _ _ h => h) (Or.inl ⟨by rfl, ?_⟩) hHeld ?_ ?_
 rotate_left
 ·rintro w' ⟨s0, s1, s2, s3⟩
  go_simp
  with_reducible rfl
 rotate_left
 ·simp only [Act.put, List.setIfInBounds_toArray, List.set_cons_zero, List.set_cons_succ, i64_w, i32_w]
  rfl
 refine pure_ (i := 3) (N := some 17) (v := ?_) (a' := ?_) #[true, true, false, true, false, false, false, false] rfl rfl (by kernel_rfl) (fun _ _ _ h => h) (Or.inl ⟨by rfl, ?_⟩) ?_ ?_
 rotate_left
 ·intro w'
  go_simp
  with_reducible rfl
 rotate_left
 ·simp only [Act.put, List.setIfInBounds_toArray, List.set_cons_zero, List.set_cons_succ, i64_w, i32_w]
  rfl
 refine take_ (i := 4) (N := some 18) (v := ?_) (a' := ?_) #[true, true, false, true, true, false, false, false] rfl rfl (by kernel_rfl) (fun _ _ _ h => h) (Or.inl ⟨by rfl, ?_⟩) hHeld ?_ ?_
 rotate_left
 ·rintro w' ⟨s0, s1, s2, s3⟩
  go_simp
  with_reducible rfl
 rotate_left
 ·simp only [Act.put, List.setIfInBounds_toArray, List.set_cons_zero, List.set_cons_succ, i64_w, i32_w]
  rfl
 refine one_ (i := 2) (N := some 16) #[true, true, true, true, true, false, false, false] rfl rfl (by kernel_rfl) (by decide) (fun K hK => ?_)
 refine call_ 93 #[.agg #[.slice A0 l0.length c0, .slice A1 l1.length c1]] (by rfl) rfl (by go_simp; try rfl) ?_
 refine (clean_calls A0 c0 l0 A1 c1 l1 n0 d0 wa3 C0.out H0.out C1.out H1.out hK0.out.1 hK0.out.2.1 hK0.out.2.2).mono ?_
 rintro e wa4 ⟨An0, cn0, Ad0, cd0, rfl, hCn0_, hHn0_, hCd0_, hHd0_, hb_⟩
 replace C0 := Aside0.mk (Kd.C_below C0.out hb_)
 replace C1 := Aside0.mk (Kd.C_below C1.out hb_)
 replace C2 := Aside0.mk (Kd.C_below C2.out hb_)
 replace C3 := Aside0.mk (Kd.C_below C3.out hb_)
 clear qaa qba
 replace Xa := Aside0.mk (Bx.below Xa.out hb_)
 have qaa := Bx.c0 Xa.out
 have qba := Bx.c1 Xa.out
 clear qab qbb
 replace Xb := Aside0.mk (Bx.below Xb.out hb_)
 have qab := Bx.c0 Xb.out
 have qbb := Bx.c1 Xb.out
 replace HB := Aside0.mk (below_step HB.out hb_)
 have Cn0 := Aside0.mk hCn0_
 have Hn0 := Aside0.mk hHn0_
 clear hCn0_ hHn0_
 have Cd0 := Aside0.mk hCd0_
 have Hd0 := Aside0.mk hHd0_
 clear hCd0_ hHd0_
 clear hb_
 refine ⟨_, rfl, ?_⟩
 clear hHeld
 refine hK.out _ _ ⟨qaa, qba, qab, qbb⟩ (fun hHeld => ?_)
 clear hK K
 refine norm_ (a' := ?_) ?_ ?_
 rotate_left
 ·show Act.put _ (some 16) _ = _
  simp only [Act.put, List.setIfInBounds_toArray, List.set_cons_zero, List.set_cons_succ, i64_w, i32_w]
  rfl
 refine last_ (i := 5) (N := some 19) #[true, true, true, true, true, true, false, false] rfl rfl (by kernel_rfl) (by decide) (fun K hK => ?_)
 refine call_ 93 #[.agg #[.slice A2 l2.length c2, .slice A3 l3.length c3]] (by rfl) rfl (by go_simp; try rfl) ?_
 refine (clean_calls A2 c2 l2 A3 c3 l3 n1 d1 wa4 C2.out H2.out C3.out H3.out hK1.out.1 hK1.out.2.1 hK1.out.2.2).mono ?_
 rintro e wa5 ⟨An1, cn1, Ad1, cd1, rfl, hCn1_, hHn1_, hCd1_, hHd1_, hb_⟩
 replace C0 := Aside0.mk (Kd.C_below C0.out hb_)
 replace C1 := Aside0.mk (Kd.C_below C1.out hb_)
 replace C2 := Aside0.mk (Kd.C_below C2.out hb_)
 replace C3 := Aside0.mk (Kd.C_below C3.out hb_)
 replace Cn0 := Aside0.mk (Kd.C_below Cn0.out hb_)
 replace Cd0 := Aside0.mk (Kd.C_below Cd0.out hb_)
 clear qaa qba
 replace Xa := Aside0.mk (Bx.below Xa.out hb_)
 have qaa := Bx.c0 Xa.out
 have qba := Bx.c1 Xa.out
 clear qab qbb
 replace Xb := Aside0.mk (Bx.below Xb.out hb_)
 have qab := Bx.c0 Xb.out
 have qbb := Bx.c1 Xb.out
 replace HB := Aside0.mk (below_step HB.out hb_)
 have Cn1 := Aside0.mk hCn1_
 have Hn1 := Aside0.mk hHn1_
 clear hCn1_ hHn1_
 have Cd1 := Aside0.mk hCd1_
 have Hd1 := Aside0.mk hHd1_
 clear hCd1_ hHd1_
 clear hb_
 refine ⟨_, rfl, ?_⟩
 refine hK.out _ _ ?_
 clear hK K
 refine norm_ (a' := ?_) ?_ ?_
 rotate_left
 ·show Act.put _ (some 19) _ = _
  simp only [Act.put, List.setIfInBounds_toArray, List.set_cons_zero, List.set_cons_succ, i64_w, i32_w]
  rfl
 have qaa := Bx.c0 Xa.out
 have qba := Bx.c1 Xa.out
 have qca := Bx.f0 Xa.out
 have qda := Bx.f1 Xa.out
 refine last_ (i := 6) (N := none) #[true, true, true, true, true, true, true, false] rfl rfl (by kernel_rfl) (by decide) (fun K hK => ?_)
 refine skip_ (w1 := (wa5.setCell ⟨ba, 0, none⟩ (.slice An0 n0.length cn0)).setCell ⟨ba, 1, none⟩ (.slice Ad0 d0.length cd0)) (by rfl) rfl (by go_simp; try rfl) ?_
 refine hK.out _ _ ?_
 clear hK K
 have hx_ := Bx.store Xa.out (.slice An0 n0.length cn0) (.slice Ad0 d0.length cd0)
 replace C0 := Aside0.mk (C_store Xa.out C0.out (.slice An0 n0.length cn0) (.slice Ad0 d0.length cd0))
 replace C1 := Aside0.mk (C_store Xa.out C1.out (.slice An0 n0.length cn0) (.slice Ad0 d0.length cd0))
 replace C2 := Aside0.mk (C_store Xa.out C2.out (.slice An0 n0.length cn0) (.slice Ad0 d0.length cd0))
 replace C3 := Aside0.mk (C_store Xa.out C3.out (.slice An0 n0.length cn0) (.slice Ad0 d0.length cd0))
 replace Cn0 := Aside0.mk (C_store Xa.out Cn0.out (.slice An0 n0.length cn0) (.slice Ad0 d0.length cd0))
 replace Cd0 := Aside0.mk (C_store Xa.out Cd0.out (.slice An0 n0.length cn0) (.slice Ad0 d0.length cd0))
 replace Cn1 := Aside0.mk (C_store Xa.out Cn1.out (.slice An0 n0.length cn0) (.slice Ad0 d0.length cd0))
 replace Cd1 := Aside0.mk (C_store Xa.out Cd1.out (.slice An0 n0.length cn0) (.slice Ad0 d0.length cd0))
 clear qaa qba
 clear qca qda
 clear qab qbb
 replace Xb := Aside0.mk (Bx.other Xb.out (Ne.symm Nab.out) (.slice An0 n0.length cn0) (.slice Ad0 d0.length cd0))
 replace HB := Aside0.mk (below_set (j := 1) (v := (.slice Ad0 d0.length cd0)) (below_set (j := 0) (v := (.slice An0 n0.length cn0)) HB.out Sa.out) Sa.out)
 clear Xa
 have Xa := Aside0.mk hx_
 clear hx_
 generalize (wa5.setCell ⟨ba, 0, none⟩ (.slice An0 n0.length cn0)).setCell ⟨ba, 1, none⟩ (.slice Ad0 d0.length cd0) = wa6 at *
 have qaa := Bx.c0 Xa.out
 have qba := Bx.c1 Xa.out
 have qca := Bx.f0 Xa.out
 have qda := Bx.f1 Xa.out
 have qab := Bx.c0 Xb.out
 have qbb := Bx.c1 Xb.out
 have qab := Bx.c0 Xb.out
 have qbb := Bx.c1 Xb.out
 have qcb := Bx.f0 Xb.out
 have qdb := Bx.f1 Xb.out
 refine last_ (i := 7) (N := none) #[true, true, true, true, true, true, true, true] rfl rfl (by kernel_rfl) (by decide) (fun K hK => ?_)
 refine skip_ (w1 := (wa6.setCell ⟨bb, 0, none⟩ (.slice An1 n1.length cn1)).setCell ⟨bb, 1, none⟩ (.slice Ad1 d1.length cd1)) (by rfl) rfl (by go_simp; try rfl) ?_
 refine hK.out _ _ ?_
 clear hK K
 have hx_ := Bx.store Xb.out (.slice An1 n1.length cn1) (.slice Ad1 d1.length cd1)
 replace C0 := Aside0.mk (C_store Xb.out C0.out (.slice An1 n1.length cn1) (.slice Ad1 d1.length cd1))
 replace C1 := Aside0.mk (C_store Xb.out C1.out (.slice An1 n1.length cn1) (.slice Ad1 d1.length cd1))
 replace C2 := Aside0.mk (C_store Xb.out C2.out (.slice An1 n1.length cn1) (.slice Ad1 d1.length cd1))
 replace C3 := Aside0.mk (C_store Xb.out C3.out (.slice An1 n1.length cn1) (.slice Ad1 d1.length cd1))
 replace Cn0 := Aside0.mk (C_store Xb.out Cn0.out (.slice An1 n1.length cn1) (.slice Ad1 d1.length cd1))
 replace Cd0 := Aside0.mk (C_store Xb.out Cd0.out (.slice An1 n1.length cn1) (.slice Ad1 d1.length cd1))
 replace Cn1 := Aside0.mk (C_store Xb.out Cn1.out (.slice An1 n1.length cn1) (.slice Ad1 d1.length cd1))
 replace Cd1 := Aside0.mk (C_store Xb.out Cd1.out (.slice An1 n1.length cn1) (.slice Ad1 d1.length cd1))
 clear qaa qba
 clear qca qda
 replace Xa := Aside0.mk (Bx.other Xa.out Nab.out (.slice An1 n1.length cn1) (.slice Ad1 d1.length cd1))
 clear qab qbb
 clear qcb qdb
 replace HB := Aside0.mk (below_set (j := 1) (v := (.slice Ad1 d1.length cd1)) (below_set (j := 0) (v := (.slice An1 n1.length cn1)) HB.out Sb.out) Sb.out)
 clear Xb
 have Xb := Aside0.mk hx_
 clear hx_
 generalize (wa6.setCell ⟨bb, 0, none⟩ (.slice An1 n1.length cn1)).setCell ⟨bb, 1, none⟩ (.slice Ad1 d1.length cd1) = wa7 at *
 have qaa := Bx.c0 Xa.out
 have qba := Bx.c1 Xa.out
 have qca := Bx.f0 Xa.out
 have qda := Bx.f1 Xa.out
 have qab := Bx.c0 Xb.out
 have qbb := Bx.c1 Xb.out
 have qcb := Bx.f0 Xb.out
 have qdb := Bx.f1 Xb.out
 refine done_ (by kernel_rfl) ?_
 clear C0 H0
 clear C1 H1
 clear C2 H2
 clear C3 H3
 clear hK0 hK1
 go_wp2_with fail
 go_step3
 go_wp2_with fail
 go_loopg [6] (Bn.nv d0) (fun kq v6 w' => ∃ (sg : Int) (x0 y0 x1 y1 : List Int) (A : Option Addr) (c : Nat) (B : Option Addr) (cB : Nat) (A' : Option Addr) (c' : Nat) (B' : Option Addr) (cB' : Nat), v6 = .int .i64 sg ∧ Aside0 (kq = Bn.nv y0) ∧ Aside0 (Bx w' ba (.slice A x0.length c) (.slice B y0.length cB)) ∧ Aside0 (Bx w' bb (.slice A' x1.length c') (.slice B' y1.length cB')) ∧ Aside0 (Kd.C (Kd.int .u32) w' A x0.length x0) ∧ Aside0 (x0.length ≤ c) ∧ Aside0 (Kd.C (Kd.int .u32) w' B y0.length y0) ∧ Aside0 (y0.length ≤ cB) ∧ Aside0 (Kd.C (Kd.int .u32) w' A' x1.length x1) ∧ Aside0 (x1.length ≤ c') ∧ Aside0 (Kd.C (Kd.int .u32) w' B' y1.length y1) ∧ Aside0 (y1.length ≤ cB') ∧ Aside0 (FracOk x0 y0 ∧ FracOk x1 y1) ∧ Aside0 (sg = 1 ∨ sg = -1) ∧ Aside0 (sg * cmpN (Bn.nv x0 * Bn.nv y1) (Bn.nv x1 * Bn.nv y0) = R) ∧ Aside0 (Below w.heap.size w w'))
 case atStart => exact ⟨1, n0, d0, n1, d1, _, _, _, _, _, _, _, _, rfl, ⟨rfl⟩, Xa, Xb, Cn0, Hn0, Cd0, Hd0, Cn1, Hn1, Cd1, Hd1, hF0, ⟨Or.inl rfl⟩, hRR, HB⟩
 case round =>
  clear hF0 hRR HB Xa Xb Cn0 Hn0 Cd0 Hd0 Cn1 Hn1 Cd1 Hd1 qaa qba qca qda qab qbb qcb qdb
  obtain ⟨sg, x0, y0, x1, y1, Ax0, cx0, Ay0, cy0, Ax1, cx1, Ay1, cy1, rfl, hk, Xa, Xb, Cx0, Hx0, Cy0, Hy0, Cx1, Hx1, Cy1, Hy1, hF, hsg, hR, HB⟩ := hrel
  have qaa := Bx.c0 Xa.out
  have qba := Bx.c1 Xa.out
  have qca := Bx.f0 Xa.out
  have qda := Bx.f1 Xa.out
  have qab := Bx.c0 Xb.out
  have qbb := Bx.c1 Xb.out
  have qcb := Bx.f0 Xb.out
  have qdb := Bx.f1 Xb.out
  obtain ⟨p, r, e1, lp, sp, vp, vr, hr, fr, zr⟩ := hF.out.1.divs
  obtain ⟨q, s, e2, lq, sq, vq, vs, hs, fs, zs⟩ := hF.out.2.divs
  have hy0 : 0 < Bn.nv y0 := Nat.lt_of_le_of_lt (Nat.zero_le _) hr
  have hy1 : 0 < Bn.nv y1 := Nat.lt_of_le_of_lt (Nat.zero_le _) hs
  have hStep := Aside0.mk (cmp_step (A := Bn.nv x0) (C := Bn.nv x1) (sign := sg) (R := R) (c := 0) (a := 0) (b := 0) (p := 0) (d := 0) (r := 0) (s := 0) hy0 hy1 hsg.out hR.out)
  obtain ⟨c, hc⟩ : ∃ c, c = cmpN (Bn.nv x0 / Bn.nv y0) (Bn.nv x1 / Bn.nv y1) := ⟨_, rfl⟩
  have hC := Aside0.mk (show bignat_Compare.f 200 p q = some c from by rw [Compare_f lp lq (by decide), vp, vq, hc])
  have hD0 := Aside0.mk e1
  have hD1 := Aside0.mk e2
  have hFr := Aside0.mk (show (r ≠ [] → FracOk y0 r) ∧ (s ≠ [] → FracOk y1 s) from ⟨fr, fs⟩)
  have hZr := Aside0.mk (show (r = [] ↔ Bn.nv x0 % Bn.nv y0 = 0) ∧ (s = [] ↔ Bn.nv x1 % Bn.nv y1 = 0) from ⟨by rw [← vr]; exact zr, by rw [← vs]; exact zs⟩)
  have hVr := Aside0.mk (show Bn.nv r = Bn.nv x0 % Bn.nv y0 ∧ Bn.nv s = Bn.nv x1 % Bn.nv y1 ∧ Bn.nv r < Bn.nv y0 from ⟨vr, vs, hr⟩)
  rw [← hc] at hStep
  clear e1 lp sp vp vr hr fr zr e2 lq sq vq vs hs fs zs hy0 hy1 hc
  go_wp2_with fail
  refine (bignat_DivMod.calls 4001 Ax0 cx0 x0 Ay0 cy0 y0 p r 0 _ Cx0.out Hx0.out Cy0.out Hy0.out hD0.out).mono ?_
  rintro e wa8 ⟨v_, u_, rfl, hr_, hu_, hb_⟩
  replace Cx0 := Aside0.mk (Kd.C_below Cx0.out hb_)
  replace Cy0 := Aside0.mk (Kd.C_below Cy0.out hb_)
  replace Cx1 := Aside0.mk (Kd.C_below Cx1.out hb_)
  replace Cy1 := Aside0.mk (Kd.C_below Cy1.out hb_)
  clear qaa qba
  clear qca qda
  replace Xa := Aside0.mk (Bx.below Xa.out hb_)
  have qaa := Bx.c0 Xa.out
  have qba := Bx.c1 Xa.out
  have qca := Bx.f0 Xa.out
  have qda := Bx.f1 Xa.out
  clear qab qbb
  clear qcb qdb
  replace Xb := Aside0.mk (Bx.below Xb.out hb_)
  have qab := Bx.c0 Xb.out
  have qbb := Bx.c1 Xb.out
  have qcb := Bx.f0 Xb.out
  have qdb := Bx.f1 Xb.out
  replace HB := Aside0.mk (below_step HB.out hb_)
  obtain ⟨Ap, cp, rfl⟩ := Kd.R_slice hr_
  have Cp := Aside0.mk (Kd.R_reads' hr_).2.2
  have Hp := Aside0.mk (show p.length ≤ cp from (Kd.R_reads' hr_).2.1)
  obtain ⟨Ar, cr, rfl⟩ := Kd.R_slice hu_
  have Cr := Aside0.mk (Kd.R_reads' hu_).2.2
  have Hr := Aside0.mk (show r.length ≤ cr from (Kd.R_reads' hu_).2.1)
  clear hr_ hu_ hb_
  go_wp2_with fail
  refine (bignat_DivMod.calls 4001 Ax1 cx1 x1 Ay1 cy1 y1 q s 0 wa8 Cx1.out Hx1.out Cy1.out Hy1.out hD1.out).mono ?_
  rintro e wa9 ⟨v_, u_, rfl, hr_, hu_, hb_⟩
  replace Cx0 := Aside0.mk (Kd.C_below Cx0.out hb_)
  replace Cy0 := Aside0.mk (Kd.C_below Cy0.out hb_)
  replace Cx1 := Aside0.mk (Kd.C_below Cx1.out hb_)
  replace Cy1 := Aside0.mk (Kd.C_below Cy1.out hb_)
  replace Cp := Aside0.mk (Kd.C_below Cp.out hb_)
  replace Cr := Aside0.mk (Kd.C_below Cr.out hb_)
  clear qaa qba
  clear qca qda
  replace Xa := Aside0.mk (Bx.below Xa.out hb_)
  have qaa := Bx.c0 Xa.out
  have qba := Bx.c1 Xa.out
  have qca := Bx.f0 Xa.out
  have qda := Bx.f1 Xa.out
  clear qab qbb
  clear qcb qdb
  replace Xb := Aside0.mk (Bx.below Xb.out hb_)
  have qab := Bx.c0 Xb.out
  have qbb := Bx.c1 Xb.out
  have qcb := Bx.f0 Xb.out
  have qdb := Bx.f1 Xb.out
  replace HB := Aside0.mk (below_step HB.out hb_)
  obtain ⟨Aq, cq, rfl⟩ := Kd.R_slice hr_
  have Cq := Aside0.mk (Kd.R_reads' hr_).2.2
  have Hq := Aside0.mk (show q.length ≤ cq from (Kd.R_reads' hr_).2.1)
  obtain ⟨As, cs, rfl⟩ := Kd.R_slice hu_
  have Cs := Aside0.mk (Kd.R_reads' hu_).2.2
  have Hs := Aside0.mk (show s.length ≤ cs from (Kd.R_reads' hu_).2.1)
  clear hr_ hu_ hb_
  go_wp2_with fail
  refine (bignat_Compare.calls 200 Ap cp p Aq cq q c wa9 Cp.out Hp.out Cq.out Hq.out hC.out).mono ?_
  rintro e wa10 ⟨rfl, hb_⟩
  replace Cx0 := Aside0.mk (Kd.C_below Cx0.out hb_)
  replace Cy0 := Aside0.mk (Kd.C_below Cy0.out hb_)
  replace Cx1 := Aside0.mk (Kd.C_below Cx1.out hb_)
  replace Cy1 := Aside0.mk (Kd.C_below Cy1.out hb_)
  replace Cp := Aside0.mk (Kd.C_below Cp.out hb_)
  replace Cr := Aside0.mk (Kd.C_below Cr.out hb_)
  replace Cq := Aside0.mk (Kd.C_below Cq.out hb_)
  replace Cs := Aside0.mk (Kd.C_below Cs.out hb_)
  clear qaa qba
  clear qca qda
  replace Xa := Aside0.mk (Bx.below Xa.out hb_)
  have qaa := Bx.c0 Xa.out
  have qba := Bx.c1 Xa.out
  have qca := Bx.f0 Xa.out
  have qda := Bx.f1 Xa.out
  clear qab qbb
  clear qcb qdb
  replace Xb := Aside0.mk (Bx.below Xb.out hb_)
  have qab := Bx.c0 Xb.out
  have qbb := Bx.c1 Xb.out
  have qcb := Bx.f0 Xb.out
  have qdb := Bx.f1 Xb.out
  replace HB := Aside0.mk (below_step HB.out hb_)
  clear hb_
  by_cases hc0 : c = 0
  ·obtain rfl := hc0
   have hT := Aside0.mk (hStep.out.2 rfl)
   clear hStep hC
   by_cases hr0 : r = []
   ·have hrm := Aside0.mk (hZr.out.1.1 hr0)
    have g1 : ((r.length : Int) == 0) = true := by rw [hr0]; rfl
    by_cases hs0 : s = []
    ·have hsm := Aside0.mk (hZr.out.2.1 hs0)
     obtain rfl := hr0
     obtain rfl := hs0
     obtain rfl : (0 : Int) = R := hT.out.1 hrm.out hsm.out
     go_wp2_with fail
     rw [Exit.noGoto_ret]
     go_ret
     exact ⟨rfl, HB.out⟩
    ·have hsm := Aside0.mk (fun h => hs0 (hZr.out.2.2 h))
     obtain rfl := hr0
     have g2 : ((s.length : Int) == 0) = false := by
      have : 0 < s.length := List.length_pos_iff.2 hs0
      rw [beq_eq_false_iff_ne]
      omega
     obtain rfl : wrap64 (-sg) = R := hT.out.2.1 hrm.out hsm.out
     go_wp2_with fail
     rw [Exit.noGoto_ret]
     go_ret
     exact ⟨rfl, HB.out⟩
   ·have hrm := Aside0.mk (fun h => hr0 (hZr.out.1.2 h))
    have g1 : ((r.length : Int) == 0) = false := by
     have : 0 < r.length := List.length_pos_iff.2 hr0
     rw [beq_eq_false_iff_ne]
     omega
    by_cases hs0 : s = []
    ·have hsm := Aside0.mk (hZr.out.2.1 hs0)
     obtain rfl := hs0
     obtain rfl : sg = R := hT.out.2.2.1 hrm.out hsm.out
     go_wp2_with fail
     rw [Exit.noGoto_ret]
     go_ret
     exact ⟨rfl, HB.out⟩
    ·have g2 : ((s.length : Int) == 0) = false := by
      have : 0 < s.length := List.length_pos_iff.2 hs0
      rw [beq_eq_false_iff_ne]
      omega
     have hG := Aside0.mk (show FracOk y0 r ∧ FracOk y1 s from ⟨hFr.out.1 hr0, hFr.out.2 hs0⟩)
     go_wp2_with fail
     have hb_ : Below wa10.heap.size wa10 wa10.drew := below_drew1 (Below.refl _ _)
     have hSd_ : (fun w' : World => w'.cell? ⟨bb, 0, none⟩ = some (.slice Ax1 x1.length cx1) ∧ w'.cell? ⟨bb, 1, none⟩ = some (.slice Ay1 y1.length cy1)) wa10.drew := ⟨qab, qbb⟩
     refine start_ (n := 10) (S := fun w' => w'.cell? ⟨bb, 0, none⟩ = some (.slice Ax1 x1.length cx1) ∧ w'.cell? ⟨bb, 1, none⟩ = some (.slice Ay1 y1.length cy1)) (ds := [9]) #[false, false, false, false, false, false, false, false, false, false] (by kernel_rfl) rfl rfl hSd_ (fun hHeld => ?_)
     clear hSd_
     replace Cx0 := Aside0.mk (Kd.C_below Cx0.out hb_)
     replace Cy0 := Aside0.mk (Kd.C_below Cy0.out hb_)
     replace Cx1 := Aside0.mk (Kd.C_below Cx1.out hb_)
     replace Cy1 := Aside0.mk (Kd.C_below Cy1.out hb_)
     replace Cp := Aside0.mk (Kd.C_below Cp.out hb_)
     replace Cr := Aside0.mk (Kd.C_below Cr.out hb_)
     replace Cq := Aside0.mk (Kd.C_below Cq.out hb_)
     replace Cs := Aside0.mk (Kd.C_below Cs.out hb_)
     clear qaa qba
     clear qca qda
     replace Xa := Aside0.mk (Bx.below Xa.out hb_)
     have qaa := Bx.c0 Xa.out
     have qba := Bx.c1 Xa.out
     have qca := Bx.f0 Xa.out
     have qda := Bx.f1 Xa.out
     clear qab qbb
     clear qcb qdb
     replace Xb := Aside0.mk (Bx.below Xb.out hb_)
     have qab := Bx.c0 Xb.out
     have qbb := Bx.c1 Xb.out
     have qcb := Bx.f0 Xb.out
     have qdb := Bx.f1 Xb.out
     replace HB := Aside0.mk (below_step HB.out hb_)
     clear hb_
     generalize wa10.drew = wa11 at *
     refine pure_ (i := 0) (N := some 67) (v := ?_) (a' := ?_) #[true, false, false, false, false, false, false, false, false, false] rfl rfl (by kernel_rfl) (fun _ _ _ h => h) (Or.inl ⟨by rfl, ?_⟩) ?_ ?_
     rotate_left
     ·intro w'
      go_simp
      with_reducible rfl
     rotate_left
     ·simp only [Act.put, List.setIfInBounds_toArray, List.set_cons_zero, List.set_cons_succ, i64_w, i32_w]
      rfl
     refine pure_ (i := 2) (N := some 69) (v := ?_) (a' := ?_) #[true, false, true, false, false, false, false, false, false, false] rfl rfl (by kernel_rfl) (fun _ _ _ h => h) (Or.inl ⟨by rfl, ?_⟩) ?_ ?_
     rotate_left
     ·intro w'
      go_simp
      with_reducible rfl
     rotate_left
     ·simp only [Act.put, List.setIfInBounds_toArray, List.set_cons_zero, List.set_cons_succ, i64_w, i32_w]
      rfl
     refine pure_ (i := 4) (N := some 71) (v := ?_) (a' := ?_) #[true, false, true, false, true, false, false, false, false, false] rfl rfl (by kernel_rfl) (fun _ _ _ h => h) (Or.inl ⟨by rfl, ?_⟩) ?_ ?_
     rotate_left
     ·intro w'
      go_simp
      with_reducible rfl
     rotate_left
     ·simp only [Act.put, List.setIfInBounds_toArray, List.set_cons_zero, List.set_cons_succ, i64_w, i32_w]
      rfl
     refine take_ (i := 5) (N := some 72) (v := ?_) (a' := ?_) #[true, false, true, false, true, true, false, false, false, false] rfl rfl (by kernel_rfl) (fun _ _ _ h => h) (Or.inl ⟨by rfl, ?_⟩) hHeld ?_ ?_
     rotate_left
     ·rintro w' ⟨s0, s1⟩
      go_simp
      with_reducible rfl
     rotate_left
     ·simp only [Act.put, List.setIfInBounds_toArray, List.set_cons_zero, List.set_cons_succ, i64_w, i32_w]
      rfl
     refine pure_ (i := 6) (N := some 73) (v := ?_) (a' := ?_) #[true, false, true, false, true, true, true, false, false, false] rfl rfl (by kernel_rfl) (fun _ _ _ h => h) (Or.inl ⟨by rfl, ?_⟩) ?_ ?_
     rotate_left
     ·intro w'
      go_simp
      with_reducible rfl
     rotate_left
     ·simp only [Act.put, List.setIfInBounds_toArray, List.set_cons_zero, List.set_cons_succ, i64_w, i32_w]
      rfl
     refine pure_ (i := 7) (N := some 74) (v := ?_) (a' := ?_) #[true, false, true, false, true, true, true, true, false, false] rfl rfl (by kernel_rfl) (fun _ _ _ h => h) (Or.inl ⟨by rfl, ?_⟩) ?_ ?_
     rotate_left
     ·intro w'
      go_simp
      with_reducible rfl
     rotate_left
     ·simp only [Act.put, List.setIfInBounds_toArray, List.set_cons_zero, List.set_cons_succ, i64_w, i32_w]
      rfl
     refine one_ (i := 1) (N := some 68) #[true, true, true, false, true, true, true, true, false, false] rfl rfl (by kernel_rfl) (by decide) (fun K hK => ?_)
     refine value1_ (v := ?_) (by rfl) rfl ?_ ?_
     rotate_left
     ·go_simp
      with_reducible rfl
     rotate_left
     refine hK.out _ _ hHeld (fun hHeld => ?_)
     clear hK K
     refine norm_ (a' := ?_) ?_ ?_
     rotate_left
     ·show Act.put _ (some 68) _ = _
      simp only [Act.put, List.setIfInBounds_toArray, List.set_cons_zero, List.set_cons_succ, i64_w, i32_w]
      rfl
     refine pure_ (i := 3) (N := some 70) (v := ?_) (a' := ?_) #[true, true, true, true, true, true, true, true, false, false] rfl rfl (by kernel_rfl) (fun _ _ _ h => h) (Or.inl ⟨by rfl, ?_⟩) ?_ ?_
     rotate_left
     ·intro w'
      go_simp
      with_reducible rfl
     rotate_left
     ·simp only [Act.put, List.setIfInBounds_toArray, List.set_cons_zero, List.set_cons_succ, i64_w, i32_w]
      rfl
     have qaa := Bx.c0 Xa.out
     have qba := Bx.c1 Xa.out
     have qca := Bx.f0 Xa.out
     have qda := Bx.f1 Xa.out
     refine one_ (i := 8) (N := none) #[true, true, true, true, true, true, true, true, true, false] rfl rfl (by kernel_rfl) (by decide) (fun K hK => ?_)
     refine skip_ (w1 := (wa11.setCell ⟨ba, 0, none⟩ (.slice Ay0 y0.length cy0)).setCell ⟨ba, 1, none⟩ (.slice Ar r.length cr)) (by rfl) rfl (by go_simp; try rfl) ?_
     clear hHeld
     have hx_ := Bx.store Xa.out (.slice Ay0 y0.length cy0) (.slice Ar r.length cr)
     replace Cx0 := Aside0.mk (C_store Xa.out Cx0.out (.slice Ay0 y0.length cy0) (.slice Ar r.length cr))
     replace Cy0 := Aside0.mk (C_store Xa.out Cy0.out (.slice Ay0 y0.length cy0) (.slice Ar r.length cr))
     replace Cx1 := Aside0.mk (C_store Xa.out Cx1.out (.slice Ay0 y0.length cy0) (.slice Ar r.length cr))
     replace Cy1 := Aside0.mk (C_store Xa.out Cy1.out (.slice Ay0 y0.length cy0) (.slice Ar r.length cr))
     replace Cp := Aside0.mk (C_store Xa.out Cp.out (.slice Ay0 y0.length cy0) (.slice Ar r.length cr))
     replace Cr := Aside0.mk (C_store Xa.out Cr.out (.slice Ay0 y0.length cy0) (.slice Ar r.length cr))
     replace Cq := Aside0.mk (C_store Xa.out Cq.out (.slice Ay0 y0.length cy0) (.slice Ar r.length cr))
     replace Cs := Aside0.mk (C_store Xa.out Cs.out (.slice Ay0 y0.length cy0) (.slice Ar r.length cr))
     clear qaa qba
     clear qca qda
     clear qab qbb
     clear qcb qdb
     replace Xb := Aside0.mk (Bx.other Xb.out (Ne.symm Nab.out) (.slice Ay0 y0.length cy0) (.slice Ar r.length cr))
     replace HB := Aside0.mk (below_set (j := 1) (v := (.slice Ar r.length cr)) (below_set (j := 0) (v := (.slice Ay0 y0.length cy0)) HB.out Sa.out) Sa.out)
     clear Xa
     have Xa := Aside0.mk hx_
     clear hx_
     generalize (wa11.setCell ⟨ba, 0, none⟩ (.slice Ay0 y0.length cy0)).setCell ⟨ba, 1, none⟩ (.slice Ar r.length cr) = wa12 at *
     have qaa := Bx.c0 Xa.out
     have qba := Bx.c1 Xa.out
     have qca := Bx.f0 Xa.out
     have qda := Bx.f1 Xa.out
     have qab := Bx.c0 Xb.out
     have qbb := Bx.c1 Xb.out
     have qcb := Bx.f0 Xb.out
     have qdb := Bx.f1 Xb.out
     refine hK.out _ _ ⟨qab, qbb⟩ (fun hHeld => ?_)
     clear hK K
     have qab := Bx.c0 Xb.out
     have qbb := Bx.c1 Xb.out
     have qcb := Bx.f0 Xb.out
     have qdb := Bx.f1 Xb.out
     refine last_ (i := 9) (N := none) #[true, true, true, true, true, true, true, true, true, true] rfl rfl (by kernel_rfl) (by decide) (fun K hK => ?_)
     refine skip_ (w1 := (wa12.setCell ⟨bb, 0, none⟩ (.slice Ay1 y1.length cy1)).setCell ⟨bb, 1, none⟩ (.slice As s.length cs)) (by rfl) rfl (by go_simp; try rfl) ?_
     refine hK.out _ _ ?_
     clear hK K
     have hx_ := Bx.store Xb.out (.slice Ay1 y1.length cy1) (.slice As s.length cs)
     replace Cx0 := Aside0.mk (C_store Xb.out Cx0.out (.slice Ay1 y1.length cy1) (.slice As s.length cs))
     replace Cy0 := Aside0.mk (C_store Xb.out Cy0.out (.slice Ay1 y1.length cy1) (.slice As s.length cs))
     replace Cx1 := Aside0.mk (C_store Xb.out Cx1.out (.slice Ay1 y1.length cy1) (.slice As s.length cs))
     replace Cy1 := Aside0.mk (C_store Xb.out Cy1.out (.slice Ay1 y1.length cy1) (.slice As s.length cs))
     replace Cp := Aside0.mk (C_store Xb.out Cp.out (.slice Ay1 y1.length cy1) (.slice As s.length cs))
     replace Cr := Aside0.mk (C_store Xb.out Cr.out (.slice Ay1 y1.length cy1) (.slice As s.length cs))
     replace Cq := Aside0.mk (C_store Xb.out Cq.out (.slice Ay1 y1.length cy1) (.slice As s.length cs))
     replace Cs := Aside0.mk (C_store Xb.out Cs.out (.slice Ay1 y1.length cy1) (.slice As s.length cs))
     clear qaa qba
     clear qca qda
     replace Xa := Aside0.mk (Bx.other Xa.out Nab.out (.slice Ay1 y1.length cy1) (.slice As s.length cs))
     clear qab qbb
     clear qcb qdb
     replace HB := Aside0.mk (below_set (j := 1) (v := (.slice As s.length cs)) (below_set (j := 0) (v := (.slice Ay1 y1.length cy1)) HB.out Sb.out) Sb.out)
     clear Xb
     have Xb := Aside0.mk hx_
     clear hx_
     generalize (wa12.setCell ⟨bb, 0, none⟩ (.slice Ay1 y1.length cy1)).setCell ⟨bb, 1, none⟩ (.slice As s.length cs) = wa13 at *
     have qaa := Bx.c0 Xa.out
     have qba := Bx.c1 Xa.out
     have qca := Bx.f0 Xa.out
     have qda := Bx.f1 Xa.out
     have qab := Bx.c0 Xb.out
     have qbb := Bx.c1 Xb.out
     have qcb := Bx.f0 Xb.out
     have qdb := Bx.f1 Xb.out
     refine done_ (by kernel_rfl) ?_
     go_wp2_with fail
     go_roundg (Bn.nv r)
     case measure =>
      rw [hk.out]
      exact hVr.out.2.2
     case rel =>
      refine ⟨wrap64 (-sg), y0, r, y1, s, _, _, _, _, _, _, _, _, by first | rfl | simp, ⟨rfl⟩, Xa, Xb, Cy0, Hy0, Cr, Hr, Cy1, Hy1, Cs, Hs, hG, ⟨?_⟩, ⟨?_⟩, HB⟩
      ·rcases hsg.out with h | h <;> rw [h]
       ·exact .inr (w64 (by omega) (by omega))
       ·exact .inl (w64 (by omega) (by omega))
      ·have h := hT.out.2.2.2
       rw [hVr.out.1, hVr.out.2.1]
       exact h
  ·have g0 : (c != 0) = true := bne_iff_ne.2 hc0
   have g1 : (c == 0) = false := beq_eq_false_iff_ne.2 hc0
   obtain rfl : wrap64 (sg * c) = R := hStep.out.1 hc0
   go_wp2_with fail
   rw [Exit.noGoto_ret]
   go_ret
   exact ⟨rfl, HB.out⟩

theorem refcmp_facts {n0 d0 n1 d1 : List Int} (h0 : FracOk n0 d0) (h1 : FracOk n1 d1) : ∃ m0 m1, lineageref03_Mul.f 20000 n0 d1 = some m0 ∧ lineageref03_Mul.f 20000 n1 d0 = some m1 ∧ lineageref03_Compare.f 1000 m0 m1 = some (cmpN (Bn.nv n0 * Bn.nv d1) (Bn.nv n1 * Bn.nv d0)) := by
 obtain ⟨a0, s0, b0, t0, z0⟩ := h0
 obtain ⟨a1, s1, b1, t1, z1⟩ := h1
 have hl : ∀ x y : List Int, Bn.Limbs x → Bn.Limbs y → x.length ≤ 128 → y.length ≤ 128 → (Bn.limbs (Bn.nv x * Bn.nv y)).length ≤ 256 := fun x y hx hy sx sy => (Bn.limbs_len _ _).2 (by
  have h1 := Nat.lt_of_lt_of_le (Bn.nv_lt hx) (Nat.pow_le_pow_right (show 0 < 4294967296 by decide) sx)
  have h2 := Nat.lt_of_lt_of_le (Bn.nv_lt hy) (Nat.pow_le_pow_right (show 0 < 4294967296 by decide) sy)
  rw [show (256 : Nat) = 128 + 128 from rfl, Nat.pow_add]
  exact Nat.mul_lt_mul'' h1 h2)
 have k0 := hl n0 d1 a0.1 b1.1 s0 t1
 refine ⟨_, _, ref_mul_row ⟨a0, s0⟩ ⟨b1, t1⟩, ref_mul_row ⟨a1, s1⟩ ⟨b0, t0⟩, ?_⟩
 rw [refCompare_f (Bn.nrm_limbs _) (Bn.nrm_limbs _) (by omega) (by omega), Bn.nv_limbs, Bn.nv_limbs]
theorem clean_eq {a b n d : List Int} {p : Bool} (hp : p = ratB a b) (h : (n, d) = cleanB a b) : (p = true → n = a ∧ d = b) ∧ (p = false → n = [] ∧ d = [1]) := by
 unfold cleanB at h
 rw [← hp] at h
 refine ⟨fun e => ?_, fun e => ?_⟩
 ·rw [if_pos e] at h
  injection h with h1 h2
  exact ⟨h1, h2⟩
 ·rw [if_neg (by rw [e]; decide)] at h
  injection h with h1 h2
  exact ⟨h1, h2⟩

/-- what the closure of Permille says at n -/
def aboveB (n : Nat) (a b : List Int) : Bool := decide (1000 * Bn.nv a < (n + 1) * Bn.nv b)
theorem above_facts {n : Nat} (hn : n ≤ 1000000) {a b x y : List Int} (La : Bn.Limbs a) (Lb : Bn.Limbs b) (hv : ratB a b = true) (h : newB (Bn.limbs (n + 1)) (Bn.limbs 1000) = ((x, y), 0)) : Bn.Limbs x ∧ Bn.Limbs y ∧ decide (compareR x y a b > 0) = aboveB n a b := by
 unfold newB at h
 have h1 : (Bn.limbs (n + 1)).length ≤ 128 := Nat.le_trans ((Bn.limbs_len _ 1).2 (by omega)) (by decide)
 have h2 : (Bn.limbs 1000).length ≤ 128 := Nat.le_trans ((Bn.limbs_len _ 1).2 (by decide)) (by decide)
 rw [if_pos ⟨validB_limbs h1, validB_limbs h2, limbs_ne (by decide)⟩, Bn.nv_limbs, Bn.nv_limbs] at h
 injection h with h3 h4
 injection h3 with h5 h6
 have hg : 0 < Nat.gcd (n + 1) 1000 := Nat.gcd_pos_of_pos_right _ (by decide)
 have d1 := Nat.gcd_dvd_left (n + 1) 1000
 have d2 := Nat.gcd_dvd_right (n + 1) 1000
 have L1 : Bn.Limbs x := by rw [← h5]; exact Bn.limbs_limbs _
 have L2 : Bn.Limbs y := by rw [← h6]; exact Bn.limbs_limbs _
 have ex : Bn.nv x = (n + 1) / Nat.gcd (n + 1) 1000 := by rw [← h5, Bn.nv_limbs]
 have ey : Bn.nv y = 1000 / Nat.gcd (n + 1) 1000 := by rw [← h6, Bn.nv_limbs]
 have hr : ratB x y = true := by
  have hx : (Bn.limbs ((n + 1) / Nat.gcd (n + 1) 1000)).length ≤ 128 := Nat.le_trans ((Bn.limbs_len _ 1).2 (Nat.lt_of_le_of_lt (Nat.div_le_self _ _) (by omega))) (by decide)
  have hy : (Bn.limbs (1000 / Nat.gcd (n + 1) 1000)).length ≤ 128 := Nat.le_trans ((Bn.limbs_len _ 1).2 (Nat.lt_of_le_of_lt (Nat.div_le_self _ _) (by decide))) (by decide)
  refine (ratB_iff L1 L2).2 ⟨⟨by rw [← h5]; exact Bn.nrm_limbs _, by rw [← h5]; exact hx⟩, ⟨by rw [← h6]; exact Bn.nrm_limbs _, by rw [← h6]; exact hy⟩, by rw [← h6]; exact limbs_ne (Nat.div_pos (Nat.le_of_dvd (by decide) d2) hg), ?_⟩
  rw [ex, ey]
  rw [Nat.gcd_div d1 d2, Nat.div_self hg]
 refine ⟨L1, L2, ?_⟩
 unfold compareR cleanB aboveB
 rw [if_pos hr, if_pos hv]
 show decide (cmpN (Bn.nv x * Bn.nv b) (Bn.nv a * Bn.nv y) > 0) = _
 have key : (n + 1) * Bn.nv b = Nat.gcd (n + 1) 1000 * (Bn.nv x * Bn.nv b) ∧ 1000 * Bn.nv a = Nat.gcd (n + 1) 1000 * (Bn.nv a * Bn.nv y) := by
  constructor
  ·rw [← Nat.mul_assoc, ex, Nat.mul_div_cancel' d1]
  ·rw [Nat.mul_comm (Bn.nv a), ← Nat.mul_assoc, ey, Nat.mul_div_cancel' d2]
 rw [key.1, key.2]
 generalize Bn.nv x * Bn.nv b = X
 generalize Bn.nv a * Bn.nv y = Y
 unfold cmpN
 rcases Nat.lt_trichotomy X Y with h | h | h
 ·have h7 := Nat.mul_le_mul_left (Nat.gcd (n + 1) 1000) (Nat.le_of_lt h)
  rw [if_pos h, decide_eq_false (show ¬ (Nat.gcd (n + 1) 1000 * Y < Nat.gcd (n + 1) 1000 * X) by omega)]
  rfl
 ·rw [if_neg (by omega), if_neg (by omega), h, decide_eq_false (show ¬ (Nat.gcd (n + 1) 1000 * Y < Nat.gcd (n + 1) 1000 * Y) by omega)]
  rfl
 ·have h7 := Nat.mul_lt_mul_of_pos_left h hg
  rw [if_neg (by omega), if_pos h, decide_eq_true h7]
  rfl

set_option maxHeartbeats 16000000 in
set_option maxRecDepth 100000 in
/-- The closure of Permille. -/
theorem above_calls (A0 : Option Addr) (c0 : Nat) (l0 : List Int) (A1 : Option Addr) (c1 : Nat) (l1 : List Int) (n ba : Nat) (b : Bool) (w : World) (hr0 : Kd.C (Kd.int .u32) w A0 l0.length l0) (hc0 : l0.length ≤ c0) (hr1 : Kd.C (Kd.int .u32) w A1 l1.length l1) (hc1 : l1.length ≤ c1)  (hx : Bx w ba (.slice A0 l0.length c0) (.slice A1 l1.length c1)) (hn : n ≤ 1000000) (L0 : Bn.Limbs l0) (L1 : Bn.Limbs l1) (hv : ratB l0 l1 = true) (hr : b = aboveB n l0 l1) :
  Calls Tryd.prog 97 #[.int .i64 (n : Int), .pointer (some ⟨ba, 0, none⟩)] w fun e w' => e = .returned (.bool b) ∧ Below w.heap.size w w' := by
 have C0 := Aside0.mk hr0
 have H0 := Aside0.mk hc0
 clear hr0 hc0
 have C1 := Aside0.mk hr1
 have H1 := Aside0.mk hc1
 clear hr1 hc1
 have HB := Aside0.mk (Below.refl w.heap.size w)
 obtain ⟨⟨⟨x, y⟩, ec⟩, ht⟩ : ∃ t, t = newB (Bn.limbs (n + 1)) (Bn.limbs 1000) := ⟨_, rfl⟩
 obtain rfl : ec = 0 := by
   have h1 : (Bn.limbs (n + 1)).length ≤ 128 := Nat.le_trans ((Bn.limbs_len _ 1).2 (by omega)) (by decide)
   have h2 : (Bn.limbs 1000).length ≤ 128 := Nat.le_trans ((Bn.limbs_len _ 1).2 (by decide)) (by decide)
   unfold newB at ht
   rw [if_pos ⟨validB_limbs h1, validB_limbs h2, limbs_ne (by decide)⟩] at ht
   injection ht
 have hF := Aside0.mk (show n + 1 < 18446744073709551616 ∧ 1000 < 18446744073709551616 ∧ newB (Bn.limbs (n + 1)) (Bn.limbs 1000) = ((x, y), 0) from ⟨by omega, by decide, ht.symm⟩)
 obtain ⟨k1, k2, k3⟩ := above_facts hn L0 L1 hv ht.symm
 have hL := Aside0.mk (show Bn.Limbs x ∧ Bn.Limbs y ∧ Bn.Limbs l0 ∧ Bn.Limbs l1 from ⟨k1, k2, L0, L1⟩)
 obtain ⟨R, hR⟩ : ∃ R, R = compareR x y l0 l1 := ⟨_, rfl⟩
 have hC := Aside0.mk hR
 have hG := Aside0.mk (show decide (R > 0) = b from by rw [hr, hR]; exact k3)
 have Xa := Aside0.mk hx
 have w1 : IntKind.u64.wrap (n : Int) = (n : Int) := u64N (by omega)
 have w2 : IntKind.u64.wrap ((n : Int) + 1) = ((n + 1 : Nat) : Int) := by
   rw [show (n : Int) + 1 = ((n + 1 : Nat) : Int) by omega]
   exact u64N (by omega)
 clear ht k1 k2 k3 hR hn L0 L1 hv hr hx
 have qaa := Bx.c0 Xa.out
 have qba := Bx.c1 Xa.out
 go_enter Tryd.func97, Tryd.ntmps97
 go_wp2_with fail
 refine (FromInts_calls (n + 1) 1000 x y 0 w hF.out.1 hF.out.2.1 hF.out.2.2).mono ?_
 rintro e wa1 ⟨Ax, cx, Ay, cy, rfl, hCx_, hHx_, hCy_, hHy_, hb_⟩
 replace C0 := Aside0.mk (Kd.C_below C0.out hb_)
 replace C1 := Aside0.mk (Kd.C_below C1.out hb_)
 clear qaa qba
 replace Xa := Aside0.mk (Bx.below Xa.out hb_)
 have qaa := Bx.c0 Xa.out
 have qba := Bx.c1 Xa.out
 replace HB := Aside0.mk (below_step HB.out hb_)
 have Cx := Aside0.mk hCx_
 have Hx := Aside0.mk hHx_
 clear hCx_ hHx_
 have Cy := Aside0.mk hCy_
 have Hy := Aside0.mk hHy_
 clear hCy_ hHy_
 clear hb_
 go_wp2_with (first | ((with_reducible refine gate_dst (N := 4) rfl ?_); (try (refine gate_guard (by rfl) ?_; dsimp only)); refine box_event ?hg (N := 4) ?hd (.slice none 0 0) (.slice none 0 0) ?hr ?_; (case hd => rfl); (case hg => rfl); (case hr => first | (go_simp; done) | (go_simp; rfl)); intro br wa2 hx_ hs_ hb_; have Nar := Aside0.mk (Bx.ne Xa.out hs_); skip; have Sr := Aside0.mk (Nat.le_trans (below_size HB.out) hs_); have Xr := Aside0.mk hx_; replace C0 := Aside0.mk (Kd.C_below C0.out hb_); replace C1 := Aside0.mk (Kd.C_below C1.out hb_); replace Cx := Aside0.mk (Kd.C_below Cx.out hb_); replace Cy := Aside0.mk (Kd.C_below Cy.out hb_); clear qaa qba; replace Xa := Aside0.mk (Bx.below Xa.out hb_); have qaa := Bx.c0 Xa.out; have qba := Bx.c1 Xa.out; replace HB := Aside0.mk (below_step HB.out hb_); have qar := Bx.c0 Xr.out; have qbr := Bx.c1 Xr.out; have qcr := Bx.f0 Xr.out; have qdr := Bx.f1 Xr.out; clear hb_ hx_ hs_) | (refine store_event (by rfl) (by rfl) Xr.out (.slice Ax x.length cx) (.slice Ay y.length cy) ?hr ?_; (case hr => first | (go_simp; done) | (go_simp; rfl)); intro wa3 he_ hx_; replace C0 := Aside0.mk (C_store Xr.out C0.out (.slice Ax x.length cx) (.slice Ay y.length cy)); replace C1 := Aside0.mk (C_store Xr.out C1.out (.slice Ax x.length cx) (.slice Ay y.length cy)); replace Cx := Aside0.mk (C_store Xr.out Cx.out (.slice Ax x.length cx) (.slice Ay y.length cy)); replace Cy := Aside0.mk (C_store Xr.out Cy.out (.slice Ax x.length cx) (.slice Ay y.length cy)); clear qaa qba; replace Xa := Aside0.mk (Bx.other Xa.out Nar.out (.slice Ax x.length cx) (.slice Ay y.length cy)); clear qar qbr; clear qcr qdr; replace HB := Aside0.mk (below_set (j := 1) (v := (.slice Ay y.length cy)) (below_set (j := 0) (v := (.slice Ax x.length cx)) HB.out Sr.out) Sr.out); clear Xr; have Xr := Aside0.mk hx_; have qaa := Bx.c0 Xa.out; have qba := Bx.c1 Xa.out; have qar := Bx.c0 Xr.out; have qbr := Bx.c1 Xr.out; have qcr := Bx.f0 Xr.out; have qdr := Bx.f1 Xr.out; generalize (wa2.setCell ⟨br, 0, none⟩ (.slice Ax x.length cx)).setCell ⟨br, 1, none⟩ (.slice Ay y.length cy) = wg_ at *; subst he_; clear hx_))
 refine (ratCompare_calls Ax cx x Ay cy y A0 c0 l0 A1 c1 l1 R wa3 Cx.out Hx.out Cy.out Hy.out C0.out H0.out C1.out H1.out hL.out.1 hL.out.2.1 hL.out.2.2.1 hL.out.2.2.2 hC.out).mono ?_
 rintro e wa4 ⟨rfl, hb_⟩
 replace C0 := Aside0.mk (Kd.C_below C0.out hb_)
 replace C1 := Aside0.mk (Kd.C_below C1.out hb_)
 replace Cx := Aside0.mk (Kd.C_below Cx.out hb_)
 replace Cy := Aside0.mk (Kd.C_below Cy.out hb_)
 clear qaa qba
 replace Xa := Aside0.mk (Bx.below Xa.out hb_)
 have qaa := Bx.c0 Xa.out
 have qba := Bx.c1 Xa.out
 clear qar qbr
 clear qcr qdr
 replace Xr := Aside0.mk (Bx.below Xr.out hb_)
 have qar := Bx.c0 Xr.out
 have qbr := Bx.c1 Xr.out
 have qcr := Bx.f0 Xr.out
 have qdr := Bx.f1 Xr.out
 replace HB := Aside0.mk (below_step HB.out hb_)
 clear hb_
 have hg := hG.out
 go_wp2_with fail
 go_ret
 exact ⟨rfl, HB.out⟩

/-- what Permille answers on a valid fraction -/
def permN (a b : List Int) : Nat := min (1000 * Bn.nv a / Bn.nv b) 1000000
theorem above_iff {n : Nat} {a b : List Int} (hb : 0 < Bn.nv b) : aboveB n a b = true ↔ 1000 * Bn.nv a / Bn.nv b ≤ n := by
 unfold aboveB
 rw [decide_eq_true_iff, ← Nat.div_lt_iff_lt_mul hb]
 omega
set_option maxHeartbeats 16000000 in
set_option maxRecDepth 100000 in
/-- sort.Search with the closure of Permille. -/
theorem search_calls (A0 : Option Addr) (c0 : Nat) (l0 : List Int) (A1 : Option Addr) (c1 : Nat) (l1 : List Int) (ba : Nat) (w : World) (hr0 : Kd.C (Kd.int .u32) w A0 l0.length l0) (hc0 : l0.length ≤ c0) (hr1 : Kd.C (Kd.int .u32) w A1 l1.length l1) (hc1 : l1.length ≤ c1) (hx : Bx w ba (.slice A0 l0.length c0) (.slice A1 l1.length c1)) (L0 : Bn.Limbs l0) (L1 : Bn.Limbs l1) (hv : ratB l0 l1 = true) :
  Calls Tryd.prog 98 #[.int .i64 1000000, .func (.func 97) #[] #[.pointer (some ⟨ba, 0, none⟩)]] w fun e w' => e = .returned (.int .i64 (permN l0 l1 : Int)) ∧ Below w.heap.size w w' := by
 have C0 := Aside0.mk hr0
 have H0 := Aside0.mk hc0
 have C1 := Aside0.mk hr1
 have H1 := Aside0.mk hc1
 have Xa := Aside0.mk hx
 have hL := Aside0.mk (show Bn.Limbs l0 ∧ Bn.Limbs l1 ∧ ratB l0 l1 = true from ⟨L0, L1, hv⟩)
 have hp := Aside0.mk (nv_pos ((ratB_iff L0 L1).1 hv).2.1.1 ((ratB_iff L0 L1).1 hv).2.2.1)
 have HB := Aside0.mk (Below.refl w.heap.size w)
 clear hr0 hc0 hr1 hc1 hx L0 L1 hv
 go_enter Tryd.func98, Tryd.ntmps98
 go_wp2_with fail
 go_loopg [5, 6] 1000000 (fun kq v5 v6 w' => ∃ (i j : Nat), v5 = .int .i64 (i : Int) ∧ v6 = .int .i64 (j : Int) ∧ Aside0 (kq = j - i ∧ i ≤ permN l0 l1 ∧ permN l0 l1 ≤ j ∧ j ≤ 1000000) ∧ Aside0 (Below w.heap.size w w'))
 case atStart => exact ⟨0, 1000000, rfl, rfl, ⟨⟨rfl, Nat.zero_le _, Nat.min_le_right _ _, Nat.le_refl _⟩⟩, HB⟩
 case round =>
  clear HB
  obtain ⟨i, j, rfl, rfl, hI, HB⟩ := hrel
  by_cases hij : i < j
  ·have g1 : decide ((i : Int) < (j : Int)) = true := decide_eq_true (by omega)
   have hj : j ≤ 1000000 := hI.out.2.2.2
   have hh : (i + j) / 2 < j ∧ i ≤ (i + j) / 2 := by omega
   obtain ⟨h, hh0⟩ : ∃ h, h = (i + j) / 2 := ⟨_, rfl⟩
   go_wp2_with fail
   rw [show ((i : Int) + (j : Int)) / 2 = (h : Int) by omega]
   have hb2 := Aside0.mk (show h < j ∧ i ≤ h from by rw [hh0]; exact hh)
   obtain ⟨b, hb⟩ : ∃ b, b = aboveB h l0 l1 := ⟨_, rfl⟩
   have hb3 := Aside0.mk hb
   refine (above_calls A0 c0 l0 A1 c1 l1 h ba b _ (Kd.C_below C0.out HB.out) H0.out (Kd.C_below C1.out HB.out) H1.out (Bx.below Xa.out HB.out) (by omega) hL.out.1 hL.out.2.1 hL.out.2.2 hb).mono ?_
   clear hb hh0 hh g1
   rintro e wa1 ⟨rfl, hb_⟩
   have HB_ := Aside0.mk (below_step HB.out hb_)
   clear HB hb_
   have HB := HB_
   clear HB_
   cases b with
   | false =>
    have hk := Aside0.mk (show h + 1 ≤ permN l0 l1 from by
     have h1 := hI.out
     have h2 := hb2.out
     have h3 := mt (above_iff (n := h) (a := l0) (b := l1) hp.out).2 (by rw [← hb3.out]; decide)
     unfold permN at *
     omega)
    go_wp2_with fail
    go_roundg (j - (h + 1))
    case measure =>
     have h1 := hI.out
     have h2 := hb2.out
     omega
    case rel =>
     have h1 := hI.out
     have h2 := hb2.out
     exact ⟨h + 1, j, congrArg (Value.int .i64) ((w64 (by omega) (by omega)).trans (by omega)), rfl, ⟨⟨rfl, hk.out, h1.2.2.1, h1.2.2.2⟩⟩, HB⟩
   | true =>
    have hk := Aside0.mk (show permN l0 l1 ≤ h from by
     have h3 := (above_iff (n := h) (a := l0) (b := l1) hp.out).1 hb3.out.symm
     unfold permN
     omega)
    go_wp2_with fail
    go_roundg (h - i)
    case measure =>
     have h1 := hI.out
     have h2 := hb2.out
     omega
    case rel =>
     have h1 := hI.out
     have h2 := hb2.out
     exact ⟨i, h, rfl, rfl, ⟨⟨rfl, h1.2.1, hk.out, by omega⟩⟩, HB⟩
  ·have g1 : decide ((i : Int) < (j : Int)) = false := decide_eq_false (by omega)
   have e : permN l0 l1 = i := by have h := hI.out; omega
   go_wp2_with fail
   go_ret
   rw [e]
   exact ⟨rfl, HB.out⟩

/-- What Permille answers. -/
def permR (a b : List Int) : Int := if ratB a b = true then (permN a b : Int) else 0

set_option maxHeartbeats 16000000 in
set_option maxRecDepth 100000 in
/-- Permille. -/
theorem permille_calls (A0 : Option Addr) (c0 : Nat) (l0 : List Int) (A1 : Option Addr) (c1 : Nat) (l1 : List Int) (R : Int) (w : World) (hr0 : Kd.C (Kd.int .u32) w A0 l0.length l0) (hc0 : l0.length ≤ c0) (hr1 : Kd.C (Kd.int .u32) w A1 l1.length l1) (hc1 : l1.length ≤ c1)  (L0 : Bn.Limbs l0) (L1 : Bn.Limbs l1) (hr : R = permR l0 l1) :
  Calls Tryd.prog 50 #[.agg #[.slice A0 l0.length c0, .slice A1 l1.length c1]] w fun e w' => e = .returned (.int .i64 R) ∧ Below w.heap.size w w' := by
 have C0 := Aside0.mk hr0
 have H0 := Aside0.mk hc0
 clear hr0 hc0
 have C1 := Aside0.mk hr1
 have H1 := Aside0.mk hc1
 clear hr1 hc1
 have HB := Aside0.mk (Below.refl w.heap.size w)
 obtain ⟨p0, hp0⟩ : ∃ p, p = ratB l0 l1 := ⟨_, rfl⟩
 have hP0 := Aside0.mk (show Bn.Limbs l0 ∧ Bn.Limbs l1 ∧ p0 = ratB l0 l1 from ⟨L0, L1, hp0⟩)
 have hR := Aside0.mk (show (p0 = true → R = (permN l0 l1 : Int)) ∧ (p0 = false → R = 0) from by
   rw [hr, hp0]
   unfold permR
   exact ⟨fun e => if_pos e, fun e => if_neg (by rw [e]; decide)⟩)
 clear hp0 hr L0 L1
 go_enter Tryd.func50, Tryd.ntmps50
 go_wp2_with (first | ((with_reducible refine gate_dst (N := 1) rfl ?_); (try (refine gate_guard (by rfl) ?_; dsimp only)); refine box_event ?hg (N := 1) ?hd (.slice A0 l0.length c0) (.slice A1 l1.length c1) ?hr ?_; (case hd => rfl); (case hg => rfl); (case hr => first | (go_simp; done) | (go_simp; rfl)); intro ba wa1 hx_ hs_ hb_; skip; have Sa := Aside0.mk (Nat.le_trans (below_size HB.out) hs_); have Xa := Aside0.mk hx_; replace C0 := Aside0.mk (Kd.C_below C0.out hb_); replace C1 := Aside0.mk (Kd.C_below C1.out hb_); replace HB := Aside0.mk (below_step HB.out hb_); have qaa := Bx.c0 Xa.out; have qba := Bx.c1 Xa.out; clear hb_ hx_ hs_))
 refine (ratValid_calls A0 c0 l0 A1 c1 l1 p0 wa1 C0.out H0.out C1.out H1.out hP0.out.1 hP0.out.2.1 hP0.out.2.2).mono ?_
 rintro e wa2 ⟨rfl, hb_⟩
 replace C0 := Aside0.mk (Kd.C_below C0.out hb_)
 replace C1 := Aside0.mk (Kd.C_below C1.out hb_)
 clear qaa qba
 replace Xa := Aside0.mk (Bx.below Xa.out hb_)
 have qaa := Bx.c0 Xa.out
 have qba := Bx.c1 Xa.out
 replace HB := Aside0.mk (below_step HB.out hb_)
 clear hb_
 cases p0 with
 | false =>
  obtain rfl := hR.out.2 (by trivial)
  go_wp2_with fail
  go_ret
  exact ⟨rfl, HB.out⟩
 | true =>
  obtain rfl := hR.out.1 (by trivial)
  clear hR
  go_wp2_with fail
  refine (search_calls A0 c0 l0 A1 c1 l1 ba wa2 C0.out H0.out C1.out H1.out Xa.out hP0.out.1 hP0.out.2.1 hP0.out.2.2.symm).mono ?_
  rintro e wa3 ⟨rfl, hb_⟩
  replace C0 := Aside0.mk (Kd.C_below C0.out hb_)
  replace C1 := Aside0.mk (Kd.C_below C1.out hb_)
  clear qaa qba
  replace Xa := Aside0.mk (Bx.below Xa.out hb_)
  have qaa := Bx.c0 Xa.out
  have qba := Bx.c1 Xa.out
  replace HB := Aside0.mk (below_step HB.out hb_)
  clear hb_
  go_wp2_with fail
  go_ret
  exact ⟨rfl, HB.out⟩

end Go.Proofs.YtoakfjcejamoeaaDoor.B
