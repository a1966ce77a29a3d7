/- The contract of the reference's Permille. -/
import Derived.Test.YtoakfjcejamoeaaDoorQE
import Derived.Test.YtoakfjcejamoeaaDoorBx7
namespace Go.Proofs.YtoakfjcejamoeaaDoor.B
open Go.RowKit Go.Proofs.YtoakfjcejamoeaaDoorW.PrintWords Go.Proofs.YtoakfjcejamoeaaDoorW.PrintLast Go.Proofs.YtoakfjcejamoeaaDoorW.PrintMore
set_option exponentiation.threshold 8200
set_option linter.unusedVariables false
set_option linter.unusedSimpArgs false
def uintG (l : List Int) : Int × Bool := if l.length ≤ 2 then ((Bn.nv l : Int), true) else (0, false)
theorem value2_ {P : Program} {ops : Array Oper} {Q : Exit → Act → World → Prop} {K : Act → World → Prop} {oi : Oper} {N : Option Tmp} {a : Act} {w w1 : World} {v : Value} (hw : Region.wanted oi (yielded ops a.tmps) = true) (hN : oi.dst = N) (hrun : (execOp a.eval oi).run P w = .ok (.value v) w1)
  (h : K (a.put N v) w1) : if Region.wanted oi (yielded ops a.tmps) = true then Oper.wp P oi a w K Q else K (a.put N undef) w := by
 rw [if_pos hw]
 unfold Oper.wp
 rw [hrun]
 show K (a.put oi.dst v) w1
 rw [hN]
 exact h
set_option maxHeartbeats 16000000 in
set_option maxRecDepth 100000 in
/-- The reference's Uint. -/
theorem refUintG_calls (A0 : Option Addr) (c0 : Nat) (l0 : List Int) (w : World) (hr0 : Kd.C (Kd.int .u32) w A0 l0.length l0) (hc0 : l0.length ≤ c0) (L0 : Bn.Limbs l0) :
  Calls Tryd.prog 36 #[.slice A0 l0.length c0] w fun e w' => e = .returned (.tuple #[.int .u64 (uintG l0).1, .bool (uintG l0).2]) ∧ Below w.heap.size w w' := by
 have C0 := Aside0.mk hr0
 have H0 := Aside0.mk hc0
 have HB := Aside0.mk (Below.refl w.heap.size w)
 clear hr0 hc0
 by_cases hl : l0.length ≤ 2
 ·obtain ⟨x, h1, lx⟩ := limb_rd L0 0
  obtain ⟨y, h2, ly⟩ := limb_rd L0 1
  have f1 := limb_f L0 0
  have f2 := limb_f L0 1
  rw [h1] at f1
  rw [h2] at f2
  have hE := Aside0.mk (show uintG l0 = (((y * 4294967296 + x : Nat) : Int), true) from by
   unfold uintG
   rw [if_pos hl]
   have e : Bn.nv l0 = y * 4294967296 + x := by
    rcases l0 with _ | ⟨a, _ | ⟨b, _ | ⟨z, t⟩⟩⟩
    ·simp [rd] at h1 h2
     simp [Bn.nv]
     omega
    ·simp [rd] at h1 h2
     simp [Bn.nv]
     omega
    ·simp [rd] at h1 h2
     simp [Bn.nv]
     omega
    ·exact absurd hl (by simp)
   rw [e])
  have hF1 := Aside0.mk f1
  have hF2 := Aside0.mk f2
  have hg : decide ((l0.length : Int) > 2) = false := decide_eq_false (by omega)
  have hx := Aside0.mk lx
  have hy := Aside0.mk ly
  clear f1 f2 h1 h2 lx ly L0 hl
  go_enter Tryd.func36, Tryd.ntmps36
  go_wp2_with fail
  refine (lineageref03_limb.calls A0 c0 l0 1 (y : Int) w C0.out H0.out hF2.out).mono ?_
  rintro e wa1 ⟨rfl, hd_⟩
  have C1 := Aside0.mk (Kd.C_below C0.out hd_.below)
  have HB1 := Aside0.mk (below_step HB.out hd_.below)
  clear hd_
  go_wp2_with fail
  refine (lineageref03_limb.calls A0 c0 l0 0 (x : Int) wa1 C1.out H0.out hF1.out).mono ?_
  rintro e wa2 ⟨rfl, hd_⟩
  have HB2 := Aside0.mk (below_step HB1.out hd_.below)
  clear hd_
  go_wp2_with fail
  go_ret2
  refine ⟨?_, HB2.out⟩
  rw [hE.out]
  have e1 : IntKind.u64.wrap ((y : Int) * 4294967296) = ((y * 4294967296 : Nat) : Int) := by
   rw [show (y : Int) * 4294967296 = ((y * 4294967296 : Nat) : Int) by omega]
   exact u64N (by have := hy.out; omega)
  have e2 : IntKind.u64.wrap (((y * 4294967296 : Nat) : Int) + (x : Int)) = ((y * 4294967296 + x : Nat) : Int) := by
   rw [show ((y * 4294967296 : Nat) : Int) + (x : Int) = ((y * 4294967296 + x : Nat) : Int) by omega]
   exact u64N (by have := hy.out; have := hx.out; omega)
  show Ending.returned (Value.tuple #[.int .u64 (IntKind.u64.wrap (IntKind.u64.wrap ((y : Int) * 4294967296) + (x : Int))), .bool true]) = _
  rw [e1, e2]
 ·have hg : decide ((l0.length : Int) > 2) = true := decide_eq_true (by omega)
  have e : uintG l0 = (0, false) := by unfold uintG; rw [if_neg hl]
  have hE := Aside0.mk e
  clear e L0
  go_enter Tryd.func36, Tryd.ntmps36
  go_wp2_with fail
  go_ret2
  exact ⟨by rw [hE.out]; rfl, HB.out⟩

theorem refUintG_calls2 (A0 : Option Addr) (c0 : Nat) (l0 : List Int) (u : Int) (f : Bool) (w : World) (hr0 : Kd.C (Kd.int .u32) w A0 l0.length l0) (hc0 : l0.length ≤ c0) (h : Bn.Limbs l0 ∧ uintG l0 = (u, f)) :
  Calls Tryd.prog 36 #[.slice A0 l0.length c0] w fun e w' => e = .returned (.tuple #[.int .u64 u, .bool f]) ∧ Below w.heap.size w w' := by
 have H := refUintG_calls A0 c0 l0 w hr0 hc0 h.1
 rw [h.2] at H
 exact H
theorem nrm_thousand : Bn.Nrm [1000] := by
 have h := Bn.nrm_limbs 1000
 rwa [show Bn.limbs 1000 = [1000] from by rw [limbs_one (by decide) (by decide)]; rfl] at h
theorem refperm_facts {a b : List Int} (La : Bn.Limbs a) (Lb : Bn.Limbs b) (hv : ratB a b = true) : ∃ m q r u f, lineageref03_Mul.f 20000 a [1000] = some m ∧ lineageref03_DivMod.f 10000 m b = some (q, r) ∧ Bn.Limbs q ∧ uintG q = (u, f) ∧ ((f = false ∧ permN a b = 1000000) ∨ (f = true ∧ 0 ≤ u ∧ u < 18446744073709551616 ∧ ((u > 1000000 ∧ permN a b = 1000000) ∨ (u ≤ 1000000 ∧ u = (permN a b : Int))))) := by
 obtain ⟨va, vb, vb0, -⟩ := (ratB_iff La Lb).1 hv
 have hp := nv_pos vb.1 vb0
 have e0 := ref_mul_row va ⟨nrm_thousand, by decide⟩
 have h1 : Bn.nv [1000] = 1000 := by decide
 rw [h1] at e0
 have hl : (Bn.limbs (Bn.nv a * 1000)).length ≤ 129 := (Bn.limbs_len _ _).2 (by
  have h1 := Nat.lt_of_lt_of_le (Bn.nv_lt va.1.1) (Nat.pow_le_pow_right (show 0 < 4294967296 by decide) va.2)
  rw [show (129 : Nat) = 128 + 1 from rfl, Nat.pow_add]
  exact Nat.mul_lt_mul'' h1 (by decide))
 have e1 := refDivMod_f (Bn.limbs_limbs (Bn.nv a * 1000)) vb.1 (by omega) (by omega) hp (k := 10000) (by omega)
 rw [Bn.nv_limbs] at e1
 refine ⟨_, _, _, (uintG (Bn.limbs (Bn.nv a * 1000 / Bn.nv b))).1, (uintG (Bn.limbs (Bn.nv a * 1000 / Bn.nv b))).2, e0, e1, Bn.limbs_limbs _, rfl, ?_⟩
 unfold uintG permN
 rw [Nat.mul_comm 1000]
 generalize Bn.nv a * 1000 / Bn.nv b = q
 by_cases h2 : (Bn.limbs q).length ≤ 2
 ·rw [if_pos h2, Bn.nv_limbs]
  have h3 := (Bn.limbs_len q 2).1 h2
  refine .inr ⟨rfl, Int.natCast_nonneg _, by omega, ?_⟩
  by_cases h4 : q ≤ 1000000
  ·exact .inr ⟨by omega, by omega⟩
  ·exact .inl ⟨by omega, by omega⟩
 ·rw [if_neg h2]
  have h3 := mt (Bn.limbs_len q 2).2 h2
  exact .inl ⟨rfl, by omega⟩

set_option maxHeartbeats 16000000 in
set_option maxRecDepth 100000 in
/-- The reference's Permille. -/
theorem refPermille_calls (A0 : Option Addr) (c0 : Nat) (l0 : List Int) (A1 : Option Addr) (c1 : Nat) (l1 : List Int) (R : Int) (w : World) (hr0 : Kd.C (Kd.int .u32) w A0 l0.length l0) (hc0 : l0.length ≤ c0) (hr1 : Kd.C (Kd.int .u32) w A1 l1.length l1) (hc1 : l1.length ≤ c1)  (L0 : Bn.Limbs l0) (L1 : Bn.Limbs l1) (hr : R = permR l0 l1) :
  Calls Tryd.prog 51 #[.agg #[.slice A0 l0.length c0, .slice A1 l1.length c1]] w fun e w' => e = .returned (.int .i64 R) ∧ Below w.heap.size w w' := by
 have C0 := Aside0.mk hr0
 have H0 := Aside0.mk hc0
 clear hr0 hc0
 have C1 := Aside0.mk hr1
 have H1 := Aside0.mk hc1
 clear hr1 hc1
 have HB := Aside0.mk (Below.refl w.heap.size w)
 obtain ⟨p0, hp0⟩ : ∃ p, p = ratB l0 l1 := ⟨_, rfl⟩
 have hP0 := Aside0.mk (show Bn.Limbs l0 ∧ Bn.Limbs l1 ∧ p0 = ratB l0 l1 from ⟨L0, L1, hp0⟩)
 have hR := Aside0.mk (show (p0 = true → R = (permN l0 l1 : Int)) ∧ (p0 = false → R = 0) from by
   rw [hr, hp0]
   unfold permR
   exact ⟨fun e => if_pos e, fun e => if_neg (by rw [e]; decide)⟩)
 clear hp0 hr L0 L1
 go_enter Tryd.func51, Tryd.ntmps51
 go_wp2_with (first | ((with_reducible refine gate_dst (N := 1) rfl ?_); (try (refine gate_guard (by rfl) ?_; dsimp only)); refine box_event ?hg (N := 1) ?hd (.slice A0 l0.length c0) (.slice A1 l1.length c1) ?hr ?_; (case hd => rfl); (case hg => rfl); (case hr => first | (go_simp; done) | (go_simp; rfl)); intro ba wa1 hx_ hs_ hb_; skip; have Sa := Aside0.mk (Nat.le_trans (below_size HB.out) hs_); have Xa := Aside0.mk hx_; replace C0 := Aside0.mk (Kd.C_below C0.out hb_); replace C1 := Aside0.mk (Kd.C_below C1.out hb_); replace HB := Aside0.mk (below_step HB.out hb_); have qaa := Bx.c0 Xa.out; have qba := Bx.c1 Xa.out; clear hb_ hx_ hs_))
 refine (refRatValid_calls A0 c0 l0 A1 c1 l1 p0 wa1 C0.out H0.out C1.out H1.out hP0.out.1 hP0.out.2.1 hP0.out.2.2).mono ?_
 rintro e wa2 ⟨rfl, hb_⟩
 replace C0 := Aside0.mk (Kd.C_below C0.out hb_)
 replace C1 := Aside0.mk (Kd.C_below C1.out hb_)
 clear qaa qba
 replace Xa := Aside0.mk (Bx.below Xa.out hb_)
 have qaa := Bx.c0 Xa.out
 have qba := Bx.c1 Xa.out
 replace HB := Aside0.mk (below_step HB.out hb_)
 clear hb_
 cases p0 with
 | false =>
  obtain rfl := hR.out.2 (by trivial)
  go_wp2_with fail
  go_ret
  exact ⟨rfl, HB.out⟩
 | true =>
  obtain rfl := hR.out.1 (by trivial)
  clear hR
  obtain ⟨m, q, r, u, f, f0, f1, f2, f3, f4⟩ := refperm_facts hP0.out.1 hP0.out.2.1 hP0.out.2.2.symm
  have M0 := Aside0.mk f0
  have D0 := Aside0.mk f1
  have U0 := Aside0.mk (show Bn.Limbs q ∧ uintG q = (u, f) from ⟨f2, f3⟩)
  have hE := Aside0.mk f4
  clear f0 f1 f2 f3 f4
  go_wp2_with fail
  have hb_ : Below wa2.heap.size wa2 wa2.drew := below_drew1 (Below.refl _ _)
  have hSd_ : (fun w' : World => w'.cell? ⟨ba, 0, none⟩ = some (.slice A0 l0.length c0) ∧ w'.cell? ⟨ba, 1, none⟩ = some (.slice A1 l1.length c1)) wa2.drew := ⟨qaa, qba⟩
  refine start_ (n := 12) (S := fun w' => w'.cell? ⟨ba, 0, none⟩ = some (.slice A0 l0.length c0) ∧ w'.cell? ⟨ba, 1, none⟩ = some (.slice A1 l1.length c1)) (ds := [6]) #[false, false, false, false, false, false, false, false, false, false, false, false] (by kernel_rfl) rfl rfl hSd_ (fun hHeld => ?_)
  clear hSd_
  replace C0 := Aside0.mk (Kd.C_below C0.out hb_)
  replace C1 := Aside0.mk (Kd.C_below C1.out hb_)
  clear qaa qba
  replace Xa := Aside0.mk (Bx.below Xa.out hb_)
  have qaa := Bx.c0 Xa.out
  have qba := Bx.c1 Xa.out
  replace HB := Aside0.mk (below_step HB.out hb_)
  clear hb_
  generalize wa2.drew = wa3 at *
  refine pure_ (i := 0) (N := some 11) (v := ?_) (a' := ?_) #[true, false, false, false, false, false, false, false, false, false, false, false] rfl rfl (by kernel_rfl) (fun _ _ _ h => h) (Or.inl ⟨by rfl, ?_⟩) ?_ ?_
  rotate_left
  ·intro w'
   go_simp
   with_reducible rfl
  rotate_left
  ·simp only [Act.put, List.setIfInBounds_toArray, List.set_cons_zero, List.set_cons_succ, i64_w, i32_w]
   rfl
  refine take_ (i := 1) (N := some 12) (v := ?_) (a' := ?_) #[true, true, false, false, false, false, false, false, false, false, false, false] rfl rfl (by kernel_rfl) (fun _ _ _ h => h) (Or.inl ⟨by rfl, ?_⟩) hHeld ?_ ?_
  rotate_left
  ·rintro w' ⟨s0, s1⟩
   go_simp
   with_reducible rfl
  rotate_left
  ·simp only [Act.put, List.setIfInBounds_toArray, List.set_cons_zero, List.set_cons_succ, i64_w, i32_w]
   rfl
  refine pure_ (i := 4) (N := some 15) (v := ?_) (a' := ?_) #[true, true, false, false, true, false, false, false, false, false, false, false] rfl rfl (by kernel_rfl) (fun _ _ _ h => h) (Or.inl ⟨by rfl, ?_⟩) ?_ ?_
  rotate_left
  ·intro w'
   go_simp
   with_reducible rfl
  rotate_left
  ·simp only [Act.put, List.setIfInBounds_toArray, List.set_cons_zero, List.set_cons_succ, i64_w, i32_w]
   rfl
  refine take_ (i := 5) (N := some 16) (v := ?_) (a' := ?_) #[true, true, false, false, true, true, false, false, false, false, false, false] rfl rfl (by kernel_rfl) (fun _ _ _ h => h) (Or.inl ⟨by rfl, ?_⟩) hHeld ?_ ?_
  rotate_left
  ·rintro w' ⟨s0, s1⟩
   go_simp
   with_reducible rfl
  rotate_left
  ·simp only [Act.put, List.setIfInBounds_toArray, List.set_cons_zero, List.set_cons_succ, i64_w, i32_w]
   rfl
  refine one_ (i := 2) (N := some 13) #[true, true, true, false, true, true, false, false, false, false, false, false] rfl rfl (by kernel_rfl) (by decide) (fun K hK => ?_)
  refine value2_ (w1 := wa3.alloc (.cells (([1000] : List Int).map (Value.int .u32)).toArray 63)) (v := .slice (some ⟨wa3.heap.size, 0, none⟩) 1 1) (by rfl) rfl (by go_simp; try rfl) ?_
  clear hHeld
  have hc_ := lit_C wa3 [1000] (by decide)
  have hb_ : Below wa3.heap.size wa3 (wa3.alloc (.cells (([1000] : List Int).map (Value.int .u32)).toArray 63)) := below_alloc (Below.refl _ _) _
  replace C0 := Aside0.mk (Kd.C_below C0.out hb_)
  replace C1 := Aside0.mk (Kd.C_below C1.out hb_)
  clear qaa qba
  replace Xa := Aside0.mk (Bx.below Xa.out hb_)
  have qaa := Bx.c0 Xa.out
  have qba := Bx.c1 Xa.out
  replace HB := Aside0.mk (below_step HB.out hb_)
  have Ck := Aside0.mk hc_
  have Hk := Aside0.mk (Nat.le_refl 1)
  clear hc_ hb_
  generalize wa3.alloc (.cells (([1000] : List Int).map (Value.int .u32)).toArray 63) = wa4 at *
  refine hK.out _ _ ⟨qaa, qba⟩ (fun hHeld => ?_)
  clear hK K
  refine norm_ (a' := ?_) ?_ ?_
  rotate_left
  ·show Act.put _ (some 13) _ = _
   simp only [Act.put, List.setIfInBounds_toArray, List.set_cons_zero, List.set_cons_succ, i64_w, i32_w]
   rfl
  refine one_ (i := 3) (N := some 14) #[true, true, true, true, true, true, false, false, false, false, false, false] rfl rfl (by kernel_rfl) (by decide) (fun K hK => ?_)
  refine goes_ Tryd.func22 (by kernel_rfl) rfl #[.slice A0 l0.length c0, .slice (some ⟨wa3.heap.size, 0, none⟩) 1 1] (by rfl) rfl rfl (by (try simp only [List.map_toArray, List.map_cons, List.map_nil]); first | done | rfl) ?_
  refine (lineageref03_Mul.calls 20000 A0 c0 l0 (some ⟨wa3.heap.size, 0, none⟩) 1 [1000] m wa4 C0.out H0.out Ck.out Hk.out M0.out).mono ?_
  rintro e wa5 ⟨v_, rfl, hr_, hb_⟩
  replace C0 := Aside0.mk (Kd.C_below C0.out hb_)
  replace C1 := Aside0.mk (Kd.C_below C1.out hb_)
  replace Ck := Aside0.mk (Kd.C_below Ck.out hb_)
  clear qaa qba
  replace Xa := Aside0.mk (Bx.below Xa.out hb_)
  have qaa := Bx.c0 Xa.out
  have qba := Bx.c1 Xa.out
  replace HB := Aside0.mk (below_step HB.out hb_)
  obtain ⟨Am, cm, rfl⟩ := Kd.V_slice hr_
  have Cm := Aside0.mk (Kd.V_reads' hr_).2.2
  have Hm := Aside0.mk (show m.length ≤ cm from (Kd.V_reads' hr_).2.1)
  clear hr_ hb_
  refine ⟨_, rfl, ?_⟩
  clear hHeld
  refine hK.out _ _ ⟨qaa, qba⟩ (fun hHeld => ?_)
  clear hK K
  refine norm_ (a' := ?_) ?_ ?_
  rotate_left
  ·show Act.put _ (some 14) _ = _
   simp only [Act.put, List.setIfInBounds_toArray, List.set_cons_zero, List.set_cons_succ, i64_w, i32_w]
   rfl
  refine last_ (i := 6) (N := some 17) #[true, true, true, true, true, true, true, false, false, false, false, false] rfl rfl (by kernel_rfl) (by decide) (fun K hK => ?_)
  refine goes_ Tryd.func86 (by kernel_rfl) rfl #[.slice Am m.length cm, .slice A1 l1.length c1] (by rfl) rfl rfl (by (try simp only [List.map_toArray, List.map_cons, List.map_nil]); first | done | rfl) ?_
  refine (lineageref03_DivMod.calls 10000 Am cm m A1 c1 l1 q r wa5 Cm.out Hm.out C1.out H1.out D0.out).mono ?_
  rintro e wa6 ⟨v_, u_, rfl, hr_, hu_, hb_⟩
  replace C0 := Aside0.mk (Kd.C_below C0.out hb_)
  replace C1 := Aside0.mk (Kd.C_below C1.out hb_)
  replace Ck := Aside0.mk (Kd.C_below Ck.out hb_)
  replace Cm := Aside0.mk (Kd.C_below Cm.out hb_)
  clear qaa qba
  replace Xa := Aside0.mk (Bx.below Xa.out hb_)
  have qaa := Bx.c0 Xa.out
  have qba := Bx.c1 Xa.out
  replace HB := Aside0.mk (below_step HB.out hb_)
  obtain ⟨Aq, cq, rfl⟩ := Kd.V_slice hr_
  have Cq := Aside0.mk (Kd.V_reads' hr_).2.2
  have Hq := Aside0.mk (show q.length ≤ cq from (Kd.V_reads' hr_).2.1)
  obtain ⟨Ar, cr, rfl⟩ := Kd.V_slice hu_
  have Cr := Aside0.mk (Kd.V_reads' hu_).2.2
  have Hr := Aside0.mk (show r.length ≤ cr from (Kd.V_reads' hu_).2.1)
  clear hr_ hu_ hb_
  refine ⟨_, rfl, ?_⟩
  refine hK.out _ _ ?_
  clear hK K
  refine norm_ (a' := ?_) ?_ ?_
  rotate_left
  ·show Act.put _ (some 17) _ = _
   simp only [Act.put, List.setIfInBounds_toArray, List.set_cons_zero, List.set_cons_succ, i64_w, i32_w]
   rfl
  refine pure_ (i := 7) (N := some 10) (v := ?_) (a' := ?_) #[true, true, true, true, true, true, true, true, false, false, false, false] rfl rfl (by kernel_rfl) (fun _ _ _ h => h) (Or.inl ⟨by rfl, ?_⟩) ?_ ?_
  rotate_left
  ·intro w'
   go_simp
   with_reducible rfl
  rotate_left
  ·simp only [Act.put, List.setIfInBounds_toArray, List.set_cons_zero, List.set_cons_succ, i64_w, i32_w]
   rfl
  refine pure_ (i := 8) (N := some 18) (v := ?_) (a' := ?_) #[true, true, true, true, true, true, true, true, true, false, false, false] rfl rfl (by kernel_rfl) (fun _ _ _ h => h) (Or.inl ⟨by rfl, ?_⟩) ?_ ?_
  rotate_left
  ·intro w'
   go_simp
   with_reducible rfl
  rotate_left
  ·simp only [Act.put, List.setIfInBounds_toArray, List.set_cons_zero, List.set_cons_succ, i64_w, i32_w]
   rfl
  refine pure_ (i := 9) (N := some 19) (v := ?_) (a' := ?_) #[true, true, true, true, true, true, true, true, true, true, false, false] rfl rfl (by kernel_rfl) (fun _ _ _ h => h) (Or.inl ⟨by rfl, ?_⟩) ?_ ?_
  rotate_left
  ·intro w'
   go_simp
   with_reducible rfl
  rotate_left
  ·simp only [Act.put, List.setIfInBounds_toArray, List.set_cons_zero, List.set_cons_succ, i64_w, i32_w]
   rfl
  refine pure_ (i := 10) (N := some 3) (v := ?_) (a' := ?_) #[true, true, true, true, true, true, true, true, true, true, true, false] rfl rfl (by kernel_rfl) (fun _ _ _ h => h) (Or.inl ⟨by rfl, ?_⟩) ?_ ?_
  rotate_left
  ·intro w'
   go_simp
   with_reducible rfl
  rotate_left
  ·simp only [Act.put, List.setIfInBounds_toArray, List.set_cons_zero, List.set_cons_succ, i64_w, i32_w]
   rfl
  refine pure_ (i := 11) (N := some 4) (v := ?_) (a' := ?_) #[true, true, true, true, true, true, true, true, true, true, true, true] rfl rfl (by kernel_rfl) (fun _ _ _ h => h) (Or.inl ⟨by rfl, ?_⟩) ?_ ?_
  rotate_left
  ·intro w'
   go_simp
   with_reducible rfl
  rotate_left
  ·simp only [Act.put, List.setIfInBounds_toArray, List.set_cons_zero, List.set_cons_succ, i64_w, i32_w]
   rfl
  refine done_ (by kernel_rfl) ?_
  go_wp2_with fail
  refine (refUintG_calls2 Aq cq q u f wa6 Cq.out Hq.out U0.out).mono ?_
  rintro e wa7 ⟨rfl, hb_⟩
  replace C0 := Aside0.mk (Kd.C_below C0.out hb_)
  replace C1 := Aside0.mk (Kd.C_below C1.out hb_)
  replace Ck := Aside0.mk (Kd.C_below Ck.out hb_)
  replace Cm := Aside0.mk (Kd.C_below Cm.out hb_)
  replace Cq := Aside0.mk (Kd.C_below Cq.out hb_)
  replace Cr := Aside0.mk (Kd.C_below Cr.out hb_)
  clear qaa qba
  replace Xa := Aside0.mk (Bx.below Xa.out hb_)
  have qaa := Bx.c0 Xa.out
  have qba := Bx.c1 Xa.out
  replace HB := Aside0.mk (below_step HB.out hb_)
  clear hb_
  rcases hE.out with ⟨rfl, hx⟩ | ⟨rfl, hu0, hu1, ⟨hgt, hx⟩ | ⟨hle, rfl⟩⟩
  ·have hx_ := Aside0.mk hx
   clear hx
   go_wp2_with fail
   go_ret
   rw [hx_.out]
   exact ⟨rfl, HB.out⟩
  ·have hx_ := Aside0.mk hx
   clear hx
   have g1 : decide (u > 1000000) = true := decide_eq_true hgt
   go_wp2_with fail
   go_ret
   rw [hx_.out]
   exact ⟨rfl, HB.out⟩
  ·have g1 : decide ((permN l0 l1 : Int) > 1000000) = false := decide_eq_false (by omega)
   go_wp2_with fail
   go_ret
   exact ⟨rfl, HB.out⟩

end Go.Proofs.YtoakfjcejamoeaaDoor.B
