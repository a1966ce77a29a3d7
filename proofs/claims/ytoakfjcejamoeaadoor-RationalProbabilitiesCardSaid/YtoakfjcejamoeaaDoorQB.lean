/- Contracts of Mul and Complement, and the facts of Add and Mul on numbers. -/
import Derived.Test.YtoakfjcejamoeaaDoorQA
import Derived.Test.YtoakfjcejamoeaaDoorBx2
import Derived.Test.YtoakfjcejamoeaaDoorBx10
namespace Go.Proofs.YtoakfjcejamoeaaDoor.B
open Go.RowKit Go.Proofs.YtoakfjcejamoeaaDoorW.PrintWords Go.Proofs.YtoakfjcejamoeaaDoorW.PrintLast Go.Proofs.YtoakfjcejamoeaaDoorW.PrintMore
set_option exponentiation.threshold 8200
set_option linter.unusedVariables false
set_option linter.unusedSimpArgs false
def fitsB (n : Nat) : Bool := decide ((Bn.limbs n).length ≤ 128)
def redB (n d : Nat) : List Int × List Int := (Bn.limbs (n / Nat.gcd n d), Bn.limbs (d / Nat.gcd n d))
/-- What Mul answers. -/
def mulR (a b c d : List Int) : (List Int × List Int) × Int := if ratB a b = true ∧ ratB c d = true then (if fitsB (Bn.nv a * Bn.nv c) = true ∧ fitsB (Bn.nv b * Bn.nv d) = true then (redB (Bn.nv a * Bn.nv c) (Bn.nv b * Bn.nv d), 0) else (([], []), 6)) else (([], []), 1)
/-- What Add answers. -/
def addR (a b c d : List Int) : (List Int × List Int) × Int := if ratB a b = true ∧ ratB c d = true then (if fitsB (Bn.nv a * Bn.nv d) = true ∧ fitsB (Bn.nv c * Bn.nv b) = true ∧ fitsB (Bn.nv b * Bn.nv d) = true ∧ fitsB (Bn.nv a * Bn.nv d + Bn.nv c * Bn.nv b) = true then (redB (Bn.nv a * Bn.nv d + Bn.nv c * Bn.nv b) (Bn.nv b * Bn.nv d), 0) else (([], []), 6)) else (([], []), 1)
/-- What Complement answers. -/
def compR (a b : List Int) : (List Int × List Int) × Int := if ratB a b = true then (if Bn.nv a ≤ Bn.nv b then ((Bn.limbs (Bn.nv b - Bn.nv a), b), 0) else (([], []), 2)) else (([], []), 1)
theorem ratB_iff {n d : List Int} (L0 : Bn.Limbs n) (L1 : Bn.Limbs d) : ratB n d = true ↔ (Bn.Nrm n ∧ n.length ≤ 128) ∧ (Bn.Nrm d ∧ d.length ≤ 128) ∧ d ≠ [] ∧ Nat.gcd (Bn.nv n) (Bn.nv d) = 1 := by
 unfold ratB
 rw [← validB_iff L0, ← validB_iff L1]
 simp [and_assoc]
theorem nv_pos {d : List Int} (hd : Bn.Nrm d) (h : d ≠ []) : 0 < Bn.nv d := by
 rcases Nat.eq_zero_or_pos (Bn.nv d) with h2 | h2
 ·exact absurd ((Bn.nv_zero hd).1 h2) h
 ·exact h2
theorem limbs_ne {n : Nat} (h : 0 < n) : Bn.limbs n ≠ [] := fun h2 => by have := Bn.limbs_nil.1 h2; omega
theorem newB_limbs {n d : Nat} (hn : fitsB n = true) (hd : fitsB d = true) (h : 0 < d) : newB (Bn.limbs n) (Bn.limbs d) = (redB n d, 0) := by
 unfold newB redB
 rw [if_pos ⟨validB_limbs (of_decide_eq_true hn), validB_limbs (of_decide_eq_true hd), limbs_ne h⟩, Bn.nv_limbs, Bn.nv_limbs]
theorem mul_fits {x y : List Int} (hx : Bn.Nrm x ∧ x.length ≤ 128) (hy : Bn.Nrm y ∧ y.length ≤ 128) : ∃ n e, bignat_Mul.f 17000 x y = some (n, e) ∧ decide (e = 0) = fitsB (Bn.nv x * Bn.nv y) ∧ (e = 0 → n = Bn.limbs (Bn.nv x * Bn.nv y)) := by
 refine ⟨(fitB (Bn.nv x * Bn.nv y)).1, (fitB (Bn.nv x * Bn.nv y)).2, ?_, ?_⟩
 ·rw [Mul_f hx.1.1 hy.1.1 (by omega) (by have h := Nat.mul_le_mul hx.2 (show y.length + 2 ≤ 130 by omega); omega), (validB_iff hx.1.1).2 hx, (validB_iff hy.1.1).2 hy]
  rfl
 ·unfold fitB fitsB
  split
  ·rename_i h
   exact ⟨by rw [decide_eq_false (show ¬ (Bn.limbs (Bn.nv x * Bn.nv y)).length ≤ 128 by omega)]; rfl, fun h => by cases h⟩
  ·rename_i h
   exact ⟨by rw [decide_eq_true (show (Bn.limbs (Bn.nv x * Bn.nv y)).length ≤ 128 by omega)]; rfl, fun _ => rfl⟩
theorem add_fits {x y : List Int} (hx : Bn.Nrm x ∧ x.length ≤ 128) (hy : Bn.Nrm y ∧ y.length ≤ 128) : ∃ n e, bignat_Add.f x y = some (n, e) ∧ ((fitsB (Bn.nv x + Bn.nv y) = true ∧ e = 0 ∧ n = Bn.limbs (Bn.nv x + Bn.nv y)) ∨ (fitsB (Bn.nv x + Bn.nv y) = false ∧ e = 6)) := by
 refine ⟨(fitB (Bn.nv x + Bn.nv y)).1, (fitB (Bn.nv x + Bn.nv y)).2, ?_, ?_⟩
 ·unfold bignat_Add.f
  rw [okL_mk hx.1.1 (by omega), okL_mk hy.1.1 (by omega), (validB_iff hx.1.1).2 hx, (validB_iff hy.1.1).2 hy]
  rfl
 ·unfold fitB fitsB
  split
  ·rename_i h
   exact .inr ⟨decide_eq_false (by omega), rfl⟩
  ·rename_i h
   exact .inl ⟨decide_eq_true (by omega), rfl, rfl⟩
theorem mulR_facts {a b c d n m : List Int} {ec : Int} (La : Bn.Limbs a) (Lb : Bn.Limbs b) (Lc : Bn.Limbs c) (Ld : Bn.Limbs d) (h : mulR a b c d = ((n, m), ec)) (h1 : ratB a b = true) (h2 : ratB c d = true) :
  ∃ n0 e0 n1 e1 ok, bignat_Mul.f 17000 a c = some (n0, e0) ∧ bignat_Mul.f 17000 b d = some (n1, e1) ∧ ok = (decide (e0 = 0) && decide (e1 = 0)) ∧ (ok = false → n = [] ∧ m = [] ∧ ec = 6) ∧ (ok = true → Bn.Limbs n0 ∧ Bn.Limbs n1 ∧ newB n0 n1 = ((n, m), ec)) := by
 obtain ⟨va, vb, vb0, -⟩ := (ratB_iff La Lb).1 h1
 obtain ⟨vc, vd, vd0, -⟩ := (ratB_iff Lc Ld).1 h2
 obtain ⟨n0, e0, m0, f0, g0⟩ := mul_fits va vc
 obtain ⟨n1, e1, m1, f1, g1⟩ := mul_fits vb vd
 unfold mulR at h
 rw [if_pos ⟨h1, h2⟩] at h
 have hp : 0 < Bn.nv b * Bn.nv d := Nat.mul_pos (nv_pos vb.1 vb0) (nv_pos vd.1 vd0)
 refine ⟨n0, e0, n1, e1, _, m0, m1, rfl, fun hf => ?_, fun ht => ?_⟩
 ·rw [f0, f1] at hf
  rw [if_neg (by rintro ⟨x, y⟩; rw [x, y] at hf; cases hf)] at h
  injection h with h3 h4
  injection h3 with h3 h5
  exact ⟨h3.symm, h5.symm, h4.symm⟩
 ·obtain ⟨x, y⟩ : decide (e0 = 0) = true ∧ decide (e1 = 0) = true := by simpa using ht
  rw [g0 (of_decide_eq_true x), g1 (of_decide_eq_true y)]
  rw [f0] at x
  rw [f1] at y
  rw [if_pos ⟨x, y⟩] at h
  exact ⟨Bn.limbs_limbs _, Bn.limbs_limbs _, by rw [newB_limbs x y hp]; exact h⟩
theorem addR_facts {a b c d n m : List Int} {ec : Int} (La : Bn.Limbs a) (Lb : Bn.Limbs b) (Lc : Bn.Limbs c) (Ld : Bn.Limbs d) (h : addR a b c d = ((n, m), ec)) (h1 : ratB a b = true) (h2 : ratB c d = true) :
  ∃ n0 e0 n1 e1 n2 e2 ok, bignat_Mul.f 17000 a d = some (n0, e0) ∧ bignat_Mul.f 17000 c b = some (n1, e1) ∧ bignat_Mul.f 17000 b d = some (n2, e2) ∧ ok = (decide (e0 = 0) && decide (e1 = 0) && decide (e2 = 0)) ∧ (ok = false → n = [] ∧ m = [] ∧ ec = 6) ∧ (ok = true → ∃ s es, bignat_Add.f n0 n1 = some (s, es) ∧ (es ≠ 0 → n = [] ∧ m = [] ∧ ec = es) ∧ (es = 0 → Bn.Limbs s ∧ Bn.Limbs n2 ∧ newB s n2 = ((n, m), ec))) := by
 obtain ⟨va, vb, vb0, -⟩ := (ratB_iff La Lb).1 h1
 obtain ⟨vc, vd, vd0, -⟩ := (ratB_iff Lc Ld).1 h2
 obtain ⟨n0, e0, m0, f0, g0⟩ := mul_fits va vd
 obtain ⟨n1, e1, m1, f1, g1⟩ := mul_fits vc vb
 obtain ⟨n2, e2, m2, f2, g2⟩ := mul_fits vb vd
 unfold addR at h
 rw [if_pos ⟨h1, h2⟩] at h
 have hp : 0 < Bn.nv b * Bn.nv d := Nat.mul_pos (nv_pos vb.1 vb0) (nv_pos vd.1 vd0)
 refine ⟨n0, e0, n1, e1, n2, e2, _, m0, m1, m2, rfl, fun hf => ?_, fun ht => ?_⟩
 ·rw [f0, f1, f2] at hf
  rw [if_neg (by rintro ⟨x, y, z, -⟩; rw [x, y, z] at hf; cases hf)] at h
  injection h with h3 h4
  injection h3 with h3 h5
  exact ⟨h3.symm, h5.symm, h4.symm⟩
 ·obtain ⟨⟨x, y⟩, z⟩ : (decide (e0 = 0) = true ∧ decide (e1 = 0) = true) ∧ decide (e2 = 0) = true := by simpa using ht
  rw [g0 (of_decide_eq_true x), g1 (of_decide_eq_true y), g2 (of_decide_eq_true z)]
  rw [f0] at x
  rw [f1] at y
  rw [f2] at z
  obtain ⟨s, es, k1, k2⟩ := add_fits (x := Bn.limbs (Bn.nv a * Bn.nv d)) (y := Bn.limbs (Bn.nv c * Bn.nv b)) ⟨Bn.nrm_limbs _, of_decide_eq_true x⟩ ⟨Bn.nrm_limbs _, of_decide_eq_true y⟩
  rw [Bn.nv_limbs, Bn.nv_limbs] at k2
  refine ⟨s, es, k1, fun hne => ?_, fun h0 => ?_⟩
  ·rcases k2 with ⟨-, k3, -⟩ | ⟨k3, k4⟩
   ·exact absurd k3 hne
   ·rw [if_neg (by rintro ⟨-, -, -, q⟩; rw [q] at k3; cases k3)] at h
    injection h with h3 h4
    injection h3 with h3 h5
    exact ⟨h3.symm, h5.symm, by rw [k4]; exact h4.symm⟩
  ·rcases k2 with ⟨k3, -, k4⟩ | ⟨-, k4⟩
   ·rw [if_pos ⟨x, y, z, k3⟩] at h
    exact ⟨by rw [k4]; exact Bn.limbs_limbs _, Bn.limbs_limbs _, by rw [k4, newB_limbs k3 z hp]; exact h⟩
   ·rw [h0] at k4
    cases k4
theorem own_slice {W : World} {base n : Nat} {v : Value} {xs : List Value} (h : W.ownsRow base 23 1 v n xs) (hn : n ≠ 0) : ∃ g cap, v = .slice (some ⟨g, 0, none⟩) n cap := by
 rcases h.2 with ⟨-, e⟩ | ⟨g, cap, cur, e, -⟩
 ·exact absurd e hn
 ·exact ⟨g, cap, e⟩
theorem own_cell {W : World} {base n g cap i : Nat} {xs : List Value} {x : Value} (h : W.ownsRow base 23 1 (.slice (some ⟨g, 0, none⟩) n cap) n xs) (hx : xs[i]? = some x) : W.cell? ⟨g, i, none⟩ = some x := by
 rcases h.2 with ⟨e, -⟩ | ⟨g2, cap2, cur, e, -, hh, -, -, -, ht⟩
 ·cases e
 ·injection e with e1
  injection e1 with e1
  injection e1 with e1
  subst e1
  simp only [World.cell?, hh]
  rw [← ht, List.getElem?_take] at hx
  split at hx
  ·simpa using hx
  ·cases hx
section
variable {P : Program} {ops : Array Oper} {rest : List Oper} {o : Oper} {a : Act} {Q : Exit → Act → World → Prop}
/-- A literal of pairs of rows. -/
theorem pairs_event {W : World} (hgd : o.guard = none) {N : Tmp} (_hd : o.dst = some N) (cs : Array Value) (n : Nat)
  (hrun : (execOp a.eval o).run P W = .ok (.value (.slice (some ⟨W.heap.size, 0, none⟩) n n)) (W.alloc (.cells cs 95)))
  (h : ∀ b w1, w1.heap[b]? = some (.cells cs 95) → Below W.heap.size W w1 → wpList P ops Q rest (a.put o.dst (.slice (some ⟨b, 0, none⟩) n n)) w1) : wpList P ops Q (o :: rest) a W :=
 Kd.event_run hgd hrun (h _ _ (by show (W.heap.push _)[W.heap.size]? = some _; simp) (below_alloc (Below.refl _ _) _))
end

set_option maxHeartbeats 16000000 in
set_option maxRecDepth 100000 in
/-- Mul. -/
theorem ratMul_calls (A0 : Option Addr) (c0 : Nat) (l0 : List Int) (A1 : Option Addr) (c1 : Nat) (l1 : List Int) (A2 : Option Addr) (c2 : Nat) (l2 : List Int) (A3 : Option Addr) (c3 : Nat) (l3 : List Int) (n d : List Int) (ec : Int) (w : World) (hr0 : Kd.C (Kd.int .u32) w A0 l0.length l0) (hc0 : l0.length ≤ c0) (hr1 : Kd.C (Kd.int .u32) w A1 l1.length l1) (hc1 : l1.length ≤ c1) (hr2 : Kd.C (Kd.int .u32) w A2 l2.length l2) (hc2 : l2.length ≤ c2) (hr3 : Kd.C (Kd.int .u32) w A3 l3.length l3) (hc3 : l3.length ≤ c3)  (L0 : Bn.Limbs l0) (L1 : Bn.Limbs l1) (L2 : Bn.Limbs l2) (L3 : Bn.Limbs l3) (h : mulR l0 l1 l2 l3 = ((n, d), ec)) :
  Calls Tryd.prog 61 #[.agg #[.slice A0 l0.length c0, .slice A1 l1.length c1], .agg #[.slice A2 l2.length c2, .slice A3 l3.length c3]] w fun e_ w' => Rat2 n d ec w e_ w' := by
 have C0 := Aside0.mk hr0
 have H0 := Aside0.mk hc0
 clear hr0 hc0
 have C1 := Aside0.mk hr1
 have H1 := Aside0.mk hc1
 clear hr1 hc1
 have C2 := Aside0.mk hr2
 have H2 := Aside0.mk hc2
 clear hr2 hc2
 have C3 := Aside0.mk hr3
 have H3 := Aside0.mk hc3
 clear hr3 hc3
 have HB := Aside0.mk (Below.refl w.heap.size w)
 obtain ⟨p0, hp0⟩ : ∃ p, p = ratB l0 l1 := ⟨_, rfl⟩
 obtain ⟨p1, hp1⟩ : ∃ p, p = ratB l2 l3 := ⟨_, rfl⟩
 have hP0 := Aside0.mk hp0
 have hP1 := Aside0.mk hp1
 have hL := Aside0.mk (show Bn.Limbs l0 ∧ Bn.Limbs l1 ∧ Bn.Limbs l2 ∧ Bn.Limbs l3 from ⟨L0, L1, L2, L3⟩)
 have hBad := Aside0.mk (show ¬ (p0 = true ∧ p1 = true) → n = [] ∧ d = [] ∧ ec = 1 from fun hn => by
   unfold mulR at h
   rw [hp0, hp1] at hn
   rw [if_neg hn] at h
   injection h with h1 h2
   injection h1 with h1 h3
   exact ⟨h1.symm, h3.symm, h2.symm⟩)
 have hGood := Aside0.mk (show p0 = true → p1 = true → _ from fun h0 h1 => mulR_facts L0 L1 L2 L3 h (hp0 ▸ h0) (hp1 ▸ h1))
 clear hp0 hp1 h L0 L1 L2 L3
 go_enter Tryd.func61, Tryd.ntmps61
 go_wp2_with (first | ((with_reducible refine gate_dst (N := 2) rfl ?_); (try (refine gate_guard (by rfl) ?_; dsimp only)); refine box_event ?hg (N := 2) ?hd (.slice A0 l0.length c0) (.slice A1 l1.length c1) ?hr ?_; (case hd => rfl); (case hg => rfl); (case hr => first | (go_simp; done) | (go_simp; rfl)); intro ba wa1 hx_ hs_ hb_; skip; have Sa := Aside0.mk (Nat.le_trans (below_size HB.out) hs_); have Xa := Aside0.mk hx_; replace C0 := Aside0.mk (Kd.C_below C0.out hb_); replace C1 := Aside0.mk (Kd.C_below C1.out hb_); replace C2 := Aside0.mk (Kd.C_below C2.out hb_); replace C3 := Aside0.mk (Kd.C_below C3.out hb_); replace HB := Aside0.mk (below_step HB.out hb_); have qaa := Bx.c0 Xa.out; have qba := Bx.c1 Xa.out; clear hb_ hx_ hs_) | ((with_reducible refine gate_dst (N := 3) rfl ?_); (try (refine gate_guard (by rfl) ?_; dsimp only)); refine box_event ?hg (N := 3) ?hd (.slice A2 l2.length c2) (.slice A3 l3.length c3) ?hr ?_; (case hd => rfl); (case hg => rfl); (case hr => first | (go_simp; done) | (go_simp; rfl)); intro bb wa2 hx_ hs_ hb_; skip; have Sb := Aside0.mk (Nat.le_trans (below_size HB.out) hs_); have Xb := Aside0.mk hx_; replace C0 := Aside0.mk (Kd.C_below C0.out hb_); replace C1 := Aside0.mk (Kd.C_below C1.out hb_); replace C2 := Aside0.mk (Kd.C_below C2.out hb_); replace C3 := Aside0.mk (Kd.C_below C3.out hb_); clear qaa qba; replace Xa := Aside0.mk (Bx.below Xa.out hb_); have qaa := Bx.c0 Xa.out; have qba := Bx.c1 Xa.out; replace HB := Aside0.mk (below_step HB.out hb_); have qab := Bx.c0 Xb.out; have qbb := Bx.c1 Xb.out; clear hb_ hx_ hs_) | ((with_reducible refine gate_dst (N := 4) rfl ?_); (try (refine gate_guard (by rfl) ?_; dsimp only)); refine box_event ?hg (N := 4) ?hd (.slice none 0 0) (.slice none 0 0) ?hr ?_; (case hd => rfl); (case hg => rfl); (case hr => first | (go_simp; done) | (go_simp; rfl)); intro bz wa3 hx_ hs_ hb_; skip; have Sz := Aside0.mk (Nat.le_trans (below_size HB.out) hs_); have Xz := Aside0.mk hx_; replace C0 := Aside0.mk (Kd.C_below C0.out hb_); replace C1 := Aside0.mk (Kd.C_below C1.out hb_); replace C2 := Aside0.mk (Kd.C_below C2.out hb_); replace C3 := Aside0.mk (Kd.C_below C3.out hb_); clear qaa qba; replace Xa := Aside0.mk (Bx.below Xa.out hb_); have qaa := Bx.c0 Xa.out; have qba := Bx.c1 Xa.out; clear qab qbb; replace Xb := Aside0.mk (Bx.below Xb.out hb_); have qab := Bx.c0 Xb.out; have qbb := Bx.c1 Xb.out; replace HB := Aside0.mk (below_step HB.out hb_); skip; clear hb_ hx_ hs_))
 refine (ratValid_calls A0 c0 l0 A1 c1 l1 p0 wa3 C0.out H0.out C1.out H1.out hL.out.1 hL.out.2.1 hP0.out).mono ?_
 rintro e wa4 ⟨rfl, hb_⟩
 replace C0 := Aside0.mk (Kd.C_below C0.out hb_)
 replace C1 := Aside0.mk (Kd.C_below C1.out hb_)
 replace C2 := Aside0.mk (Kd.C_below C2.out hb_)
 replace C3 := Aside0.mk (Kd.C_below C3.out hb_)
 clear qaa qba
 replace Xa := Aside0.mk (Bx.below Xa.out hb_)
 have qaa := Bx.c0 Xa.out
 have qba := Bx.c1 Xa.out
 clear qab qbb
 replace Xb := Aside0.mk (Bx.below Xb.out hb_)
 have qab := Bx.c0 Xb.out
 have qbb := Bx.c1 Xb.out
 replace Xz := Aside0.mk (Bx.below Xz.out hb_)
 replace HB := Aside0.mk (below_step HB.out hb_)
 clear hb_
 cases p0 with
 | false =>
  obtain ⟨rfl, rfl, rfl⟩ := hBad.out (by simp)
  have Cn := Aside0.mk (nilC wa4)
  have Hn := Aside0.mk (Nat.le_refl 0)
  clear qaa qba
  clear qab qbb
  have qaz := Bx.c0 Xz.out
  have qbz := Bx.c1 Xz.out
  have qcz := Bx.f0 Xz.out
  have qdz := Bx.f1 Xz.out
  go_wp2_with fail
  refine bodyPost_ret (results_cell48t rfl rfl (Bx.store Xz.out (.slice none 0 0) (.slice none 0 0))) rfl ?_
  exact Rat2.intro ⟨_, _, _, _, rfl, C_store Xz.out Cn.out _ _, Hn.out, C_store Xz.out Cn.out _ _, Hn.out, below_set (below_set HB.out Sz.out) Sz.out⟩
 | true =>
  go_wp2_with fail
  refine (ratValid_calls A2 c2 l2 A3 c3 l3 p1 wa4 C2.out H2.out C3.out H3.out hL.out.2.2.1 hL.out.2.2.2 hP1.out).mono ?_
  rintro e wa5 ⟨rfl, hb_⟩
  replace C0 := Aside0.mk (Kd.C_below C0.out hb_)
  replace C1 := Aside0.mk (Kd.C_below C1.out hb_)
  replace C2 := Aside0.mk (Kd.C_below C2.out hb_)
  replace C3 := Aside0.mk (Kd.C_below C3.out hb_)
  clear qaa qba
  replace Xa := Aside0.mk (Bx.below Xa.out hb_)
  have qaa := Bx.c0 Xa.out
  have qba := Bx.c1 Xa.out
  clear qab qbb
  replace Xb := Aside0.mk (Bx.below Xb.out hb_)
  have qab := Bx.c0 Xb.out
  have qbb := Bx.c1 Xb.out
  replace Xz := Aside0.mk (Bx.below Xz.out hb_)
  replace HB := Aside0.mk (below_step HB.out hb_)
  clear hb_
  cases p1 with
  | false =>
   obtain ⟨rfl, rfl, rfl⟩ := hBad.out (by simp)
   have Cn := Aside0.mk (nilC wa5)
   have Hn := Aside0.mk (Nat.le_refl 0)
   clear qaa qba
   clear qab qbb
   have qaz := Bx.c0 Xz.out
   have qbz := Bx.c1 Xz.out
   have qcz := Bx.f0 Xz.out
   have qdz := Bx.f1 Xz.out
   go_wp2_with fail
   refine bodyPost_ret (results_cell48t rfl rfl (Bx.store Xz.out (.slice none 0 0) (.slice none 0 0))) rfl ?_
   exact Rat2.intro ⟨_, _, _, _, rfl, C_store Xz.out Cn.out _ _, Hn.out, C_store Xz.out Cn.out _ _, Hn.out, below_set (below_set HB.out Sz.out) Sz.out⟩
  | true =>
   obtain ⟨n0, e0, n1, e1, ok, m0, m1, hok, hF, hT⟩ := hGood.out (by trivial) (by trivial)
   have M0 := Aside0.mk m0
   have M1 := Aside0.mk m1
   have hOk := Aside0.mk hok
   have hFa := Aside0.mk hF
   have hTr := Aside0.mk hT
   clear m0 m1 hok hF hT hGood hBad
   go_wp2_with (first | ((with_reducible refine gate_dst (N := 28) rfl ?_); (try (refine gate_guard (by rfl) ?_; dsimp only)); refine pairs_event ?hg (N := 28) ?hd #[.slice A0 l0.length c0, .slice A2 l2.length c2, .slice A1 l1.length c1, .slice A3 l3.length c3] 2 ?hr ?_; (case hd => rfl); (case hg => rfl); (case hr => first | (go_simp; done) | (go_simp; rfl)); intro bps wa6 hp_ hb_; replace C0 := Aside0.mk (Kd.C_below C0.out hb_); replace C1 := Aside0.mk (Kd.C_below C1.out hb_); replace C2 := Aside0.mk (Kd.C_below C2.out hb_); replace C3 := Aside0.mk (Kd.C_below C3.out hb_); clear qaa qba; replace Xa := Aside0.mk (Bx.below Xa.out hb_); have qaa := Bx.c0 Xa.out; have qba := Bx.c1 Xa.out; clear qab qbb; replace Xb := Aside0.mk (Bx.below Xb.out hb_); have qab := Bx.c0 Xb.out; have qbb := Bx.c1 Xb.out; replace Xz := Aside0.mk (Bx.below Xz.out hb_); replace HB := Aside0.mk (below_step HB.out hb_); have Pps := Aside0.mk hp_; clear hp_ hb_))
   clear qaa qba
   clear qab qbb
   refine (products2_calls A0 c0 l0 A2 c2 l2 A1 c1 l1 A3 c3 l3 n0 e0 n1 e1 ok bps wa6 C0.out H0.out C2.out H2.out M0.out C1.out H1.out C3.out H3.out M1.out hOk.out Pps.out).mono ?_
   rintro e wa7 ⟨hS_, hF_, hb_⟩
   replace C0 := Aside0.mk (Kd.C_below C0.out hb_)
   replace C1 := Aside0.mk (Kd.C_below C1.out hb_)
   replace C2 := Aside0.mk (Kd.C_below C2.out hb_)
   replace C3 := Aside0.mk (Kd.C_below C3.out hb_)
   replace Xa := Aside0.mk (Bx.below Xa.out hb_)
   replace Xb := Aside0.mk (Bx.below Xb.out hb_)
   replace Xz := Aside0.mk (Bx.below Xz.out hb_)
   replace HB := Aside0.mk (below_step HB.out hb_)
   clear hb_ Pps
   cases ok with
   | false =>
    obtain rfl := hF_ rfl
    clear hF_ hS_
    obtain ⟨rfl, rfl, rfl⟩ := hFa.out (by trivial)
    have Cn := Aside0.mk (nilC wa7)
    have Hn := Aside0.mk (Nat.le_refl 0)
    have qaz := Bx.c0 Xz.out
    have qbz := Bx.c1 Xz.out
    have qcz := Bx.f0 Xz.out
    have qdz := Bx.f1 Xz.out
    go_wp2_with fail
    refine bodyPost_ret (results_cell48t rfl rfl (Bx.store Xz.out (.slice none 0 0) (.slice none 0 0))) rfl ?_
    exact Rat2.intro ⟨_, _, _, _, rfl, C_store Xz.out Cn.out _ _, Hn.out, C_store Xz.out Cn.out _ _, Hn.out, below_set (below_set HB.out Sz.out) Sz.out⟩
   | true =>
    obtain ⟨v_, An0, cn0, An1, cn1, rfl, ho_, ⟨hCn0_, hHn0_⟩, ⟨hCn1_, hHn1_⟩⟩ := hS_ rfl
    clear hS_ hF_
    have Cn0 := Aside0.mk hCn0_
    have Hn0 := Aside0.mk hHn0_
    clear hCn0_ hHn0_
    have Cn1 := Aside0.mk hCn1_
    have Hn1 := Aside0.mk hHn1_
    clear hCn1_ hHn1_
    obtain ⟨g_, cap_, rfl⟩ := own_slice ho_ (by decide)
    have O := Aside0.mk ho_
    have hcap : 2 ≤ cap_ := own_le ho_
    clear ho_
    have oc0 := own_cell O.out (i := 0) rfl
    have oc1 := own_cell O.out (i := 1) rfl
    obtain ⟨t0, t1, t2⟩ := hTr.out (by trivial)
    have hN := Aside0.mk (show Bn.Limbs n0 ∧ Bn.Limbs n1 ∧ newB n0 n1 = ((n, d), ec) from ⟨t0, t1, t2⟩)
    clear t0 t1 t2 hTr hFa hOk
    go_wp2_with fail
    have hb_ : Below wa7.heap.size wa7 wa7.drew := below_drew1 (Below.refl _ _)
    have hSd_ : (fun w' : World => w'.cell? ⟨g_, 0, none⟩ = some (.slice An0 n0.length cn0) ∧ w'.cell? ⟨g_, 1, none⟩ = some (.slice An1 n1.length cn1)) wa7.drew := ⟨oc0, oc1⟩
    refine start_ (n := 11) (S := fun w' => w'.cell? ⟨g_, 0, none⟩ = some (.slice An0 n0.length cn0) ∧ w'.cell? ⟨g_, 1, none⟩ = some (.slice An1 n1.length cn1)) (ds := [6, 9]) #[false, false, false, false, false, false, false, false, false, false, false] (by kernel_rfl) rfl rfl hSd_ (fun hHeld => ?_)
    clear hSd_
    replace O := Aside0.mk (own_row_below O.out hb_)
    clear oc0
    clear oc1
    replace C0 := Aside0.mk (Kd.C_below C0.out hb_)
    replace C1 := Aside0.mk (Kd.C_below C1.out hb_)
    replace C2 := Aside0.mk (Kd.C_below C2.out hb_)
    replace C3 := Aside0.mk (Kd.C_below C3.out hb_)
    replace Cn0 := Aside0.mk (Kd.C_below Cn0.out hb_)
    replace Cn1 := Aside0.mk (Kd.C_below Cn1.out hb_)
    replace Xa := Aside0.mk (Bx.below Xa.out hb_)
    replace Xb := Aside0.mk (Bx.below Xb.out hb_)
    replace Xz := Aside0.mk (Bx.below Xz.out hb_)
    replace HB := Aside0.mk (below_step HB.out hb_)
    have oc0 := own_cell O.out (i := 0) rfl
    have oc1 := own_cell O.out (i := 1) rfl
    clear hb_
    generalize wa7.drew = wa8 at *
    refine pure_ (i := 0) (N := some 35) (v := ?_) (a' := ?_) #[true, false, false, false, false, false, false, false, false, false, false] rfl rfl (by kernel_rfl) (fun _ _ _ h => h) (Or.inl ⟨by rfl, ?_⟩) ?_ ?_
    rotate_left
    ·intro w'
     go_simp
     with_reducible rfl
    rotate_left
    ·simp only [Act.put, List.setIfInBounds_toArray, List.set_cons_zero, List.set_cons_succ, i64_w, i32_w]
     rfl
    refine pure_ (i := 1) (N := some 36) (v := ?_) (a' := ?_) #[true, true, false, false, false, false, false, false, false, false, false] rfl rfl (by kernel_rfl) (fun _ _ _ h => h) (Or.inl ⟨by rfl, ?_⟩) ?_ ?_
    rotate_left
    ·intro w'
     go_simp
     with_reducible rfl
    rotate_left
    ·simp only [Act.put, List.setIfInBounds_toArray, List.set_cons_zero, List.set_cons_succ, i64_w, i32_w]
     rfl
    refine take_ (i := 2) (N := some 37) (v := ?_) (a' := ?_) #[true, true, true, false, false, false, false, false, false, false, false] rfl rfl (by kernel_rfl) (fun _ _ _ h => h) (Or.inl ⟨by rfl, ?_⟩) hHeld ?_ ?_
    rotate_left
    ·rintro w' ⟨s0, s1⟩
     go_simp
     with_reducible rfl
    rotate_left
    ·simp only [Act.put, List.setIfInBounds_toArray, List.set_cons_zero, List.set_cons_succ, i64_w, i32_w]
     rfl
    refine pure_ (i := 3) (N := some 38) (v := ?_) (a' := ?_) #[true, true, true, true, false, false, false, false, false, false, false] rfl rfl (by kernel_rfl) (fun _ _ _ h => h) (Or.inl ⟨by rfl, ?_⟩) ?_ ?_
    rotate_left
    ·intro w'
     go_simp
     with_reducible rfl
    rotate_left
    ·simp only [Act.put, List.setIfInBounds_toArray, List.set_cons_zero, List.set_cons_succ, i64_w, i32_w]
     rfl
    refine pure_ (i := 4) (N := some 39) (v := ?_) (a' := ?_) #[true, true, true, true, true, false, false, false, false, false, false] rfl rfl (by kernel_rfl) (fun _ _ _ h => h) (Or.inl ⟨by rfl, ?_⟩) ?_ ?_
    rotate_left
    ·intro w'
     go_simp
     with_reducible rfl
    rotate_left
    ·simp only [Act.put, List.setIfInBounds_toArray, List.set_cons_zero, List.set_cons_succ, i64_w, i32_w]
     rfl
    refine take_ (i := 5) (N := some 40) (v := ?_) (a' := ?_) #[true, true, true, true, true, true, false, false, false, false, false] rfl rfl (by kernel_rfl) (fun _ _ _ h => h) (Or.inl ⟨by rfl, ?_⟩) hHeld ?_ ?_
    rotate_left
    ·rintro w' ⟨s0, s1⟩
     go_simp
     with_reducible rfl
    rotate_left
    ·simp only [Act.put, List.setIfInBounds_toArray, List.set_cons_zero, List.set_cons_succ, i64_w, i32_w]
     rfl
    refine last_ (i := 6) (N := some 41) #[true, true, true, true, true, true, true, false, false, false, false] rfl rfl (by kernel_rfl) (by decide) (fun K hK => ?_)
    refine goes_ Tryd.func53 (by kernel_rfl) rfl #[.slice An0 n0.length cn0, .slice An1 n1.length cn1] (by rfl) rfl rfl (by (try simp only [List.map_toArray, List.map_cons, List.map_nil]); first | done | rfl) ?_
    refine (ratNew_calls An0 cn0 n0 An1 cn1 n1 n d ec wa8 Cn0.out Hn0.out Cn1.out Hn1.out hN.out.1 hN.out.2.1 hN.out.2.2).mono ?_
    rintro e wa9 ⟨Aq, cq, Ae, ce, rfl, hCq_, hHq_, hCe_, hHe_, hb_⟩
    replace O := Aside0.mk (own_row_below O.out hb_)
    clear oc0
    clear oc1
    replace C0 := Aside0.mk (Kd.C_below C0.out hb_)
    replace C1 := Aside0.mk (Kd.C_below C1.out hb_)
    replace C2 := Aside0.mk (Kd.C_below C2.out hb_)
    replace C3 := Aside0.mk (Kd.C_below C3.out hb_)
    replace Cn0 := Aside0.mk (Kd.C_below Cn0.out hb_)
    replace Cn1 := Aside0.mk (Kd.C_below Cn1.out hb_)
    replace Xa := Aside0.mk (Bx.below Xa.out hb_)
    replace Xb := Aside0.mk (Bx.below Xb.out hb_)
    replace Xz := Aside0.mk (Bx.below Xz.out hb_)
    replace HB := Aside0.mk (below_step HB.out hb_)
    have oc0 := own_cell O.out (i := 0) rfl
    have oc1 := own_cell O.out (i := 1) rfl
    have Cq := Aside0.mk hCq_
    have Hq := Aside0.mk hHq_
    clear hCq_ hHq_
    have Ce := Aside0.mk hCe_
    have He := Aside0.mk hHe_
    clear hCe_ hHe_
    clear hb_
    refine ⟨_, rfl, ?_⟩
    refine hK.out _ _ ?_
    clear hK K
    refine norm_ (a' := ?_) ?_ ?_
    rotate_left
    ·show Act.put _ (some 41) _ = _
     simp only [Act.put, List.setIfInBounds_toArray, List.set_cons_zero, List.set_cons_succ, i64_w, i32_w]
     rfl
    refine pure_ (i := 7) (N := some 42) (v := ?_) (a' := ?_) #[true, true, true, true, true, true, true, true, false, false, false] rfl rfl (by kernel_rfl) (fun _ _ _ h => h) (Or.inl ⟨by rfl, ?_⟩) ?_ ?_
    rotate_left
    ·intro w'
     go_simp
     with_reducible rfl
    rotate_left
    ·simp only [Act.put, List.setIfInBounds_toArray, List.set_cons_zero, List.set_cons_succ, i64_w, i32_w]
     rfl
    refine pure_ (i := 8) (N := some 43) (v := ?_) (a' := ?_) #[true, true, true, true, true, true, true, true, true, false, false] rfl rfl (by kernel_rfl) (fun _ _ _ h => h) (Or.inl ⟨by rfl, ?_⟩) ?_ ?_
    rotate_left
    ·intro w'
     go_simp
     with_reducible rfl
    rotate_left
    ·simp only [Act.put, List.setIfInBounds_toArray, List.set_cons_zero, List.set_cons_succ, i64_w, i32_w]
     rfl
    have qaz := Bx.c0 Xz.out
    have qbz := Bx.c1 Xz.out
    have qcz := Bx.f0 Xz.out
    have qdz := Bx.f1 Xz.out
    refine last_ (i := 9) (N := none) #[true, true, true, true, true, true, true, true, true, true, false] rfl rfl (by kernel_rfl) (by decide) (fun K hK => ?_)
    refine skip_ (w1 := ?_) (by rfl) rfl ?_ ?_
    rotate_left
    ·go_simp
     first | rfl | exact ⟨rfl, rfl⟩
    refine hK.out _ _ ?_
    clear hK K
    refine pure_ (i := 10) (N := some 5) (v := ?_) (a' := ?_) #[true, true, true, true, true, true, true, true, true, true, true] rfl rfl (by kernel_rfl) (fun _ _ _ h => h) (Or.inl ⟨by rfl, ?_⟩) ?_ ?_
    rotate_left
    ·intro w'
     go_simp
     with_reducible rfl
    rotate_left
    ·simp only [Act.put, List.setIfInBounds_toArray, List.set_cons_zero, List.set_cons_succ, i64_w, i32_w]
     rfl
    refine done_ (by kernel_rfl) ?_
    clear oc0 oc1
    go_wp2_with fail
    refine bodyPost_ret (results_cell48t rfl rfl (Bx.store Xz.out (.slice Aq n.length cq) (.slice Ae d.length ce))) rfl ?_
    exact Rat2.intro ⟨_, _, _, _, rfl, C_store Xz.out Cq.out _ _, Hq.out, C_store Xz.out Ce.out _ _, He.out, below_set (below_set HB.out Sz.out) Sz.out⟩

set_option maxHeartbeats 16000000 in
set_option maxRecDepth 100000 in
/-- large. -/
theorem large_calls (A0 : Option Addr) (c0 : Nat) (l0 : List Int) (r : Bool) (w : World) (hr : r = decide (128 < l0.length)) : Calls Tryd.prog 102 #[.slice A0 l0.length c0] w fun e w' => e = .returned (.bool r) ∧ Below w.heap.size w w' := by
 have hR := Aside0.mk hr
 clear hr
 by_cases h : 128 < l0.length
 ·have h1 : decide ((l0.length : Int) > 128) = true := decide_eq_true (by omega)
  obtain rfl : r = true := by rw [hR.out]; exact decide_eq_true h
  go_enter Tryd.func102, Tryd.ntmps102
  go_wp2_with fail
  go_ret
  exact ⟨rfl, Below.refl _ _⟩
 ·have h1 : decide ((l0.length : Int) > 128) = false := decide_eq_false (by omega)
  obtain rfl : r = false := by rw [hR.out]; exact decide_eq_false h
  go_enter Tryd.func102, Tryd.ntmps102
  go_wp2_with fail
  go_ret
  exact ⟨rfl, Below.refl _ _⟩
theorem fits_large (n : Nat) : (!fitsB n) = decide (128 < (Bn.limbs n).length) := by
 unfold fitsB
 rw [← decide_not]
 congr 1
 simp
theorem ref_mul_row {x y : List Int} (hx : Bn.Nrm x ∧ x.length ≤ 128) (hy : Bn.Nrm y ∧ y.length ≤ 128) : lineageref03_Mul.f 20000 x y = some (Bn.limbs (Bn.nv x * Bn.nv y)) :=
 refMul_f hx.1.1 hy.1.1 (by omega) (by have := Nat.mul_le_mul hx.2 (show y.length + 2 ≤ 130 by omega); omega)
theorem refmulR_facts {a b c d n m : List Int} {ec : Int} (La : Bn.Limbs a) (Lb : Bn.Limbs b) (Lc : Bn.Limbs c) (Ld : Bn.Limbs d) (h : mulR a b c d = ((n, m), ec)) (h1 : ratB a b = true) (h2 : ratB c d = true) :
  ∃ n0 n1 f0 f1, lineageref03_Mul.f 20000 a c = some n0 ∧ lineageref03_Mul.f 20000 b d = some n1 ∧ f0 = decide (128 < n0.length) ∧ f1 = decide (128 < n1.length) ∧ ((f0 = true ∨ f1 = true) → n = [] ∧ m = [] ∧ ec = 6) ∧ (f0 = false → f1 = false → ec = 0 ∧ Bn.Nrm n0 ∧ Bn.Nrm n1 ∧ n0.length ≤ 128 ∧ n1.length ≤ 128 ∧ n1 ≠ [] ∧ n = Bn.limbs (Bn.nv n0 / Nat.gcd (Bn.nv n0) (Bn.nv n1)) ∧ m = Bn.limbs (Bn.nv n1 / Nat.gcd (Bn.nv n0) (Bn.nv n1))) := by
 obtain ⟨va, vb, vb0, -⟩ := (ratB_iff La Lb).1 h1
 obtain ⟨vc, vd, vd0, -⟩ := (ratB_iff Lc Ld).1 h2
 unfold mulR at h
 rw [if_pos ⟨h1, h2⟩] at h
 have hp : 0 < Bn.nv b * Bn.nv d := Nat.mul_pos (nv_pos vb.1 vb0) (nv_pos vd.1 vd0)
 refine ⟨_, _, _, _, ref_mul_row va vc, ref_mul_row vb vd, rfl, rfl, fun hf => ?_, fun h3 h4 => ?_⟩
 ·rw [← fits_large, ← fits_large] at hf
  rw [if_neg (by rintro ⟨x, y⟩; rw [x, y] at hf; rcases hf with hf | hf <;> cases hf)] at h
  injection h with h3 h4
  injection h3 with h3 h5
  exact ⟨h3.symm, h5.symm, h4.symm⟩
 ·rw [← fits_large] at h3 h4
  have h5 : fitsB (Bn.nv a * Bn.nv c) = true := by simpa using h3
  have h6 : fitsB (Bn.nv b * Bn.nv d) = true := by simpa using h4
  rw [if_pos ⟨h5, h6⟩] at h
  injection h with h7 h8
  unfold redB at h7
  injection h7 with h7 h9
  rw [Bn.nv_limbs, Bn.nv_limbs]
  exact ⟨h8.symm, Bn.nrm_limbs _, Bn.nrm_limbs _, of_decide_eq_true h5, of_decide_eq_true h6, limbs_ne hp, h7.symm, h9.symm⟩
theorem refaddR_facts {a b c d n m : List Int} {ec : Int} (La : Bn.Limbs a) (Lb : Bn.Limbs b) (Lc : Bn.Limbs c) (Ld : Bn.Limbs d) (h : addR a b c d = ((n, m), ec)) (h1 : ratB a b = true) (h2 : ratB c d = true) :
  ∃ n0 n1 n2 s f0 f1 f2 fs, lineageref03_Mul.f 20000 a d = some n0 ∧ lineageref03_Mul.f 20000 c b = some n1 ∧ lineageref03_Mul.f 20000 b d = some n2 ∧ lineageref03_Add.f 1000 n0 n1 = some s ∧ f0 = decide (128 < n0.length) ∧ f1 = decide (128 < n1.length) ∧ f2 = decide (128 < n2.length) ∧ fs = decide (128 < s.length) ∧ ((f0 = true ∨ f1 = true ∨ f2 = true ∨ fs = true) → n = [] ∧ m = [] ∧ ec = 6) ∧ (f0 = false → f1 = false → f2 = false → fs = false → ec = 0 ∧ Bn.Nrm s ∧ Bn.Nrm n2 ∧ s.length ≤ 128 ∧ n2.length ≤ 128 ∧ n2 ≠ [] ∧ n = Bn.limbs (Bn.nv s / Nat.gcd (Bn.nv s) (Bn.nv n2)) ∧ m = Bn.limbs (Bn.nv n2 / Nat.gcd (Bn.nv s) (Bn.nv n2))) := by
 obtain ⟨va, vb, vb0, -⟩ := (ratB_iff La Lb).1 h1
 obtain ⟨vc, vd, vd0, -⟩ := (ratB_iff Lc Ld).1 h2
 unfold addR at h
 rw [if_pos ⟨h1, h2⟩] at h
 have hp : 0 < Bn.nv b * Bn.nv d := Nat.mul_pos (nv_pos vb.1 vb0) (nv_pos vd.1 vd0)
 have hl : ∀ x y : List Int, Bn.Limbs x → Bn.Limbs y → x.length ≤ 128 → y.length ≤ 128 → (Bn.limbs (Bn.nv x * Bn.nv y)).length ≤ 256 := fun x y hx hy sx sy => (Bn.limbs_len _ _).2 (by
  have h1 := Nat.lt_of_lt_of_le (Bn.nv_lt hx) (Nat.pow_le_pow_right (show 0 < 4294967296 by decide) sx)
  have h2 := Nat.lt_of_lt_of_le (Bn.nv_lt hy) (Nat.pow_le_pow_right (show 0 < 4294967296 by decide) sy)
  rw [show (256 : Nat) = 128 + 128 from rfl, Nat.pow_add]
  exact Nat.mul_lt_mul'' h1 h2)
 have hs : lineageref03_Add.f 1000 (Bn.limbs (Bn.nv a * Bn.nv d)) (Bn.limbs (Bn.nv c * Bn.nv b)) = some (Bn.limbs (Bn.nv a * Bn.nv d + Bn.nv c * Bn.nv b)) := by
  have k1 := hl a d va.1.1 vd.1.1 va.2 vd.2
  have k2 := hl c b vc.1.1 vb.1.1 vc.2 vb.2
  rw [refAdd_f (Bn.nrm_limbs _) (Bn.nrm_limbs _) (by omega) (by omega) (by omega), Bn.nv_limbs, Bn.nv_limbs]
 refine ⟨_, _, _, _, _, _, _, _, ref_mul_row va vd, ref_mul_row vc vb, ref_mul_row vb vd, hs, rfl, rfl, rfl, rfl, fun hf => ?_, fun h3 h4 h5 h6 => ?_⟩
 ·rw [← fits_large, ← fits_large, ← fits_large, ← fits_large] at hf
  rw [if_neg (by rintro ⟨x, y, z, q⟩; rw [x, y, z, q] at hf; rcases hf with hf | hf | hf | hf <;> cases hf)] at h
  injection h with h3 h4
  injection h3 with h3 h5
  exact ⟨h3.symm, h5.symm, h4.symm⟩
 ·rw [← fits_large] at h3 h4 h5 h6
  have k3 : fitsB (Bn.nv a * Bn.nv d) = true := by simpa using h3
  have k4 : fitsB (Bn.nv c * Bn.nv b) = true := by simpa using h4
  have k5 : fitsB (Bn.nv b * Bn.nv d) = true := by simpa using h5
  have k6 : fitsB (Bn.nv a * Bn.nv d + Bn.nv c * Bn.nv b) = true := by simpa using h6
  rw [if_pos ⟨k3, k4, k5, k6⟩] at h
  injection h with h7 h8
  unfold redB at h7
  injection h7 with h7 h9
  rw [Bn.nv_limbs, Bn.nv_limbs]
  exact ⟨h8.symm, Bn.nrm_limbs _, Bn.nrm_limbs _, of_decide_eq_true k6, of_decide_eq_true k5, limbs_ne hp, h7.symm, h9.symm⟩
theorem sub_le {a b : List Int} (va : Bn.Nrm a ∧ a.length ≤ 128) (vb : Bn.Nrm b ∧ b.length ≤ 128) (h : Bn.nv a ≤ Bn.nv b) : bignat_Sub.f b a = some (Bn.limbs (Bn.nv b - Bn.nv a), true) := by
 unfold bignat_Sub.f
 rw [okL_mk va.1.1 (by omega), okL_mk vb.1.1 (by omega), (validB_iff va.1.1).2 va, (validB_iff vb.1.1).2 vb, decide_eq_true h]
 rfl
theorem sub_gt {a b : List Int} (va : Bn.Nrm a ∧ a.length ≤ 128) (vb : Bn.Nrm b ∧ b.length ≤ 128) (h : Bn.nv b < Bn.nv a) : bignat_Sub.f b a = some ([], false) := by
 unfold bignat_Sub.f
 rw [okL_mk va.1.1 (by omega), okL_mk vb.1.1 (by omega), (validB_iff va.1.1).2 va, (validB_iff vb.1.1).2 vb, decide_eq_false (show ¬ Bn.nv a ≤ Bn.nv b by omega)]
 rfl
theorem compR_facts {a b n m : List Int} {ec : Int} (La : Bn.Limbs a) (Lb : Bn.Limbs b) (h : compR a b = ((n, m), ec)) (h1 : ratB a b = true) :
  (Bn.nv a ≤ Bn.nv b ∧ ec = 0 ∧ m = b ∧ n = Bn.limbs (Bn.nv b - Bn.nv a) ∧ newB n b = ((n, m), 0) ∧ Bn.Limbs n ∧ bignat_Sub.f b a = some (n, true) ∧ lineageref03_Compare.f 200 a b = some (cmpN (Bn.nv a) (Bn.nv b)) ∧ lineageref03_Sub.f 500 b a = some n) ∨ (Bn.nv b < Bn.nv a ∧ ec = 2 ∧ n = [] ∧ m = [] ∧ bignat_Sub.f b a = some ([], false) ∧ lineageref03_Compare.f 200 a b = some 1) := by
 obtain ⟨va, vb, vb0, hg⟩ := (ratB_iff La Lb).1 h1
 unfold compR at h
 rw [if_pos h1] at h
 by_cases hle : Bn.nv a ≤ Bn.nv b
 ·rw [if_pos hle] at h
  injection h with h2 h3
  injection h2 with h2 h4
  have hn : (Bn.limbs (Bn.nv b - Bn.nv a)).length ≤ 128 := Nat.le_trans (limbs_le vb.1.1 (by omega)) vb.2
  have hgg : Nat.gcd (Bn.nv b - Bn.nv a) (Bn.nv b) = 1 := by
   rw [Nat.gcd_comm, Nat.gcd_self_sub_right hle]
   rwa [Nat.gcd_comm]
  refine .inl ⟨hle, h3.symm, h4.symm, h2.symm, ?_, ?_, ?_, ?_, ?_⟩
  ·unfold newB
   rw [← h2, if_pos ⟨validB_limbs hn, (validB_iff vb.1.1).2 vb, vb0⟩, Bn.nv_limbs, hgg, Nat.div_one, Nat.div_one, vb.1.2, h4]
  ·rw [← h2]
   exact Bn.limbs_limbs _
  ·rw [← h2]
   exact sub_le va vb hle
  ·exact refCompare_f va.1 vb.1 (by omega) (by omega)
  ·rw [← h2]
   exact refSub_f vb.1 va.1 (by omega) hle (by omega)
 ·rw [if_neg hle] at h
  injection h with h2 h3
  injection h2 with h2 h4
  refine .inr ⟨by omega, h3.symm, h2.symm, h4.symm, sub_gt va vb (by omega), ?_⟩
  rw [refCompare_f va.1 vb.1 (by omega) (by omega), cmpN_gt (by omega)]

set_option maxHeartbeats 16000000 in
set_option maxRecDepth 100000 in
/-- Complement. -/
theorem ratComp_calls (A0 : Option Addr) (c0 : Nat) (l0 : List Int) (A1 : Option Addr) (c1 : Nat) (l1 : List Int) (n d : List Int) (ec : Int) (w : World) (hr0 : Kd.C (Kd.int .u32) w A0 l0.length l0) (hc0 : l0.length ≤ c0) (hr1 : Kd.C (Kd.int .u32) w A1 l1.length l1) (hc1 : l1.length ≤ c1)  (L0 : Bn.Limbs l0) (L1 : Bn.Limbs l1) (h : compR l0 l1 = ((n, d), ec)) :
  Calls Tryd.prog 62 #[.agg #[.slice A0 l0.length c0, .slice A1 l1.length c1]] w fun e_ w' => Rat2 n d ec w e_ w' := by
 have C0 := Aside0.mk hr0
 have H0 := Aside0.mk hc0
 clear hr0 hc0
 have C1 := Aside0.mk hr1
 have H1 := Aside0.mk hc1
 clear hr1 hc1
 have HB := Aside0.mk (Below.refl w.heap.size w)
 obtain ⟨p0, hp0⟩ : ∃ p, p = ratB l0 l1 := ⟨_, rfl⟩
 have hP0 := Aside0.mk hp0
 have hL := Aside0.mk (show Bn.Limbs l0 ∧ Bn.Limbs l1 from ⟨L0, L1⟩)
 have hBad := Aside0.mk (show ¬ (p0 = true) → n = [] ∧ d = [] ∧ ec = 1 from fun hn => by
   unfold compR at h
   rw [hp0] at hn
   rw [if_neg hn] at h
   injection h with h1 h2
   injection h1 with h1 h3
   exact ⟨h1.symm, h3.symm, h2.symm⟩)
 have hGood := Aside0.mk (show p0 = true → _ from fun h0 => compR_facts L0 L1 h (hp0 ▸ h0))
 clear hp0 h L0 L1
 go_enter Tryd.func62, Tryd.ntmps62
 go_wp2_with (first | ((with_reducible refine gate_dst (N := 1) rfl ?_); (try (refine gate_guard (by rfl) ?_; dsimp only)); refine box_event ?hg (N := 1) ?hd (.slice A0 l0.length c0) (.slice A1 l1.length c1) ?hr ?_; (case hd => rfl); (case hg => rfl); (case hr => first | (go_simp; done) | (go_simp; rfl)); intro ba wa1 hx_ hs_ hb_; skip; have Sa := Aside0.mk (Nat.le_trans (below_size HB.out) hs_); have Xa := Aside0.mk hx_; replace C0 := Aside0.mk (Kd.C_below C0.out hb_); replace C1 := Aside0.mk (Kd.C_below C1.out hb_); replace HB := Aside0.mk (below_step HB.out hb_); have qaa := Bx.c0 Xa.out; have qba := Bx.c1 Xa.out; clear hb_ hx_ hs_) | ((with_reducible refine gate_dst (N := 2) rfl ?_); (try (refine gate_guard (by rfl) ?_; dsimp only)); refine box_event ?hg (N := 2) ?hd (.slice none 0 0) (.slice none 0 0) ?hr ?_; (case hd => rfl); (case hg => rfl); (case hr => first | (go_simp; done) | (go_simp; rfl)); intro bz wa2 hx_ hs_ hb_; skip; have Sz := Aside0.mk (Nat.le_trans (below_size HB.out) hs_); have Xz := Aside0.mk hx_; replace C0 := Aside0.mk (Kd.C_below C0.out hb_); replace C1 := Aside0.mk (Kd.C_below C1.out hb_); clear qaa qba; replace Xa := Aside0.mk (Bx.below Xa.out hb_); have qaa := Bx.c0 Xa.out; have qba := Bx.c1 Xa.out; replace HB := Aside0.mk (below_step HB.out hb_); skip; clear hb_ hx_ hs_))
 refine (ratValid_calls A0 c0 l0 A1 c1 l1 p0 wa2 C0.out H0.out C1.out H1.out hL.out.1 hL.out.2 hP0.out).mono ?_
 rintro e wa3 ⟨rfl, hb_⟩
 replace C0 := Aside0.mk (Kd.C_below C0.out hb_)
 replace C1 := Aside0.mk (Kd.C_below C1.out hb_)
 clear qaa qba
 replace Xa := Aside0.mk (Bx.below Xa.out hb_)
 have qaa := Bx.c0 Xa.out
 have qba := Bx.c1 Xa.out
 replace Xz := Aside0.mk (Bx.below Xz.out hb_)
 replace HB := Aside0.mk (below_step HB.out hb_)
 clear hb_
 cases p0 with
 | false =>
  obtain ⟨rfl, rfl, rfl⟩ := hBad.out (by simp)
  have Cn := Aside0.mk (nilC wa3)
  have Hn := Aside0.mk (Nat.le_refl 0)
  clear qaa qba
  have qaz := Bx.c0 Xz.out
  have qbz := Bx.c1 Xz.out
  have qcz := Bx.f0 Xz.out
  have qdz := Bx.f1 Xz.out
  go_wp2_with fail
  refine bodyPost_ret (results_cell48t rfl rfl (Bx.store Xz.out (.slice none 0 0) (.slice none 0 0))) rfl ?_
  exact Rat2.intro ⟨_, _, _, _, rfl, C_store Xz.out Cn.out _ _, Hn.out, C_store Xz.out Cn.out _ _, Hn.out, below_set (below_set HB.out Sz.out) Sz.out⟩
 | true =>
  rcases hGood.out (by trivial) with ⟨hle, rfl, rfl, hn, hN, hLn, hS, hC, hRS⟩ | ⟨hgt, rfl, rfl, rfl, hS, hC⟩
  ·clear hBad hGood
   have hSu := Aside0.mk hS
   have hN2 := Aside0.mk (show Bn.Limbs n ∧ newB n d = ((n, d), 0) from ⟨hLn, hN⟩)
   clear hle hn hN hLn hS hC hRS
   go_wp2_with fail
   refine (bignat_Sub.calls A1 c1 d A0 c0 l0 n true wa3 C1.out H1.out C0.out H0.out hSu.out).mono ?_
   rintro e wa4 ⟨v_, rfl, hr_, hb_⟩
   replace C0 := Aside0.mk (Kd.C_below C0.out hb_)
   replace C1 := Aside0.mk (Kd.C_below C1.out hb_)
   clear qaa qba
   replace Xa := Aside0.mk (Bx.below Xa.out hb_)
   have qaa := Bx.c0 Xa.out
   have qba := Bx.c1 Xa.out
   replace Xz := Aside0.mk (Bx.below Xz.out hb_)
   replace HB := Aside0.mk (below_step HB.out hb_)
   obtain ⟨As, cs, rfl⟩ := Kd.R_slice hr_
   have Cs := Aside0.mk (Kd.R_reads' hr_).2.2
   have Hs := Aside0.mk (show n.length ≤ cs from (Kd.R_reads' hr_).2.1)
   clear hr_ hb_
   go_wp2_with fail
   refine (ratNew_calls As cs n A1 c1 d n d 0 wa4 Cs.out Hs.out C1.out H1.out hN2.out.1 hL.out.2 hN2.out.2).mono ?_
   rintro e wa5 ⟨Aq, cq, Ae, ce, rfl, hCq_, hHq_, hCe_, hHe_, hb_⟩
   replace C0 := Aside0.mk (Kd.C_below C0.out hb_)
   replace C1 := Aside0.mk (Kd.C_below C1.out hb_)
   replace Cs := Aside0.mk (Kd.C_below Cs.out hb_)
   clear qaa qba
   replace Xa := Aside0.mk (Bx.below Xa.out hb_)
   have qaa := Bx.c0 Xa.out
   have qba := Bx.c1 Xa.out
   replace Xz := Aside0.mk (Bx.below Xz.out hb_)
   replace HB := Aside0.mk (below_step HB.out hb_)
   have Cq := Aside0.mk hCq_
   have Hq := Aside0.mk hHq_
   clear hCq_ hHq_
   have Ce := Aside0.mk hCe_
   have He := Aside0.mk hHe_
   clear hCe_ hHe_
   clear hb_
   clear qaa qba
   have qaz := Bx.c0 Xz.out
   have qbz := Bx.c1 Xz.out
   have qcz := Bx.f0 Xz.out
   have qdz := Bx.f1 Xz.out
   go_wp2_with fail
   refine bodyPost_ret (results_cell48t rfl rfl (Bx.store Xz.out (.slice Aq n.length cq) (.slice Ae d.length ce))) rfl ?_
   exact Rat2.intro ⟨_, _, _, _, rfl, C_store Xz.out Cq.out _ _, Hq.out, C_store Xz.out Ce.out _ _, He.out, below_set (below_set HB.out Sz.out) Sz.out⟩
  ·clear hBad hGood
   have hSu := Aside0.mk hS
   clear hgt hS hC
   go_wp2_with fail
   refine (bignat_Sub.calls A1 c1 l1 A0 c0 l0 [] false wa3 C1.out H1.out C0.out H0.out hSu.out).mono ?_
   rintro e wa4 ⟨v_, rfl, hr_, hb_⟩
   replace C0 := Aside0.mk (Kd.C_below C0.out hb_)
   replace C1 := Aside0.mk (Kd.C_below C1.out hb_)
   clear qaa qba
   replace Xa := Aside0.mk (Bx.below Xa.out hb_)
   have qaa := Bx.c0 Xa.out
   have qba := Bx.c1 Xa.out
   replace Xz := Aside0.mk (Bx.below Xz.out hb_)
   replace HB := Aside0.mk (below_step HB.out hb_)
   clear hr_ hb_
   have Cn := Aside0.mk (nilC wa4)
   have Hn := Aside0.mk (Nat.le_refl 0)
   clear qaa qba
   have qaz := Bx.c0 Xz.out
   have qbz := Bx.c1 Xz.out
   have qcz := Bx.f0 Xz.out
   have qdz := Bx.f1 Xz.out
   go_wp2_with fail
   refine bodyPost_ret (results_cell48t rfl rfl (Bx.store Xz.out (.slice none 0 0) (.slice none 0 0))) rfl ?_
   exact Rat2.intro ⟨_, _, _, _, rfl, C_store Xz.out Cn.out _ _, Hn.out, C_store Xz.out Cn.out _ _, Hn.out, below_set (below_set HB.out Sz.out) Sz.out⟩

end Go.Proofs.YtoakfjcejamoeaaDoor.B
