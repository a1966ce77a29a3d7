/- The walk of the law RationalNormalForm. -/
import Derived.Test.YtoakfjcejamoeaaDoorQF
namespace Go.Proofs.YtoakfjcejamoeaaDoor.B
open Go.RowKit Go.Proofs.YtoakfjcejamoeaaDoorW.PrintWords Go.Proofs.YtoakfjcejamoeaaDoorW.PrintLast Go.Proofs.YtoakfjcejamoeaaDoorW.PrintMore
set_option exponentiation.threshold 8200
set_option linter.unusedVariables false
set_option linter.unusedSimpArgs false
/-- An operation that yields a value and a new world. -/
theorem value3_ {P : Program} {ops : Array Oper} {Q : Exit → Act → World → Prop} {K : Act → World → Prop} {oi : Oper} {N : Option Tmp} {a : Act} {w w1 : World} {v : Value} (hw : Region.wanted oi (yielded ops a.tmps) = true) (hN : oi.dst = N) (hrun : (execOp a.eval oi).run P w = .ok (.value v) w1)
  (h : K (a.put N v) w1) : if Region.wanted oi (yielded ops a.tmps) = true then Oper.wp P oi a w K Q else K (a.put N undef) w := by
 rw [if_pos hw]
 unfold Oper.wp
 rw [hrun]
 show K (a.put oi.dst v) w1
 rw [hN]
 exact h
set_option maxHeartbeats 16000000 in
set_option maxRecDepth 100000 in
/-- What a law's walk keeps: rows of limbs, rationals in blocks of their own (the newest first), and that nothing below is touched. -/
structure St (W0 W : World) (R : List (Option Addr × Nat × List Int)) (B : List (Nat × Value × Value)) : Prop where
 rows : ∀ x ∈ R, Kd.C (Kd.int .u32) W x.1 x.2.2.length x.2.2 ∧ x.2.2.length ≤ x.2.1
 boxes : ∀ y ∈ B, Bx W y.1 y.2.1 y.2.2 ∧ W0.heap.size ≤ y.1
 apart : (B.map (·.1)).Pairwise (fun x y => y < x)
 below : Below W0.heap.size W0 W
section
variable {W0 W W' : World} {R : List (Option Addr × Nat × List Int)} {B : List (Nat × Value × Value)}
theorem St.nil (W : World) : St W W [] [] := ⟨fun _ h => absurd h (List.not_mem_nil), fun _ h => absurd h (List.not_mem_nil), List.Pairwise.nil, Below.refl _ _⟩
theorem St.c (h : St W0 W R B) (i : Nat) {A : Option Addr} {c : Nat} {l : List Int} (e : R[i]? = some (A, c, l)) : Kd.C (Kd.int .u32) W A l.length l := (h.rows _ (List.mem_of_getElem? e)).1
theorem St.h (h : St W0 W R B) (i : Nat) {A : Option Addr} {c : Nat} {l : List Int} (e : R[i]? = some (A, c, l)) : l.length ≤ c := (h.rows _ (List.mem_of_getElem? e)).2
theorem St.bx (h : St W0 W R B) (i : Nat) {b : Nat} {v0 v1 : Value} (e : B[i]? = some (b, v0, v1)) : Bx W b v0 v1 := (h.boxes _ (List.mem_of_getElem? e)).1
theorem St.step (h : St W0 W R B) (hb : Below W.heap.size W W') : St W0 W' R B :=
 ⟨fun x hx => ⟨Kd.C_below (h.rows x hx).1 hb, (h.rows x hx).2⟩, fun y hy => ⟨(h.boxes y hy).1.below hb, (h.boxes y hy).2⟩, h.apart, below_step h.below hb⟩
theorem St.row (h : St W0 W R B) {A : Option Addr} {c : Nat} {l : List Int} (hC : Kd.C (Kd.int .u32) W A l.length l) (hH : l.length ≤ c) : St W0 W ((A, c, l) :: R) B :=
 ⟨fun x hx => (List.mem_cons.1 hx).elim (fun e => by subst e; exact ⟨hC, hH⟩) (h.rows x), h.boxes, h.apart, h.below⟩
theorem St.tail {x : Option Addr × Nat × List Int} (h : St W0 W (x :: R) B) : St W0 W R B := ⟨fun y hy => h.rows y (List.mem_cons_of_mem _ hy), h.boxes, h.apart, h.below⟩
theorem St.keep {R' : List (Option Addr × Nat × List Int)} (h : St W0 W R B) (s : ∀ x ∈ R', x ∈ R) : St W0 W R' B := ⟨fun y hy => h.rows y (s y hy), h.boxes, h.apart, h.below⟩
theorem St.box (h : St W0 W R B) {b : Nat} {v0 v1 : Value} (hx : Bx W' b v0 v1) (hs : W.heap.size ≤ b) (hb : Below W.heap.size W W') : St W0 W' R ((b, v0, v1) :: B) :=
 ⟨(h.step hb).rows, fun y hy => (List.mem_cons.1 hy).elim (fun e => by subst e; exact ⟨hx, Nat.le_trans (below_size h.below) hs⟩) ((h.step hb).boxes y),
  List.pairwise_cons.2 ⟨fun k hk => by
   obtain ⟨y, hy, rfl⟩ := List.mem_map.1 hk
   have := (h.boxes y hy).1.lt
   exact Nat.lt_of_lt_of_le this hs, h.apart⟩, (h.step hb).below⟩
theorem St.store (h : St W0 W R B) (j : Nat) {b : Nat} {A0 A1 : Option Addr} {n0 c0 n1 c1 : Nat} (e : B[j]? = some (b, .slice A0 n0 c0, .slice A1 n1 c1)) (u0 u1 : Value) {B' : List (Nat × Value × Value)} (hB : B.set j (b, u0, u1) = B') :
  St W0 ((W.setCell ⟨b, 0, none⟩ u0).setCell ⟨b, 1, none⟩ u1) R B' := by
 subst hB
 have hj := (h.boxes _ (List.mem_of_getElem? e))
 refine ⟨fun x hx => ⟨C_store hj.1 (h.rows x hx).1 _ _, (h.rows x hx).2⟩, fun y hy => ?_, ?_, below_set (below_set h.below hj.2) hj.2⟩
 ·obtain ⟨i, hi⟩ := List.mem_iff_getElem?.1 hy
  rw [List.getElem?_set] at hi
  split at hi
  ·split at hi
   ·injection hi with hi
    subst hi
    exact ⟨hj.1.store u0 u1, hj.2⟩
   ·cases hi
  ·rename_i hij
   have hy2 := h.boxes y (List.mem_of_getElem? hi)
   refine ⟨hy2.1.other ?_ u0 u1, hy2.2⟩
   have e1 : (B.map (·.1))[i]? = some y.1 := by rw [List.getElem?_map, hi]; rfl
   have e2 : (B.map (·.1))[j]? = some b := by rw [List.getElem?_map, e]; rfl
   intro hb
   have ha := h.apart
   rw [List.pairwise_iff_getElem] at ha
   obtain ⟨i1, i2⟩ := List.getElem?_eq_some_iff.1 e1
   obtain ⟨j1, j2⟩ := List.getElem?_eq_some_iff.1 e2
   rcases Nat.lt_or_gt_of_ne hij with hl | hl
   ·have := ha j i j1 i1 hl
    omega
   ·have := ha i j i1 j1 hl
    omega
 ·have e2 : (B.map (·.1))[j]? = some b := by rw [List.getElem?_map, e]; rfl
  obtain ⟨j1, j2⟩ := List.getElem?_eq_some_iff.1 e2
  have : (B.set j (b, u0, u1)).map (·.1) = B.map (·.1) := by
   rw [List.map_set]
   show (B.map (·.1)).set j b = _
   rw [← j2, List.set_getElem_self]
  rw [this]
  exact h.apart
end
theorem drop2_ {x y p q : Option Addr × Nat × List Int} {R : List (Option Addr × Nat × List Int)} : ∀ z ∈ x :: y :: R, z ∈ x :: y :: p :: q :: R := fun z hz => by
 simp only [List.mem_cons] at *
 rcases hz with h | h | h
 ·exact Or.inl h
 ·exact Or.inr (Or.inl h)
 ·exact Or.inr (Or.inr (Or.inr (Or.inr h)))
/-- An operation that its guard passes over. -/
theorem idle_ {P : Program} {ops : Array Oper} {Q : Exit → Act → World → Prop} {K : Act → World → Prop} {oi : Oper} {N : Option Tmp} {a : Act} {w : World} (hw : Region.wanted oi (yielded ops a.tmps) = false)
  (h : K (a.put N undef) w) : if Region.wanted oi (yielded ops a.tmps) = true then Oper.wp P oi a w K Q else K (a.put N undef) w := by
 rw [hw]
 exact h

theorem fits_lt {n : Nat} (h : n < 4294967296 ^ 128) : fitsB n = true := decide_eq_true ((Bn.limbs_len n 128).2 h)
theorem lt_pow {l : List Int} (h : Bn.Limbs l) {k : Nat} (hl : l.length ≤ k) : Bn.nv l < 4294967296 ^ k := Nat.lt_of_lt_of_le (Bn.nv_lt h) (Nat.pow_le_pow_right (by decide) hl)
theorem mul_pow {a b j k : Nat} (ha : a < 4294967296 ^ j) (hb : b < 4294967296 ^ k) : a * b < 4294967296 ^ (j + k) := by
 rw [Nat.pow_add]
 exact Nat.mul_lt_mul'' ha hb
theorem pow_le {a j k : Nat} (ha : a < 4294967296 ^ j) (h : j ≤ k) : a < 4294967296 ^ k := Nat.lt_of_lt_of_le ha (Nat.pow_le_pow_right (by decide) h)
theorem add_pow {a b j : Nat} (ha : a < 4294967296 ^ j) (hb : b < 4294967296 ^ j) : a + b < 4294967296 ^ (j + 1) := by
 rw [Nat.pow_succ]
 omega
/-- the lowest terms of N/D -/
theorem redB_spec {N D : Nat} (hN : fitsB N = true) (hD : fitsB D = true) (h0 : 0 < D) {x y : List Int} (h : redB N D = (x, y)) : ratB x y = true ∧ Bn.Limbs x ∧ Bn.Limbs y ∧ ∃ g, 0 < g ∧ Bn.nv x * g = N ∧ Bn.nv y * g = D := by
 unfold redB at h
 injection h with h1 h2
 have hg : 0 < Nat.gcd N D := Nat.gcd_pos_of_pos_right _ h0
 have d1 := Nat.gcd_dvd_left N D
 have d2 := Nat.gcd_dvd_right N D
 have L1 : Bn.Limbs x := by rw [← h1]; exact Bn.limbs_limbs _
 have L2 : Bn.Limbs y := by rw [← h2]; exact Bn.limbs_limbs _
 have ex : Bn.nv x = N / Nat.gcd N D := by rw [← h1, Bn.nv_limbs]
 have ey : Bn.nv y = D / Nat.gcd N D := by rw [← h2, Bn.nv_limbs]
 refine ⟨(ratB_iff L1 L2).2 ⟨⟨by rw [← h1]; exact Bn.nrm_limbs _, by rw [← h1]; exact div_row hN⟩, ⟨by rw [← h2]; exact Bn.nrm_limbs _, by rw [← h2]; exact div_row hD⟩, by rw [← h2]; exact limbs_ne (Nat.div_pos (Nat.le_of_dvd h0 d2) hg), ?_⟩, L1, L2, Nat.gcd N D, hg, by rw [ex]; exact Nat.div_mul_cancel d1, by rw [ey]; exact Nat.div_mul_cancel d2⟩
 rw [ex, ey, Nat.gcd_div d1 d2, Nat.div_self hg]
/-- a fraction in lowest terms is what its own numbers reduce to -/
theorem redB_self {a b : List Int} (La : Bn.Limbs a) (Lb : Bn.Limbs b) (h : ratB a b = true) {g : Nat} (hg : 0 < g) : redB (Bn.nv a * g) (Bn.nv b * g) = (a, b) := by
 obtain ⟨va, vb, vb0, hc⟩ := (ratB_iff La Lb).1 h
 unfold redB
 rw [Nat.gcd_mul_right, hc, Nat.one_mul, Nat.mul_div_cancel _ hg, Nat.mul_div_cancel _ hg, va.1.2, vb.1.2]
/-- equal fractions have the same lowest terms -/
theorem redB_cross {N D N' D' : Nat} (h0 : 0 < D) (h1 : 0 < D') (h : N * D' = N' * D) : redB N D = redB N' D' := by
 have key : ∀ {n d : Nat} (k : Nat), 0 < k → redB (n * k) (d * k) = redB n d := by
  intro n d k hk
  unfold redB
  rw [Nat.gcd_mul_right, Nat.mul_div_mul_right _ _ hk, Nat.mul_div_mul_right _ _ hk]
 rw [← key (n := N) (d := D) D' h1, ← key (n := N') (d := D') D h0, h, Nat.mul_comm D D']

theorem newB_len {a b n d : List Int} {e : Int} (La : Bn.Limbs a) (Lb : Bn.Limbs b) (h : newB a b = ((n, d), e)) : n.length ≤ 128 ∧ d.length ≤ 128 ∧ Bn.Limbs n ∧ Bn.Limbs d := by
 unfold newB at h
 split at h
 ·rename_i h0
  injection h with h2 h3
  injection h2 with h2 h4
  have v0 := ((validB_iff La).1 h0.1).2
  have v1 := ((validB_iff Lb).1 h0.2.1).2
  rw [← h2, ← h4]
  exact ⟨(Bn.limbs_len _ _).2 (Nat.lt_of_le_of_lt (Nat.div_le_self _ _) (lt_pow La v0)), (Bn.limbs_len _ _).2 (Nat.lt_of_le_of_lt (Nat.div_le_self _ _) (lt_pow Lb v1)), Bn.limbs_limbs _, Bn.limbs_limbs _⟩
 ·injection h with h2 h3
  injection h2 with h2 h4
  rw [← h2, ← h4]
  exact ⟨by decide, by decide, Bn.Limbs.nil, Bn.Limbs.nil⟩
/-- What the law RationalNormalForm says of New. -/
theorem newB_facts {a b n d : List Int} {e : Int} (La : Bn.Limbs a) (Lb : Bn.Limbs b) (sa : a.length ≤ 4) (sb : b.length ≤ 4) (h : newB a b = ((n, d), e)) :
  e = 1 ∨ e = 0 ∧ ratB n d = true ∧ ∃ m, lineageref03_Mul.f 20000 n b = some m ∧ lineageref03_Mul.f 20000 a d = some m ∧ lineageref03_Compare.f 1000 m m = some 0 := by
 have hl := newB_len La Lb h
 have h' := h
 unfold newB at h
 split at h
 ·rename_i h0
  right
  injection h with h2 h3
  obtain ⟨va, vb, b0⟩ := h0
  have na := (validB_iff La).1 va
  have nb := (validB_iff Lb).1 vb
  have p0 := nv_pos nb.1 b0
  obtain ⟨r, L1, L2, g, g0, e1, e2⟩ := redB_spec (N := Bn.nv a) (D := Bn.nv b) (fits_lt (lt_pow La (Nat.le_trans sa (by decide)))) (fits_lt (lt_pow Lb (Nat.le_trans sb (by decide)))) p0 (x := n) (y := d) (by unfold redB; exact h2)
  have hm : Bn.nv n * Bn.nv b = Bn.nv a * Bn.nv d := by
   rw [← e1, ← e2, Nat.mul_comm (Bn.nv d) g, ← Nat.mul_assoc]
  refine ⟨h3.symm, r, Bn.limbs (Bn.nv n * Bn.nv b), refMul_f L1 Lb (by omega) (by have := Nat.mul_le_mul hl.1 (show b.length + 2 ≤ 6 by omega); omega), ?_, ?_⟩
  ·rw [hm]
   exact refMul_f La L2 (by omega) (by have := Nat.mul_le_mul sa (show d.length + 2 ≤ 130 by omega); omega)
  ·have hs : (Bn.limbs (Bn.nv n * Bn.nv b)).length ≤ 132 := (Bn.limbs_len _ _).2 (mul_pow (lt_pow L1 hl.1) (lt_pow Lb sb))
   rw [refCompare_f (Bn.nrm_limbs _) (Bn.nrm_limbs _) (by omega) (by omega)]
   unfold cmpN
   simp
 ·left
  injection h with h2 h3
  exact h3.symm

set_option maxHeartbeats 16000000 in
set_option maxRecDepth 100000 in
/-- RationalNormalForm. -/
theorem normalLaw (A0 : Option Addr) (c0 : Nat) (l0 : List Int) (A1 : Option Addr) (c1 : Nat) (l1 : List Int) (A2 : Option Addr) (c2 : Nat) (l2 : List Int) (A3 : Option Addr) (c3 : Nat) (l3 : List Int) (w : World) (hr0 : Kd.C (Kd.int .u32) w A0 l0.length l0) (hc0 : l0.length ≤ c0) (hr1 : Kd.C (Kd.int .u32) w A1 l1.length l1) (hc1 : l1.length ≤ c1) (hr2 : Kd.C (Kd.int .u32) w A2 l2.length l2) (hc2 : l2.length ≤ c2) (hr3 : Kd.C (Kd.int .u32) w A3 l3.length l3) (hc3 : l3.length ≤ c3) (ht_ : Tab w) (L0 : Bn.Limbs l0) (L1 : Bn.Limbs l1) (L2 : Bn.Limbs l2) (L3 : Bn.Limbs l3) (n0 n1 : Nat) (hn0 : n0 < 18446744073709551616) (hn1 : n1 < 18446744073709551616) :
  Calls Tryd.prog 12 #[.agg #[.slice A0 l0.length c0, .slice A1 l1.length c1], .slice A2 l2.length c2, .slice A3 l3.length c3, .int .u64 (n0 : Int), .int .u64 (n1 : Int)] w fun e w' => e = .returned (.bool true) ∧ Below w.heap.size w w' := by
 have HT_ := Aside0.mk ht_
 clear ht_
 have HS := Aside0.mk (((((St.nil w).row hr0 hc0).row hr1 hc1).row hr2 hc2).row hr3 hc3)
 clear hr0 hc0 hr1 hc1 hr2 hc2 hr3 hc3
 obtain ⟨f0, hq0⟩ : ∃ f, f = (decide ((l0.length : Int) ≤ 4) && decide ((l1.length : Int) ≤ 4)) := ⟨_, rfl⟩
 obtain ⟨f1, hq1⟩ : ∃ f, f = (decide ((l2.length : Int) ≤ 4) && decide ((l3.length : Int) ≤ 4)) := ⟨_, rfl⟩
 have hf0 := Aside0.mk hq0
 have hf1 := Aside0.mk hq1
 obtain ⟨p, hp⟩ : ∃ p, p = ratB l0 l1 := ⟨_, rfl⟩
 have hP := Aside0.mk hp
 obtain ⟨⟨⟨xn, xd⟩, xe⟩, hx⟩ : ∃ t, t = newB l2 l3 := ⟨_, rfl⟩
 obtain ⟨⟨⟨un, ud⟩, ue⟩, hu⟩ : ∃ t, t = newB (Bn.limbs n0) (Bn.limbs n1) := ⟨_, rfl⟩
 have hX := Aside0.mk hx.symm
 have hU := Aside0.mk hu.symm
 have ZX := Aside0.mk (newB_len L2 L3 hx.symm)
 have ZU := Aside0.mk (newB_len (Bn.limbs_limbs _) (Bn.limbs_limbs _) hu.symm)
 have hL := Aside0.mk (show Bn.Limbs l0 ∧ Bn.Limbs l1 ∧ Bn.Limbs l2 ∧ Bn.Limbs l3 from ⟨L0, L1, L2, L3⟩)
 have hN := Aside0.mk (show n0 < 18446744073709551616 ∧ n1 < 18446744073709551616 from ⟨hn0, hn1⟩)
 have hG := Aside0.mk (show f0 = true → f1 = true → _ from fun h0 h1 => by
   have z1 : l2.length ≤ 4 ∧ l3.length ≤ 4 := by
    rw [hq1] at h1
    simp at h1
    omega
   exact newB_facts L2 L3 z1.1 z1.2 hx.symm)
 obtain ⟨zl, hzl⟩ : ∃ z, z = Bn.limbs 0 := ⟨_, rfl⟩
 have hz0 : zl = [] := hzl.trans Bn.limbs_zero
 obtain ⟨ol, hol⟩ : ∃ z, z = Bn.limbs 1 := ⟨_, rfl⟩
 have hz1 : ol = [1] := hol.trans limbs_1
 have hZO := Aside0.mk (show (zl = Bn.limbs 0 ∧ ol = Bn.limbs 1) ∧ zl = [] ∧ ol = [1] from ⟨⟨hzl, hol⟩, hz0, hz1⟩)
 clear hq0 hq1 hp hx hu L0 L1 L2 L3 hn0 hn1 hzl hol hz0 hz1
 go_enter Tryd.func12, Tryd.ntmps12
 go_wp2_with (first | ((with_reducible refine gate_dst (N := 5) rfl ?_); (try (refine gate_guard (by rfl) ?_; dsimp only)); refine box_event ?hg (N := 5) ?hd (.slice A0 l0.length c0) (.slice A1 l1.length c1) ?hr ?_; (case hd => rfl); (case hg => rfl); (case hr => first | (go_simp; done) | (go_simp; rfl)); intro ba wa1 hx_ hs_ hb_; replace HS := Aside0.mk (HS.out.box hx_ hs_ hb_); clear hb_ hx_ hs_))
 refine (awake10_calls wa1 (HT_.out.below HS.out.below)).mono ?_
 rintro e wa2 ⟨rfl, hb_⟩
 replace HS := Aside0.mk (HS.out.step hb_)
 clear hb_
 have qaa := Bx.c0 (HS.out.bx 0 rfl)
 have qba := Bx.c1 (HS.out.bx 0 rfl)
 go_wp2_with (first | ((with_reducible refine gate_dst (N := 25) rfl ?_); (try (refine gate_guard (by rfl) ?_; dsimp only)); refine rats_event ?hg (N := 25) ?hd #[.slice A0 l0.length c0, .slice A1 l1.length c1, .slice A2 l2.length c2, .slice A3 l3.length c3] 2 ?hr ?_; (case hd => rfl); (case hg => rfl); (case hr => first | (go_simp; done) | (go_simp; rfl)); intro blt wa3 hp_ hb_; replace HS := Aside0.mk (HS.out.step hb_); have Plt := Aside0.mk hp_; clear hp_ hb_; clear qaa qba; have qaa := Bx.c0 (HS.out.bx 0 rfl); have qba := Bx.c1 (HS.out.bx 0 rfl)))
 refine (light2_calls A0 c0 l0 A1 c1 l1 f0 A2 c2 l2 A3 c3 l3 f1 blt wa3 hf0.out hf1.out Plt.out).mono ?_
 rintro e wa4 ⟨rfl, hb_⟩
 replace HS := Aside0.mk (HS.out.step hb_)
 clear hb_
 clear qaa qba
 clear Plt
 cases f0 with
 | false =>
  go_wp2_with fail
  go_ret
  exact ⟨rfl, HS.out.below⟩
 | true =>
  cases f1 with
  | false =>
   go_wp2_with fail
   go_ret
   exact ⟨rfl, HS.out.below⟩
  | true =>
   have hG2 := Aside0.mk (hG.out (by trivial) (by trivial))
   clear hG
   go_wp2_with fail
   refine (ratNew_calls A2 c2 l2 A3 c3 l3 xn xd xe wa4 (HS.out.c 1 rfl) (HS.out.h 1 rfl) (HS.out.c 0 rfl) (HS.out.h 0 rfl) hL.out.2.2.1 hL.out.2.2.2 hX.out).mono ?_
   rintro e wa5 ⟨Axn, cxn, Axd, cxd, rfl, hCxn_, hHxn_, hCxd_, hHxd_, hb_⟩
   replace HS := Aside0.mk (((HS.out.step hb_).row hCxn_ hHxn_).row hCxd_ hHxd_)
   clear hb_ hCxn_ hHxn_ hCxd_ hHxd_
   go_wp2_with (first | ((with_reducible refine gate_dst (N := 11) rfl ?_); (try (refine gate_guard (by rfl) ?_; dsimp only)); refine box_event ?hg (N := 11) ?hd (.slice none 0 0) (.slice none 0 0) ?hr ?_; (case hd => rfl); (case hg => rfl); (case hr => first | (go_simp; done) | (go_simp; rfl)); intro bx wa6 hx_ hs_ hb_; replace HS := Aside0.mk (HS.out.box hx_ hs_ hb_); clear hb_ hx_ hs_) | (refine store_event (by rfl) (by rfl) (HS.out.bx 0 rfl : Bx _ bx _ _) (.slice Axn xn.length cxn) (.slice Axd xd.length cxd) ?hr ?_; (case hr => (have qax := Bx.c0 (HS.out.bx 0 rfl); have qbx := Bx.c1 (HS.out.bx 0 rfl); have qc_ := Bx.f0 (HS.out.bx 0 rfl); have qd_ := Bx.f1 (HS.out.bx 0 rfl); first | (go_simp; done) | (go_simp; rfl))); intro wa7 he_ hx_; clear hx_; replace HS := Aside0.mk (HS.out.store 0 rfl (.slice Axn xn.length cxn) (.slice Axd xd.length cxd) rfl); generalize (wa6.setCell ⟨bx, 0, none⟩ (.slice Axn xn.length cxn)).setCell ⟨bx, 1, none⟩ (.slice Axd xd.length cxd) = wg_ at *; subst he_))
   refine (refNew_calls A2 c2 l2 A3 c3 l3 xn xd xe wa7 (HS.out.c 3 rfl) (HS.out.h 3 rfl) (HS.out.c 2 rfl) (HS.out.h 2 rfl) hL.out.2.2.1 hL.out.2.2.2 hX.out).mono ?_
   rintro e wa8 ⟨Ayn, cyn, Ayd, cyd, rfl, hCyn_, hHyn_, hCyd_, hHyd_, hb_⟩
   replace HS := Aside0.mk (((HS.out.step hb_).row hCyn_ hHyn_).row hCyd_ hHyd_)
   clear hb_ hCyn_ hHyn_ hCyd_ hHyd_
   go_wp2_with (first | ((with_reducible refine gate_dst (N := 13) rfl ?_); (try (refine gate_guard (by rfl) ?_; dsimp only)); refine box_event ?hg (N := 13) ?hd (.slice none 0 0) (.slice none 0 0) ?hr ?_; (case hd => rfl); (case hg => rfl); (case hr => first | (go_simp; done) | (go_simp; rfl)); intro byy wa9 hx_ hs_ hb_; replace HS := Aside0.mk (HS.out.box hx_ hs_ hb_); clear hb_ hx_ hs_) | (refine store_event (by rfl) (by rfl) (HS.out.bx 0 rfl : Bx _ byy _ _) (.slice Ayn xn.length cyn) (.slice Ayd xd.length cyd) ?hr ?_; (case hr => (have qayy := Bx.c0 (HS.out.bx 0 rfl); have qbyy := Bx.c1 (HS.out.bx 0 rfl); have qc_ := Bx.f0 (HS.out.bx 0 rfl); have qd_ := Bx.f1 (HS.out.bx 0 rfl); first | (go_simp; done) | (go_simp; rfl))); intro wa10 he_ hx_; clear hx_; replace HS := Aside0.mk (HS.out.store 0 rfl (.slice Ayn xn.length cyn) (.slice Ayd xd.length cyd) rfl); generalize (wa9.setCell ⟨byy, 0, none⟩ (.slice Ayn xn.length cyn)).setCell ⟨byy, 1, none⟩ (.slice Ayd xd.length cyd) = wg_ at *; subst he_))
   refine (FromInts_calls n0 n1 un ud ue wa10 hN.out.1 hN.out.2 hU.out).mono ?_
   rintro e wa11 ⟨Aun, cun, Aud, cud, rfl, hCun_, hHun_, hCud_, hHud_, hb_⟩
   replace HS := Aside0.mk (((HS.out.step hb_).row hCun_ hHun_).row hCud_ hHud_)
   clear hb_ hCun_ hHun_ hCud_ hHud_
   go_wp2_with (first | ((with_reducible refine gate_dst (N := 15) rfl ?_); (try (refine gate_guard (by rfl) ?_; dsimp only)); refine box_event ?hg (N := 15) ?hd (.slice none 0 0) (.slice none 0 0) ?hr ?_; (case hd => rfl); (case hg => rfl); (case hr => first | (go_simp; done) | (go_simp; rfl)); intro bu wa12 hx_ hs_ hb_; replace HS := Aside0.mk (HS.out.box hx_ hs_ hb_); clear hb_ hx_ hs_) | (refine store_event (by rfl) (by rfl) (HS.out.bx 0 rfl : Bx _ bu _ _) (.slice Aun un.length cun) (.slice Aud ud.length cud) ?hr ?_; (case hr => (have qau := Bx.c0 (HS.out.bx 0 rfl); have qbu := Bx.c1 (HS.out.bx 0 rfl); have qc_ := Bx.f0 (HS.out.bx 0 rfl); have qd_ := Bx.f1 (HS.out.bx 0 rfl); first | (go_simp; done) | (go_simp; rfl))); intro wa13 he_ hx_; clear hx_; replace HS := Aside0.mk (HS.out.store 0 rfl (.slice Aun un.length cun) (.slice Aud ud.length cud) rfl); generalize (wa12.setCell ⟨bu, 0, none⟩ (.slice Aun un.length cun)).setCell ⟨bu, 1, none⟩ (.slice Aud ud.length cud) = wg_ at *; subst he_))
   refine (refFromInts_calls n0 n1 un ud ue wa13 hN.out.1 hN.out.2 hU.out).mono ?_
   rintro e wa14 ⟨Avn, cvn, Avd, cvd, rfl, hCvn_, hHvn_, hCvd_, hHvd_, hb_⟩
   replace HS := Aside0.mk (((HS.out.step hb_).row hCvn_ hHvn_).row hCvd_ hHvd_)
   clear hb_ hCvn_ hHvn_ hCvd_ hHvd_
   go_wp2_with (first | ((with_reducible refine gate_dst (N := 17) rfl ?_); (try (refine gate_guard (by rfl) ?_; dsimp only)); refine box_event ?hg (N := 17) ?hd (.slice none 0 0) (.slice none 0 0) ?hr ?_; (case hd => rfl); (case hg => rfl); (case hr => first | (go_simp; done) | (go_simp; rfl)); intro bv wa15 hx_ hs_ hb_; replace HS := Aside0.mk (HS.out.box hx_ hs_ hb_); clear hb_ hx_ hs_) | (refine store_event (by rfl) (by rfl) (HS.out.bx 0 rfl : Bx _ bv _ _) (.slice Avn un.length cvn) (.slice Avd ud.length cvd) ?hr ?_; (case hr => (have qav := Bx.c0 (HS.out.bx 0 rfl); have qbv := Bx.c1 (HS.out.bx 0 rfl); have qc_ := Bx.f0 (HS.out.bx 0 rfl); have qd_ := Bx.f1 (HS.out.bx 0 rfl); first | (go_simp; done) | (go_simp; rfl))); intro wa16 he_ hx_; clear hx_; replace HS := Aside0.mk (HS.out.store 0 rfl (.slice Avn un.length cvn) (.slice Avd ud.length cvd) rfl); generalize (wa15.setCell ⟨bv, 0, none⟩ (.slice Avn un.length cvn)).setCell ⟨bv, 1, none⟩ (.slice Avd ud.length cvd) = wg_ at *; subst he_))
   have hb_ : Below wa16.heap.size wa16 wa16.drew := below_drew1 (Below.refl _ _)
   have hSd_ : (fun w' : World => w'.cell? ⟨ba, 0, none⟩ = some (.slice A0 l0.length c0) ∧ w'.cell? ⟨ba, 1, none⟩ = some (.slice A1 l1.length c1) ∧ w'.cell? ⟨bx, 0, none⟩ = some (.slice Axn xn.length cxn) ∧ w'.cell? ⟨bx, 1, none⟩ = some (.slice Axd xd.length cxd) ∧ w'.cell? ⟨byy, 0, none⟩ = some (.slice Ayn xn.length cyn) ∧ w'.cell? ⟨byy, 1, none⟩ = some (.slice Ayd xd.length cyd) ∧ w'.cell? ⟨bu, 0, none⟩ = some (.slice Aun un.length cun) ∧ w'.cell? ⟨bu, 1, none⟩ = some (.slice Aud ud.length cud) ∧ w'.cell? ⟨bv, 0, none⟩ = some (.slice Avn un.length cvn) ∧ w'.cell? ⟨bv, 1, none⟩ = some (.slice Avd ud.length cvd)) wa16.drew := ⟨(Bx.c0 (HS.out.bx 4 rfl)), (Bx.c1 (HS.out.bx 4 rfl)), (Bx.c0 (HS.out.bx 3 rfl)), (Bx.c1 (HS.out.bx 3 rfl)), (Bx.c0 (HS.out.bx 2 rfl)), (Bx.c1 (HS.out.bx 2 rfl)), (Bx.c0 (HS.out.bx 1 rfl)), (Bx.c1 (HS.out.bx 1 rfl)), (Bx.c0 (HS.out.bx 0 rfl)), (Bx.c1 (HS.out.bx 0 rfl))⟩
   refine start_ (n := 39) (S := fun w' => w'.cell? ⟨ba, 0, none⟩ = some (.slice A0 l0.length c0) ∧ w'.cell? ⟨ba, 1, none⟩ = some (.slice A1 l1.length c1) ∧ w'.cell? ⟨bx, 0, none⟩ = some (.slice Axn xn.length cxn) ∧ w'.cell? ⟨bx, 1, none⟩ = some (.slice Axd xd.length cxd) ∧ w'.cell? ⟨byy, 0, none⟩ = some (.slice Ayn xn.length cyn) ∧ w'.cell? ⟨byy, 1, none⟩ = some (.slice Ayd xd.length cyd) ∧ w'.cell? ⟨bu, 0, none⟩ = some (.slice Aun un.length cun) ∧ w'.cell? ⟨bu, 1, none⟩ = some (.slice Aud ud.length cud) ∧ w'.cell? ⟨bv, 0, none⟩ = some (.slice Avn un.length cvn) ∧ w'.cell? ⟨bv, 1, none⟩ = some (.slice Avd ud.length cvd)) (ds := [36]) #[false, false, false, false, false, false, false, false, false, false, false, false, false, false, false, false, false, false, false, false, false, false, false, false, false, false, false, false, false, false, false, false, false, false, false, false, false, false, false] (by kernel_rfl) rfl rfl hSd_ (fun hHeld => ?_)
   clear hSd_
   replace HS := Aside0.mk (HS.out.step hb_)
   clear hb_
   generalize wa16.drew = wa17 at *
   refine pure_ (i := 0) (N := some 52) (v := ?_) (a' := ?_) #[true, false, false, false, false, false, false, false, false, false, false, false, false, false, false, false, false, false, false, false, false, false, false, false, false, false, false, false, false, false, false, false, false, false, false, false, false, false, false] rfl rfl (by kernel_rfl) (fun _ _ _ h => h) (Or.inl ⟨by rfl, ?_⟩) ?_ ?_
   rotate_left
   ·intro w'
    go_simp
    with_reducible rfl
   rotate_left
   ·simp only [Act.put, List.setIfInBounds_toArray, List.set_cons_zero, List.set_cons_succ, i64_w, i32_w]
    rfl
   refine pure_ (i := 1) (N := some 53) (v := ?_) (a' := ?_) #[true, true, false, false, false, false, false, false, false, false, false, false, false, false, false, false, false, false, false, false, false, false, false, false, false, false, false, false, false, false, false, false, false, false, false, false, false, false, false] rfl rfl (by kernel_rfl) (fun _ _ _ h => h) (Or.inl ⟨by rfl, ?_⟩) ?_ ?_
   rotate_left
   ·intro w'
    go_simp
    with_reducible rfl
   rotate_left
   ·simp only [Act.put, List.setIfInBounds_toArray, List.set_cons_zero, List.set_cons_succ, i64_w, i32_w]
    rfl
   refine pure_ (i := 2) (N := some 54) (v := ?_) (a' := ?_) #[true, true, true, false, false, false, false, false, false, false, false, false, false, false, false, false, false, false, false, false, false, false, false, false, false, false, false, false, false, false, false, false, false, false, false, false, false, false, false] rfl rfl (by kernel_rfl) (fun _ _ _ h => h) (Or.inl ⟨by rfl, ?_⟩) ?_ ?_
   rotate_left
   ·intro w'
    go_simp
    with_reducible rfl
   rotate_left
   ·simp only [Act.put, List.setIfInBounds_toArray, List.set_cons_zero, List.set_cons_succ, i64_w, i32_w]
    rfl
   refine pure_ (i := 3) (N := some 55) (v := ?_) (a' := ?_) #[true, true, true, true, false, false, false, false, false, false, false, false, false, false, false, false, false, false, false, false, false, false, false, false, false, false, false, false, false, false, false, false, false, false, false, false, false, false, false] rfl rfl (by kernel_rfl) (fun _ _ _ h => h) (Or.inl ⟨by rfl, ?_⟩) ?_ ?_
   rotate_left
   ·intro w'
    go_simp
    with_reducible rfl
   rotate_left
   ·simp only [Act.put, List.setIfInBounds_toArray, List.set_cons_zero, List.set_cons_succ, i64_w, i32_w]
    rfl
   refine take_ (i := 4) (N := some 56) (v := ?_) (a' := ?_) #[true, true, true, true, true, false, false, false, false, false, false, false, false, false, false, false, false, false, false, false, false, false, false, false, false, false, false, false, false, false, false, false, false, false, false, false, false, false, false] rfl rfl (by kernel_rfl) (fun _ _ _ h => h) (Or.inl ⟨by rfl, ?_⟩) hHeld ?_ ?_
   rotate_left
   ·rintro w' ⟨s0, s1, s2, s3, s4, s5, s6, s7, s8, s9⟩
    go_simp
    with_reducible rfl
   rotate_left
   ·simp only [Act.put, List.setIfInBounds_toArray, List.set_cons_zero, List.set_cons_succ, i64_w, i32_w]
    rfl
   refine take_ (i := 5) (N := some 57) (v := ?_) (a' := ?_) #[true, true, true, true, true, true, false, false, false, false, false, false, false, false, false, false, false, false, false, false, false, false, false, false, false, false, false, false, false, false, false, false, false, false, false, false, false, false, false] rfl rfl (by kernel_rfl) (fun _ _ _ h => h) (Or.inl ⟨by rfl, ?_⟩) hHeld ?_ ?_
   rotate_left
   ·rintro w' ⟨s0, s1, s2, s3, s4, s5, s6, s7, s8, s9⟩
    go_simp
    with_reducible rfl
   rotate_left
   ·simp only [Act.put, List.setIfInBounds_toArray, List.set_cons_zero, List.set_cons_succ, i64_w, i32_w]
    rfl
   refine one_ (i := 6) (N := some 58) #[true, true, true, true, true, true, true, false, false, false, false, false, false, false, false, false, false, false, false, false, false, false, false, false, false, false, false, false, false, false, false, false, false, false, false, false, false, false, false] rfl rfl (by kernel_rfl) (by decide) (fun K hK => ?_)
   refine goes_ Tryd.func49 (by kernel_rfl) rfl #[.agg #[.slice Axn xn.length cxn, .slice Axd xd.length cxd], .agg #[.slice Ayn xn.length cyn, .slice Ayd xd.length cyd]] (by rfl) rfl rfl (by (try simp only [List.map_toArray, List.map_cons, List.map_nil]); first | done | rfl) ?_
   refine (Same_calls Axn cxn xn Axd cxd xd Ayn cyn xn Ayd cyd xd true wa17 (HS.out.c 7 rfl) (HS.out.h 7 rfl) (HS.out.c 6 rfl) (HS.out.h 6 rfl) (HS.out.c 5 rfl) (HS.out.h 5 rfl) (HS.out.c 4 rfl) (HS.out.h 4 rfl) (Nat.le_trans ZX.out.1 (by decide)) (Nat.le_trans ZX.out.2.1 (by decide)) (by simp)).mono ?_
   rintro e wa18 ⟨rfl, hb_⟩
   replace HS := Aside0.mk (HS.out.step hb_)
   clear hb_
   refine ⟨_, rfl, ?_⟩
   clear hHeld
   refine hK.out _ _ ⟨(Bx.c0 (HS.out.bx 4 rfl)), (Bx.c1 (HS.out.bx 4 rfl)), (Bx.c0 (HS.out.bx 3 rfl)), (Bx.c1 (HS.out.bx 3 rfl)), (Bx.c0 (HS.out.bx 2 rfl)), (Bx.c1 (HS.out.bx 2 rfl)), (Bx.c0 (HS.out.bx 1 rfl)), (Bx.c1 (HS.out.bx 1 rfl)), (Bx.c0 (HS.out.bx 0 rfl)), (Bx.c1 (HS.out.bx 0 rfl))⟩ (fun hHeld => ?_)
   clear hK K
   refine norm_ (a' := ?_) ?_ ?_
   rotate_left
   ·show Act.put _ (some 58) _ = _
    simp only [Act.put, List.setIfInBounds_toArray, List.set_cons_zero, List.set_cons_succ, i64_w, i32_w]
    rfl
   refine pure_ (i := 7) (N := some 59) (v := ?_) (a' := ?_) #[true, true, true, true, true, true, true, true, false, false, false, false, false, false, false, false, false, false, false, false, false, false, false, false, false, false, false, false, false, false, false, false, false, false, false, false, false, false, false] rfl rfl (by kernel_rfl) (fun _ _ _ h => h) (Or.inl ⟨by rfl, ?_⟩) ?_ ?_
   rotate_left
   ·intro w'
    go_simp
    with_reducible rfl
   rotate_left
   ·simp only [Act.put, List.setIfInBounds_toArray, List.set_cons_zero, List.set_cons_succ, i64_w, i32_w]
    rfl
   refine pure_ (i := 8) (N := some 60) (v := ?_) (a' := ?_) #[true, true, true, true, true, true, true, true, true, false, false, false, false, false, false, false, false, false, false, false, false, false, false, false, false, false, false, false, false, false, false, false, false, false, false, false, false, false, false] rfl rfl (by kernel_rfl) (fun _ _ _ h => h) (Or.inl ⟨by rfl, ?_⟩) ?_ ?_
   rotate_left
   ·intro w'
    go_simp
    with_reducible rfl
   rotate_left
   ·simp only [Act.put, List.setIfInBounds_toArray, List.set_cons_zero, List.set_cons_succ, i64_w, i32_w]
    rfl
   refine pure_ (i := 9) (N := some 61) (v := ?_) (a' := ?_) #[true, true, true, true, true, true, true, true, true, true, false, false, false, false, false, false, false, false, false, false, false, false, false, false, false, false, false, false, false, false, false, false, false, false, false, false, false, false, false] rfl rfl (by kernel_rfl) (fun _ _ _ h => h) (Or.inl ⟨by rfl, ?_⟩) ?_ ?_
   rotate_left
   ·intro w'
    go_simp
    with_reducible rfl
   rotate_left
   ·simp only [Act.put, List.setIfInBounds_toArray, List.set_cons_zero, List.set_cons_succ, i64_w, i32_w]
    rfl
   refine pure_ (i := 10) (N := some 62) (v := ?_) (a' := ?_) #[true, true, true, true, true, true, true, true, true, true, true, false, false, false, false, false, false, false, false, false, false, false, false, false, false, false, false, false, false, false, false, false, false, false, false, false, false, false, false] rfl rfl (by kernel_rfl) (fun _ _ _ h => h) (Or.inl ⟨by rfl, ?_⟩) ?_ ?_
   rotate_left
   ·intro w'
    go_simp
    with_reducible rfl
   rotate_left
   ·simp only [Act.put, List.setIfInBounds_toArray, List.set_cons_zero, List.set_cons_succ, i64_w, i32_w]
    rfl
   refine pure_ (i := 11) (N := some 63) (v := ?_) (a' := ?_) #[true, true, true, true, true, true, true, true, true, true, true, true, false, false, false, false, false, false, false, false, false, false, false, false, false, false, false, false, false, false, false, false, false, false, false, false, false, false, false] rfl rfl (by kernel_rfl) (fun _ _ _ h => h) (Or.inl ⟨by rfl, ?_⟩) ?_ ?_
   rotate_left
   ·intro w'
    go_simp
    with_reducible rfl
   rotate_left
   ·simp only [Act.put, List.setIfInBounds_toArray, List.set_cons_zero, List.set_cons_succ, i64_w, i32_w]
    rfl
   refine pure_ (i := 12) (N := some 64) (v := ?_) (a' := ?_) #[true, true, true, true, true, true, true, true, true, true, true, true, true, false, false, false, false, false, false, false, false, false, false, false, false, false, false, false, false, false, false, false, false, false, false, false, false, false, false] rfl rfl (by kernel_rfl) (fun _ _ _ h => h) (Or.inl ⟨by rfl, ?_⟩) ?_ ?_
   rotate_left
   ·intro w'
    go_simp
    with_reducible rfl
   rotate_left
   ·simp only [Act.put, List.setIfInBounds_toArray, List.set_cons_zero, List.set_cons_succ, i64_w, i32_w]
    rfl
   refine pure_ (i := 13) (N := some 65) (v := ?_) (a' := ?_) #[true, true, true, true, true, true, true, true, true, true, true, true, true, true, false, false, false, false, false, false, false, false, false, false, false, false, false, false, false, false, false, false, false, false, false, false, false, false, false] rfl rfl (by kernel_rfl) (fun _ _ _ h => h) (Or.inl ⟨by rfl, ?_⟩) ?_ ?_
   rotate_left
   ·intro w'
    go_simp
    with_reducible rfl
   rotate_left
   ·simp only [Act.put, List.setIfInBounds_toArray, List.set_cons_zero, List.set_cons_succ, i64_w, i32_w]
    rfl
   refine pure_ (i := 14) (N := some 66) (v := ?_) (a' := ?_) #[true, true, true, true, true, true, true, true, true, true, true, true, true, true, true, false, false, false, false, false, false, false, false, false, false, false, false, false, false, false, false, false, false, false, false, false, false, false, false] rfl rfl (by kernel_rfl) (fun _ _ _ h => h) (Or.inl ⟨by rfl, ?_⟩) ?_ ?_
   rotate_left
   ·intro w'
    go_simp
    with_reducible rfl
   rotate_left
   ·simp only [Act.put, List.setIfInBounds_toArray, List.set_cons_zero, List.set_cons_succ, i64_w, i32_w]
    rfl
   refine take_ (i := 15) (N := some 67) (v := ?_) (a' := ?_) #[true, true, true, true, true, true, true, true, true, true, true, true, true, true, true, true, false, false, false, false, false, false, false, false, false, false, false, false, false, false, false, false, false, false, false, false, false, false, false] rfl rfl (by kernel_rfl) (fun _ _ _ h => h) (Or.inl ⟨by rfl, ?_⟩) hHeld ?_ ?_
   rotate_left
   ·rintro w' ⟨s0, s1, s2, s3, s4, s5, s6, s7, s8, s9⟩
    go_simp
    with_reducible rfl
   rotate_left
   ·simp only [Act.put, List.setIfInBounds_toArray, List.set_cons_zero, List.set_cons_succ, i64_w, i32_w]
    rfl
   refine take_ (i := 16) (N := some 68) (v := ?_) (a' := ?_) #[true, true, true, true, true, true, true, true, true, true, true, true, true, true, true, true, true, false, false, false, false, false, false, false, false, false, false, false, false, false, false, false, false, false, false, false, false, false, false] rfl rfl (by kernel_rfl) (fun _ _ _ h => h) (Or.inl ⟨by rfl, ?_⟩) hHeld ?_ ?_
   rotate_left
   ·rintro w' ⟨s0, s1, s2, s3, s4, s5, s6, s7, s8, s9⟩
    go_simp
    with_reducible rfl
   rotate_left
   ·simp only [Act.put, List.setIfInBounds_toArray, List.set_cons_zero, List.set_cons_succ, i64_w, i32_w]
    rfl
   refine one_ (i := 17) (N := some 69) #[true, true, true, true, true, true, true, true, true, true, true, true, true, true, true, true, true, true, false, false, false, false, false, false, false, false, false, false, false, false, false, false, false, false, false, false, false, false, false] rfl rfl (by kernel_rfl) (by decide) (fun K hK => ?_)
   refine goes_ Tryd.func49 (by kernel_rfl) rfl #[.agg #[.slice Aun un.length cun, .slice Aud ud.length cud], .agg #[.slice Avn un.length cvn, .slice Avd ud.length cvd]] (by rfl) rfl rfl (by (try simp only [List.map_toArray, List.map_cons, List.map_nil]); first | done | rfl) ?_
   refine (Same_calls Aun cun un Aud cud ud Avn cvn un Avd cvd ud true wa18 (HS.out.c 3 rfl) (HS.out.h 3 rfl) (HS.out.c 2 rfl) (HS.out.h 2 rfl) (HS.out.c 1 rfl) (HS.out.h 1 rfl) (HS.out.c 0 rfl) (HS.out.h 0 rfl) (Nat.le_trans ZU.out.1 (by decide)) (Nat.le_trans ZU.out.2.1 (by decide)) (by simp)).mono ?_
   rintro e wa19 ⟨rfl, hb_⟩
   replace HS := Aside0.mk (HS.out.step hb_)
   clear hb_
   refine ⟨_, rfl, ?_⟩
   clear hHeld
   refine hK.out _ _ ⟨(Bx.c0 (HS.out.bx 4 rfl)), (Bx.c1 (HS.out.bx 4 rfl)), (Bx.c0 (HS.out.bx 3 rfl)), (Bx.c1 (HS.out.bx 3 rfl)), (Bx.c0 (HS.out.bx 2 rfl)), (Bx.c1 (HS.out.bx 2 rfl)), (Bx.c0 (HS.out.bx 1 rfl)), (Bx.c1 (HS.out.bx 1 rfl)), (Bx.c0 (HS.out.bx 0 rfl)), (Bx.c1 (HS.out.bx 0 rfl))⟩ (fun hHeld => ?_)
   clear hK K
   refine norm_ (a' := ?_) ?_ ?_
   rotate_left
   ·show Act.put _ (some 69) _ = _
    simp only [Act.put, List.setIfInBounds_toArray, List.set_cons_zero, List.set_cons_succ, i64_w, i32_w]
    rfl
   refine pure_ (i := 18) (N := some 70) (v := ?_) (a' := ?_) #[true, true, true, true, true, true, true, true, true, true, true, true, true, true, true, true, true, true, true, false, false, false, false, false, false, false, false, false, false, false, false, false, false, false, false, false, false, false, false] rfl rfl (by kernel_rfl) (fun _ _ _ h => h) (Or.inl ⟨by rfl, ?_⟩) ?_ ?_
   rotate_left
   ·intro w'
    go_simp
    with_reducible rfl
   rotate_left
   ·simp only [Act.put, List.setIfInBounds_toArray, List.set_cons_zero, List.set_cons_succ, i64_w, i32_w]
    rfl
   refine pure_ (i := 19) (N := some 71) (v := ?_) (a' := ?_) #[true, true, true, true, true, true, true, true, true, true, true, true, true, true, true, true, true, true, true, true, false, false, false, false, false, false, false, false, false, false, false, false, false, false, false, false, false, false, false] rfl rfl (by kernel_rfl) (fun _ _ _ h => h) (Or.inl ⟨by rfl, ?_⟩) ?_ ?_
   rotate_left
   ·intro w'
    go_simp
    with_reducible rfl
   rotate_left
   ·simp only [Act.put, List.setIfInBounds_toArray, List.set_cons_zero, List.set_cons_succ, i64_w, i32_w]
    rfl
   refine pure_ (i := 20) (N := some 72) (v := ?_) (a' := ?_) #[true, true, true, true, true, true, true, true, true, true, true, true, true, true, true, true, true, true, true, true, true, false, false, false, false, false, false, false, false, false, false, false, false, false, false, false, false, false, false] rfl rfl (by kernel_rfl) (fun _ _ _ h => h) (Or.inl ⟨by rfl, ?_⟩) ?_ ?_
   rotate_left
   ·intro w'
    go_simp
    with_reducible rfl
   rotate_left
   ·simp only [Act.put, List.setIfInBounds_toArray, List.set_cons_zero, List.set_cons_succ, i64_w, i32_w]
    rfl
   refine take_ (i := 21) (N := some 73) (v := ?_) (a' := ?_) #[true, true, true, true, true, true, true, true, true, true, true, true, true, true, true, true, true, true, true, true, true, true, false, false, false, false, false, false, false, false, false, false, false, false, false, false, false, false, false] rfl rfl (by kernel_rfl) (fun _ _ _ h => h) (Or.inl ⟨by rfl, ?_⟩) hHeld ?_ ?_
   rotate_left
   ·rintro w' ⟨s0, s1, s2, s3, s4, s5, s6, s7, s8, s9⟩
    go_simp
    with_reducible rfl
   rotate_left
   ·simp only [Act.put, List.setIfInBounds_toArray, List.set_cons_zero, List.set_cons_succ, i64_w, i32_w]
    rfl
   refine take_ (i := 23) (N := some 75) (v := ?_) (a' := ?_) #[true, true, true, true, true, true, true, true, true, true, true, true, true, true, true, true, true, true, true, true, true, true, false, true, false, false, false, false, false, false, false, false, false, false, false, false, false, false, false] rfl rfl (by kernel_rfl) (fun _ _ _ h => h) (Or.inl ⟨by rfl, ?_⟩) hHeld ?_ ?_
   rotate_left
   ·rintro w' ⟨s0, s1, s2, s3, s4, s5, s6, s7, s8, s9⟩
    go_simp
    with_reducible rfl
   rotate_left
   ·simp only [Act.put, List.setIfInBounds_toArray, List.set_cons_zero, List.set_cons_succ, i64_w, i32_w]
    rfl
   refine one_ (i := 22) (N := some 74) #[true, true, true, true, true, true, true, true, true, true, true, true, true, true, true, true, true, true, true, true, true, true, true, true, false, false, false, false, false, false, false, false, false, false, false, false, false, false, false] rfl rfl (by kernel_rfl) (by decide) (fun K hK => ?_)
   refine goes_ Tryd.func56 (by kernel_rfl) rfl #[.agg #[.slice A0 l0.length c0, .slice A1 l1.length c1]] (by rfl) rfl rfl (by (try simp only [List.map_toArray, List.map_cons, List.map_nil]); first | done | rfl) ?_
   refine (ratValid_calls A0 c0 l0 A1 c1 l1 p wa19 (HS.out.c 11 rfl) (HS.out.h 11 rfl) (HS.out.c 10 rfl) (HS.out.h 10 rfl) hL.out.1 hL.out.2.1 hP.out).mono ?_
   rintro e wa20 ⟨rfl, hb_⟩
   replace HS := Aside0.mk (HS.out.step hb_)
   clear hb_
   refine ⟨_, rfl, ?_⟩
   clear hHeld
   refine hK.out _ _ ⟨(Bx.c0 (HS.out.bx 4 rfl)), (Bx.c1 (HS.out.bx 4 rfl)), (Bx.c0 (HS.out.bx 3 rfl)), (Bx.c1 (HS.out.bx 3 rfl)), (Bx.c0 (HS.out.bx 2 rfl)), (Bx.c1 (HS.out.bx 2 rfl)), (Bx.c0 (HS.out.bx 1 rfl)), (Bx.c1 (HS.out.bx 1 rfl)), (Bx.c0 (HS.out.bx 0 rfl)), (Bx.c1 (HS.out.bx 0 rfl))⟩ (fun hHeld => ?_)
   clear hK K
   refine norm_ (a' := ?_) ?_ ?_
   rotate_left
   ·show Act.put _ (some 74) _ = _
    simp only [Act.put, List.setIfInBounds_toArray, List.set_cons_zero, List.set_cons_succ, i64_w, i32_w]
    rfl
   refine one_ (i := 24) (N := some 76) #[true, true, true, true, true, true, true, true, true, true, true, true, true, true, true, true, true, true, true, true, true, true, true, true, true, false, false, false, false, false, false, false, false, false, false, false, false, false, false] rfl rfl (by kernel_rfl) (by decide) (fun K hK => ?_)
   refine goes_ Tryd.func47 (by kernel_rfl) rfl #[.agg #[.slice A0 l0.length c0, .slice A1 l1.length c1]] (by rfl) rfl rfl (by (try simp only [List.map_toArray, List.map_cons, List.map_nil]); first | done | rfl) ?_
   refine (refRatValid_calls A0 c0 l0 A1 c1 l1 p wa20 (HS.out.c 11 rfl) (HS.out.h 11 rfl) (HS.out.c 10 rfl) (HS.out.h 10 rfl) hL.out.1 hL.out.2.1 hP.out).mono ?_
   rintro e wa21 ⟨rfl, hb_⟩
   replace HS := Aside0.mk (HS.out.step hb_)
   clear hb_
   refine ⟨_, rfl, ?_⟩
   clear hHeld
   refine hK.out _ _ ⟨(Bx.c0 (HS.out.bx 4 rfl)), (Bx.c1 (HS.out.bx 4 rfl)), (Bx.c0 (HS.out.bx 3 rfl)), (Bx.c1 (HS.out.bx 3 rfl)), (Bx.c0 (HS.out.bx 2 rfl)), (Bx.c1 (HS.out.bx 2 rfl)), (Bx.c0 (HS.out.bx 1 rfl)), (Bx.c1 (HS.out.bx 1 rfl)), (Bx.c0 (HS.out.bx 0 rfl)), (Bx.c1 (HS.out.bx 0 rfl))⟩ (fun hHeld => ?_)
   clear hK K
   refine norm_ (a' := ?_) ?_ ?_
   rotate_left
   ·show Act.put _ (some 76) _ = _
    simp only [Act.put, List.setIfInBounds_toArray, List.set_cons_zero, List.set_cons_succ, i64_w, i32_w]
    rfl
   refine pure_ (i := 25) (N := some 77) (v := ?_) (a' := ?_) #[true, true, true, true, true, true, true, true, true, true, true, true, true, true, true, true, true, true, true, true, true, true, true, true, true, true, false, false, false, false, false, false, false, false, false, false, false, false, false] rfl rfl (by kernel_rfl) (fun _ _ _ h => h) (Or.inl ⟨by rfl, ?_⟩) ?_ ?_
   rotate_left
   ·intro w'
    go_simp
    with_reducible rfl
   rotate_left
   ·simp only [Act.put, List.setIfInBounds_toArray, List.set_cons_zero, List.set_cons_succ, i64_w, i32_w]
    rfl
   refine pure_ (i := 26) (N := some 78) (v := ?_) (a' := ?_) #[true, true, true, true, true, true, true, true, true, true, true, true, true, true, true, true, true, true, true, true, true, true, true, true, true, true, true, false, false, false, false, false, false, false, false, false, false, false, false] rfl rfl (by kernel_rfl) (fun _ _ _ h => h) (Or.inl ⟨by rfl, ?_⟩) ?_ ?_
   rotate_left
   ·intro w'
    go_simp
    with_reducible rfl
   rotate_left
   ·simp only [Act.put, List.setIfInBounds_toArray, List.set_cons_zero, List.set_cons_succ, i64_w, i32_w]
    rfl
   refine pure_ (i := 27) (N := some 79) (v := ?_) (a' := ?_) #[true, true, true, true, true, true, true, true, true, true, true, true, true, true, true, true, true, true, true, true, true, true, true, true, true, true, true, true, false, false, false, false, false, false, false, false, false, false, false] rfl rfl (by kernel_rfl) (fun _ _ _ h => h) (Or.inl ⟨by rfl, ?_⟩) ?_ ?_
   rotate_left
   ·intro w'
    go_simp
    with_reducible rfl
   rotate_left
   ·simp only [Act.put, List.setIfInBounds_toArray, List.set_cons_zero, List.set_cons_succ, i64_w, i32_w]
    rfl
   refine one_ (i := 28) (N := some 80) #[true, true, true, true, true, true, true, true, true, true, true, true, true, true, true, true, true, true, true, true, true, true, true, true, true, true, true, true, true, false, false, false, false, false, false, false, false, false, false] rfl rfl (by kernel_rfl) (by decide) (fun K hK => ?_)
   refine goes_ Tryd.func57 (by kernel_rfl) rfl #[] (by rfl) rfl rfl (by (try simp only [List.map_toArray, List.map_cons, List.map_nil]); first | done | rfl) ?_
   refine (ratZero_calls zl ol wa21 hZO.out.1).mono ?_
   rintro e wa22 ⟨Azn, czn, Azd, czd, rfl, hCzn_, hHzn_, hCzd_, hHzd_, hb_⟩
   replace HS := Aside0.mk (((HS.out.step hb_).row hCzn_ hHzn_).row hCzd_ hHzd_)
   clear hb_ hCzn_ hHzn_ hCzd_ hHzd_
   refine ⟨_, rfl, ?_⟩
   clear hHeld
   refine hK.out _ _ ⟨(Bx.c0 (HS.out.bx 4 rfl)), (Bx.c1 (HS.out.bx 4 rfl)), (Bx.c0 (HS.out.bx 3 rfl)), (Bx.c1 (HS.out.bx 3 rfl)), (Bx.c0 (HS.out.bx 2 rfl)), (Bx.c1 (HS.out.bx 2 rfl)), (Bx.c0 (HS.out.bx 1 rfl)), (Bx.c1 (HS.out.bx 1 rfl)), (Bx.c0 (HS.out.bx 0 rfl)), (Bx.c1 (HS.out.bx 0 rfl))⟩ (fun hHeld => ?_)
   clear hK K
   refine norm_ (a' := ?_) ?_ ?_
   rotate_left
   ·show Act.put _ (some 80) _ = _
    simp only [Act.put, List.setIfInBounds_toArray, List.set_cons_zero, List.set_cons_succ, i64_w, i32_w]
    rfl
   refine one_ (i := 29) (N := some 81) #[true, true, true, true, true, true, true, true, true, true, true, true, true, true, true, true, true, true, true, true, true, true, true, true, true, true, true, true, true, true, false, false, false, false, false, false, false, false, false] rfl rfl (by kernel_rfl) (by decide) (fun K hK => ?_)
   refine goes_ Tryd.func58 (by kernel_rfl) rfl #[] (by rfl) rfl rfl (by (try simp only [List.map_toArray, List.map_cons, List.map_nil]); first | done | rfl) ?_
   refine (refZero_calls wa22).mono ?_
   rintro e wa23 ⟨Asn, csn, Asd, csd, rfl, hCsn_, hHsn_, hCsd_, hHsd_, hb_⟩
   replace HS := Aside0.mk (((HS.out.step hb_).row hCsn_ hHsn_).row hCsd_ hHsd_)
   clear hb_ hCsn_ hHsn_ hCsd_ hHsd_
   refine ⟨_, rfl, ?_⟩
   clear hHeld
   refine hK.out _ _ ⟨(Bx.c0 (HS.out.bx 4 rfl)), (Bx.c1 (HS.out.bx 4 rfl)), (Bx.c0 (HS.out.bx 3 rfl)), (Bx.c1 (HS.out.bx 3 rfl)), (Bx.c0 (HS.out.bx 2 rfl)), (Bx.c1 (HS.out.bx 2 rfl)), (Bx.c0 (HS.out.bx 1 rfl)), (Bx.c1 (HS.out.bx 1 rfl)), (Bx.c0 (HS.out.bx 0 rfl)), (Bx.c1 (HS.out.bx 0 rfl))⟩ (fun hHeld => ?_)
   clear hK K
   refine norm_ (a' := ?_) ?_ ?_
   rotate_left
   ·show Act.put _ (some 81) _ = _
    simp only [Act.put, List.setIfInBounds_toArray, List.set_cons_zero, List.set_cons_succ, i64_w, i32_w]
    rfl
   refine one_ (i := 30) (N := some 82) #[true, true, true, true, true, true, true, true, true, true, true, true, true, true, true, true, true, true, true, true, true, true, true, true, true, true, true, true, true, true, true, false, false, false, false, false, false, false, false] rfl rfl (by kernel_rfl) (by decide) (fun K hK => ?_)
   refine goes_ Tryd.func49 (by kernel_rfl) rfl #[.agg #[.slice Azn zl.length czn, .slice Azd ol.length czd], .agg #[.slice Asn 0 csn, .slice Asd 1 csd]] (by rfl) rfl rfl (by (try simp only [List.map_toArray, List.map_cons, List.map_nil]); first | done | rfl) ?_
   refine (Same_calls Azn czn zl Azd czd ol Asn csn ([] : List Int) Asd csd ([1] : List Int) true wa23 (HS.out.c 3 rfl) (HS.out.h 3 rfl) (HS.out.c 2 rfl) (HS.out.h 2 rfl) (HS.out.c 1 rfl) (HS.out.h 1 rfl) (HS.out.c 0 rfl) (HS.out.h 0 rfl) (by rw [hZO.out.2.1]; decide) (by rw [hZO.out.2.2]; decide) (by rw [hZO.out.2.1, hZO.out.2.2]; rfl)).mono ?_
   rintro e wa24 ⟨rfl, hb_⟩
   replace HS := Aside0.mk (HS.out.step hb_)
   clear hb_
   refine ⟨_, rfl, ?_⟩
   clear hHeld
   refine hK.out _ _ ⟨(Bx.c0 (HS.out.bx 4 rfl)), (Bx.c1 (HS.out.bx 4 rfl)), (Bx.c0 (HS.out.bx 3 rfl)), (Bx.c1 (HS.out.bx 3 rfl)), (Bx.c0 (HS.out.bx 2 rfl)), (Bx.c1 (HS.out.bx 2 rfl)), (Bx.c0 (HS.out.bx 1 rfl)), (Bx.c1 (HS.out.bx 1 rfl)), (Bx.c0 (HS.out.bx 0 rfl)), (Bx.c1 (HS.out.bx 0 rfl))⟩ (fun hHeld => ?_)
   clear hK K
   refine norm_ (a' := ?_) ?_ ?_
   rotate_left
   ·show Act.put _ (some 82) _ = _
    simp only [Act.put, List.setIfInBounds_toArray, List.set_cons_zero, List.set_cons_succ, i64_w, i32_w]
    rfl
   refine pure_ (i := 31) (N := some 83) (v := ?_) (a' := ?_) #[true, true, true, true, true, true, true, true, true, true, true, true, true, true, true, true, true, true, true, true, true, true, true, true, true, true, true, true, true, true, true, true, false, false, false, false, false, false, false] rfl rfl (by kernel_rfl) (fun _ _ _ h => h) (Or.inl ⟨by rfl, ?_⟩) ?_ ?_
   rotate_left
   ·intro w'
    go_simp
    with_reducible rfl
   rotate_left
   ·simp only [Act.put, List.setIfInBounds_toArray, List.set_cons_zero, List.set_cons_succ, i64_w, i32_w]
    rfl
   refine pure_ (i := 32) (N := some 84) (v := ?_) (a' := ?_) #[true, true, true, true, true, true, true, true, true, true, true, true, true, true, true, true, true, true, true, true, true, true, true, true, true, true, true, true, true, true, true, true, true, false, false, false, false, false, false] rfl rfl (by kernel_rfl) (fun _ _ _ h => h) (Or.inl ⟨by rfl, ?_⟩) ?_ ?_
   rotate_left
   ·intro w'
    go_simp
    with_reducible rfl
   rotate_left
   ·simp only [Act.put, List.setIfInBounds_toArray, List.set_cons_zero, List.set_cons_succ, i64_w, i32_w]
    rfl
   refine pure_ (i := 33) (N := some 85) (v := ?_) (a' := ?_) #[true, true, true, true, true, true, true, true, true, true, true, true, true, true, true, true, true, true, true, true, true, true, true, true, true, true, true, true, true, true, true, true, true, true, false, false, false, false, false] rfl rfl (by kernel_rfl) (fun _ _ _ h => h) (Or.inl ⟨by rfl, ?_⟩) ?_ ?_
   rotate_left
   ·intro w'
    go_simp
    with_reducible rfl
   rotate_left
   ·simp only [Act.put, List.setIfInBounds_toArray, List.set_cons_zero, List.set_cons_succ, i64_w, i32_w]
    rfl
   refine one_ (i := 34) (N := some 86) #[true, true, true, true, true, true, true, true, true, true, true, true, true, true, true, true, true, true, true, true, true, true, true, true, true, true, true, true, true, true, true, true, true, true, true, false, false, false, false] rfl rfl (by kernel_rfl) (by decide) (fun K hK => ?_)
   refine goes_ Tryd.func59 (by kernel_rfl) rfl #[] (by rfl) rfl rfl (by (try simp only [List.map_toArray, List.map_cons, List.map_nil]); first | done | rfl) ?_
   refine (ratOne_calls ol ol wa24 ⟨hZO.out.1.2, hZO.out.1.2⟩).mono ?_
   rintro e wa25 ⟨Aen, cen, Aed, ced, rfl, hCen_, hHen_, hCed_, hHed_, hb_⟩
   replace HS := Aside0.mk (((HS.out.step hb_).row hCen_ hHen_).row hCed_ hHed_)
   clear hb_ hCen_ hHen_ hCed_ hHed_
   refine ⟨_, rfl, ?_⟩
   clear hHeld
   refine hK.out _ _ ⟨(Bx.c0 (HS.out.bx 4 rfl)), (Bx.c1 (HS.out.bx 4 rfl)), (Bx.c0 (HS.out.bx 3 rfl)), (Bx.c1 (HS.out.bx 3 rfl)), (Bx.c0 (HS.out.bx 2 rfl)), (Bx.c1 (HS.out.bx 2 rfl)), (Bx.c0 (HS.out.bx 1 rfl)), (Bx.c1 (HS.out.bx 1 rfl)), (Bx.c0 (HS.out.bx 0 rfl)), (Bx.c1 (HS.out.bx 0 rfl))⟩ (fun hHeld => ?_)
   clear hK K
   refine norm_ (a' := ?_) ?_ ?_
   rotate_left
   ·show Act.put _ (some 86) _ = _
    simp only [Act.put, List.setIfInBounds_toArray, List.set_cons_zero, List.set_cons_succ, i64_w, i32_w]
    rfl
   refine one_ (i := 35) (N := some 87) #[true, true, true, true, true, true, true, true, true, true, true, true, true, true, true, true, true, true, true, true, true, true, true, true, true, true, true, true, true, true, true, true, true, true, true, true, false, false, false] rfl rfl (by kernel_rfl) (by decide) (fun K hK => ?_)
   refine goes_ Tryd.func60 (by kernel_rfl) rfl #[] (by rfl) rfl rfl (by (try simp only [List.map_toArray, List.map_cons, List.map_nil]); first | done | rfl) ?_
   refine (refOne_calls wa25).mono ?_
   rintro e wa26 ⟨Aon, con, Aod, cod, rfl, hCon_, hHon_, hCod_, hHod_, hb_⟩
   replace HS := Aside0.mk (((HS.out.step hb_).row hCon_ hHon_).row hCod_ hHod_)
   clear hb_ hCon_ hHon_ hCod_ hHod_
   refine ⟨_, rfl, ?_⟩
   clear hHeld
   refine hK.out _ _ ⟨(Bx.c0 (HS.out.bx 4 rfl)), (Bx.c1 (HS.out.bx 4 rfl)), (Bx.c0 (HS.out.bx 3 rfl)), (Bx.c1 (HS.out.bx 3 rfl)), (Bx.c0 (HS.out.bx 2 rfl)), (Bx.c1 (HS.out.bx 2 rfl)), (Bx.c0 (HS.out.bx 1 rfl)), (Bx.c1 (HS.out.bx 1 rfl)), (Bx.c0 (HS.out.bx 0 rfl)), (Bx.c1 (HS.out.bx 0 rfl))⟩ (fun hHeld => ?_)
   clear hK K
   refine norm_ (a' := ?_) ?_ ?_
   rotate_left
   ·show Act.put _ (some 87) _ = _
    simp only [Act.put, List.setIfInBounds_toArray, List.set_cons_zero, List.set_cons_succ, i64_w, i32_w]
    rfl
   refine last_ (i := 36) (N := some 88) #[true, true, true, true, true, true, true, true, true, true, true, true, true, true, true, true, true, true, true, true, true, true, true, true, true, true, true, true, true, true, true, true, true, true, true, true, true, false, false] rfl rfl (by kernel_rfl) (by decide) (fun K hK => ?_)
   refine goes_ Tryd.func49 (by kernel_rfl) rfl #[.agg #[.slice Aen ol.length cen, .slice Aed ol.length ced], .agg #[.slice Aon 1 con, .slice Aod 1 cod]] (by rfl) rfl rfl (by (try simp only [List.map_toArray, List.map_cons, List.map_nil]); first | done | rfl) ?_
   refine (Same_calls Aen cen ol Aed ced ol Aon con ([1] : List Int) Aod cod ([1] : List Int) true wa26 (HS.out.c 3 rfl) (HS.out.h 3 rfl) (HS.out.c 2 rfl) (HS.out.h 2 rfl) (HS.out.c 1 rfl) (HS.out.h 1 rfl) (HS.out.c 0 rfl) (HS.out.h 0 rfl) (by rw [hZO.out.2.2]; decide) (by rw [hZO.out.2.2]; decide) (by rw [hZO.out.2.2]; rfl)).mono ?_
   rintro e wa27 ⟨rfl, hb_⟩
   replace HS := Aside0.mk (HS.out.step hb_)
   clear hb_
   refine ⟨_, rfl, ?_⟩
   refine hK.out _ _ ?_
   clear hK K
   refine norm_ (a' := ?_) ?_ ?_
   rotate_left
   ·show Act.put _ (some 88) _ = _
    simp only [Act.put, List.setIfInBounds_toArray, List.set_cons_zero, List.set_cons_succ, i64_w, i32_w]
    rfl
   refine pure_ (i := 37) (N := some 89) (v := ?_) (a' := ?_) #[true, true, true, true, true, true, true, true, true, true, true, true, true, true, true, true, true, true, true, true, true, true, true, true, true, true, true, true, true, true, true, true, true, true, true, true, true, true, false] rfl rfl (by kernel_rfl) (fun _ _ _ h => h) (Or.inl ⟨by rfl, ?_⟩) ?_ ?_
   rotate_left
   ·intro w'
    go_simp
    with_reducible rfl
   rotate_left
   ·simp only [Act.put, List.setIfInBounds_toArray, List.set_cons_zero, List.set_cons_succ, i64_w, i32_w]
    rfl
   refine pure_ (i := 38) (N := some 90) (v := ?_) (a' := ?_) #[true, true, true, true, true, true, true, true, true, true, true, true, true, true, true, true, true, true, true, true, true, true, true, true, true, true, true, true, true, true, true, true, true, true, true, true, true, true, true] rfl rfl (by kernel_rfl) (fun _ _ _ h => h) (Or.inl ⟨by rfl, ?_⟩) ?_ ?_
   rotate_left
   ·intro w'
    go_simp
    with_reducible rfl
   rotate_left
   ·simp only [Act.put, List.setIfInBounds_toArray, List.set_cons_zero, List.set_cons_succ, i64_w, i32_w]
    rfl
   refine done_ (by kernel_rfl) ?_
   go_wp2_with fail
   rcases hG2.out with he_ | ⟨he_, hr_, m, h1_, h2_, h3_⟩
   ·subst he_
    clear hG2
    have hb_ : Below wa27.heap.size wa27 wa27.drew := below_drew1 (Below.refl _ _)
    have hSd_ : (fun w' : World => w'.cell? ⟨bx, 0, none⟩ = some (.slice Axn xn.length cxn) ∧ w'.cell? ⟨bx, 1, none⟩ = some (.slice Axd xd.length cxd)) wa27.drew := ⟨(Bx.c0 (HS.out.bx 3 rfl)), (Bx.c1 (HS.out.bx 3 rfl))⟩
    refine start_ (n := 19) (S := fun w' => w'.cell? ⟨bx, 0, none⟩ = some (.slice Axn xn.length cxn) ∧ w'.cell? ⟨bx, 1, none⟩ = some (.slice Axd xd.length cxd)) (ds := [14]) #[false, false, false, false, false, false, false, false, false, false, false, false, false, false, false, false, false, false, false] (by kernel_rfl) rfl rfl hSd_ (fun hHeld => ?_)
    clear hSd_
    replace HS := Aside0.mk (HS.out.step hb_)
    clear hb_
    generalize wa27.drew = wa28 at *
    refine pure_ (i := 0) (N := some 91) (v := ?_) (a' := ?_) #[true, false, false, false, false, false, false, false, false, false, false, false, false, false, false, false, false, false, false] rfl rfl (by kernel_rfl) (fun _ _ _ h => h) (Or.inl ⟨by rfl, ?_⟩) ?_ ?_
    rotate_left
    ·intro w'
     go_simp
     with_reducible rfl
    rotate_left
    ·simp only [Act.put, List.setIfInBounds_toArray, List.set_cons_zero, List.set_cons_succ, i64_w, i32_w]
     rfl
    refine pure_ (i := 1) (N := some 92) (v := ?_) (a' := ?_) #[true, true, false, false, false, false, false, false, false, false, false, false, false, false, false, false, false, false, false] rfl rfl (by kernel_rfl) (fun _ _ _ h => h) (Or.inl ⟨by rfl, ?_⟩) ?_ ?_
    rotate_left
    ·intro w'
     go_simp
     with_reducible rfl
    rotate_left
    ·simp only [Act.put, List.setIfInBounds_toArray, List.set_cons_zero, List.set_cons_succ, i64_w, i32_w]
     rfl
    refine pure_ (i := 2) (N := some 93) (v := ?_) (a' := ?_) #[true, true, true, false, false, false, false, false, false, false, false, false, false, false, false, false, false, false, false] rfl rfl (by kernel_rfl) (fun _ _ _ h => h) (Or.inl ⟨by rfl, ?_⟩) ?_ ?_
    rotate_left
    ·intro w'
     go_simp
     with_reducible rfl
    rotate_left
    ·simp only [Act.put, List.setIfInBounds_toArray, List.set_cons_zero, List.set_cons_succ, i64_w, i32_w]
     rfl
    refine pure_ (i := 3) (N := some 94) (v := undef) (a' := ?_) #[true, true, true, true, false, false, false, false, false, false, false, false, false, false, false, false, false, false, false] rfl rfl (by kernel_rfl) (fun _ _ _ h => h) (Or.inr ⟨by rfl, rfl⟩) ?_ ?_
    rotate_left
    ·simp only [Act.put, List.setIfInBounds_toArray, List.set_cons_zero, List.set_cons_succ, i64_w, i32_w]
     rfl
    refine one_ (i := 4) (N := some 95) #[true, true, true, true, true, false, false, false, false, false, false, false, false, false, false, false, false, false, false] rfl rfl (by kernel_rfl) (by decide) (fun K hK => ?_)
    refine idle_ (by rfl) ?_
    refine hK.out _ _ hHeld (fun _ => ?_)
    clear hK K
    refine norm_ (a' := ?_) ?_ ?_
    rotate_left
    ·show Act.put _ (some 95) _ = _
     simp only [Act.put, List.setIfInBounds_toArray, List.set_cons_zero, List.set_cons_succ, i64_w, i32_w]
     rfl
    refine pure_ (i := 5) (N := some 96) (v := undef) (a' := ?_) #[true, true, true, true, true, true, false, false, false, false, false, false, false, false, false, false, false, false, false] rfl rfl (by kernel_rfl) (fun _ _ _ h => h) (Or.inr ⟨by rfl, rfl⟩) ?_ ?_
    rotate_left
    ·simp only [Act.put, List.setIfInBounds_toArray, List.set_cons_zero, List.set_cons_succ, i64_w, i32_w]
     rfl
    refine pure_ (i := 6) (N := some 97) (v := undef) (a' := ?_) #[true, true, true, true, true, true, true, false, false, false, false, false, false, false, false, false, false, false, false] rfl rfl (by kernel_rfl) (fun _ _ _ h => h) (Or.inr ⟨by rfl, rfl⟩) ?_ ?_
    rotate_left
    ·simp only [Act.put, List.setIfInBounds_toArray, List.set_cons_zero, List.set_cons_succ, i64_w, i32_w]
     rfl
    refine pure_ (i := 7) (N := some 98) (v := undef) (a' := ?_) #[true, true, true, true, true, true, true, true, false, false, false, false, false, false, false, false, false, false, false] rfl rfl (by kernel_rfl) (fun _ _ _ h => h) (Or.inr ⟨by rfl, rfl⟩) ?_ ?_
    rotate_left
    ·simp only [Act.put, List.setIfInBounds_toArray, List.set_cons_zero, List.set_cons_succ, i64_w, i32_w]
     rfl
    refine pure_ (i := 8) (N := some 99) (v := undef) (a' := ?_) #[true, true, true, true, true, true, true, true, true, false, false, false, false, false, false, false, false, false, false] rfl rfl (by kernel_rfl) (fun _ _ _ h => h) (Or.inr ⟨by rfl, rfl⟩) ?_ ?_
    rotate_left
    ·simp only [Act.put, List.setIfInBounds_toArray, List.set_cons_zero, List.set_cons_succ, i64_w, i32_w]
     rfl
    refine pure_ (i := 10) (N := some 101) (v := undef) (a' := ?_) #[true, true, true, true, true, true, true, true, true, false, true, false, false, false, false, false, false, false, false] rfl rfl (by kernel_rfl) (fun _ _ _ h => h) (Or.inr ⟨by rfl, rfl⟩) ?_ ?_
    rotate_left
    ·simp only [Act.put, List.setIfInBounds_toArray, List.set_cons_zero, List.set_cons_succ, i64_w, i32_w]
     rfl
    refine pure_ (i := 11) (N := some 102) (v := undef) (a' := ?_) #[true, true, true, true, true, true, true, true, true, false, true, true, false, false, false, false, false, false, false] rfl rfl (by kernel_rfl) (fun _ _ _ h => h) (Or.inr ⟨by rfl, rfl⟩) ?_ ?_
    rotate_left
    ·simp only [Act.put, List.setIfInBounds_toArray, List.set_cons_zero, List.set_cons_succ, i64_w, i32_w]
     rfl
    refine pure_ (i := 12) (N := some 103) (v := undef) (a' := ?_) #[true, true, true, true, true, true, true, true, true, false, true, true, true, false, false, false, false, false, false] rfl rfl (by kernel_rfl) (fun _ _ _ h => h) (Or.inr ⟨by rfl, rfl⟩) ?_ ?_
    rotate_left
    ·simp only [Act.put, List.setIfInBounds_toArray, List.set_cons_zero, List.set_cons_succ, i64_w, i32_w]
     rfl
    refine one_ (i := 9) (N := some 100) #[true, true, true, true, true, true, true, true, true, true, true, true, true, false, false, false, false, false, false] rfl rfl (by kernel_rfl) (by decide) (fun K hK => ?_)
    refine idle_ (by rfl) ?_
    refine hK.out _ _ hHeld (fun _ => ?_)
    clear hK K
    refine norm_ (a' := ?_) ?_ ?_
    rotate_left
    ·show Act.put _ (some 100) _ = _
     simp only [Act.put, List.setIfInBounds_toArray, List.set_cons_zero, List.set_cons_succ, i64_w, i32_w]
     rfl
    refine one_ (i := 13) (N := some 104) #[true, true, true, true, true, true, true, true, true, true, true, true, true, true, false, false, false, false, false] rfl rfl (by kernel_rfl) (by decide) (fun K hK => ?_)
    refine idle_ (by rfl) ?_
    refine hK.out _ _ hHeld (fun _ => ?_)
    clear hK K
    refine norm_ (a' := ?_) ?_ ?_
    rotate_left
    ·show Act.put _ (some 104) _ = _
     simp only [Act.put, List.setIfInBounds_toArray, List.set_cons_zero, List.set_cons_succ, i64_w, i32_w]
     rfl
    refine last_ (i := 14) (N := some 105) #[true, true, true, true, true, true, true, true, true, true, true, true, true, true, true, false, false, false, false] rfl rfl (by kernel_rfl) (by decide) (fun K hK => ?_)
    refine idle_ (by rfl) ?_
    refine hK.out _ _ ?_
    clear hK K
    refine norm_ (a' := ?_) ?_ ?_
    rotate_left
    ·show Act.put _ (some 105) _ = _
     simp only [Act.put, List.setIfInBounds_toArray, List.set_cons_zero, List.set_cons_succ, i64_w, i32_w]
     rfl
    refine pure_ (i := 15) (N := some 106) (v := undef) (a' := ?_) #[true, true, true, true, true, true, true, true, true, true, true, true, true, true, true, true, false, false, false] rfl rfl (by kernel_rfl) (fun _ _ _ h => h) (Or.inr ⟨by rfl, rfl⟩) ?_ ?_
    rotate_left
    ·simp only [Act.put, List.setIfInBounds_toArray, List.set_cons_zero, List.set_cons_succ, i64_w, i32_w]
     rfl
    refine pure_ (i := 16) (N := some 107) (v := undef) (a' := ?_) #[true, true, true, true, true, true, true, true, true, true, true, true, true, true, true, true, true, false, false] rfl rfl (by kernel_rfl) (fun _ _ _ h => h) (Or.inr ⟨by rfl, rfl⟩) ?_ ?_
    rotate_left
    ·simp only [Act.put, List.setIfInBounds_toArray, List.set_cons_zero, List.set_cons_succ, i64_w, i32_w]
     rfl
    refine pure_ (i := 17) (N := some 108) (v := ?_) (a' := ?_) #[true, true, true, true, true, true, true, true, true, true, true, true, true, true, true, true, true, true, false] rfl rfl (by kernel_rfl) (fun _ _ _ h => h) (Or.inl ⟨by rfl, ?_⟩) ?_ ?_
    rotate_left
    ·intro w'
     go_simp
     with_reducible rfl
    rotate_left
    ·simp only [Act.put, List.setIfInBounds_toArray, List.set_cons_zero, List.set_cons_succ, i64_w, i32_w]
     rfl
    refine pure_ (i := 18) (N := some 10) (v := ?_) (a' := ?_) #[true, true, true, true, true, true, true, true, true, true, true, true, true, true, true, true, true, true, true] rfl rfl (by kernel_rfl) (fun _ _ _ h => h) (Or.inl ⟨by rfl, ?_⟩) ?_ ?_
    rotate_left
    ·intro w'
     go_simp
     with_reducible rfl
    rotate_left
    ·simp only [Act.put, List.setIfInBounds_toArray, List.set_cons_zero, List.set_cons_succ, i64_w, i32_w]
     rfl
    refine done_ (by kernel_rfl) ?_
    go_wp2_with fail
    go_ret
    exact ⟨rfl, HS.out.below⟩
   ·subst he_
    have hR := Aside0.mk hr_.symm
    have hM1 := Aside0.mk h1_
    have hM2 := Aside0.mk h2_
    have hCm := Aside0.mk h3_
    clear hr_ h1_ h2_ h3_ hG2
    have hb_ : Below wa27.heap.size wa27 wa27.drew := below_drew1 (Below.refl _ _)
    have hSd_ : (fun w' : World => w'.cell? ⟨bx, 0, none⟩ = some (.slice Axn xn.length cxn) ∧ w'.cell? ⟨bx, 1, none⟩ = some (.slice Axd xd.length cxd)) wa27.drew := ⟨(Bx.c0 (HS.out.bx 3 rfl)), (Bx.c1 (HS.out.bx 3 rfl))⟩
    refine start_ (n := 19) (S := fun w' => w'.cell? ⟨bx, 0, none⟩ = some (.slice Axn xn.length cxn) ∧ w'.cell? ⟨bx, 1, none⟩ = some (.slice Axd xd.length cxd)) (ds := [14]) #[false, false, false, false, false, false, false, false, false, false, false, false, false, false, false, false, false, false, false] (by kernel_rfl) rfl rfl hSd_ (fun hHeld => ?_)
    clear hSd_
    replace HS := Aside0.mk (HS.out.step hb_)
    clear hb_
    generalize wa27.drew = wa28 at *
    refine pure_ (i := 0) (N := some 91) (v := ?_) (a' := ?_) #[true, false, false, false, false, false, false, false, false, false, false, false, false, false, false, false, false, false, false] rfl rfl (by kernel_rfl) (fun _ _ _ h => h) (Or.inl ⟨by rfl, ?_⟩) ?_ ?_
    rotate_left
    ·intro w'
     go_simp
     with_reducible rfl
    rotate_left
    ·simp only [Act.put, List.setIfInBounds_toArray, List.set_cons_zero, List.set_cons_succ, i64_w, i32_w]
     rfl
    refine pure_ (i := 1) (N := some 92) (v := ?_) (a' := ?_) #[true, true, false, false, false, false, false, false, false, false, false, false, false, false, false, false, false, false, false] rfl rfl (by kernel_rfl) (fun _ _ _ h => h) (Or.inl ⟨by rfl, ?_⟩) ?_ ?_
    rotate_left
    ·intro w'
     go_simp
     with_reducible rfl
    rotate_left
    ·simp only [Act.put, List.setIfInBounds_toArray, List.set_cons_zero, List.set_cons_succ, i64_w, i32_w]
     rfl
    refine pure_ (i := 2) (N := some 93) (v := ?_) (a' := ?_) #[true, true, true, false, false, false, false, false, false, false, false, false, false, false, false, false, false, false, false] rfl rfl (by kernel_rfl) (fun _ _ _ h => h) (Or.inl ⟨by rfl, ?_⟩) ?_ ?_
    rotate_left
    ·intro w'
     go_simp
     with_reducible rfl
    rotate_left
    ·simp only [Act.put, List.setIfInBounds_toArray, List.set_cons_zero, List.set_cons_succ, i64_w, i32_w]
     rfl
    refine take_ (i := 3) (N := some 94) (v := ?_) (a' := ?_) #[true, true, true, true, false, false, false, false, false, false, false, false, false, false, false, false, false, false, false] rfl rfl (by kernel_rfl) (fun _ _ _ h => h) (Or.inl ⟨by rfl, ?_⟩) hHeld ?_ ?_
    rotate_left
    ·rintro w' ⟨s0, s1⟩
     go_simp
     with_reducible rfl
    rotate_left
    ·simp only [Act.put, List.setIfInBounds_toArray, List.set_cons_zero, List.set_cons_succ, i64_w, i32_w]
     rfl
    refine one_ (i := 4) (N := some 95) #[true, true, true, true, true, false, false, false, false, false, false, false, false, false, false, false, false, false, false] rfl rfl (by kernel_rfl) (by decide) (fun K hK => ?_)
    refine goes_ Tryd.func56 (by kernel_rfl) rfl #[.agg #[.slice Axn xn.length cxn, .slice Axd xd.length cxd]] (by rfl) rfl rfl (by (try simp only [List.map_toArray, List.map_cons, List.map_nil]); first | done | rfl) ?_
    refine (ratValid_calls Axn cxn xn Axd cxd xd true wa28 (HS.out.c 15 rfl) (HS.out.h 15 rfl) (HS.out.c 14 rfl) (HS.out.h 14 rfl) ZX.out.2.2.1 ZX.out.2.2.2 hR.out).mono ?_
    rintro e wa29 ⟨rfl, hb_⟩
    replace HS := Aside0.mk (HS.out.step hb_)
    clear hb_
    refine ⟨_, rfl, ?_⟩
    clear hHeld
    refine hK.out _ _ ⟨(Bx.c0 (HS.out.bx 3 rfl)), (Bx.c1 (HS.out.bx 3 rfl))⟩ (fun hHeld => ?_)
    clear hK K
    refine norm_ (a' := ?_) ?_ ?_
    rotate_left
    ·show Act.put _ (some 95) _ = _
     simp only [Act.put, List.setIfInBounds_toArray, List.set_cons_zero, List.set_cons_succ, i64_w, i32_w]
     rfl
    refine pure_ (i := 5) (N := some 96) (v := ?_) (a' := ?_) #[true, true, true, true, true, true, false, false, false, false, false, false, false, false, false, false, false, false, false] rfl rfl (by kernel_rfl) (fun _ _ _ h => h) (Or.inl ⟨by rfl, ?_⟩) ?_ ?_
    rotate_left
    ·intro w'
     go_simp
     with_reducible rfl
    rotate_left
    ·simp only [Act.put, List.setIfInBounds_toArray, List.set_cons_zero, List.set_cons_succ, i64_w, i32_w]
     rfl
    refine pure_ (i := 6) (N := some 97) (v := ?_) (a' := ?_) #[true, true, true, true, true, true, true, false, false, false, false, false, false, false, false, false, false, false, false] rfl rfl (by kernel_rfl) (fun _ _ _ h => h) (Or.inl ⟨by rfl, ?_⟩) ?_ ?_
    rotate_left
    ·intro w'
     go_simp
     with_reducible rfl
    rotate_left
    ·simp only [Act.put, List.setIfInBounds_toArray, List.set_cons_zero, List.set_cons_succ, i64_w, i32_w]
     rfl
    refine take_ (i := 7) (N := some 98) (v := ?_) (a' := ?_) #[true, true, true, true, true, true, true, true, false, false, false, false, false, false, false, false, false, false, false] rfl rfl (by kernel_rfl) (fun _ _ _ h => h) (Or.inl ⟨by rfl, ?_⟩) hHeld ?_ ?_
    rotate_left
    ·rintro w' ⟨s0, s1⟩
     go_simp
     with_reducible rfl
    rotate_left
    ·simp only [Act.put, List.setIfInBounds_toArray, List.set_cons_zero, List.set_cons_succ, i64_w, i32_w]
     rfl
    refine pure_ (i := 8) (N := some 99) (v := ?_) (a' := ?_) #[true, true, true, true, true, true, true, true, true, false, false, false, false, false, false, false, false, false, false] rfl rfl (by kernel_rfl) (fun _ _ _ h => h) (Or.inl ⟨by rfl, ?_⟩) ?_ ?_
    rotate_left
    ·intro w'
     go_simp
     with_reducible rfl
    rotate_left
    ·simp only [Act.put, List.setIfInBounds_toArray, List.set_cons_zero, List.set_cons_succ, i64_w, i32_w]
     rfl
    refine pure_ (i := 10) (N := some 101) (v := ?_) (a' := ?_) #[true, true, true, true, true, true, true, true, true, false, true, false, false, false, false, false, false, false, false] rfl rfl (by kernel_rfl) (fun _ _ _ h => h) (Or.inl ⟨by rfl, ?_⟩) ?_ ?_
    rotate_left
    ·intro w'
     go_simp
     with_reducible rfl
    rotate_left
    ·simp only [Act.put, List.setIfInBounds_toArray, List.set_cons_zero, List.set_cons_succ, i64_w, i32_w]
     rfl
    refine pure_ (i := 11) (N := some 102) (v := ?_) (a' := ?_) #[true, true, true, true, true, true, true, true, true, false, true, true, false, false, false, false, false, false, false] rfl rfl (by kernel_rfl) (fun _ _ _ h => h) (Or.inl ⟨by rfl, ?_⟩) ?_ ?_
    rotate_left
    ·intro w'
     go_simp
     with_reducible rfl
    rotate_left
    ·simp only [Act.put, List.setIfInBounds_toArray, List.set_cons_zero, List.set_cons_succ, i64_w, i32_w]
     rfl
    refine take_ (i := 12) (N := some 103) (v := ?_) (a' := ?_) #[true, true, true, true, true, true, true, true, true, false, true, true, true, false, false, false, false, false, false] rfl rfl (by kernel_rfl) (fun _ _ _ h => h) (Or.inl ⟨by rfl, ?_⟩) hHeld ?_ ?_
    rotate_left
    ·rintro w' ⟨s0, s1⟩
     go_simp
     with_reducible rfl
    rotate_left
    ·simp only [Act.put, List.setIfInBounds_toArray, List.set_cons_zero, List.set_cons_succ, i64_w, i32_w]
     rfl
    refine one_ (i := 9) (N := some 100) #[true, true, true, true, true, true, true, true, true, true, true, true, true, false, false, false, false, false, false] rfl rfl (by kernel_rfl) (by decide) (fun K hK => ?_)
    refine goes_ Tryd.func22 (by kernel_rfl) rfl #[.slice Axn xn.length cxn, .slice A3 l3.length c3] (by rfl) rfl rfl (by (try simp only [List.map_toArray, List.map_cons, List.map_nil]); first | done | rfl) ?_
    refine (lineageref03_Mul.calls 20000 Axn cxn xn A3 c3 l3 m wa29 (HS.out.c 15 rfl) (HS.out.h 15 rfl) (HS.out.c 16 rfl) (HS.out.h 16 rfl) hM1.out).mono ?_
    rintro e wa30 ⟨v_, rfl, hr_, hb_⟩
    obtain ⟨Am0, cm0, rfl⟩ := Kd.V_slice hr_
    replace HS := Aside0.mk ((HS.out.step hb_).row (Kd.V_reads' hr_).2.2 (show m.length ≤ cm0 from (Kd.V_reads' hr_).2.1))
    clear hr_ hb_
    refine ⟨_, rfl, ?_⟩
    clear hHeld
    refine hK.out _ _ ⟨(Bx.c0 (HS.out.bx 3 rfl)), (Bx.c1 (HS.out.bx 3 rfl))⟩ (fun hHeld => ?_)
    clear hK K
    refine norm_ (a' := ?_) ?_ ?_
    rotate_left
    ·show Act.put _ (some 100) _ = _
     simp only [Act.put, List.setIfInBounds_toArray, List.set_cons_zero, List.set_cons_succ, i64_w, i32_w]
     rfl
    refine one_ (i := 13) (N := some 104) #[true, true, true, true, true, true, true, true, true, true, true, true, true, true, false, false, false, false, false] rfl rfl (by kernel_rfl) (by decide) (fun K hK => ?_)
    refine goes_ Tryd.func22 (by kernel_rfl) rfl #[.slice A2 l2.length c2, .slice Axd xd.length cxd] (by rfl) rfl rfl (by (try simp only [List.map_toArray, List.map_cons, List.map_nil]); first | done | rfl) ?_
    refine (lineageref03_Mul.calls 20000 A2 c2 l2 Axd cxd xd m wa30 (HS.out.c 18 rfl) (HS.out.h 18 rfl) (HS.out.c 15 rfl) (HS.out.h 15 rfl) hM2.out).mono ?_
    rintro e wa31 ⟨v_, rfl, hr_, hb_⟩
    obtain ⟨Am1, cm1, rfl⟩ := Kd.V_slice hr_
    replace HS := Aside0.mk ((HS.out.step hb_).row (Kd.V_reads' hr_).2.2 (show m.length ≤ cm1 from (Kd.V_reads' hr_).2.1))
    clear hr_ hb_
    refine ⟨_, rfl, ?_⟩
    clear hHeld
    refine hK.out _ _ ⟨(Bx.c0 (HS.out.bx 3 rfl)), (Bx.c1 (HS.out.bx 3 rfl))⟩ (fun hHeld => ?_)
    clear hK K
    refine norm_ (a' := ?_) ?_ ?_
    rotate_left
    ·show Act.put _ (some 104) _ = _
     simp only [Act.put, List.setIfInBounds_toArray, List.set_cons_zero, List.set_cons_succ, i64_w, i32_w]
     rfl
    refine last_ (i := 14) (N := some 105) #[true, true, true, true, true, true, true, true, true, true, true, true, true, true, true, false, false, false, false] rfl rfl (by kernel_rfl) (by decide) (fun K hK => ?_)
    refine goes_ Tryd.func28 (by kernel_rfl) rfl #[.slice Am0 m.length cm0, .slice Am1 m.length cm1] (by rfl) rfl rfl (by (try simp only [List.map_toArray, List.map_cons, List.map_nil]); first | done | rfl) ?_
    refine (lineageref03_Compare.calls 1000 Am0 cm0 m Am1 cm1 m 0 wa31 (HS.out.c 1 rfl) (HS.out.h 1 rfl) (HS.out.c 0 rfl) (HS.out.h 0 rfl) hCm.out).mono ?_
    rintro e wa32 ⟨rfl, hb_⟩
    replace hb_ := hb_.below
    replace HS := Aside0.mk (HS.out.step hb_)
    clear hb_
    refine ⟨_, rfl, ?_⟩
    refine hK.out _ _ ?_
    clear hK K
    refine norm_ (a' := ?_) ?_ ?_
    rotate_left
    ·show Act.put _ (some 105) _ = _
     simp only [Act.put, List.setIfInBounds_toArray, List.set_cons_zero, List.set_cons_succ, i64_w, i32_w]
     rfl
    refine pure_ (i := 15) (N := some 106) (v := ?_) (a' := ?_) #[true, true, true, true, true, true, true, true, true, true, true, true, true, true, true, true, false, false, false] rfl rfl (by kernel_rfl) (fun _ _ _ h => h) (Or.inl ⟨by rfl, ?_⟩) ?_ ?_
    rotate_left
    ·intro w'
     go_simp
     with_reducible rfl
    rotate_left
    ·simp only [Act.put, List.setIfInBounds_toArray, List.set_cons_zero, List.set_cons_succ, i64_w, i32_w]
     rfl
    refine pure_ (i := 16) (N := some 107) (v := ?_) (a' := ?_) #[true, true, true, true, true, true, true, true, true, true, true, true, true, true, true, true, true, false, false] rfl rfl (by kernel_rfl) (fun _ _ _ h => h) (Or.inl ⟨by rfl, ?_⟩) ?_ ?_
    rotate_left
    ·intro w'
     go_simp
     with_reducible rfl
    rotate_left
    ·simp only [Act.put, List.setIfInBounds_toArray, List.set_cons_zero, List.set_cons_succ, i64_w, i32_w]
     rfl
    refine pure_ (i := 17) (N := some 108) (v := ?_) (a' := ?_) #[true, true, true, true, true, true, true, true, true, true, true, true, true, true, true, true, true, true, false] rfl rfl (by kernel_rfl) (fun _ _ _ h => h) (Or.inl ⟨by rfl, ?_⟩) ?_ ?_
    rotate_left
    ·intro w'
     go_simp
     with_reducible rfl
    rotate_left
    ·simp only [Act.put, List.setIfInBounds_toArray, List.set_cons_zero, List.set_cons_succ, i64_w, i32_w]
     rfl
    refine pure_ (i := 18) (N := some 10) (v := ?_) (a' := ?_) #[true, true, true, true, true, true, true, true, true, true, true, true, true, true, true, true, true, true, true] rfl rfl (by kernel_rfl) (fun _ _ _ h => h) (Or.inl ⟨by rfl, ?_⟩) ?_ ?_
    rotate_left
    ·intro w'
     go_simp
     with_reducible rfl
    rotate_left
    ·simp only [Act.put, List.setIfInBounds_toArray, List.set_cons_zero, List.set_cons_succ, i64_w, i32_w]
     rfl
    refine done_ (by kernel_rfl) ?_
    go_wp2_with fail
    go_ret
    exact ⟨rfl, HS.out.below⟩

end Go.Proofs.YtoakfjcejamoeaaDoor.B
