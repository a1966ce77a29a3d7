/- The walk of the law RationalProbabilities. -/
import Derived.Test.YtoakfjcejamoeaaDoorQF
import Derived.Test.YtoakfjcejamoeaaDoorQI
namespace Go.Proofs.YtoakfjcejamoeaaDoor.B
open Go.RowKit Go.Proofs.YtoakfjcejamoeaaDoorW.PrintWords Go.Proofs.YtoakfjcejamoeaaDoorW.PrintLast Go.Proofs.YtoakfjcejamoeaaDoorW.PrintMore
set_option exponentiation.threshold 8200
set_option linter.unusedVariables false
set_option linter.unusedSimpArgs false
/-- An operation that yields a value and a new world. -/
theorem value3_ {P : Program} {ops : Array Oper} {Q : Exit → Act → World → Prop} {K : Act → World → Prop} {oi : Oper} {N : Option Tmp} {a : Act} {w w1 : World} {v : Value} (hw : Region.wanted oi (yielded ops a.tmps) = true) (hN : oi.dst = N) (hrun : (execOp a.eval oi).run P w = .ok (.value v) w1)
  (h : K (a.put N v) w1) : if Region.wanted oi (yielded ops a.tmps) = true then Oper.wp P oi a w K Q else K (a.put N undef) w := by
 rw [if_pos hw]
 unfold Oper.wp
 rw [hrun]
 show K (a.put oi.dst v) w1
 rw [hN]
 exact h
set_option maxHeartbeats 16000000 in
set_option maxRecDepth 100000 in
/-- What a law's walk keeps: rows of limbs, rationals in blocks of their own (the newest first), and that nothing below is touched. -/
structure St (W0 W : World) (R : List (Option Addr × Nat × List Int)) (B : List (Nat × Value × Value)) : Prop where
 rows : ∀ x ∈ R, Kd.C (Kd.int .u32) W x.1 x.2.2.length x.2.2 ∧ x.2.2.length ≤ x.2.1
 boxes : ∀ y ∈ B, Bx W y.1 y.2.1 y.2.2 ∧ W0.heap.size ≤ y.1
 apart : (B.map (·.1)).Pairwise (fun x y => y < x)
 below : Below W0.heap.size W0 W
section
variable {W0 W W' : World} {R : List (Option Addr × Nat × List Int)} {B : List (Nat × Value × Value)}
theorem St.nil (W : World) : St W W [] [] := ⟨fun _ h => absurd h (List.not_mem_nil), fun _ h => absurd h (List.not_mem_nil), List.Pairwise.nil, Below.refl _ _⟩
theorem St.c (h : St W0 W R B) (i : Nat) {A : Option Addr} {c : Nat} {l : List Int} (e : R[i]? = some (A, c, l)) : Kd.C (Kd.int .u32) W A l.length l := (h.rows _ (List.mem_of_getElem? e)).1
theorem St.h (h : St W0 W R B) (i : Nat) {A : Option Addr} {c : Nat} {l : List Int} (e : R[i]? = some (A, c, l)) : l.length ≤ c := (h.rows _ (List.mem_of_getElem? e)).2
theorem St.bx (h : St W0 W R B) (i : Nat) {b : Nat} {v0 v1 : Value} (e : B[i]? = some (b, v0, v1)) : Bx W b v0 v1 := (h.boxes _ (List.mem_of_getElem? e)).1
theorem St.step (h : St W0 W R B) (hb : Below W.heap.size W W') : St W0 W' R B :=
 ⟨fun x hx => ⟨Kd.C_below (h.rows x hx).1 hb, (h.rows x hx).2⟩, fun y hy => ⟨(h.boxes y hy).1.below hb, (h.boxes y hy).2⟩, h.apart, below_step h.below hb⟩
theorem St.row (h : St W0 W R B) {A : Option Addr} {c : Nat} {l : List Int} (hC : Kd.C (Kd.int .u32) W A l.length l) (hH : l.length ≤ c) : St W0 W ((A, c, l) :: R) B :=
 ⟨fun x hx => (List.mem_cons.1 hx).elim (fun e => by subst e; exact ⟨hC, hH⟩) (h.rows x), h.boxes, h.apart, h.below⟩
theorem St.tail {x : Option Addr × Nat × List Int} (h : St W0 W (x :: R) B) : St W0 W R B := ⟨fun y hy => h.rows y (List.mem_cons_of_mem _ hy), h.boxes, h.apart, h.below⟩
theorem St.keep {R' : List (Option Addr × Nat × List Int)} (h : St W0 W R B) (s : ∀ x ∈ R', x ∈ R) : St W0 W R' B := ⟨fun y hy => h.rows y (s y hy), h.boxes, h.apart, h.below⟩
theorem St.box (h : St W0 W R B) {b : Nat} {v0 v1 : Value} (hx : Bx W' b v0 v1) (hs : W.heap.size ≤ b) (hb : Below W.heap.size W W') : St W0 W' R ((b, v0, v1) :: B) :=
 ⟨(h.step hb).rows, fun y hy => (List.mem_cons.1 hy).elim (fun e => by subst e; exact ⟨hx, Nat.le_trans (below_size h.below) hs⟩) ((h.step hb).boxes y),
  List.pairwise_cons.2 ⟨fun k hk => by
   obtain ⟨y, hy, rfl⟩ := List.mem_map.1 hk
   have := (h.boxes y hy).1.lt
   exact Nat.lt_of_lt_of_le this hs, h.apart⟩, (h.step hb).below⟩
theorem St.store (h : St W0 W R B) (j : Nat) {b : Nat} {A0 A1 : Option Addr} {n0 c0 n1 c1 : Nat} (e : B[j]? = some (b, .slice A0 n0 c0, .slice A1 n1 c1)) (u0 u1 : Value) {B' : List (Nat × Value × Value)} (hB : B.set j (b, u0, u1) = B') :
  St W0 ((W.setCell ⟨b, 0, none⟩ u0).setCell ⟨b, 1, none⟩ u1) R B' := by
 subst hB
 have hj := (h.boxes _ (List.mem_of_getElem? e))
 refine ⟨fun x hx => ⟨C_store hj.1 (h.rows x hx).1 _ _, (h.rows x hx).2⟩, fun y hy => ?_, ?_, below_set (below_set h.below hj.2) hj.2⟩
 ·obtain ⟨i, hi⟩ := List.mem_iff_getElem?.1 hy
  rw [List.getElem?_set] at hi
  split at hi
  ·split at hi
   ·injection hi with hi
    subst hi
    exact ⟨hj.1.store u0 u1, hj.2⟩
   ·cases hi
  ·rename_i hij
   have hy2 := h.boxes y (List.mem_of_getElem? hi)
   refine ⟨hy2.1.other ?_ u0 u1, hy2.2⟩
   have e1 : (B.map (·.1))[i]? = some y.1 := by rw [List.getElem?_map, hi]; rfl
   have e2 : (B.map (·.1))[j]? = some b := by rw [List.getElem?_map, e]; rfl
   intro hb
   have ha := h.apart
   rw [List.pairwise_iff_getElem] at ha
   obtain ⟨i1, i2⟩ := List.getElem?_eq_some_iff.1 e1
   obtain ⟨j1, j2⟩ := List.getElem?_eq_some_iff.1 e2
   rcases Nat.lt_or_gt_of_ne hij with hl | hl
   ·have := ha j i j1 i1 hl
    omega
   ·have := ha i j i1 j1 hl
    omega
 ·have e2 : (B.map (·.1))[j]? = some b := by rw [List.getElem?_map, e]; rfl
  obtain ⟨j1, j2⟩ := List.getElem?_eq_some_iff.1 e2
  have : (B.set j (b, u0, u1)).map (·.1) = B.map (·.1) := by
   rw [List.map_set]
   show (B.map (·.1)).set j b = _
   rw [← j2, List.set_getElem_self]
  rw [this]
  exact h.apart
end
theorem drop2_ {x y p q : Option Addr × Nat × List Int} {R : List (Option Addr × Nat × List Int)} : ∀ z ∈ x :: y :: R, z ∈ x :: y :: p :: q :: R := fun z hz => by
 simp only [List.mem_cons] at *
 rcases hz with h | h | h
 ·exact Or.inl h
 ·exact Or.inr (Or.inl h)
 ·exact Or.inr (Or.inr (Or.inr (Or.inr h)))
/-- An operation that its guard passes over. -/
theorem idle_ {P : Program} {ops : Array Oper} {Q : Exit → Act → World → Prop} {K : Act → World → Prop} {oi : Oper} {N : Option Tmp} {a : Act} {w : World} (hw : Region.wanted oi (yielded ops a.tmps) = false)
  (h : K (a.put N undef) w) : if Region.wanted oi (yielded ops a.tmps) = true then Oper.wp P oi a w K Q else K (a.put N undef) w := by
 rw [hw]
 exact h

theorem fits_lt {n : Nat} (h : n < 4294967296 ^ 128) : fitsB n = true := decide_eq_true ((Bn.limbs_len n 128).2 h)
theorem lt_pow {l : List Int} (h : Bn.Limbs l) {k : Nat} (hl : l.length ≤ k) : Bn.nv l < 4294967296 ^ k := Nat.lt_of_lt_of_le (Bn.nv_lt h) (Nat.pow_le_pow_right (by decide) hl)
theorem mul_pow {a b j k : Nat} (ha : a < 4294967296 ^ j) (hb : b < 4294967296 ^ k) : a * b < 4294967296 ^ (j + k) := by
 rw [Nat.pow_add]
 exact Nat.mul_lt_mul'' ha hb
theorem pow_le {a j k : Nat} (ha : a < 4294967296 ^ j) (h : j ≤ k) : a < 4294967296 ^ k := Nat.lt_of_lt_of_le ha (Nat.pow_le_pow_right (by decide) h)
theorem add_pow {a b j : Nat} (ha : a < 4294967296 ^ j) (hb : b < 4294967296 ^ j) : a + b < 4294967296 ^ (j + 1) := by
 rw [Nat.pow_succ]
 omega
/-- the lowest terms of N/D -/
theorem redB_spec {N D : Nat} (hN : fitsB N = true) (hD : fitsB D = true) (h0 : 0 < D) {x y : List Int} (h : redB N D = (x, y)) : ratB x y = true ∧ Bn.Limbs x ∧ Bn.Limbs y ∧ ∃ g, 0 < g ∧ Bn.nv x * g = N ∧ Bn.nv y * g = D := by
 unfold redB at h
 injection h with h1 h2
 have hg : 0 < Nat.gcd N D := Nat.gcd_pos_of_pos_right _ h0
 have d1 := Nat.gcd_dvd_left N D
 have d2 := Nat.gcd_dvd_right N D
 have L1 : Bn.Limbs x := by rw [← h1]; exact Bn.limbs_limbs _
 have L2 : Bn.Limbs y := by rw [← h2]; exact Bn.limbs_limbs _
 have ex : Bn.nv x = N / Nat.gcd N D := by rw [← h1, Bn.nv_limbs]
 have ey : Bn.nv y = D / Nat.gcd N D := by rw [← h2, Bn.nv_limbs]
 refine ⟨(ratB_iff L1 L2).2 ⟨⟨by rw [← h1]; exact Bn.nrm_limbs _, by rw [← h1]; exact div_row hN⟩, ⟨by rw [← h2]; exact Bn.nrm_limbs _, by rw [← h2]; exact div_row hD⟩, by rw [← h2]; exact limbs_ne (Nat.div_pos (Nat.le_of_dvd h0 d2) hg), ?_⟩, L1, L2, Nat.gcd N D, hg, by rw [ex]; exact Nat.div_mul_cancel d1, by rw [ey]; exact Nat.div_mul_cancel d2⟩
 rw [ex, ey, Nat.gcd_div d1 d2, Nat.div_self hg]
/-- a fraction in lowest terms is what its own numbers reduce to -/
theorem redB_self {a b : List Int} (La : Bn.Limbs a) (Lb : Bn.Limbs b) (h : ratB a b = true) {g : Nat} (hg : 0 < g) : redB (Bn.nv a * g) (Bn.nv b * g) = (a, b) := by
 obtain ⟨va, vb, vb0, hc⟩ := (ratB_iff La Lb).1 h
 unfold redB
 rw [Nat.gcd_mul_right, hc, Nat.one_mul, Nat.mul_div_cancel _ hg, Nat.mul_div_cancel _ hg, va.1.2, vb.1.2]
/-- equal fractions have the same lowest terms -/
theorem redB_cross {N D N' D' : Nat} (h0 : 0 < D) (h1 : 0 < D') (h : N * D' = N' * D) : redB N D = redB N' D' := by
 have key : ∀ {n d : Nat} (k : Nat), 0 < k → redB (n * k) (d * k) = redB n d := by
  intro n d k hk
  unfold redB
  rw [Nat.gcd_mul_right, Nat.mul_div_mul_right _ _ hk, Nat.mul_div_mul_right _ _ hk]
 rw [← key (n := N) (d := D) D' h1, ← key (n := N') (d := D') D h0, h, Nat.mul_comm D D']

theorem prob_facts {a b c d : List Int} (La : Bn.Limbs a) (Lb : Bn.Limbs b) (Lc : Bn.Limbs c) (Ld : Bn.Limbs d) (sa : a.length ≤ 4) (sb : b.length ≤ 4) (sc : c.length ≤ 4) (sd : d.length ≤ 4) (ha : probB a b = true) (hc : probB c d = true) :
  ∃ cn pn pd, compR a b = ((cn, b), 0) ∧ Bn.Limbs cn ∧ compR cn b = ((a, b), 0) ∧ addR a b cn b = (([1], [1]), 0) ∧ mulR a b c d = ((pn, pd), 0) ∧ Bn.Limbs pn ∧ Bn.Limbs pd ∧ probB cn b = true ∧ probB pn pd = true ∧ compareR pn pd a b ≤ 0 ∧ compareR pn pd c d ≤ 0 := by
 obtain ⟨ra, la⟩ : ratB a b = true ∧ Bn.nv a ≤ Bn.nv b := by simpa [probB] using ha
 obtain ⟨rc, lc⟩ : ratB c d = true ∧ Bn.nv c ≤ Bn.nv d := by simpa [probB] using hc
 obtain ⟨va, vb, vb0, hg⟩ := (ratB_iff La Lb).1 ra
 obtain ⟨vc, vd, vd0, -⟩ := (ratB_iff Lc Ld).1 rc
 have pb := nv_pos vb.1 vb0
 have pd := nv_pos vd.1 vd0
 have hcn : (Bn.limbs (Bn.nv b - Bn.nv a)).length ≤ 4 := Nat.le_trans (limbs_le vb.1.1 (by omega)) sb
 have ecn : Bn.nv (Bn.limbs (Bn.nv b - Bn.nv a)) = Bn.nv b - Bn.nv a := Bn.nv_limbs _
 have Lcn := Bn.limbs_limbs (Bn.nv b - Bn.nv a)
 have rcn : ratB (Bn.limbs (Bn.nv b - Bn.nv a)) b = true := by
  refine (ratB_iff Lcn Lb).2 ⟨⟨Bn.nrm_limbs _, by omega⟩, vb, vb0, ?_⟩
  rw [ecn, Nat.gcd_comm, Nat.gcd_self_sub_right la, Nat.gcd_comm]
  exact hg
 have A := lt_pow La sa
 have B := lt_pow Lb sb
 have C := lt_pow Lc sc
 have D := lt_pow Ld sd
 have f1 := fits_lt (pow_le (mul_pow A C) (by decide))
 have f2 := fits_lt (pow_le (mul_pow B D) (by decide))
 obtain ⟨⟨pn, pdn⟩, hp⟩ : ∃ t, redB (Bn.nv a * Bn.nv c) (Bn.nv b * Bn.nv d) = t := ⟨_, rfl⟩
 obtain ⟨rp, Lp, Lq, g, g0, e1, e2⟩ := redB_spec f1 f2 (Nat.mul_pos pb pd) hp
 have mle : ∀ {x y : Nat}, x * g ≤ y * g → x ≤ y := fun h => Nat.le_of_mul_le_mul_right h g0
 have cmple : ∀ {x y : Nat}, x ≤ y → cmpN x y ≤ 0 := fun {x y} h => by
  unfold cmpN
  split
  ·decide
  ·rw [if_neg (by omega)]; decide
 refine ⟨Bn.limbs (Bn.nv b - Bn.nv a), pn, pdn, ?_, Lcn, ?_, ?_, ?_, Lp, Lq, ?_, ?_, ?_, ?_⟩
 ·unfold compR
  rw [if_pos ra, if_pos la]
 ·unfold compR
  rw [if_pos rcn, ecn, if_pos (Nat.sub_le _ _), Nat.sub_sub_self la, va.1.2]
 ·have Cn : Bn.nv b - Bn.nv a < 4294967296 ^ 4 := by omega
  have s1 := pow_le (mul_pow A B) (show 4 + 4 ≤ 8 by decide)
  have s2 := pow_le (mul_pow Cn B) (show 4 + 4 ≤ 8 by decide)
  unfold addR
  rw [if_pos ⟨ra, rcn⟩, ecn, if_pos ⟨fits_lt (pow_le s1 (by decide)), fits_lt (pow_le s2 (by decide)), fits_lt (pow_le (mul_pow B B) (by decide)), fits_lt (pow_le (add_pow s1 s2) (by decide))⟩]
  have e : Bn.nv a * Bn.nv b + (Bn.nv b - Bn.nv a) * Bn.nv b = 1 * (Bn.nv b * Bn.nv b) := by rw [← Nat.add_mul, Nat.add_sub_cancel' la, Nat.one_mul]
  rw [e]
  have r11 : ratB [1] [1] = true := by decide +kernel
  have L1 : Bn.Limbs [1] := nrm_one.1
  have h := redB_self L1 L1 r11 (Nat.mul_pos pb pb)
  rw [show Bn.nv [1] = 1 by decide] at h
  conv => lhs; rw [show Bn.nv b * Bn.nv b = 1 * (Bn.nv b * Bn.nv b) by rw [Nat.one_mul]]
  rw [Nat.one_mul (1 * (Bn.nv b * Bn.nv b)), h]
 ·unfold mulR
  rw [if_pos ⟨ra, rc⟩, if_pos ⟨f1, f2⟩, hp]
 ·unfold probB
  rw [rcn, ecn, decide_eq_true (Nat.sub_le _ _)]
  rfl
 ·unfold probB
  rw [rp, decide_eq_true (mle (by rw [e1, e2]; exact Nat.mul_le_mul la lc))]
  rfl
 ·unfold compareR cleanB
  rw [if_pos rp, if_pos ra]
  refine cmple (mle ?_)
  show Bn.nv pn * Bn.nv b * g ≤ Bn.nv a * Bn.nv pdn * g
  rw [Nat.mul_right_comm, e1, Nat.mul_assoc (Bn.nv a) (Bn.nv pdn), e2, Nat.mul_assoc]
  refine Nat.mul_le_mul_left _ ?_
  rw [Nat.mul_comm]
  exact Nat.mul_le_mul_left _ lc
 ·unfold compareR cleanB
  rw [if_pos rp, if_pos rc]
  refine cmple (mle ?_)
  show Bn.nv pn * Bn.nv d * g ≤ Bn.nv c * Bn.nv pdn * g
  rw [Nat.mul_right_comm, e1, Nat.mul_assoc (Bn.nv c) (Bn.nv pdn), e2, Nat.mul_comm (Bn.nv a), Nat.mul_assoc]
  exact Nat.mul_le_mul_left _ (Nat.mul_le_mul_right _ la)

set_option maxHeartbeats 16000000 in
set_option maxRecDepth 100000 in
/-- RationalProbabilities. -/
theorem probLaw (A0 : Option Addr) (c0 : Nat) (l0 : List Int) (A1 : Option Addr) (c1 : Nat) (l1 : List Int) (A2 : Option Addr) (c2 : Nat) (l2 : List Int) (A3 : Option Addr) (c3 : Nat) (l3 : List Int) (w : World) (hr0 : Kd.C (Kd.int .u32) w A0 l0.length l0) (hc0 : l0.length ≤ c0) (hr1 : Kd.C (Kd.int .u32) w A1 l1.length l1) (hc1 : l1.length ≤ c1) (hr2 : Kd.C (Kd.int .u32) w A2 l2.length l2) (hc2 : l2.length ≤ c2) (hr3 : Kd.C (Kd.int .u32) w A3 l3.length l3) (hc3 : l3.length ≤ c3) (ht_ : Tab w) (L0 : Bn.Limbs l0) (L1 : Bn.Limbs l1) (L2 : Bn.Limbs l2) (L3 : Bn.Limbs l3) :
  Calls Tryd.prog 15 #[.agg #[.slice A0 l0.length c0, .slice A1 l1.length c1], .agg #[.slice A2 l2.length c2, .slice A3 l3.length c3]] w fun e w' => e = .returned (.bool true) ∧ Below w.heap.size w w' := by
 have HT_ := Aside0.mk ht_
 clear ht_
 have HS := Aside0.mk (((((St.nil w).row hr0 hc0).row hr1 hc1).row hr2 hc2).row hr3 hc3)
 clear hr0 hc0 hr1 hc1 hr2 hc2 hr3 hc3
 obtain ⟨f0, hq0⟩ : ∃ f, f = (decide ((l0.length : Int) ≤ 4) && decide ((l1.length : Int) ≤ 4)) := ⟨_, rfl⟩
 obtain ⟨f1, hq1⟩ : ∃ f, f = (decide ((l2.length : Int) ≤ 4) && decide ((l3.length : Int) ≤ 4)) := ⟨_, rfl⟩
 have hf0 := Aside0.mk hq0
 have hf1 := Aside0.mk hq1
 obtain ⟨p, hp⟩ : ∃ p, p = probB l0 l1 := ⟨_, rfl⟩
 obtain ⟨q, hq⟩ : ∃ p, p = probB l2 l3 := ⟨_, rfl⟩
 have hL := Aside0.mk (show Bn.Limbs l0 ∧ Bn.Limbs l1 ∧ Bn.Limbs l2 ∧ Bn.Limbs l3 from ⟨L0, L1, L2, L3⟩)
 have hP := Aside0.mk hp
 have hQ := Aside0.mk hq
 have hG := Aside0.mk (show f0 = true → f1 = true → p = true → q = true → (l0.length ≤ 4 ∧ l1.length ≤ 4) ∧ _ from fun h0 h1 h2 h3 => by
   have z0 : l0.length ≤ 4 ∧ l1.length ≤ 4 := by
    rw [hq0] at h0
    simp at h0
    omega
   have z1 : l2.length ≤ 4 ∧ l3.length ≤ 4 := by
    rw [hq1] at h1
    simp at h1
    omega
   exact ⟨z0, prob_facts L0 L1 L2 L3 z0.1 z0.2 z1.1 z1.2 (hp ▸ h2) (hq ▸ h3)⟩)
 clear hq0 hq1 hp hq L0 L1 L2 L3
 go_enter Tryd.func15, Tryd.ntmps15
 go_wp2_with (first | ((with_reducible refine gate_dst (N := 2) rfl ?_); (try (refine gate_guard (by rfl) ?_; dsimp only)); refine box_event ?hg (N := 2) ?hd (.slice A0 l0.length c0) (.slice A1 l1.length c1) ?hr ?_; (case hd => rfl); (case hg => rfl); (case hr => first | (go_simp; done) | (go_simp; rfl)); intro ba wa1 hx_ hs_ hb_; replace HS := Aside0.mk (HS.out.box hx_ hs_ hb_); clear hb_ hx_ hs_) | ((with_reducible refine gate_dst (N := 3) rfl ?_); (try (refine gate_guard (by rfl) ?_; dsimp only)); refine box_event ?hg (N := 3) ?hd (.slice A2 l2.length c2) (.slice A3 l3.length c3) ?hr ?_; (case hd => rfl); (case hg => rfl); (case hr => first | (go_simp; done) | (go_simp; rfl)); intro bb wa2 hx_ hs_ hb_; replace HS := Aside0.mk (HS.out.box hx_ hs_ hb_); clear hb_ hx_ hs_))
 refine (awake10_calls wa2 (HT_.out.below HS.out.below)).mono ?_
 rintro e wa3 ⟨rfl, hb_⟩
 replace HS := Aside0.mk (HS.out.step hb_)
 clear hb_
 have qaa := Bx.c0 (HS.out.bx 1 rfl)
 have qba := Bx.c1 (HS.out.bx 1 rfl)
 have qab := Bx.c0 (HS.out.bx 0 rfl)
 have qbb := Bx.c1 (HS.out.bx 0 rfl)
 go_wp2_with (first | ((with_reducible refine gate_dst (N := 17) rfl ?_); (try (refine gate_guard (by rfl) ?_; dsimp only)); refine rats_event ?hg (N := 17) ?hd #[.slice A0 l0.length c0, .slice A1 l1.length c1, .slice A2 l2.length c2, .slice A3 l3.length c3] 2 ?hr ?_; (case hd => rfl); (case hg => rfl); (case hr => first | (go_simp; done) | (go_simp; rfl)); intro blt wa4 hp_ hb_; replace HS := Aside0.mk (HS.out.step hb_); have Plt := Aside0.mk hp_; clear hp_ hb_; clear qaa qba; clear qab qbb; have qaa := Bx.c0 (HS.out.bx 1 rfl); have qba := Bx.c1 (HS.out.bx 1 rfl); have qab := Bx.c0 (HS.out.bx 0 rfl); have qbb := Bx.c1 (HS.out.bx 0 rfl)))
 refine (light2_calls A0 c0 l0 A1 c1 l1 f0 A2 c2 l2 A3 c3 l3 f1 blt wa4 hf0.out hf1.out Plt.out).mono ?_
 rintro e wa5 ⟨rfl, hb_⟩
 replace HS := Aside0.mk (HS.out.step hb_)
 clear hb_
 clear qaa qba qab qbb
 clear Plt
 cases f0 with
 | false =>
  go_wp2_with fail
  go_ret
  exact ⟨rfl, HS.out.below⟩
 | true =>
  cases f1 with
  | false =>
   go_wp2_with fail
   go_ret
   exact ⟨rfl, HS.out.below⟩
  | true =>
   go_wp2_with fail
   have hb_ : Below wa5.heap.size wa5 wa5.drew := below_drew1 (Below.refl _ _)
   have hSd_ : (fun w' : World => w'.cell? ⟨ba, 0, none⟩ = some (.slice A0 l0.length c0) ∧ w'.cell? ⟨ba, 1, none⟩ = some (.slice A1 l1.length c1)) wa5.drew := ⟨(Bx.c0 (HS.out.bx 1 rfl)), (Bx.c1 (HS.out.bx 1 rfl))⟩
   refine start_ (n := 5) (S := fun w' => w'.cell? ⟨ba, 0, none⟩ = some (.slice A0 l0.length c0) ∧ w'.cell? ⟨ba, 1, none⟩ = some (.slice A1 l1.length c1)) (ds := [3]) #[false, false, false, false, false] (by kernel_rfl) rfl rfl hSd_ (fun hHeld => ?_)
   clear hSd_
   replace HS := Aside0.mk (HS.out.step hb_)
   clear hb_
   generalize wa5.drew = wa6 at *
   refine take_ (i := 0) (N := some 20) (v := ?_) (a' := ?_) #[true, false, false, false, false] rfl rfl (by kernel_rfl) (fun _ _ _ h => h) (Or.inl ⟨by rfl, ?_⟩) hHeld ?_ ?_
   rotate_left
   ·rintro w' ⟨s0, s1⟩
    go_simp
    with_reducible rfl
   rotate_left
   ·simp only [Act.put, List.setIfInBounds_toArray, List.set_cons_zero, List.set_cons_succ, i64_w, i32_w]
    rfl
   refine take_ (i := 2) (N := some 22) (v := ?_) (a' := ?_) #[true, false, true, false, false] rfl rfl (by kernel_rfl) (fun _ _ _ h => h) (Or.inl ⟨by rfl, ?_⟩) hHeld ?_ ?_
   rotate_left
   ·rintro w' ⟨s0, s1⟩
    go_simp
    with_reducible rfl
   rotate_left
   ·simp only [Act.put, List.setIfInBounds_toArray, List.set_cons_zero, List.set_cons_succ, i64_w, i32_w]
    rfl
   refine one_ (i := 1) (N := some 21) #[true, true, true, false, false] rfl rfl (by kernel_rfl) (by decide) (fun K hK => ?_)
   refine goes_ Tryd.func66 (by kernel_rfl) rfl #[.agg #[.slice A0 l0.length c0, .slice A1 l1.length c1]] (by rfl) rfl rfl (by (try simp only [List.map_toArray, List.map_cons, List.map_nil]); first | done | rfl) ?_
   refine (isProb_calls A0 c0 l0 A1 c1 l1 p wa6 (HS.out.c 3 rfl) (HS.out.h 3 rfl) (HS.out.c 2 rfl) (HS.out.h 2 rfl) hL.out.1 hL.out.2.1 hP.out).mono ?_
   rintro e wa7 ⟨rfl, hb_⟩
   replace HS := Aside0.mk (HS.out.step hb_)
   clear hb_
   refine ⟨_, rfl, ?_⟩
   clear hHeld
   refine hK.out _ _ ⟨(Bx.c0 (HS.out.bx 1 rfl)), (Bx.c1 (HS.out.bx 1 rfl))⟩ (fun hHeld => ?_)
   clear hK K
   refine norm_ (a' := ?_) ?_ ?_
   rotate_left
   ·show Act.put _ (some 21) _ = _
    simp only [Act.put, List.setIfInBounds_toArray, List.set_cons_zero, List.set_cons_succ, i64_w, i32_w]
    rfl
   refine last_ (i := 3) (N := some 23) #[true, true, true, true, false] rfl rfl (by kernel_rfl) (by decide) (fun K hK => ?_)
   refine goes_ Tryd.func67 (by kernel_rfl) rfl #[.agg #[.slice A0 l0.length c0, .slice A1 l1.length c1]] (by rfl) rfl rfl (by (try simp only [List.map_toArray, List.map_cons, List.map_nil]); first | done | rfl) ?_
   refine (refIsProb_calls A0 c0 l0 A1 c1 l1 p wa7 (HS.out.c 3 rfl) (HS.out.h 3 rfl) (HS.out.c 2 rfl) (HS.out.h 2 rfl) hL.out.1 hL.out.2.1 hP.out).mono ?_
   rintro e wa8 ⟨rfl, hb_⟩
   replace HS := Aside0.mk (HS.out.step hb_)
   clear hb_
   refine ⟨_, rfl, ?_⟩
   refine hK.out _ _ ?_
   clear hK K
   refine norm_ (a' := ?_) ?_ ?_
   rotate_left
   ·show Act.put _ (some 23) _ = _
    simp only [Act.put, List.setIfInBounds_toArray, List.set_cons_zero, List.set_cons_succ, i64_w, i32_w]
    rfl
   refine pure_ (i := 4) (N := some 24) (v := ?_) (a' := ?_) #[true, true, true, true, true] rfl rfl (by kernel_rfl) (fun _ _ _ h => h) (Or.inl ⟨by rfl, ?_⟩) ?_ ?_
   rotate_left
   ·intro w'
    go_simp
    with_reducible rfl
   rotate_left
   ·simp only [Act.put, List.setIfInBounds_toArray, List.set_cons_zero, List.set_cons_succ, i64_w, i32_w]
    rfl
   refine done_ (by kernel_rfl) ?_
   have qaa := Bx.c0 (HS.out.bx 1 rfl)
   have qba := Bx.c1 (HS.out.bx 1 rfl)
   go_wp2_with fail
   refine (refIsProb_calls A0 c0 l0 A1 c1 l1 p wa8 (HS.out.c 3 rfl) (HS.out.h 3 rfl) (HS.out.c 2 rfl) (HS.out.h 2 rfl) hL.out.1 hL.out.2.1 hP.out).mono ?_
   rintro e wa9 ⟨rfl, hb_⟩
   replace HS := Aside0.mk (HS.out.step hb_)
   clear hb_
   clear qaa qba
   cases p with
   | false =>
    go_wp2_with fail
    go_ret
    exact ⟨rfl, HS.out.below⟩
   | true =>
    have qab := Bx.c0 (HS.out.bx 0 rfl)
    have qbb := Bx.c1 (HS.out.bx 0 rfl)
    go_wp2_with fail
    refine (refIsProb_calls A2 c2 l2 A3 c3 l3 q wa9 (HS.out.c 1 rfl) (HS.out.h 1 rfl) (HS.out.c 0 rfl) (HS.out.h 0 rfl) hL.out.2.2.1 hL.out.2.2.2 hQ.out).mono ?_
    rintro e wa10 ⟨rfl, hb_⟩
    replace HS := Aside0.mk (HS.out.step hb_)
    clear hb_
    clear qab qbb
    cases q with
    | false =>
     go_wp2_with fail
     go_ret
     exact ⟨rfl, HS.out.below⟩
    | true =>
     obtain ⟨z0, cn, pn, pd, e1, e2, e3, e4, e5, e6, e7, e8, e9, e10, e11⟩ := hG.out (by trivial) (by trivial) (by trivial) (by trivial)
     obtain ⟨ol, hol⟩ : ∃ o, o = ([1] : List Int) := ⟨_, rfl⟩
     rw [← hol] at e4
     have hO := Aside0.mk hol
     clear hol
     have hC := Aside0.mk e1
     have hCL := Aside0.mk e2
     have hD := Aside0.mk e3
     have hS := Aside0.mk e4
     have hM := Aside0.mk e5
     have hPL := Aside0.mk (show Bn.Limbs pn ∧ Bn.Limbs pd from ⟨e6, e7⟩)
     have hPc := Aside0.mk e8.symm
     have hPp := Aside0.mk e9.symm
     have hz := Aside0.mk z0
     obtain ⟨cm1, hc1⟩ : ∃ c, c = compareR pn pd l0 l1 := ⟨_, rfl⟩
     obtain ⟨cm2, hc2⟩ : ∃ c, c = compareR pn pd l2 l3 := ⟨_, rfl⟩
     rw [← hc1] at e10
     rw [← hc2] at e11
     have g1 : decide (cm1 ≤ 0) = true := decide_eq_true e10
     have g2 : decide (cm2 ≤ 0) = true := decide_eq_true e11
     have hK1 := Aside0.mk hc1
     have hK2 := Aside0.mk hc2
     clear z0 e1 e2 e3 e4 e5 e6 e7 e8 e9 e10 e11 hc1 hc2 hG
     have qaa := Bx.c0 (HS.out.bx 1 rfl)
     have qba := Bx.c1 (HS.out.bx 1 rfl)
     go_wp2_with fail
     refine (ratComp_calls A0 c0 l0 A1 c1 l1 cn l1 0 wa10 (HS.out.c 3 rfl) (HS.out.h 3 rfl) (HS.out.c 2 rfl) (HS.out.h 2 rfl) hL.out.1 hL.out.2.1 hC.out).mono ?_
     rintro e wa11 ⟨Acn, ccn, Acd, ccd, rfl, hCcn_, hHcn_, hCcd_, hHcd_, hb_⟩
     replace HS := Aside0.mk (((HS.out.step hb_).row hCcn_ hHcn_).row hCcd_ hHcd_)
     clear hb_ hCcn_ hHcn_ hCcd_ hHcd_
     clear qaa qba
     go_wp2_with (first | ((with_reducible refine gate_dst (N := 5) rfl ?_); (try (refine gate_guard (by rfl) ?_; dsimp only)); refine box_event ?hg (N := 5) ?hd (.slice none 0 0) (.slice none 0 0) ?hr ?_; (case hd => rfl); (case hg => rfl); (case hr => first | (go_simp; done) | (go_simp; rfl)); intro bq1 wa12 hx_ hs_ hb_; replace HS := Aside0.mk (HS.out.box hx_ hs_ hb_); clear hb_ hx_ hs_; have qaq1 := Bx.c0 (HS.out.bx 0 rfl); have qbq1 := Bx.c1 (HS.out.bx 0 rfl)) | (refine store_event (by rfl) (by rfl) (HS.out.bx 0 rfl : Bx _ bq1 _ _) (.slice Acn cn.length ccn) (.slice Acd l1.length ccd) ?hr ?_; (case hr => (have qaq1 := Bx.c0 (HS.out.bx 0 rfl); have qbq1 := Bx.c1 (HS.out.bx 0 rfl); have qc_ := Bx.f0 (HS.out.bx 0 rfl); have qd_ := Bx.f1 (HS.out.bx 0 rfl); first | (go_simp; done) | (go_simp; rfl))); intro wa13 he_ hx_; clear hx_; replace HS := Aside0.mk (HS.out.store 0 rfl (.slice Acn cn.length ccn) (.slice Acd l1.length ccd) rfl); generalize (wa12.setCell ⟨bq1, 0, none⟩ (.slice Acn cn.length ccn)).setCell ⟨bq1, 1, none⟩ (.slice Acd l1.length ccd) = wg_ at *; subst he_; clear qaq1 qbq1; have qaq1 := Bx.c0 (HS.out.bx 0 rfl); have qbq1 := Bx.c1 (HS.out.bx 0 rfl)))
     refine (ratComp_calls Acn ccn cn Acd ccd l1 l0 l1 0 wa13 (HS.out.c 1 rfl) (HS.out.h 1 rfl) (HS.out.c 0 rfl) (HS.out.h 0 rfl) hCL.out hL.out.2.1 hD.out).mono ?_
     rintro e wa14 ⟨Adn, cdn, Add, cdd, rfl, hCdn_, hHdn_, hCdd_, hHdd_, hb_⟩
     replace HS := Aside0.mk (((HS.out.step hb_).row hCdn_ hHdn_).row hCdd_ hHdd_)
     clear hb_ hCdn_ hHdn_ hCdd_ hHdd_
     clear qaq1 qbq1
     have qaa := Bx.c0 (HS.out.bx 2 rfl)
     have qba := Bx.c1 (HS.out.bx 2 rfl)
     have qaq1 := Bx.c0 (HS.out.bx 0 rfl)
     have qbq1 := Bx.c1 (HS.out.bx 0 rfl)
     go_wp2_with (first | ((with_reducible refine gate_dst (N := 7) rfl ?_); (try (refine gate_guard (by rfl) ?_; dsimp only)); refine box_event ?hg (N := 7) ?hd (.slice none 0 0) (.slice none 0 0) ?hr ?_; (case hd => rfl); (case hg => rfl); (case hr => first | (go_simp; done) | (go_simp; rfl)); intro bq2 wa15 hx_ hs_ hb_; replace HS := Aside0.mk (HS.out.box hx_ hs_ hb_); clear hb_ hx_ hs_; clear qaa qba; clear qaq1 qbq1; have qaa := Bx.c0 (HS.out.bx 3 rfl); have qba := Bx.c1 (HS.out.bx 3 rfl); have qaq1 := Bx.c0 (HS.out.bx 1 rfl); have qbq1 := Bx.c1 (HS.out.bx 1 rfl)) | (refine store_event (by rfl) (by rfl) (HS.out.bx 0 rfl : Bx _ bq2 _ _) (.slice Adn l0.length cdn) (.slice Add l1.length cdd) ?hr ?_; (case hr => (have qaq2 := Bx.c0 (HS.out.bx 0 rfl); have qbq2 := Bx.c1 (HS.out.bx 0 rfl); have qc_ := Bx.f0 (HS.out.bx 0 rfl); have qd_ := Bx.f1 (HS.out.bx 0 rfl); first | (go_simp; done) | (go_simp; rfl))); intro wa16 he_ hx_; clear hx_; replace HS := Aside0.mk (HS.out.store 0 rfl (.slice Adn l0.length cdn) (.slice Add l1.length cdd) rfl); generalize (wa15.setCell ⟨bq2, 0, none⟩ (.slice Adn l0.length cdn)).setCell ⟨bq2, 1, none⟩ (.slice Add l1.length cdd) = wg_ at *; subst he_; clear qaa qba; clear qaq1 qbq1; have qaa := Bx.c0 (HS.out.bx 3 rfl); have qba := Bx.c1 (HS.out.bx 3 rfl); have qaq1 := Bx.c0 (HS.out.bx 1 rfl); have qbq1 := Bx.c1 (HS.out.bx 1 rfl)))
     refine (ratAdd_calls A0 c0 l0 A1 c1 l1 Acn ccn cn Acd ccd l1 ol ol 0 wa16 (HS.out.c 7 rfl) (HS.out.h 7 rfl) (HS.out.c 6 rfl) (HS.out.h 6 rfl) (HS.out.c 3 rfl) (HS.out.h 3 rfl) (HS.out.c 2 rfl) (HS.out.h 2 rfl) hL.out.1 hL.out.2.1 hCL.out hL.out.2.1 hS.out).mono ?_
     rintro e wa17 ⟨Asn, csn, Asd, csd, rfl, hCsn_, hHsn_, hCsd_, hHsd_, hb_⟩
     replace HS := Aside0.mk (((HS.out.step hb_).row hCsn_ hHsn_).row hCsd_ hHsd_)
     clear hb_ hCsn_ hHsn_ hCsd_ hHsd_
     clear qaa qba qaq1 qbq1
     have qaa := Bx.c0 (HS.out.bx 3 rfl)
     have qba := Bx.c1 (HS.out.bx 3 rfl)
     have qab := Bx.c0 (HS.out.bx 2 rfl)
     have qbb := Bx.c1 (HS.out.bx 2 rfl)
     go_wp2_with (first | ((with_reducible refine gate_dst (N := 9) rfl ?_); (try (refine gate_guard (by rfl) ?_; dsimp only)); refine box_event ?hg (N := 9) ?hd (.slice none 0 0) (.slice none 0 0) ?hr ?_; (case hd => rfl); (case hg => rfl); (case hr => first | (go_simp; done) | (go_simp; rfl)); intro bq3 wa18 hx_ hs_ hb_; replace HS := Aside0.mk (HS.out.box hx_ hs_ hb_); clear hb_ hx_ hs_; clear qaa qba; clear qab qbb; have qaa := Bx.c0 (HS.out.bx 4 rfl); have qba := Bx.c1 (HS.out.bx 4 rfl); have qab := Bx.c0 (HS.out.bx 3 rfl); have qbb := Bx.c1 (HS.out.bx 3 rfl)) | (refine store_event (by rfl) (by rfl) (HS.out.bx 0 rfl : Bx _ bq3 _ _) (.slice Asn ol.length csn) (.slice Asd ol.length csd) ?hr ?_; (case hr => (have qaq3 := Bx.c0 (HS.out.bx 0 rfl); have qbq3 := Bx.c1 (HS.out.bx 0 rfl); have qc_ := Bx.f0 (HS.out.bx 0 rfl); have qd_ := Bx.f1 (HS.out.bx 0 rfl); first | (go_simp; done) | (go_simp; rfl))); intro wa19 he_ hx_; clear hx_; replace HS := Aside0.mk (HS.out.store 0 rfl (.slice Asn ol.length csn) (.slice Asd ol.length csd) rfl); generalize (wa18.setCell ⟨bq3, 0, none⟩ (.slice Asn ol.length csn)).setCell ⟨bq3, 1, none⟩ (.slice Asd ol.length csd) = wg_ at *; subst he_; clear qaa qba; clear qab qbb; have qaa := Bx.c0 (HS.out.bx 4 rfl); have qba := Bx.c1 (HS.out.bx 4 rfl); have qab := Bx.c0 (HS.out.bx 3 rfl); have qbb := Bx.c1 (HS.out.bx 3 rfl)))
     refine (ratMul_calls A0 c0 l0 A1 c1 l1 A2 c2 l2 A3 c3 l3 pn pd 0 wa19 (HS.out.c 9 rfl) (HS.out.h 9 rfl) (HS.out.c 8 rfl) (HS.out.h 8 rfl) (HS.out.c 7 rfl) (HS.out.h 7 rfl) (HS.out.c 6 rfl) (HS.out.h 6 rfl) hL.out.1 hL.out.2.1 hL.out.2.2.1 hL.out.2.2.2 hM.out).mono ?_
     rintro e wa20 ⟨Apn, cpn, Apd, cpd, rfl, hCpn_, hHpn_, hCpd_, hHpd_, hb_⟩
     replace HS := Aside0.mk (((HS.out.step hb_).row hCpn_ hHpn_).row hCpd_ hHpd_)
     clear hb_ hCpn_ hHpn_ hCpd_ hHpd_
     clear qaa qba qab qbb
     go_wp2_with (first | ((with_reducible refine gate_dst (N := 11) rfl ?_); (try (refine gate_guard (by rfl) ?_; dsimp only)); refine box_event ?hg (N := 11) ?hd (.slice none 0 0) (.slice none 0 0) ?hr ?_; (case hd => rfl); (case hg => rfl); (case hr => first | (go_simp; done) | (go_simp; rfl)); intro bq4 wa21 hx_ hs_ hb_; replace HS := Aside0.mk (HS.out.box hx_ hs_ hb_); clear hb_ hx_ hs_) | (refine store_event (by rfl) (by rfl) (HS.out.bx 0 rfl : Bx _ bq4 _ _) (.slice Apn pn.length cpn) (.slice Apd pd.length cpd) ?hr ?_; (case hr => (have qaq4 := Bx.c0 (HS.out.bx 0 rfl); have qbq4 := Bx.c1 (HS.out.bx 0 rfl); have qc_ := Bx.f0 (HS.out.bx 0 rfl); have qd_ := Bx.f1 (HS.out.bx 0 rfl); first | (go_simp; done) | (go_simp; rfl))); intro wa22 he_ hx_; clear hx_; replace HS := Aside0.mk (HS.out.store 0 rfl (.slice Apn pn.length cpn) (.slice Apd pd.length cpd) rfl); generalize (wa21.setCell ⟨bq4, 0, none⟩ (.slice Apn pn.length cpn)).setCell ⟨bq4, 1, none⟩ (.slice Apd pd.length cpd) = wg_ at *; subst he_))
     have hb_ : Below wa22.heap.size wa22 wa22.drew := below_drew1 (Below.refl _ _)
     have hSd_ : (fun w' : World => w'.cell? ⟨ba, 0, none⟩ = some (.slice A0 l0.length c0) ∧ w'.cell? ⟨ba, 1, none⟩ = some (.slice A1 l1.length c1) ∧ w'.cell? ⟨bb, 0, none⟩ = some (.slice A2 l2.length c2) ∧ w'.cell? ⟨bb, 1, none⟩ = some (.slice A3 l3.length c3) ∧ w'.cell? ⟨bq1, 0, none⟩ = some (.slice Acn cn.length ccn) ∧ w'.cell? ⟨bq1, 1, none⟩ = some (.slice Acd l1.length ccd) ∧ w'.cell? ⟨bq2, 0, none⟩ = some (.slice Adn l0.length cdn) ∧ w'.cell? ⟨bq2, 1, none⟩ = some (.slice Add l1.length cdd) ∧ w'.cell? ⟨bq3, 0, none⟩ = some (.slice Asn ol.length csn) ∧ w'.cell? ⟨bq3, 1, none⟩ = some (.slice Asd ol.length csd) ∧ w'.cell? ⟨bq4, 0, none⟩ = some (.slice Apn pn.length cpn) ∧ w'.cell? ⟨bq4, 1, none⟩ = some (.slice Apd pd.length cpd)) wa22.drew := ⟨(Bx.c0 (HS.out.bx 5 rfl)), (Bx.c1 (HS.out.bx 5 rfl)), (Bx.c0 (HS.out.bx 4 rfl)), (Bx.c1 (HS.out.bx 4 rfl)), (Bx.c0 (HS.out.bx 3 rfl)), (Bx.c1 (HS.out.bx 3 rfl)), (Bx.c0 (HS.out.bx 2 rfl)), (Bx.c1 (HS.out.bx 2 rfl)), (Bx.c0 (HS.out.bx 1 rfl)), (Bx.c1 (HS.out.bx 1 rfl)), (Bx.c0 (HS.out.bx 0 rfl)), (Bx.c1 (HS.out.bx 0 rfl))⟩
     refine start_ (n := 45) (S := fun w' => w'.cell? ⟨ba, 0, none⟩ = some (.slice A0 l0.length c0) ∧ w'.cell? ⟨ba, 1, none⟩ = some (.slice A1 l1.length c1) ∧ w'.cell? ⟨bb, 0, none⟩ = some (.slice A2 l2.length c2) ∧ w'.cell? ⟨bb, 1, none⟩ = some (.slice A3 l3.length c3) ∧ w'.cell? ⟨bq1, 0, none⟩ = some (.slice Acn cn.length ccn) ∧ w'.cell? ⟨bq1, 1, none⟩ = some (.slice Acd l1.length ccd) ∧ w'.cell? ⟨bq2, 0, none⟩ = some (.slice Adn l0.length cdn) ∧ w'.cell? ⟨bq2, 1, none⟩ = some (.slice Add l1.length cdd) ∧ w'.cell? ⟨bq3, 0, none⟩ = some (.slice Asn ol.length csn) ∧ w'.cell? ⟨bq3, 1, none⟩ = some (.slice Asd ol.length csd) ∧ w'.cell? ⟨bq4, 0, none⟩ = some (.slice Apn pn.length cpn) ∧ w'.cell? ⟨bq4, 1, none⟩ = some (.slice Apd pd.length cpd)) (ds := []) #[false, false, false, false, false, false, false, false, false, false, false, false, false, false, false, false, false, false, false, false, false, false, false, false, false, false, false, false, false, false, false, false, false, false, false, false, false, false, false, false, false, false, false, false, false] (by kernel_rfl) rfl rfl hSd_ (fun hHeld => ?_)
     clear hSd_
     replace HS := Aside0.mk (HS.out.step hb_)
     clear hb_
     generalize wa22.drew = wa23 at *
     refine pure_ (i := 0) (N := some 55) (v := ?_) (a' := ?_) #[true, false, false, false, false, false, false, false, false, false, false, false, false, false, false, false, false, false, false, false, false, false, false, false, false, false, false, false, false, false, false, false, false, false, false, false, false, false, false, false, false, false, false, false, false] rfl rfl (by kernel_rfl) (fun _ _ _ h => h) (Or.inl ⟨by rfl, ?_⟩) ?_ ?_
     rotate_left
     ·intro w'
      go_simp
      with_reducible rfl
     rotate_left
     ·simp only [Act.put, List.setIfInBounds_toArray, List.set_cons_zero, List.set_cons_succ, i64_w, i32_w]
      rfl
     refine pure_ (i := 1) (N := some 56) (v := ?_) (a' := ?_) #[true, true, false, false, false, false, false, false, false, false, false, false, false, false, false, false, false, false, false, false, false, false, false, false, false, false, false, false, false, false, false, false, false, false, false, false, false, false, false, false, false, false, false, false, false] rfl rfl (by kernel_rfl) (fun _ _ _ h => h) (Or.inl ⟨by rfl, ?_⟩) ?_ ?_
     rotate_left
     ·intro w'
      go_simp
      with_reducible rfl
     rotate_left
     ·simp only [Act.put, List.setIfInBounds_toArray, List.set_cons_zero, List.set_cons_succ, i64_w, i32_w]
      rfl
     refine pure_ (i := 2) (N := some 57) (v := ?_) (a' := ?_) #[true, true, true, false, false, false, false, false, false, false, false, false, false, false, false, false, false, false, false, false, false, false, false, false, false, false, false, false, false, false, false, false, false, false, false, false, false, false, false, false, false, false, false, false, false] rfl rfl (by kernel_rfl) (fun _ _ _ h => h) (Or.inl ⟨by rfl, ?_⟩) ?_ ?_
     rotate_left
     ·intro w'
      go_simp
      with_reducible rfl
     rotate_left
     ·simp only [Act.put, List.setIfInBounds_toArray, List.set_cons_zero, List.set_cons_succ, i64_w, i32_w]
      rfl
     refine pure_ (i := 3) (N := some 58) (v := ?_) (a' := ?_) #[true, true, true, true, false, false, false, false, false, false, false, false, false, false, false, false, false, false, false, false, false, false, false, false, false, false, false, false, false, false, false, false, false, false, false, false, false, false, false, false, false, false, false, false, false] rfl rfl (by kernel_rfl) (fun _ _ _ h => h) (Or.inl ⟨by rfl, ?_⟩) ?_ ?_
     rotate_left
     ·intro w'
      go_simp
      with_reducible rfl
     rotate_left
     ·simp only [Act.put, List.setIfInBounds_toArray, List.set_cons_zero, List.set_cons_succ, i64_w, i32_w]
      rfl
     refine pure_ (i := 4) (N := some 59) (v := ?_) (a' := ?_) #[true, true, true, true, true, false, false, false, false, false, false, false, false, false, false, false, false, false, false, false, false, false, false, false, false, false, false, false, false, false, false, false, false, false, false, false, false, false, false, false, false, false, false, false, false] rfl rfl (by kernel_rfl) (fun _ _ _ h => h) (Or.inl ⟨by rfl, ?_⟩) ?_ ?_
     rotate_left
     ·intro w'
      go_simp
      with_reducible rfl
     rotate_left
     ·simp only [Act.put, List.setIfInBounds_toArray, List.set_cons_zero, List.set_cons_succ, i64_w, i32_w]
      rfl
     refine pure_ (i := 5) (N := some 60) (v := ?_) (a' := ?_) #[true, true, true, true, true, true, false, false, false, false, false, false, false, false, false, false, false, false, false, false, false, false, false, false, false, false, false, false, false, false, false, false, false, false, false, false, false, false, false, false, false, false, false, false, false] rfl rfl (by kernel_rfl) (fun _ _ _ h => h) (Or.inl ⟨by rfl, ?_⟩) ?_ ?_
     rotate_left
     ·intro w'
      go_simp
      with_reducible rfl
     rotate_left
     ·simp only [Act.put, List.setIfInBounds_toArray, List.set_cons_zero, List.set_cons_succ, i64_w, i32_w]
      rfl
     refine pure_ (i := 6) (N := some 61) (v := ?_) (a' := ?_) #[true, true, true, true, true, true, true, false, false, false, false, false, false, false, false, false, false, false, false, false, false, false, false, false, false, false, false, false, false, false, false, false, false, false, false, false, false, false, false, false, false, false, false, false, false] rfl rfl (by kernel_rfl) (fun _ _ _ h => h) (Or.inl ⟨by rfl, ?_⟩) ?_ ?_
     rotate_left
     ·intro w'
      go_simp
      with_reducible rfl
     rotate_left
     ·simp only [Act.put, List.setIfInBounds_toArray, List.set_cons_zero, List.set_cons_succ, i64_w, i32_w]
      rfl
     refine pure_ (i := 7) (N := some 62) (v := ?_) (a' := ?_) #[true, true, true, true, true, true, true, true, false, false, false, false, false, false, false, false, false, false, false, false, false, false, false, false, false, false, false, false, false, false, false, false, false, false, false, false, false, false, false, false, false, false, false, false, false] rfl rfl (by kernel_rfl) (fun _ _ _ h => h) (Or.inl ⟨by rfl, ?_⟩) ?_ ?_
     rotate_left
     ·intro w'
      go_simp
      with_reducible rfl
     rotate_left
     ·simp only [Act.put, List.setIfInBounds_toArray, List.set_cons_zero, List.set_cons_succ, i64_w, i32_w]
      rfl
     refine pure_ (i := 8) (N := some 63) (v := ?_) (a' := ?_) #[true, true, true, true, true, true, true, true, true, false, false, false, false, false, false, false, false, false, false, false, false, false, false, false, false, false, false, false, false, false, false, false, false, false, false, false, false, false, false, false, false, false, false, false, false] rfl rfl (by kernel_rfl) (fun _ _ _ h => h) (Or.inl ⟨by rfl, ?_⟩) ?_ ?_
     rotate_left
     ·intro w'
      go_simp
      with_reducible rfl
     rotate_left
     ·simp only [Act.put, List.setIfInBounds_toArray, List.set_cons_zero, List.set_cons_succ, i64_w, i32_w]
      rfl
     refine pure_ (i := 9) (N := some 64) (v := ?_) (a' := ?_) #[true, true, true, true, true, true, true, true, true, true, false, false, false, false, false, false, false, false, false, false, false, false, false, false, false, false, false, false, false, false, false, false, false, false, false, false, false, false, false, false, false, false, false, false, false] rfl rfl (by kernel_rfl) (fun _ _ _ h => h) (Or.inl ⟨by rfl, ?_⟩) ?_ ?_
     rotate_left
     ·intro w'
      go_simp
      with_reducible rfl
     rotate_left
     ·simp only [Act.put, List.setIfInBounds_toArray, List.set_cons_zero, List.set_cons_succ, i64_w, i32_w]
      rfl
     refine pure_ (i := 10) (N := some 65) (v := ?_) (a' := ?_) #[true, true, true, true, true, true, true, true, true, true, true, false, false, false, false, false, false, false, false, false, false, false, false, false, false, false, false, false, false, false, false, false, false, false, false, false, false, false, false, false, false, false, false, false, false] rfl rfl (by kernel_rfl) (fun _ _ _ h => h) (Or.inl ⟨by rfl, ?_⟩) ?_ ?_
     rotate_left
     ·intro w'
      go_simp
      with_reducible rfl
     rotate_left
     ·simp only [Act.put, List.setIfInBounds_toArray, List.set_cons_zero, List.set_cons_succ, i64_w, i32_w]
      rfl
     refine pure_ (i := 11) (N := some 66) (v := ?_) (a' := ?_) #[true, true, true, true, true, true, true, true, true, true, true, true, false, false, false, false, false, false, false, false, false, false, false, false, false, false, false, false, false, false, false, false, false, false, false, false, false, false, false, false, false, false, false, false, false] rfl rfl (by kernel_rfl) (fun _ _ _ h => h) (Or.inl ⟨by rfl, ?_⟩) ?_ ?_
     rotate_left
     ·intro w'
      go_simp
      with_reducible rfl
     rotate_left
     ·simp only [Act.put, List.setIfInBounds_toArray, List.set_cons_zero, List.set_cons_succ, i64_w, i32_w]
      rfl
     refine pure_ (i := 12) (N := some 67) (v := ?_) (a' := ?_) #[true, true, true, true, true, true, true, true, true, true, true, true, true, false, false, false, false, false, false, false, false, false, false, false, false, false, false, false, false, false, false, false, false, false, false, false, false, false, false, false, false, false, false, false, false] rfl rfl (by kernel_rfl) (fun _ _ _ h => h) (Or.inl ⟨by rfl, ?_⟩) ?_ ?_
     rotate_left
     ·intro w'
      go_simp
      with_reducible rfl
     rotate_left
     ·simp only [Act.put, List.setIfInBounds_toArray, List.set_cons_zero, List.set_cons_succ, i64_w, i32_w]
      rfl
     refine pure_ (i := 13) (N := some 68) (v := ?_) (a' := ?_) #[true, true, true, true, true, true, true, true, true, true, true, true, true, true, false, false, false, false, false, false, false, false, false, false, false, false, false, false, false, false, false, false, false, false, false, false, false, false, false, false, false, false, false, false, false] rfl rfl (by kernel_rfl) (fun _ _ _ h => h) (Or.inl ⟨by rfl, ?_⟩) ?_ ?_
     rotate_left
     ·intro w'
      go_simp
      with_reducible rfl
     rotate_left
     ·simp only [Act.put, List.setIfInBounds_toArray, List.set_cons_zero, List.set_cons_succ, i64_w, i32_w]
      rfl
     refine pure_ (i := 14) (N := some 69) (v := ?_) (a' := ?_) #[true, true, true, true, true, true, true, true, true, true, true, true, true, true, true, false, false, false, false, false, false, false, false, false, false, false, false, false, false, false, false, false, false, false, false, false, false, false, false, false, false, false, false, false, false] rfl rfl (by kernel_rfl) (fun _ _ _ h => h) (Or.inl ⟨by rfl, ?_⟩) ?_ ?_
     rotate_left
     ·intro w'
      go_simp
      with_reducible rfl
     rotate_left
     ·simp only [Act.put, List.setIfInBounds_toArray, List.set_cons_zero, List.set_cons_succ, i64_w, i32_w]
      rfl
     refine take_ (i := 15) (N := some 70) (v := ?_) (a' := ?_) #[true, true, true, true, true, true, true, true, true, true, true, true, true, true, true, true, false, false, false, false, false, false, false, false, false, false, false, false, false, false, false, false, false, false, false, false, false, false, false, false, false, false, false, false, false] rfl rfl (by kernel_rfl) (fun _ _ _ h => h) (Or.inl ⟨by rfl, ?_⟩) hHeld ?_ ?_
     rotate_left
     ·rintro w' ⟨s0, s1, s2, s3, s4, s5, s6, s7, s8, s9, s10, s11⟩
      go_simp
      with_reducible rfl
     rotate_left
     ·simp only [Act.put, List.setIfInBounds_toArray, List.set_cons_zero, List.set_cons_succ, i64_w, i32_w]
      rfl
     refine one_ (i := 16) (N := some 71) #[true, true, true, true, true, true, true, true, true, true, true, true, true, true, true, true, true, false, false, false, false, false, false, false, false, false, false, false, false, false, false, false, false, false, false, false, false, false, false, false, false, false, false, false, false] rfl rfl (by kernel_rfl) (by decide) (fun K hK => ?_)
     refine goes_ Tryd.func66 (by kernel_rfl) rfl #[.agg #[.slice Acn cn.length ccn, .slice Acd l1.length ccd]] (by rfl) rfl rfl (by (try simp only [List.map_toArray, List.map_cons, List.map_nil]); first | done | rfl) ?_
     refine (isProb_calls Acn ccn cn Acd ccd l1 true wa23 (HS.out.c 7 rfl) (HS.out.h 7 rfl) (HS.out.c 6 rfl) (HS.out.h 6 rfl) hCL.out hL.out.2.1 hPc.out).mono ?_
     rintro e wa24 ⟨rfl, hb_⟩
     replace HS := Aside0.mk (HS.out.step hb_)
     clear hb_
     refine ⟨_, rfl, ?_⟩
     clear hHeld
     refine hK.out _ _ ⟨(Bx.c0 (HS.out.bx 5 rfl)), (Bx.c1 (HS.out.bx 5 rfl)), (Bx.c0 (HS.out.bx 4 rfl)), (Bx.c1 (HS.out.bx 4 rfl)), (Bx.c0 (HS.out.bx 3 rfl)), (Bx.c1 (HS.out.bx 3 rfl)), (Bx.c0 (HS.out.bx 2 rfl)), (Bx.c1 (HS.out.bx 2 rfl)), (Bx.c0 (HS.out.bx 1 rfl)), (Bx.c1 (HS.out.bx 1 rfl)), (Bx.c0 (HS.out.bx 0 rfl)), (Bx.c1 (HS.out.bx 0 rfl))⟩ (fun hHeld => ?_)
     clear hK K
     refine norm_ (a' := ?_) ?_ ?_
     rotate_left
     ·show Act.put _ (some 71) _ = _
      simp only [Act.put, List.setIfInBounds_toArray, List.set_cons_zero, List.set_cons_succ, i64_w, i32_w]
      rfl
     refine pure_ (i := 17) (N := some 72) (v := ?_) (a' := ?_) #[true, true, true, true, true, true, true, true, true, true, true, true, true, true, true, true, true, true, false, false, false, false, false, false, false, false, false, false, false, false, false, false, false, false, false, false, false, false, false, false, false, false, false, false, false] rfl rfl (by kernel_rfl) (fun _ _ _ h => h) (Or.inl ⟨by rfl, ?_⟩) ?_ ?_
     rotate_left
     ·intro w'
      go_simp
      with_reducible rfl
     rotate_left
     ·simp only [Act.put, List.setIfInBounds_toArray, List.set_cons_zero, List.set_cons_succ, i64_w, i32_w]
      rfl
     refine pure_ (i := 18) (N := some 73) (v := ?_) (a' := ?_) #[true, true, true, true, true, true, true, true, true, true, true, true, true, true, true, true, true, true, true, false, false, false, false, false, false, false, false, false, false, false, false, false, false, false, false, false, false, false, false, false, false, false, false, false, false] rfl rfl (by kernel_rfl) (fun _ _ _ h => h) (Or.inl ⟨by rfl, ?_⟩) ?_ ?_
     rotate_left
     ·intro w'
      go_simp
      with_reducible rfl
     rotate_left
     ·simp only [Act.put, List.setIfInBounds_toArray, List.set_cons_zero, List.set_cons_succ, i64_w, i32_w]
      rfl
     refine take_ (i := 19) (N := some 74) (v := ?_) (a' := ?_) #[true, true, true, true, true, true, true, true, true, true, true, true, true, true, true, true, true, true, true, true, false, false, false, false, false, false, false, false, false, false, false, false, false, false, false, false, false, false, false, false, false, false, false, false, false] rfl rfl (by kernel_rfl) (fun _ _ _ h => h) (Or.inl ⟨by rfl, ?_⟩) hHeld ?_ ?_
     rotate_left
     ·rintro w' ⟨s0, s1, s2, s3, s4, s5, s6, s7, s8, s9, s10, s11⟩
      go_simp
      with_reducible rfl
     rotate_left
     ·simp only [Act.put, List.setIfInBounds_toArray, List.set_cons_zero, List.set_cons_succ, i64_w, i32_w]
      rfl
     refine take_ (i := 20) (N := some 75) (v := ?_) (a' := ?_) #[true, true, true, true, true, true, true, true, true, true, true, true, true, true, true, true, true, true, true, true, true, false, false, false, false, false, false, false, false, false, false, false, false, false, false, false, false, false, false, false, false, false, false, false, false] rfl rfl (by kernel_rfl) (fun _ _ _ h => h) (Or.inl ⟨by rfl, ?_⟩) hHeld ?_ ?_
     rotate_left
     ·rintro w' ⟨s0, s1, s2, s3, s4, s5, s6, s7, s8, s9, s10, s11⟩
      go_simp
      with_reducible rfl
     rotate_left
     ·simp only [Act.put, List.setIfInBounds_toArray, List.set_cons_zero, List.set_cons_succ, i64_w, i32_w]
      rfl
     refine one_ (i := 21) (N := some 76) #[true, true, true, true, true, true, true, true, true, true, true, true, true, true, true, true, true, true, true, true, true, true, false, false, false, false, false, false, false, false, false, false, false, false, false, false, false, false, false, false, false, false, false, false, false] rfl rfl (by kernel_rfl) (by decide) (fun K hK => ?_)
     refine goes_ Tryd.func49 (by kernel_rfl) rfl #[.agg #[.slice Adn l0.length cdn, .slice Add l1.length cdd], .agg #[.slice A0 l0.length c0, .slice A1 l1.length c1]] (by rfl) rfl rfl (by (try simp only [List.map_toArray, List.map_cons, List.map_nil]); first | done | rfl) ?_
     refine (Same_calls Adn cdn l0 Add cdd l1 A0 c0 l0 A1 c1 l1 true wa24 (HS.out.c 5 rfl) (HS.out.h 5 rfl) (HS.out.c 4 rfl) (HS.out.h 4 rfl) (HS.out.c 11 rfl) (HS.out.h 11 rfl) (HS.out.c 10 rfl) (HS.out.h 10 rfl) (Nat.le_trans hz.out.1 (by decide)) (Nat.le_trans hz.out.2 (by decide)) (by simp)).mono ?_
     rintro e wa25 ⟨rfl, hb_⟩
     replace HS := Aside0.mk (HS.out.step hb_)
     clear hb_
     refine ⟨_, rfl, ?_⟩
     clear hHeld
     refine hK.out _ _ ⟨(Bx.c0 (HS.out.bx 5 rfl)), (Bx.c1 (HS.out.bx 5 rfl)), (Bx.c0 (HS.out.bx 4 rfl)), (Bx.c1 (HS.out.bx 4 rfl)), (Bx.c0 (HS.out.bx 3 rfl)), (Bx.c1 (HS.out.bx 3 rfl)), (Bx.c0 (HS.out.bx 2 rfl)), (Bx.c1 (HS.out.bx 2 rfl)), (Bx.c0 (HS.out.bx 1 rfl)), (Bx.c1 (HS.out.bx 1 rfl)), (Bx.c0 (HS.out.bx 0 rfl)), (Bx.c1 (HS.out.bx 0 rfl))⟩ (fun hHeld => ?_)
     clear hK K
     refine norm_ (a' := ?_) ?_ ?_
     rotate_left
     ·show Act.put _ (some 76) _ = _
      simp only [Act.put, List.setIfInBounds_toArray, List.set_cons_zero, List.set_cons_succ, i64_w, i32_w]
      rfl
     refine pure_ (i := 22) (N := some 77) (v := ?_) (a' := ?_) #[true, true, true, true, true, true, true, true, true, true, true, true, true, true, true, true, true, true, true, true, true, true, true, false, false, false, false, false, false, false, false, false, false, false, false, false, false, false, false, false, false, false, false, false, false] rfl rfl (by kernel_rfl) (fun _ _ _ h => h) (Or.inl ⟨by rfl, ?_⟩) ?_ ?_
     rotate_left
     ·intro w'
      go_simp
      with_reducible rfl
     rotate_left
     ·simp only [Act.put, List.setIfInBounds_toArray, List.set_cons_zero, List.set_cons_succ, i64_w, i32_w]
      rfl
     refine pure_ (i := 23) (N := some 78) (v := ?_) (a' := ?_) #[true, true, true, true, true, true, true, true, true, true, true, true, true, true, true, true, true, true, true, true, true, true, true, true, false, false, false, false, false, false, false, false, false, false, false, false, false, false, false, false, false, false, false, false, false] rfl rfl (by kernel_rfl) (fun _ _ _ h => h) (Or.inl ⟨by rfl, ?_⟩) ?_ ?_
     rotate_left
     ·intro w'
      go_simp
      with_reducible rfl
     rotate_left
     ·simp only [Act.put, List.setIfInBounds_toArray, List.set_cons_zero, List.set_cons_succ, i64_w, i32_w]
      rfl
     refine take_ (i := 24) (N := some 79) (v := ?_) (a' := ?_) #[true, true, true, true, true, true, true, true, true, true, true, true, true, true, true, true, true, true, true, true, true, true, true, true, true, false, false, false, false, false, false, false, false, false, false, false, false, false, false, false, false, false, false, false, false] rfl rfl (by kernel_rfl) (fun _ _ _ h => h) (Or.inl ⟨by rfl, ?_⟩) hHeld ?_ ?_
     rotate_left
     ·rintro w' ⟨s0, s1, s2, s3, s4, s5, s6, s7, s8, s9, s10, s11⟩
      go_simp
      with_reducible rfl
     rotate_left
     ·simp only [Act.put, List.setIfInBounds_toArray, List.set_cons_zero, List.set_cons_succ, i64_w, i32_w]
      rfl
     refine one_ (i := 25) (N := some 80) #[true, true, true, true, true, true, true, true, true, true, true, true, true, true, true, true, true, true, true, true, true, true, true, true, true, true, false, false, false, false, false, false, false, false, false, false, false, false, false, false, false, false, false, false, false] rfl rfl (by kernel_rfl) (by decide) (fun K hK => ?_)
     refine goes_ Tryd.func60 (by kernel_rfl) rfl #[] (by rfl) rfl rfl (by (try simp only [List.map_toArray, List.map_cons, List.map_nil]); first | done | rfl) ?_
     refine (refOne_calls wa25).mono ?_
     rintro e wa26 ⟨Aon, con, Aod, cod, rfl, hCon_, hHon_, hCod_, hHod_, hb_⟩
     replace HS := Aside0.mk (((HS.out.step hb_).row hCon_ hHon_).row hCod_ hHod_)
     clear hb_ hCon_ hHon_ hCod_ hHod_
     refine ⟨_, rfl, ?_⟩
     clear hHeld
     refine hK.out _ _ ⟨(Bx.c0 (HS.out.bx 5 rfl)), (Bx.c1 (HS.out.bx 5 rfl)), (Bx.c0 (HS.out.bx 4 rfl)), (Bx.c1 (HS.out.bx 4 rfl)), (Bx.c0 (HS.out.bx 3 rfl)), (Bx.c1 (HS.out.bx 3 rfl)), (Bx.c0 (HS.out.bx 2 rfl)), (Bx.c1 (HS.out.bx 2 rfl)), (Bx.c0 (HS.out.bx 1 rfl)), (Bx.c1 (HS.out.bx 1 rfl)), (Bx.c0 (HS.out.bx 0 rfl)), (Bx.c1 (HS.out.bx 0 rfl))⟩ (fun hHeld => ?_)
     clear hK K
     refine norm_ (a' := ?_) ?_ ?_
     rotate_left
     ·show Act.put _ (some 80) _ = _
      simp only [Act.put, List.setIfInBounds_toArray, List.set_cons_zero, List.set_cons_succ, i64_w, i32_w]
      rfl
     refine one_ (i := 26) (N := some 81) #[true, true, true, true, true, true, true, true, true, true, true, true, true, true, true, true, true, true, true, true, true, true, true, true, true, true, true, false, false, false, false, false, false, false, false, false, false, false, false, false, false, false, false, false, false] rfl rfl (by kernel_rfl) (by decide) (fun K hK => ?_)
     refine goes_ Tryd.func49 (by kernel_rfl) rfl #[.agg #[.slice Asn ol.length csn, .slice Asd ol.length csd], .agg #[.slice Aon 1 con, .slice Aod 1 cod]] (by rfl) rfl rfl (by (try simp only [List.map_toArray, List.map_cons, List.map_nil]); first | done | rfl) ?_
     refine (Same_calls Asn csn ol Asd csd ol Aon con ([1] : List Int) Aod cod ([1] : List Int) true wa26 (HS.out.c 5 rfl) (HS.out.h 5 rfl) (HS.out.c 4 rfl) (HS.out.h 4 rfl) (HS.out.c 1 rfl) (HS.out.h 1 rfl) (HS.out.c 0 rfl) (HS.out.h 0 rfl) (by rw [hO.out]; decide) (by rw [hO.out]; decide) (by rw [hO.out]; rfl)).mono ?_
     rintro e wa27 ⟨rfl, hb_⟩
     replace HS := Aside0.mk (HS.out.step hb_)
     clear hb_
     refine ⟨_, rfl, ?_⟩
     clear hHeld
     refine hK.out _ _ ⟨(Bx.c0 (HS.out.bx 5 rfl)), (Bx.c1 (HS.out.bx 5 rfl)), (Bx.c0 (HS.out.bx 4 rfl)), (Bx.c1 (HS.out.bx 4 rfl)), (Bx.c0 (HS.out.bx 3 rfl)), (Bx.c1 (HS.out.bx 3 rfl)), (Bx.c0 (HS.out.bx 2 rfl)), (Bx.c1 (HS.out.bx 2 rfl)), (Bx.c0 (HS.out.bx 1 rfl)), (Bx.c1 (HS.out.bx 1 rfl)), (Bx.c0 (HS.out.bx 0 rfl)), (Bx.c1 (HS.out.bx 0 rfl))⟩ (fun hHeld => ?_)
     clear hK K
     refine norm_ (a' := ?_) ?_ ?_
     rotate_left
     ·show Act.put _ (some 81) _ = _
      simp only [Act.put, List.setIfInBounds_toArray, List.set_cons_zero, List.set_cons_succ, i64_w, i32_w]
      rfl
     refine pure_ (i := 27) (N := some 82) (v := ?_) (a' := ?_) #[true, true, true, true, true, true, true, true, true, true, true, true, true, true, true, true, true, true, true, true, true, true, true, true, true, true, true, true, false, false, false, false, false, false, false, false, false, false, false, false, false, false, false, false, false] rfl rfl (by kernel_rfl) (fun _ _ _ h => h) (Or.inl ⟨by rfl, ?_⟩) ?_ ?_
     rotate_left
     ·intro w'
      go_simp
      with_reducible rfl
     rotate_left
     ·simp only [Act.put, List.setIfInBounds_toArray, List.set_cons_zero, List.set_cons_succ, i64_w, i32_w]
      rfl
     refine pure_ (i := 28) (N := some 83) (v := ?_) (a' := ?_) #[true, true, true, true, true, true, true, true, true, true, true, true, true, true, true, true, true, true, true, true, true, true, true, true, true, true, true, true, true, false, false, false, false, false, false, false, false, false, false, false, false, false, false, false, false] rfl rfl (by kernel_rfl) (fun _ _ _ h => h) (Or.inl ⟨by rfl, ?_⟩) ?_ ?_
     rotate_left
     ·intro w'
      go_simp
      with_reducible rfl
     rotate_left
     ·simp only [Act.put, List.setIfInBounds_toArray, List.set_cons_zero, List.set_cons_succ, i64_w, i32_w]
      rfl
     refine take_ (i := 29) (N := some 84) (v := ?_) (a' := ?_) #[true, true, true, true, true, true, true, true, true, true, true, true, true, true, true, true, true, true, true, true, true, true, true, true, true, true, true, true, true, true, false, false, false, false, false, false, false, false, false, false, false, false, false, false, false] rfl rfl (by kernel_rfl) (fun _ _ _ h => h) (Or.inl ⟨by rfl, ?_⟩) hHeld ?_ ?_
     rotate_left
     ·rintro w' ⟨s0, s1, s2, s3, s4, s5, s6, s7, s8, s9, s10, s11⟩
      go_simp
      with_reducible rfl
     rotate_left
     ·simp only [Act.put, List.setIfInBounds_toArray, List.set_cons_zero, List.set_cons_succ, i64_w, i32_w]
      rfl
     refine one_ (i := 30) (N := some 85) #[true, true, true, true, true, true, true, true, true, true, true, true, true, true, true, true, true, true, true, true, true, true, true, true, true, true, true, true, true, true, true, false, false, false, false, false, false, false, false, false, false, false, false, false, false] rfl rfl (by kernel_rfl) (by decide) (fun K hK => ?_)
     refine goes_ Tryd.func66 (by kernel_rfl) rfl #[.agg #[.slice Apn pn.length cpn, .slice Apd pd.length cpd]] (by rfl) rfl rfl (by (try simp only [List.map_toArray, List.map_cons, List.map_nil]); first | done | rfl) ?_
     refine (isProb_calls Apn cpn pn Apd cpd pd true wa27 (HS.out.c 3 rfl) (HS.out.h 3 rfl) (HS.out.c 2 rfl) (HS.out.h 2 rfl) hPL.out.1 hPL.out.2 hPp.out).mono ?_
     rintro e wa28 ⟨rfl, hb_⟩
     replace HS := Aside0.mk (HS.out.step hb_)
     clear hb_
     refine ⟨_, rfl, ?_⟩
     clear hHeld
     refine hK.out _ _ ⟨(Bx.c0 (HS.out.bx 5 rfl)), (Bx.c1 (HS.out.bx 5 rfl)), (Bx.c0 (HS.out.bx 4 rfl)), (Bx.c1 (HS.out.bx 4 rfl)), (Bx.c0 (HS.out.bx 3 rfl)), (Bx.c1 (HS.out.bx 3 rfl)), (Bx.c0 (HS.out.bx 2 rfl)), (Bx.c1 (HS.out.bx 2 rfl)), (Bx.c0 (HS.out.bx 1 rfl)), (Bx.c1 (HS.out.bx 1 rfl)), (Bx.c0 (HS.out.bx 0 rfl)), (Bx.c1 (HS.out.bx 0 rfl))⟩ (fun hHeld => ?_)
     clear hK K
     refine norm_ (a' := ?_) ?_ ?_
     rotate_left
     ·show Act.put _ (some 85) _ = _
      simp only [Act.put, List.setIfInBounds_toArray, List.set_cons_zero, List.set_cons_succ, i64_w, i32_w]
      rfl
     refine pure_ (i := 31) (N := some 86) (v := ?_) (a' := ?_) #[true, true, true, true, true, true, true, true, true, true, true, true, true, true, true, true, true, true, true, true, true, true, true, true, true, true, true, true, true, true, true, true, false, false, false, false, false, false, false, false, false, false, false, false, false] rfl rfl (by kernel_rfl) (fun _ _ _ h => h) (Or.inl ⟨by rfl, ?_⟩) ?_ ?_
     rotate_left
     ·intro w'
      go_simp
      with_reducible rfl
     rotate_left
     ·simp only [Act.put, List.setIfInBounds_toArray, List.set_cons_zero, List.set_cons_succ, i64_w, i32_w]
      rfl
     refine pure_ (i := 32) (N := some 87) (v := ?_) (a' := ?_) #[true, true, true, true, true, true, true, true, true, true, true, true, true, true, true, true, true, true, true, true, true, true, true, true, true, true, true, true, true, true, true, true, true, false, false, false, false, false, false, false, false, false, false, false, false] rfl rfl (by kernel_rfl) (fun _ _ _ h => h) (Or.inl ⟨by rfl, ?_⟩) ?_ ?_
     rotate_left
     ·intro w'
      go_simp
      with_reducible rfl
     rotate_left
     ·simp only [Act.put, List.setIfInBounds_toArray, List.set_cons_zero, List.set_cons_succ, i64_w, i32_w]
      rfl
     refine take_ (i := 33) (N := some 88) (v := ?_) (a' := ?_) #[true, true, true, true, true, true, true, true, true, true, true, true, true, true, true, true, true, true, true, true, true, true, true, true, true, true, true, true, true, true, true, true, true, true, false, false, false, false, false, false, false, false, false, false, false] rfl rfl (by kernel_rfl) (fun _ _ _ h => h) (Or.inl ⟨by rfl, ?_⟩) hHeld ?_ ?_
     rotate_left
     ·rintro w' ⟨s0, s1, s2, s3, s4, s5, s6, s7, s8, s9, s10, s11⟩
      go_simp
      with_reducible rfl
     rotate_left
     ·simp only [Act.put, List.setIfInBounds_toArray, List.set_cons_zero, List.set_cons_succ, i64_w, i32_w]
      rfl
     refine take_ (i := 34) (N := some 89) (v := ?_) (a' := ?_) #[true, true, true, true, true, true, true, true, true, true, true, true, true, true, true, true, true, true, true, true, true, true, true, true, true, true, true, true, true, true, true, true, true, true, true, false, false, false, false, false, false, false, false, false, false] rfl rfl (by kernel_rfl) (fun _ _ _ h => h) (Or.inl ⟨by rfl, ?_⟩) hHeld ?_ ?_
     rotate_left
     ·rintro w' ⟨s0, s1, s2, s3, s4, s5, s6, s7, s8, s9, s10, s11⟩
      go_simp
      with_reducible rfl
     rotate_left
     ·simp only [Act.put, List.setIfInBounds_toArray, List.set_cons_zero, List.set_cons_succ, i64_w, i32_w]
      rfl
     refine one_ (i := 35) (N := some 90) #[true, true, true, true, true, true, true, true, true, true, true, true, true, true, true, true, true, true, true, true, true, true, true, true, true, true, true, true, true, true, true, true, true, true, true, true, false, false, false, false, false, false, false, false, false] rfl rfl (by kernel_rfl) (by decide) (fun K hK => ?_)
     refine goes_ Tryd.func44 (by kernel_rfl) rfl #[.agg #[.slice Apn pn.length cpn, .slice Apd pd.length cpd], .agg #[.slice A0 l0.length c0, .slice A1 l1.length c1]] (by rfl) rfl rfl (by (try simp only [List.map_toArray, List.map_cons, List.map_nil]); first | done | rfl) ?_
     refine (ratCompare_calls Apn cpn pn Apd cpd pd A0 c0 l0 A1 c1 l1 cm1 wa28 (HS.out.c 3 rfl) (HS.out.h 3 rfl) (HS.out.c 2 rfl) (HS.out.h 2 rfl) (HS.out.c 13 rfl) (HS.out.h 13 rfl) (HS.out.c 12 rfl) (HS.out.h 12 rfl) hPL.out.1 hPL.out.2 hL.out.1 hL.out.2.1 hK1.out).mono ?_
     rintro e wa29 ⟨rfl, hb_⟩
     replace HS := Aside0.mk (HS.out.step hb_)
     clear hb_
     refine ⟨_, rfl, ?_⟩
     clear hHeld
     refine hK.out _ _ ⟨(Bx.c0 (HS.out.bx 5 rfl)), (Bx.c1 (HS.out.bx 5 rfl)), (Bx.c0 (HS.out.bx 4 rfl)), (Bx.c1 (HS.out.bx 4 rfl)), (Bx.c0 (HS.out.bx 3 rfl)), (Bx.c1 (HS.out.bx 3 rfl)), (Bx.c0 (HS.out.bx 2 rfl)), (Bx.c1 (HS.out.bx 2 rfl)), (Bx.c0 (HS.out.bx 1 rfl)), (Bx.c1 (HS.out.bx 1 rfl)), (Bx.c0 (HS.out.bx 0 rfl)), (Bx.c1 (HS.out.bx 0 rfl))⟩ (fun hHeld => ?_)
     clear hK K
     refine norm_ (a' := ?_) ?_ ?_
     rotate_left
     ·show Act.put _ (some 90) _ = _
      simp only [Act.put, List.setIfInBounds_toArray, List.set_cons_zero, List.set_cons_succ, i64_w, i32_w]
      rfl
     refine pure_ (i := 36) (N := some 91) (v := ?_) (a' := ?_) #[true, true, true, true, true, true, true, true, true, true, true, true, true, true, true, true, true, true, true, true, true, true, true, true, true, true, true, true, true, true, true, true, true, true, true, true, true, false, false, false, false, false, false, false, false] rfl rfl (by kernel_rfl) (fun _ _ _ h => h) (Or.inl ⟨by rfl, ?_⟩) ?_ ?_
     rotate_left
     ·intro w'
      go_simp
      with_reducible rfl
     rotate_left
     ·simp only [Act.put, List.setIfInBounds_toArray, List.set_cons_zero, List.set_cons_succ, i64_w, i32_w]
      rfl
     refine pure_ (i := 37) (N := some 92) (v := ?_) (a' := ?_) #[true, true, true, true, true, true, true, true, true, true, true, true, true, true, true, true, true, true, true, true, true, true, true, true, true, true, true, true, true, true, true, true, true, true, true, true, true, true, false, false, false, false, false, false, false] rfl rfl (by kernel_rfl) (fun _ _ _ h => h) (Or.inl ⟨by rfl, ?_⟩) ?_ ?_
     rotate_left
     ·intro w'
      go_simp
      with_reducible rfl
     rotate_left
     ·simp only [Act.put, List.setIfInBounds_toArray, List.set_cons_zero, List.set_cons_succ, i64_w, i32_w]
      rfl
     refine pure_ (i := 38) (N := some 93) (v := ?_) (a' := ?_) #[true, true, true, true, true, true, true, true, true, true, true, true, true, true, true, true, true, true, true, true, true, true, true, true, true, true, true, true, true, true, true, true, true, true, true, true, true, true, true, false, false, false, false, false, false] rfl rfl (by kernel_rfl) (fun _ _ _ h => h) (Or.inl ⟨by rfl, ?_⟩) ?_ ?_
     rotate_left
     ·intro w'
      go_simp
      with_reducible rfl
     rotate_left
     ·simp only [Act.put, List.setIfInBounds_toArray, List.set_cons_zero, List.set_cons_succ, i64_w, i32_w]
      rfl
     refine take_ (i := 39) (N := some 94) (v := ?_) (a' := ?_) #[true, true, true, true, true, true, true, true, true, true, true, true, true, true, true, true, true, true, true, true, true, true, true, true, true, true, true, true, true, true, true, true, true, true, true, true, true, true, true, true, false, false, false, false, false] rfl rfl (by kernel_rfl) (fun _ _ _ h => h) (Or.inl ⟨by rfl, ?_⟩) hHeld ?_ ?_
     rotate_left
     ·rintro w' ⟨s0, s1, s2, s3, s4, s5, s6, s7, s8, s9, s10, s11⟩
      go_simp
      with_reducible rfl
     rotate_left
     ·simp only [Act.put, List.setIfInBounds_toArray, List.set_cons_zero, List.set_cons_succ, i64_w, i32_w]
      rfl
     refine take_ (i := 40) (N := some 95) (v := ?_) (a' := ?_) #[true, true, true, true, true, true, true, true, true, true, true, true, true, true, true, true, true, true, true, true, true, true, true, true, true, true, true, true, true, true, true, true, true, true, true, true, true, true, true, true, true, false, false, false, false] rfl rfl (by kernel_rfl) (fun _ _ _ h => h) (Or.inl ⟨by rfl, ?_⟩) hHeld ?_ ?_
     rotate_left
     ·rintro w' ⟨s0, s1, s2, s3, s4, s5, s6, s7, s8, s9, s10, s11⟩
      go_simp
      with_reducible rfl
     rotate_left
     ·simp only [Act.put, List.setIfInBounds_toArray, List.set_cons_zero, List.set_cons_succ, i64_w, i32_w]
      rfl
     refine one_ (i := 41) (N := some 96) #[true, true, true, true, true, true, true, true, true, true, true, true, true, true, true, true, true, true, true, true, true, true, true, true, true, true, true, true, true, true, true, true, true, true, true, true, true, true, true, true, true, true, false, false, false] rfl rfl (by kernel_rfl) (by decide) (fun K hK => ?_)
     refine goes_ Tryd.func44 (by kernel_rfl) rfl #[.agg #[.slice Apn pn.length cpn, .slice Apd pd.length cpd], .agg #[.slice A2 l2.length c2, .slice A3 l3.length c3]] (by rfl) rfl rfl (by (try simp only [List.map_toArray, List.map_cons, List.map_nil]); first | done | rfl) ?_
     refine (ratCompare_calls Apn cpn pn Apd cpd pd A2 c2 l2 A3 c3 l3 cm2 wa29 (HS.out.c 3 rfl) (HS.out.h 3 rfl) (HS.out.c 2 rfl) (HS.out.h 2 rfl) (HS.out.c 11 rfl) (HS.out.h 11 rfl) (HS.out.c 10 rfl) (HS.out.h 10 rfl) hPL.out.1 hPL.out.2 hL.out.2.2.1 hL.out.2.2.2 hK2.out).mono ?_
     rintro e wa30 ⟨rfl, hb_⟩
     replace HS := Aside0.mk (HS.out.step hb_)
     clear hb_
     refine ⟨_, rfl, ?_⟩
     clear hHeld
     refine hK.out _ _ ⟨(Bx.c0 (HS.out.bx 5 rfl)), (Bx.c1 (HS.out.bx 5 rfl)), (Bx.c0 (HS.out.bx 4 rfl)), (Bx.c1 (HS.out.bx 4 rfl)), (Bx.c0 (HS.out.bx 3 rfl)), (Bx.c1 (HS.out.bx 3 rfl)), (Bx.c0 (HS.out.bx 2 rfl)), (Bx.c1 (HS.out.bx 2 rfl)), (Bx.c0 (HS.out.bx 1 rfl)), (Bx.c1 (HS.out.bx 1 rfl)), (Bx.c0 (HS.out.bx 0 rfl)), (Bx.c1 (HS.out.bx 0 rfl))⟩ (fun hHeld => ?_)
     clear hK K
     refine norm_ (a' := ?_) ?_ ?_
     rotate_left
     ·show Act.put _ (some 96) _ = _
      simp only [Act.put, List.setIfInBounds_toArray, List.set_cons_zero, List.set_cons_succ, i64_w, i32_w]
      rfl
     refine pure_ (i := 42) (N := some 97) (v := ?_) (a' := ?_) #[true, true, true, true, true, true, true, true, true, true, true, true, true, true, true, true, true, true, true, true, true, true, true, true, true, true, true, true, true, true, true, true, true, true, true, true, true, true, true, true, true, true, true, false, false] rfl rfl (by kernel_rfl) (fun _ _ _ h => h) (Or.inl ⟨by rfl, ?_⟩) ?_ ?_
     rotate_left
     ·intro w'
      go_simp
      with_reducible rfl
     rotate_left
     ·simp only [Act.put, List.setIfInBounds_toArray, List.set_cons_zero, List.set_cons_succ, i64_w, i32_w]
      rfl
     refine pure_ (i := 43) (N := some 98) (v := ?_) (a' := ?_) #[true, true, true, true, true, true, true, true, true, true, true, true, true, true, true, true, true, true, true, true, true, true, true, true, true, true, true, true, true, true, true, true, true, true, true, true, true, true, true, true, true, true, true, true, false] rfl rfl (by kernel_rfl) (fun _ _ _ h => h) (Or.inl ⟨by rfl, ?_⟩) ?_ ?_
     rotate_left
     ·intro w'
      go_simp
      with_reducible rfl
     rotate_left
     ·simp only [Act.put, List.setIfInBounds_toArray, List.set_cons_zero, List.set_cons_succ, i64_w, i32_w]
      rfl
     refine pure_ (i := 44) (N := some 4) (v := ?_) (a' := ?_) #[true, true, true, true, true, true, true, true, true, true, true, true, true, true, true, true, true, true, true, true, true, true, true, true, true, true, true, true, true, true, true, true, true, true, true, true, true, true, true, true, true, true, true, true, true] rfl rfl (by kernel_rfl) (fun _ _ _ h => h) (Or.inl ⟨by rfl, ?_⟩) ?_ ?_
     rotate_left
     ·intro w'
      go_simp
      with_reducible rfl
     rotate_left
     ·simp only [Act.put, List.setIfInBounds_toArray, List.set_cons_zero, List.set_cons_succ, i64_w, i32_w]
      rfl
     refine done_ (by kernel_rfl) ?_
     clear hHeld
     go_wp2_with fail
     go_ret
     exact ⟨rfl, HS.out.below⟩

end Go.Proofs.YtoakfjcejamoeaaDoor.B
