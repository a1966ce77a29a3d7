/- The walk of the law RationalField. -/
import Derived.Test.YtoakfjcejamoeaaDoorQF
namespace Go.Proofs.YtoakfjcejamoeaaDoor.B
open Go.RowKit Go.Proofs.YtoakfjcejamoeaaDoorW.PrintWords Go.Proofs.YtoakfjcejamoeaaDoorW.PrintLast Go.Proofs.YtoakfjcejamoeaaDoorW.PrintMore
set_option exponentiation.threshold 8200
set_option linter.unusedVariables false
set_option linter.unusedSimpArgs false
/-- An operation that yields a value and a new world. -/
theorem value3_ {P : Program} {ops : Array Oper} {Q : Exit → Act → World → Prop} {K : Act → World → Prop} {oi : Oper} {N : Option Tmp} {a : Act} {w w1 : World} {v : Value} (hw : Region.wanted oi (yielded ops a.tmps) = true) (hN : oi.dst = N) (hrun : (execOp a.eval oi).run P w = .ok (.value v) w1)
  (h : K (a.put N v) w1) : if Region.wanted oi (yielded ops a.tmps) = true then Oper.wp P oi a w K Q else K (a.put N undef) w := by
 rw [if_pos hw]
 unfold Oper.wp
 rw [hrun]
 show K (a.put oi.dst v) w1
 rw [hN]
 exact h
set_option maxHeartbeats 16000000 in
set_option maxRecDepth 100000 in
/-- What a law's walk keeps: rows of limbs, rationals in blocks of their own (the newest first), and that nothing below is touched. -/
structure St (W0 W : World) (R : List (Option Addr × Nat × List Int)) (B : List (Nat × Value × Value)) : Prop where
 rows : ∀ x ∈ R, Kd.C (Kd.int .u32) W x.1 x.2.2.length x.2.2 ∧ x.2.2.length ≤ x.2.1
 boxes : ∀ y ∈ B, Bx W y.1 y.2.1 y.2.2 ∧ W0.heap.size ≤ y.1
 apart : (B.map (·.1)).Pairwise (fun x y => y < x)
 below : Below W0.heap.size W0 W
section
variable {W0 W W' : World} {R : List (Option Addr × Nat × List Int)} {B : List (Nat × Value × Value)}
theorem St.nil (W : World) : St W W [] [] := ⟨fun _ h => absurd h (List.not_mem_nil), fun _ h => absurd h (List.not_mem_nil), List.Pairwise.nil, Below.refl _ _⟩
theorem St.c (h : St W0 W R B) (i : Nat) {A : Option Addr} {c : Nat} {l : List Int} (e : R[i]? = some (A, c, l)) : Kd.C (Kd.int .u32) W A l.length l := (h.rows _ (List.mem_of_getElem? e)).1
theorem St.h (h : St W0 W R B) (i : Nat) {A : Option Addr} {c : Nat} {l : List Int} (e : R[i]? = some (A, c, l)) : l.length ≤ c := (h.rows _ (List.mem_of_getElem? e)).2
theorem St.bx (h : St W0 W R B) (i : Nat) {b : Nat} {v0 v1 : Value} (e : B[i]? = some (b, v0, v1)) : Bx W b v0 v1 := (h.boxes _ (List.mem_of_getElem? e)).1
theorem St.step (h : St W0 W R B) (hb : Below W.heap.size W W') : St W0 W' R B :=
 ⟨fun x hx => ⟨Kd.C_below (h.rows x hx).1 hb, (h.rows x hx).2⟩, fun y hy => ⟨(h.boxes y hy).1.below hb, (h.boxes y hy).2⟩, h.apart, below_step h.below hb⟩
theorem St.row (h : St W0 W R B) {A : Option Addr} {c : Nat} {l : List Int} (hC : Kd.C (Kd.int .u32) W A l.length l) (hH : l.length ≤ c) : St W0 W ((A, c, l) :: R) B :=
 ⟨fun x hx => (List.mem_cons.1 hx).elim (fun e => by subst e; exact ⟨hC, hH⟩) (h.rows x), h.boxes, h.apart, h.below⟩
theorem St.tail {x : Option Addr × Nat × List Int} (h : St W0 W (x :: R) B) : St W0 W R B := ⟨fun y hy => h.rows y (List.mem_cons_of_mem _ hy), h.boxes, h.apart, h.below⟩
theorem St.keep {R' : List (Option Addr × Nat × List Int)} (h : St W0 W R B) (s : ∀ x ∈ R', x ∈ R) : St W0 W R' B := ⟨fun y hy => h.rows y (s y hy), h.boxes, h.apart, h.below⟩
theorem St.box (h : St W0 W R B) {b : Nat} {v0 v1 : Value} (hx : Bx W' b v0 v1) (hs : W.heap.size ≤ b) (hb : Below W.heap.size W W') : St W0 W' R ((b, v0, v1) :: B) :=
 ⟨(h.step hb).rows, fun y hy => (List.mem_cons.1 hy).elim (fun e => by subst e; exact ⟨hx, Nat.le_trans (below_size h.below) hs⟩) ((h.step hb).boxes y),
  List.pairwise_cons.2 ⟨fun k hk => by
   obtain ⟨y, hy, rfl⟩ := List.mem_map.1 hk
   have := (h.boxes y hy).1.lt
   exact Nat.lt_of_lt_of_le this hs, h.apart⟩, (h.step hb).below⟩
theorem St.store (h : St W0 W R B) (j : Nat) {b : Nat} {A0 A1 : Option Addr} {n0 c0 n1 c1 : Nat} (e : B[j]? = some (b, .slice A0 n0 c0, .slice A1 n1 c1)) (u0 u1 : Value) {B' : List (Nat × Value × Value)} (hB : B.set j (b, u0, u1) = B') :
  St W0 ((W.setCell ⟨b, 0, none⟩ u0).setCell ⟨b, 1, none⟩ u1) R B' := by
 subst hB
 have hj := (h.boxes _ (List.mem_of_getElem? e))
 refine ⟨fun x hx => ⟨C_store hj.1 (h.rows x hx).1 _ _, (h.rows x hx).2⟩, fun y hy => ?_, ?_, below_set (below_set h.below hj.2) hj.2⟩
 ·obtain ⟨i, hi⟩ := List.mem_iff_getElem?.1 hy
  rw [List.getElem?_set] at hi
  split at hi
  ·split at hi
   ·injection hi with hi
    subst hi
    exact ⟨hj.1.store u0 u1, hj.2⟩
   ·cases hi
  ·rename_i hij
   have hy2 := h.boxes y (List.mem_of_getElem? hi)
   refine ⟨hy2.1.other ?_ u0 u1, hy2.2⟩
   have e1 : (B.map (·.1))[i]? = some y.1 := by rw [List.getElem?_map, hi]; rfl
   have e2 : (B.map (·.1))[j]? = some b := by rw [List.getElem?_map, e]; rfl
   intro hb
   have ha := h.apart
   rw [List.pairwise_iff_getElem] at ha
   obtain ⟨i1, i2⟩ := List.getElem?_eq_some_iff.1 e1
   obtain ⟨j1, j2⟩ := List.getElem?_eq_some_iff.1 e2
   rcases Nat.lt_or_gt_of_ne hij with hl | hl
   ·have := ha j i j1 i1 hl
    omega
   ·have := ha i j i1 j1 hl
    omega
 ·have e2 : (B.map (·.1))[j]? = some b := by rw [List.getElem?_map, e]; rfl
  obtain ⟨j1, j2⟩ := List.getElem?_eq_some_iff.1 e2
  have : (B.set j (b, u0, u1)).map (·.1) = B.map (·.1) := by
   rw [List.map_set]
   show (B.map (·.1)).set j b = _
   rw [← j2, List.set_getElem_self]
  rw [this]
  exact h.apart
end
theorem drop2_ {x y p q : Option Addr × Nat × List Int} {R : List (Option Addr × Nat × List Int)} : ∀ z ∈ x :: y :: R, z ∈ x :: y :: p :: q :: R := fun z hz => by
 simp only [List.mem_cons] at *
 rcases hz with h | h | h
 ·exact Or.inl h
 ·exact Or.inr (Or.inl h)
 ·exact Or.inr (Or.inr (Or.inr (Or.inr h)))

theorem fits_lt {n : Nat} (h : n < 4294967296 ^ 128) : fitsB n = true := decide_eq_true ((Bn.limbs_len n 128).2 h)
theorem lt_pow {l : List Int} (h : Bn.Limbs l) {k : Nat} (hl : l.length ≤ k) : Bn.nv l < 4294967296 ^ k := Nat.lt_of_lt_of_le (Bn.nv_lt h) (Nat.pow_le_pow_right (by decide) hl)
theorem mul_pow {a b j k : Nat} (ha : a < 4294967296 ^ j) (hb : b < 4294967296 ^ k) : a * b < 4294967296 ^ (j + k) := by
 rw [Nat.pow_add]
 exact Nat.mul_lt_mul'' ha hb
theorem pow_le {a j k : Nat} (ha : a < 4294967296 ^ j) (h : j ≤ k) : a < 4294967296 ^ k := Nat.lt_of_lt_of_le ha (Nat.pow_le_pow_right (by decide) h)
theorem add_pow {a b j : Nat} (ha : a < 4294967296 ^ j) (hb : b < 4294967296 ^ j) : a + b < 4294967296 ^ (j + 1) := by
 rw [Nat.pow_succ]
 omega
/-- the lowest terms of N/D -/
theorem redB_spec {N D : Nat} (hN : fitsB N = true) (hD : fitsB D = true) (h0 : 0 < D) {x y : List Int} (h : redB N D = (x, y)) : ratB x y = true ∧ Bn.Limbs x ∧ Bn.Limbs y ∧ ∃ g, 0 < g ∧ Bn.nv x * g = N ∧ Bn.nv y * g = D := by
 unfold redB at h
 injection h with h1 h2
 have hg : 0 < Nat.gcd N D := Nat.gcd_pos_of_pos_right _ h0
 have d1 := Nat.gcd_dvd_left N D
 have d2 := Nat.gcd_dvd_right N D
 have L1 : Bn.Limbs x := by rw [← h1]; exact Bn.limbs_limbs _
 have L2 : Bn.Limbs y := by rw [← h2]; exact Bn.limbs_limbs _
 have ex : Bn.nv x = N / Nat.gcd N D := by rw [← h1, Bn.nv_limbs]
 have ey : Bn.nv y = D / Nat.gcd N D := by rw [← h2, Bn.nv_limbs]
 refine ⟨(ratB_iff L1 L2).2 ⟨⟨by rw [← h1]; exact Bn.nrm_limbs _, by rw [← h1]; exact div_row hN⟩, ⟨by rw [← h2]; exact Bn.nrm_limbs _, by rw [← h2]; exact div_row hD⟩, by rw [← h2]; exact limbs_ne (Nat.div_pos (Nat.le_of_dvd h0 d2) hg), ?_⟩, L1, L2, Nat.gcd N D, hg, by rw [ex]; exact Nat.div_mul_cancel d1, by rw [ey]; exact Nat.div_mul_cancel d2⟩
 rw [ex, ey, Nat.gcd_div d1 d2, Nat.div_self hg]
/-- a fraction in lowest terms is what its own numbers reduce to -/
theorem redB_self {a b : List Int} (La : Bn.Limbs a) (Lb : Bn.Limbs b) (h : ratB a b = true) {g : Nat} (hg : 0 < g) : redB (Bn.nv a * g) (Bn.nv b * g) = (a, b) := by
 obtain ⟨va, vb, vb0, hc⟩ := (ratB_iff La Lb).1 h
 unfold redB
 rw [Nat.gcd_mul_right, hc, Nat.one_mul, Nat.mul_div_cancel _ hg, Nat.mul_div_cancel _ hg, va.1.2, vb.1.2]
/-- equal fractions have the same lowest terms -/
theorem redB_cross {N D N' D' : Nat} (h0 : 0 < D) (h1 : 0 < D') (h : N * D' = N' * D) : redB N D = redB N' D' := by
 have key : ∀ {n d : Nat} (k : Nat), 0 < k → redB (n * k) (d * k) = redB n d := by
  intro n d k hk
  unfold redB
  rw [Nat.gcd_mul_right, Nat.mul_div_mul_right _ _ hk, Nat.mul_div_mul_right _ _ hk]
 rw [← key (n := N) (d := D) D' h1, ← key (n := N') (d := D') D h0, h, Nat.mul_comm D D']

/-- x/x' is a fraction in lowest terms of value N/D -/
def Eqv (x x' : List Int) (N D i : Nat) : Prop := ratB x x' = true ∧ Bn.Limbs x ∧ Bn.Limbs x' ∧ 0 < D ∧ Bn.nv x * D = N * Bn.nv x' ∧ x.length ≤ i ∧ x'.length ≤ i
theorem red_len {n g k : Nat} (h : n < 4294967296 ^ k) : (Bn.limbs (n / g)).length ≤ k := (Bn.limbs_len _ _).2 (Nat.lt_of_le_of_lt (Nat.div_le_self _ _) h)
theorem red_eqv {N D P Q k : Nat} (hN : N < 4294967296 ^ k) (hD : D < 4294967296 ^ k) (hk : k ≤ 128) (h0 : 0 < D) (hQ : 0 < Q) (he : N * Q = P * D) {z z' : List Int} (h : redB N D = (z, z')) : Eqv z z' P Q k := by
 obtain ⟨r, L1, L2, g, g0, e1, e2⟩ := redB_spec (fits_lt (pow_le hN hk)) (fits_lt (pow_le hD hk)) h0 h
 unfold redB at h
 injection h with h1 h2
 refine ⟨r, L1, L2, hQ, ?_, by rw [← h1]; exact red_len hN, by rw [← h2]; exact red_len hD⟩
 refine Nat.eq_of_mul_eq_mul_right g0 ?_
 rw [Nat.mul_right_comm, e1, Nat.mul_assoc, e2, he]
theorem add_eqv {x x' y y' : List Int} {N D M E i j : Nat} (hx : Eqv x x' N D i) (hy : Eqv y y' M E j) (hij : i + j ≤ 100) :
  ∃ z z', addR x x' y y' = ((z, z'), 0) ∧ Eqv z z' (N * E + M * D) (D * E) (i + j + 1) := by
 obtain ⟨rx, Lx, Lx', D0, ex, sx, sx'⟩ := hx
 obtain ⟨ry, Ly, Ly', E0, ey, sy, sy'⟩ := hy
 obtain ⟨-, vx, vx0, -⟩ := (ratB_iff Lx Lx').1 rx
 obtain ⟨-, vy, vy0, -⟩ := (ratB_iff Ly Ly').1 ry
 have p1 := nv_pos vx.1 vx0
 have p2 := nv_pos vy.1 vy0
 have A := lt_pow Lx sx
 have B := lt_pow Lx' sx'
 have C := lt_pow Ly sy
 have F := lt_pow Ly' sy'
 have f1 := mul_pow A F
 have f2 := mul_pow C B
 rw [Nat.add_comm j i] at f2
 have f3 := mul_pow B F
 have f4 := add_pow f1 f2
 obtain ⟨⟨z, z'⟩, hr⟩ : ∃ t, redB (Bn.nv x * Bn.nv y' + Bn.nv y * Bn.nv x') (Bn.nv x' * Bn.nv y') = t := ⟨_, rfl⟩
 refine ⟨z, z', ?_, red_eqv f4 (pow_le f3 (by omega)) (by omega) (Nat.mul_pos p1 p2) (Nat.mul_pos D0 E0) ?_ hr⟩
 ·unfold addR
  rw [if_pos ⟨rx, ry⟩, if_pos ⟨fits_lt (pow_le f1 (by omega)), fits_lt (pow_le f2 (by omega)), fits_lt (pow_le f3 (by omega)), fits_lt (pow_le f4 (by omega))⟩, hr]
 ·rw [Nat.add_mul, Nat.add_mul]
  have e1 : Bn.nv x * Bn.nv y' * (D * E) = (Bn.nv x * D) * Bn.nv y' * E := by ac_rfl
  have e2 : Bn.nv y * Bn.nv x' * (D * E) = (Bn.nv y * E) * Bn.nv x' * D := by ac_rfl
  rw [e1, e2, ex, ey]
  congr 1 <;> ac_rfl
theorem mul_eqv {x x' y y' : List Int} {N D M E i j : Nat} (hx : Eqv x x' N D i) (hy : Eqv y y' M E j) (hij : i + j ≤ 100) :
  ∃ z z', mulR x x' y y' = ((z, z'), 0) ∧ Eqv z z' (N * M) (D * E) (i + j) := by
 obtain ⟨rx, Lx, Lx', D0, ex, sx, sx'⟩ := hx
 obtain ⟨ry, Ly, Ly', E0, ey, sy, sy'⟩ := hy
 obtain ⟨-, vx, vx0, -⟩ := (ratB_iff Lx Lx').1 rx
 obtain ⟨-, vy, vy0, -⟩ := (ratB_iff Ly Ly').1 ry
 have p1 := nv_pos vx.1 vx0
 have p2 := nv_pos vy.1 vy0
 have f1 := mul_pow (lt_pow Lx sx) (lt_pow Ly sy)
 have f3 := mul_pow (lt_pow Lx' sx') (lt_pow Ly' sy')
 obtain ⟨⟨z, z'⟩, hr⟩ : ∃ t, redB (Bn.nv x * Bn.nv y) (Bn.nv x' * Bn.nv y') = t := ⟨_, rfl⟩
 refine ⟨z, z', ?_, red_eqv f1 f3 (by omega) (Nat.mul_pos p1 p2) (Nat.mul_pos D0 E0) ?_ hr⟩
 ·unfold mulR
  rw [if_pos ⟨rx, ry⟩, if_pos ⟨fits_lt (pow_le f1 (by omega)), fits_lt (pow_le f3 (by omega))⟩, hr]
 ·have e1 : Bn.nv x * Bn.nv y * (D * E) = (Bn.nv x * D) * (Bn.nv y * E) := by ac_rfl
  rw [e1, ex, ey]
  ac_rfl
/-- fractions in lowest terms of one value are the same -/
theorem Eqv.same {x x' y y' : List Int} {N D M E i j : Nat} (hx : Eqv x x' N D i) (hy : Eqv y y' M E j) (h : N * E = M * D) : x = y ∧ x' = y' := by
 obtain ⟨rx, Lx, Lx', D0, ex, -, -⟩ := hx
 obtain ⟨ry, Ly, Ly', E0, ey, -, -⟩ := hy
 obtain ⟨-, vx, vx0, -⟩ := (ratB_iff Lx Lx').1 rx
 obtain ⟨-, vy, vy0, -⟩ := (ratB_iff Ly Ly').1 ry
 have p1 := nv_pos vx.1 vx0
 have p2 := nv_pos vy.1 vy0
 have s1 := redB_self Lx Lx' rx (g := 1) (by decide)
 have s2 := redB_self Ly Ly' ry (g := 1) (by decide)
 rw [Nat.mul_one, Nat.mul_one] at s1 s2
 have s3 : redB (Bn.nv x) (Bn.nv x') = redB (Bn.nv y) (Bn.nv y') := by
  refine redB_cross p1 p2 (Nat.eq_of_mul_eq_mul_right (Nat.mul_pos D0 E0) ?_)
  have e1 : Bn.nv x * Bn.nv y' * (D * E) = (Bn.nv x * D) * Bn.nv y' * E := by ac_rfl
  have e2 : Bn.nv y * Bn.nv x' * (D * E) = (Bn.nv y * E) * Bn.nv x' * D := by ac_rfl
  rw [e1, e2, ex, ey]
  have e3 : N * Bn.nv x' * Bn.nv y' * E = N * E * (Bn.nv x' * Bn.nv y') := by ac_rfl
  have e4 : M * Bn.nv y' * Bn.nv x' * D = M * D * (Bn.nv x' * Bn.nv y') := by ac_rfl
  rw [e3, e4, h]
 rw [s1, s2] at s3
 injection s3 with s4 s5
 exact ⟨s4, s5⟩
theorem Eqv.self {a b : List Int} (La : Bn.Limbs a) (Lb : Bn.Limbs b) (h : ratB a b = true) {i : Nat} (sa : a.length ≤ i) (sb : b.length ≤ i) : Eqv a b (Bn.nv a) (Bn.nv b) i := by
 obtain ⟨-, vb, vb0, -⟩ := (ratB_iff La Lb).1 h
 exact ⟨h, La, Lb, nv_pos vb.1 vb0, rfl, sa, sb⟩
/-- the laws of the field -/
theorem field_facts {a b c d e f : List Int} (La : Bn.Limbs a) (Lb : Bn.Limbs b) (Lc : Bn.Limbs c) (Ld : Bn.Limbs d) (Le : Bn.Limbs e) (Lf : Bn.Limbs f) (sa : a.length ≤ 4) (sb : b.length ≤ 4) (sc : c.length ≤ 4) (sd : d.length ≤ 4) (se : e.length ≤ 4) (sf : f.length ≤ 4) (ha : ratB a b = true) (hb : ratB c d = true) (hc : ratB e f = true) :
  ∃ abn abd bcn bcd ln ld pn pd sn sd tn td xn xd dn dd, addR a b c d = ((abn, abd), 0) ∧ addR c d a b = ((abn, abd), 0) ∧ addR c d e f = ((bcn, bcd), 0) ∧ addR abn abd e f = ((ln, ld), 0) ∧ addR a b bcn bcd = ((ln, ld), 0) ∧
   mulR a b c d = ((pn, pd), 0) ∧ mulR c d a b = ((pn, pd), 0) ∧ mulR c d e f = ((sn, sd), 0) ∧ mulR a b e f = ((tn, td), 0) ∧ mulR pn pd e f = ((xn, xd), 0) ∧ mulR a b sn sd = ((xn, xd), 0) ∧ mulR a b bcn bcd = ((dn, dd), 0) ∧ addR pn pd tn td = ((dn, dd), 0) ∧
   addR a b (Bn.limbs 0) (Bn.limbs 1) = ((a, b), 0) ∧ mulR a b (Bn.limbs 1) (Bn.limbs 1) = ((a, b), 0) := by
 have A := Eqv.self La Lb ha sa sb
 have B := Eqv.self Lc Ld hb sc sd
 have C := Eqv.self Le Lf hc se sf
 have rz : ratB [] [1] = true := by decide +kernel
 have ro : ratB [1] [1] = true := by decide +kernel
 have Z := Eqv.self (i := 4) Bn.Limbs.nil nrm_one.1 rz (by decide) (by decide)
 have O := Eqv.self (i := 4) nrm_one.1 nrm_one.1 ro (by decide) (by decide)
 have e0 : Bn.nv [] = 0 := rfl
 have e1 : Bn.nv [1] = 1 := by decide
 rw [e0, e1] at Z
 rw [e1] at O
 generalize Bn.nv a = x at *
 generalize Bn.nv b = x' at *
 generalize Bn.nv c = y at *
 generalize Bn.nv d = y' at *
 generalize Bn.nv e = z at *
 generalize Bn.nv f = z' at *
 obtain ⟨abn, abd, h1, E1⟩ := add_eqv A B (by decide)
 obtain ⟨n2, d2, h2, E2⟩ := add_eqv B A (by decide)
 obtain ⟨bcn, bcd, h3, E3⟩ := add_eqv B C (by decide)
 obtain ⟨ln, ld, h4, E4⟩ := add_eqv E1 C (by decide)
 obtain ⟨n5, d5, h5, E5⟩ := add_eqv A E3 (by decide)
 obtain ⟨pn, pd, h6, E6⟩ := mul_eqv A B (by decide)
 obtain ⟨n7, d7, h7, E7⟩ := mul_eqv B A (by decide)
 obtain ⟨sn, sd, h8, E8⟩ := mul_eqv B C (by decide)
 obtain ⟨tn, td, h9, E9⟩ := mul_eqv A C (by decide)
 obtain ⟨xn, xd, h10, E10⟩ := mul_eqv E6 C (by decide)
 obtain ⟨n11, d11, h11, E11⟩ := mul_eqv A E8 (by decide)
 obtain ⟨dn, dd, h12, E12⟩ := mul_eqv A E3 (by decide)
 obtain ⟨n13, d13, h13, E13⟩ := add_eqv E6 E9 (by decide)
 obtain ⟨n14, d14, h14, E14⟩ := add_eqv A Z (by decide)
 obtain ⟨n15, d15, h15, E15⟩ := mul_eqv A O (by decide)
 obtain ⟨rfl, rfl⟩ := E2.same E1 (by simp only [Nat.add_mul, Nat.mul_add]; ac_rfl)
 obtain ⟨rfl, rfl⟩ := E5.same E4 (by simp only [Nat.add_mul, Nat.mul_add]; ac_rfl)
 obtain ⟨rfl, rfl⟩ := E7.same E6 (by ac_rfl)
 obtain ⟨rfl, rfl⟩ := E11.same E10 (by ac_rfl)
 obtain ⟨rfl, rfl⟩ := E13.same E12 (by simp only [Nat.add_mul, Nat.mul_add]; ac_rfl)
 obtain ⟨rfl, rfl⟩ := E14.same A (by simp only [Nat.mul_one, Nat.zero_mul, Nat.add_zero])
 obtain ⟨rfl, rfl⟩ := E15.same A (by simp only [Nat.mul_one])
 rw [Bn.limbs_zero, limbs_1]
 exact ⟨_, _, _, _, _, _, _, _, _, _, _, _, _, _, _, _, h1, h2, h3, h4, h5, h6, h7, h8, h9, h10, h11, h12, h13, h14, h15⟩

set_option maxHeartbeats 16000000 in
set_option maxRecDepth 100000 in
/-- RationalField. -/
theorem fieldLaw (A0 : Option Addr) (c0 : Nat) (l0 : List Int) (A1 : Option Addr) (c1 : Nat) (l1 : List Int) (A2 : Option Addr) (c2 : Nat) (l2 : List Int) (A3 : Option Addr) (c3 : Nat) (l3 : List Int) (A4 : Option Addr) (c4 : Nat) (l4 : List Int) (A5 : Option Addr) (c5 : Nat) (l5 : List Int) (w : World) (hr0 : Kd.C (Kd.int .u32) w A0 l0.length l0) (hc0 : l0.length ≤ c0) (hr1 : Kd.C (Kd.int .u32) w A1 l1.length l1) (hc1 : l1.length ≤ c1) (hr2 : Kd.C (Kd.int .u32) w A2 l2.length l2) (hc2 : l2.length ≤ c2) (hr3 : Kd.C (Kd.int .u32) w A3 l3.length l3) (hc3 : l3.length ≤ c3) (hr4 : Kd.C (Kd.int .u32) w A4 l4.length l4) (hc4 : l4.length ≤ c4) (hr5 : Kd.C (Kd.int .u32) w A5 l5.length l5) (hc5 : l5.length ≤ c5) (ht_ : Tab w) (L0 : Bn.Limbs l0) (L1 : Bn.Limbs l1) (L2 : Bn.Limbs l2) (L3 : Bn.Limbs l3) (L4 : Bn.Limbs l4) (L5 : Bn.Limbs l5) :
  Calls Tryd.prog 14 #[.agg #[.slice A0 l0.length c0, .slice A1 l1.length c1], .agg #[.slice A2 l2.length c2, .slice A3 l3.length c3], .agg #[.slice A4 l4.length c4, .slice A5 l5.length c5]] w fun e w' => e = .returned (.bool true) ∧ Below w.heap.size w w' := by
 have HT_ := Aside0.mk ht_
 clear ht_
 have HS := Aside0.mk (((((((St.nil w).row hr0 hc0).row hr1 hc1).row hr2 hc2).row hr3 hc3).row hr4 hc4).row hr5 hc5)
 clear hr0 hc0 hr1 hc1 hr2 hc2 hr3 hc3 hr4 hc4 hr5 hc5
 obtain ⟨f0, hqf0⟩ : ∃ f, f = (decide ((l0.length : Int) ≤ 4) && decide ((l1.length : Int) ≤ 4)) := ⟨_, rfl⟩
 have hf0 := Aside0.mk hqf0
 obtain ⟨f1, hqf1⟩ : ∃ f, f = (decide ((l2.length : Int) ≤ 4) && decide ((l3.length : Int) ≤ 4)) := ⟨_, rfl⟩
 have hf1 := Aside0.mk hqf1
 obtain ⟨f2, hqf2⟩ : ∃ f, f = (decide ((l4.length : Int) ≤ 4) && decide ((l5.length : Int) ≤ 4)) := ⟨_, rfl⟩
 have hf2 := Aside0.mk hqf2
 obtain ⟨p0, hp0⟩ : ∃ p, p = ratB l0 l1 := ⟨_, rfl⟩
 obtain ⟨p1, hp1⟩ : ∃ p, p = ratB l2 l3 := ⟨_, rfl⟩
 obtain ⟨p2, hp2⟩ : ∃ p, p = ratB l4 l5 := ⟨_, rfl⟩
 have hP0 := Aside0.mk hp0
 have hP1 := Aside0.mk hp1
 have hP2 := Aside0.mk hp2
 have hL := Aside0.mk (show Bn.Limbs l0 ∧ Bn.Limbs l1 ∧ Bn.Limbs l2 ∧ Bn.Limbs l3 ∧ Bn.Limbs l4 ∧ Bn.Limbs l5 from ⟨L0, L1, L2, L3, L4, L5⟩)
 have hG := Aside0.mk (show f0 = true → f1 = true → f2 = true → p0 = true → p1 = true → p2 = true → (l0.length ≤ 4 ∧ l1.length ≤ 4) ∧ _ from fun h0 h1 h2 h3 h4 h5 => by
   have z0 : l0.length ≤ 4 ∧ l1.length ≤ 4 := by
    rw [hqf0] at h0
    simp at h0
    omega
   have z1 : l2.length ≤ 4 ∧ l3.length ≤ 4 := by
    rw [hqf1] at h1
    simp at h1
    omega
   have z2 : l4.length ≤ 4 ∧ l5.length ≤ 4 := by
    rw [hqf2] at h2
    simp at h2
    omega
   exact ⟨z0, field_facts L0 L1 L2 L3 L4 L5 z0.1 z0.2 z1.1 z1.2 z2.1 z2.2 (hp0 ▸ h3) (hp1 ▸ h4) (hp2 ▸ h5)⟩)
 clear hp0 hp1 hp2 hqf0 hqf1 hqf2 L0 L1 L2 L3 L4 L5
 go_enter Tryd.func14, Tryd.ntmps14
 go_wp2_with (first | ((with_reducible refine gate_dst (N := 3) rfl ?_); (try (refine gate_guard (by rfl) ?_; dsimp only)); refine box_event ?hg (N := 3) ?hd (.slice A0 l0.length c0) (.slice A1 l1.length c1) ?hr ?_; (case hd => rfl); (case hg => rfl); (case hr => first | (go_simp; done) | (go_simp; rfl)); intro ba wa1 hx_ hs_ hb_; replace HS := Aside0.mk (HS.out.box hx_ hs_ hb_); clear hb_ hx_ hs_) | ((with_reducible refine gate_dst (N := 4) rfl ?_); (try (refine gate_guard (by rfl) ?_; dsimp only)); refine box_event ?hg (N := 4) ?hd (.slice A2 l2.length c2) (.slice A3 l3.length c3) ?hr ?_; (case hd => rfl); (case hg => rfl); (case hr => first | (go_simp; done) | (go_simp; rfl)); intro bb wa2 hx_ hs_ hb_; replace HS := Aside0.mk (HS.out.box hx_ hs_ hb_); clear hb_ hx_ hs_) | ((with_reducible refine gate_dst (N := 5) rfl ?_); (try (refine gate_guard (by rfl) ?_; dsimp only)); refine box_event ?hg (N := 5) ?hd (.slice A4 l4.length c4) (.slice A5 l5.length c5) ?hr ?_; (case hd => rfl); (case hg => rfl); (case hr => first | (go_simp; done) | (go_simp; rfl)); intro bc wa3 hx_ hs_ hb_; replace HS := Aside0.mk (HS.out.box hx_ hs_ hb_); clear hb_ hx_ hs_))
 refine (awake10_calls wa3 (HT_.out.below HS.out.below)).mono ?_
 rintro e wa4 ⟨rfl, hb_⟩
 replace HS := Aside0.mk (HS.out.step hb_)
 clear hb_
 have qaa := Bx.c0 (HS.out.bx 2 rfl)
 have qba := Bx.c1 (HS.out.bx 2 rfl)
 have qab := Bx.c0 (HS.out.bx 1 rfl)
 have qbb := Bx.c1 (HS.out.bx 1 rfl)
 have qac := Bx.c0 (HS.out.bx 0 rfl)
 have qbc := Bx.c1 (HS.out.bx 0 rfl)
 go_wp2_with (first | ((with_reducible refine gate_dst (N := 42) rfl ?_); (try (refine gate_guard (by rfl) ?_; dsimp only)); refine rats_event ?hg (N := 42) ?hd #[.slice A0 l0.length c0, .slice A1 l1.length c1, .slice A2 l2.length c2, .slice A3 l3.length c3, .slice A4 l4.length c4, .slice A5 l5.length c5] 3 ?hr ?_; (case hd => rfl); (case hg => rfl); (case hr => first | (go_simp; done) | (go_simp; rfl)); intro blt wa5 hp_ hb_; replace HS := Aside0.mk (HS.out.step hb_); have Plt := Aside0.mk hp_; clear hp_ hb_; clear qaa qba; clear qab qbb; clear qac qbc; have qaa := Bx.c0 (HS.out.bx 2 rfl); have qba := Bx.c1 (HS.out.bx 2 rfl); have qab := Bx.c0 (HS.out.bx 1 rfl); have qbb := Bx.c1 (HS.out.bx 1 rfl); have qac := Bx.c0 (HS.out.bx 0 rfl); have qbc := Bx.c1 (HS.out.bx 0 rfl)))
 refine (light3_calls A0 c0 l0 A1 c1 l1 f0 A2 c2 l2 A3 c3 l3 f1 A4 c4 l4 A5 c5 l5 f2 blt wa5 hf0.out hf1.out hf2.out Plt.out).mono ?_
 rintro e wa6 ⟨rfl, hb_⟩
 replace HS := Aside0.mk (HS.out.step hb_)
 clear hb_
 clear qaa qba qab qbb qac qbc
 clear Plt
 cases f0 with
 | false =>
  go_wp2_with fail
  go_ret
  exact ⟨rfl, HS.out.below⟩
 | true =>
  cases f1 with
  | false =>
   go_wp2_with fail
   go_ret
   exact ⟨rfl, HS.out.below⟩
  | true =>
   cases f2 with
   | false =>
    go_wp2_with fail
    go_ret
    exact ⟨rfl, HS.out.below⟩
   | true =>
    have qaa := Bx.c0 (HS.out.bx 2 rfl)
    have qba := Bx.c1 (HS.out.bx 2 rfl)
    go_wp2_with fail
    refine (refRatValid_calls A0 c0 l0 A1 c1 l1 p0 wa6 (HS.out.c 5 rfl) (HS.out.h 5 rfl) (HS.out.c 4 rfl) (HS.out.h 4 rfl) hL.out.1 hL.out.2.1 hP0.out).mono ?_
    rintro e wa7 ⟨rfl, hb_⟩
    replace HS := Aside0.mk (HS.out.step hb_)
    clear hb_
    clear qaa qba
    cases p0 with
    | false =>
     go_wp2_with fail
     go_ret
     exact ⟨rfl, HS.out.below⟩
    | true =>
     have qab := Bx.c0 (HS.out.bx 1 rfl)
     have qbb := Bx.c1 (HS.out.bx 1 rfl)
     go_wp2_with fail
     refine (refRatValid_calls A2 c2 l2 A3 c3 l3 p1 wa7 (HS.out.c 3 rfl) (HS.out.h 3 rfl) (HS.out.c 2 rfl) (HS.out.h 2 rfl) hL.out.2.2.1 hL.out.2.2.2.1 hP1.out).mono ?_
     rintro e wa8 ⟨rfl, hb_⟩
     replace HS := Aside0.mk (HS.out.step hb_)
     clear hb_
     clear qab qbb
     cases p1 with
     | false =>
      go_wp2_with fail
      go_ret
      exact ⟨rfl, HS.out.below⟩
     | true =>
      have qac := Bx.c0 (HS.out.bx 0 rfl)
      have qbc := Bx.c1 (HS.out.bx 0 rfl)
      go_wp2_with fail
      refine (refRatValid_calls A4 c4 l4 A5 c5 l5 p2 wa8 (HS.out.c 1 rfl) (HS.out.h 1 rfl) (HS.out.c 0 rfl) (HS.out.h 0 rfl) hL.out.2.2.2.2.1 hL.out.2.2.2.2.2 hP2.out).mono ?_
      rintro e wa9 ⟨rfl, hb_⟩
      replace HS := Aside0.mk (HS.out.step hb_)
      clear hb_
      clear qac qbc
      cases p2 with
      | false =>
       go_wp2_with fail
       go_ret
       exact ⟨rfl, HS.out.below⟩
      | true =>
       obtain ⟨z0, abn, abd, bcn, bcd, ln, ld, pn, pd, sn, sd, tn, td, xn, xd, dn, dd, h1, h2, h3, h4, h5, h6, h7, h8, h9, h10, h11, h12, h13, h14, h15⟩ := hG.out (by trivial) (by trivial) (by trivial) (by trivial) (by trivial) (by trivial)
       have K1 := Aside0.mk h1
       have Z1 := Aside0.mk (addR_len h1)
       have K2 := Aside0.mk h2
       have Z2 := Aside0.mk (addR_len h2)
       have K3 := Aside0.mk h3
       have Z3 := Aside0.mk (addR_len h3)
       have K4 := Aside0.mk h4
       have Z4 := Aside0.mk (addR_len h4)
       have K5 := Aside0.mk h5
       have Z5 := Aside0.mk (addR_len h5)
       have K6 := Aside0.mk h6
       have Z6 := Aside0.mk (mulR_len h6)
       have K7 := Aside0.mk h7
       have Z7 := Aside0.mk (mulR_len h7)
       have K8 := Aside0.mk h8
       have Z8 := Aside0.mk (mulR_len h8)
       have K9 := Aside0.mk h9
       have Z9 := Aside0.mk (mulR_len h9)
       have K10 := Aside0.mk h10
       have Z10 := Aside0.mk (mulR_len h10)
       have K11 := Aside0.mk h11
       have Z11 := Aside0.mk (mulR_len h11)
       have K12 := Aside0.mk h12
       have Z12 := Aside0.mk (mulR_len h12)
       have K13 := Aside0.mk h13
       have Z13 := Aside0.mk (addR_len h13)
       obtain ⟨zl, hzl⟩ : ∃ z, z = Bn.limbs 0 := ⟨_, rfl⟩
       obtain ⟨ol, hol⟩ : ∃ z, z = Bn.limbs 1 := ⟨_, rfl⟩
       rw [← hzl, ← hol] at h14
       rw [← hol] at h15
       have hZO := Aside0.mk (show zl = Bn.limbs 0 ∧ ol = Bn.limbs 1 from ⟨hzl, hol⟩)
       have hLZ := Aside0.mk (show Bn.Limbs zl ∧ Bn.Limbs ol from ⟨hzl ▸ Bn.limbs_limbs 0, hol ▸ Bn.limbs_limbs 1⟩)
       clear hzl hol
       have K14 := Aside0.mk h14
       have K15 := Aside0.mk h15
       have hz := Aside0.mk z0
       clear z0 hG h1 h2 h3 h4 h5 h6 h7 h8 h9 h10 h11 h12 h13 h14 h15
       have qaa := Bx.c0 (HS.out.bx 2 rfl)
       have qba := Bx.c1 (HS.out.bx 2 rfl)
       have qab := Bx.c0 (HS.out.bx 1 rfl)
       have qbb := Bx.c1 (HS.out.bx 1 rfl)
       go_wp2_with fail
       refine (ratAdd_calls A0 c0 l0 A1 c1 l1 A2 c2 l2 A3 c3 l3 abn abd 0 wa9 (HS.out.c 5 rfl) (HS.out.h 5 rfl) (HS.out.c 4 rfl) (HS.out.h 4 rfl) (HS.out.c 3 rfl) (HS.out.h 3 rfl) (HS.out.c 2 rfl) (HS.out.h 2 rfl) hL.out.1 hL.out.2.1 hL.out.2.2.1 hL.out.2.2.2.1 K1.out).mono ?_
       rintro e wa10 ⟨Aabn, cabn, Aabd, cabd, rfl, hCabn_, hHabn_, hCabd_, hHabd_, hb_⟩
       replace HS := Aside0.mk (((HS.out.step hb_).row hCabn_ hHabn_).row hCabd_ hHabd_)
       clear hb_ hCabn_ hHabn_ hCabd_ hHabd_
       clear qaa qba qab qbb
       have qab := Bx.c0 (HS.out.bx 1 rfl)
       have qbb := Bx.c1 (HS.out.bx 1 rfl)
       have qaa := Bx.c0 (HS.out.bx 2 rfl)
       have qba := Bx.c1 (HS.out.bx 2 rfl)
       go_wp2_with (first | ((with_reducible refine gate_dst (N := 7) rfl ?_); (try (refine gate_guard (by rfl) ?_; dsimp only)); refine box_event ?hg (N := 7) ?hd (.slice none 0 0) (.slice none 0 0) ?hr ?_; (case hd => rfl); (case hg => rfl); (case hr => first | (go_simp; done) | (go_simp; rfl)); intro bq1 wa11 hx_ hs_ hb_; replace HS := Aside0.mk (HS.out.box hx_ hs_ hb_); clear hb_ hx_ hs_; clear qab qbb; clear qaa qba; have qab := Bx.c0 (HS.out.bx 2 rfl); have qbb := Bx.c1 (HS.out.bx 2 rfl); have qaa := Bx.c0 (HS.out.bx 3 rfl); have qba := Bx.c1 (HS.out.bx 3 rfl)) | (refine store_event (by rfl) (by rfl) (HS.out.bx 0 rfl : Bx _ bq1 _ _) (.slice Aabn abn.length cabn) (.slice Aabd abd.length cabd) ?hr ?_; (case hr => (have qaq1 := Bx.c0 (HS.out.bx 0 rfl); have qbq1 := Bx.c1 (HS.out.bx 0 rfl); have qc_ := Bx.f0 (HS.out.bx 0 rfl); have qd_ := Bx.f1 (HS.out.bx 0 rfl); first | (go_simp; done) | (go_simp; rfl))); intro wa12 he_ hx_; clear hx_; replace HS := Aside0.mk (HS.out.store 0 rfl (.slice Aabn abn.length cabn) (.slice Aabd abd.length cabd) rfl); generalize (wa11.setCell ⟨bq1, 0, none⟩ (.slice Aabn abn.length cabn)).setCell ⟨bq1, 1, none⟩ (.slice Aabd abd.length cabd) = wg_ at *; subst he_; clear qab qbb; clear qaa qba; have qab := Bx.c0 (HS.out.bx 2 rfl); have qbb := Bx.c1 (HS.out.bx 2 rfl); have qaa := Bx.c0 (HS.out.bx 3 rfl); have qba := Bx.c1 (HS.out.bx 3 rfl)))
       refine (ratAdd_calls A2 c2 l2 A3 c3 l3 A0 c0 l0 A1 c1 l1 abn abd 0 wa12 (HS.out.c 5 rfl) (HS.out.h 5 rfl) (HS.out.c 4 rfl) (HS.out.h 4 rfl) (HS.out.c 7 rfl) (HS.out.h 7 rfl) (HS.out.c 6 rfl) (HS.out.h 6 rfl) hL.out.2.2.1 hL.out.2.2.2.1 hL.out.1 hL.out.2.1 K2.out).mono ?_
       rintro e wa13 ⟨Aban, cban, Abad, cbad, rfl, hCban_, hHban_, hCbad_, hHbad_, hb_⟩
       replace HS := Aside0.mk (((HS.out.step hb_).row hCban_ hHban_).row hCbad_ hHbad_)
       clear hb_ hCban_ hHban_ hCbad_ hHbad_
       clear qab qbb qaa qba
       have qab := Bx.c0 (HS.out.bx 2 rfl)
       have qbb := Bx.c1 (HS.out.bx 2 rfl)
       have qac := Bx.c0 (HS.out.bx 1 rfl)
       have qbc := Bx.c1 (HS.out.bx 1 rfl)
       go_wp2_with (first | ((with_reducible refine gate_dst (N := 9) rfl ?_); (try (refine gate_guard (by rfl) ?_; dsimp only)); refine box_event ?hg (N := 9) ?hd (.slice none 0 0) (.slice none 0 0) ?hr ?_; (case hd => rfl); (case hg => rfl); (case hr => first | (go_simp; done) | (go_simp; rfl)); intro bq2 wa14 hx_ hs_ hb_; replace HS := Aside0.mk (HS.out.box hx_ hs_ hb_); clear hb_ hx_ hs_; clear qab qbb; clear qac qbc; have qab := Bx.c0 (HS.out.bx 3 rfl); have qbb := Bx.c1 (HS.out.bx 3 rfl); have qac := Bx.c0 (HS.out.bx 2 rfl); have qbc := Bx.c1 (HS.out.bx 2 rfl)) | (refine store_event (by rfl) (by rfl) (HS.out.bx 0 rfl : Bx _ bq2 _ _) (.slice Aban abn.length cban) (.slice Abad abd.length cbad) ?hr ?_; (case hr => (have qaq2 := Bx.c0 (HS.out.bx 0 rfl); have qbq2 := Bx.c1 (HS.out.bx 0 rfl); have qc_ := Bx.f0 (HS.out.bx 0 rfl); have qd_ := Bx.f1 (HS.out.bx 0 rfl); first | (go_simp; done) | (go_simp; rfl))); intro wa15 he_ hx_; clear hx_; replace HS := Aside0.mk (HS.out.store 0 rfl (.slice Aban abn.length cban) (.slice Abad abd.length cbad) rfl); generalize (wa14.setCell ⟨bq2, 0, none⟩ (.slice Aban abn.length cban)).setCell ⟨bq2, 1, none⟩ (.slice Abad abd.length cbad) = wg_ at *; subst he_; clear qab qbb; clear qac qbc; have qab := Bx.c0 (HS.out.bx 3 rfl); have qbb := Bx.c1 (HS.out.bx 3 rfl); have qac := Bx.c0 (HS.out.bx 2 rfl); have qbc := Bx.c1 (HS.out.bx 2 rfl)))
       refine (ratAdd_calls A2 c2 l2 A3 c3 l3 A4 c4 l4 A5 c5 l5 bcn bcd 0 wa15 (HS.out.c 7 rfl) (HS.out.h 7 rfl) (HS.out.c 6 rfl) (HS.out.h 6 rfl) (HS.out.c 5 rfl) (HS.out.h 5 rfl) (HS.out.c 4 rfl) (HS.out.h 4 rfl) hL.out.2.2.1 hL.out.2.2.2.1 hL.out.2.2.2.2.1 hL.out.2.2.2.2.2 K3.out).mono ?_
       rintro e wa16 ⟨Abcn, cbcn, Abcd, cbcd, rfl, hCbcn_, hHbcn_, hCbcd_, hHbcd_, hb_⟩
       replace HS := Aside0.mk (((HS.out.step hb_).row hCbcn_ hHbcn_).row hCbcd_ hHbcd_)
       clear hb_ hCbcn_ hHbcn_ hCbcd_ hHbcd_
       clear qab qbb qac qbc
       have qaq1 := Bx.c0 (HS.out.bx 1 rfl)
       have qbq1 := Bx.c1 (HS.out.bx 1 rfl)
       have qac := Bx.c0 (HS.out.bx 2 rfl)
       have qbc := Bx.c1 (HS.out.bx 2 rfl)
       go_wp2_with (first | ((with_reducible refine gate_dst (N := 11) rfl ?_); (try (refine gate_guard (by rfl) ?_; dsimp only)); refine box_event ?hg (N := 11) ?hd (.slice none 0 0) (.slice none 0 0) ?hr ?_; (case hd => rfl); (case hg => rfl); (case hr => first | (go_simp; done) | (go_simp; rfl)); intro bq3 wa17 hx_ hs_ hb_; replace HS := Aside0.mk (HS.out.box hx_ hs_ hb_); clear hb_ hx_ hs_; clear qaq1 qbq1; clear qac qbc; have qaq1 := Bx.c0 (HS.out.bx 2 rfl); have qbq1 := Bx.c1 (HS.out.bx 2 rfl); have qac := Bx.c0 (HS.out.bx 3 rfl); have qbc := Bx.c1 (HS.out.bx 3 rfl)) | (refine store_event (by rfl) (by rfl) (HS.out.bx 0 rfl : Bx _ bq3 _ _) (.slice Abcn bcn.length cbcn) (.slice Abcd bcd.length cbcd) ?hr ?_; (case hr => (have qaq3 := Bx.c0 (HS.out.bx 0 rfl); have qbq3 := Bx.c1 (HS.out.bx 0 rfl); have qc_ := Bx.f0 (HS.out.bx 0 rfl); have qd_ := Bx.f1 (HS.out.bx 0 rfl); first | (go_simp; done) | (go_simp; rfl))); intro wa18 he_ hx_; clear hx_; replace HS := Aside0.mk (HS.out.store 0 rfl (.slice Abcn bcn.length cbcn) (.slice Abcd bcd.length cbcd) rfl); generalize (wa17.setCell ⟨bq3, 0, none⟩ (.slice Abcn bcn.length cbcn)).setCell ⟨bq3, 1, none⟩ (.slice Abcd bcd.length cbcd) = wg_ at *; subst he_; clear qaq1 qbq1; clear qac qbc; have qaq1 := Bx.c0 (HS.out.bx 2 rfl); have qbq1 := Bx.c1 (HS.out.bx 2 rfl); have qac := Bx.c0 (HS.out.bx 3 rfl); have qbc := Bx.c1 (HS.out.bx 3 rfl)))
       refine (ratAdd_calls Aabn cabn abn Aabd cabd abd A4 c4 l4 A5 c5 l5 ln ld 0 wa18 (HS.out.c 5 rfl) (HS.out.h 5 rfl) (HS.out.c 4 rfl) (HS.out.h 4 rfl) (HS.out.c 7 rfl) (HS.out.h 7 rfl) (HS.out.c 6 rfl) (HS.out.h 6 rfl) Z1.out.2.2.1 Z1.out.2.2.2 hL.out.2.2.2.2.1 hL.out.2.2.2.2.2 K4.out).mono ?_
       rintro e wa19 ⟨Aln, cln, Ald, cld, rfl, hCln_, hHln_, hCld_, hHld_, hb_⟩
       replace HS := Aside0.mk (((HS.out.step hb_).row hCln_ hHln_).row hCld_ hHld_)
       clear hb_ hCln_ hHln_ hCld_ hHld_
       clear qaq1 qbq1 qac qbc
       have qaa := Bx.c0 (HS.out.bx 5 rfl)
       have qba := Bx.c1 (HS.out.bx 5 rfl)
       have qaq3 := Bx.c0 (HS.out.bx 0 rfl)
       have qbq3 := Bx.c1 (HS.out.bx 0 rfl)
       go_wp2_with (first | ((with_reducible refine gate_dst (N := 13) rfl ?_); (try (refine gate_guard (by rfl) ?_; dsimp only)); refine box_event ?hg (N := 13) ?hd (.slice none 0 0) (.slice none 0 0) ?hr ?_; (case hd => rfl); (case hg => rfl); (case hr => first | (go_simp; done) | (go_simp; rfl)); intro bq4 wa20 hx_ hs_ hb_; replace HS := Aside0.mk (HS.out.box hx_ hs_ hb_); clear hb_ hx_ hs_; clear qaa qba; clear qaq3 qbq3; have qaa := Bx.c0 (HS.out.bx 6 rfl); have qba := Bx.c1 (HS.out.bx 6 rfl); have qaq3 := Bx.c0 (HS.out.bx 1 rfl); have qbq3 := Bx.c1 (HS.out.bx 1 rfl)) | (refine store_event (by rfl) (by rfl) (HS.out.bx 0 rfl : Bx _ bq4 _ _) (.slice Aln ln.length cln) (.slice Ald ld.length cld) ?hr ?_; (case hr => (have qaq4 := Bx.c0 (HS.out.bx 0 rfl); have qbq4 := Bx.c1 (HS.out.bx 0 rfl); have qc_ := Bx.f0 (HS.out.bx 0 rfl); have qd_ := Bx.f1 (HS.out.bx 0 rfl); first | (go_simp; done) | (go_simp; rfl))); intro wa21 he_ hx_; clear hx_; replace HS := Aside0.mk (HS.out.store 0 rfl (.slice Aln ln.length cln) (.slice Ald ld.length cld) rfl); generalize (wa20.setCell ⟨bq4, 0, none⟩ (.slice Aln ln.length cln)).setCell ⟨bq4, 1, none⟩ (.slice Ald ld.length cld) = wg_ at *; subst he_; clear qaa qba; clear qaq3 qbq3; have qaa := Bx.c0 (HS.out.bx 6 rfl); have qba := Bx.c1 (HS.out.bx 6 rfl); have qaq3 := Bx.c0 (HS.out.bx 1 rfl); have qbq3 := Bx.c1 (HS.out.bx 1 rfl)))
       refine (ratAdd_calls A0 c0 l0 A1 c1 l1 Abcn cbcn bcn Abcd cbcd bcd ln ld 0 wa21 (HS.out.c 13 rfl) (HS.out.h 13 rfl) (HS.out.c 12 rfl) (HS.out.h 12 rfl) (HS.out.c 3 rfl) (HS.out.h 3 rfl) (HS.out.c 2 rfl) (HS.out.h 2 rfl) hL.out.1 hL.out.2.1 Z3.out.2.2.1 Z3.out.2.2.2 K5.out).mono ?_
       rintro e wa22 ⟨Arn, crn, Ard, crd, rfl, hCrn_, hHrn_, hCrd_, hHrd_, hb_⟩
       replace HS := Aside0.mk (((HS.out.step hb_).row hCrn_ hHrn_).row hCrd_ hHrd_)
       clear hb_ hCrn_ hHrn_ hCrd_ hHrd_
       clear qaa qba qaq3 qbq3
       have qaa := Bx.c0 (HS.out.bx 6 rfl)
       have qba := Bx.c1 (HS.out.bx 6 rfl)
       have qab := Bx.c0 (HS.out.bx 5 rfl)
       have qbb := Bx.c1 (HS.out.bx 5 rfl)
       go_wp2_with (first | ((with_reducible refine gate_dst (N := 15) rfl ?_); (try (refine gate_guard (by rfl) ?_; dsimp only)); refine box_event ?hg (N := 15) ?hd (.slice none 0 0) (.slice none 0 0) ?hr ?_; (case hd => rfl); (case hg => rfl); (case hr => first | (go_simp; done) | (go_simp; rfl)); intro bq5 wa23 hx_ hs_ hb_; replace HS := Aside0.mk (HS.out.box hx_ hs_ hb_); clear hb_ hx_ hs_; clear qaa qba; clear qab qbb; have qaa := Bx.c0 (HS.out.bx 7 rfl); have qba := Bx.c1 (HS.out.bx 7 rfl); have qab := Bx.c0 (HS.out.bx 6 rfl); have qbb := Bx.c1 (HS.out.bx 6 rfl)) | (refine store_event (by rfl) (by rfl) (HS.out.bx 0 rfl : Bx _ bq5 _ _) (.slice Arn ln.length crn) (.slice Ard ld.length crd) ?hr ?_; (case hr => (have qaq5 := Bx.c0 (HS.out.bx 0 rfl); have qbq5 := Bx.c1 (HS.out.bx 0 rfl); have qc_ := Bx.f0 (HS.out.bx 0 rfl); have qd_ := Bx.f1 (HS.out.bx 0 rfl); first | (go_simp; done) | (go_simp; rfl))); intro wa24 he_ hx_; clear hx_; replace HS := Aside0.mk (HS.out.store 0 rfl (.slice Arn ln.length crn) (.slice Ard ld.length crd) rfl); generalize (wa23.setCell ⟨bq5, 0, none⟩ (.slice Arn ln.length crn)).setCell ⟨bq5, 1, none⟩ (.slice Ard ld.length crd) = wg_ at *; subst he_; clear qaa qba; clear qab qbb; have qaa := Bx.c0 (HS.out.bx 7 rfl); have qba := Bx.c1 (HS.out.bx 7 rfl); have qab := Bx.c0 (HS.out.bx 6 rfl); have qbb := Bx.c1 (HS.out.bx 6 rfl)))
       refine (ratMul_calls A0 c0 l0 A1 c1 l1 A2 c2 l2 A3 c3 l3 pn pd 0 wa24 (HS.out.c 15 rfl) (HS.out.h 15 rfl) (HS.out.c 14 rfl) (HS.out.h 14 rfl) (HS.out.c 13 rfl) (HS.out.h 13 rfl) (HS.out.c 12 rfl) (HS.out.h 12 rfl) hL.out.1 hL.out.2.1 hL.out.2.2.1 hL.out.2.2.2.1 K6.out).mono ?_
       rintro e wa25 ⟨Apn, cpn, Apd, cpd, rfl, hCpn_, hHpn_, hCpd_, hHpd_, hb_⟩
       replace HS := Aside0.mk (((HS.out.step hb_).row hCpn_ hHpn_).row hCpd_ hHpd_)
       clear hb_ hCpn_ hHpn_ hCpd_ hHpd_
       clear qaa qba qab qbb
       have qab := Bx.c0 (HS.out.bx 6 rfl)
       have qbb := Bx.c1 (HS.out.bx 6 rfl)
       have qaa := Bx.c0 (HS.out.bx 7 rfl)
       have qba := Bx.c1 (HS.out.bx 7 rfl)
       go_wp2_with (first | ((with_reducible refine gate_dst (N := 17) rfl ?_); (try (refine gate_guard (by rfl) ?_; dsimp only)); refine box_event ?hg (N := 17) ?hd (.slice none 0 0) (.slice none 0 0) ?hr ?_; (case hd => rfl); (case hg => rfl); (case hr => first | (go_simp; done) | (go_simp; rfl)); intro bq6 wa26 hx_ hs_ hb_; replace HS := Aside0.mk (HS.out.box hx_ hs_ hb_); clear hb_ hx_ hs_; clear qab qbb; clear qaa qba; have qab := Bx.c0 (HS.out.bx 7 rfl); have qbb := Bx.c1 (HS.out.bx 7 rfl); have qaa := Bx.c0 (HS.out.bx 8 rfl); have qba := Bx.c1 (HS.out.bx 8 rfl)) | (refine store_event (by rfl) (by rfl) (HS.out.bx 0 rfl : Bx _ bq6 _ _) (.slice Apn pn.length cpn) (.slice Apd pd.length cpd) ?hr ?_; (case hr => (have qaq6 := Bx.c0 (HS.out.bx 0 rfl); have qbq6 := Bx.c1 (HS.out.bx 0 rfl); have qc_ := Bx.f0 (HS.out.bx 0 rfl); have qd_ := Bx.f1 (HS.out.bx 0 rfl); first | (go_simp; done) | (go_simp; rfl))); intro wa27 he_ hx_; clear hx_; replace HS := Aside0.mk (HS.out.store 0 rfl (.slice Apn pn.length cpn) (.slice Apd pd.length cpd) rfl); generalize (wa26.setCell ⟨bq6, 0, none⟩ (.slice Apn pn.length cpn)).setCell ⟨bq6, 1, none⟩ (.slice Apd pd.length cpd) = wg_ at *; subst he_; clear qab qbb; clear qaa qba; have qab := Bx.c0 (HS.out.bx 7 rfl); have qbb := Bx.c1 (HS.out.bx 7 rfl); have qaa := Bx.c0 (HS.out.bx 8 rfl); have qba := Bx.c1 (HS.out.bx 8 rfl)))
       refine (ratMul_calls A2 c2 l2 A3 c3 l3 A0 c0 l0 A1 c1 l1 pn pd 0 wa27 (HS.out.c 15 rfl) (HS.out.h 15 rfl) (HS.out.c 14 rfl) (HS.out.h 14 rfl) (HS.out.c 17 rfl) (HS.out.h 17 rfl) (HS.out.c 16 rfl) (HS.out.h 16 rfl) hL.out.2.2.1 hL.out.2.2.2.1 hL.out.1 hL.out.2.1 K7.out).mono ?_
       rintro e wa28 ⟨Aqn, cqn, Aqd, cqd, rfl, hCqn_, hHqn_, hCqd_, hHqd_, hb_⟩
       replace HS := Aside0.mk (((HS.out.step hb_).row hCqn_ hHqn_).row hCqd_ hHqd_)
       clear hb_ hCqn_ hHqn_ hCqd_ hHqd_
       clear qab qbb qaa qba
       have qab := Bx.c0 (HS.out.bx 7 rfl)
       have qbb := Bx.c1 (HS.out.bx 7 rfl)
       have qac := Bx.c0 (HS.out.bx 6 rfl)
       have qbc := Bx.c1 (HS.out.bx 6 rfl)
       go_wp2_with (first | ((with_reducible refine gate_dst (N := 19) rfl ?_); (try (refine gate_guard (by rfl) ?_; dsimp only)); refine box_event ?hg (N := 19) ?hd (.slice none 0 0) (.slice none 0 0) ?hr ?_; (case hd => rfl); (case hg => rfl); (case hr => first | (go_simp; done) | (go_simp; rfl)); intro bq7 wa29 hx_ hs_ hb_; replace HS := Aside0.mk (HS.out.box hx_ hs_ hb_); clear hb_ hx_ hs_; clear qab qbb; clear qac qbc; have qab := Bx.c0 (HS.out.bx 8 rfl); have qbb := Bx.c1 (HS.out.bx 8 rfl); have qac := Bx.c0 (HS.out.bx 7 rfl); have qbc := Bx.c1 (HS.out.bx 7 rfl)) | (refine store_event (by rfl) (by rfl) (HS.out.bx 0 rfl : Bx _ bq7 _ _) (.slice Aqn pn.length cqn) (.slice Aqd pd.length cqd) ?hr ?_; (case hr => (have qaq7 := Bx.c0 (HS.out.bx 0 rfl); have qbq7 := Bx.c1 (HS.out.bx 0 rfl); have qc_ := Bx.f0 (HS.out.bx 0 rfl); have qd_ := Bx.f1 (HS.out.bx 0 rfl); first | (go_simp; done) | (go_simp; rfl))); intro wa30 he_ hx_; clear hx_; replace HS := Aside0.mk (HS.out.store 0 rfl (.slice Aqn pn.length cqn) (.slice Aqd pd.length cqd) rfl); generalize (wa29.setCell ⟨bq7, 0, none⟩ (.slice Aqn pn.length cqn)).setCell ⟨bq7, 1, none⟩ (.slice Aqd pd.length cqd) = wg_ at *; subst he_; clear qab qbb; clear qac qbc; have qab := Bx.c0 (HS.out.bx 8 rfl); have qbb := Bx.c1 (HS.out.bx 8 rfl); have qac := Bx.c0 (HS.out.bx 7 rfl); have qbc := Bx.c1 (HS.out.bx 7 rfl)))
       refine (ratMul_calls A2 c2 l2 A3 c3 l3 A4 c4 l4 A5 c5 l5 sn sd 0 wa30 (HS.out.c 17 rfl) (HS.out.h 17 rfl) (HS.out.c 16 rfl) (HS.out.h 16 rfl) (HS.out.c 15 rfl) (HS.out.h 15 rfl) (HS.out.c 14 rfl) (HS.out.h 14 rfl) hL.out.2.2.1 hL.out.2.2.2.1 hL.out.2.2.2.2.1 hL.out.2.2.2.2.2 K8.out).mono ?_
       rintro e wa31 ⟨Asn, csn, Asd, csd, rfl, hCsn_, hHsn_, hCsd_, hHsd_, hb_⟩
       replace HS := Aside0.mk (((HS.out.step hb_).row hCsn_ hHsn_).row hCsd_ hHsd_)
       clear hb_ hCsn_ hHsn_ hCsd_ hHsd_
       clear qab qbb qac qbc
       have qaa := Bx.c0 (HS.out.bx 9 rfl)
       have qba := Bx.c1 (HS.out.bx 9 rfl)
       have qac := Bx.c0 (HS.out.bx 7 rfl)
       have qbc := Bx.c1 (HS.out.bx 7 rfl)
       go_wp2_with (first | ((with_reducible refine gate_dst (N := 21) rfl ?_); (try (refine gate_guard (by rfl) ?_; dsimp only)); refine box_event ?hg (N := 21) ?hd (.slice none 0 0) (.slice none 0 0) ?hr ?_; (case hd => rfl); (case hg => rfl); (case hr => first | (go_simp; done) | (go_simp; rfl)); intro bq8 wa32 hx_ hs_ hb_; replace HS := Aside0.mk (HS.out.box hx_ hs_ hb_); clear hb_ hx_ hs_; clear qaa qba; clear qac qbc; have qaa := Bx.c0 (HS.out.bx 10 rfl); have qba := Bx.c1 (HS.out.bx 10 rfl); have qac := Bx.c0 (HS.out.bx 8 rfl); have qbc := Bx.c1 (HS.out.bx 8 rfl)) | (refine store_event (by rfl) (by rfl) (HS.out.bx 0 rfl : Bx _ bq8 _ _) (.slice Asn sn.length csn) (.slice Asd sd.length csd) ?hr ?_; (case hr => (have qaq8 := Bx.c0 (HS.out.bx 0 rfl); have qbq8 := Bx.c1 (HS.out.bx 0 rfl); have qc_ := Bx.f0 (HS.out.bx 0 rfl); have qd_ := Bx.f1 (HS.out.bx 0 rfl); first | (go_simp; done) | (go_simp; rfl))); intro wa33 he_ hx_; clear hx_; replace HS := Aside0.mk (HS.out.store 0 rfl (.slice Asn sn.length csn) (.slice Asd sd.length csd) rfl); generalize (wa32.setCell ⟨bq8, 0, none⟩ (.slice Asn sn.length csn)).setCell ⟨bq8, 1, none⟩ (.slice Asd sd.length csd) = wg_ at *; subst he_; clear qaa qba; clear qac qbc; have qaa := Bx.c0 (HS.out.bx 10 rfl); have qba := Bx.c1 (HS.out.bx 10 rfl); have qac := Bx.c0 (HS.out.bx 8 rfl); have qbc := Bx.c1 (HS.out.bx 8 rfl)))
       refine (ratMul_calls A0 c0 l0 A1 c1 l1 A4 c4 l4 A5 c5 l5 tn td 0 wa33 (HS.out.c 21 rfl) (HS.out.h 21 rfl) (HS.out.c 20 rfl) (HS.out.h 20 rfl) (HS.out.c 17 rfl) (HS.out.h 17 rfl) (HS.out.c 16 rfl) (HS.out.h 16 rfl) hL.out.1 hL.out.2.1 hL.out.2.2.2.2.1 hL.out.2.2.2.2.2 K9.out).mono ?_
       rintro e wa34 ⟨Atn, ctn, Atd, ctd, rfl, hCtn_, hHtn_, hCtd_, hHtd_, hb_⟩
       replace HS := Aside0.mk (((HS.out.step hb_).row hCtn_ hHtn_).row hCtd_ hHtd_)
       clear hb_ hCtn_ hHtn_ hCtd_ hHtd_
       clear qaa qba qac qbc
       have qaq1 := Bx.c0 (HS.out.bx 7 rfl)
       have qbq1 := Bx.c1 (HS.out.bx 7 rfl)
       have qaq2 := Bx.c0 (HS.out.bx 6 rfl)
       have qbq2 := Bx.c1 (HS.out.bx 6 rfl)
       go_wp2_with (first | ((with_reducible refine gate_dst (N := 23) rfl ?_); (try (refine gate_guard (by rfl) ?_; dsimp only)); refine box_event ?hg (N := 23) ?hd (.slice none 0 0) (.slice none 0 0) ?hr ?_; (case hd => rfl); (case hg => rfl); (case hr => first | (go_simp; done) | (go_simp; rfl)); intro bq9 wa35 hx_ hs_ hb_; replace HS := Aside0.mk (HS.out.box hx_ hs_ hb_); clear hb_ hx_ hs_; clear qaq1 qbq1; clear qaq2 qbq2; have qaq1 := Bx.c0 (HS.out.bx 8 rfl); have qbq1 := Bx.c1 (HS.out.bx 8 rfl); have qaq2 := Bx.c0 (HS.out.bx 7 rfl); have qbq2 := Bx.c1 (HS.out.bx 7 rfl)) | (refine store_event (by rfl) (by rfl) (HS.out.bx 0 rfl : Bx _ bq9 _ _) (.slice Atn tn.length ctn) (.slice Atd td.length ctd) ?hr ?_; (case hr => (have qaq9 := Bx.c0 (HS.out.bx 0 rfl); have qbq9 := Bx.c1 (HS.out.bx 0 rfl); have qc_ := Bx.f0 (HS.out.bx 0 rfl); have qd_ := Bx.f1 (HS.out.bx 0 rfl); first | (go_simp; done) | (go_simp; rfl))); intro wa36 he_ hx_; clear hx_; replace HS := Aside0.mk (HS.out.store 0 rfl (.slice Atn tn.length ctn) (.slice Atd td.length ctd) rfl); generalize (wa35.setCell ⟨bq9, 0, none⟩ (.slice Atn tn.length ctn)).setCell ⟨bq9, 1, none⟩ (.slice Atd td.length ctd) = wg_ at *; subst he_; clear qaq1 qbq1; clear qaq2 qbq2; have qaq1 := Bx.c0 (HS.out.bx 8 rfl); have qbq1 := Bx.c1 (HS.out.bx 8 rfl); have qaq2 := Bx.c0 (HS.out.bx 7 rfl); have qbq2 := Bx.c1 (HS.out.bx 7 rfl)))
       refine (Same_calls Aabn cabn abn Aabd cabd abd Aban cban abn Abad cbad abd true wa36 (HS.out.c 17 rfl) (HS.out.h 17 rfl) (HS.out.c 16 rfl) (HS.out.h 16 rfl) (HS.out.c 15 rfl) (HS.out.h 15 rfl) (HS.out.c 14 rfl) (HS.out.h 14 rfl) (Nat.le_trans Z1.out.1 (by decide)) (Nat.le_trans Z1.out.2.1 (by decide)) (by simp)).mono ?_
       rintro e wa37 ⟨rfl, hb_⟩
       replace HS := Aside0.mk (HS.out.step hb_)
       clear hb_
       clear qaq1 qbq1 qaq2 qbq2
       have qaq4 := Bx.c0 (HS.out.bx 5 rfl)
       have qbq4 := Bx.c1 (HS.out.bx 5 rfl)
       have qaq5 := Bx.c0 (HS.out.bx 4 rfl)
       have qbq5 := Bx.c1 (HS.out.bx 4 rfl)
       go_wp2_with fail
       refine (Same_calls Aln cln ln Ald cld ld Arn crn ln Ard crd ld true wa37 (HS.out.c 11 rfl) (HS.out.h 11 rfl) (HS.out.c 10 rfl) (HS.out.h 10 rfl) (HS.out.c 9 rfl) (HS.out.h 9 rfl) (HS.out.c 8 rfl) (HS.out.h 8 rfl) (Nat.le_trans Z4.out.1 (by decide)) (Nat.le_trans Z4.out.2.1 (by decide)) (by simp)).mono ?_
       rintro e wa38 ⟨rfl, hb_⟩
       replace HS := Aside0.mk (HS.out.step hb_)
       clear hb_
       clear qaq4 qbq4 qaq5 qbq5
       have qaq6 := Bx.c0 (HS.out.bx 3 rfl)
       have qbq6 := Bx.c1 (HS.out.bx 3 rfl)
       have qaq7 := Bx.c0 (HS.out.bx 2 rfl)
       have qbq7 := Bx.c1 (HS.out.bx 2 rfl)
       go_wp2_with fail
       refine (Same_calls Apn cpn pn Apd cpd pd Aqn cqn pn Aqd cqd pd true wa38 (HS.out.c 7 rfl) (HS.out.h 7 rfl) (HS.out.c 6 rfl) (HS.out.h 6 rfl) (HS.out.c 5 rfl) (HS.out.h 5 rfl) (HS.out.c 4 rfl) (HS.out.h 4 rfl) (Nat.le_trans Z6.out.1 (by decide)) (Nat.le_trans Z6.out.2.1 (by decide)) (by simp)).mono ?_
       rintro e wa39 ⟨rfl, hb_⟩
       replace HS := Aside0.mk (HS.out.step hb_)
       clear hb_
       clear qaq6 qbq6 qaq7 qbq7
       have qaq6 := Bx.c0 (HS.out.bx 3 rfl)
       have qbq6 := Bx.c1 (HS.out.bx 3 rfl)
       have qac := Bx.c0 (HS.out.bx 9 rfl)
       have qbc := Bx.c1 (HS.out.bx 9 rfl)
       go_wp2_with fail
       refine (ratMul_calls Apn cpn pn Apd cpd pd A4 c4 l4 A5 c5 l5 xn xd 0 wa39 (HS.out.c 7 rfl) (HS.out.h 7 rfl) (HS.out.c 6 rfl) (HS.out.h 6 rfl) (HS.out.c 19 rfl) (HS.out.h 19 rfl) (HS.out.c 18 rfl) (HS.out.h 18 rfl) Z6.out.2.2.1 Z6.out.2.2.2 hL.out.2.2.2.2.1 hL.out.2.2.2.2.2 K10.out).mono ?_
       rintro e wa40 ⟨Axn, cxn, Axd, cxd, rfl, hCxn_, hHxn_, hCxd_, hHxd_, hb_⟩
       replace HS := Aside0.mk (((HS.out.step hb_).row hCxn_ hHxn_).row hCxd_ hHxd_)
       clear hb_ hCxn_ hHxn_ hCxd_ hHxd_
       clear qaq6 qbq6 qac qbc
       have qaa := Bx.c0 (HS.out.bx 11 rfl)
       have qba := Bx.c1 (HS.out.bx 11 rfl)
       have qaq8 := Bx.c0 (HS.out.bx 1 rfl)
       have qbq8 := Bx.c1 (HS.out.bx 1 rfl)
       go_wp2_with (first | ((with_reducible refine gate_dst (N := 25) rfl ?_); (try (refine gate_guard (by rfl) ?_; dsimp only)); refine box_event ?hg (N := 25) ?hd (.slice none 0 0) (.slice none 0 0) ?hr ?_; (case hd => rfl); (case hg => rfl); (case hr => first | (go_simp; done) | (go_simp; rfl)); intro bq10 wa41 hx_ hs_ hb_; replace HS := Aside0.mk (HS.out.box hx_ hs_ hb_); clear hb_ hx_ hs_; clear qaa qba; clear qaq8 qbq8; have qaa := Bx.c0 (HS.out.bx 12 rfl); have qba := Bx.c1 (HS.out.bx 12 rfl); have qaq8 := Bx.c0 (HS.out.bx 2 rfl); have qbq8 := Bx.c1 (HS.out.bx 2 rfl)) | (refine store_event (by rfl) (by rfl) (HS.out.bx 0 rfl : Bx _ bq10 _ _) (.slice Axn xn.length cxn) (.slice Axd xd.length cxd) ?hr ?_; (case hr => (have qaq10 := Bx.c0 (HS.out.bx 0 rfl); have qbq10 := Bx.c1 (HS.out.bx 0 rfl); have qc_ := Bx.f0 (HS.out.bx 0 rfl); have qd_ := Bx.f1 (HS.out.bx 0 rfl); first | (go_simp; done) | (go_simp; rfl))); intro wa42 he_ hx_; clear hx_; replace HS := Aside0.mk (HS.out.store 0 rfl (.slice Axn xn.length cxn) (.slice Axd xd.length cxd) rfl); generalize (wa41.setCell ⟨bq10, 0, none⟩ (.slice Axn xn.length cxn)).setCell ⟨bq10, 1, none⟩ (.slice Axd xd.length cxd) = wg_ at *; subst he_; clear qaa qba; clear qaq8 qbq8; have qaa := Bx.c0 (HS.out.bx 12 rfl); have qba := Bx.c1 (HS.out.bx 12 rfl); have qaq8 := Bx.c0 (HS.out.bx 2 rfl); have qbq8 := Bx.c1 (HS.out.bx 2 rfl)))
       refine (ratMul_calls A0 c0 l0 A1 c1 l1 Asn csn sn Asd csd sd xn xd 0 wa42 (HS.out.c 25 rfl) (HS.out.h 25 rfl) (HS.out.c 24 rfl) (HS.out.h 24 rfl) (HS.out.c 5 rfl) (HS.out.h 5 rfl) (HS.out.c 4 rfl) (HS.out.h 4 rfl) hL.out.1 hL.out.2.1 Z8.out.2.2.1 Z8.out.2.2.2 K11.out).mono ?_
       rintro e wa43 ⟨Ayn, cyn, Ayd, cyd, rfl, hCyn_, hHyn_, hCyd_, hHyd_, hb_⟩
       replace HS := Aside0.mk (((HS.out.step hb_).row hCyn_ hHyn_).row hCyd_ hHyd_)
       clear hb_ hCyn_ hHyn_ hCyd_ hHyd_
       clear qaa qba qaq8 qbq8
       have qaa := Bx.c0 (HS.out.bx 12 rfl)
       have qba := Bx.c1 (HS.out.bx 12 rfl)
       have qaq3 := Bx.c0 (HS.out.bx 7 rfl)
       have qbq3 := Bx.c1 (HS.out.bx 7 rfl)
       go_wp2_with (first | ((with_reducible refine gate_dst (N := 27) rfl ?_); (try (refine gate_guard (by rfl) ?_; dsimp only)); refine box_event ?hg (N := 27) ?hd (.slice none 0 0) (.slice none 0 0) ?hr ?_; (case hd => rfl); (case hg => rfl); (case hr => first | (go_simp; done) | (go_simp; rfl)); intro bq11 wa44 hx_ hs_ hb_; replace HS := Aside0.mk (HS.out.box hx_ hs_ hb_); clear hb_ hx_ hs_; clear qaa qba; clear qaq3 qbq3; have qaa := Bx.c0 (HS.out.bx 13 rfl); have qba := Bx.c1 (HS.out.bx 13 rfl); have qaq3 := Bx.c0 (HS.out.bx 8 rfl); have qbq3 := Bx.c1 (HS.out.bx 8 rfl)) | (refine store_event (by rfl) (by rfl) (HS.out.bx 0 rfl : Bx _ bq11 _ _) (.slice Ayn xn.length cyn) (.slice Ayd xd.length cyd) ?hr ?_; (case hr => (have qaq11 := Bx.c0 (HS.out.bx 0 rfl); have qbq11 := Bx.c1 (HS.out.bx 0 rfl); have qc_ := Bx.f0 (HS.out.bx 0 rfl); have qd_ := Bx.f1 (HS.out.bx 0 rfl); first | (go_simp; done) | (go_simp; rfl))); intro wa45 he_ hx_; clear hx_; replace HS := Aside0.mk (HS.out.store 0 rfl (.slice Ayn xn.length cyn) (.slice Ayd xd.length cyd) rfl); generalize (wa44.setCell ⟨bq11, 0, none⟩ (.slice Ayn xn.length cyn)).setCell ⟨bq11, 1, none⟩ (.slice Ayd xd.length cyd) = wg_ at *; subst he_; clear qaa qba; clear qaq3 qbq3; have qaa := Bx.c0 (HS.out.bx 13 rfl); have qba := Bx.c1 (HS.out.bx 13 rfl); have qaq3 := Bx.c0 (HS.out.bx 8 rfl); have qbq3 := Bx.c1 (HS.out.bx 8 rfl)))
       refine (ratMul_calls A0 c0 l0 A1 c1 l1 Abcn cbcn bcn Abcd cbcd bcd dn dd 0 wa45 (HS.out.c 27 rfl) (HS.out.h 27 rfl) (HS.out.c 26 rfl) (HS.out.h 26 rfl) (HS.out.c 17 rfl) (HS.out.h 17 rfl) (HS.out.c 16 rfl) (HS.out.h 16 rfl) hL.out.1 hL.out.2.1 Z3.out.2.2.1 Z3.out.2.2.2 K12.out).mono ?_
       rintro e wa46 ⟨Adn, cdn, Add, cdd, rfl, hCdn_, hHdn_, hCdd_, hHdd_, hb_⟩
       replace HS := Aside0.mk (((HS.out.step hb_).row hCdn_ hHdn_).row hCdd_ hHdd_)
       clear hb_ hCdn_ hHdn_ hCdd_ hHdd_
       clear qaa qba qaq3 qbq3
       have qaq6 := Bx.c0 (HS.out.bx 5 rfl)
       have qbq6 := Bx.c1 (HS.out.bx 5 rfl)
       have qaq9 := Bx.c0 (HS.out.bx 2 rfl)
       have qbq9 := Bx.c1 (HS.out.bx 2 rfl)
       go_wp2_with (first | ((with_reducible refine gate_dst (N := 29) rfl ?_); (try (refine gate_guard (by rfl) ?_; dsimp only)); refine box_event ?hg (N := 29) ?hd (.slice none 0 0) (.slice none 0 0) ?hr ?_; (case hd => rfl); (case hg => rfl); (case hr => first | (go_simp; done) | (go_simp; rfl)); intro bq12 wa47 hx_ hs_ hb_; replace HS := Aside0.mk (HS.out.box hx_ hs_ hb_); clear hb_ hx_ hs_; clear qaq6 qbq6; clear qaq9 qbq9; have qaq6 := Bx.c0 (HS.out.bx 6 rfl); have qbq6 := Bx.c1 (HS.out.bx 6 rfl); have qaq9 := Bx.c0 (HS.out.bx 3 rfl); have qbq9 := Bx.c1 (HS.out.bx 3 rfl)) | (refine store_event (by rfl) (by rfl) (HS.out.bx 0 rfl : Bx _ bq12 _ _) (.slice Adn dn.length cdn) (.slice Add dd.length cdd) ?hr ?_; (case hr => (have qaq12 := Bx.c0 (HS.out.bx 0 rfl); have qbq12 := Bx.c1 (HS.out.bx 0 rfl); have qc_ := Bx.f0 (HS.out.bx 0 rfl); have qd_ := Bx.f1 (HS.out.bx 0 rfl); first | (go_simp; done) | (go_simp; rfl))); intro wa48 he_ hx_; clear hx_; replace HS := Aside0.mk (HS.out.store 0 rfl (.slice Adn dn.length cdn) (.slice Add dd.length cdd) rfl); generalize (wa47.setCell ⟨bq12, 0, none⟩ (.slice Adn dn.length cdn)).setCell ⟨bq12, 1, none⟩ (.slice Add dd.length cdd) = wg_ at *; subst he_; clear qaq6 qbq6; clear qaq9 qbq9; have qaq6 := Bx.c0 (HS.out.bx 6 rfl); have qbq6 := Bx.c1 (HS.out.bx 6 rfl); have qaq9 := Bx.c0 (HS.out.bx 3 rfl); have qbq9 := Bx.c1 (HS.out.bx 3 rfl)))
       refine (ratAdd_calls Apn cpn pn Apd cpd pd Atn ctn tn Atd ctd td dn dd 0 wa48 (HS.out.c 13 rfl) (HS.out.h 13 rfl) (HS.out.c 12 rfl) (HS.out.h 12 rfl) (HS.out.c 7 rfl) (HS.out.h 7 rfl) (HS.out.c 6 rfl) (HS.out.h 6 rfl) Z6.out.2.2.1 Z6.out.2.2.2 Z9.out.2.2.1 Z9.out.2.2.2 K13.out).mono ?_
       rintro e wa49 ⟨Aun, cun, Aud, cud, rfl, hCun_, hHun_, hCud_, hHud_, hb_⟩
       replace HS := Aside0.mk (((HS.out.step hb_).row hCun_ hHun_).row hCud_ hHud_)
       clear hb_ hCun_ hHun_ hCud_ hHud_
       clear qaq6 qbq6 qaq9 qbq9
       go_wp2_with (first | ((with_reducible refine gate_dst (N := 31) rfl ?_); (try (refine gate_guard (by rfl) ?_; dsimp only)); refine box_event ?hg (N := 31) ?hd (.slice none 0 0) (.slice none 0 0) ?hr ?_; (case hd => rfl); (case hg => rfl); (case hr => first | (go_simp; done) | (go_simp; rfl)); intro bq13 wa50 hx_ hs_ hb_; replace HS := Aside0.mk (HS.out.box hx_ hs_ hb_); clear hb_ hx_ hs_) | (refine store_event (by rfl) (by rfl) (HS.out.bx 0 rfl : Bx _ bq13 _ _) (.slice Aun dn.length cun) (.slice Aud dd.length cud) ?hr ?_; (case hr => (have qaq13 := Bx.c0 (HS.out.bx 0 rfl); have qbq13 := Bx.c1 (HS.out.bx 0 rfl); have qc_ := Bx.f0 (HS.out.bx 0 rfl); have qd_ := Bx.f1 (HS.out.bx 0 rfl); first | (go_simp; done) | (go_simp; rfl))); intro wa51 he_ hx_; clear hx_; replace HS := Aside0.mk (HS.out.store 0 rfl (.slice Aun dn.length cun) (.slice Aud dd.length cud) rfl); generalize (wa50.setCell ⟨bq13, 0, none⟩ (.slice Aun dn.length cun)).setCell ⟨bq13, 1, none⟩ (.slice Aud dd.length cud) = wg_ at *; subst he_))
       have hb_ : Below wa51.heap.size wa51 wa51.drew := below_drew1 (Below.refl _ _)
       have hSd_ : (fun w' : World => w'.cell? ⟨ba, 0, none⟩ = some (.slice A0 l0.length c0) ∧ w'.cell? ⟨ba, 1, none⟩ = some (.slice A1 l1.length c1)) wa51.drew := ⟨(Bx.c0 (HS.out.bx 15 rfl)), (Bx.c1 (HS.out.bx 15 rfl))⟩
       refine start_ (n := 9) (S := fun w' => w'.cell? ⟨ba, 0, none⟩ = some (.slice A0 l0.length c0) ∧ w'.cell? ⟨ba, 1, none⟩ = some (.slice A1 l1.length c1)) (ds := [7]) #[false, false, false, false, false, false, false, false, false] (by kernel_rfl) rfl rfl hSd_ (fun hHeld => ?_)
       clear hSd_
       replace HS := Aside0.mk (HS.out.step hb_)
       clear hb_
       generalize wa51.drew = wa52 at *
       refine take_ (i := 0) (N := some 191) (v := ?_) (a' := ?_) #[true, false, false, false, false, false, false, false, false] rfl rfl (by kernel_rfl) (fun _ _ _ h => h) (Or.inl ⟨by rfl, ?_⟩) hHeld ?_ ?_
       rotate_left
       ·rintro w' ⟨s0, s1⟩
        go_simp
        with_reducible rfl
       rotate_left
       ·simp only [Act.put, List.setIfInBounds_toArray, List.set_cons_zero, List.set_cons_succ, i64_w, i32_w]
        rfl
       refine join_ (σ := Option Addr × Nat × Option Addr × Nat × Option Addr × Nat × Option Addr × Nat × Nat) 2 #[true, true, true, true, true, true, true, false, false] (fun ⟨Azn, czn, Azd, czd, Ann, cnn, And, cnd, bq14⟩ => [(192, .agg #[.slice Azn zl.length czn, .slice Azd ol.length czd]), (193, .tuple #[.agg #[.slice Ann l0.length cnn, .slice And l1.length cnd], .int .i64 0]), (190, .tuple #[.agg #[.slice Ann l0.length cnn, .slice And l1.length cnd], .int .i64 0]), (194, .agg #[.slice Ann l0.length cnn, .slice And l1.length cnd]), (195, .int .i64 0), (33, .pointer (some ⟨bq14, 0, none⟩))]) (fun ⟨Azn, czn, Azd, czd, Ann, cnn, And, cnd, bq14⟩ w' => St w w' ((And, cnd, l1) :: (Ann, cnn, l0) :: [(Aud, cud, dd), (Aun, cun, dn), (Add, cdd, dd), (Adn, cdn, dn), (Ayd, cyd, xd), (Ayn, cyn, xn), (Axd, cxd, xd), (Axn, cxn, xn), (Atd, ctd, td), (Atn, ctn, tn), (Asd, csd, sd), (Asn, csn, sn), (Aqd, cqd, pd), (Aqn, cqn, pn), (Apd, cpd, pd), (Apn, cpn, pn), (Ard, crd, ld), (Arn, crn, ln), (Ald, cld, ld), (Aln, cln, ln), (Abcd, cbcd, bcd), (Abcn, cbcn, bcn), (Abad, cbad, abd), (Aban, cban, abn), (Aabd, cabd, abd), (Aabn, cabn, abn), (A5, c5, l5), (A4, c4, l4), (A3, c3, l3), (A2, c2, l2), (A1, c1, l1), (A0, c0, l0)]) ((bq14, (.slice none 0 0), (.slice none 0 0)) :: [(bq13, (.slice Aun dn.length cun), (.slice Aud dd.length cud)), (bq12, (.slice Adn dn.length cdn), (.slice Add dd.length cdd)), (bq11, (.slice Ayn xn.length cyn), (.slice Ayd xd.length cyd)), (bq10, (.slice Axn xn.length cxn), (.slice Axd xd.length cxd)), (bq9, (.slice Atn tn.length ctn), (.slice Atd td.length ctd)), (bq8, (.slice Asn sn.length csn), (.slice Asd sd.length csd)), (bq7, (.slice Aqn pn.length cqn), (.slice Aqd pd.length cqd)), (bq6, (.slice Apn pn.length cpn), (.slice Apd pd.length cpd)), (bq5, (.slice Arn ln.length crn), (.slice Ard ld.length crd)), (bq4, (.slice Aln ln.length cln), (.slice Ald ld.length cld)), (bq3, (.slice Abcn bcn.length cbcn), (.slice Abcd bcd.length cbcd)), (bq2, (.slice Aban abn.length cban), (.slice Abad abd.length cbad)), (bq1, (.slice Aabn abn.length cabn), (.slice Aabd abd.length cabd)), (bc, (.slice A4 l4.length c4), (.slice A5 l5.length c5)), (bb, (.slice A2 l2.length c2), (.slice A3 l3.length c3)), (ba, (.slice A0 l0.length c0), (.slice A1 l1.length c1))])) ?contq14 ?waysq14
       case waysq14 =>
        intro hJ
        refine two_ (i := 1) (j := 6) (Ni := some 192) (Nj := some 33) #[true, true, false, false, false, false, false, false, false] #[true, false, false, false, false, false, true, false, false] rfl rfl rfl rfl (by kernel_rfl) (by decide) (by decide) (fun K hK => ?_) (fun K hK => ?_)
        ·refine goes_ Tryd.func57 (by kernel_rfl) rfl #[] (by rfl) rfl rfl (by (try simp only [List.map_toArray, List.map_cons, List.map_nil]); first | done | rfl) ?_
         refine (ratZero_calls zl ol wa52 hZO.out).mono ?_
         rintro e wa53 ⟨Azn, czn, Azd, czd, rfl, hCzn_, hHzn_, hCzd_, hHzd_, hb_⟩
         replace HS := Aside0.mk (((HS.out.step hb_).row hCzn_ hHzn_).row hCzd_ hHzd_)
         clear hb_ hCzn_ hHzn_ hCzd_ hHzd_
         refine ⟨_, rfl, ?_⟩
         clear hHeld
         refine hK.out _ _ ⟨(Bx.c0 (HS.out.bx 15 rfl)), (Bx.c1 (HS.out.bx 15 rfl))⟩ (fun hHeld => ?_)
         clear hK K
         refine norm_ (a' := ?_) ?_ ?_
         rotate_left
         ·show Act.put _ (some 192) _ = _
          simp only [Act.put, List.setIfInBounds_toArray, List.set_cons_zero, List.set_cons_succ, i64_w, i32_w]
          rfl
         refine two_ (i := 2) (j := 6) (Ni := some 193) (Nj := some 33) #[true, true, true, false, false, false, false, false, false] #[true, true, false, false, false, false, true, false, false] rfl rfl rfl rfl (by kernel_rfl) (by decide) (by decide) (fun K hK => ?_) (fun K hK => ?_)
         ·refine goes_ Tryd.func48 (by kernel_rfl) rfl #[.agg #[.slice A0 l0.length c0, .slice A1 l1.length c1], .agg #[.slice Azn zl.length czn, .slice Azd ol.length czd]] (by rfl) rfl rfl (by (try simp only [List.map_toArray, List.map_cons, List.map_nil]); first | done | rfl) ?_
          refine (ratAdd_calls A0 c0 l0 A1 c1 l1 Azn czn zl Azd czd ol l0 l1 0 wa53 (HS.out.c 33 rfl) (HS.out.h 33 rfl) (HS.out.c 32 rfl) (HS.out.h 32 rfl) (HS.out.c 1 rfl) (HS.out.h 1 rfl) (HS.out.c 0 rfl) (HS.out.h 0 rfl) hL.out.1 hL.out.2.1 hLZ.out.1 hLZ.out.2 K14.out).mono ?_
          rintro e wa54 ⟨Ann, cnn, And, cnd, rfl, hCnn_, hHnn_, hCnd_, hHnd_, hb_⟩
          replace HS := Aside0.mk (((HS.out.step hb_).row hCnn_ hHnn_).row hCnd_ hHnd_)
          clear hb_ hCnn_ hHnn_ hCnd_ hHnd_
          refine ⟨_, rfl, ?_⟩
          clear hHeld
          refine hK.out _ _ ⟨(Bx.c0 (HS.out.bx 15 rfl)), (Bx.c1 (HS.out.bx 15 rfl))⟩ (fun hHeld => ?_)
          clear hK K
          refine norm_ (a' := ?_) ?_ ?_
          rotate_left
          ·show Act.put _ (some 193) _ = _
           simp only [Act.put, List.setIfInBounds_toArray, List.set_cons_zero, List.set_cons_succ, i64_w, i32_w]
           rfl
          refine pure_ (i := 3) (N := some 190) (v := ?_) (a' := ?_) #[true, true, true, true, false, false, false, false, false] rfl rfl (by kernel_rfl) (fun _ _ _ h => h) (Or.inl ⟨by rfl, ?_⟩) ?_ ?_
          rotate_left
          ·intro w'
           go_simp
           with_reducible rfl
          rotate_left
          ·simp only [Act.put, List.setIfInBounds_toArray, List.set_cons_zero, List.set_cons_succ, i64_w, i32_w]
           rfl
          refine pure_ (i := 4) (N := some 194) (v := ?_) (a' := ?_) #[true, true, true, true, true, false, false, false, false] rfl rfl (by kernel_rfl) (fun _ _ _ h => h) (Or.inl ⟨by rfl, ?_⟩) ?_ ?_
          rotate_left
          ·intro w'
           go_simp
           with_reducible rfl
          rotate_left
          ·simp only [Act.put, List.setIfInBounds_toArray, List.set_cons_zero, List.set_cons_succ, i64_w, i32_w]
           rfl
          refine pure_ (i := 5) (N := some 195) (v := ?_) (a' := ?_) #[true, true, true, true, true, true, false, false, false] rfl rfl (by kernel_rfl) (fun _ _ _ h => h) (Or.inl ⟨by rfl, ?_⟩) ?_ ?_
          rotate_left
          ·intro w'
           go_simp
           with_reducible rfl
          rotate_left
          ·simp only [Act.put, List.setIfInBounds_toArray, List.set_cons_zero, List.set_cons_succ, i64_w, i32_w]
           rfl
          refine one_ (i := 6) (N := some 33) #[true, true, true, true, true, true, true, false, false] rfl rfl (by kernel_rfl) (by decide) (fun K hK => ?_)
          refine value3_ (w1 := wa54.alloc (.cells #[.slice none 0 0, .slice none 0 0] 48)) (v := .pointer (some ⟨wa54.heap.size, 0, none⟩)) (by rfl) rfl (by go_simp; try rfl) ?_
          clear hHeld
          obtain ⟨bq14, he_⟩ : ∃ b, b = wa54.heap.size := ⟨_, rfl⟩
          have hx_ : Bx (wa54.alloc (.cells #[.slice none 0 0, .slice none 0 0] 48)) bq14 (.slice none 0 0) (.slice none 0 0) := by rw [he_]; exact Bx.alloc _ _ _
          have hb_ : Below wa54.heap.size wa54 (wa54.alloc (.cells #[.slice none 0 0, .slice none 0 0] 48)) := below_alloc (Below.refl _ _) _
          replace HS := Aside0.mk (HS.out.box hx_ (Nat.le_of_eq he_.symm) hb_)
          rw [← he_]
          clear hx_ hb_
          generalize wa54.alloc (.cells #[.slice none 0 0, .slice none 0 0] 48) = wa55 at *
          clear he_
          refine hK.out _ _ ⟨(Bx.c0 (HS.out.bx 16 rfl)), (Bx.c1 (HS.out.bx 16 rfl))⟩ (fun hHeld => ?_)
          clear hK K
          refine norm_ (a' := ?_) ?_ ?_
          rotate_left
          ·show Act.put _ (some 33) _ = _
           simp only [Act.put, List.setIfInBounds_toArray, List.set_cons_zero, List.set_cons_succ, i64_w, i32_w]
           rfl
          have HJ := HS.out.keep drop2_
          refine norm_ ?_ (hJ ⟨Azn, czn, Azd, czd, Ann, cnn, And, cnd, bq14⟩ wa55 HJ)
          simp only [putAll, Act.put, List.setIfInBounds_toArray, List.set_cons_zero, List.set_cons_succ]
         ·refine value3_ (w1 := wa53.alloc (.cells #[.slice none 0 0, .slice none 0 0] 48)) (v := .pointer (some ⟨wa53.heap.size, 0, none⟩)) (by rfl) rfl (by go_simp; try rfl) ?_
          clear hHeld
          obtain ⟨bq14, he_⟩ : ∃ b, b = wa53.heap.size := ⟨_, rfl⟩
          have hx_ : Bx (wa53.alloc (.cells #[.slice none 0 0, .slice none 0 0] 48)) bq14 (.slice none 0 0) (.slice none 0 0) := by rw [he_]; exact Bx.alloc _ _ _
          have hb_ : Below wa53.heap.size wa53 (wa53.alloc (.cells #[.slice none 0 0, .slice none 0 0] 48)) := below_alloc (Below.refl _ _) _
          replace HS := Aside0.mk (HS.out.box hx_ (Nat.le_of_eq he_.symm) hb_)
          rw [← he_]
          clear hx_ hb_
          generalize wa53.alloc (.cells #[.slice none 0 0, .slice none 0 0] 48) = wa54 at *
          clear he_
          refine hK.out _ _ ⟨(Bx.c0 (HS.out.bx 16 rfl)), (Bx.c1 (HS.out.bx 16 rfl))⟩ (fun hHeld => ?_)
          clear hK K
          refine norm_ (a' := ?_) ?_ ?_
          rotate_left
          ·show Act.put _ (some 33) _ = _
           simp only [Act.put, List.setIfInBounds_toArray, List.set_cons_zero, List.set_cons_succ, i64_w, i32_w]
           rfl
          refine one_ (i := 2) (N := some 193) #[true, true, true, false, false, false, true, false, false] rfl rfl (by kernel_rfl) (by decide) (fun K hK => ?_)
          refine goes_ Tryd.func48 (by kernel_rfl) rfl #[.agg #[.slice A0 l0.length c0, .slice A1 l1.length c1], .agg #[.slice Azn zl.length czn, .slice Azd ol.length czd]] (by rfl) rfl rfl (by (try simp only [List.map_toArray, List.map_cons, List.map_nil]); first | done | rfl) ?_
          refine (ratAdd_calls A0 c0 l0 A1 c1 l1 Azn czn zl Azd czd ol l0 l1 0 wa54 (HS.out.c 33 rfl) (HS.out.h 33 rfl) (HS.out.c 32 rfl) (HS.out.h 32 rfl) (HS.out.c 1 rfl) (HS.out.h 1 rfl) (HS.out.c 0 rfl) (HS.out.h 0 rfl) hL.out.1 hL.out.2.1 hLZ.out.1 hLZ.out.2 K14.out).mono ?_
          rintro e wa55 ⟨Ann, cnn, And, cnd, rfl, hCnn_, hHnn_, hCnd_, hHnd_, hb_⟩
          replace HS := Aside0.mk (((HS.out.step hb_).row hCnn_ hHnn_).row hCnd_ hHnd_)
          clear hb_ hCnn_ hHnn_ hCnd_ hHnd_
          refine ⟨_, rfl, ?_⟩
          clear hHeld
          refine hK.out _ _ ⟨(Bx.c0 (HS.out.bx 16 rfl)), (Bx.c1 (HS.out.bx 16 rfl))⟩ (fun hHeld => ?_)
          clear hK K
          refine norm_ (a' := ?_) ?_ ?_
          rotate_left
          ·show Act.put _ (some 193) _ = _
           simp only [Act.put, List.setIfInBounds_toArray, List.set_cons_zero, List.set_cons_succ, i64_w, i32_w]
           rfl
          refine pure_ (i := 3) (N := some 190) (v := ?_) (a' := ?_) #[true, true, true, true, false, false, true, false, false] rfl rfl (by kernel_rfl) (fun _ _ _ h => h) (Or.inl ⟨by rfl, ?_⟩) ?_ ?_
          rotate_left
          ·intro w'
           go_simp
           with_reducible rfl
          rotate_left
          ·simp only [Act.put, List.setIfInBounds_toArray, List.set_cons_zero, List.set_cons_succ, i64_w, i32_w]
           rfl
          refine pure_ (i := 4) (N := some 194) (v := ?_) (a' := ?_) #[true, true, true, true, true, false, true, false, false] rfl rfl (by kernel_rfl) (fun _ _ _ h => h) (Or.inl ⟨by rfl, ?_⟩) ?_ ?_
          rotate_left
          ·intro w'
           go_simp
           with_reducible rfl
          rotate_left
          ·simp only [Act.put, List.setIfInBounds_toArray, List.set_cons_zero, List.set_cons_succ, i64_w, i32_w]
           rfl
          refine pure_ (i := 5) (N := some 195) (v := ?_) (a' := ?_) #[true, true, true, true, true, true, true, false, false] rfl rfl (by kernel_rfl) (fun _ _ _ h => h) (Or.inl ⟨by rfl, ?_⟩) ?_ ?_
          rotate_left
          ·intro w'
           go_simp
           with_reducible rfl
          rotate_left
          ·simp only [Act.put, List.setIfInBounds_toArray, List.set_cons_zero, List.set_cons_succ, i64_w, i32_w]
           rfl
          have HJ := HS.out.keep drop2_
          refine norm_ ?_ (hJ ⟨Azn, czn, Azd, czd, Ann, cnn, And, cnd, bq14⟩ wa55 HJ)
          simp only [putAll, Act.put, List.setIfInBounds_toArray, List.set_cons_zero, List.set_cons_succ]
        ·refine value3_ (w1 := wa52.alloc (.cells #[.slice none 0 0, .slice none 0 0] 48)) (v := .pointer (some ⟨wa52.heap.size, 0, none⟩)) (by rfl) rfl (by go_simp; try rfl) ?_
         clear hHeld
         obtain ⟨bq14, he_⟩ : ∃ b, b = wa52.heap.size := ⟨_, rfl⟩
         have hx_ : Bx (wa52.alloc (.cells #[.slice none 0 0, .slice none 0 0] 48)) bq14 (.slice none 0 0) (.slice none 0 0) := by rw [he_]; exact Bx.alloc _ _ _
         have hb_ : Below wa52.heap.size wa52 (wa52.alloc (.cells #[.slice none 0 0, .slice none 0 0] 48)) := below_alloc (Below.refl _ _) _
         replace HS := Aside0.mk (HS.out.box hx_ (Nat.le_of_eq he_.symm) hb_)
         rw [← he_]
         clear hx_ hb_
         generalize wa52.alloc (.cells #[.slice none 0 0, .slice none 0 0] 48) = wa53 at *
         clear he_
         refine hK.out _ _ ⟨(Bx.c0 (HS.out.bx 16 rfl)), (Bx.c1 (HS.out.bx 16 rfl))⟩ (fun hHeld => ?_)
         clear hK K
         refine norm_ (a' := ?_) ?_ ?_
         rotate_left
         ·show Act.put _ (some 33) _ = _
          simp only [Act.put, List.setIfInBounds_toArray, List.set_cons_zero, List.set_cons_succ, i64_w, i32_w]
          rfl
         refine one_ (i := 1) (N := some 192) #[true, true, false, false, false, false, true, false, false] rfl rfl (by kernel_rfl) (by decide) (fun K hK => ?_)
         refine goes_ Tryd.func57 (by kernel_rfl) rfl #[] (by rfl) rfl rfl (by (try simp only [List.map_toArray, List.map_cons, List.map_nil]); first | done | rfl) ?_
         refine (ratZero_calls zl ol wa53 hZO.out).mono ?_
         rintro e wa54 ⟨Azn, czn, Azd, czd, rfl, hCzn_, hHzn_, hCzd_, hHzd_, hb_⟩
         replace HS := Aside0.mk (((HS.out.step hb_).row hCzn_ hHzn_).row hCzd_ hHzd_)
         clear hb_ hCzn_ hHzn_ hCzd_ hHzd_
         refine ⟨_, rfl, ?_⟩
         clear hHeld
         refine hK.out _ _ ⟨(Bx.c0 (HS.out.bx 16 rfl)), (Bx.c1 (HS.out.bx 16 rfl))⟩ (fun hHeld => ?_)
         clear hK K
         refine norm_ (a' := ?_) ?_ ?_
         rotate_left
         ·show Act.put _ (some 192) _ = _
          simp only [Act.put, List.setIfInBounds_toArray, List.set_cons_zero, List.set_cons_succ, i64_w, i32_w]
          rfl
         refine one_ (i := 2) (N := some 193) #[true, true, true, false, false, false, true, false, false] rfl rfl (by kernel_rfl) (by decide) (fun K hK => ?_)
         refine goes_ Tryd.func48 (by kernel_rfl) rfl #[.agg #[.slice A0 l0.length c0, .slice A1 l1.length c1], .agg #[.slice Azn zl.length czn, .slice Azd ol.length czd]] (by rfl) rfl rfl (by (try simp only [List.map_toArray, List.map_cons, List.map_nil]); first | done | rfl) ?_
         refine (ratAdd_calls A0 c0 l0 A1 c1 l1 Azn czn zl Azd czd ol l0 l1 0 wa54 (HS.out.c 33 rfl) (HS.out.h 33 rfl) (HS.out.c 32 rfl) (HS.out.h 32 rfl) (HS.out.c 1 rfl) (HS.out.h 1 rfl) (HS.out.c 0 rfl) (HS.out.h 0 rfl) hL.out.1 hL.out.2.1 hLZ.out.1 hLZ.out.2 K14.out).mono ?_
         rintro e wa55 ⟨Ann, cnn, And, cnd, rfl, hCnn_, hHnn_, hCnd_, hHnd_, hb_⟩
         replace HS := Aside0.mk (((HS.out.step hb_).row hCnn_ hHnn_).row hCnd_ hHnd_)
         clear hb_ hCnn_ hHnn_ hCnd_ hHnd_
         refine ⟨_, rfl, ?_⟩
         clear hHeld
         refine hK.out _ _ ⟨(Bx.c0 (HS.out.bx 16 rfl)), (Bx.c1 (HS.out.bx 16 rfl))⟩ (fun hHeld => ?_)
         clear hK K
         refine norm_ (a' := ?_) ?_ ?_
         rotate_left
         ·show Act.put _ (some 193) _ = _
          simp only [Act.put, List.setIfInBounds_toArray, List.set_cons_zero, List.set_cons_succ, i64_w, i32_w]
          rfl
         refine pure_ (i := 3) (N := some 190) (v := ?_) (a' := ?_) #[true, true, true, true, false, false, true, false, false] rfl rfl (by kernel_rfl) (fun _ _ _ h => h) (Or.inl ⟨by rfl, ?_⟩) ?_ ?_
         rotate_left
         ·intro w'
          go_simp
          with_reducible rfl
         rotate_left
         ·simp only [Act.put, List.setIfInBounds_toArray, List.set_cons_zero, List.set_cons_succ, i64_w, i32_w]
          rfl
         refine pure_ (i := 4) (N := some 194) (v := ?_) (a' := ?_) #[true, true, true, true, true, false, true, false, false] rfl rfl (by kernel_rfl) (fun _ _ _ h => h) (Or.inl ⟨by rfl, ?_⟩) ?_ ?_
         rotate_left
         ·intro w'
          go_simp
          with_reducible rfl
         rotate_left
         ·simp only [Act.put, List.setIfInBounds_toArray, List.set_cons_zero, List.set_cons_succ, i64_w, i32_w]
          rfl
         refine pure_ (i := 5) (N := some 195) (v := ?_) (a' := ?_) #[true, true, true, true, true, true, true, false, false] rfl rfl (by kernel_rfl) (fun _ _ _ h => h) (Or.inl ⟨by rfl, ?_⟩) ?_ ?_
         rotate_left
         ·intro w'
          go_simp
          with_reducible rfl
         rotate_left
         ·simp only [Act.put, List.setIfInBounds_toArray, List.set_cons_zero, List.set_cons_succ, i64_w, i32_w]
          rfl
         have HJ := HS.out.keep drop2_
         refine norm_ ?_ (hJ ⟨Azn, czn, Azd, czd, Ann, cnn, And, cnd, bq14⟩ wa55 HJ)
         simp only [putAll, Act.put, List.setIfInBounds_toArray, List.set_cons_zero, List.set_cons_succ]
       rintro ⟨Azn, czn, Azd, czd, Ann, cnn, And, cnd, bq14⟩ wj52 hst_
       dsimp only at hst_
       replace HS := Aside0.mk hst_
       clear hst_
       refine norm_ (a' := ?_) ?_ ?_
       rotate_left
       ·simp only [putAll, Act.put, List.setIfInBounds_toArray, List.set_cons_zero, List.set_cons_succ]
        rfl
       refine last_ (i := 7) (N := none) #[true, true, true, true, true, true, true, true, false] rfl rfl (by kernel_rfl) (by decide) (fun K hK => ?_)
       have qaq14 := Bx.c0 (HS.out.bx 0 rfl)
       have qbq14 := Bx.c1 (HS.out.bx 0 rfl)
       have qc_ := Bx.f0 (HS.out.bx 0 rfl)
       have qd_ := Bx.f1 (HS.out.bx 0 rfl)
       refine skip_ (w1 := (wj52.setCell ⟨bq14, 0, none⟩ (.slice Ann l0.length cnn)).setCell ⟨bq14, 1, none⟩ (.slice And l1.length cnd)) (by rfl) rfl (by go_simp; try rfl) ?_
       clear qaq14 qbq14 qc_ qd_
       replace HS := Aside0.mk (HS.out.store 0 rfl (.slice Ann l0.length cnn) (.slice And l1.length cnd) rfl)
       generalize (wj52.setCell ⟨bq14, 0, none⟩ (.slice Ann l0.length cnn)).setCell ⟨bq14, 1, none⟩ (.slice And l1.length cnd) = wa53 at *
       refine hK.out _ _ ?_
       clear hK K
       refine pure_ (i := 8) (N := some 34) (v := ?_) (a' := ?_) #[true, true, true, true, true, true, true, true, true] rfl rfl (by kernel_rfl) (fun _ _ _ h => h) (Or.inl ⟨by rfl, ?_⟩) ?_ ?_
       rotate_left
       ·intro w'
        go_simp
        with_reducible rfl
       rotate_left
       ·simp only [Act.put, List.setIfInBounds_toArray, List.set_cons_zero, List.set_cons_succ, i64_w, i32_w]
        rfl
       refine done_ (by kernel_rfl) ?_
       go_wp2_with fail
       have hb_ : Below wa53.heap.size wa53 wa53.drew := below_drew1 (Below.refl _ _)
       have hSd_ : (fun w' : World => w'.cell? ⟨ba, 0, none⟩ = some (.slice A0 l0.length c0) ∧ w'.cell? ⟨ba, 1, none⟩ = some (.slice A1 l1.length c1)) wa53.drew := ⟨(Bx.c0 (HS.out.bx 16 rfl)), (Bx.c1 (HS.out.bx 16 rfl))⟩
       refine start_ (n := 9) (S := fun w' => w'.cell? ⟨ba, 0, none⟩ = some (.slice A0 l0.length c0) ∧ w'.cell? ⟨ba, 1, none⟩ = some (.slice A1 l1.length c1)) (ds := [7]) #[false, false, false, false, false, false, false, false, false] (by kernel_rfl) rfl rfl hSd_ (fun hHeld => ?_)
       clear hSd_
       replace HS := Aside0.mk (HS.out.step hb_)
       clear hb_
       generalize wa53.drew = wa54 at *
       refine take_ (i := 0) (N := some 197) (v := ?_) (a' := ?_) #[true, false, false, false, false, false, false, false, false] rfl rfl (by kernel_rfl) (fun _ _ _ h => h) (Or.inl ⟨by rfl, ?_⟩) hHeld ?_ ?_
       rotate_left
       ·rintro w' ⟨s0, s1⟩
        go_simp
        with_reducible rfl
       rotate_left
       ·simp only [Act.put, List.setIfInBounds_toArray, List.set_cons_zero, List.set_cons_succ, i64_w, i32_w]
        rfl
       refine join_ (σ := Option Addr × Nat × Option Addr × Nat × Option Addr × Nat × Option Addr × Nat × Nat) 2 #[true, true, true, true, true, true, true, false, false] (fun ⟨Aen, cen, Aed, ced, Amn, cmn, Amd, cmd, bq15⟩ => [(198, .agg #[.slice Aen ol.length cen, .slice Aed ol.length ced]), (199, .tuple #[.agg #[.slice Amn l0.length cmn, .slice Amd l1.length cmd], .int .i64 0]), (196, .tuple #[.agg #[.slice Amn l0.length cmn, .slice Amd l1.length cmd], .int .i64 0]), (200, .agg #[.slice Amn l0.length cmn, .slice Amd l1.length cmd]), (201, .int .i64 0), (35, .pointer (some ⟨bq15, 0, none⟩))]) (fun ⟨Aen, cen, Aed, ced, Amn, cmn, Amd, cmd, bq15⟩ w' => St w w' ((Amd, cmd, l1) :: (Amn, cmn, l0) :: [(And, cnd, l1), (Ann, cnn, l0), (Aud, cud, dd), (Aun, cun, dn), (Add, cdd, dd), (Adn, cdn, dn), (Ayd, cyd, xd), (Ayn, cyn, xn), (Axd, cxd, xd), (Axn, cxn, xn), (Atd, ctd, td), (Atn, ctn, tn), (Asd, csd, sd), (Asn, csn, sn), (Aqd, cqd, pd), (Aqn, cqn, pn), (Apd, cpd, pd), (Apn, cpn, pn), (Ard, crd, ld), (Arn, crn, ln), (Ald, cld, ld), (Aln, cln, ln), (Abcd, cbcd, bcd), (Abcn, cbcn, bcn), (Abad, cbad, abd), (Aban, cban, abn), (Aabd, cabd, abd), (Aabn, cabn, abn), (A5, c5, l5), (A4, c4, l4), (A3, c3, l3), (A2, c2, l2), (A1, c1, l1), (A0, c0, l0)]) ((bq15, (.slice none 0 0), (.slice none 0 0)) :: [(bq14, (.slice Ann l0.length cnn), (.slice And l1.length cnd)), (bq13, (.slice Aun dn.length cun), (.slice Aud dd.length cud)), (bq12, (.slice Adn dn.length cdn), (.slice Add dd.length cdd)), (bq11, (.slice Ayn xn.length cyn), (.slice Ayd xd.length cyd)), (bq10, (.slice Axn xn.length cxn), (.slice Axd xd.length cxd)), (bq9, (.slice Atn tn.length ctn), (.slice Atd td.length ctd)), (bq8, (.slice Asn sn.length csn), (.slice Asd sd.length csd)), (bq7, (.slice Aqn pn.length cqn), (.slice Aqd pd.length cqd)), (bq6, (.slice Apn pn.length cpn), (.slice Apd pd.length cpd)), (bq5, (.slice Arn ln.length crn), (.slice Ard ld.length crd)), (bq4, (.slice Aln ln.length cln), (.slice Ald ld.length cld)), (bq3, (.slice Abcn bcn.length cbcn), (.slice Abcd bcd.length cbcd)), (bq2, (.slice Aban abn.length cban), (.slice Abad abd.length cbad)), (bq1, (.slice Aabn abn.length cabn), (.slice Aabd abd.length cabd)), (bc, (.slice A4 l4.length c4), (.slice A5 l5.length c5)), (bb, (.slice A2 l2.length c2), (.slice A3 l3.length c3)), (ba, (.slice A0 l0.length c0), (.slice A1 l1.length c1))])) ?contq15 ?waysq15
       case waysq15 =>
        intro hJ
        refine two_ (i := 1) (j := 6) (Ni := some 198) (Nj := some 35) #[true, true, false, false, false, false, false, false, false] #[true, false, false, false, false, false, true, false, false] rfl rfl rfl rfl (by kernel_rfl) (by decide) (by decide) (fun K hK => ?_) (fun K hK => ?_)
        ·refine goes_ Tryd.func59 (by kernel_rfl) rfl #[] (by rfl) rfl rfl (by (try simp only [List.map_toArray, List.map_cons, List.map_nil]); first | done | rfl) ?_
         refine (ratOne_calls ol ol wa54 ⟨hZO.out.2, hZO.out.2⟩).mono ?_
         rintro e wa55 ⟨Aen, cen, Aed, ced, rfl, hCen_, hHen_, hCed_, hHed_, hb_⟩
         replace HS := Aside0.mk (((HS.out.step hb_).row hCen_ hHen_).row hCed_ hHed_)
         clear hb_ hCen_ hHen_ hCed_ hHed_
         refine ⟨_, rfl, ?_⟩
         clear hHeld
         refine hK.out _ _ ⟨(Bx.c0 (HS.out.bx 16 rfl)), (Bx.c1 (HS.out.bx 16 rfl))⟩ (fun hHeld => ?_)
         clear hK K
         refine norm_ (a' := ?_) ?_ ?_
         rotate_left
         ·show Act.put _ (some 198) _ = _
          simp only [Act.put, List.setIfInBounds_toArray, List.set_cons_zero, List.set_cons_succ, i64_w, i32_w]
          rfl
         refine two_ (i := 2) (j := 6) (Ni := some 199) (Nj := some 35) #[true, true, true, false, false, false, false, false, false] #[true, true, false, false, false, false, true, false, false] rfl rfl rfl rfl (by kernel_rfl) (by decide) (by decide) (fun K hK => ?_) (fun K hK => ?_)
         ·refine goes_ Tryd.func61 (by kernel_rfl) rfl #[.agg #[.slice A0 l0.length c0, .slice A1 l1.length c1], .agg #[.slice Aen ol.length cen, .slice Aed ol.length ced]] (by rfl) rfl rfl (by (try simp only [List.map_toArray, List.map_cons, List.map_nil]); first | done | rfl) ?_
          refine (ratMul_calls A0 c0 l0 A1 c1 l1 Aen cen ol Aed ced ol l0 l1 0 wa55 (HS.out.c 35 rfl) (HS.out.h 35 rfl) (HS.out.c 34 rfl) (HS.out.h 34 rfl) (HS.out.c 1 rfl) (HS.out.h 1 rfl) (HS.out.c 0 rfl) (HS.out.h 0 rfl) hL.out.1 hL.out.2.1 hLZ.out.2 hLZ.out.2 K15.out).mono ?_
          rintro e wa56 ⟨Amn, cmn, Amd, cmd, rfl, hCmn_, hHmn_, hCmd_, hHmd_, hb_⟩
          replace HS := Aside0.mk (((HS.out.step hb_).row hCmn_ hHmn_).row hCmd_ hHmd_)
          clear hb_ hCmn_ hHmn_ hCmd_ hHmd_
          refine ⟨_, rfl, ?_⟩
          clear hHeld
          refine hK.out _ _ ⟨(Bx.c0 (HS.out.bx 16 rfl)), (Bx.c1 (HS.out.bx 16 rfl))⟩ (fun hHeld => ?_)
          clear hK K
          refine norm_ (a' := ?_) ?_ ?_
          rotate_left
          ·show Act.put _ (some 199) _ = _
           simp only [Act.put, List.setIfInBounds_toArray, List.set_cons_zero, List.set_cons_succ, i64_w, i32_w]
           rfl
          refine pure_ (i := 3) (N := some 196) (v := ?_) (a' := ?_) #[true, true, true, true, false, false, false, false, false] rfl rfl (by kernel_rfl) (fun _ _ _ h => h) (Or.inl ⟨by rfl, ?_⟩) ?_ ?_
          rotate_left
          ·intro w'
           go_simp
           with_reducible rfl
          rotate_left
          ·simp only [Act.put, List.setIfInBounds_toArray, List.set_cons_zero, List.set_cons_succ, i64_w, i32_w]
           rfl
          refine pure_ (i := 4) (N := some 200) (v := ?_) (a' := ?_) #[true, true, true, true, true, false, false, false, false] rfl rfl (by kernel_rfl) (fun _ _ _ h => h) (Or.inl ⟨by rfl, ?_⟩) ?_ ?_
          rotate_left
          ·intro w'
           go_simp
           with_reducible rfl
          rotate_left
          ·simp only [Act.put, List.setIfInBounds_toArray, List.set_cons_zero, List.set_cons_succ, i64_w, i32_w]
           rfl
          refine pure_ (i := 5) (N := some 201) (v := ?_) (a' := ?_) #[true, true, true, true, true, true, false, false, false] rfl rfl (by kernel_rfl) (fun _ _ _ h => h) (Or.inl ⟨by rfl, ?_⟩) ?_ ?_
          rotate_left
          ·intro w'
           go_simp
           with_reducible rfl
          rotate_left
          ·simp only [Act.put, List.setIfInBounds_toArray, List.set_cons_zero, List.set_cons_succ, i64_w, i32_w]
           rfl
          refine one_ (i := 6) (N := some 35) #[true, true, true, true, true, true, true, false, false] rfl rfl (by kernel_rfl) (by decide) (fun K hK => ?_)
          refine value3_ (w1 := wa56.alloc (.cells #[.slice none 0 0, .slice none 0 0] 48)) (v := .pointer (some ⟨wa56.heap.size, 0, none⟩)) (by rfl) rfl (by go_simp; try rfl) ?_
          clear hHeld
          obtain ⟨bq15, he_⟩ : ∃ b, b = wa56.heap.size := ⟨_, rfl⟩
          have hx_ : Bx (wa56.alloc (.cells #[.slice none 0 0, .slice none 0 0] 48)) bq15 (.slice none 0 0) (.slice none 0 0) := by rw [he_]; exact Bx.alloc _ _ _
          have hb_ : Below wa56.heap.size wa56 (wa56.alloc (.cells #[.slice none 0 0, .slice none 0 0] 48)) := below_alloc (Below.refl _ _) _
          replace HS := Aside0.mk (HS.out.box hx_ (Nat.le_of_eq he_.symm) hb_)
          rw [← he_]
          clear hx_ hb_
          generalize wa56.alloc (.cells #[.slice none 0 0, .slice none 0 0] 48) = wa57 at *
          clear he_
          refine hK.out _ _ ⟨(Bx.c0 (HS.out.bx 17 rfl)), (Bx.c1 (HS.out.bx 17 rfl))⟩ (fun hHeld => ?_)
          clear hK K
          refine norm_ (a' := ?_) ?_ ?_
          rotate_left
          ·show Act.put _ (some 35) _ = _
           simp only [Act.put, List.setIfInBounds_toArray, List.set_cons_zero, List.set_cons_succ, i64_w, i32_w]
           rfl
          have HJ := HS.out.keep drop2_
          refine norm_ ?_ (hJ ⟨Aen, cen, Aed, ced, Amn, cmn, Amd, cmd, bq15⟩ wa57 HJ)
          simp only [putAll, Act.put, List.setIfInBounds_toArray, List.set_cons_zero, List.set_cons_succ]
         ·refine value3_ (w1 := wa55.alloc (.cells #[.slice none 0 0, .slice none 0 0] 48)) (v := .pointer (some ⟨wa55.heap.size, 0, none⟩)) (by rfl) rfl (by go_simp; try rfl) ?_
          clear hHeld
          obtain ⟨bq15, he_⟩ : ∃ b, b = wa55.heap.size := ⟨_, rfl⟩
          have hx_ : Bx (wa55.alloc (.cells #[.slice none 0 0, .slice none 0 0] 48)) bq15 (.slice none 0 0) (.slice none 0 0) := by rw [he_]; exact Bx.alloc _ _ _
          have hb_ : Below wa55.heap.size wa55 (wa55.alloc (.cells #[.slice none 0 0, .slice none 0 0] 48)) := below_alloc (Below.refl _ _) _
          replace HS := Aside0.mk (HS.out.box hx_ (Nat.le_of_eq he_.symm) hb_)
          rw [← he_]
          clear hx_ hb_
          generalize wa55.alloc (.cells #[.slice none 0 0, .slice none 0 0] 48) = wa56 at *
          clear he_
          refine hK.out _ _ ⟨(Bx.c0 (HS.out.bx 17 rfl)), (Bx.c1 (HS.out.bx 17 rfl))⟩ (fun hHeld => ?_)
          clear hK K
          refine norm_ (a' := ?_) ?_ ?_
          rotate_left
          ·show Act.put _ (some 35) _ = _
           simp only [Act.put, List.setIfInBounds_toArray, List.set_cons_zero, List.set_cons_succ, i64_w, i32_w]
           rfl
          refine one_ (i := 2) (N := some 199) #[true, true, true, false, false, false, true, false, false] rfl rfl (by kernel_rfl) (by decide) (fun K hK => ?_)
          refine goes_ Tryd.func61 (by kernel_rfl) rfl #[.agg #[.slice A0 l0.length c0, .slice A1 l1.length c1], .agg #[.slice Aen ol.length cen, .slice Aed ol.length ced]] (by rfl) rfl rfl (by (try simp only [List.map_toArray, List.map_cons, List.map_nil]); first | done | rfl) ?_
          refine (ratMul_calls A0 c0 l0 A1 c1 l1 Aen cen ol Aed ced ol l0 l1 0 wa56 (HS.out.c 35 rfl) (HS.out.h 35 rfl) (HS.out.c 34 rfl) (HS.out.h 34 rfl) (HS.out.c 1 rfl) (HS.out.h 1 rfl) (HS.out.c 0 rfl) (HS.out.h 0 rfl) hL.out.1 hL.out.2.1 hLZ.out.2 hLZ.out.2 K15.out).mono ?_
          rintro e wa57 ⟨Amn, cmn, Amd, cmd, rfl, hCmn_, hHmn_, hCmd_, hHmd_, hb_⟩
          replace HS := Aside0.mk (((HS.out.step hb_).row hCmn_ hHmn_).row hCmd_ hHmd_)
          clear hb_ hCmn_ hHmn_ hCmd_ hHmd_
          refine ⟨_, rfl, ?_⟩
          clear hHeld
          refine hK.out _ _ ⟨(Bx.c0 (HS.out.bx 17 rfl)), (Bx.c1 (HS.out.bx 17 rfl))⟩ (fun hHeld => ?_)
          clear hK K
          refine norm_ (a' := ?_) ?_ ?_
          rotate_left
          ·show Act.put _ (some 199) _ = _
           simp only [Act.put, List.setIfInBounds_toArray, List.set_cons_zero, List.set_cons_succ, i64_w, i32_w]
           rfl
          refine pure_ (i := 3) (N := some 196) (v := ?_) (a' := ?_) #[true, true, true, true, false, false, true, false, false] rfl rfl (by kernel_rfl) (fun _ _ _ h => h) (Or.inl ⟨by rfl, ?_⟩) ?_ ?_
          rotate_left
          ·intro w'
           go_simp
           with_reducible rfl
          rotate_left
          ·simp only [Act.put, List.setIfInBounds_toArray, List.set_cons_zero, List.set_cons_succ, i64_w, i32_w]
           rfl
          refine pure_ (i := 4) (N := some 200) (v := ?_) (a' := ?_) #[true, true, true, true, true, false, true, false, false] rfl rfl (by kernel_rfl) (fun _ _ _ h => h) (Or.inl ⟨by rfl, ?_⟩) ?_ ?_
          rotate_left
          ·intro w'
           go_simp
           with_reducible rfl
          rotate_left
          ·simp only [Act.put, List.setIfInBounds_toArray, List.set_cons_zero, List.set_cons_succ, i64_w, i32_w]
           rfl
          refine pure_ (i := 5) (N := some 201) (v := ?_) (a' := ?_) #[true, true, true, true, true, true, true, false, false] rfl rfl (by kernel_rfl) (fun _ _ _ h => h) (Or.inl ⟨by rfl, ?_⟩) ?_ ?_
          rotate_left
          ·intro w'
           go_simp
           with_reducible rfl
          rotate_left
          ·simp only [Act.put, List.setIfInBounds_toArray, List.set_cons_zero, List.set_cons_succ, i64_w, i32_w]
           rfl
          have HJ := HS.out.keep drop2_
          refine norm_ ?_ (hJ ⟨Aen, cen, Aed, ced, Amn, cmn, Amd, cmd, bq15⟩ wa57 HJ)
          simp only [putAll, Act.put, List.setIfInBounds_toArray, List.set_cons_zero, List.set_cons_succ]
        ·refine value3_ (w1 := wa54.alloc (.cells #[.slice none 0 0, .slice none 0 0] 48)) (v := .pointer (some ⟨wa54.heap.size, 0, none⟩)) (by rfl) rfl (by go_simp; try rfl) ?_
         clear hHeld
         obtain ⟨bq15, he_⟩ : ∃ b, b = wa54.heap.size := ⟨_, rfl⟩
         have hx_ : Bx (wa54.alloc (.cells #[.slice none 0 0, .slice none 0 0] 48)) bq15 (.slice none 0 0) (.slice none 0 0) := by rw [he_]; exact Bx.alloc _ _ _
         have hb_ : Below wa54.heap.size wa54 (wa54.alloc (.cells #[.slice none 0 0, .slice none 0 0] 48)) := below_alloc (Below.refl _ _) _
         replace HS := Aside0.mk (HS.out.box hx_ (Nat.le_of_eq he_.symm) hb_)
         rw [← he_]
         clear hx_ hb_
         generalize wa54.alloc (.cells #[.slice none 0 0, .slice none 0 0] 48) = wa55 at *
         clear he_
         refine hK.out _ _ ⟨(Bx.c0 (HS.out.bx 17 rfl)), (Bx.c1 (HS.out.bx 17 rfl))⟩ (fun hHeld => ?_)
         clear hK K
         refine norm_ (a' := ?_) ?_ ?_
         rotate_left
         ·show Act.put _ (some 35) _ = _
          simp only [Act.put, List.setIfInBounds_toArray, List.set_cons_zero, List.set_cons_succ, i64_w, i32_w]
          rfl
         refine one_ (i := 1) (N := some 198) #[true, true, false, false, false, false, true, false, false] rfl rfl (by kernel_rfl) (by decide) (fun K hK => ?_)
         refine goes_ Tryd.func59 (by kernel_rfl) rfl #[] (by rfl) rfl rfl (by (try simp only [List.map_toArray, List.map_cons, List.map_nil]); first | done | rfl) ?_
         refine (ratOne_calls ol ol wa55 ⟨hZO.out.2, hZO.out.2⟩).mono ?_
         rintro e wa56 ⟨Aen, cen, Aed, ced, rfl, hCen_, hHen_, hCed_, hHed_, hb_⟩
         replace HS := Aside0.mk (((HS.out.step hb_).row hCen_ hHen_).row hCed_ hHed_)
         clear hb_ hCen_ hHen_ hCed_ hHed_
         refine ⟨_, rfl, ?_⟩
         clear hHeld
         refine hK.out _ _ ⟨(Bx.c0 (HS.out.bx 17 rfl)), (Bx.c1 (HS.out.bx 17 rfl))⟩ (fun hHeld => ?_)
         clear hK K
         refine norm_ (a' := ?_) ?_ ?_
         rotate_left
         ·show Act.put _ (some 198) _ = _
          simp only [Act.put, List.setIfInBounds_toArray, List.set_cons_zero, List.set_cons_succ, i64_w, i32_w]
          rfl
         refine one_ (i := 2) (N := some 199) #[true, true, true, false, false, false, true, false, false] rfl rfl (by kernel_rfl) (by decide) (fun K hK => ?_)
         refine goes_ Tryd.func61 (by kernel_rfl) rfl #[.agg #[.slice A0 l0.length c0, .slice A1 l1.length c1], .agg #[.slice Aen ol.length cen, .slice Aed ol.length ced]] (by rfl) rfl rfl (by (try simp only [List.map_toArray, List.map_cons, List.map_nil]); first | done | rfl) ?_
         refine (ratMul_calls A0 c0 l0 A1 c1 l1 Aen cen ol Aed ced ol l0 l1 0 wa56 (HS.out.c 35 rfl) (HS.out.h 35 rfl) (HS.out.c 34 rfl) (HS.out.h 34 rfl) (HS.out.c 1 rfl) (HS.out.h 1 rfl) (HS.out.c 0 rfl) (HS.out.h 0 rfl) hL.out.1 hL.out.2.1 hLZ.out.2 hLZ.out.2 K15.out).mono ?_
         rintro e wa57 ⟨Amn, cmn, Amd, cmd, rfl, hCmn_, hHmn_, hCmd_, hHmd_, hb_⟩
         replace HS := Aside0.mk (((HS.out.step hb_).row hCmn_ hHmn_).row hCmd_ hHmd_)
         clear hb_ hCmn_ hHmn_ hCmd_ hHmd_
         refine ⟨_, rfl, ?_⟩
         clear hHeld
         refine hK.out _ _ ⟨(Bx.c0 (HS.out.bx 17 rfl)), (Bx.c1 (HS.out.bx 17 rfl))⟩ (fun hHeld => ?_)
         clear hK K
         refine norm_ (a' := ?_) ?_ ?_
         rotate_left
         ·show Act.put _ (some 199) _ = _
          simp only [Act.put, List.setIfInBounds_toArray, List.set_cons_zero, List.set_cons_succ, i64_w, i32_w]
          rfl
         refine pure_ (i := 3) (N := some 196) (v := ?_) (a' := ?_) #[true, true, true, true, false, false, true, false, false] rfl rfl (by kernel_rfl) (fun _ _ _ h => h) (Or.inl ⟨by rfl, ?_⟩) ?_ ?_
         rotate_left
         ·intro w'
          go_simp
          with_reducible rfl
         rotate_left
         ·simp only [Act.put, List.setIfInBounds_toArray, List.set_cons_zero, List.set_cons_succ, i64_w, i32_w]
          rfl
         refine pure_ (i := 4) (N := some 200) (v := ?_) (a' := ?_) #[true, true, true, true, true, false, true, false, false] rfl rfl (by kernel_rfl) (fun _ _ _ h => h) (Or.inl ⟨by rfl, ?_⟩) ?_ ?_
         rotate_left
         ·intro w'
          go_simp
          with_reducible rfl
         rotate_left
         ·simp only [Act.put, List.setIfInBounds_toArray, List.set_cons_zero, List.set_cons_succ, i64_w, i32_w]
          rfl
         refine pure_ (i := 5) (N := some 201) (v := ?_) (a' := ?_) #[true, true, true, true, true, true, true, false, false] rfl rfl (by kernel_rfl) (fun _ _ _ h => h) (Or.inl ⟨by rfl, ?_⟩) ?_ ?_
         rotate_left
         ·intro w'
          go_simp
          with_reducible rfl
         rotate_left
         ·simp only [Act.put, List.setIfInBounds_toArray, List.set_cons_zero, List.set_cons_succ, i64_w, i32_w]
          rfl
         have HJ := HS.out.keep drop2_
         refine norm_ ?_ (hJ ⟨Aen, cen, Aed, ced, Amn, cmn, Amd, cmd, bq15⟩ wa57 HJ)
         simp only [putAll, Act.put, List.setIfInBounds_toArray, List.set_cons_zero, List.set_cons_succ]
       rintro ⟨Aen, cen, Aed, ced, Amn, cmn, Amd, cmd, bq15⟩ wj54 hst_
       dsimp only at hst_
       replace HS := Aside0.mk hst_
       clear hst_
       refine norm_ (a' := ?_) ?_ ?_
       rotate_left
       ·simp only [putAll, Act.put, List.setIfInBounds_toArray, List.set_cons_zero, List.set_cons_succ]
        rfl
       refine last_ (i := 7) (N := none) #[true, true, true, true, true, true, true, true, false] rfl rfl (by kernel_rfl) (by decide) (fun K hK => ?_)
       have qaq15 := Bx.c0 (HS.out.bx 0 rfl)
       have qbq15 := Bx.c1 (HS.out.bx 0 rfl)
       have qc_ := Bx.f0 (HS.out.bx 0 rfl)
       have qd_ := Bx.f1 (HS.out.bx 0 rfl)
       refine skip_ (w1 := (wj54.setCell ⟨bq15, 0, none⟩ (.slice Amn l0.length cmn)).setCell ⟨bq15, 1, none⟩ (.slice Amd l1.length cmd)) (by rfl) rfl (by go_simp; try rfl) ?_
       clear qaq15 qbq15 qc_ qd_
       replace HS := Aside0.mk (HS.out.store 0 rfl (.slice Amn l0.length cmn) (.slice Amd l1.length cmd) rfl)
       generalize (wj54.setCell ⟨bq15, 0, none⟩ (.slice Amn l0.length cmn)).setCell ⟨bq15, 1, none⟩ (.slice Amd l1.length cmd) = wa55 at *
       refine hK.out _ _ ?_
       clear hK K
       refine pure_ (i := 8) (N := some 36) (v := ?_) (a' := ?_) #[true, true, true, true, true, true, true, true, true] rfl rfl (by kernel_rfl) (fun _ _ _ h => h) (Or.inl ⟨by rfl, ?_⟩) ?_ ?_
       rotate_left
       ·intro w'
        go_simp
        with_reducible rfl
       rotate_left
       ·simp only [Act.put, List.setIfInBounds_toArray, List.set_cons_zero, List.set_cons_succ, i64_w, i32_w]
        rfl
       refine done_ (by kernel_rfl) ?_
       have qaq10 := Bx.c0 (HS.out.bx 5 rfl)
       have qbq10 := Bx.c1 (HS.out.bx 5 rfl)
       have qaq11 := Bx.c0 (HS.out.bx 4 rfl)
       have qbq11 := Bx.c1 (HS.out.bx 4 rfl)
       go_wp2_with fail
       refine (Same_calls Axn cxn xn Axd cxd xd Ayn cyn xn Ayd cyd xd true wa55 (HS.out.c 11 rfl) (HS.out.h 11 rfl) (HS.out.c 10 rfl) (HS.out.h 10 rfl) (HS.out.c 9 rfl) (HS.out.h 9 rfl) (HS.out.c 8 rfl) (HS.out.h 8 rfl) (Nat.le_trans Z10.out.1 (by decide)) (Nat.le_trans Z10.out.2.1 (by decide)) (by simp)).mono ?_
       rintro e wa56 ⟨rfl, hb_⟩
       replace HS := Aside0.mk (HS.out.step hb_)
       clear hb_
       clear qaq10 qbq10 qaq11 qbq11
       have qaq12 := Bx.c0 (HS.out.bx 3 rfl)
       have qbq12 := Bx.c1 (HS.out.bx 3 rfl)
       have qaq13 := Bx.c0 (HS.out.bx 2 rfl)
       have qbq13 := Bx.c1 (HS.out.bx 2 rfl)
       go_wp2_with fail
       refine (Same_calls Adn cdn dn Add cdd dd Aun cun dn Aud cud dd true wa56 (HS.out.c 7 rfl) (HS.out.h 7 rfl) (HS.out.c 6 rfl) (HS.out.h 6 rfl) (HS.out.c 5 rfl) (HS.out.h 5 rfl) (HS.out.c 4 rfl) (HS.out.h 4 rfl) (Nat.le_trans Z12.out.1 (by decide)) (Nat.le_trans Z12.out.2.1 (by decide)) (by simp)).mono ?_
       rintro e wa57 ⟨rfl, hb_⟩
       replace HS := Aside0.mk (HS.out.step hb_)
       clear hb_
       clear qaq12 qbq12 qaq13 qbq13
       have qaq14 := Bx.c0 (HS.out.bx 1 rfl)
       have qbq14 := Bx.c1 (HS.out.bx 1 rfl)
       have qaa := Bx.c0 (HS.out.bx 17 rfl)
       have qba := Bx.c1 (HS.out.bx 17 rfl)
       go_wp2_with fail
       refine (Same_calls Ann cnn l0 And cnd l1 A0 c0 l0 A1 c1 l1 true wa57 (HS.out.c 3 rfl) (HS.out.h 3 rfl) (HS.out.c 2 rfl) (HS.out.h 2 rfl) (HS.out.c 35 rfl) (HS.out.h 35 rfl) (HS.out.c 34 rfl) (HS.out.h 34 rfl) (Nat.le_trans hz.out.1 (by decide)) (Nat.le_trans hz.out.2 (by decide)) (by simp)).mono ?_
       rintro e wa58 ⟨rfl, hb_⟩
       replace HS := Aside0.mk (HS.out.step hb_)
       clear hb_
       clear qaq14 qbq14 qaa qba
       have qaq15 := Bx.c0 (HS.out.bx 0 rfl)
       have qbq15 := Bx.c1 (HS.out.bx 0 rfl)
       have qaa := Bx.c0 (HS.out.bx 17 rfl)
       have qba := Bx.c1 (HS.out.bx 17 rfl)
       go_wp2_with fail
       refine (Same_calls Amn cmn l0 Amd cmd l1 A0 c0 l0 A1 c1 l1 true wa58 (HS.out.c 1 rfl) (HS.out.h 1 rfl) (HS.out.c 0 rfl) (HS.out.h 0 rfl) (HS.out.c 35 rfl) (HS.out.h 35 rfl) (HS.out.c 34 rfl) (HS.out.h 34 rfl) (Nat.le_trans hz.out.1 (by decide)) (Nat.le_trans hz.out.2 (by decide)) (by simp)).mono ?_
       rintro e wa59 ⟨rfl, hb_⟩
       replace HS := Aside0.mk (HS.out.step hb_)
       clear hb_
       clear qaq15 qbq15 qaa qba
       go_wp2_with fail
       go_ret
       exact ⟨rfl, HS.out.below⟩

end Go.Proofs.YtoakfjcejamoeaaDoor.B
