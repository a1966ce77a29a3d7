import Derived.Test.YtoakfjcejamoeaaDoorBx7
import Derived.Test.YtoakfjcejamoeaaDoorBx9
namespace Go.Proofs.YtoakfjcejamoeaaDoor.B
open Go.RowKit Go.Proofs.YtoakfjcejamoeaaDoorW.PrintWords Go.Proofs.YtoakfjcejamoeaaDoorW.PrintLast Go.Proofs.YtoakfjcejamoeaaDoorW.PrintMore
set_option linter.unusedVariables false
set_option linter.unusedSimpArgs false
theorem limb_rd {l : List Int} (h : Bn.Limbs l) (i : Nat) : ∃ n : Nat, rd l (i : Int) = (n : Int) ∧ n < 4294967296 := by
  have := rd_limb h i
  exact ⟨(rd l (i : Int)).toNat, by omega, by omega⟩
theorem nv_set_nat {o : List Int} (hO : Bn.Limbs o) (p n m : Nat) (hp : p < o.length) (hm : rd o (p : Int) = (m : Int)) : Bn.nv (o.set p (n : Int)) + 4294967296 ^ p * m = Bn.nv o + 4294967296 ^ p * n := by
  have h := Bn.nv_set (l := o) p (n : Int) hp
  rw [rd_get' o p hp] at hm
  rw [hm] at h
  simpa using h
theorem rd_set_ne (o : List Int) (p : Nat) (v : Int) (j : Nat) (h : j ≠ p) : rd (o.set p v) (j : Int) = rd o (j : Int) := by
  simp [rd, List.getD_eq_getElem?_getD, List.getElem?_set, Ne.symm h]
/-- One step of the schoolbook product. -/
theorem mul_step {o : List Int} (hO : Bn.Limbs o) {x y c m : Nat} (hx : x < 4294967296) (hy : y < 4294967296) (hc : c < 4294967296) (p : Nat) (hp : p < o.length) (hm : rd o (p : Int) = (m : Int)) (hml : m < 4294967296) :
    Bn.Limbs (o.set p (((x * y + m + c) % 4294967296 : Nat) : Int)) ∧ (x * y + m + c) / 4294967296 < 4294967296 ∧ x * y + m + c < 18446744073709551616 ∧ x * y < 18446744073709551616 ∧ x * y + m < 18446744073709551616 ∧
    Bn.nv (o.set p (((x * y + m + c) % 4294967296 : Nat) : Int)) + 4294967296 ^ (p + 1) * ((x * y + m + c) / 4294967296) = Bn.nv o + 4294967296 ^ p * (x * y + c) := by
  have hxy : x * y ≤ 4294967295 * 4294967295 := Nat.mul_le_mul (by omega) (by omega)
  refine ⟨hO.set p _ (by omega), by omega, by omega, by omega, by omega, ?_⟩
  have h := nv_set_nat hO p ((x * y + m + c) % 4294967296) m hp hm
  have hd := Nat.div_add_mod (x * y + m + c) 4294967296
  generalize (x * y + m + c) / 4294967296 = q at hd ⊢
  generalize (x * y + m + c) % 4294967296 = r at hd h ⊢
  rw [Nat.pow_succ]
  generalize 4294967296 ^ p = P at h ⊢
  generalize Bn.nv (o.set p (r : Int)) = A at h ⊢
  generalize Bn.nv o = O at h ⊢
  generalize x * y = Z at hd ⊢
  grind
theorem wrapN {n : Nat} (h : n ≤ 9223372036854775807) : wrap64 (n : Int) = (n : Int) := w64 (by omega) (by omega)
theorem u64N {n : Nat} (h : n < 18446744073709551616) : IntKind.u64.wrap (n : Int) = (n : Int) := u64w (by omega) (by omega)
theorem Mul_l1 {a b : List Int} (ha : Bn.Limbs a) (hb : Bn.Limbs b) (hl : a.length + b.length ≤ 1048576) (i x : Nat) (hi : i < a.length) (hx : rd a (i : Int) = (x : Int)) (hxl : x < 4294967296) : ∀ (n j k : Nat) (o : List Int) (c : Nat), j + n = b.length → n < k → o.length = a.length + b.length → Bn.Limbs o → c < 4294967296 → (∀ t : Nat, i + b.length ≤ t → rd o (t : Int) = 0) →
    ∃ O : List Int, bignat_Mul.l1 k a b o (i : Int) (c : Int) (a.length : Int) (i : Int) (b.length : Int) (j : Int) = bignat_Mul.l0 (k - n - 1) a b O (a.length : Int) ((i + 1 : Nat) : Int) ∧ O.length = a.length + b.length ∧ Bn.Limbs O ∧ (∀ t : Nat, i + 1 + b.length ≤ t → rd O (t : Int) = 0) ∧
      Bn.nv O + x * 4294967296 ^ i * Bn.nv (b.take j) = Bn.nv o + 4294967296 ^ (i + j) * c + x * 4294967296 ^ i * Bn.nv b := by
  intro n
  induction n with
  | zero =>
    intro j k o c hj hk ho hO hc hz
    obtain ⟨k, rfl⟩ : ∃ m, k = m + 1 := ⟨k - 1, by omega⟩
    have hjb : j = b.length := by omega
    subst hjb
    simp only [bignat_Mul.l1]
    have e : wrap64 ((i : Int) + (b.length : Int)) = ((i + b.length : Nat) : Int) := by rw [w64 (by omega) (by omega)]; omega
    rw [if_neg (by omega), e, if_pos (by omega), if_pos (by omega), w64 (by omega) (by omega), Int.toNat_natCast, show (c : Int) % 4294967296 = (c : Int) by omega]
    refine ⟨o.set (i + b.length) (c : Int), by simp, by simpa using ho, hO.set _ _ (by omega), fun t ht => ?_, ?_⟩
    · rw [rd_set_ne _ _ _ _ (by omega)]
      exact hz t (by omega)
    · have h := nv_set_nat hO (i + b.length) c 0 (by omega) (by rw [hz _ (Nat.le_refl _)]; rfl)
      rw [List.take_length]
      omega
  | succ n ih =>
    intro j k o c hj hk ho hO hc hz
    obtain ⟨k, rfl⟩ : ∃ m, k = m + 1 := ⟨k - 1, by omega⟩
    simp only [bignat_Mul.l1]
    obtain ⟨y, hy, hyl⟩ := limb_rd hb j
    obtain ⟨m, hm, hml⟩ := limb_rd hO (i + j)
    have hij : i + j < o.length := by omega
    have hjb : j < b.length := by omega
    have hstep := mul_step hO hxl hyl hc (i + j) hij hm hml
    have s1 := hstep.1
    have s2 := hstep.2.1
    have s3 := hstep.2.2.1
    have s4 := hstep.2.2.2.1
    have s5 := hstep.2.2.2.2.1
    have S6 := Aside0.mk hstep.2.2.2.2.2
    clear hstep
    have e1 : ((x * y + m + c : Nat) : Int) % 4294967296 = (((x * y + m + c) % 4294967296 : Nat) : Int) := (Int.natCast_emod _ _).symm
    have e2 : ((x * y + m + c : Nat) : Int) / 4294967296 = (((x * y + m + c) / 4294967296 : Nat) : Int) := (Int.natCast_ediv _ _).symm
    have hj63 : j < 9223372036854775807 := by omega
    have hij63 : i + j ≤ 9223372036854775807 := by omega
    have hx64 : x < 18446744073709551616 := by omega
    have hy64 : y < 18446744073709551616 := by omega
    have hm64 : m < 18446744073709551616 := by omega
    have e3 := wrapN (n := j + 1) hj63
    have e4 := wrapN hij63
    have e5 := u64N hx64
    have e6 := u64N hy64
    have e7 := u64N hm64
    have e8 := u64N s4
    have e9 := u64N s5
    have e10 := u64N s3
    rw [Int.natCast_add] at e4
    rw [Int.natCast_add] at e3
    clear hj63 hij63 hx64 hy64 hm64
    rw [if_pos (Int.ofNat_lt.2 hjb), if_pos (Int.natCast_nonneg i), if_pos (Int.ofNat_lt.2 hi), if_pos (Int.natCast_nonneg j), if_pos (Int.ofNat_lt.2 hjb), e4, ← Int.natCast_add, if_pos (Int.natCast_nonneg _), if_pos (Int.ofNat_lt.2 hij), hx, hy, hm]
    rw [e5, e6, e7, ← Int.natCast_mul, e8, ← Int.natCast_add, e9, ← Int.natCast_add, e10, Int.toNat_natCast, show ((1 : Int)) = ((1 : Nat) : Int) from rfl, e3, ← Int.natCast_add, e1, e2]
    clear e1 e2 e3 e4 e5 e6 e7 e8 e9 e10
    obtain ⟨O, h1, h2, h3, h4, h5⟩ := ih (j + 1) k (o.set (i + j) (((x * y + m + c) % 4294967296 : Nat) : Int)) ((x * y + m + c) / 4294967296) (by omega) (by omega) (by simpa using ho) s1 s2 (fun t ht => by rw [rd_set_ne _ _ _ _ (by omega)]; exact hz t ht)
    refine ⟨O, ?_, h2, h3, h4, ?_⟩
    · rw [show k + 1 - (n + 1) - 1 = k - n - 1 by omega, ← h1]
    · have s6 := S6.out
      clear S6
      have ht := nv_take_nat b j
      rw [hy, Int.toNat_natCast] at ht
      rw [ht] at h5
      rw [show i + (j + 1) = i + j + 1 by omega] at h5
      have hp : 4294967296 ^ (i + j) = 4294967296 ^ i * 4294967296 ^ j := Nat.pow_add _ _ _
      generalize (x * y + m + c) / 4294967296 = q at s6 h5
      generalize Bn.nv (o.set (i + j) (((x * y + m + c) % 4294967296 : Nat) : Int)) = A at s6 h5
      rw [hp] at s6 ⊢
      generalize 4294967296 ^ (i + j + 1) = R at s6 h5
      generalize 4294967296 ^ i = P at s6 h5 ⊢
      generalize 4294967296 ^ j = S at s6 h5 ⊢
      generalize Bn.nv (b.take j) = V at h5 ⊢
      generalize Bn.nv b = W at h5 ⊢
      generalize Bn.nv o = U at s6 ⊢
      generalize Bn.nv O = T at h5 ⊢
      grind
theorem Mul_l0 {a b : List Int} (ha : Bn.Limbs a) (hb : Bn.Limbs b) (hl : a.length + b.length ≤ 1048576) : ∀ (n i k : Nat) (o : List Int), i + n = a.length → n * (b.length + 2) + a.length + b.length + 1 < k → o.length = a.length + b.length → Bn.Limbs o → (∀ t : Nat, i + b.length ≤ t → rd o (t : Int) = 0) → Bn.nv o = Bn.nv (a.take i) * Bn.nv b →
    bignat_Mul.l0 k a b o (a.length : Int) (i : Int) = some (fitB (Bn.nv a * Bn.nv b)) := by
  intro n
  induction n with
  | zero =>
    intro i k o hi hk ho hO hz hv
    obtain ⟨k, rfl⟩ : ∃ m, k = m + 1 := ⟨k - 1, by omega⟩
    simp only [bignat_Mul.l0]
    rw [if_neg (by omega), fitting_f hO (by omega) (by omega)]
    rw [hv, List.take_of_length_le (by omega)]
    rfl
  | succ n ih =>
    intro i k o hi hk ho hO hz hv
    obtain ⟨k, rfl⟩ : ∃ m, k = m + 1 := ⟨k - 1, by omega⟩
    simp only [bignat_Mul.l0]
    rw [if_pos (by omega)]
    obtain ⟨x, hx, hxl⟩ := limb_rd ha i
    have hmul : (n + 1) * (b.length + 2) = n * (b.length + 2) + (b.length + 2) := by rw [Nat.add_mul]; omega
    obtain ⟨O, h1, h2, h3, h4, h5⟩ := Mul_l1 ha hb hl i x (by omega) hx hxl b.length 0 k o 0 (by omega) (by omega) ho hO (by decide) hz
    refine Eq.trans h1 ?_
    refine ih (i + 1) (k - b.length - 1) O (by omega) (by omega) h2 h3 h4 ?_
    rw [nv_take_nat, hx, Int.toNat_natCast]
    simp only [List.take_zero, Bn.nv, Nat.mul_zero, Nat.add_zero] at h5
    rw [h5, hv, Nat.add_mul]
    congr 1
    rw [Nat.mul_comm x]
theorem rd_replicate (n t : Nat) : rd (List.replicate n 0) (t : Int) = 0 := by
  simp only [rd, Int.toNat_natCast, List.getD_eq_getElem?_getD, List.getElem?_replicate]
  split <;> rfl
theorem Mul_f {a b : List Int} (ha : Bn.Limbs a) (hb : Bn.Limbs b) (hl : a.length + b.length ≤ 1048576) {k : Nat} (hk : a.length * (b.length + 2) + a.length + b.length + 2 < k) : bignat_Mul.f k a b = some (if validB a && validB b then fitB (Bn.nv a * Bn.nv b) else ([], 1)) := by
  obtain ⟨k, rfl⟩ : ∃ m, k = m + 1 := ⟨k - 1, by omega⟩
  unfold bignat_Mul.f
  rw [Valid_f, Option.bind_some]
  cases hva : validB a
  · simp [bignat_Mul.j0]
  · rw [if_pos rfl, Valid_f, Option.bind_some]
    cases hvb : validB b
    · simp [bignat_Mul.j0]
    · simp only [bignat_Mul.j0, Bool.not_true, Bool.and_self, if_true]
      have e : wrap64 ((a.length : Int) + (b.length : Int)) = ((a.length + b.length : Nat) : Int) := by rw [w64 (by omega) (by omega)]; omega
      rw [if_neg (by simp), e, if_pos (by omega), Int.toNat_natCast, if_pos (by omega)]
      exact Mul_l0 ha hb hl a.length 0 k _ (by omega) (by omega) (by simp) (Bn.Limbs.replicate _) (fun t _ => rd_replicate _ t) (by simp [Bn.nv_replicate, Bn.nv])
theorem refValid_f (l : List Int) : lineageref03_Valid.f l = some (validB l) := by
  unfold lineageref03_Valid.f validB
  by_cases h : l.length ≤ 128
  · rw [if_pos (by omega), if_pos h]
    by_cases h0 : l.length = 0
    · rw [if_pos (by omega), if_pos h0]
    · rw [if_neg (by omega), if_neg h0, w64 (by omega) (by omega), if_pos (by omega), if_pos (by omega)]
  · rw [if_neg (by omega), if_neg h]
theorem refTrim_l0 (n : Nat) : ∀ (k : Nat) (l : List Int), l.length = n → n < k → l.length ≤ 4611686018427387904 → lineageref03_trim.l0 k l = some (Bn.trimL l) := by
  induction n with
  | zero =>
    intro k l hl hk _
    obtain ⟨k, rfl⟩ : ∃ m, k = m + 1 := ⟨k - 1, by omega⟩
    obtain rfl := List.eq_nil_of_length_eq_zero hl
    simp only [lineageref03_trim.l0]
    rw [if_neg (by simp)]
    rfl
  | succ n ih =>
    intro k l hl hk hs
    obtain ⟨k, rfl⟩ : ∃ m, k = m + 1 := ⟨k - 1, by omega⟩
    simp only [lineageref03_trim.l0]
    have e : wrap64 ((l.length : Int) - 1) = (n : Int) := (w64 (by omega) (by omega)).trans (by omega)
    have et : l = l.take n ++ [l[n]] := by
      have h := List.take_append_drop n l
      rw [List.drop_eq_getElem_cons (by omega), List.drop_of_length_le (by omega)] at h
      exact h.symm
    rw [if_pos (by omega), e, if_pos (by omega), if_pos (by omega), rd_get' l n (by omega)]
    by_cases h0 : l[n] = 0
    · rw [if_pos h0, if_pos (by omega), Int.toNat_natCast, ih k _ (by simp; omega) (by omega) (by simp; omega)]
      conv => rhs; rw [et, h0, Bn.trimL_snoc_zero]
    · rw [if_neg h0]
      conv => rhs; rw [et, Bn.trimL_snoc h0, ← et]
theorem refTrim_f {l : List Int} (h : Bn.Limbs l) (hl : l.length ≤ 4611686018427387904) {k : Nat} (hk : l.length < k) : lineageref03_trim.f k l = some (Bn.limbs (Bn.nv l)) := by
  unfold lineageref03_trim.f
  rw [refTrim_l0 l.length k l rfl hk hl, Bn.trimL_eq h]
theorem same_l0 (a b : List Int) (hl : a.length = b.length) (hs : a.length ≤ 4611686018427387904) : ∀ (n j k : Nat), j + n = a.length → n < k → lineagelaw03_same.l0 k a b (j : Int) = some (decide (a.drop j = b.drop j)) := by
  intro n
  induction n with
  | zero =>
    intro j k hj hk
    obtain ⟨k, rfl⟩ : ∃ m, k = m + 1 := ⟨k - 1, by omega⟩
    simp only [lineagelaw03_same.l0]
    rw [if_neg (by omega), List.drop_of_length_le (by omega), List.drop_of_length_le (by omega)]
    simp
  | succ n ih =>
    intro j k hj hk
    obtain ⟨k, rfl⟩ : ∃ m, k = m + 1 := ⟨k - 1, by omega⟩
    simp only [lineagelaw03_same.l0]
    rw [if_pos (by omega), if_pos (by omega), if_pos (by omega), rd_get' a j (by omega), rd_get' b j (by omega), List.drop_eq_getElem_cons (show j < a.length by omega), List.drop_eq_getElem_cons (show j < b.length by omega)]
    by_cases h : a[j] = b[j]
    · rw [if_pos h, show wrap64 ((j : Int) + 1) = ((j + 1 : Nat) : Int) from (w64 (by omega) (by omega)).trans (by omega), ih (j + 1) k (by omega) (by omega)]
      simp only [h, List.cons.injEq, true_and]
    · rw [if_neg h]
      simp only [h, List.cons.injEq, false_and, decide_false]
theorem same_f (a b : List Int) (hs : a.length ≤ 4611686018427387904) {k : Nat} (hk : a.length < k) : lineagelaw03_same.f k a b = some (decide (a = b)) := by
  unfold lineagelaw03_same.f
  by_cases h : a.length = b.length
  · rw [if_pos (by omega)]
    have := same_l0 a b h hs a.length 0 k (by omega) hk
    simpa using this
  · rw [if_neg (by omega)]
    have : a ≠ b := fun e => h (by rw [e])
    simp [this]
theorem small_l0 (m : Int) (L : List (List Int)) (hs : L.length ≤ 4611686018427387904) : ∀ (n j k : Nat), j + n = L.length → n < k → lineagelaw03_small.l0 k m L (j : Int) = some ((L.drop j).all (fun l => decide ((l.length : Int) ≤ m))) := by
  intro n
  induction n with
  | zero =>
    intro j k hj hk
    obtain ⟨k, rfl⟩ : ∃ m, k = m + 1 := ⟨k - 1, by omega⟩
    simp only [lineagelaw03_small.l0]
    rw [if_neg (by omega), List.drop_of_length_le (by omega)]
    rfl
  | succ n ih =>
    intro j k hj hk
    obtain ⟨k, rfl⟩ : ∃ m, k = m + 1 := ⟨k - 1, by omega⟩
    simp only [lineagelaw03_small.l0]
    have hr : rd_L1 L (j : Int) = L[j] := by simp [rd_L1, List.getD_eq_getElem?_getD, show j < L.length by omega]
    rw [if_pos (by omega), if_pos (by omega), hr, List.drop_eq_getElem_cons (show j < L.length by omega), List.all_cons]
    by_cases h : (L[j].length : Int) ≤ m
    · rw [if_neg (by omega), show wrap64 ((j : Int) + 1) = ((j + 1 : Nat) : Int) from (w64 (by omega) (by omega)).trans (by omega), ih (j + 1) k (by omega) (by omega)]
      simp [h]
    · rw [if_pos (by omega)]
      simp [h]
theorem small_f (m : Int) (L : List (List Int)) (hs : L.length ≤ 4611686018427387904) {k : Nat} (hk : L.length < k) : lineagelaw03_small.f k m L = some (L.all (fun l => decide ((l.length : Int) ≤ m))) := by
  unfold lineagelaw03_small.f
  exact small_l0 m L hs L.length 0 k (by omega) hk
theorem valid_l0 (L : List (List Int)) (hs : L.length ≤ 4611686018427387904) : ∀ (n j k : Nat), j + n = L.length → n < k → lineagelaw03_valid.l0 k L (j : Int) = some ((L.drop j).all validB) := by
  intro n
  induction n with
  | zero =>
    intro j k hj hk
    obtain ⟨k, rfl⟩ : ∃ m, k = m + 1 := ⟨k - 1, by omega⟩
    simp only [lineagelaw03_valid.l0]
    rw [if_neg (by omega), List.drop_of_length_le (by omega)]
    rfl
  | succ n ih =>
    intro j k hj hk
    obtain ⟨k, rfl⟩ : ∃ m, k = m + 1 := ⟨k - 1, by omega⟩
    simp only [lineagelaw03_valid.l0]
    have hr : rd_L1 L (j : Int) = L[j] := by simp [rd_L1, List.getD_eq_getElem?_getD, show j < L.length by omega]
    rw [if_pos (by omega), if_pos (by omega), hr, refValid_f, Option.bind_some, List.drop_eq_getElem_cons (show j < L.length by omega), List.all_cons]
    by_cases h : validB L[j] = true
    · rw [if_pos h, show wrap64 ((j : Int) + 1) = ((j + 1 : Nat) : Int) from (w64 (by omega) (by omega)).trans (by omega), ih (j + 1) k (by omega) (by omega)]
      simp [h]
    · rw [if_neg h]
      simp [h]
theorem valid_f (L : List (List Int)) (hs : L.length ≤ 4611686018427387904) {k : Nat} (hk : L.length < k) : lineagelaw03_valid.f k L = some (L.all validB) := by
  unfold lineagelaw03_valid.f
  exact valid_l0 L hs L.length 0 k (by omega) hk
theorem refMul_l1 {a b : List Int} (ha : Bn.Limbs a) (hb : Bn.Limbs b) (hl : a.length + b.length ≤ 1048576) (i x : Nat) (hi : i < a.length) (hx : rd a (i : Int) = (x : Int)) (hxl : x < 4294967296) : ∀ (n j k : Nat) (o : List Int) (c : Nat), j + n = b.length → n < k → o.length = a.length + b.length → Bn.Limbs o → c < 4294967296 → (∀ t : Nat, i + b.length ≤ t → rd o (t : Int) = 0) →
    ∃ O : List Int, lineageref03_Mul.l1 k a b o (i : Int) (c : Int) (j : Int) = lineageref03_Mul.l0 (k - n - 1) a b O ((i + 1 : Nat) : Int) ∧ O.length = a.length + b.length ∧ Bn.Limbs O ∧ (∀ t : Nat, i + 1 + b.length ≤ t → rd O (t : Int) = 0) ∧
      Bn.nv O + x * 4294967296 ^ i * Bn.nv (b.take j) = Bn.nv o + 4294967296 ^ (i + j) * c + x * 4294967296 ^ i * Bn.nv b := by
  intro n
  induction n with
  | zero =>
    intro j k o c hj hk ho hO hc hz
    obtain ⟨k, rfl⟩ : ∃ m, k = m + 1 := ⟨k - 1, by omega⟩
    have hjb : j = b.length := by omega
    subst hjb
    simp only [lineageref03_Mul.l1]
    have e : wrap64 ((i : Int) + (b.length : Int)) = ((i + b.length : Nat) : Int) := by rw [w64 (by omega) (by omega)]; omega
    rw [if_neg (by omega), e, if_pos (by omega), if_pos (by omega), Int.toNat_natCast, show wrap64 ((i : Int) + 1) = ((i + 1 : Nat) : Int) from (w64 (by omega) (by omega)).trans (by omega), show (c : Int) % 4294967296 = (c : Int) by omega]
    refine ⟨o.set (i + b.length) (c : Int), by simp, by simpa using ho, hO.set _ _ (by omega), fun t ht => ?_, ?_⟩
    · rw [rd_set_ne _ _ _ _ (by omega)]
      exact hz t (by omega)
    · have h := nv_set_nat hO (i + b.length) c 0 (by omega) (by rw [hz _ (Nat.le_refl _)]; rfl)
      rw [List.take_length]
      omega
  | succ n ih =>
    intro j k o c hj hk ho hO hc hz
    obtain ⟨k, rfl⟩ : ∃ m, k = m + 1 := ⟨k - 1, by omega⟩
    simp only [lineageref03_Mul.l1]
    obtain ⟨y, hy, hyl⟩ := limb_rd hb j
    obtain ⟨m, hm, hml⟩ := limb_rd hO (i + j)
    have hij : i + j < o.length := by omega
    have hjb : j < b.length := by omega
    have hstep := mul_step hO hxl hyl hc (i + j) hij hm hml
    have s1 := hstep.1
    have s2 := hstep.2.1
    have s3 := hstep.2.2.1
    have s4 := hstep.2.2.2.1
    have s5 := hstep.2.2.2.2.1
    have S6 := Aside0.mk hstep.2.2.2.2.2
    clear hstep
    have e1 : ((x * y + m + c : Nat) : Int) % 4294967296 = (((x * y + m + c) % 4294967296 : Nat) : Int) := (Int.natCast_emod _ _).symm
    have e2 : ((x * y + m + c : Nat) : Int) / 4294967296 = (((x * y + m + c) / 4294967296 : Nat) : Int) := (Int.natCast_ediv _ _).symm
    have hj63 : j < 9223372036854775807 := by omega
    have hij63 : i + j ≤ 9223372036854775807 := by omega
    have hx64 : x < 18446744073709551616 := by omega
    have hy64 : y < 18446744073709551616 := by omega
    have hm64 : m < 18446744073709551616 := by omega
    have e11 : (((x * y + m + c) % 4294967296 : Nat) : Int) % 4294967296 = (((x * y + m + c) % 4294967296 : Nat) : Int) := by omega
    have hq64 : (x * y + m + c) / 4294967296 < 18446744073709551616 := by omega
    have e3 := wrapN (n := j + 1) hj63
    have e12 := u64N hq64
    have e4 := wrapN hij63
    have e5 := u64N hx64
    have e6 := u64N hy64
    have e7 := u64N hm64
    have e8 := u64N s4
    have e9 := u64N s5
    have e10 := u64N s3
    rw [Int.natCast_add] at e4
    rw [Int.natCast_add] at e3
    clear hj63 hij63 hx64 hy64 hm64
    rw [if_pos (Int.ofNat_lt.2 hjb), if_pos (Int.natCast_nonneg i), if_pos (Int.ofNat_lt.2 hi), if_pos (Int.natCast_nonneg j), e4, ← Int.natCast_add, if_pos (Int.natCast_nonneg _), if_pos (Int.ofNat_lt.2 hij), hx, hy, hm]
    rw [e5, e6, e7, ← Int.natCast_mul, e8, ← Int.natCast_add, e9, ← Int.natCast_add, e10, Int.toNat_natCast, Int.tmod_eq_emod_of_nonneg (Int.natCast_nonneg _), Int.tdiv_eq_ediv_of_nonneg (Int.natCast_nonneg _), show ((1 : Int)) = ((1 : Nat) : Int) from rfl, e3, ← Int.natCast_add, e1, e2, e11, e12]
    clear e1 e2 e3 e4 e5 e6 e7 e8 e9 e10 e11 e12
    obtain ⟨O, h1, h2, h3, h4, h5⟩ := ih (j + 1) k (o.set (i + j) (((x * y + m + c) % 4294967296 : Nat) : Int)) ((x * y + m + c) / 4294967296) (by omega) (by omega) (by simpa using ho) s1 s2 (fun t ht => by rw [rd_set_ne _ _ _ _ (by omega)]; exact hz t ht)
    refine ⟨O, ?_, h2, h3, h4, ?_⟩
    · rw [show k + 1 - (n + 1) - 1 = k - n - 1 by omega, ← h1]
    · have s6 := S6.out
      clear S6
      have ht := nv_take_nat b j
      rw [hy, Int.toNat_natCast] at ht
      rw [ht] at h5
      rw [show i + (j + 1) = i + j + 1 by omega] at h5
      have hp : 4294967296 ^ (i + j) = 4294967296 ^ i * 4294967296 ^ j := Nat.pow_add _ _ _
      generalize (x * y + m + c) / 4294967296 = q at s6 h5
      generalize Bn.nv (o.set (i + j) (((x * y + m + c) % 4294967296 : Nat) : Int)) = A at s6 h5
      rw [hp] at s6 ⊢
      generalize 4294967296 ^ (i + j + 1) = R at s6 h5
      generalize 4294967296 ^ i = P at s6 h5 ⊢
      generalize 4294967296 ^ j = S at s6 h5 ⊢
      generalize Bn.nv (b.take j) = V at h5 ⊢
      generalize Bn.nv b = W at h5 ⊢
      generalize Bn.nv o = U at s6 ⊢
      generalize Bn.nv O = T at h5 ⊢
      grind
theorem refMul_l0 {a b : List Int} (ha : Bn.Limbs a) (hb : Bn.Limbs b) (hl : a.length + b.length ≤ 1048576) : ∀ (n i k : Nat) (o : List Int), i + n = a.length → n * (b.length + 2) + a.length + b.length + 1 < k → o.length = a.length + b.length → Bn.Limbs o → (∀ t : Nat, i + b.length ≤ t → rd o (t : Int) = 0) → Bn.nv o = Bn.nv (a.take i) * Bn.nv b →
    lineageref03_Mul.l0 k a b o (i : Int) = some (Bn.limbs (Bn.nv a * Bn.nv b)) := by
  intro n
  induction n with
  | zero =>
    intro i k o hi hk ho hO hz hv
    obtain ⟨k, rfl⟩ : ∃ m, k = m + 1 := ⟨k - 1, by omega⟩
    simp only [lineageref03_Mul.l0]
    rw [if_neg (by omega), refTrim_f hO (by omega) (by omega)]
    rw [hv, List.take_of_length_le (by omega)]
    rfl
  | succ n ih =>
    intro i k o hi hk ho hO hz hv
    obtain ⟨k, rfl⟩ : ∃ m, k = m + 1 := ⟨k - 1, by omega⟩
    simp only [lineageref03_Mul.l0]
    rw [if_pos (by omega)]
    obtain ⟨x, hx, hxl⟩ := limb_rd ha i
    have hmul : (n + 1) * (b.length + 2) = n * (b.length + 2) + (b.length + 2) := by rw [Nat.add_mul]; omega
    obtain ⟨O, h1, h2, h3, h4, h5⟩ := refMul_l1 ha hb hl i x (by omega) hx hxl b.length 0 k o 0 (by omega) (by omega) ho hO (by decide) hz
    refine Eq.trans h1 ?_
    refine ih (i + 1) (k - b.length - 1) O (by omega) (by omega) h2 h3 h4 ?_
    rw [nv_take_nat, hx, Int.toNat_natCast]
    simp only [List.take_zero, Bn.nv, Nat.mul_zero, Nat.add_zero] at h5
    rw [h5, hv, Nat.add_mul]
    congr 1
    rw [Nat.mul_comm x]
theorem refMul_f {a b : List Int} (ha : Bn.Limbs a) (hb : Bn.Limbs b) (hl : a.length + b.length ≤ 1048576) {k : Nat} (hk : a.length * (b.length + 2) + a.length + b.length + 1 < k) : lineageref03_Mul.f k a b = some (Bn.limbs (Bn.nv a * Bn.nv b)) := by
  unfold lineageref03_Mul.f
  have e : wrap64 ((a.length : Int) + (b.length : Int)) = ((a.length + b.length : Nat) : Int) := (w64 (by omega) (by omega)).trans (by omega)
  rw [e, if_pos (by omega), Int.toNat_natCast, if_pos (by omega)]
  exact refMul_l0 ha hb hl a.length 0 k _ (by omega) (by omega) (by simp) (Bn.Limbs.replicate _) (fun t _ => rd_replicate _ t) (by simp [Bn.nv_replicate, Bn.nv])
theorem awake_f : lineagelaw03_awake.f = some true := rfl
end Go.Proofs.YtoakfjcejamoeaaDoor.B
