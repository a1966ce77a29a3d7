import Derived.Test.YtoakfjcejamoeaaDoorL2
namespace Go.Proofs.YtoakfjcejamoeaaDoor.B
open Go.RowKit Go.Proofs.YtoakfjcejamoeaaDoorW.PrintWords Go.Proofs.YtoakfjcejamoeaaDoorW.PrintLast Go.Proofs.YtoakfjcejamoeaaDoorW.PrintMore
set_option linter.unusedVariables false
set_option linter.unusedSimpArgs false
/-! ### left -/
theorem pow_dvd_digit {v s : Nat} (hs : s ≤ 32) : 2 ^ s ∣ v * 2 ^ s % 4294967296 := by
  have h : (4294967296 : Nat) = 2 ^ s * 2 ^ (32 - s) := by rw [← Nat.pow_add, show s + (32 - s) = 32 by omega]
  rw [h, Nat.mul_comm v, Nat.mul_mod_mul_left]
  exact Nat.dvd_mul_right _ _
theorem or_low {a b s : Nat} (ha : a < 2 ^ s) (hb : 2 ^ s ∣ b) : a ||| b = a + b := by
  obtain ⟨c, rfl⟩ := hb
  have h := Nat.shiftLeft_add_eq_or_of_lt ha c
  rw [Nat.shiftLeft_eq] at h
  rw [Nat.or_comm, Nat.mul_comm (2 ^ s) c]
  omega
theorem two_pow_le {s : Nat} (h : s ≤ 32) : 2 ^ s ≤ 4294967296 := by
  have : 2 ^ s ≤ 2 ^ 32 := Nat.pow_le_pow_right (by decide) h
  rw [show (2 : Nat) ^ 32 = 4294967296 by decide] at this
  exact this
theorem shl_f {x s : Nat} (hx : x < 4294967296) (hs : s < 32) : shl .u64 (IntKind.u64.wrap (x : Int)) (s : Int) = ((x * 2 ^ s : Nat) : Int) := by
  have hp := two_pow_le (show s ≤ 32 by omega)
  have hm : x * 2 ^ s ≤ 4294967295 * 4294967296 := Nat.mul_le_mul (by omega) hp
  rw [u64N (by omega)]
  unfold shl
  rw [Int.toNat_natCast, show min s IntKind.u64.bits = s by have : IntKind.u64.bits = 64 := rfl; omega]
  rw [show ((x : Int) * 2 ^ s) = ((x * 2 ^ s : Nat) : Int) by rw [Int.natCast_mul, Int.natCast_pow]; rfl]
  exact u64N (by omega)
theorem or_u32 {a b s : Nat} (hs : s ≤ 32) (ha : a < 2 ^ s) (hb : 2 ^ s ∣ b) (hbl : b < 4294967296) : Go.bits .or .u32 (a : Int) (b : Int) = ((a + b : Nat) : Int) ∧ a + b < 4294967296 := by
  have hal : a < 4294967296 := Nat.lt_of_lt_of_le ha (two_pow_le hs)
  have e := or_low ha hb
  have hlt : a ||| b < 4294967296 := Nat.or_lt_two_pow (n := 32) hal hbl
  exact ⟨by rw [(bits_u32_nat a b hal hbl).2.1, e], by omega⟩
theorem left_l0 {l : List Int} (hl : Bn.Limbs l) (hs : l.length ≤ 1048576) {s : Nat} (hs2 : s < 32) : ∀ (n i k : Nat) (o : List Int) (c : Nat), i + n = l.length → n < k → o.length = l.length + 1 → Bn.Limbs o → (∀ t : Nat, i < t → rd o (t : Int) = 0) → rd o (i : Int) = (c : Int) → c < 2 ^ s → Bn.nv o = Bn.nv (l.take i) * 2 ^ s →
    ∃ O, bignat_left.l0 k l (s : Int) o (l.length : Int) (i : Int) = some O ∧ O.length = l.length + 1 ∧ Bn.Limbs O ∧ Bn.nv O = Bn.nv l * 2 ^ s := by
  intro n
  induction n with
  | zero =>
    intro i k o c hi hk ho hO hz hc hcl hv
    obtain ⟨k, rfl⟩ : ∃ m, k = m + 1 := ⟨k - 1, by omega⟩
    refine ⟨o, ?_, ho, hO, ?_⟩
    · simp only [bignat_left.l0]
      rw [if_neg (by omega)]
    · rw [hv, List.take_of_length_le (by omega)]
  | succ n ih =>
    intro i k o c hi hk ho hO hz hc hcl hv
    obtain ⟨k, rfl⟩ : ∃ m, k = m + 1 := ⟨k - 1, by omega⟩
    simp only [bignat_left.l0]
    obtain ⟨x, hx, hxl⟩ := limb_rd hl i
    have hp := two_pow_le (show s ≤ 32 by omega)
    have hlo : x * 2 ^ s % 4294967296 < 4294967296 := Nat.mod_lt _ (by decide)
    obtain ⟨e1, e2⟩ := or_u32 (show s ≤ 32 by omega) hcl (pow_dvd_digit (v := x) (show s ≤ 32 by omega)) hlo
    have hm : x * 2 ^ s < 2 ^ s * 4294967296 := by rw [Nat.mul_comm (2 ^ s)]; exact Nat.mul_lt_mul_of_pos_right hxl (Nat.two_pow_pos s)
    have hhi : x * 2 ^ s / 4294967296 < 2 ^ s := (Nat.div_lt_iff_lt_mul (by decide)).2 hm
    have hdm := Nat.div_add_mod (x * 2 ^ s) 4294967296
    have hi1 : i < l.length := by omega
    have hi2 : i < o.length := by omega
    have hi3 : i + 1 < o.length := by omega
    have hw : wrap64 ((i : Int) + 1) = ((i + 1 : Nat) : Int) := (w64 (by omega) (by omega)).trans (by omega)
    rw [if_pos (Int.ofNat_lt.2 hi1), if_pos (Int.natCast_nonneg i), if_pos (Int.ofNat_lt.2 hi1), if_pos (Int.natCast_nonneg s), if_pos (Int.ofNat_lt.2 hi2), hw, if_pos (Int.natCast_nonneg _), if_pos (Int.ofNat_lt.2 hi3), hx, hc, shl_f hxl hs2, Int.toNat_natCast, Int.toNat_natCast]
    rw [show (((x * 2 ^ s : Nat) : Int) % 4294967296) = ((x * 2 ^ s % 4294967296 : Nat) : Int) from (Int.natCast_emod _ _).symm, e1, show (((x * 2 ^ s : Nat) : Int) / 4294967296) = ((x * 2 ^ s / 4294967296 : Nat) : Int) from (Int.natCast_ediv _ _).symm,
      show ((x * 2 ^ s / 4294967296 : Nat) : Int) % 4294967296 = ((x * 2 ^ s / 4294967296 : Nat) : Int) from Int.emod_eq_of_lt (Int.natCast_nonneg _) (Int.ofNat_lt.2 (Nat.lt_of_lt_of_le hhi hp))]
    clear hw
    generalize hlod : x * 2 ^ s % 4294967296 = lo at *
    generalize hhid : x * 2 ^ s / 4294967296 = hi' at *
    have a1 := nv_set_nat hO i (c + lo) c hi2 hc
    have L1 : Bn.Limbs (o.set i ((c + lo : Nat) : Int)) := hO.set i _ ⟨Int.natCast_nonneg _, Int.ofNat_lt.2 e2⟩
    have a2 := nv_set_nat L1 (i + 1) hi' 0 (by simpa using hi3) (by rw [rd_set_ne _ _ _ _ (by omega)]; exact hz (i + 1) (by omega))
    refine ih (i + 1) k _ hi' (by omega) (by omega) (by simpa using ho) (L1.set _ _ ⟨Int.natCast_nonneg _, Int.ofNat_lt.2 (Nat.lt_of_lt_of_le hhi hp)⟩) (fun t ht => ?_) ?_ hhi ?_
    · rw [rd_set_ne _ _ _ _ (by omega), rd_set_ne _ _ _ _ (by omega)]
      exact hz t (by omega)
    · rw [rd_get' _ _ (by simpa using hi3)]
      simp
    · rw [nv_take_nat, hx, Int.toNat_natCast]
      rw [Nat.pow_succ] at a2
      generalize Bn.nv ((o.set i ((c + lo : Nat) : Int)).set (i + 1) (hi' : Int)) = A2 at a2 ⊢
      generalize Bn.nv (o.set i ((c + lo : Nat) : Int)) = A1 at a1 a2
      generalize 4294967296 ^ i = P at a1 a2 ⊢
      generalize Bn.nv (l.take i) = V at hv ⊢
      generalize Bn.nv o = U at hv a1
      generalize 2 ^ s = S at hdm hv ⊢
      grind
theorem left_f {l : List Int} (hl : Bn.Limbs l) (hs : l.length ≤ 1048576) {s : Nat} (hs2 : s < 32) {k : Nat} (hk : l.length < k) : ∃ O, bignat_left.f k l (s : Int) = some O ∧ O.length = l.length + 1 ∧ Bn.Limbs O ∧ Bn.nv O = Bn.nv l * 2 ^ s := by
  unfold bignat_left.f
  have e : wrap64 ((l.length : Int) + 1) = ((l.length + 1 : Nat) : Int) := (w64 (by omega) (by omega)).trans (by omega)
  rw [e, if_pos (Int.natCast_nonneg _), Int.toNat_natCast, if_pos (by clear e; omega)]
  exact left_l0 hl hs hs2 l.length 0 k _ 0 (by omega) hk (by simp) (Bn.Limbs.replicate _) (fun t _ => rd_replicate _ t) (rd_replicate _ 0) (Nat.two_pow_pos s) (by simp [Bn.nv_replicate, Bn.nv])
/-! ### right -/
def rightD (l : List Int) (s i : Nat) : Int := ((rd l (i : Int) + 4294967296 * rd l ((i + 1 : Nat) : Int)) / 2 ^ s) % 4294967296
def rightOut (l : List Int) (s n : Nat) : List Int := (List.range n).map (rightD l s)
theorem rightOut_set (l : List Int) (s : Nat) {n i : Nat} (h : i < n) : (rightOut l s i ++ List.replicate (n - i) 0).set i (rightD l s i) = rightOut l s (i + 1) ++ List.replicate (n - (i + 1)) 0 := by
  obtain ⟨m, hm⟩ : ∃ m, n - i = m + 1 := ⟨n - i - 1, by omega⟩
  rw [hm, show n - (i + 1) = m by omega, List.replicate_succ, List.set_append_right _ _ (by simp [rightOut])]
  simp [rightOut, List.range_succ]
theorem rightOut_limbs (l : List Int) (s n : Nat) : Bn.Limbs (rightOut l s n) := fun x hx => by
  obtain ⟨i, _, rfl⟩ := List.mem_map.1 hx
  unfold rightD
  omega
theorem rd_cons (x : Int) (t : List Int) (i : Nat) : rd (x :: t) ((i + 1 : Nat) : Int) = rd t (i : Int) := by
  simp only [rd, Int.toNat_natCast, List.getD_cons_succ]
theorem rd_cons0 (x : Int) (t : List Int) : rd (x :: t) ((0 : Nat) : Int) = x := by simp [rd]
theorem rightOut_cons (x : Int) (t : List Int) (s n : Nat) : rightOut (x :: t) s (n + 1) = rightD (x :: t) s 0 :: rightOut t s n := by
  unfold rightOut
  rw [List.range_succ_eq_map, List.map_cons, List.map_map]
  congr 1
theorem digit_split {x N y s : Nat} (hx : x < 4294967296) (hs : s ≤ 32) (hy : y = N % 4294967296) : (x + 4294967296 * y) / 2 ^ s % 4294967296 + 4294967296 * (N / 2 ^ s) = (x + 4294967296 * N) / 2 ^ s := by
  have hB : (4294967296 : Nat) = 2 ^ s * 2 ^ (32 - s) := by rw [← Nat.pow_add, show s + (32 - s) = 32 by omega]
  have hpos := Nat.two_pow_pos s
  have key : ∀ M : Nat, (x + 4294967296 * M) / 2 ^ s = (x + 4294967296 * (M % 2 ^ s)) / 2 ^ s + 4294967296 * (M / 2 ^ s) := by
    intro M
    have h := Nat.div_add_mod M (2 ^ s)
    have e : x + 4294967296 * M = (x + 4294967296 * (M % 2 ^ s)) + 2 ^ s * (4294967296 * (M / 2 ^ s)) := by
      conv => lhs; rw [← h]
      generalize M / 2 ^ s = q
      generalize M % 2 ^ s = r
      generalize 2 ^ s = S
      grind
    rw [e, Nat.add_mul_div_left _ _ hpos]
  have hmod : N % 2 ^ s = y % 2 ^ s := by
    rw [hy, hB, Nat.mod_mul_right_mod]
  have hlt : (x + 4294967296 * (N % 2 ^ s)) / 2 ^ s < 4294967296 := by
    have h1 := Nat.mod_lt N hpos
    rw [Nat.div_lt_iff_lt_mul hpos]
    generalize N % 2 ^ s = r at h1 ⊢
    generalize 2 ^ s = S at h1 ⊢
    omega
  rw [key N, key y, ← hmod, Nat.add_mul_mod_self_left, Nat.mod_eq_of_lt hlt]
theorem rightOut_nv {l : List Int} (hl : Bn.Limbs l) {s : Nat} (hs : s ≤ 32) : Bn.nv (rightOut l s l.length) = Bn.nv l / 2 ^ s := by
  induction l with
  | nil => simp [rightOut, Bn.nv]
  | cons x t ih =>
    have h1 := hl.cons
    rw [List.length_cons, rightOut_cons]
    simp only [Bn.nv]
    rw [ih h1.2]
    obtain ⟨y, hy, hyl⟩ := limb_rd h1.2 0
    have hyN : y = Bn.nv t % 4294967296 := by
      cases t with
      | nil => simp [rd] at hy; simp [Bn.nv]; omega
      | cons z u =>
        rw [rd_cons0] at hy
        have h2 := h1.2.cons.1
        simp only [Bn.nv]
        omega
    obtain ⟨x', hx'⟩ := Int.eq_ofNat_of_zero_le h1.1.1
    have hxl : x' < 4294967296 := by omega
    have e : (rightD (x :: t) s 0).toNat = (x' + 4294967296 * y) / 2 ^ s % 4294967296 := by
      unfold rightD
      rw [rd_cons0, rd_cons, hy, hx']
      have e2 : (((x' : Int) + 4294967296 * (y : Int)) / 2 ^ s) % 4294967296 = (((x' + 4294967296 * y) / 2 ^ s % 4294967296 : Nat) : Int) := by
        rw [Int.natCast_emod, Int.natCast_ediv, Int.natCast_add, Int.natCast_mul, Int.natCast_pow]
        rfl
      rw [e2, Int.toNat_natCast]
    rw [e, hx', Int.toNat_natCast]
    exact digit_split hxl hs hyN
theorem or_u64' {a b : Int} (ha : 0 ≤ a ∧ a < 4294967296) (hb : 0 ≤ b ∧ b < 4294967296) : Go.bits .or .u64 b (a * 4294967296) = a * 4294967296 + b := by
  obtain ⟨x, rfl⟩ := Int.eq_ofNat_of_zero_le ha.1
  obtain ⟨y, rfl⟩ := Int.eq_ofNat_of_zero_le hb.1
  have hx : x < 4294967296 := by omega
  have hy : y < 4294967296 := by omega
  have h := (bits_nat .u64 64 (by decide) (fun n h0 h1 => u64w h0 (by rw [show ((2 : Int) ^ 64) = 18446744073709551616 by decide] at h1; exact h1)) y (x * 4294967296) (Nat.lt_of_lt_of_eq (show y < 18446744073709551616 by omega) (by decide)) (Nat.lt_of_lt_of_eq (show x * 4294967296 < 18446744073709551616 by omega) (by decide))).2
  rw [Nat.or_comm, or_nat hy] at h
  rw [show ((x : Int) * 4294967296) = ((x * 4294967296 : Nat) : Int) from (Int.natCast_mul x 4294967296).symm]
  exact h.trans (Int.natCast_add _ _)
theorem shr_f {x : Int} {s : Nat} (hs : s < 32) : shr .u64 x (s : Int) = x / 2 ^ s := by
  unfold shr
  rw [Int.toNat_natCast, show min s IntKind.u64.bits = s by have : IntKind.u64.bits = 64 := rfl; omega]
theorem right_l0 {l : List Int} (hl : Bn.Limbs l) (hs : l.length ≤ 1048576) {s : Nat} (hs2 : s < 32) : ∀ (n i k : Nat), i + n = l.length → n < k →
    bignat_right.l0 k l (s : Int) (rightOut l s i ++ List.replicate (l.length - i) 0) (l.length : Int) (i : Int) = some (rightOut l s l.length) := by
  intro n
  induction n with
  | zero =>
    intro i k hi hk
    obtain ⟨k, rfl⟩ : ∃ m, k = m + 1 := ⟨k - 1, by omega⟩
    obtain rfl : i = l.length := by omega
    simp only [bignat_right.l0]
    rw [if_neg (by omega)]
    simp
  | succ n ih =>
    intro i k hi hk
    obtain ⟨k, rfl⟩ : ∃ m, k = m + 1 := ⟨k - 1, by omega⟩
    simp only [bignat_right.l0]
    have hol : (rightOut l s i ++ List.replicate (l.length - i) 0).length = l.length := by simp [rightOut]; omega
    obtain ⟨x, hx, hxl⟩ := limb_rd hl i
    obtain ⟨y, hy, hyl⟩ := limb_rd hl (i + 1)
    have hi1 : i < l.length := by omega
    have hn : l.length - i = l.length - i := rfl
    have e := ih (i + 1) k (by omega) (by omega)
    rw [← rightOut_set l s hi1] at e
    have ew : wrap64 ((i : Int) + 1) = ((i + 1 : Nat) : Int) := (w64 (by omega) (by omega)).trans (by omega)
    rw [ew]
    clear ew
    rw [if_pos (by omega), if_pos (by omega), if_pos (by omega)]
    by_cases h2 : i + 1 < l.length
    · rw [if_pos (Int.ofNat_lt.2 h2), if_pos (Int.natCast_nonneg _), if_pos (Int.natCast_nonneg _), if_pos (by rw [hol]; omega), hx, hy, u64N (by omega), u64N (by omega)]
      rw [u64w (n := (y : Int) * 4294967296) (by omega) (by omega), or_u64' (by omega) (by omega), shr_f hs2, Int.toNat_natCast]
      have ed : ((y : Int) * 4294967296 + (x : Int)) / 2 ^ s % 4294967296 = rightD l s i := by
        unfold rightD
        rw [hx, hy, Int.mul_comm, Int.add_comm]
      rw [ed]
      exact e
    · rw [if_neg (fun h => h2 (Int.ofNat_lt.1 h)), if_pos (Int.natCast_nonneg _), if_pos (by rw [hol]; omega), hx, u64N (by omega), shr_f hs2, Int.toNat_natCast]
      have ed : ((x : Int)) / 2 ^ s % 4294967296 = rightD l s i := by
        unfold rightD
        rw [hx, rd_beyond l (i + 1) (by omega), Int.mul_zero, Int.add_zero]
      rw [ed]
      exact e
theorem right_f {l : List Int} (hl : Bn.Limbs l) (hs : l.length ≤ 1048576) {s : Nat} (hs2 : s < 32) {k : Nat} (hk : l.length < k) : bignat_right.f k l (s : Int) = some (rightOut l s l.length) := by
  unfold bignat_right.f
  rw [if_pos (by omega), Int.toNat_natCast, if_pos (by omega)]
  exact right_l0 hl hs hs2 l.length 0 k (by omega) hk
end Go.Proofs.YtoakfjcejamoeaaDoor.B
