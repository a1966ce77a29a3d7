import Derived.Test.YtoakfjcejamoeaaDoorL5
import Derived.Test.YtoakfjcejamoeaaDoorBx13
namespace Go.Proofs.YtoakfjcejamoeaaDoor.B
open Go.RowKit Go.Proofs.YtoakfjcejamoeaaDoorW.PrintWords Go.Proofs.YtoakfjcejamoeaaDoorW.PrintLast Go.Proofs.YtoakfjcejamoeaaDoorW.PrintMore
set_option exponentiation.threshold 8200
set_option linter.unusedVariables false
set_option linter.unusedSimpArgs false
/-! ### Bits -/
theorem bits_l0 : ∀ (s k x : Nat) (c : Nat), x < 2 ^ s → s < k → s ≤ 64 → c + s ≤ 1000000 → x < 4294967296 → ∃ t : Nat, lineageref03_Bits.l0 k (c : Int) (x : Int) = some ((c + t : Nat) : Int) ∧ x < 2 ^ t ∧ (0 < x → 0 < t ∧ 2 ^ (t - 1) ≤ x) ∧ t ≤ s := by
  intro s
  induction s with
  | zero =>
    intro k x c hx hk _ _ _
    obtain ⟨k, rfl⟩ : ∃ m, k = m + 1 := ⟨k - 1, by omega⟩
    have : x = 0 := by simpa using hx
    subst this
    exact ⟨0, by simp [lineageref03_Bits.l0], by decide, fun h => absurd h (by decide), Nat.le_refl _⟩
  | succ s ih =>
    intro k x c hx hk hs hc hxl
    obtain ⟨k, rfl⟩ : ∃ m, k = m + 1 := ⟨k - 1, by omega⟩
    by_cases h0 : x = 0
    · subst h0
      exact ⟨0, by simp [lineageref03_Bits.l0], by decide, fun h => absurd h (by decide), Nat.zero_le _⟩
    · simp only [lineageref03_Bits.l0]
      rw [Nat.pow_succ] at hx
      have ed : (Int.tdiv (x : Int) 2) % 4294967296 = ((x / 2 : Nat) : Int) := by
        rw [Int.tdiv_eq_ediv_of_nonneg (Int.natCast_nonneg _)]
        omega
      have ew : wrap64 ((c : Int) + 1) = ((c + 1 : Nat) : Int) := (w64 (by omega) (by omega)).trans (by omega)
      rw [if_pos (by clear ew; omega), ed, ew]
      clear ew ed
      obtain ⟨t, h1, h2, h3, h4⟩ := ih k (x / 2) (c + 1) (by omega) (by omega) (by omega) (by omega) (by omega)
      have h2' : x < 2 ^ (t + 1) := by rw [Nat.pow_succ]; omega
      refine ⟨t + 1, by rw [h1, Nat.add_assoc, Nat.add_comm 1 t], h2', fun _ => ⟨by omega, ?_⟩, by omega⟩
      simp only [Nat.add_sub_cancel]
      by_cases hx1 : x / 2 = 0
      · have : t = 0 := by
          rw [hx1] at h1
          obtain ⟨k, rfl⟩ : ∃ m, k = m + 1 := ⟨k - 1, by omega⟩
          simp only [lineageref03_Bits.l0] at h1
          rw [if_neg (by decide)] at h1
          injection h1 with h1
          omega
        subst this
        simp
        omega
      · have h5 := h3 (by omega)
        obtain ⟨u, rfl⟩ : ∃ u, t = u + 1 := ⟨t - 1, by omega⟩
        simp only [Nat.add_sub_cancel] at h5
        rw [Nat.pow_succ]
        omega
theorem nv_top {l : List Int} (hl : Bn.Limbs l) (m x : Nat) (hm : l.length = m + 1) (hx : rd l (m : Int) = (x : Int)) : 4294967296 ^ m * x ≤ Bn.nv l ∧ Bn.nv l < 4294967296 ^ m * (x + 1) := by
  have h := nv_take_nat l m
  rw [List.take_of_length_le (by omega), hx, Int.toNat_natCast] at h
  have h2 := nv_take_lt hl m (by omega)
  rw [Nat.mul_add, Nat.mul_one]
  generalize 4294967296 ^ m * x = A at h ⊢
  generalize 4294967296 ^ m = P at h2 ⊢
  omega
theorem bits_f {l : List Int} (hl : Bn.Nrm l) (hne : l ≠ []) (hs : l.length ≤ 2000) {k : Nat} (hk : 40 < k) : ∃ T : Nat, lineageref03_Bits.f k l = some (T : Int) ∧ Bn.nv l < 2 ^ T ∧ 2 ^ (T - 1) ≤ Bn.nv l ∧ 0 < T ∧ T ≤ 64000 := by
  obtain ⟨m, hm⟩ : ∃ m, l.length = m + 1 := ⟨l.length - 1, by have := List.length_pos_iff.2 hne; omega⟩
  obtain ⟨x, hx, hxl⟩ := limb_rd hl.1 m
  have hx0 : 0 < x := by
    have := last_ne hl m hm
    rw [hx] at this
    omega
  unfold lineageref03_Bits.f
  have e1 : wrap64 ((l.length : Int) - 1) = (m : Int) := (w64 (by omega) (by omega)).trans (by omega)
  have e2 : wrap64 (32 * (m : Int)) = ((32 * m : Nat) : Int) := (w64 (by omega) (by omega)).trans (by omega)
  rw [if_neg (by clear e1 e2; omega), e1, if_pos (Int.natCast_nonneg _), if_pos (by clear e1 e2; omega), e2, hx]
  clear e1 e2
  obtain ⟨t, h1, h2, h3, h4⟩ := bits_l0 32 k x (32 * m) (Nat.lt_of_lt_of_eq hxl (by decide)) (by omega) (by omega) (by omega) hxl
  obtain ⟨h5, h6⟩ := h3 hx0
  obtain ⟨h7, h8⟩ := nv_top hl.1 m x hm hx
  have ep : 4294967296 ^ m = 2 ^ (32 * m) := by rw [show (4294967296 : Nat) = 2 ^ 32 by decide, ← Nat.pow_mul]
  rw [ep] at h7 h8
  refine ⟨32 * m + t, h1, ?_, ?_, by omega, by omega⟩
  · rw [Nat.pow_add]
    exact Nat.lt_of_lt_of_le h8 (Nat.mul_le_mul_left _ h2)
  · rw [show 32 * m + t - 1 = 32 * m + (t - 1) by omega, Nat.pow_add]
    exact Nat.le_trans (Nat.mul_le_mul_left _ h6) h7
theorem pow2L_nv (q s : Nat) : Bn.nv (pow2L q s) = 2 ^ (32 * q + s) := by
  have h := nv_set_nat (Bn.Limbs.replicate (q + 1)) q (2 ^ s) 0 (by simp) (rd_replicate _ _)
  rw [Bn.nv_replicate, Nat.mul_zero, Nat.add_zero, Nat.zero_add] at h
  unfold pow2L
  rw [h, Nat.pow_add, show (4294967296 : Nat) = 2 ^ 32 by decide, ← Nat.pow_mul]
theorem pow2L_nrm (q : Nat) {s : Nat} (hs : s < 32) : Bn.Nrm (pow2L q s) := by
  have hp := two_pow_lt hs
  have hL : Bn.Limbs (pow2L q s) := (Bn.Limbs.replicate _).set _ _ ⟨Int.natCast_nonneg _, Int.ofNat_lt.2 hp⟩
  refine Bn.nrm_of_last hL (.inr ?_)
  rw [List.getLast?_eq_getElem?]
  have hl : (pow2L q s).length = q + 1 := by simp [pow2L]
  rw [hl, Nat.add_sub_cancel]
  unfold pow2L
  rw [List.getElem?_set_self (by simp)]
  intro h
  injection h with h
  have : 0 < 2 ^ s := Nat.two_pow_pos s
  omega
/-- What Shift answers for a valid number. -/
def shiftB (v : Nat) (bits : Int) : List Int × Int := if v = 0 then ([], 0) else if bits < 0 then (Bn.limbs (v / 2 ^ (-bits).toNat), 0) else if bits > 4096 then ([], 6) else fitB (v * 2 ^ bits.toNat)
theorem big_iff (N : Nat) : 128 < (Bn.limbs N).length ↔ 2 ^ 4096 ≤ N := by
  have h := Bn.limbs_len N 128
  rw [show (4294967296 : Nat) ^ 128 = 2 ^ 4096 by rw [show (4294967296 : Nat) = 2 ^ 32 by decide, ← Nat.pow_mul]] at h
  generalize (2 : Nat) ^ 4096 = P at h ⊢
  omega
theorem nrm_small {l : List Int} (h : Bn.Nrm l) (hl : l.length ≤ 128) : Bn.nv l < 2 ^ 4096 := by
  have h2 := big_iff (Bn.nv l)
  rw [h.2] at h2
  generalize (2 : Nat) ^ 4096 = P at h2 ⊢
  omega
theorem refShift_f {l : List Int} (hl : Bn.Nrm l) (hs : l.length ≤ 128) (bits : Int) (hb0 : -9223372036854775808 ≤ bits) (hb1 : bits ≤ 9223372036854775807) {k : Nat} (hk : 60000 < k) : lineageref03_Shift.f k l bits = some (shiftB (Bn.nv l) bits) := by
  obtain ⟨k, rfl⟩ : ∃ m, k = m + 1 := ⟨k - 1, by omega⟩
  obtain ⟨k, rfl⟩ : ∃ m, k = m + 1 := ⟨k - 1, by omega⟩
  unfold lineageref03_Shift.f shiftB
  by_cases h0 : l.length = 0
  · obtain rfl := List.eq_nil_of_length_eq_zero h0
    rw [if_pos (by simp), if_pos (by rfl)]
    simp [lineageref03_Shift.j0]
  · have hne : l ≠ [] := by rintro rfl; simp at h0
    have hv0 : Bn.nv l ≠ 0 := fun h => hne ((Bn.nv_zero hl).1 h)
    rw [if_neg (by omega), if_neg hv0]
    by_cases hm : bits ≤ -4096
    · rw [decide_eq_true hm, if_pos (by omega)]
      have hz : Bn.nv l / 2 ^ (-bits).toNat = 0 := Nat.div_eq_of_lt (Nat.lt_of_lt_of_le (nrm_small hl hs) (Nat.pow_le_pow_right (by decide) (by omega)))
      rw [hz, Bn.limbs_zero]
      simp [lineageref03_Shift.j0]
    · rw [decide_eq_false hm]
      simp only [lineageref03_Shift.j0]
      rw [if_neg (by simp)]
      by_cases hn : bits < 0
      · obtain ⟨n, hnn⟩ : ∃ n : Nat, -bits = (n : Int) := ⟨(-bits).toNat, by omega⟩
        rw [if_pos hn, if_pos hn, w64 (by omega) (by omega), hnn]
        unfold lineageref03_Pow2.f
        rw [if_pos ⟨by omega, by omega⟩, Option.bind_some, Int.toNat_natCast]
        have hlen : (pow2L (n / 32) (n % 32)).length = n / 32 + 1 := by simp [pow2L]
        have hp := pow2L_nv (n / 32) (n % 32)
        rw [Nat.div_add_mod] at hp
        rw [refDivMod_f hl.1 (pow2L_nrm _ (by omega)) (by omega) (by rw [hlen]; omega) (by rw [hp]; exact Nat.two_pow_pos n) (by rw [hlen]; omega), Option.bind_some, hp]
      · obtain ⟨n, rfl⟩ := Int.eq_ofNat_of_zero_le (show 0 ≤ bits by omega)
        rw [if_neg hn, if_neg hn]
        by_cases hbig : (n : Int) ≥ 4096
        · rw [if_pos hbig]
          simp only [lineageref03_Shift.j1, if_true]
          by_cases hb2 : (n : Int) > 4096
          · rw [if_pos hb2]
          · rw [if_neg hb2]
            unfold fitB
            rw [if_pos]
            rw [big_iff, Int.toNat_natCast, show n = 4096 by omega]
            exact Nat.le_mul_of_pos_left _ (by omega)
        · obtain ⟨T, h1, h2, h3, h4, h5⟩ := bits_f hl hne (by omega) (k := k + 1) (by omega)
          have hw : wrap64 ((T : Int) + (n : Int)) = ((T + n : Nat) : Int) := (w64 (by omega) (by omega)).trans (by omega)
          rw [if_neg hbig, h1, Option.bind_some, hw, if_neg (by clear hw; omega), Int.toNat_natCast]
          clear hw
          unfold fitB
          have hpn : 0 < 2 ^ n := Nat.two_pow_pos n
          by_cases hT : T + n > 4096
          · rw [decide_eq_true (by omega)]
            simp only [lineageref03_Shift.j1, if_true]
            rw [if_pos]
            rw [big_iff]
            have h6 : 2 ^ (T - 1) * 2 ^ n ≤ Bn.nv l * 2 ^ n := Nat.mul_le_mul_right _ h3
            rw [← Nat.pow_add] at h6
            exact Nat.le_trans (Nat.pow_le_pow_right (by decide) (by omega)) h6
          · rw [decide_eq_false (by omega)]
            simp only [lineageref03_Shift.j1]
            rw [if_neg (by simp), if_neg]
            · unfold lineageref03_Pow2.f
              rw [if_pos ⟨by omega, by omega⟩, Option.bind_some, Int.toNat_natCast]
              have hlen : (pow2L (n / 32) (n % 32)).length = n / 32 + 1 := by simp [pow2L]
              have hp := pow2L_nv (n / 32) (n % 32)
              rw [Nat.div_add_mod] at hp
              have hml : l.length * ((pow2L (n / 32) (n % 32)).length + 2) ≤ 128 * 140 := Nat.mul_le_mul hs (by rw [hlen]; omega)
              rw [refMul_f hl.1 (pow2L_nrm _ (by omega)).1 (by rw [hlen]; omega) (by rw [hlen] at hml ⊢; omega), Option.bind_some, hp]
            · rw [big_iff]
              have h6 : Bn.nv l * 2 ^ n < 2 ^ T * 2 ^ n := Nat.mul_lt_mul_of_pos_right h2 hpn
              rw [← Nat.pow_add] at h6
              exact Nat.not_le.2 (Nat.lt_of_lt_of_le h6 (Nat.pow_le_pow_right (by decide) (by omega)))
end Go.Proofs.YtoakfjcejamoeaaDoor.B
