import Derived.Test.YtoakfjcejamoeaaDoorL4
import Derived.Test.YtoakfjcejamoeaaDoorBx12
namespace Go.Proofs.YtoakfjcejamoeaaDoor.B
open Go.RowKit Go.Proofs.YtoakfjcejamoeaaDoorW.PrintWords Go.Proofs.YtoakfjcejamoeaaDoorW.PrintLast Go.Proofs.YtoakfjcejamoeaaDoorW.PrintMore
set_option linter.unusedVariables false
set_option linter.unusedSimpArgs false
/-! ### the reference's division -/
theorem nv_digit {l : List Int} (hl : Bn.Limbs l) (p x : Nat) (hp : p < l.length) (hx : rd l (p : Int) = (x : Int)) : Bn.nv l / 4294967296 ^ p % 4294967296 = x ∧ x < 4294967296 := by
  have h := List.take_append_drop p l
  have hv : Bn.nv l = Bn.nv (l.take p) + 4294967296 ^ p * Bn.nv (l.drop p) := by
    conv => lhs; rw [← h, Bn.nv_append, List.length_take, Nat.min_eq_left (by omega)]
  have hlt := nv_take_lt hl p (by omega)
  rw [rd_get' l p hp] at hx
  have hb := hl.get p hp
  have hd := nv_drop l p hp
  rw [hx, Int.toNat_natCast] at hd
  have hpos : 0 < 4294967296 ^ p := Nat.pow_pos (by decide)
  rw [hv, Nat.add_mul_div_left _ _ hpos, Nat.div_eq_of_lt hlt, Nat.zero_add, hd]
  have : x < 4294967296 := by omega
  exact ⟨by omega, this⟩
theorem pow_split (j : Nat) : 2 ^ j = 4294967296 ^ (j / 32) * 2 ^ (j % 32) := by
  rw [show (4294967296 : Nat) = 2 ^ 32 by decide, ← Nat.pow_mul, ← Nat.pow_add, Nat.div_add_mod]
theorem bit_f {N s : Nat} (hs : s < 32) : N % 4294967296 / 2 ^ s % 2 = N / 2 ^ s % 2 := by
  have h : (4294967296 : Nat) = 2 ^ s * 2 ^ (32 - s) := by rw [← Nat.pow_add, show s + (32 - s) = 32 by omega]
  rw [h, Nat.mod_mul_right_div_self]
  refine Nat.mod_mod_of_dvd _ ?_
  rw [show 32 - s = (31 - s) + 1 by omega, Nat.pow_succ]
  exact Nat.dvd_mul_left _ _
theorem room {m s : Nat} (hs : s < 32) (hm : m < 4294967296) (hd : 2 ^ (s + 1) ∣ m) : m + 2 ^ s < 4294967296 := by
  have h : (4294967296 : Nat) = 2 ^ (s + 1) * 2 ^ (31 - s) := by rw [← Nat.pow_add, show s + 1 + (31 - s) = 32 by omega]
  obtain ⟨c, rfl⟩ := hd
  rw [h] at hm ⊢
  have hc : c < 2 ^ (31 - s) := Nat.lt_of_mul_lt_mul_left hm
  have h2 : 2 ^ (s + 1) * (c + 1) ≤ 2 ^ (s + 1) * 2 ^ (31 - s) := Nat.mul_le_mul_left _ hc
  have h3 : 2 ^ s < 2 ^ (s + 1) := Nat.pow_lt_pow_right (by decide) (by omega)
  rw [Nat.mul_add, Nat.mul_one] at h2
  omega
theorem div_step {T D b : Nat} (hD : 0 < D) (hb : b < 2) : (if D ≤ 2 * (T % D) + b then (2 * T + b) / D = 2 * (T / D) + 1 ∧ (2 * T + b) % D = 2 * (T % D) + b - D else (2 * T + b) / D = 2 * (T / D) ∧ (2 * T + b) % D = 2 * (T % D) + b) := by
  have h := Nat.div_add_mod T D
  have hr := Nat.mod_lt T hD
  generalize T / D = q at h ⊢
  generalize T % D = r at h hr ⊢
  split
  · rename_i hc
    have e : 2 * T + b = (2 * r + b - D) + D * (2 * q + 1) := by
      rw [← h, Nat.mul_add D, Nat.mul_one]
      have : D * (2 * q) = 2 * (D * q) := by rw [← Nat.mul_assoc, Nat.mul_comm D 2, Nat.mul_assoc]
      omega
    rw [e, Nat.add_mul_div_left _ _ hD, Nat.add_mul_mod_self_left, Nat.div_eq_of_lt (by omega), Nat.mod_eq_of_lt (by omega)]
    exact ⟨by omega, rfl⟩
  · rename_i hc
    have e : 2 * T + b = (2 * r + b) + D * (2 * q) := by
      rw [← h]
      have : D * (2 * q) = 2 * (D * q) := by rw [← Nat.mul_assoc, Nat.mul_comm D 2, Nat.mul_assoc]
      omega
    rw [e, Nat.add_mul_div_left _ _ hD, Nat.add_mul_mod_self_left, Nat.div_eq_of_lt (by omega), Nat.mod_eq_of_lt (by omega)]
    exact ⟨by omega, rfl⟩
theorem nrm_one : Bn.Nrm [1] := by
  have h : Bn.limbs 1 = [1] := limbs_one (by decide) (by decide)
  rw [← h]
  exact Bn.nrm_limbs 1
theorem shr32_f {x : Int} {s : Nat} (hs : s < 32) : shr .u32 x (s : Int) = x / 2 ^ s := by
  unfold shr
  rw [Int.toNat_natCast, show min s IntKind.u32.bits = s by have : IntKind.u32.bits = 32 := rfl; omega]
theorem shl32_one {s : Nat} (hs : s < 32) : shl .u32 1 (s : Int) = ((2 ^ s : Nat) : Int) := by
  have hp := two_pow_lt hs
  unfold shl
  rw [Int.toNat_natCast, show min s IntKind.u32.bits = s by have : IntKind.u32.bits = 32 := rfl; omega, Int.one_mul]
  rw [show ((2 : Int) ^ s) = ((2 ^ s : Nat) : Int) by rw [Int.natCast_pow]; rfl]
  exact u32w (Int.natCast_nonneg _) (Int.ofNat_lt.2 hp)
theorem limbs_le {n : Nat} {l : List Int} (hl : Bn.Limbs l) (h : n ≤ Bn.nv l) : (Bn.limbs n).length ≤ l.length := (Bn.limbs_len n _).2 (Nat.lt_of_le_of_lt h (Bn.nv_lt hl))
theorem limbs_le1 {n : Nat} {l : List Int} (hl : Bn.Limbs l) (h : n ≤ 2 * Bn.nv l + 1) : (Bn.limbs n).length ≤ l.length + 1 := by
  rw [Bn.limbs_len, Nat.pow_succ]
  have := Bn.nv_lt hl
  generalize 4294967296 ^ l.length = P at this ⊢
  omega
theorem refDivMod_l0 {a b : List Int} (ha : Bn.Limbs a) (hb : Bn.Nrm b) (hla : a.length ≤ 2000) (hlb : b.length ≤ 2000) (hD : 0 < Bn.nv b) : ∀ (i k : Nat) (Q : List Int), i ≤ 32 * a.length → 2 * i + 4 * (a.length + b.length) + 100 < k → Q.length = a.length → Bn.Limbs Q → Bn.nv Q = Bn.nv a / 2 ^ i / Bn.nv b * 2 ^ i →
    lineageref03_DivMod.l0 k a b Q (Bn.limbs (Bn.nv a / 2 ^ i % Bn.nv b)) ((i : Int) - 1) = some (Bn.limbs (Bn.nv a / Bn.nv b), Bn.limbs (Bn.nv a % Bn.nv b)) := by
  intro i
  induction i with
  | zero =>
    intro k Q hi hk hQ hL hv
    obtain ⟨k, rfl⟩ : ∃ m, k = m + 1 := ⟨k - 1, by omega⟩
    simp only [lineageref03_DivMod.l0]
    rw [if_neg (by omega), refTrim_f hL (by omega) (by omega), Option.bind_some, hv]
    simp
  | succ j ih =>
    intro k Q hi hk hQ hL hv
    obtain ⟨k, rfl⟩ : ∃ m, k = m + 1 := ⟨k - 1, by omega⟩
    obtain ⟨k, rfl⟩ : ∃ m, k = m + 1 := ⟨k - 1, by omega⟩
    have hp : j / 32 < a.length := by omega
    have hs : j % 32 < 32 := by omega
    obtain ⟨x, hx, _⟩ := limb_rd ha (j / 32)
    obtain ⟨m, hm, hml⟩ := limb_rd hL (j / 32)
    have dx := (nv_digit ha (j / 32) x hp hx).1
    have dm := (nv_digit hL (j / 32) m (by omega) hm).1
    have hbit : Bn.nv a / 2 ^ j % 2 = x / 2 ^ (j % 32) % 2 := by
      rw [pow_split j, ← Nat.div_div_eq_div_mul, ← dx, bit_f hs]
    have hT : Bn.nv a / 2 ^ j = 2 * (Bn.nv a / 2 ^ (j + 1)) + x / 2 ^ (j % 32) % 2 := by
      rw [← hbit, Nat.pow_succ, ← Nat.div_div_eq_div_mul]
      omega
    have hroom : m + 2 ^ (j % 32) < 4294967296 := by
      refine room hs hml ?_
      rw [← dm, hv]
      have e0 : 2 ^ (j + 1) = 4294967296 ^ (j / 32) * 2 ^ (j % 32 + 1) := by rw [Nat.pow_succ, pow_split j, Nat.mul_assoc, ← Nat.pow_succ]
      generalize Bn.nv a / 2 ^ (j + 1) / Bn.nv b = Z
      rw [e0, Nat.mul_left_comm, Nat.mul_div_cancel_left _ (Nat.pow_pos (by decide))]
      exact pow_dvd_digit (by omega)
    have hstep := div_step (T := Bn.nv a / 2 ^ (j + 1)) (b := x / 2 ^ (j % 32) % 2) hD (Nat.mod_lt _ (by decide))
    rw [← hT] at hstep
    have hRl := Nat.mod_lt (Bn.nv a / 2 ^ (j + 1)) hD
    have hbl : x / 2 ^ (j % 32) % 2 < 2 := Nat.mod_lt _ (by decide)
    have hlr : (Bn.limbs (Bn.nv a / 2 ^ (j + 1) % Bn.nv b)).length ≤ b.length := limbs_le hb.1 (Nat.le_of_lt hRl)
    have hbb1 : -9223372036854775808 ≤ (j : Int) - 1 := by omega
    have hbb2 : (j : Int) - 1 ≤ 9223372036854775807 := by omega
    have hjj : (((j + 1 : Nat) : Int) - 1) = (j : Int) := by omega
    have e32 : wrap64 (Int.tdiv (j : Int) 32) = ((j / 32 : Nat) : Int) := by rw [Int.tdiv_eq_ediv_of_nonneg (Int.natCast_nonneg _)]; exact (w64 (by omega) (by omega)).trans (by omega)
    have m32 : Int.tmod (j : Int) 32 = ((j % 32 : Nat) : Int) := by rw [Int.tmod_eq_emod_of_nonneg (Int.natCast_nonneg _)]; rfl
    have ebit : Int.tmod (shr .u32 (x : Int) ((j % 32 : Nat) : Int)) 2 = ((x / 2 ^ (j % 32) % 2 : Nat) : Int) := by
      rw [shr32_f hs, show ((x : Int) / 2 ^ (j % 32)) = ((x / 2 ^ (j % 32) : Nat) : Int) by rw [Int.natCast_ediv, Int.natCast_pow]; rfl, Int.tmod_eq_emod_of_nonneg (Int.natCast_nonneg _)]
      rfl
    have hpI : ((j / 32 : Nat) : Int) < (a.length : Int) := Int.ofNat_lt.2 hp
    have hpQ : ((j / 32 : Nat) : Int) < (Q.length : Int) := by rw [hQ]; exact hpI
    have ej := w64 hbb1 hbb2
    -- what comes behind the bit
    have hj1 : lineageref03_DivMod.j1 (k + 1) a b Q (Bn.limbs (2 * (Bn.nv a / 2 ^ (j + 1) % Bn.nv b) + x / 2 ^ (j % 32) % 2)) (j : Int) = some (Bn.limbs (Bn.nv a / Bn.nv b), Bn.limbs (Bn.nv a % Bn.nv b)) := by
      have hl1 : (Bn.limbs (2 * (Bn.nv a / 2 ^ (j + 1) % Bn.nv b) + x / 2 ^ (j % 32) % 2)).length ≤ b.length + 1 := limbs_le1 hb.1 (by omega)
      simp only [lineageref03_DivMod.j1]
      rw [refCompare_f (Bn.nrm_limbs _) hb (by clear e32 m32 ebit ej; omega) (by clear e32 m32 ebit ej; omega), Option.bind_some, Bn.nv_limbs]
      by_cases hc : Bn.nv b ≤ 2 * (Bn.nv a / 2 ^ (j + 1) % Bn.nv b) + x / 2 ^ (j % 32) % 2
      · rw [if_pos hc] at hstep
        have hcm : cmpN (2 * (Bn.nv a / 2 ^ (j + 1) % Bn.nv b) + x / 2 ^ (j % 32) % 2) (Bn.nv b) ≥ 0 := by
          unfold cmpN
          rw [if_neg (Nat.not_lt.2 hc)]
          split <;> decide
        rw [if_pos hcm, refSub_f (Bn.nrm_limbs _) hb (by clear e32 m32 ebit ej; omega) (by rw [Bn.nv_limbs]; exact hc) (by clear e32 m32 ebit ej; omega), Option.bind_some, Bn.nv_limbs, e32, m32, if_pos (Int.natCast_nonneg _), if_pos hpQ, if_pos (Int.natCast_nonneg _), ej, hm, shl32_one hs, Int.toNat_natCast, ← hstep.2]
        rw [show ((m : Int) + ((2 ^ (j % 32) : Nat) : Int)) % 4294967296 = ((m + 2 ^ (j % 32) : Nat) : Int) by rw [← Int.natCast_add]; exact Int.emod_eq_of_lt (Int.natCast_nonneg _) (Int.ofNat_lt.2 hroom)]
        refine ih k _ (by clear e32 m32 ebit ej; omega) (by clear e32 m32 ebit ej; omega) (by simpa using hQ) (hL.set _ _ ⟨Int.natCast_nonneg _, Int.ofNat_lt.2 hroom⟩) ?_
        have hset := nv_set_nat hL (j / 32) (m + 2 ^ (j % 32)) m (by clear e32 m32 ebit ej; omega) hm
        rw [Nat.mul_add, ← pow_split j] at hset
        rw [hstep.1, Nat.add_mul, Nat.one_mul]
        rw [hv, Nat.pow_succ] at hset
        have e2 : Bn.nv a / (2 ^ j * 2) / Bn.nv b * (2 ^ j * 2) = 2 * (Bn.nv a / (2 ^ j * 2) / Bn.nv b) * 2 ^ j := by
          generalize Bn.nv a / (2 ^ j * 2) / Bn.nv b = Z
          generalize 2 ^ j = S
          grind
        rw [e2] at hset
        rw [Nat.pow_succ]
        generalize Bn.nv (Q.set (j / 32) ((m + 2 ^ (j % 32) : Nat) : Int)) = X at hset ⊢
        generalize 2 * (Bn.nv a / (2 ^ j * 2) / Bn.nv b) * 2 ^ j = Y at hset ⊢
        generalize 4294967296 ^ (j / 32) * m = Z at hset
        clear e32 m32 ebit ej
        omega
      · rw [if_neg hc] at hstep
        have hcm : ¬ cmpN (2 * (Bn.nv a / 2 ^ (j + 1) % Bn.nv b) + x / 2 ^ (j % 32) % 2) (Bn.nv b) ≥ 0 := by
          rw [cmpN_lt (Nat.not_le.1 hc)]
          decide
        rw [if_neg hcm, ej, ← hstep.2]
        refine ih k Q (by clear e32 m32 ebit ej; omega) (by clear e32 m32 ebit ej; omega) hQ hL ?_
        rw [hv, hstep.1, Nat.pow_succ]
        generalize Bn.nv a / (2 ^ j * 2) / Bn.nv b = Z
        generalize 2 ^ j = S
        grind
    simp only [lineageref03_DivMod.l0]
    rw [hjj, if_pos (Int.natCast_nonneg _), refAdd_f (Bn.nrm_limbs _) (Bn.nrm_limbs _) (by clear e32 m32 ebit ej; omega) (by clear e32 m32 ebit ej; omega) (by clear e32 m32 ebit ej; omega), Option.bind_some, Bn.nv_limbs, e32, m32, if_pos (Int.natCast_nonneg _), if_pos hpI, if_pos (Int.natCast_nonneg _), hx, ebit]
    have h2R : Bn.nv a / 2 ^ (j + 1) % Bn.nv b + Bn.nv a / 2 ^ (j + 1) % Bn.nv b = 2 * (Bn.nv a / 2 ^ (j + 1) % Bn.nv b) := by clear e32 m32 ebit ej; omega
    rw [h2R]
    by_cases hone : x / 2 ^ (j % 32) % 2 = 1
    · rw [hone] at hj1 ⊢
      have hl2 : (Bn.limbs (2 * (Bn.nv a / 2 ^ (j + 1) % Bn.nv b))).length ≤ b.length + 1 := limbs_le1 hb.1 (by clear e32 m32 ebit ej; omega)
      rw [if_pos (by rfl), refAdd_f (Bn.nrm_limbs _) nrm_one (by clear e32 m32 ebit ej; omega) (by decide) (by clear e32 m32 ebit ej; simp only [List.length_cons, List.length_nil]; omega), Option.bind_some, Bn.nv_limbs]
      exact hj1
    · have hz : x / 2 ^ (j % 32) % 2 = 0 := by clear e32 m32 ebit ej; omega
      rw [hz] at hj1 ⊢
      rw [if_neg (by decide)]
      exact hj1
theorem refDivMod_f {a b : List Int} (ha : Bn.Limbs a) (hb : Bn.Nrm b) (hla : a.length ≤ 2000) (hlb : b.length ≤ 2000) (hD : 0 < Bn.nv b) {k : Nat} (hk : 64 * a.length + 4 * (a.length + b.length) + 100 < k) : lineageref03_DivMod.f k a b = some (Bn.limbs (Bn.nv a / Bn.nv b), Bn.limbs (Bn.nv a % Bn.nv b)) := by
  unfold lineageref03_DivMod.f
  have e : wrap64 (wrap64 (32 * (a.length : Int)) - 1) = ((32 * a.length : Nat) : Int) - 1 := by rw [w64 (n := 32 * (a.length : Int)) (by omega) (by omega), w64 (by omega) (by omega)]; omega
  rw [e, if_pos (Int.natCast_nonneg _), Int.toNat_natCast, if_pos (by clear e; omega)]
  clear e
  have hz : Bn.nv a / 2 ^ (32 * a.length) = 0 := Nat.div_eq_of_lt (by
    have := Bn.nv_lt ha
    rwa [show (4294967296 : Nat) = 2 ^ 32 by decide, ← Nat.pow_mul] at this)
  have h := refDivMod_l0 ha hb hla hlb hD (32 * a.length) k (List.replicate a.length 0) (Nat.le_refl _) (by omega) (by simp) (Bn.Limbs.replicate _) (by rw [hz]; simp [Bn.nv_replicate])
  rw [hz, Nat.zero_mod, Bn.limbs_zero] at h
  exact h
end Go.Proofs.YtoakfjcejamoeaaDoor.B
