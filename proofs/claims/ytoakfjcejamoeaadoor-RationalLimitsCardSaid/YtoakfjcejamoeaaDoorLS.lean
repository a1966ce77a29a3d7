/- What Shift answers. -/
import Derived.Test.YtoakfjcejamoeaaDoorL5
import Derived.Test.YtoakfjcejamoeaaDoorBx11
namespace Go.Proofs.YtoakfjcejamoeaaDoor.B
open Go.RowKit Go.Proofs.YtoakfjcejamoeaaDoorW.PrintWords Go.Proofs.YtoakfjcejamoeaaDoorW.PrintLast Go.Proofs.YtoakfjcejamoeaaDoorW.PrintMore
set_option exponentiation.threshold 8200
set_option linter.unusedVariables false
set_option linter.unusedSimpArgs false
def shiftB (v : Nat) (bits : Int) : List Int × Int := if v = 0 then ([], 0) else if bits < 0 then (Bn.limbs (v / 2 ^ (-bits).toNat), 0) else if bits > 4096 then ([], 6) else fitB (v * 2 ^ bits.toNat)
theorem big_iff (N : Nat) : 128 < (Bn.limbs N).length ↔ 2 ^ 4096 ≤ N := by
 have h := Bn.limbs_len N 128
 rw [show (4294967296 : Nat) ^ 128 = 2 ^ 4096 by rw [show (4294967296 : Nat) = 2 ^ 32 by decide, ← Nat.pow_mul]] at h
 generalize (2 : Nat) ^ 4096 = P at h ⊢
 omega
theorem nrm_small {l : List Int} (h : Bn.Nrm l) (hl : l.length ≤ 128) : Bn.nv l < 2 ^ 4096 := by
 have h2 := big_iff (Bn.nv l)
 rw [h.2] at h2
 generalize (2 : Nat) ^ 4096 = P at h2 ⊢
 omega
/-! ### Shift -/
theorem shift_left_f {l : List Int} (hl : Bn.Nrm l) (hs : l.length ≤ 128) (n : Nat) (hn : n ≤ 4096) (k : Nat) (hk : 1000 < k) : (match (some (List.replicate (n / 32) (0 : Int)) : Option (List Int)) with | some y => (bignat_left.f k l ((n % 32 : Nat) : Int)).bind fun t => (if y.length + t.length < 35184372088832 then ((bignat_fitting.f k (y ++ t)).bind fun b => (some (b.1, b.2))) else (none)) | none => none) = some (fitB (Bn.nv l * 2 ^ n)) := by
 obtain ⟨O, h1, h2, h3, h4⟩ := left_f hl.1 (by omega) (show n % 32 < 32 by omega) (show l.length < k by omega)
 simp only []
 rw [h1, Option.bind_some, if_pos (by rw [List.length_replicate, h2]; omega), fitting_f ((Bn.Limbs.replicate _).append h3) (by rw [List.length_append, List.length_replicate, h2]; omega) (by rw [List.length_append, List.length_replicate, h2]; omega), Option.bind_some]
 have e : Bn.nv (List.replicate (n / 32) 0 ++ O) = Bn.nv l * 2 ^ n := by
  rw [Bn.nv_append, Bn.nv_replicate, Nat.zero_add, List.length_replicate, h4, pow_split n]
  rw [Nat.mul_left_comm]
 rw [e]
theorem Shift_f {l : List Int} (hl : Bn.Limbs l) (hs : l.length ≤ 1048576) (bits : Int) (hb0 : -9223372036854775808 ≤ bits) (hb1 : bits ≤ 9223372036854775807) {k : Nat} (hk : 1001 < k) : bignat_Shift.f k l bits = some (if validB l then shiftB (Bn.nv l) bits else ([], 1)) := by
 obtain ⟨k, rfl⟩ : ∃ m, k = m + 1 := ⟨k - 1, by omega⟩
 unfold bignat_Shift.f
 rw [Valid_f, Option.bind_some]
 cases hv : validB l
 ·rfl
 ·rw [if_pos rfl, if_pos rfl]
  obtain ⟨hl2, hs2⟩ := (validB_iff hl).1 hv
  unfold shiftB
  by_cases h0 : l.length = 0
  ·obtain rfl := List.eq_nil_of_length_eq_zero h0
   rw [if_pos (by simp), if_pos (by rfl)]
   simp [bignat_Shift.j0]
  ·have hne : l ≠ [] := by rintro rfl; simp at h0
   have hv0 : Bn.nv l ≠ 0 := fun h => hne ((Bn.nv_zero hl2).1 h)
   rw [if_neg (by omega), if_neg hv0]
   by_cases hm : bits < -4096
   ·rw [decide_eq_true hm, if_pos (by omega)]
    have hz : Bn.nv l / 2 ^ (-bits).toNat = 0 := Nat.div_eq_of_lt (Nat.lt_of_lt_of_le (nrm_small hl2 hs2) (Nat.pow_le_pow_right (by decide) (by omega)))
    rw [hz, Bn.limbs_zero]
    simp [bignat_Shift.j0]
   ·rw [decide_eq_false hm]
    simp only [bignat_Shift.j0]
    rw [if_neg (by simp)]
    by_cases hbig : bits > 4096
    ·rw [if_pos hbig, if_neg (by omega), if_pos hbig]
    ·rw [if_neg hbig]
     by_cases hn : bits < 0
     ·obtain ⟨n, hnn⟩ : ∃ n : Nat, -bits = (n : Int) := ⟨(-bits).toNat, by omega⟩
      have hn4 : n ≤ 4096 := by omega
      have hnb : ¬ bits ≥ 0 := by omega
      have e1 : wrap64 (-bits) = (n : Int) := by rw [w64 (by omega) (by omega), hnn]
      have e2 : wrap64 (Int.tdiv (n : Int) 32) = ((n / 32 : Nat) : Int) := by rw [Int.tdiv_eq_ediv_of_nonneg (Int.natCast_nonneg _)]; exact (w64 (by omega) (by omega)).trans (by omega)
      have e3 : Int.tmod (n : Int) 32 = ((n % 32 : Nat) : Int) := by rw [Int.tmod_eq_emod_of_nonneg (Int.natCast_nonneg _)]; rfl
      rw [if_neg hnb, if_pos hn, e1, e2, e3, hnn, Int.toNat_natCast, Int.toNat_natCast]
      clear e1 e2 e3 hnn hnb
      have hdv : Bn.nv l / 2 ^ n = Bn.nv (l.drop (n / 32)) / 2 ^ (n % 32) := by
       rw [pow_split n, ← Nat.div_div_eq_div_mul]
       congr 1
       have h := List.take_append_drop (n / 32) l
       by_cases hd : n / 32 ≤ l.length
       ·have hv1 : Bn.nv l = Bn.nv (l.take (n / 32)) + 4294967296 ^ (n / 32) * Bn.nv (l.drop (n / 32)) := by
         conv => lhs; rw [← h, Bn.nv_append, List.length_take, Nat.min_eq_left hd]
        rw [hv1, Nat.add_mul_div_left _ _ (Nat.pow_pos (by decide)), Nat.div_eq_of_lt (nv_take_lt hl (n / 32) hd), Nat.zero_add]
       ·rw [List.drop_of_length_le (by omega)]
        refine Nat.div_eq_of_lt (Nat.lt_of_lt_of_le (Bn.nv_lt hl) (Nat.pow_le_pow_right (by decide) (by omega)))
      by_cases hq : n / 32 ≥ l.length
      ·rw [if_pos (by omega), hdv, List.drop_of_length_le hq]
       simp [Bn.nv, Bn.limbs_zero]
      ·have hdl : (l.drop (n / 32)).length = l.length - n / 32 := by simp
       rw [if_neg (by omega), if_pos (Int.natCast_nonneg _), if_pos (by omega), right_f (hl.drop _) (by rw [hdl]; omega) (by omega) (by rw [hdl]; omega), Option.bind_some, trimmed_f (rightOut_limbs _ _ _) (by simp [rightOut]; omega) (by simp [rightOut]; omega), Option.bind_some, rightOut_nv (hl.drop _) (by omega), hdv]
     ·obtain ⟨n, rfl⟩ := Int.eq_ofNat_of_zero_le (show 0 ≤ bits by omega)
      have hn4 : n ≤ 4096 := by omega
      have e2 : wrap64 (Int.tdiv (n : Int) 32) = ((n / 32 : Nat) : Int) := by rw [Int.tdiv_eq_ediv_of_nonneg (Int.natCast_nonneg _)]; exact (w64 (by omega) (by omega)).trans (by omega)
      have e3 : Int.tmod (n : Int) 32 = ((n % 32 : Nat) : Int) := by rw [Int.tmod_eq_emod_of_nonneg (Int.natCast_nonneg _)]; rfl
      rw [if_pos (Int.natCast_nonneg _), if_neg hn, if_neg hbig, e2, e3, if_pos (Int.natCast_nonneg _), Int.toNat_natCast, Int.toNat_natCast, if_pos (by clear e2 e3; omega), Option.bind_some]
      exact shift_left_f hl2 hs2 n hn4 k (by clear e2 e3; omega)

end Go.Proofs.YtoakfjcejamoeaaDoor.B
