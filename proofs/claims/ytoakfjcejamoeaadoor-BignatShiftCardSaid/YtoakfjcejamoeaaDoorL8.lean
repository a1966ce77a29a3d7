import Derived.Test.YtoakfjcejamoeaaDoorL7
import Derived.Test.YtoakfjcejamoeaaDoorYBignatShift
namespace Go.Proofs.YtoakfjcejamoeaaDoor.B
open Go.RowKit Go.Proofs.YtoakfjcejamoeaaDoorW.PrintWords Go.Proofs.YtoakfjcejamoeaaDoorW.PrintLast Go.Proofs.YtoakfjcejamoeaaDoorW.PrintMore
set_option linter.unusedVariables false
set_option linter.unusedSimpArgs false
theorem BignatShift_law (a : List Int) (bits : Int) (ha : Bn.Limbs a) (hb0 : -9223372036854775808 ≤ bits) (hb1 : bits ≤ 9223372036854775807) : ∃ k, lineagelaw03_BignatShift.f k a bits = some true := by
  refine ⟨100003, ?_⟩
  unfold lineagelaw03_BignatShift.f
  rw [awake_f, Option.bind_some, if_pos rfl, small_f 140 [a] (by simp) (by simp), Option.bind_some]
  by_cases hs : ((a.length : Int) ≤ 140)
  · have e : ([a].all fun l => decide ((l.length : Int) ≤ 140)) = true := by simp [hs]
    rw [e]
    simp only [lineagelaw03_BignatShift.j0, Bool.not_true]
    rw [if_neg (by simp), Shift_f ha (by omega) bits hb0 hb1 (by omega), Option.bind_some, valid_f [a] (by simp) (by simp), Option.bind_some]
    have ev : ([a].all validB) = validB a := by simp
    rw [ev]
    cases hv : validB a
    · rfl
    · obtain ⟨na, la⟩ := (validB_iff ha).1 hv
      rw [if_pos rfl, if_pos rfl, refShift_f na la bits hb0 hb1 (by omega), Option.bind_some, if_pos rfl]
      have hlen : (shiftB (Bn.nv a) bits).1.length ≤ 128 := by
        unfold shiftB
        split
        · simp
        · split
          · have := limbs_mono (Nat.div_le_self (Bn.nv a) (2 ^ (-bits).toNat))
            rw [na.2] at this
            simpa using Nat.le_trans this la
          · split
            · simp
            · unfold fitB
              split
              · simp
              · rename_i h
                simpa using h
      rw [same_f _ _ (by omega) (by omega), Option.bind_some]
      simp only [decide_true, Bool.not_true, lineagelaw03_BignatShift.j1]
      rw [if_neg (by simp)]
      by_cases he : (shiftB (Bn.nv a) bits).2 = 0
      · rw [if_pos he]
        by_cases hn : bits < 0
        · rw [if_pos hn]
          simp only [lineagelaw03_BignatShift.j2, if_true]
        · rw [if_neg hn]
          by_cases h4 : bits > 4096
          · rw [decide_eq_true h4]
            simp only [lineagelaw03_BignatShift.j2, if_true]
          · rw [decide_eq_false h4]
            simp only [lineagelaw03_BignatShift.j2]
            obtain ⟨n, rfl⟩ := Int.eq_ofNat_of_zero_le (show 0 ≤ bits by omega)
            have hback : bignat_Shift.f 100000 (shiftB (Bn.nv a) (n : Int)).1 (wrap64 (-(n : Int))) = some (a, 0) := by
              have hw : wrap64 (-(n : Int)) = -(n : Int) := w64 (by omega) (by omega)
              rw [hw]
              clear hw
              by_cases h0 : Bn.nv a = 0
              · obtain rfl := (Bn.nv_zero na).1 h0
                have e1 : (shiftB (Bn.nv []) (n : Int)).1 = [] := by simp [shiftB, Bn.nv]
                rw [e1, Shift_f Bn.Limbs.nil (by simp) _ (by omega) (by omega) (by omega), show validB [] = true from rfl, if_pos rfl]
                simp [shiftB, Bn.nv]
              · have e1 : shiftB (Bn.nv a) (n : Int) = fitB (Bn.nv a * 2 ^ n) := by
                  unfold shiftB
                  rw [if_neg h0, if_neg (by omega), if_neg h4, Int.toNat_natCast]
                rw [e1] at he hlen ⊢
                have e2 : fitB (Bn.nv a * 2 ^ n) = (Bn.limbs (Bn.nv a * 2 ^ n), 0) := by
                  unfold fitB at he ⊢
                  split at he
                  · cases he
                  · rename_i h
                    rw [if_neg h]
                rw [e2] at hlen ⊢
                replace hlen : (Bn.limbs (Bn.nv a * 2 ^ n)).length ≤ 128 := hlen
                have hpos : 0 < 2 ^ n := Nat.two_pow_pos n
                rw [Shift_f (Bn.limbs_limbs _) (by omega) _ (by omega) (by omega) (by omega), validB_limbs hlen, if_pos rfl, Bn.nv_limbs]
                unfold shiftB
                rw [if_neg (Nat.mul_ne_zero h0 (by omega))]
                by_cases hn0 : n = 0
                · subst hn0
                  rw [if_neg (by omega), if_neg (by omega)]
                  simp only [Int.natCast_zero, Int.neg_zero, Int.toNat_zero, Nat.pow_zero, Nat.mul_one]
                  unfold fitB
                  rw [na.2, if_neg (by omega)]
                · rw [if_pos (by omega), show (- -(n : Int)).toNat = n by omega, Nat.mul_div_cancel _ hpos, na.2]
            rw [if_neg (by simp), hback, Option.bind_some, if_pos rfl, same_f _ _ (by simp; omega) (by simp; omega)]
            simp
      · rw [if_neg he]
        simp only [lineagelaw03_BignatShift.j2, if_true]
  · have e : ([a].all fun l => decide ((l.length : Int) ≤ 140)) = false := by simp; omega
    rw [e]
    simp only [lineagelaw03_BignatShift.j0, Bool.not_false, if_true, awake_f, Option.bind_some]
end Go.Proofs.YtoakfjcejamoeaaDoor.B
