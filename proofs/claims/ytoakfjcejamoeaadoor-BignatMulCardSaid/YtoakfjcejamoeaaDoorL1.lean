import Derived.Test.YtoakfjcejamoeaaDoorL0
namespace Go.Proofs.YtoakfjcejamoeaaDoor.B
open Go.RowKit Go.Proofs.YtoakfjcejamoeaaDoorW.PrintWords Go.Proofs.YtoakfjcejamoeaaDoorW.PrintLast Go.Proofs.YtoakfjcejamoeaaDoorW.PrintMore
set_option linter.unusedVariables false
set_option linter.unusedSimpArgs false
theorem awake_f : lineagelaw03_awake.f = some true := rfl
theorem BignatMul_law (a b : List Int) (ha : Bn.Limbs a) (hb : Bn.Limbs b) : ∃ k, lineagelaw03_BignatMul.f k a b = some true := by
  refine ⟨100001, ?_⟩
  unfold lineagelaw03_BignatMul.f
  rw [awake_f, Option.bind_some, if_pos rfl, small_f 140 [a, b] (by simp) (by simp), Option.bind_some]
  by_cases hs : ((a.length : Int) ≤ 140 ∧ (b.length : Int) ≤ 140)
  · obtain ⟨h1, h2⟩ := hs
    have e : ([a, b].all fun l => decide ((l.length : Int) ≤ 140)) = true := by simp [h1, h2]
    have hm : a.length * (b.length + 2) ≤ 140 * 142 := Nat.mul_le_mul (by omega) (by omega)
    rw [e]
    simp only [lineagelaw03_BignatMul.j0, Bool.not_true]
    rw [if_neg (by simp), Mul_f ha hb (by omega) (by omega), Option.bind_some, valid_f [a, b] (by simp) (by simp), Option.bind_some]
    have ev : ([a, b].all validB) = (validB a && validB b) := by simp
    rw [ev]
    cases hv : (validB a && validB b)
    · rfl
    · rw [if_pos rfl, if_pos rfl, refMul_f ha hb (by omega) (by omega), Option.bind_some]
      unfold fitB
      by_cases h : 128 < (Bn.limbs (Bn.nv a * Bn.nv b)).length
      · rw [if_pos h, if_pos (by omega)]
        rfl
      · rw [if_neg h, if_neg (by omega), if_pos rfl]
        simp only []
        rw [same_f _ _ (by omega) (by omega)]
        simp
  · have e : ([a, b].all fun l => decide ((l.length : Int) ≤ 140)) = false := by
      simp only [List.all_cons, List.all_nil, Bool.and_true, Bool.and_eq_false_iff, decide_eq_false_iff_not]
      exact Decidable.not_and_iff_or_not.1 hs
    rw [e]
    simp only [lineagelaw03_BignatMul.j0, Bool.not_false, if_true, awake_f, Option.bind_some]
end Go.Proofs.YtoakfjcejamoeaaDoor.B
