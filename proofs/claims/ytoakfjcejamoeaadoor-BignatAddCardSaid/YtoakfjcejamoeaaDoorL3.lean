import Derived.Test.YtoakfjcejamoeaaDoorL2
import Derived.Test.YtoakfjcejamoeaaDoorYBignatAdd
namespace Go.Proofs.YtoakfjcejamoeaaDoor.B
open Go.RowKit Go.Proofs.YtoakfjcejamoeaaDoorW.PrintWords Go.Proofs.YtoakfjcejamoeaaDoorW.PrintLast Go.Proofs.YtoakfjcejamoeaaDoorW.PrintMore
set_option linter.unusedVariables false
set_option linter.unusedSimpArgs false
theorem BignatAdd_law (a b : List Int) (ha : Bn.Limbs a) (hb : Bn.Limbs b) : ∃ k, lawAdd.f k a b = some true := by
  refine ⟨100002, ?_⟩
  unfold lawAdd.f
  rw [awake_f, Option.bind_some, if_pos rfl, small_f 140 [a, b] (by simp) (by simp), Option.bind_some]
  by_cases hs : ((a.length : Int) ≤ 140 ∧ (b.length : Int) ≤ 140)
  · obtain ⟨h1, h2⟩ := hs
    have e : ([a, b].all fun l => decide ((l.length : Int) ≤ 140)) = true := by simp [h1, h2]
    have oa := okL_mk ha (by omega)
    have ob := okL_mk hb (by omega)
    rw [e]
    simp only [lawAdd.j0, Bool.not_true]
    rw [if_neg (by simp)]
    unfold bignat_Add.f
    rw [if_pos (by rw [oa, ob]; rfl), Option.bind_some]
    have hsub : bignat_Sub.f a b = some (if validB a && validB b && decide (Bn.nv b ≤ Bn.nv a) then (Bn.limbs (Bn.nv a - Bn.nv b), true) else ([], false)) := by
      unfold bignat_Sub.f
      rw [if_pos (by rw [oa, ob]; rfl)]
    rw [hsub, Option.bind_some, valid_f [a, b] (by simp) (by simp), Option.bind_some]
    have ev : ([a, b].all validB) = (validB a && validB b) := by simp
    rw [ev]
    cases hv : (validB a && validB b)
    · simp
    · rw [if_pos rfl, if_pos rfl]
      rw [Bool.and_eq_true] at hv
      obtain ⟨na, la⟩ := (validB_iff ha).1 hv.1
      obtain ⟨nb, lb⟩ := (validB_iff hb).1 hv.2
      have hj : ∀ j, 1000 < j → lawAdd.j1 j a b (fitB (Bn.nv a + Bn.nv b)).1 (fitB (Bn.nv a + Bn.nv b)).2 false = some true := by
        intro j hj
        obtain ⟨j, rfl⟩ : ∃ m, j = m + 1 := ⟨j - 1, by omega⟩
        simp only [lawAdd.j1]
        rw [if_neg (by simp), refAdd_f na nb (by omega) (by omega) (by omega), Option.bind_some]
        unfold fitB
        by_cases h : 128 < (Bn.limbs (Bn.nv a + Bn.nv b)).length
        · rw [if_pos h, if_pos (by omega)]
          rfl
        · rw [if_neg h, if_neg (by omega)]
          have hs2 : bignat_Sub.f (Bn.limbs (Bn.nv a + Bn.nv b)) b = some (a, true) := by
            unfold bignat_Sub.f
            rw [if_pos (by rw [okL_mk (Bn.limbs_limbs _) (by omega), ob]; rfl), Bn.nv_limbs, validB_limbs (by omega), hv.2, decide_eq_true (by omega), Nat.add_sub_cancel, na.2]
            rfl
          simp only []
          rw [hs2, Option.bind_some, if_pos rfl, same_f _ _ (by omega) (by omega), Option.bind_some]
          simp only [decide_true, if_true]
          rw [same_f _ _ (by omega) (by omega)]
          simp
      rw [refCompare_f na nb (by omega) (by omega), Option.bind_some]
      by_cases hle : Bn.nv b ≤ Bn.nv a
      · have hc : decide (cmpN (Bn.nv a) (Bn.nv b) ≥ 0) = true := by
          apply decide_eq_true
          unfold cmpN
          rw [if_neg (by omega)]
          split <;> decide
        rw [decide_eq_true hle, hc]
        simp only [Bool.and_true, if_true, bne_self_eq_false]
        rw [if_neg (by simp), refSub_f na nb (by omega) hle (by omega), Option.bind_some, same_f _ _ (by have := limbs_mono (show Bn.nv a - Bn.nv b ≤ Bn.nv a by omega); rw [na.2] at this; omega) (by have := limbs_mono (show Bn.nv a - Bn.nv b ≤ Bn.nv a by omega); rw [na.2] at this; omega), Option.bind_some, if_pos (by simp)]
        exact hj _ (by omega)
      · have hc : decide (cmpN (Bn.nv a) (Bn.nv b) ≥ 0) = false := by
          apply decide_eq_false
          rw [cmpN_lt (by omega)]
          decide
        rw [decide_eq_false hle, hc]
        simp only [Bool.and_false, bne_self_eq_false]
        rw [if_neg (by simp), if_neg (by simp)]
        exact hj _ (by omega)
  · have e : ([a, b].all fun l => decide ((l.length : Int) ≤ 140)) = false := by
      simp only [List.all_cons, List.all_nil, Bool.and_true, Bool.and_eq_false_iff, decide_eq_false_iff_not]
      exact Decidable.not_and_iff_or_not.1 hs
    rw [e]
    simp only [lawAdd.j0, Bool.not_false, if_true, awake_f, Option.bind_some]
end Go.Proofs.YtoakfjcejamoeaaDoor.B
