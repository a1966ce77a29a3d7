import Derived.Test.YtoakfjcejamoeaaDoorL0
import Derived.Test.YtoakfjcejamoeaaDoorBx10
namespace Go.Proofs.YtoakfjcejamoeaaDoor.B
open Go.RowKit Go.Proofs.YtoakfjcejamoeaaDoorW.PrintWords Go.Proofs.YtoakfjcejamoeaaDoorW.PrintLast Go.Proofs.YtoakfjcejamoeaaDoorW.PrintMore
set_option linter.unusedVariables false
set_option linter.unusedSimpArgs false
theorem limb_f {l : List Int} (h : Bn.Limbs l) (i : Nat) : lineageref03_limb.f l (i : Int) = some (rd l (i : Int)) := by
  unfold lineageref03_limb.f
  have h1 := rd_limb h i
  by_cases hi : i < l.length
  · rw [if_pos (by omega), if_pos (by omega), u64w (by omega) (by omega)]
  · rw [if_neg (by omega)]
    simp [rd, List.getD_eq_getElem?_getD, List.getElem?_eq_none (show l.length ≤ i by omega)]
theorem addOut_length (a b : List Int) (n : Nat) : (addOut a b n).length = n := by simp [addOut]
theorem addOut_succ (a b : List Int) (n : Nat) : addOut a b (n + 1) = addOut a b n ++ [addS a b n] := by simp [addOut, List.range_succ]
theorem rd_beyond (l : List Int) (i : Nat) (h : l.length ≤ i) : rd l (i : Int) = 0 := by
  simp [rd, List.getD_eq_getElem?_getD, List.getElem?_eq_none h]
theorem last_ne {l : List Int} (h : Bn.Nrm l) (n : Nat) (hn : l.length = n + 1) : rd l (n : Int) ≠ 0 := by
  have h2 := Bn.limbs_last (Bn.nv l)
  rw [h.2] at h2
  rw [rd_get' l n (by omega)]
  intro h0
  rcases h2 with h2 | h2
  · rw [h2] at hn; simp at hn
  · apply h2
    rw [List.getLast?_eq_getElem?, show l.length - 1 = n by omega, List.getElem?_eq_getElem (by omega), h0]
/-- Where the sum's loop ends, the limbs are those of the sum. -/
theorem addOut_nrm {a b : List Int} (ha : Bn.Nrm a) (hb : Bn.Nrm b) (n : Nat) (h1 : a.length ≤ n) (h2 : b.length ≤ n) (hc : addC a b n = 0) (hm : n = 0 ∨ n - 1 < a.length ∨ n - 1 < b.length ∨ addC a b (n - 1) ≠ 0) : addOut a b n = Bn.limbs (Bn.nv a + Bn.nv b) := by
  have hv := addOut_nv ha.1 hb.1 n
  rw [hc, List.take_of_length_le h1, List.take_of_length_le h2, Int.mul_zero, Int.add_zero] at hv
  have hv2 : Bn.nv (addOut a b n) = Bn.nv a + Bn.nv b := by exact_mod_cast hv
  rw [← hv2]
  refine (Bn.nrm_of_last (addOut_limbs a b n) ?_).2.symm
  cases n with
  | zero => left; rfl
  | succ n =>
    right
    rw [addOut_succ, List.getLast?_append]
    simp only [List.getLast?_singleton, Option.some_or]
    intro h0
    injection h0 with h0
    simp only [Nat.add_sub_cancel] at hm
    have r1 := rd_limb ha.1 n
    have r2 := rd_limb hb.1 n
    have c1 := addC_le ha.1 hb.1 n
    simp only [addC] at hc
    have hne : rd a (n : Int) ≠ 0 ∨ rd b (n : Int) ≠ 0 ∨ addC a b n ≠ 0 := by
      rcases hm with hm | hm | hm | hm
      · omega
      · left; exact last_ne ha n (by omega)
      · right; left; exact last_ne hb n (by omega)
      · right; right; exact hm
    unfold addS at h0
    omega
theorem add_step_f {x y c : Int} (hx : 0 ≤ x ∧ x < 4294967296) (hy : 0 ≤ y ∧ y < 4294967296) (hc : 0 ≤ c ∧ c ≤ 1) :
    (Int.tmod (IntKind.u64.wrap ((IntKind.u64.wrap (x + y)) + c)) 4294967296) % 4294967296 = (x + y + c) % 4294967296 ∧ IntKind.u64.wrap (Int.tdiv (IntKind.u64.wrap ((IntKind.u64.wrap (x + y)) + c)) 4294967296) = (x + y + c) / 4294967296 := by
  rw [u64w (n := x + y) (by omega) (by omega), u64w (n := x + y + c) (by omega) (by omega), Int.tmod_eq_emod_of_nonneg (by omega), Int.tdiv_eq_ediv_of_nonneg (by omega), u64w (by omega) (by omega)]
  omega
theorem refAdd_l0 {a b : List Int} (ha : Bn.Nrm a) (hb : Bn.Nrm b) (hla : a.length ≤ 1048576) (hlb : b.length ≤ 1048576) : ∀ (n i k : Nat), i + n = max a.length b.length + 1 → 2 * n + 2 < k → (i = 0 ∨ i - 1 < a.length ∨ i - 1 < b.length ∨ addC a b (i - 1) ≠ 0) →
    lineageref03_Add.l0 k a b (addOut a b i) (addC a b i) (i : Int) = some (Bn.limbs (Bn.nv a + Bn.nv b)) := by
  intro n
  induction n with
  | zero =>
    intro i k hi hk hm
    obtain ⟨k, rfl⟩ : ∃ m, k = m + 1 := ⟨k - 1, by omega⟩
    obtain ⟨k, rfl⟩ : ∃ m, k = m + 1 := ⟨k - 1, by omega⟩
    simp only [lineageref03_Add.l0]
    have hc : addC a b i = 0 := by
      obtain ⟨m, rfl⟩ : ∃ m, i = m + 1 := ⟨i - 1, by omega⟩
      have h3 := addC_le ha.1 hb.1 m
      simp only [addC, rd_beyond a m (by omega), rd_beyond b m (by omega)]
      omega
    rw [if_neg (by omega), if_neg (by omega), hc]
    simp only [lineageref03_Add.j1]
    rw [if_neg (by simp), addOut_nrm ha hb i (by omega) (by omega) hc hm]
  | succ n ih =>
    intro i k hi hk hm
    obtain ⟨k, rfl⟩ : ∃ m, k = m + 1 := ⟨k - 1, by omega⟩
    obtain ⟨k, rfl⟩ : ∃ m, k = m + 1 := ⟨k - 1, by omega⟩
    have r1 := rd_limb ha.1 i
    have r2 := rd_limb hb.1 i
    have c1 := addC_le ha.1 hb.1 i
    obtain ⟨s1, s2⟩ := add_step_f r1 r2 c1
    by_cases hgo : i < a.length ∨ i < b.length ∨ addC a b i ≠ 0
    · have hgo2 : lineageref03_Add.l0 (k + 1 + 1) a b (addOut a b i) (addC a b i) (i : Int) = lineageref03_Add.j1 (k + 1) a b (addOut a b i) (addC a b i) (i : Int) true := by
        simp only [lineageref03_Add.l0]
        by_cases h1 : i < a.length
        · rw [if_pos (by omega)]
        · rw [if_neg (by omega)]
          by_cases h2 : i < b.length
          · rw [if_pos (by omega)]
          · rw [if_neg (by omega), decide_eq_true (by omega)]
      rw [hgo2]
      simp only [lineageref03_Add.j1]
      rw [if_pos trivial, limb_f ha.1, Option.bind_some, limb_f hb.1, Option.bind_some, if_pos (by rw [addOut_length]; omega), s1, s2]
      have e := ih (i + 1) k (by omega) (by omega) (by simpa using hgo)
      rw [addOut_succ] at e
      rw [show wrap64 ((i : Int) + 1) = ((i + 1 : Nat) : Int) from (w64 (by omega) (by omega)).trans (by omega)]
      exact e
    · have h1 : ¬ i < a.length := fun h => hgo (.inl h)
      have h2 : ¬ i < b.length := fun h => hgo (.inr (.inl h))
      have hc : addC a b i = 0 := Decidable.byContradiction fun h => hgo (.inr (.inr h))
      simp only [lineageref03_Add.l0]
      rw [if_neg (by omega), if_neg (by omega), hc]
      simp only [lineageref03_Add.j1]
      rw [if_neg (by simp), addOut_nrm ha hb i (by omega) (by omega) hc hm]
theorem refAdd_f {a b : List Int} (ha : Bn.Nrm a) (hb : Bn.Nrm b) (hla : a.length ≤ 1048576) (hlb : b.length ≤ 1048576) {k : Nat} (hk : 2 * (max a.length b.length) + 4 < k) : lineageref03_Add.f k a b = some (Bn.limbs (Bn.nv a + Bn.nv b)) := by
  unfold lineageref03_Add.f
  exact refAdd_l0 ha hb hla hlb (max a.length b.length + 1) 0 k (by omega) (by omega) (.inl rfl)
theorem subOut_succ (a b : List Int) (n : Nat) : subOut a b (n + 1) = subOut a b n ++ [subS a b n] := by simp [subOut, List.range_succ]
theorem subOut_length (a b : List Int) (n : Nat) : (subOut a b n).length = n := by simp [subOut]
theorem refSub_l0 {a b : List Int} (ha : Bn.Nrm a) (hb : Bn.Nrm b) (hla : a.length ≤ 1048576) (hle : Bn.nv b ≤ Bn.nv a) : ∀ (n i k : Nat), i + n = a.length → n + a.length + 1 < k →
    lineageref03_Sub.l0 k a b (subOut a b i) (subC a b i) (i : Int) = some (Bn.limbs (Bn.nv a - Bn.nv b)) := by
  intro n
  induction n with
  | zero =>
    intro i k hi hk
    obtain ⟨k, rfl⟩ : ∃ m, k = m + 1 := ⟨k - 1, by omega⟩
    obtain rfl : i = a.length := by omega
    simp only [lineageref03_Sub.l0]
    rw [if_neg (by omega), refTrim_f (subOut_limbs a b _) (by rw [subOut_length]; omega) (by rw [subOut_length]; omega), subOut_eq ha hb hle]
    rfl
  | succ n ih =>
    intro i k hi hk
    obtain ⟨k, rfl⟩ : ∃ m, k = m + 1 := ⟨k - 1, by omega⟩
    have r1 := rd_limb ha.1 i
    have r2 := rd_limb hb.1 i
    have c1 := subC_le a b i
    have e := ih (i + 1) k (by omega) (by omega)
    rw [subOut_succ] at e
    simp only [lineageref03_Sub.l0]
    have ew : wrap64 ((i : Int) + 1) = ((i + 1 : Nat) : Int) := (w64 (by omega) (by omega)).trans (by omega)
    rw [if_pos (by omega), limb_f ha.1, Option.bind_some, limb_f hb.1, Option.bind_some, u64w (n := rd b (i : Int) + subC a b i) (by omega) (by omega), ew]
    clear ew
    by_cases hlt : rd a (i : Int) < rd b (i : Int) + subC a b i
    · have es : subS a b i = rd a (i : Int) + 4294967296 - (rd b (i : Int) + subC a b i) := by unfold subS; omega
      have eb : subC a b (i + 1) = 1 := by simp only [subC, borrowed]; rw [if_pos hlt]
      rw [if_pos hlt, if_pos (by rw [subOut_length]; omega), u64w (n := rd a (i : Int) + 4294967296) (by omega) (by omega), u64w (by omega) (by omega)]
      rw [eb, es] at e
      rw [show (rd a (i : Int) + 4294967296 - (rd b (i : Int) + subC a b i)) % 4294967296 = rd a (i : Int) + 4294967296 - (rd b (i : Int) + subC a b i) by omega]
      exact e
    · have es : subS a b i = rd a (i : Int) - (rd b (i : Int) + subC a b i) := by unfold subS; omega
      have eb : subC a b (i + 1) = 0 := by simp only [subC, borrowed]; rw [if_neg hlt]
      rw [if_neg hlt, if_pos (by rw [subOut_length]; omega), u64w (by omega) (by omega)]
      rw [eb, es] at e
      rw [show (rd a (i : Int) - (rd b (i : Int) + subC a b i)) % 4294967296 = rd a (i : Int) - (rd b (i : Int) + subC a b i) by omega]
      exact e
theorem refSub_f {a b : List Int} (ha : Bn.Nrm a) (hb : Bn.Nrm b) (hla : a.length ≤ 1048576) (hle : Bn.nv b ≤ Bn.nv a) {k : Nat} (hk : 2 * a.length + 1 < k) : lineageref03_Sub.f k a b = some (Bn.limbs (Bn.nv a - Bn.nv b)) := by
  unfold lineageref03_Sub.f
  exact refSub_l0 ha hb hla hle a.length 0 k (by omega) (by omega)
theorem refCompare_l0 {a b : List Int} (ha : Bn.Limbs a) (hb : Bn.Limbs b) (hl : a.length = b.length) (hs : a.length ≤ 4611686018427387904) : ∀ (n k : Nat), n ≤ a.length → n < k → lineageref03_Compare.l0 k a b ((n : Int) - 1) = some (cmpN (Bn.nv (a.take n)) (Bn.nv (b.take n))) := by
  intro n
  induction n with
  | zero =>
    intro k _ hk
    obtain ⟨k, rfl⟩ : ∃ m, k = m + 1 := ⟨k - 1, by omega⟩
    simp only [lineageref03_Compare.l0]
    rw [if_neg (by omega)]
    simp [cmpN]
  | succ n ih =>
    intro k hn hk
    obtain ⟨k, rfl⟩ : ∃ m, k = m + 1 := ⟨k - 1, by omega⟩
    simp only [lineageref03_Compare.l0]
    have e : ((n + 1 : Nat) : Int) - 1 = (n : Int) := by omega
    rw [e, if_pos (by omega), if_pos (by omega), if_pos (by omega), if_pos (by omega)]
    have h1 := rd_limb ha n
    have h2 := rd_limb hb n
    have l1 := nv_take_lt ha n (by omega)
    have l2 := nv_take_lt hb n (by omega)
    rw [nv_take_nat, nv_take_nat]
    by_cases h0 : rd a (n : Int) = rd b (n : Int)
    · rw [if_pos h0, w64 (by omega) (by omega), ih k (by omega) (by omega), h0, cmpN_add]
    · rw [if_neg h0]
      generalize 4294967296 ^ n = P at l1 l2 ⊢
      generalize Bn.nv (a.take n) = X at l1 ⊢
      generalize Bn.nv (b.take n) = Y at l2 ⊢
      obtain ⟨x, hx⟩ := Int.eq_ofNat_of_zero_le h1.1
      obtain ⟨y, hy⟩ := Int.eq_ofNat_of_zero_le h2.1
      rw [hx, hy] at h0 ⊢
      simp only [Int.toNat_natCast]
      by_cases hlt : x < y
      · rw [if_pos (by omega), cmpN_lt]
        have : P * (x + 1) ≤ P * y := Nat.mul_le_mul_left P hlt
        rw [Nat.mul_add, Nat.mul_one] at this
        omega
      · have hgt : y < x := by omega
        rw [if_neg (by omega), cmpN_gt]
        have : P * (y + 1) ≤ P * x := Nat.mul_le_mul_left P hgt
        rw [Nat.mul_add, Nat.mul_one] at this
        omega
theorem refCompare_f {a b : List Int} (na : Bn.Nrm a) (nb : Bn.Nrm b) (hs : a.length ≤ 4611686018427387904) {k : Nat} (hk : a.length < k) : lineageref03_Compare.f k a b = some (cmpN (Bn.nv a) (Bn.nv b)) := by
  unfold lineageref03_Compare.f
  by_cases hl : a.length = b.length
  · rw [if_pos (by omega), w64 (by omega) (by omega), refCompare_l0 na.1 nb.1 hl hs a.length k (Nat.le_refl _) hk, List.take_length, hl, List.take_length]
  · rw [if_neg (by omega)]
    by_cases h : a.length < b.length
    · rw [if_pos (by omega), cmpN_lt (nv_len_lt na nb h)]
    · rw [if_neg (by omega), cmpN_gt (nv_len_lt nb na (by omega))]
theorem validB_limbs {n : Nat} (h : (Bn.limbs n).length ≤ 128) : validB (Bn.limbs n) = true := (validB_iff (Bn.limbs_limbs n)).2 ⟨Bn.nrm_limbs n, h⟩
theorem okL_mk {l : List Int} (h : Bn.Limbs l) (hl : l.length ≤ 1048576) : okL l = true := okL_iff.2 ⟨h, hl⟩
end Go.Proofs.YtoakfjcejamoeaaDoor.B
