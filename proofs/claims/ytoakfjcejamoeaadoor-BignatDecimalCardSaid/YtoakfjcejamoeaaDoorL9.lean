import Derived.Test.YtoakfjcejamoeaaDoorL5
import Derived.Lib.ItoaNum
namespace Go.Proofs.YtoakfjcejamoeaaDoor.B
open Go.RowKit Go.Proofs.YtoakfjcejamoeaaDoorW.PrintWords Go.Proofs.YtoakfjcejamoeaaDoorW.PrintLast Go.Proofs.YtoakfjcejamoeaaDoorW.PrintMore
set_option exponentiation.threshold 8200
set_option linter.unusedVariables false
set_option linter.unusedSimpArgs false
/-! ### Knuth's division: the pieces -/
theorem sub32_nat {x y : Nat} {c : Nat} (hx : x < 4294967296) (hy : y < 4294967296) (hc : c ≤ 1) : ∃ z b : Nat, bits_Sub32.f (x : Int) (y : Int) (c : Int) = some ((z : Int), (b : Int)) ∧ z < 4294967296 ∧ b ≤ 1 ∧ z + y + c = x + 4294967296 * b := by
  unfold bits_Sub32.f
  rw [if_pos ⟨⟨by omega, by omega⟩, ⟨by omega, by omega⟩, by omega, by omega⟩]
  unfold borrowed
  by_cases h : (x : Int) < y + c
  · refine ⟨((x : Int) - y - c + 4294967296).toNat, 1, ?_, by omega, by omega, by omega⟩
    rw [if_pos h]
    refine congrArg some (Prod.ext ?_ rfl)
    show ((x : Int) - y - c) % 4294967296 = _
    omega
  · refine ⟨((x : Int) - y - c).toNat, 0, ?_, by omega, by omega, by omega⟩
    rw [if_neg h]
    refine congrArg some (Prod.ext ?_ rfl)
    show ((x : Int) - y - c) % 4294967296 = _
    omega
theorem reduce_l0 {d : List Int} (hd : Bn.Limbs d) (at_ q : Nat) (hq : q < 4294967296) (hs : d.length ≤ 2000) (ha : at_ ≤ 2000) : ∀ (n i k : Nat) (u : List Int) (c b : Nat), i + n = d.length → n < k → at_ + d.length < u.length → Bn.Limbs u → c < 4294967296 → b ≤ 1 → u.length ≤ 4002 →
    ∃ (O : List Int) (B : Nat), bignat_reduce.l0 k u d (at_ : Int) (q : Int) (c : Int) (b : Int) (d.length : Int) (i : Int) = some (((B : Int) == 1), O) ∧ B ≤ 1 ∧ Bn.Limbs O ∧ O.length = u.length ∧ O.drop (at_ + d.length + 1) = u.drop (at_ + d.length + 1) ∧
      Bn.nv O + 4294967296 ^ at_ * (q * Bn.nv d) + 4294967296 ^ (at_ + i) * (c + b) = Bn.nv u + 4294967296 ^ at_ * (q * Bn.nv (d.take i)) + 4294967296 ^ (at_ + d.length + 1) * B := by
  intro n
  induction n with
  | zero =>
    intro i k u c b hi hk hul hu hc hb hul2
    obtain ⟨k, rfl⟩ : ∃ m, k = m + 1 := ⟨k - 1, by omega⟩
    obtain rfl : i = d.length := by omega
    simp only [bignat_reduce.l0]
    obtain ⟨x, hx, hxl⟩ := limb_rd hu (at_ + d.length)
    have hw : wrap64 ((at_ : Int) + (d.length : Int)) = ((at_ + d.length : Nat) : Int) := (w64 (by omega) (by omega)).trans (by omega)
    rw [hw]
    clear hw
    rw [if_neg (by omega), if_pos (Int.natCast_nonneg _), if_pos (Int.ofNat_lt.2 hul), hx, show ((c : Int) % 4294967296) = (c : Int) from Int.emod_eq_of_lt (Int.natCast_nonneg _) (Int.ofNat_lt.2 hc)]
    obtain ⟨z, b', e, hz, hb', hzz⟩ := sub32_nat hxl hc hb
    rw [e]
    have a1 := nv_set_nat hu (at_ + d.length) z x hul hx
    refine ⟨u.set (at_ + d.length) (z : Int), b', rfl, hb', hu.set _ _ ⟨Int.natCast_nonneg _, Int.ofNat_lt.2 hz⟩, by simp, ?_, ?_⟩
    · rw [List.drop_set_of_lt (by omega)]
    · rw [List.take_of_length_le (Nat.le_refl _)]
      rw [Nat.pow_succ]
      generalize Bn.nv (u.set (at_ + d.length) (z : Int)) = A1 at a1 ⊢
      generalize 4294967296 ^ (at_ + d.length) = P at a1 ⊢
      generalize 4294967296 ^ at_ * (q * Bn.nv d) = T
      generalize Bn.nv u = U at a1 ⊢
      have h2 : P * z + P * (c + b) = P * x + P * 4294967296 * b' := by
        rw [← Nat.mul_add, ← Nat.add_assoc, hzz, Nat.mul_add, Nat.mul_assoc]
      omega
  | succ n ih =>
    intro i k u c b hi hk hul hu hc hb hul2
    obtain ⟨k, rfl⟩ : ∃ m, k = m + 1 := ⟨k - 1, by omega⟩
    simp only [bignat_reduce.l0]
    obtain ⟨x, hx, hxl⟩ := limb_rd hu (at_ + i)
    obtain ⟨y, hy, hyl⟩ := limb_rd hd i
    have hw : wrap64 ((at_ : Int) + (i : Int)) = ((at_ + i : Nat) : Int) := (w64 (by omega) (by omega)).trans (by omega)
    have hw2 : wrap64 ((i : Int) + 1) = ((i + 1 : Nat) : Int) := (w64 (by omega) (by omega)).trans (by omega)
    rw [hw, hw2]
    clear hw hw2
    have hqy : q * y ≤ 4294967295 * 4294967295 := Nat.mul_le_mul (by omega) (by omega)
    have ep : IntKind.u64.wrap ((c : Int) + IntKind.u64.wrap ((q : Int) * IntKind.u64.wrap (y : Int))) = ((c + q * y : Nat) : Int) := by
      rw [u64N (show y < 18446744073709551616 by omega), ← Int.natCast_mul, u64N (by omega), ← Int.natCast_add, u64N (by omega)]
    rw [if_pos (by omega), if_pos (by omega), if_pos (by omega), if_pos (Int.natCast_nonneg _), if_pos (Int.ofNat_lt.2 (by omega)), hx, hy, ep]
    clear ep
    have hdm := Nat.div_add_mod (c + q * y) 4294967296
    rw [show ((c + q * y : Nat) : Int) % 4294967296 = (((c + q * y) % 4294967296 : Nat) : Int) from (Int.natCast_emod _ _).symm, show ((c + q * y : Nat) : Int) / 4294967296 = (((c + q * y) / 4294967296 : Nat) : Int) from (Int.natCast_ediv _ _).symm]
    have hlo : (c + q * y) % 4294967296 < 4294967296 := Nat.mod_lt _ (by decide)
    have hhi : (c + q * y) / 4294967296 < 4294967296 := by omega
    generalize (c + q * y) % 4294967296 = lo at *
    generalize (c + q * y) / 4294967296 = hi' at *
    obtain ⟨z, b', e, hz, hb', hzz⟩ := sub32_nat hxl hlo hb
    rw [e]
    have a1 := nv_set_nat hu (at_ + i) z x (by omega) hx
    obtain ⟨O, B, e1, e2, e3, e4, e5, e6⟩ := ih (i + 1) k (u.set (at_ + i) (z : Int)) hi' b' (by omega) (by omega) (by simpa using hul) (hu.set _ _ ⟨Int.natCast_nonneg _, Int.ofNat_lt.2 hz⟩) hhi hb' (by simpa using hul2)
    refine ⟨O, B, ?_, e2, e3, by simpa using e4, ?_, ?_⟩
    · rw [Option.bind_some, Int.toNat_natCast]
      exact e1
    · rw [e5, List.drop_set_of_lt (by omega)]
    · rw [nv_take_nat, hy, Int.toNat_natCast, ← Nat.add_assoc at_ i 1, Nat.pow_succ] at e6
      rw [Nat.pow_add 4294967296 at_ i] at *
      clear e1 e5 e hx hy
      generalize Bn.nv (u.set (at_ + i) (z : Int)) = A1 at a1 e6
      generalize 4294967296 ^ i = P at a1 e6 ⊢
      generalize 4294967296 ^ at_ = R at a1 e6 ⊢
      generalize Bn.nv d = D at e6 ⊢
      generalize Bn.nv (d.take i) = V at e6 ⊢
      generalize Bn.nv u = U at a1 ⊢
      generalize Bn.nv O = W at e6 ⊢
      grind
theorem add32_nat {x y c : Nat} (hx : x < 4294967296) (hy : y < 4294967296) (hc : c ≤ 1) : ∃ z b : Nat, bits_Add32.f (x : Int) (y : Int) (c : Int) = some ((z : Int), (b : Int)) ∧ z < 4294967296 ∧ b ≤ 1 ∧ z + 4294967296 * b = x + y + c := by
  have hdm := Nat.div_add_mod (x + y + c) 4294967296
  refine ⟨(x + y + c) % 4294967296, (x + y + c) / 4294967296, ?_, Nat.mod_lt _ (by decide), by omega, by omega⟩
  unfold bits_Add32.f
  rw [u64N (show x < 18446744073709551616 by omega), u64N (show y < 18446744073709551616 by omega), u64N (show c < 18446744073709551616 by omega), ← Int.natCast_add, u64N (by omega), ← Int.natCast_add, u64N (by omega)]
  refine congrArg some (Prod.ext ?_ ?_)
  · exact (Int.natCast_emod _ _).symm
  · show ((x + y + c : Nat) : Int) / 4294967296 % 4294967296 = _
    omega
theorem restore_l0 {d : List Int} (hd : Bn.Limbs d) (at_ : Nat) (hs : d.length ≤ 2000) (ha : at_ ≤ 2000) : ∀ (n i k : Nat) (u : List Int) (c : Nat), i + n = d.length → n < k → at_ + d.length < u.length → Bn.Limbs u → c ≤ 1 → u.length ≤ 4002 →
    ∃ (O : List Int) (F : Nat), bignat_restore.l0 k u d (at_ : Int) (c : Int) (d.length : Int) (i : Int) = some O ∧ F ≤ 1 ∧ Bn.Limbs O ∧ O.length = u.length ∧ O.drop (at_ + d.length + 1) = u.drop (at_ + d.length + 1) ∧
      Bn.nv O + 4294967296 ^ at_ * Bn.nv (d.take i) + 4294967296 ^ (at_ + d.length + 1) * F = Bn.nv u + 4294967296 ^ at_ * Bn.nv d + 4294967296 ^ (at_ + i) * c := by
  intro n
  induction n with
  | zero =>
    intro i k u c hi hk hul hu hc hul2
    obtain ⟨k, rfl⟩ : ∃ m, k = m + 1 := ⟨k - 1, by omega⟩
    obtain rfl : i = d.length := by omega
    simp only [bignat_restore.l0]
    obtain ⟨x, hx, hxl⟩ := limb_rd hu (at_ + d.length)
    have hw : wrap64 ((at_ : Int) + (d.length : Int)) = ((at_ + d.length : Nat) : Int) := (w64 (by omega) (by omega)).trans (by omega)
    rw [hw]
    clear hw
    rw [if_neg (by omega), if_pos (Int.natCast_nonneg _), if_pos (Int.ofNat_lt.2 hul), hx, ← Int.natCast_add, show ((x + c : Nat) : Int) % 4294967296 = (((x + c) % 4294967296 : Nat) : Int) from (Int.natCast_emod _ _).symm]
    have hdm := Nat.div_add_mod (x + c) 4294967296
    have hz : (x + c) % 4294967296 < 4294967296 := Nat.mod_lt _ (by decide)
    have hF : (x + c) / 4294967296 ≤ 1 := by omega
    generalize (x + c) % 4294967296 = z at *
    generalize (x + c) / 4294967296 = F at *
    have a1 := nv_set_nat hu (at_ + d.length) z x hul hx
    refine ⟨u.set (at_ + d.length) (z : Int), F, rfl, hF, hu.set _ _ ⟨Int.natCast_nonneg _, Int.ofNat_lt.2 hz⟩, by simp, ?_, ?_⟩
    · rw [List.drop_set_of_lt (by omega)]
    · rw [List.take_of_length_le (Nat.le_refl _)]
      rw [Nat.pow_succ]
      generalize Bn.nv (u.set (at_ + d.length) (z : Int)) = A1 at a1 ⊢
      generalize 4294967296 ^ (at_ + d.length) = P at a1 ⊢
      generalize 4294967296 ^ at_ * Bn.nv d = T
      generalize Bn.nv u = U at a1 ⊢
      have h2 : P * 4294967296 * F + P * z = P * x + P * c := by
        rw [← Nat.mul_add, ← hdm, Nat.mul_add, Nat.mul_assoc]
      omega
  | succ n ih =>
    intro i k u c hi hk hul hu hc hul2
    obtain ⟨k, rfl⟩ : ∃ m, k = m + 1 := ⟨k - 1, by omega⟩
    simp only [bignat_restore.l0]
    obtain ⟨x, hx, hxl⟩ := limb_rd hu (at_ + i)
    obtain ⟨y, hy, hyl⟩ := limb_rd hd i
    have hw : wrap64 ((at_ : Int) + (i : Int)) = ((at_ + i : Nat) : Int) := (w64 (by omega) (by omega)).trans (by omega)
    have hw2 : wrap64 ((i : Int) + 1) = ((i + 1 : Nat) : Int) := (w64 (by omega) (by omega)).trans (by omega)
    rw [hw, hw2]
    clear hw hw2
    rw [if_pos (by omega), if_pos (Int.natCast_nonneg _), if_pos (Int.ofNat_lt.2 (by omega)), if_pos (by omega), if_pos (by omega), hx, hy]
    obtain ⟨z, b', e, hz, hb', hzz⟩ := add32_nat hxl hyl hc
    rw [e]
    have a1 := nv_set_nat hu (at_ + i) z x (by omega) hx
    obtain ⟨O, F, e1, e2, e3, e4, e5, e6⟩ := ih (i + 1) k (u.set (at_ + i) (z : Int)) b' (by omega) (by omega) (by simpa using hul) (hu.set _ _ ⟨Int.natCast_nonneg _, Int.ofNat_lt.2 hz⟩) hb' (by simpa using hul2)
    refine ⟨O, F, ?_, e2, e3, by simpa using e4, ?_, ?_⟩
    · rw [Option.bind_some, Int.toNat_natCast]
      exact e1
    · rw [e5, List.drop_set_of_lt (by omega)]
    · rw [nv_take_nat, hy, Int.toNat_natCast, ← Nat.add_assoc at_ i 1, show 4294967296 ^ (at_ + i + 1) = 4294967296 ^ (at_ + i) * 4294967296 from Nat.pow_succ _ _] at e6
      rw [Nat.pow_add 4294967296 at_ i] at *
      clear e1 e5 e hx hy
      generalize Bn.nv (u.set (at_ + i) (z : Int)) = A1 at a1 e6
      generalize 4294967296 ^ i = P at a1 e6 ⊢
      generalize 4294967296 ^ at_ = R at a1 e6 ⊢
      generalize Bn.nv d = D at e6 ⊢
      generalize Bn.nv (d.take i) = V at e6 ⊢
      generalize Bn.nv u = U at a1 ⊢
      generalize Bn.nv O = W at e6 ⊢
      have h2 : R * P * z + R * P * 4294967296 * b' = R * P * x + R * P * y + R * P * c := by
        rw [Nat.mul_assoc (R * P), ← Nat.mul_add, hzz, Nat.mul_add, Nat.mul_add]
      rw [Nat.mul_add, ← Nat.mul_assoc R P y] at e6
      omega
theorem reduce_f {d u : List Int} (hd : Bn.Limbs d) (hu : Bn.Limbs u) {at_ q k : Nat} (hq : q < 4294967296) (hs : d.length ≤ 2000) (ha : at_ ≤ 2000) (hk : d.length < k) (hul : at_ + d.length < u.length) (hul2 : u.length ≤ 4002) :
    ∃ (O : List Int) (B : Nat), bignat_reduce.f k u d (at_ : Int) (q : Int) = some (((B : Int) == 1), O) ∧ B ≤ 1 ∧ Bn.Limbs O ∧ O.length = u.length ∧ O.drop (at_ + d.length + 1) = u.drop (at_ + d.length + 1) ∧
      Bn.nv O + 4294967296 ^ at_ * (q * Bn.nv d) = Bn.nv u + 4294967296 ^ (at_ + d.length + 1) * B := by
  obtain ⟨O, B, e1, e2, e3, e4, e5, e6⟩ := reduce_l0 hd at_ q hq hs ha d.length 0 k u 0 0 (by omega) hk hul hu (by omega) (by omega) hul2
  exact ⟨O, B, e1, e2, e3, e4, e5, by simpa [Bn.nv] using e6⟩
theorem restore_f {d u : List Int} (hd : Bn.Limbs d) (hu : Bn.Limbs u) {at_ k : Nat} (hs : d.length ≤ 2000) (ha : at_ ≤ 2000) (hk : d.length < k) (hul : at_ + d.length < u.length) (hul2 : u.length ≤ 4002) :
    ∃ (O : List Int) (F : Nat), bignat_restore.f k u d (at_ : Int) = some O ∧ F ≤ 1 ∧ Bn.Limbs O ∧ O.length = u.length ∧ O.drop (at_ + d.length + 1) = u.drop (at_ + d.length + 1) ∧
      Bn.nv O + 4294967296 ^ (at_ + d.length + 1) * F = Bn.nv u + 4294967296 ^ at_ * Bn.nv d := by
  obtain ⟨O, F, e1, e2, e3, e4, e5, e6⟩ := restore_l0 hd at_ hs ha d.length 0 k u 0 (by omega) hk hul hu (by omega) hul2
  exact ⟨O, F, e1, e2, e3, e4, e5, by simpa [Bn.nv] using e6⟩
/-! ### Knuth's division: the guess -/
theorem or_u64w {x y : Nat} (hx : x < 4294967296) (hy : y < 4294967296) : Go.bits .or .u64 (IntKind.u64.wrap ((x : Int) * 4294967296)) (IntKind.u64.wrap (y : Int)) = ((x * 4294967296 + y : Nat) : Int) := by
  have h := (bits_nat .u64 64 (by decide) (fun n h0 h1 => u64w h0 (by rw [show ((2 : Int) ^ 64) = 18446744073709551616 by decide] at h1; exact h1)) (x * 4294967296) y (Nat.lt_of_lt_of_eq (show x * 4294967296 < 18446744073709551616 by omega) (by decide)) (Nat.lt_of_lt_of_eq (show y < 18446744073709551616 by omega) (by decide))).2
  rw [or_nat hy] at h
  rw [show ((x : Int) * 4294967296) = ((x * 4294967296 : Nat) : Int) from (Int.natCast_mul x 4294967296).symm, u64N (by omega), u64N (show y < 18446744073709551616 by omega)]
  exact h
/-- what the guess rests on: W the window, D the divisor, top and sec its leading limbs, h and third the window's -/
structure Guess (R W D top sec h third : Nat) : Prop where
  dlo : (top * 4294967296 + sec) * R ≤ D
  dhi : D < (top * 4294967296 + sec + 1) * R
  wlo : (h * 4294967296 + third) * R ≤ W
  whi : W < (h * 4294967296 + third + 1) * R
  top1 : 2147483648 ≤ top
  topl : top < 4294967296
  secl : sec < 4294967296
  thl : third < 4294967296
  wd : W < 4294967296 * D
theorem Guess.Rpos {R W D top sec h third : Nat} (H : Guess R W D top sec h third) : 0 < R := by
  rcases Nat.eq_zero_or_pos R with h0 | h0
  · have := H.dhi
    rw [h0] at this
    omega
  · exact h0
theorem Guess.dec {R W D top sec h third g r : Nat} (H : Guess R W D top sec h third) (e : g * top + r = h) (ht : r * 4294967296 + third < g * sec) : W < g * D := by
  refine Nat.lt_of_lt_of_le H.whi (Nat.le_trans ?_ (Nat.mul_le_mul_left g H.dlo))
  rw [← Nat.mul_assoc]
  refine Nat.mul_le_mul_right R ?_
  rw [← e, Nat.mul_add, Nat.add_mul, ← Nat.mul_assoc]
  omega
theorem Guess.ok1 {R W D top sec h third g r : Nat} (H : Guess R W D top sec h third) (e : g * top + r = h) (hg : g < 4294967296) (ht : g * sec ≤ r * 4294967296 + third) : g * D ≤ W + D := by
  have hR := H.Rpos
  have h1 : g * D ≤ g * ((top * 4294967296 + sec + 1) * R) := Nat.mul_le_mul_left g (Nat.le_of_lt H.dhi)
  have h2 : g * (top * 4294967296 + sec + 1) ≤ (h * 4294967296 + third) + (top * 4294967296 + sec) := by
    rw [← e, Nat.mul_add, Nat.mul_add, Nat.add_mul, ← Nat.mul_assoc]
    have := H.top1
    omega
  have h3 := Nat.mul_le_mul_right R h2
  rw [← Nat.mul_assoc] at h1
  rw [Nat.add_mul (h * 4294967296 + third)] at h3
  have := H.wlo
  have := H.dlo
  omega
theorem Guess.ok2 {R W D top sec h third g r : Nat} (H : Guess R W D top sec h third) (e : g * top + r = h) (hr : 4294967296 ≤ r) : g < 4294967296 ∧ g * D ≤ W := by
  have hR := H.Rpos
  have hg : g < 4294967296 := by
    rcases Nat.lt_or_ge g 4294967296 with h1 | h1
    · exact h1
    · exfalso
      have h2 : (h * 4294967296 + third) * R < 4294967296 * ((top * 4294967296 + sec + 1) * R) :=
        Nat.lt_of_le_of_lt H.wlo (Nat.lt_of_lt_of_le H.wd (Nat.mul_le_mul_left _ (Nat.le_of_lt H.dhi)))
      rw [← Nat.mul_assoc] at h2
      have h3 := Nat.lt_of_mul_lt_mul_right h2
      have h4 : 4294967296 * top ≤ g * top := Nat.mul_le_mul_right top h1
      have := H.secl
      omega
  refine ⟨hg, ?_⟩
  have h1 : g * D ≤ g * ((top * 4294967296 + sec + 1) * R) := Nat.mul_le_mul_left g (Nat.le_of_lt H.dhi)
  refine Nat.le_trans h1 (Nat.le_trans ?_ H.wlo)
  rw [← Nat.mul_assoc]
  refine Nat.mul_le_mul_right R ?_
  have h5 : g * (sec + 1) ≤ 4294967296 * 4294967296 := Nat.mul_le_mul (by omega) (by have := H.secl; omega)
  rw [← e, Nat.add_assoc, Nat.mul_add, Nat.add_mul, ← Nat.mul_assoc]
  omega
theorem guess_l1 {R W D top sec h third : Nat} (H : Guess R W D top sec h third) {s at_ : Nat} {d u o : List Int} (hs : d.length ≤ 2000) (ha : at_ ≤ 2000) (hd2 : 2 ≤ d.length) (hul : at_ + d.length < u.length) (h3 : rd u ((at_ + d.length - 2 : Nat) : Int) = (third : Int)) : ∀ (m k g r : Nat), 2 * m + 2 ≤ k → g * top + r = h → r < 4294967296 → 4294967296 ≤ r + m * 2147483648 → W < (g + 1) * D → g < 18446744073709551616 →
    ∃ k' g' : Nat, bignat_DivMod.l1 k (s : Int) d u o (top : Int) (sec : Int) (at_ : Int) (g : Int) (r : Int) = bignat_DivMod.j4 k' (s : Int) d u o (top : Int) (sec : Int) (at_ : Int) (g' : Int) ∧ k ≤ k' + 2 * m + 2 ∧ g' < 4294967296 ∧ W < (g' + 1) * D ∧ g' * D ≤ W + D := by
  intro m
  induction m with
  | zero => intro k g r _ _ h1 h2; omega
  | succ m ih =>
    intro k g r hk e hr hm hW hg
    have hw : wrap64 ((at_ : Int) + (d.length : Int)) = ((at_ + d.length : Nat) : Int) := by
      clear hW hm e hk
      exact (w64 (by omega) (by omega)).trans (by omega)
    have hw2 : wrap64 (((at_ + d.length : Nat) : Int) - 2) = ((at_ + d.length - 2 : Nat) : Int) := by
      clear hW hm e hk hw
      exact (w64 (by omega) (by omega)).trans (by omega)
    obtain ⟨k, rfl⟩ : ∃ j, k = j + 2 := ⟨k - 2, by omega⟩
    have htop := H.top1
    have htopl := H.topl
    -- the step down
    have down : 1 ≤ g → W < g * D → ∃ k' g' : Nat, bignat_DivMod.j3 (k + 1) (s : Int) d u o (top : Int) (sec : Int) (at_ : Int) (g : Int) (r : Int) true = bignat_DivMod.j4 k' (s : Int) d u o (top : Int) (sec : Int) (at_ : Int) (g' : Int) ∧ k + 2 ≤ k' + 2 * (m + 1) + 2 ∧ g' < 4294967296 ∧ W < (g' + 1) * D ∧ g' * D ≤ W + D := by
      intro hg1 hgW
      simp only [bignat_DivMod.j3, if_true]
      have e1 : IntKind.u64.wrap ((r : Int) + (top : Int)) = ((r + top : Nat) : Int) := by rw [← Int.natCast_add, u64N (by omega)]
      have e2 : IntKind.u64.wrap ((g : Int) - 1) = ((g - 1 : Nat) : Int) := by rw [show ((g : Int) - 1) = ((g - 1 : Nat) : Int) by omega, u64N (by omega)]
      rw [e1, e2]
      clear e1 e2
      obtain ⟨g, rfl⟩ : ∃ j, g = j + 1 := ⟨g - 1, by omega⟩
      rw [show g + 1 - 1 = g by omega]
      have e3 : g * top + (r + top) = h := by rw [← e, Nat.add_mul]; omega
      by_cases h1 : 4294967296 ≤ r + top
      · rw [if_pos (by omega)]
        obtain ⟨h5, h6⟩ := H.ok2 e3 h1
        exact ⟨k, g, rfl, by omega, h5, hgW, by omega⟩
      · rw [if_neg (by omega)]
        obtain ⟨k', g', q1, q2, q3⟩ := ih k g (r + top) (by omega) e3 (by omega) (by omega) hgW (by omega)
        exact ⟨k', g', q1, by omega, q3⟩
    simp only [bignat_DivMod.l1]
    by_cases hgB : 4294967296 ≤ g
    · rw [if_pos (by omega)]
      exact down (by omega) (Nat.lt_of_lt_of_le H.wd (Nat.mul_le_mul_right D hgB))
    · rw [if_neg (by omega), hw, hw2]
      clear hw hw2
      rw [if_pos (Int.natCast_nonneg _), if_pos (Int.ofNat_lt.2 (by omega)), h3, or_u64w hr H.thl]
      have hsec := H.secl
      have hgs : g * sec ≤ 4294967295 * 4294967295 := Nat.mul_le_mul (by omega) (by omega)
      have eg : IntKind.u64.wrap ((g : Int) * (sec : Int)) = ((g * sec : Nat) : Int) := by rw [← Int.natCast_mul, u64N (by omega)]
      rw [eg]
      clear eg
      by_cases ht : r * 4294967296 + third < g * sec
      · rw [decide_eq_true (Int.ofNat_lt.2 ht)]
        refine down ?_ (H.dec e ht)
        rcases Nat.eq_zero_or_pos g with h0 | h0
        · rw [h0, Nat.zero_mul] at ht
          omega
        · exact h0
      · rw [decide_eq_false (fun hh => ht (Int.ofNat_lt.1 hh))]
        refine ⟨k, g, ?_, by omega, by omega, hW, H.ok1 e (by omega) (by omega)⟩
        simp only [bignat_DivMod.j3]
        rfl
/-! ### Knuth's division: one step, in numbers -/
/-- after reduce: P = B^(at+n+1), Q = B^at -/
theorem step_keep {U O P Q g D W B : Nat} (hW1 : Q * W ≤ U) (e : O + Q * (g * D) = U + P * B) (hO : O < P) (hB : B ≤ 1) (hg : g * D ≤ W) : B = 0 := by
  have h1 : Q * (g * D) ≤ Q * W := Nat.mul_le_mul_left Q hg
  rcases Nat.eq_zero_or_pos B with h0 | h0
  · exact h0
  · exfalso
    obtain rfl : B = 1 := by omega
    omega
theorem step_borrow {U O P Q g D W B : Nat} (hW2 : U < Q * (W + 1)) (e : O + Q * (g * D) = U + P * B) (hB : B ≤ 1) (hg : W < g * D) : B = 1 := by
  have h1 : Q * (W + 1) ≤ Q * (g * D) := Nat.mul_le_mul_left Q hg
  rcases Nat.eq_zero_or_pos B with h0 | h0
  · subst h0
    omega
  · omega
theorem step_back {U O V P Q g D W F : Nat} (hW1 : Q * W ≤ U) (e : O + Q * (g * D) = U + P) (e2 : V + P * F = O + Q * D) (hV : V < P) (hF : F ≤ 1) (hg1 : 1 ≤ g) (hg : g * D ≤ W + D) : V + Q * ((g - 1) * D) = U := by
  obtain ⟨g, rfl⟩ : ∃ j, g = j + 1 := ⟨g - 1, by omega⟩
  rw [show g + 1 - 1 = g by omega]
  rw [Nat.add_mul, Nat.one_mul] at hg
  have h1 : Q * (g * D) ≤ Q * W := Nat.mul_le_mul_left Q (by omega)
  rw [Nat.add_mul, Nat.one_mul, Nat.mul_add] at e
  rcases Nat.eq_zero_or_pos F with h0 | h0
  · subst h0
    omega
  · obtain rfl : F = 1 := by omega
    omega
theorem digits3 {Z x y z : Nat} (h : Z < 4294967296 ^ 3) (h0 : Z % 4294967296 = z) (h1 : Z / 4294967296 % 4294967296 = y) (h2 : Z / 4294967296 / 4294967296 % 4294967296 = x) : Z = (x * 4294967296 + y) * 4294967296 + z := by
  rw [show (4294967296 : Nat) ^ 3 = 79228162514264337593543950336 by decide] at h
  omega
theorem digits2 {Z x y : Nat} (h : Z < 4294967296 ^ 2) (h0 : Z % 4294967296 = y) (h1 : Z / 4294967296 % 4294967296 = x) : Z = x * 4294967296 + y := by
  rw [show (4294967296 : Nat) ^ 2 = 18446744073709551616 by decide] at h
  omega
theorem guess_of {d u : List Int} (hd : Bn.Limbs d) (hu : Bn.Limbs u) {m top sec hh hl third : Nat} (hd2 : 2 ≤ d.length) (hul : m + d.length < u.length)
    (h1 : rd d ((d.length - 1 : Nat) : Int) = (top : Int)) (h2 : rd d ((d.length - 2 : Nat) : Int) = (sec : Int)) (htop : 2147483648 ≤ top)
    (h3 : rd u ((m + d.length : Nat) : Int) = (hh : Int)) (h4 : rd u ((m + d.length - 1 : Nat) : Int) = (hl : Int)) (h5 : rd u ((m + d.length - 2 : Nat) : Int) = (third : Int))
    (hU : Bn.nv u < 4294967296 ^ (m + 1) * Bn.nv d) : Guess (4294967296 ^ (d.length - 2)) (Bn.nv u / 4294967296 ^ m) (Bn.nv d) top sec (hh * 4294967296 + hl) third := by
  obtain ⟨n, hn⟩ : ∃ n, d.length = n + 2 := ⟨d.length - 2, by omega⟩
  have hdl := Bn.nv_lt hd
  rw [hn] at hd2 hul h1 h2 h3 h4 h5 hdl ⊢
  rw [show n + 2 - 2 = n by omega] at h2 ⊢
  rw [show n + 2 - 1 = n + 1 by omega] at h1
  rw [show m + (n + 2) - 2 = m + n by omega] at h5
  rw [show m + (n + 2) - 1 = m + n + 1 by omega] at h4
  rw [show m + (n + 2) = m + n + 1 + 1 by omega] at h3
  obtain ⟨a1, b1⟩ := nv_digit hd (n + 1) top (by omega) h1
  obtain ⟨a2, b2⟩ := nv_digit hd n sec (by omega) h2
  obtain ⟨a3, b3⟩ := nv_digit hu (m + n + 1 + 1) hh (by omega) h3
  obtain ⟨a4, b4⟩ := nv_digit hu (m + n + 1) hl (by omega) h4
  obtain ⟨a5, b5⟩ := nv_digit hu (m + n) third (by omega) h5
  have hR : 0 < 4294967296 ^ n := Nat.pow_pos (by decide)
  have hQ : 0 < 4294967296 ^ m := Nat.pow_pos (by decide)
  have eD : Bn.nv d / 4294967296 ^ n = top * 4294967296 + sec := by
    refine digits2 ?_ a2 ?_
    · refine (Nat.div_lt_iff_lt_mul hR).2 ?_
      rw [← Nat.pow_add, Nat.add_comm 2 n]
      exact hdl
    · rw [Nat.div_div_eq_div_mul, ← Nat.pow_succ]
      exact a1
  have hW : Bn.nv u / 4294967296 ^ m < 4294967296 * Bn.nv d := by
    refine (Nat.div_lt_iff_lt_mul hQ).2 ?_
    rw [Nat.mul_comm, ← Nat.mul_assoc, ← Nat.pow_succ]
    exact hU
  have eW : Bn.nv u / 4294967296 ^ m / 4294967296 ^ n = (hh * 4294967296 + hl) * 4294967296 + third := by
    refine digits3 ?_ ?_ ?_ ?_
    · refine (Nat.div_lt_iff_lt_mul hR).2 (Nat.lt_trans hW ?_)
      rw [← Nat.pow_add, show 3 + n = n + 2 + 1 by omega, Nat.pow_succ, Nat.mul_comm]
      exact Nat.mul_lt_mul_of_pos_right hdl (by decide)
    · rw [Nat.div_div_eq_div_mul, ← Nat.pow_add]
      exact a5
    · rw [Nat.div_div_eq_div_mul, Nat.div_div_eq_div_mul, ← Nat.mul_assoc, ← Nat.pow_add, ← Nat.pow_succ]
      exact a4
    · rw [Nat.div_div_eq_div_mul, Nat.div_div_eq_div_mul, Nat.div_div_eq_div_mul, ← Nat.mul_assoc, ← Nat.mul_assoc, ← Nat.pow_add, ← Nat.pow_succ, ← Nat.pow_succ]
      exact a3
  have m1 := Nat.div_add_mod (Bn.nv d) (4294967296 ^ n)
  have m2 := Nat.mod_lt (Bn.nv d) hR
  have m3 := Nat.div_add_mod (Bn.nv u / 4294967296 ^ m) (4294967296 ^ n)
  have m4 := Nat.mod_lt (Bn.nv u / 4294967296 ^ m) hR
  rw [eD, Nat.mul_comm] at m1
  rw [eW, Nat.mul_comm] at m3
  refine ⟨by omega, ?_, by omega, ?_, htop, b1, b2, b5, hW⟩
  · rw [Nat.add_mul (top * 4294967296 + sec), Nat.one_mul]
    omega
  · rw [Nat.add_mul ((hh * 4294967296 + hl) * 4294967296 + third), Nat.one_mul]
    omega
/-! ### Knuth's division: the main loop -/
theorem Guess.start {R W D top sec h third : Nat} (H : Guess R W D top sec h third) : W < (h / top + 1) * D := by
  have ht := H.top1
  have hdm := Nat.div_add_mod h top
  have hml := Nat.mod_lt h (show 0 < top by omega)
  have h1 : h + 1 ≤ (h / top + 1) * top := by rw [Nat.add_mul, Nat.one_mul, Nat.mul_comm (h / top)]; omega
  refine Nat.lt_of_lt_of_le H.whi (Nat.le_trans ?_ (Nat.mul_le_mul_left (h / top + 1) H.dlo))
  rw [← Nat.mul_assoc]
  refine Nat.mul_le_mul_right R ?_
  have h2 : (h + 1) * 4294967296 ≤ (h / top + 1) * top * 4294967296 := Nat.mul_le_mul_right _ h1
  have := H.thl
  rw [Nat.mul_add, ← Nat.mul_assoc]
  omega
theorem nv_below {u : List Int} (hu : Bn.Limbs u) {p : Nat} (hp : p ≤ u.length) (hz : Bn.nv (u.drop p) = 0) : Bn.nv u < 4294967296 ^ p := by
  have h := Bn.nv_append (u.take p) (u.drop p)
  rw [List.take_append_drop, hz] at h
  have h2 := Bn.nv_lt (hu.take p)
  rw [List.length_take, Nat.min_eq_left hp] at h2
  omega
theorem nv_above {u : List Int} {p : Nat} (hp : p ≤ u.length) (h : Bn.nv u < 4294967296 ^ p) : Bn.nv (u.drop p) = 0 := by
  have h1 := Bn.nv_append (u.take p) (u.drop p)
  rw [List.take_append_drop, List.length_take, Nat.min_eq_left hp] at h1
  rcases Nat.eq_zero_or_pos (Bn.nv (u.drop p)) with h0 | h0
  · exact h0
  · have : 4294967296 ^ p * 1 ≤ 4294967296 ^ p * Bn.nv (u.drop p) := Nat.mul_le_mul_left _ h0
    omega
/-- one round, after the guess -/
theorem div_j4 {d : List Int} (hd : Bn.Limbs d) (hs : d.length ≤ 2000) {s m top sec g k : Nat} {u o : List Int} (hu : Bn.Limbs u) (ho : Bn.Limbs o) (hk : d.length < k) (hm : m ≤ 2000) (hul : m + d.length < u.length) (hul2 : u.length ≤ 4002) (hol : m < o.length) (hz : rd o (m : Int) = ((0 : Nat) : Int))
    (hU : Bn.nv u < 4294967296 ^ (m + d.length + 1)) (hg : g < 4294967296) (hD : 0 < Bn.nv d) (h1 : Bn.nv u / 4294967296 ^ m < (g + 1) * Bn.nv d) (h2 : g * Bn.nv d ≤ Bn.nv u / 4294967296 ^ m + Bn.nv d) :
    ∃ (u' o' : List Int) (q : Nat), bignat_DivMod.j4 (k + 1) (s : Int) d u o (top : Int) (sec : Int) (m : Int) (g : Int) = bignat_DivMod.l0 k (s : Int) d u' o' (top : Int) (sec : Int) ((m : Int) - 1) ∧ Bn.Limbs u' ∧ Bn.Limbs o' ∧ u'.length = u.length ∧ o' = o.set m (q : Int) ∧
      Bn.nv u' + 4294967296 ^ m * (q * Bn.nv d) = Bn.nv u ∧ Bn.nv u' < 4294967296 ^ m * Bn.nv d ∧ Bn.nv o' = Bn.nv o + 4294967296 ^ m * q := by
  simp only [bignat_DivMod.j4]
  obtain ⟨O, B, e1, e2, e3, e4, e5, e6⟩ := reduce_f hd hu hg hs hm hk hul hul2
  rw [e1, Option.bind_some]
  have hQ : 0 < 4294967296 ^ m := Nat.pow_pos (by decide)
  have hOlt : Bn.nv O < 4294967296 ^ (m + d.length + 1) := nv_below e3 (by omega) (by rw [e5]; exact nv_above (by omega) hU)
  have hdm := Nat.div_add_mod (Bn.nv u) (4294967296 ^ m)
  have hml := Nat.mod_lt (Bn.nv u) hQ
  generalize hW : Bn.nv u / 4294967296 ^ m = W at *
  have hW1 : 4294967296 ^ m * W ≤ Bn.nv u := by omega
  have hW2 : Bn.nv u < 4294967296 ^ m * (W + 1) := by rw [Nat.mul_add, Nat.mul_one]; omega
  have hw : wrap64 ((m : Int) - 1) = (m : Int) - 1 := w64 (by omega) (by omega)
  have fin : ∀ q : Nat, q < 4294967296 → Bn.Limbs (o.set m (q : Int)) ∧ Bn.nv (o.set m (q : Int)) = Bn.nv o + 4294967296 ^ m * q := by
    intro q hq
    have a := nv_set_nat ho m q 0 hol hz
    exact ⟨ho.set _ _ ⟨Int.natCast_nonneg _, Int.ofNat_lt.2 hq⟩, by omega⟩
  have last : ∀ (q V : Nat), V + 4294967296 ^ m * (q * Bn.nv d) = Bn.nv u → W < (q + 1) * Bn.nv d → V < 4294967296 ^ m * Bn.nv d := by
    intro q V e h
    have h3 : 4294967296 ^ m * (W + 1) ≤ 4294967296 ^ m * ((q + 1) * Bn.nv d) := Nat.mul_le_mul_left _ h
    rw [Nat.add_mul q 1, Nat.one_mul, Nat.mul_add (4294967296 ^ m) (q * Bn.nv d)] at h3
    omega
  by_cases hb : W < g * Bn.nv d
  · obtain rfl : B = 1 := step_borrow hW2 e6 e2 hb
    rw [if_pos (show (((1 : Nat) : Int) == 1) = true from rfl)]
    obtain ⟨V, F, f1, f2, f3, f4, f5, f6⟩ := restore_f (at_ := m) (k := k) hd e3 hs hm hk (by omega) (by omega)
    have hg1 : 1 ≤ g := by
      rcases Nat.eq_zero_or_pos g with h0 | h0
      · rw [h0, Nat.zero_mul] at hb
        omega
      · exact h0
    have hVlt : Bn.nv V < 4294967296 ^ (m + d.length + 1) := nv_below f3 (by omega) (by rw [f5, e5]; exact nv_above (by omega) hU)
    rw [Nat.mul_one] at e6
    have hb2 := step_back hW1 e6 f6 hVlt f2 hg1 h2
    rw [f1, Option.bind_some, if_pos (Int.natCast_nonneg _), if_pos (Int.ofNat_lt.2 hol), hw, Int.toNat_natCast]
    have eg : IntKind.u64.wrap ((g : Int) - 1) % 4294967296 = ((g - 1 : Nat) : Int) := by
      rw [show ((g : Int) - 1) = ((g - 1 : Nat) : Int) by omega, u64N (by omega)]
      exact Int.emod_eq_of_lt (Int.natCast_nonneg _) (Int.ofNat_lt.2 (show g - 1 < 4294967296 by omega))
    rw [eg]
    obtain ⟨l1, l2⟩ := fin (g - 1) (by omega)
    exact ⟨V, _, g - 1, rfl, f3, l1, by omega, rfl, hb2, last _ _ hb2 (by rw [show g - 1 + 1 = g by omega]; exact hb), l2⟩
  · obtain rfl : B = 0 := step_keep hW1 e6 hOlt e2 (by omega)
    rw [if_neg (show ¬ (((0 : Nat) : Int) == 1) = true by decide)]
    rw [if_pos (Int.natCast_nonneg _), if_pos (Int.ofNat_lt.2 hol), hw, Int.toNat_natCast, show ((g : Int) % 4294967296) = (g : Int) from Int.emod_eq_of_lt (Int.natCast_nonneg _) (Int.ofNat_lt.2 hg)]
    obtain ⟨l1, l2⟩ := fin g hg
    rw [Nat.mul_zero, Nat.add_zero] at e6
    exact ⟨O, _, g, rfl, e3, l1, e4, rfl, e6, last _ _ e6 h1, l2⟩
end Go.Proofs.YtoakfjcejamoeaaDoor.B
