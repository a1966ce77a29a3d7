-- PRINTED by print.py (a twelfth state) out of the translation. Not trusted: Lean checks it.
import Derived.Test.YtoakfjcejamoeaaDoorBx0
import Derived.Test.YtoakfjcejamoeaaDoorBx1
namespace Go.Proofs.YtoakfjcejamoeaaDoor.B
open Go.RowKit Go.Proofs.YtoakfjcejamoeaaDoorW.PrintWords Go.Proofs.YtoakfjcejamoeaaDoorW.PrintLast Go.Proofs.YtoakfjcejamoeaaDoorW.PrintMore
attribute [local go_sem] max2_int min2_int max_two min_two max_three min_three max_four min_four   -- for this text's walks alone
set_option linter.unusedVariables false
set_option linter.unusedSimpArgs false

/-! ### bignat_Add: function 25 -/
theorem limbAt_calls (A : Option Addr) (n c : Nat) (w : World) : Calls Tryd.prog 74 #[.slice A n c] w fun e w' => ∃ b, e = .returned (.func (.func 109) #[] #[.pointer (some ⟨b, 0, none⟩)]) ∧ w'.heap[b]? = some (.cells #[.slice A n c] 23 (0, 0)) ∧ Below w.heap.size w w' := by
  have h : Calls Tryd.prog 74 #[.slice A n c] w fun e w' => e = .returned (.func (.func 109) #[] #[.pointer (some ⟨w.heap.size, 0, none⟩)]) ∧ w' = w.alloc (.cells #[.slice A n c] 23) := by
    go_enter Tryd.func74, Tryd.ntmps74
    go_wp2
    go_ret
    exact ⟨rfl, rfl⟩
  refine h.mono fun e w' ⟨he, hw⟩ => ⟨_, he, ?_, ?_⟩
  · rw [hw]; exact heap_alloc_new w _
  · rw [hw]; exact below_alloc (Below.refl _ _) _
theorem limb_any (A : Option Addr) (c b : Nat) (l : List Int) (i : Nat) (w : World) (hb : w.heap[b]? = some (.cells #[.slice A l.length c] 23 (0, 0))) (hC : Kd.C (Kd.int .u32) w A l.length l) :
    Calls Tryd.prog 109 #[.int .i64 (i : Int), .pointer (some ⟨b, 0, none⟩)] w fun e w' => e = .returned (.int .u32 (rd l (i : Int))) ∧ Drawn0 w w' := by
  have F0 : w.cell? ⟨b, 0, none⟩ = some (.slice A l.length c) := (blk_cell hb 0).trans rfl
  by_cases hi : i < l.length
  · obtain ⟨ad, e, hx⟩ := Kd.at_int hC (i : Int) (by omega) (by omega)
    subst e
    have h1 : ¬ ((i : Int) ≥ (l.length : Int)) := by omega
    have h2 : (i : Int) < (l.length : Int) := by omega
    simp only [Int.toNat_natCast] at hx
    clear hb hC
    go_enter Tryd.func109, Tryd.ntmps109
    go_wp2
    go_ret
    exact ⟨rfl, Drawn0.refl _⟩
  · have h1 : (i : Int) ≥ (l.length : Int) := by omega
    have e : rd l (i : Int) = 0 := by simp [rd, List.getD_eq_getElem?_getD, List.getElem?_eq_none (show l.length ≤ i by omega)]
    rw [e]
    clear hb hC e
    go_enter Tryd.func109, Tryd.ntmps109
    go_wp2
    go_ret
    exact ⟨rfl, Drawn0.refl _⟩
/-- The carry into place i, and the limb at place i, of a sum. -/
def addC (a b : List Int) : Nat → Int
  | 0 => 0
  | i + 1 => (rd a (i : Int) + rd b (i : Int) + addC a b i) / 4294967296
def addS (a b : List Int) (i : Nat) : Int := (rd a (i : Int) + rd b (i : Int) + addC a b i) % 4294967296
def addOut (a b : List Int) (n : Nat) : List Int := (List.range n).map (addS a b)
theorem rd_limb {l : List Int} (h : Bn.Limbs l) (i : Nat) : 0 ≤ rd l (i : Int) ∧ rd l (i : Int) < 4294967296 := by
  simp only [rd, Int.toNat_natCast, List.getD_eq_getElem?_getD]
  by_cases hi : i < l.length
  · rw [List.getElem?_eq_getElem hi]
    exact h.get i hi
  · rw [List.getElem?_eq_none (by omega)]
    exact ⟨by decide, by decide⟩
theorem addC_le {a b : List Int} (ha : Bn.Limbs a) (hb : Bn.Limbs b) : ∀ i, 0 ≤ addC a b i ∧ addC a b i ≤ 1
  | 0 => by simp [addC]
  | i + 1 => by
    have h1 := addC_le ha hb i
    have h2 := rd_limb ha i
    have h3 := rd_limb hb i
    simp only [addC]
    omega
theorem add32_f {x y c : Int} (hx : 0 ≤ x ∧ x < 4294967296) (hy : 0 ≤ y ∧ y < 4294967296) (hc : 0 ≤ c ∧ c ≤ 1) : bits_Add32.f x y c = some ((x + y + c) % 4294967296, (x + y + c) / 4294967296) := by
  have hw : ∀ n : Int, 0 ≤ n → n < 18446744073709551616 → IntKind.u64.wrap n = n := fun n h0 h1 => by simp [IntKind.wrap, IntKind.bits, IntKind.signed]; omega
  unfold bits_Add32.f
  rw [hw x (by omega) (by omega), hw y (by omega) (by omega), hw c (by omega) (by omega), hw (x + y) (by omega) (by omega), hw (x + y + c) (by omega) (by omega)]
  congr 2
  omega
theorem nv_take_succ (l : List Int) (i : Nat) : (Bn.nv (l.take (i + 1)) : Int) = Bn.nv (l.take i) + 4294967296 ^ i * (rd l (i : Int)).toNat := by
  simp only [rd, Int.toNat_natCast, List.getD_eq_getElem?_getD]
  by_cases hi : i < l.length
  · rw [List.take_add_one, List.getElem?_eq_getElem hi, Bn.nv_append, List.length_take, Nat.min_eq_left (by omega)]
    simp [Bn.nv]
  · rw [List.getElem?_eq_none (by omega), List.take_of_length_le (by omega), List.take_of_length_le (by omega)]
    simp
theorem addOut_nv {a b : List Int} (ha : Bn.Limbs a) (hb : Bn.Limbs b) : ∀ n : Nat, (Bn.nv (addOut a b n) : Int) + 4294967296 ^ n * addC a b n = Bn.nv (a.take n) + Bn.nv (b.take n)
  | 0 => by simp [addOut, Bn.nv, addC]
  | n + 1 => by
    have ih := addOut_nv ha hb n
    have h1 := rd_limb ha n
    have h2 := rd_limb hb n
    have h3 := addC_le ha hb n
    rw [nv_take_succ, nv_take_succ]
    unfold addOut at ih ⊢
    rw [List.range_succ, List.map_append, Bn.nv_append]
    simp only [List.map_cons, List.map_nil, List.length_map, List.length_range, Bn.nv, addC, addS]
    generalize Bn.nv (List.map (addS a b) (List.range n)) = X at ih ⊢
    have e1 : ((rd a (n : Int)).toNat : Int) = rd a (n : Int) := Int.toNat_of_nonneg h1.1
    have e2 : ((rd b (n : Int)).toNat : Int) = rd b (n : Int) := Int.toNat_of_nonneg h2.1
    have e3 : (((rd a (n : Int) + rd b (n : Int) + addC a b n) % 4294967296).toNat : Int) = (rd a (n : Int) + rd b (n : Int) + addC a b n) % 4294967296 := Int.toNat_of_nonneg (by omega)
    have e4 := Int.emod_add_mul_ediv (rd a (n : Int) + rd b (n : Int) + addC a b n) 4294967296
    simp only [Nat.mul_zero, Nat.add_zero, Int.natCast_add, Int.natCast_mul, Int.natCast_pow, Int.cast_ofNat_Int]
    rw [e1, e2, e3]
    generalize (rd a (n : Int) + rd b (n : Int) + addC a b n) / 4294967296 = q at e4 ⊢
    generalize (rd a (n : Int) + rd b (n : Int) + addC a b n) % 4294967296 = r at e4 ⊢
    rw [Int.pow_succ]
    grind
theorem addOut_limbs (a b : List Int) (n : Nat) : Bn.Limbs (addOut a b n) := fun x hx => by
  obtain ⟨i, _, rfl⟩ := List.mem_map.1 hx
  unfold addS
  omega
theorem addOut_eq {a b : List Int} (ha : Bn.Limbs a) (hb : Bn.Limbs b) (n : Nat) (h1 : a.length < n) (h2 : b.length < n) : Bn.nv (addOut a b n) = Bn.nv a + Bn.nv b := by
  have h := addOut_nv ha hb n
  have hc : addC a b n = 0 := by
    obtain ⟨m, rfl⟩ : ∃ m, n = m + 1 := ⟨n - 1, by omega⟩
    have h3 := addC_le ha hb m
    have e1 : rd a (m : Int) = 0 := by simp [rd, List.getD_eq_getElem?_getD, List.getElem?_eq_none (show a.length ≤ m by omega)]
    have e2 : rd b (m : Int) = 0 := by simp [rd, List.getD_eq_getElem?_getD, List.getElem?_eq_none (show b.length ≤ m by omega)]
    simp only [addC, e1, e2]
    omega
  rw [hc, List.take_of_length_le (by omega), List.take_of_length_le (by omega)] at h
  rw [Int.mul_zero, Int.add_zero] at h
  exact_mod_cast h
theorem w64 {n : Int} (h0 : -9223372036854775808 ≤ n) (h1 : n ≤ 9223372036854775807) : wrap64 n = n := by unfold wrap64; omega
def validB (l : List Int) : Bool := if l.length ≤ 128 then (if l.length = 0 then true else rd l ((l.length : Int) - 1) != 0) else false
theorem Valid_f (l : List Int) : bignat_Valid.f l = some (validB l) := by
  unfold bignat_Valid.f validB
  by_cases h : l.length ≤ 128
  · rw [if_pos (by omega), if_pos h]
    by_cases h0 : l.length = 0
    · rw [if_pos (by omega), if_pos h0]
    · rw [if_neg (by omega), if_neg h0, w64 (by omega) (by omega), if_pos (by omega), if_pos (by omega)]
  · rw [if_neg (by omega), if_neg h]
theorem rd_get' (l : List Int) (i : Nat) (h : i < l.length) : rd l (i : Int) = l[i] := by simp [rd, List.getD_eq_getElem?_getD, h]
theorem trimmed_l0 (l : List Int) (hl : l.length ≤ 4611686018427387904) : ∀ (n k : Nat), n ≤ l.length → n < k → bignat_trimmed.l0 k l (n : Int) = some (Bn.trimL (l.take n)) := by
  intro n
  induction n with
  | zero =>
    intro k _ hk
    obtain ⟨k, rfl⟩ : ∃ m, k = m + 1 := ⟨k - 1, by omega⟩
    simp only [bignat_trimmed.l0]
    rw [if_neg (by omega), if_pos (by omega), if_pos (by omega)]
    simp [Bn.trimL]
  | succ n ih =>
    intro k hn hk
    obtain ⟨k, rfl⟩ : ∃ m, k = m + 1 := ⟨k - 1, by omega⟩
    simp only [bignat_trimmed.l0]
    have e : wrap64 (((n + 1 : Nat) : Int) - 1) = (n : Int) := by rw [w64 (by omega) (by omega)]; omega
    have et : l.take (n + 1) = l.take n ++ [l[n]] := by rw [List.take_add_one, List.getElem?_eq_getElem (by omega)]; rfl
    rw [if_pos (by omega), e, if_pos (by omega), if_pos (by omega), rd_get' l n (by omega), et]
    by_cases h0 : l[n] = 0
    · rw [if_pos h0, ih k (by omega) (by omega), h0, Bn.trimL_snoc_zero]
    · rw [if_neg h0, if_pos (by omega), if_pos (by omega), Bn.trimL_snoc h0, ← et]
      rfl
theorem trimmed_f {l : List Int} (h : Bn.Limbs l) (hl : l.length ≤ 4611686018427387904) {k : Nat} (hk : l.length < k) : bignat_trimmed.f k l = some (Bn.limbs (Bn.nv l)) := by
  unfold bignat_trimmed.f
  rw [trimmed_l0 l hl l.length k (Nat.le_refl _) hk, List.take_length, Bn.trimL_eq h]
/-- A number that fits, or the error. -/
def fitB (n : Nat) : List Int × Int := if 128 < (Bn.limbs n).length then ([], 6) else (Bn.limbs n, 0)
theorem fitting_f {l : List Int} (h : Bn.Limbs l) (hl : l.length ≤ 4611686018427387904) {k : Nat} (hk : l.length < k) : bignat_fitting.f k l = some (fitB (Bn.nv l)) := by
  unfold bignat_fitting.f fitB
  rw [trimmed_f h hl hk]
  simp only [Option.bind_some]
  by_cases h1 : 128 < (Bn.limbs (Bn.nv l)).length
  · rw [if_pos (by omega), if_pos h1]
  · rw [if_neg (by omega), if_neg h1]
theorem validB_iff {l : List Int} (h : Bn.Limbs l) : validB l = true ↔ Bn.Nrm l ∧ l.length ≤ 128 := by
  unfold validB
  by_cases h1 : l.length ≤ 128
  · rw [if_pos h1]
    by_cases h0 : l.length = 0
    · rw [if_pos h0]
      obtain rfl := List.eq_nil_of_length_eq_zero h0
      exact ⟨fun _ => ⟨Bn.nrm_nil, h1⟩, fun _ => rfl⟩
    · rw [if_neg h0]
      obtain ⟨m, hm⟩ : ∃ m, l.length = m + 1 := ⟨l.length - 1, by omega⟩
      have e : ((l.length : Int) - 1) = (m : Int) := by omega
      rw [e, rd_get' l m (by omega)]
      have hg : l.getLast? = some l[m] := by
        rw [List.getLast?_eq_getElem?, show l.length - 1 = m by omega, List.getElem?_eq_getElem (by omega)]
      constructor
      · intro hh
        refine ⟨Bn.nrm_of_last h (.inr ?_), h1⟩
        rw [hg]
        intro h2
        injection h2 with h2
        simp [h2] at hh
      · rintro ⟨hh, _⟩
        have h2 := Bn.limbs_last (Bn.nv l)
        rw [hh.2, hg] at h2
        rcases h2 with h2 | h2
        · simp [h2] at h0
        · simpa using h2
  · rw [if_neg h1]
    exact ⟨fun hh => (by cases hh), fun hh => absurd hh.2 h1⟩
attribute [local go_sem] max2_int min2_int max_two min_two max_three min_three max_four min_four
theorem addOut_set (a b : List Int) {n i : Nat} (h : i < n) : (addOut a b i ++ List.replicate (n - i) 0).set i (addS a b i) = addOut a b (i + 1) ++ List.replicate (n - (i + 1)) 0 := by
  obtain ⟨m, hm⟩ : ∃ m, n - i = m + 1 := ⟨n - i - 1, by omega⟩
  rw [hm, show n - (i + 1) = m by omega, List.replicate_succ, List.set_append_right _ _ (by simp [addOut])]
  simp [addOut, List.range_succ]
def okL (l : List Int) : Bool := l.all (fun x => decide (0 ≤ x) && decide (x < 4294967296)) && decide (l.length ≤ 1048576)
theorem okL_iff {l : List Int} : okL l = true ↔ Bn.Limbs l ∧ l.length ≤ 1048576 := by
  simp [okL, Bn.Limbs]
/-- The sum. -/
def bignat_Add.f (l0 l1 : List Int) : Option (List Int × Int) := if okL l0 && okL l1 then some (if validB l0 && validB l1 then fitB (Bn.nv l0 + Bn.nv l1) else ([], 1)) else none
set_option maxHeartbeats 8000000 in
set_option maxRecDepth 100000 in
theorem bignat_Add.calls (A0 : Option Addr) (c0 : Nat) (l0 : List Int) (A1 : Option Addr) (c1 : Nat) (l1 : List Int) (r1 : List Int) (r2 : Int) (w : World) (hr0 : Kd.C (Kd.int .u32) w A0 l0.length l0) (hc0 : l0.length ≤ c0) (hr1 : Kd.C (Kd.int .u32) w A1 l1.length l1) (hc1 : l1.length ≤ c1) (h : bignat_Add.f l0 l1 = some (r1, r2)) :
    Calls Tryd.prog 25 #[.slice A0 l0.length c0, .slice A1 l1.length c1] w fun e w' => ∃ v0_ : Value, e = .returned (.tuple #[v0_, .int .i64 r2]) ∧ Kd.R (Kd.int .u32) 63 w' w.heap.size (fun _ => True) v0_ r1 ∧ Below w.heap.size w w' := by
  unfold bignat_Add.f at h
  split at h
  · rename_i hok
    rw [Bool.and_eq_true, okL_iff, okL_iff] at hok
    obtain ⟨⟨hL0, hn0⟩, hL1, hn1⟩ := hok
    have HR0 := Aside0.mk hr0
    have HC0 := Aside0.mk hc0
    have HR1 := Aside0.mk hr1
    have HC1 := Aside0.mk hc1
    have HL0 := Aside0.mk hL0
    have HL1 := Aside0.mk hL1
    have HH := Aside0.mk (Option.some.inj h)
    clear hr0 hc0 hr1 hc1 h hL0 hL1
    obtain ⟨v0, hv0⟩ : ∃ b, validB l0 = b := ⟨_, rfl⟩
    obtain ⟨v1, hv1⟩ : ∃ b, validB l1 = b := ⟨_, rfl⟩
    have HV0 := Aside0.mk (show bignat_Valid.f l0 = some v0 by rw [Valid_f, hv0])
    have HV1 := Aside0.mk (show bignat_Valid.f l1 = some v1 by rw [Valid_f, hv1])
    have HB0 := Aside0.mk hv0
    have HB1 := Aside0.mk hv1
    clear hv0 hv1
    cases v0 with
    | false =>
      go_enter Tryd.func25, Tryd.ntmps25
      go_wp2_with fail
      refine (bignat_Valid.calls A0 c0 l0 false w HR0.out HC0.out HV0.out).mono ?_
      rintro e w' ⟨rfl, ⟨nd, rfl⟩⟩
      go_wp2_with fail
      go_ret2
      have hv : (validB l0 && validB l1) = false := by rw [HB0.out, HB1.out]; rfl
      have hh := HH.out
      rw [hv] at hh
      obtain ⟨rfl, rfl⟩ := Prod.mk.inj hh
      exact ⟨_, rfl, Kd.R_nil _ _ _ _ _, pw_below_drewN (Below.refl _ _) _⟩
    | true =>
    cases v1 with
    | false =>
      go_enter Tryd.func25, Tryd.ntmps25
      go_wp2_with fail
      refine (bignat_Valid.calls A0 c0 l0 true w HR0.out HC0.out HV0.out).mono ?_
      rintro e w1 ⟨rfl, hd⟩
      have HW1 := Aside0.mk hd.below
      clear hd
      go_wp2_with fail
      refine (bignat_Valid.calls A1 c1 l1 false w1 (Kd.C_below HR1.out HW1.out) HC1.out HV1.out).mono ?_
      rintro e w2 ⟨rfl, hd⟩
      have HW2 := Aside0.mk (below_step HW1.out hd.below)
      clear hd
      go_wp2_with fail
      go_ret2
      have hv : (validB l0 && validB l1) = false := by rw [HB0.out, HB1.out]; rfl
      have hh := HH.out
      rw [hv] at hh
      obtain ⟨rfl, rfl⟩ := Prod.mk.inj hh
      exact ⟨_, rfl, Kd.R_nil _ _ _ _ _, HW2.out⟩
    | true =>
    go_enter Tryd.func25, Tryd.ntmps25
    go_wp2_with fail
    refine (bignat_Valid.calls A0 c0 l0 true w HR0.out HC0.out HV0.out).mono ?_
    rintro e w1 ⟨rfl, hd⟩
    have HW1 := Aside0.mk hd.below
    clear hd
    go_wp2_with fail
    refine (bignat_Valid.calls A1 c1 l1 true w1 (Kd.C_below HR1.out HW1.out) HC1.out HV1.out).mono ?_
    rintro e w2 ⟨rfl, hd⟩
    have HW2 := Aside0.mk (below_step HW1.out hd.below)
    clear hd HW1
    go_wp2_with fail
    refine (limbAt_calls A0 l0.length c0 w2).mono ?_
    rintro e w3 ⟨b0, rfl, hb0, hw3⟩
    have HW3 := Aside0.mk (below_step HW2.out hw3)
    have HX0 := Aside0.mk hb0
    clear hb0 hw3 HW2
    go_wp2_with fail
    refine (limbAt_calls A1 l1.length c1 w3).mono ?_
    rintro e w4 ⟨b1, rfl, hb1, hw4⟩
    have HW4 := Aside0.mk (below_step HW3.out hw4)
    have HX0' := Aside0.mk ((hw4.block b0 (blk_lt HX0.out)).trans HX0.out)
    have HX1 := Aside0.mk hb1
    have HR0' := Aside0.mk (Kd.C_below HR0.out HW4.out)
    have HR1' := Aside0.mk (Kd.C_below HR1.out HW4.out)
    clear hb1 hw4 HW3 HX0 HR0 HR1
    rcases Nat.lt_or_ge l0.length l1.length with hab | hab
    · have hab' : ((l0.length : Int) < (l1.length : Int)) := by omega
      obtain ⟨n, hn⟩ : ∃ n : Nat, n = l1.length + 1 := ⟨_, rfl⟩
      have HN := Aside0.mk hn
      have hn2 : n ≤ 1048577 := by omega
      clear hn
      go_wp2_with (first | ((with_reducible refine gate_dst (N := 29) rfl ?_); refine Kd.R_make (Kd.int .u32) w4.heap.size 63 rfl (N := 29) rfl 22 _ _ rfl ((l1.length : Int) + 1) rfl rfl Tryd.underlying22 (.int .u32 0) 4 info63 rfl (by decide) (by omega) 0 (ok := fun _ => True) (okp := fun _ => True) rfl (fun _ hk => hk) trivial (by omega) (by omega) (Below.refl _ _) (Nat.le_refl _) ?_; intro v5 w5 ho5 hb5 hg_ hnew_; clear hg_ hnew_; have HO5 := Aside0.mk ho5; have HW5 := Aside0.mk hb5; clear ho5 hb5; obtain ⟨g5, c5, rfl, hg5, _, _⟩ := Kd.R_form HO5.out (by simp); have HS := Aside0.mk (show (List.replicate ((l1.length : Int) + 1).toNat (0 : Int)).length = n by have := HN.out; rw [List.length_replicate]; omega); have HO5' := Aside0.mk (show Kd.R (Kd.int .u32) 63 w5 w4.heap.size (fun _ => True) (.slice (some ⟨g5, 0, none⟩) n c5) (addOut l0 l1 0 ++ List.replicate (n - 0) 0) from (by have h := HO5.out; rw [HS.out, show ((l1.length : Int) + 1).toNat = n from (by have := HN.out; omega)] at h; simpa [addOut] using h)); rw [HS.out]; have HG5 := Aside0.mk hg5; clear HO5 HS hg5))
      go_loopw [9, 32] (fun vc vi wr => ∃ i : Nat, i ≤ n ∧ vi = .int .i64 (i : Int) ∧ vc = .int .u32 (addC l0 l1 i) ∧ Aside0 (Below w4.heap.size w4 wr) ∧ Aside0 (Kd.R (Kd.int .u32) 63 wr w4.heap.size (fun _ => True) (.slice (some ⟨g5, 0, none⟩) n c5) (addOut l0 l1 i ++ List.replicate (n - i) 0))) (fun _ vi _ => n - (intOf vi).toNat)
      case atStart => exact ⟨0, Nat.zero_le _, rfl, rfl, HW5, HO5'⟩
      case round =>
        obtain ⟨i, hi, rfl, rfl, HBR, HOR⟩ := hrel
        clear HW5 HO5'
        by_cases hlt : i < n
        · have hlt' : ((i : Int) < (n : Int)) := by omega
          go_wp2_with fail
          refine (limb_any A0 c0 b0 l0 i wr ((HBR.out.block b0 (blk_lt HX0'.out)).trans HX0'.out) (Kd.C_below HR0'.out HBR.out)).mono ?_
          rintro e wa ⟨rfl, hd⟩
          have HBA := Aside0.mk (below_step HBR.out hd.below)
          have HOA := Aside0.mk (Kd.R_below HOR.out hd.below)
          clear hd HBR HOR
          go_wp2_with fail
          refine (limb_any A1 c1 b1 l1 i wa ((HBA.out.block b1 (blk_lt HX1.out)).trans HX1.out) (Kd.C_below HR1'.out HBA.out)).mono ?_
          rintro e wb ⟨rfl, hd⟩
          have HBB := Aside0.mk (below_step HBA.out hd.below)
          have HOB := Aside0.mk (Kd.R_below HOA.out hd.below)
          clear hd HBA HOA
          go_wp2_with fail
          refine (bits_Add32.calls (rd l0 (i : Int)) (rd l1 (i : Int)) (addC l0 l1 i) (addS l0 l1 i) (addC l0 l1 (i + 1)) wb (add32_f (rd_limb HL0.out i) (rd_limb HL1.out i) (addC_le HL0.out HL1.out i))).mono ?_
          rintro e wc ⟨rfl, hd⟩
          have HBC := Aside0.mk (below_step HBB.out hd.below)
          have HOC := Aside0.mk (Kd.R_below HOB.out hd.below)
          clear hd HBB HOB
          obtain ⟨hx, hf⟩ := Kd.R_celln 0 HOC.out (i : Int) (by omega) (by omega)
          simp only [Int.toNat_natCast] at hx hf
          go_wp2_with fail
          go_roundw
          case rel =>
            refine ⟨i + 1, hlt, by go_num, rfl, ⟨below_set HBC.out HG5.out⟩, ⟨?_⟩⟩
            have h := (Kd.R_putg HOC.out (i : Int) (addS l0 l1 i)).1
            rw [Int.toNat_natCast, addOut_set l0 l1 hlt] at h
            exact h
          case measure => simp [intOf]; omega
        · obtain rfl : i = n := by omega
          have hlt' : ¬ ((i : Int) < (i : Int)) := by omega
          have hfit : bignat_fitting.f (i + 1) (addOut l0 l1 i ++ List.replicate (i - i) 0) = some (r1, r2) := by
            have hh := HH.out
            rw [show (validB l0 && validB l1) = true by rw [HB0.out, HB1.out]; rfl, if_pos rfl] at hh
            rw [Nat.sub_self, List.replicate_zero, List.append_nil, fitting_f (addOut_limbs l0 l1 i) (by simp [addOut]; omega) (by simp [addOut]), addOut_eq HL0.out HL1.out i (by have := HN.out; omega) (by have := HN.out; omega), hh]
          have HF := Aside0.mk hfit
          clear hfit
          go_wp2_with fail
          refine (bignat_fitting.calls (i + 1) (fun _ => True) _ _ r1 r2 w4 wr HBR.out HOR.out HF.out).mono ?_
          rintro e w9 ⟨v9, rfl, hr9, hb9, _⟩
          have HR9 := Aside0.mk hr9
          have HB9 := Aside0.mk (below_step HW4.out hb9)
          clear hr9 hb9
          go_wp2_with fail
          go_ret2
          exact ⟨_, rfl, Kd.R_mono (Kd.R_lower HR9.out HW4.out.size) (fun _ _ => trivial), HB9.out⟩
    · have hab' : ¬ ((l0.length : Int) < (l1.length : Int)) := by omega
      have hab2 : ¬ (l0.length < l1.length) := by omega
      obtain ⟨n, hn⟩ : ∃ n : Nat, n = l0.length + 1 := ⟨_, rfl⟩
      have HN := Aside0.mk hn
      have hn2 : n ≤ 1048577 := by omega
      clear hn
      go_wp2_with (first | ((with_reducible refine gate_dst (N := 29) rfl ?_); refine Kd.R_make (Kd.int .u32) w4.heap.size 63 rfl (N := 29) rfl 22 _ _ rfl ((l0.length : Int) + 1) rfl rfl Tryd.underlying22 (.int .u32 0) 4 info63 rfl (by decide) (by omega) 0 (ok := fun _ => True) (okp := fun _ => True) rfl (fun _ hk => hk) trivial (by omega) (by omega) (Below.refl _ _) (Nat.le_refl _) ?_; intro v5 w5 ho5 hb5 hg_ hnew_; clear hg_ hnew_; have HO5 := Aside0.mk ho5; have HW5 := Aside0.mk hb5; clear ho5 hb5; obtain ⟨g5, c5, rfl, hg5, _, _⟩ := Kd.R_form HO5.out (by simp); have HS := Aside0.mk (show (List.replicate ((l0.length : Int) + 1).toNat (0 : Int)).length = n by have := HN.out; rw [List.length_replicate]; omega); have HO5' := Aside0.mk (show Kd.R (Kd.int .u32) 63 w5 w4.heap.size (fun _ => True) (.slice (some ⟨g5, 0, none⟩) n c5) (addOut l0 l1 0 ++ List.replicate (n - 0) 0) from (by have h := HO5.out; rw [HS.out, show ((l0.length : Int) + 1).toNat = n from (by have := HN.out; omega)] at h; simpa [addOut] using h)); rw [HS.out]; have HG5 := Aside0.mk hg5; clear HO5 HS hg5))
      go_loopw [9, 32] (fun vc vi wr => ∃ i : Nat, i ≤ n ∧ vi = .int .i64 (i : Int) ∧ vc = .int .u32 (addC l0 l1 i) ∧ Aside0 (Below w4.heap.size w4 wr) ∧ Aside0 (Kd.R (Kd.int .u32) 63 wr w4.heap.size (fun _ => True) (.slice (some ⟨g5, 0, none⟩) n c5) (addOut l0 l1 i ++ List.replicate (n - i) 0))) (fun _ vi _ => n - (intOf vi).toNat)
      case atStart => exact ⟨0, Nat.zero_le _, rfl, rfl, HW5, HO5'⟩
      case round =>
        obtain ⟨i, hi, rfl, rfl, HBR, HOR⟩ := hrel
        clear HW5 HO5'
        by_cases hlt : i < n
        · have hlt' : ((i : Int) < (n : Int)) := by omega
          go_wp2_with fail
          refine (limb_any A0 c0 b0 l0 i wr ((HBR.out.block b0 (blk_lt HX0'.out)).trans HX0'.out) (Kd.C_below HR0'.out HBR.out)).mono ?_
          rintro e wa ⟨rfl, hd⟩
          have HBA := Aside0.mk (below_step HBR.out hd.below)
          have HOA := Aside0.mk (Kd.R_below HOR.out hd.below)
          clear hd HBR HOR
          go_wp2_with fail
          refine (limb_any A1 c1 b1 l1 i wa ((HBA.out.block b1 (blk_lt HX1.out)).trans HX1.out) (Kd.C_below HR1'.out HBA.out)).mono ?_
          rintro e wb ⟨rfl, hd⟩
          have HBB := Aside0.mk (below_step HBA.out hd.below)
          have HOB := Aside0.mk (Kd.R_below HOA.out hd.below)
          clear hd HBA HOA
          go_wp2_with fail
          refine (bits_Add32.calls (rd l0 (i : Int)) (rd l1 (i : Int)) (addC l0 l1 i) (addS l0 l1 i) (addC l0 l1 (i + 1)) wb (add32_f (rd_limb HL0.out i) (rd_limb HL1.out i) (addC_le HL0.out HL1.out i))).mono ?_
          rintro e wc ⟨rfl, hd⟩
          have HBC := Aside0.mk (below_step HBB.out hd.below)
          have HOC := Aside0.mk (Kd.R_below HOB.out hd.below)
          clear hd HBB HOB
          obtain ⟨hx, hf⟩ := Kd.R_celln 0 HOC.out (i : Int) (by omega) (by omega)
          simp only [Int.toNat_natCast] at hx hf
          go_wp2_with fail
          go_roundw
          case rel =>
            refine ⟨i + 1, hlt, by go_num, rfl, ⟨below_set HBC.out HG5.out⟩, ⟨?_⟩⟩
            have h := (Kd.R_putg HOC.out (i : Int) (addS l0 l1 i)).1
            rw [Int.toNat_natCast, addOut_set l0 l1 hlt] at h
            exact h
          case measure => simp [intOf]; omega
        · obtain rfl : i = n := by omega
          have hlt' : ¬ ((i : Int) < (i : Int)) := by omega
          have hfit : bignat_fitting.f (i + 1) (addOut l0 l1 i ++ List.replicate (i - i) 0) = some (r1, r2) := by
            have hh := HH.out
            rw [show (validB l0 && validB l1) = true by rw [HB0.out, HB1.out]; rfl, if_pos rfl] at hh
            rw [Nat.sub_self, List.replicate_zero, List.append_nil, fitting_f (addOut_limbs l0 l1 i) (by simp [addOut]; omega) (by simp [addOut]), addOut_eq HL0.out HL1.out i (by have := HN.out; omega) (by have := HN.out; omega), hh]
          have HF := Aside0.mk hfit
          clear hfit
          go_wp2_with fail
          refine (bignat_fitting.calls (i + 1) (fun _ => True) _ _ r1 r2 w4 wr HBR.out HOR.out HF.out).mono ?_
          rintro e w9 ⟨v9, rfl, hr9, hb9, _⟩
          have HR9 := Aside0.mk hr9
          have HB9 := Aside0.mk (below_step HW4.out hb9)
          clear hr9 hb9
          go_wp2_with fail
          go_ret2
          exact ⟨_, rfl, Kd.R_mono (Kd.R_lower HR9.out HW4.out.size) (fun _ _ => trivial), HB9.out⟩
  · cases h

/-! ### bignat_FromUint: function 26 -/
def bignat_FromUint.f (k : Nat) (a0 : Int) : Option (List Int) := (bignat_trimmed.f k (([(a0) % 4294967296, (a0 / 4294967296) % 4294967296] : List Int))).bind fun t131 => (some t131)
set_option maxHeartbeats 8000000 in
set_option maxRecDepth 100000 in
theorem bignat_FromUint.calls (k : Nat) (a0 : Int) (r : List Int) (w : World) (h : bignat_FromUint.f k a0 = some r) :
    Calls Tryd.prog 26 #[.int .u64 a0] w fun e w' => ∃ v0_ : Value, e = .returned (v0_) ∧ Kd.R (Kd.int .u32) 63 w' w.heap.size (fun _ => True) v0_ r ∧ Below w.heap.size w w' := by
  have HB := Aside0.mk (Below.refl w.heap.size w)
  have H : ((bignat_trimmed.f k (([(a0) % 4294967296, (a0 / 4294967296) % 4294967296] : List Int))).bind fun t131 => (some t131)) = some r := h
  clear h
  obtain ⟨y128, hy128⟩ : ∃ y_ : List Int, y_ = (([(a0) % 4294967296, (a0 / 4294967296) % 4294967296] : List Int)) := ⟨_, rfl⟩
  replace H : ((bignat_trimmed.f k y128).bind fun t131 => (some t131)) = some r := by first | (rw [hy128]; with_reducible exact H) | (have H2_ := (Option.bind_some _ _).symm.trans H; rw [hy128]; with_reducible exact H2_) | (have H2_ := (Option.bind_some _ _).symm.trans H; with_reducible exact H2_) | with_reducible exact H | (rw [hy128]; exact H) | exact H
  have Ny128 := Aside0.mk hy128
  clear hy128
  replace H := Option.bind_eq_some_iff.mp H
  obtain ⟨t131, A20, H⟩ := H
  replace H : (some t131) = some r := H
  have A2 := Aside0.mk A20
  clear A20
  obtain rfl := Option.some.inj H
  go_enter Tryd.func26, Tryd.ntmps26
  go_wp2_with (first | ((with_reducible refine gate_dst (N := 8) rfl ?_); refine Kd.R_lit (Kd.int .u32) _ 63 ?hg (N := 8) ?hd (xs := ([(a0) % 4294967296, (a0 / 4294967296) % 4294967296] : List Int)) (inner := [.int .u32 ((a0) % 4294967296), .int .u32 ((a0 / 4294967296) % 4294967296)]) (ok := fun _ => True) (okp := fun _ => True) ?hr ?hp (fun _ hk => hk) trivial (Below.refl _ _) (Nat.le_refl _) (by simp) ?_; (case hd => rfl); (case hg => rfl); (case hr => first | (go_simp; done) | (go_simp; rfl)); (case hp => exact (Reps.one (show Kd.M (Kd.int .u32) _ _ _ ((a0) % 4294967296) [.int .u32 ((a0) % 4294967296)] from rfl) (Reps.one (show Kd.M (Kd.int .u32) _ _ _ ((a0 / 4294967296) % 4294967296) [.int .u32 ((a0 / 4294967296) % 4294967296)] from rfl) (Reps.none _ _)))); intro v129 w3 ho4 hb hg_ hnew_; clear hg_ hnew_; (first | rw [← Ny128.out] at ho4 | (simp only [Int.reduceToNat] at ho4; rw [← Ny128.out] at ho4)); have n0_ := Aside0.mk (Kd.R_lower ho4 (below_size (by repeat (first | (with_reducible first | exact HB.out | apply below_alloc | apply pw_below_drewN | apply below_drew1) | exact HB.out)))); have n1_ := Aside0.mk (below_step (by repeat (first | (with_reducible first | exact HB.out | apply below_alloc | apply pw_below_drewN | apply below_drew1) | exact HB.out)) hb); clear HB; have HO130 := n0_; have HB := n1_; clear n0_ n1_; clear hb ho4; obtain ⟨Ao5, co5, eo5⟩ := Kd.R_slice HO130.out; subst eo5) | ((with_reducible refine gate_callee (f := 76) rfl ?_); refine goesL_ (some 9) rfl rfl Tryd.func76 (by kernel_rfl) rfl #[.slice Ao5 y128.length co5] rfl (by (try simp only [List.map_toArray, List.map_cons, List.map_nil]); first | done | rfl | (simp only [List.length_drop, List.length_take]; rfl)) ?_; (with_reducible refine (bignat_trimmed.calls k (fun k_ => some k_ = (.slice Ao5 y128.length co5 : Value).ownBlock) (.slice Ao5 y128.length co5) y128 t131 w _ ?side1 ?side2 A2.out).mono ?_); (case side1 => repeat (first | (with_reducible first | exact HB.out | apply below_alloc | apply pw_below_drewN | apply below_drew1) | exact HB.out)); (case side2 => exact Kd.R_tight rfl HO130.out); rintro e w6 ⟨v132, rfl, ho0, hb, hkp⟩; refine ⟨_, rfl, ?_⟩; have n0_ := Aside0.mk (Kd.R_mono (ok' := fun k_ => True) ho0 (fun k_ hk_ => trivial)); have n1_ := Aside0.mk (hb); clear HB; clear HO130; have HO133 := n0_; have HB := n1_; clear n0_ n1_; (try clear hb); (try clear hkp); (try clear ho0)))
  go_ret
  exact ⟨_, by first | rfl | (simp [errW_none, errW_some] <;> rfl) | (simp [*, errW_none, errW_some] <;> rfl), by (with_reducible repeat (first | apply Kd.R_alloc | apply Kd.R_drewN | apply Kd.R_drew)); exact HO133.out, by repeat (first | (with_reducible first | exact HB.out | apply below_alloc | apply pw_below_drewN | apply below_drew1) | exact HB.out)⟩

/-! ### bignat_orZero: function 85 -/
def bignat_orZero.f (l0 : List Int) : Option (List Int) := (bignat_Valid.f l0).bind fun t134 => (if t134 = true then (some l0) else (some ([] : List Int)))
set_option maxHeartbeats 8000000 in
set_option maxRecDepth 100000 in
theorem bignat_orZero.calls (P0_ : Nat → Prop) (A0 : Option Addr) (c0 : Nat) (l0 : List Int) (r : List Int) (w : World) (hs0 : Kd.V (Kd.int .u32) 63 w w.heap.size (fun k_ => P0_ k_) (.slice A0 l0.length c0) l0) (h : bignat_orZero.f l0 = some r) :
    Calls Tryd.prog 85 #[.slice A0 l0.length c0] w fun e w' => ∃ v0_ : Value, e = .returned (v0_) ∧ Kd.V (Kd.int .u32) 63 w' w.heap.size (fun k_ => (P0_ k_ ∨ w.heap.size ≤ k_)) v0_ r ∧ Below w.heap.size w w' := by
  have HO0 := Aside0.mk (show Kd.V (Kd.int .u32) 63 w w.heap.size (fun k_ => (P0_ k_ ∨ w.heap.size ≤ k_)) (.slice A0 l0.length c0) l0 from Kd.V_mono hs0 (fun k_ hk => .inl hk))
  have HB := Aside0.mk (Below.refl w.heap.size w)
  have H : ((bignat_Valid.f l0).bind fun t134 => (if t134 = true then (some l0) else (some ([] : List Int)))) = some r := h
  clear h
  replace H := Option.bind_eq_some_iff.mp H
  obtain ⟨t134, A20, H⟩ := H
  replace H : (if t134 = true then (some l0) else (some ([] : List Int))) = some r := H
  have A2 := Aside0.mk A20
  clear A20
  by_cases c3 : t134 = true
  · subst c3
    have H1 : (some l0) = some r := by rw [if_pos rfl] at H; exact H
    clear H
    have H := H1
    clear H1
    obtain rfl := Option.some.inj H
    go_enter Tryd.func85, Tryd.ntmps85
    go_wp2_with (first | ((with_reducible refine gate_callee (f := 24) rfl ?_); refine goesL_ (some 4) rfl rfl Tryd.func24 (by kernel_rfl) rfl #[.slice A0 l0.length c0] rfl (by (try simp only [List.map_toArray, List.map_cons, List.map_nil]); first | done | rfl | (simp only [List.length_drop, List.length_take]; rfl)) ?_; (with_reducible refine (bignat_Valid.calls _ _ l0 true _ ?side1 ?side2 A2.out).mono ?_); (case side1 => repeat (first | exact (Kd.V_reads' HO0.out).2.2 | (with_reducible refine Kd.C_alloc ?_ _) | (with_reducible refine Kd.C_drewN ?_ _) | (with_reducible refine Kd.C_drew ?_))); (case side2 => exact (Kd.V_reads' HO0.out).2.1); rintro e w' ⟨rfl, ⟨nd, rfl⟩⟩; refine ⟨_, rfl, ?_⟩))
    go_ret
    exact ⟨_, by first | rfl | (simp [errW_none, errW_some] <;> rfl) | (simp [*, errW_none, errW_some] <;> rfl), by (with_reducible repeat (first | apply Kd.V_alloc | apply Kd.V_drewN | apply Kd.V_drew)); exact HO0.out, by repeat (first | (with_reducible first | exact HB.out | apply below_alloc | apply pw_below_drewN | apply below_drew1) | exact HB.out)⟩
  · replace c3 := Bool.eq_false_iff.mpr c3
    subst c3
    have H1 : (some ([] : List Int)) = some r := by rw [if_neg (show ¬ (false = true) by decide)] at H; exact H
    clear H
    have H := H1
    clear H1
    obtain rfl := Option.some.inj H
    go_enter Tryd.func85, Tryd.ntmps85
    go_wp2_with (first | ((with_reducible refine gate_callee (f := 24) rfl ?_); refine goesL_ (some 4) rfl rfl Tryd.func24 (by kernel_rfl) rfl #[.slice A0 l0.length c0] rfl (by (try simp only [List.map_toArray, List.map_cons, List.map_nil]); first | done | rfl | (simp only [List.length_drop, List.length_take]; rfl)) ?_; (with_reducible refine (bignat_Valid.calls _ _ l0 false _ ?side1 ?side2 A2.out).mono ?_); (case side1 => repeat (first | exact (Kd.V_reads' HO0.out).2.2 | (with_reducible refine Kd.C_alloc ?_ _) | (with_reducible refine Kd.C_drewN ?_ _) | (with_reducible refine Kd.C_drew ?_))); (case side2 => exact (Kd.V_reads' HO0.out).2.1); rintro e w' ⟨rfl, ⟨nd, rfl⟩⟩; refine ⟨_, rfl, ?_⟩))
    go_ret
    exact ⟨_, by first | rfl | (simp [errW_none, errW_some] <;> rfl) | (simp [*, errW_none, errW_some] <;> rfl), Kd.V_nil _ _ _ _ _, by repeat (first | (with_reducible first | exact HB.out | apply below_alloc | apply pw_below_drewN | apply below_drew1) | exact HB.out)⟩

/-! ### cmp_isNaN_int: function 111 -/
def cmp_isNaN_int.f (a0 : Int) : Option (Bool) := some (a0 != a0)
set_option maxHeartbeats 8000000 in
set_option maxRecDepth 100000 in
theorem cmp_isNaN_int.calls (a0 : Int) (r : Bool) (w : World) (h : cmp_isNaN_int.f a0 = some r) :
    Calls Tryd.prog 111 #[.int .i64 a0] w fun e w' => e = .returned (.bool r) ∧ Drawn0 w w' := by
  have H : (some (a0 != a0)) = some r := h
  clear h
  obtain rfl := Option.some.inj H
  go_enter Tryd.func111, Tryd.ntmps111
  go_wp2
  go_ret
  exact ⟨by first | rfl | (simp; done) | (simp [*]; done), by repeat (first | exact Drawn0.refl _ | apply Drawn0.step)⟩

/-! ### cmp_Compare_int: function 87 -/
def cmp_Compare_int.f (a0 : Int) (a1 : Int) : Option (Int) := (cmp_isNaN_int.f a0).bind fun t135 => ((cmp_isNaN_int.f a1).bind fun t136 => (if t135 = true then (if t136 = true then (some 0) else (some (-1))) else (if t136 = true then (some 1) else (if a0 < a1 then (some (-1)) else (if a0 > a1 then (some 1) else (some 0))))))
set_option maxHeartbeats 8000000 in
set_option maxRecDepth 100000 in
theorem cmp_Compare_int.calls (a0 : Int) (a1 : Int) (r : Int) (w : World) (h : cmp_Compare_int.f a0 a1 = some r) :
    Calls Tryd.prog 87 #[.int .i64 a0, .int .i64 a1] w fun e w' => e = .returned (.int .i64 r) ∧ Drawn0 w w' := by
  have H : ((cmp_isNaN_int.f a0).bind fun t135 => ((cmp_isNaN_int.f a1).bind fun t136 => (if t135 = true then (if t136 = true then (some 0) else (some (-1))) else (if t136 = true then (some 1) else (if a0 < a1 then (some (-1)) else (if a0 > a1 then (some 1) else (some 0))))))) = some r := h
  clear h
  replace H := Option.bind_eq_some_iff.mp H
  obtain ⟨t135, A30, H⟩ := H
  replace H : ((cmp_isNaN_int.f a1).bind fun t136 => (if t135 = true then (if t136 = true then (some 0) else (some (-1))) else (if t136 = true then (some 1) else (if a0 < a1 then (some (-1)) else (if a0 > a1 then (some 1) else (some 0)))))) = some r := H
  have A3 := Aside0.mk A30
  clear A30
  replace H := Option.bind_eq_some_iff.mp H
  obtain ⟨t136, A40, H⟩ := H
  replace H : (if t135 = true then (if t136 = true then (some 0) else (some (-1))) else (if t136 = true then (some 1) else (if a0 < a1 then (some (-1)) else (if a0 > a1 then (some 1) else (some 0))))) = some r := H
  have A4 := Aside0.mk A40
  clear A40
  by_cases c5 : t135 = true
  · subst c5
    have H1 : (if t136 = true then (some 0) else (some (-1))) = some r := by rw [if_pos rfl] at H; exact H
    clear H
    have H := H1
    clear H1
    by_cases c6 : t136 = true
    · subst c6
      have H1 : (some 0) = some r := by rw [if_pos rfl] at H; exact H
      clear H
      have H := H1
      clear H1
      obtain rfl := Option.some.inj H
      go_enter Tryd.func87, Tryd.ntmps87
      go_wp2_with (first | ((with_reducible refine gate_callee (f := 111) rfl ?_); refine goesL_ (some 8) rfl rfl Tryd.func111 (by kernel_rfl) rfl #[.int .i64 a0] rfl (by (try simp only [List.map_toArray, List.map_cons, List.map_nil]); first | done | rfl | (simp only [List.length_drop, List.length_take]; rfl)) ?_; (with_reducible refine (cmp_isNaN_int.calls a0 true _ A3.out).mono ?_); rintro e w' ⟨rfl, ⟨nd, rfl⟩⟩; refine ⟨_, rfl, ?_⟩) | ((with_reducible refine gate_callee (f := 111) rfl ?_); refine goesL_ (some 10) rfl rfl Tryd.func111 (by kernel_rfl) rfl #[.int .i64 a1] rfl (by (try simp only [List.map_toArray, List.map_cons, List.map_nil]); first | done | rfl | (simp only [List.length_drop, List.length_take]; rfl)) ?_; (with_reducible refine (cmp_isNaN_int.calls a1 true _ A4.out).mono ?_); rintro e w' ⟨rfl, ⟨nd, rfl⟩⟩; refine ⟨_, rfl, ?_⟩))
      go_ret
      exact ⟨by first | rfl | (simp; done) | (simp [*]; done), by repeat (first | exact Drawn0.refl _ | apply Drawn0.step)⟩
    · replace c6 := Bool.eq_false_iff.mpr c6
      subst c6
      have H1 : (some (-1)) = some r := by rw [if_neg (show ¬ (false = true) by decide)] at H; exact H
      clear H
      have H := H1
      clear H1
      obtain rfl := Option.some.inj H
      go_enter Tryd.func87, Tryd.ntmps87
      go_wp2_with (first | ((with_reducible refine gate_callee (f := 111) rfl ?_); refine goesL_ (some 8) rfl rfl Tryd.func111 (by kernel_rfl) rfl #[.int .i64 a0] rfl (by (try simp only [List.map_toArray, List.map_cons, List.map_nil]); first | done | rfl | (simp only [List.length_drop, List.length_take]; rfl)) ?_; (with_reducible refine (cmp_isNaN_int.calls a0 true _ A3.out).mono ?_); rintro e w' ⟨rfl, ⟨nd, rfl⟩⟩; refine ⟨_, rfl, ?_⟩) | ((with_reducible refine gate_callee (f := 111) rfl ?_); refine goesL_ (some 10) rfl rfl Tryd.func111 (by kernel_rfl) rfl #[.int .i64 a1] rfl (by (try simp only [List.map_toArray, List.map_cons, List.map_nil]); first | done | rfl | (simp only [List.length_drop, List.length_take]; rfl)) ?_; (with_reducible refine (cmp_isNaN_int.calls a1 false _ A4.out).mono ?_); rintro e w' ⟨rfl, ⟨nd, rfl⟩⟩; refine ⟨_, rfl, ?_⟩))
      go_ret
      exact ⟨by first | rfl | (simp; done) | (simp [*]; done), by repeat (first | exact Drawn0.refl _ | apply Drawn0.step)⟩
  · replace c5 := Bool.eq_false_iff.mpr c5
    subst c5
    have H1 : (if t136 = true then (some 1) else (if a0 < a1 then (some (-1)) else (if a0 > a1 then (some 1) else (some 0)))) = some r := by rw [if_neg (show ¬ (false = true) by decide)] at H; exact H
    clear H
    have H := H1
    clear H1
    by_cases c7 : t136 = true
    · subst c7
      have H1 : (some 1) = some r := by rw [if_pos rfl] at H; exact H
      clear H
      have H := H1
      clear H1
      obtain rfl := Option.some.inj H
      go_enter Tryd.func87, Tryd.ntmps87
      go_wp2_with (first | ((with_reducible refine gate_callee (f := 111) rfl ?_); refine goesL_ (some 8) rfl rfl Tryd.func111 (by kernel_rfl) rfl #[.int .i64 a0] rfl (by (try simp only [List.map_toArray, List.map_cons, List.map_nil]); first | done | rfl | (simp only [List.length_drop, List.length_take]; rfl)) ?_; (with_reducible refine (cmp_isNaN_int.calls a0 false _ A3.out).mono ?_); rintro e w' ⟨rfl, ⟨nd, rfl⟩⟩; refine ⟨_, rfl, ?_⟩) | ((with_reducible refine gate_callee (f := 111) rfl ?_); refine goesL_ (some 10) rfl rfl Tryd.func111 (by kernel_rfl) rfl #[.int .i64 a1] rfl (by (try simp only [List.map_toArray, List.map_cons, List.map_nil]); first | done | rfl | (simp only [List.length_drop, List.length_take]; rfl)) ?_; (with_reducible refine (cmp_isNaN_int.calls a1 true _ A4.out).mono ?_); rintro e w' ⟨rfl, ⟨nd, rfl⟩⟩; refine ⟨_, rfl, ?_⟩))
      go_ret
      exact ⟨by first | rfl | (simp; done) | (simp [*]; done), by repeat (first | exact Drawn0.refl _ | apply Drawn0.step)⟩
    · replace c7 := Bool.eq_false_iff.mpr c7
      subst c7
      have H1 : (if a0 < a1 then (some (-1)) else (if a0 > a1 then (some 1) else (some 0))) = some r := by rw [if_neg (show ¬ (false = true) by decide)] at H; exact H
      clear H
      have H := H1
      clear H1
      by_cases c8 : a0 < a1
      · rw [if_pos c8] at H
        have c8b0 : decide (a0 < a1) = true := decide_eq_true c8
        clear c8
        obtain rfl := Option.some.inj H
        go_enter Tryd.func87, Tryd.ntmps87
        go_wp2_with (first | ((with_reducible refine gate_callee (f := 111) rfl ?_); refine goesL_ (some 8) rfl rfl Tryd.func111 (by kernel_rfl) rfl #[.int .i64 a0] rfl (by (try simp only [List.map_toArray, List.map_cons, List.map_nil]); first | done | rfl | (simp only [List.length_drop, List.length_take]; rfl)) ?_; (with_reducible refine (cmp_isNaN_int.calls a0 false _ A3.out).mono ?_); rintro e w' ⟨rfl, ⟨nd, rfl⟩⟩; refine ⟨_, rfl, ?_⟩) | ((with_reducible refine gate_callee (f := 111) rfl ?_); refine goesL_ (some 10) rfl rfl Tryd.func111 (by kernel_rfl) rfl #[.int .i64 a1] rfl (by (try simp only [List.map_toArray, List.map_cons, List.map_nil]); first | done | rfl | (simp only [List.length_drop, List.length_take]; rfl)) ?_; (with_reducible refine (cmp_isNaN_int.calls a1 false _ A4.out).mono ?_); rintro e w' ⟨rfl, ⟨nd, rfl⟩⟩; refine ⟨_, rfl, ?_⟩))
        go_ret
        exact ⟨by first | rfl | (simp; done) | (simp [*]; done), by repeat (first | exact Drawn0.refl _ | apply Drawn0.step)⟩
      · rw [if_neg c8] at H
        have c8b0 : decide (a0 < a1) = false := decide_eq_false c8
        clear c8
        by_cases c9 : a0 > a1
        · rw [if_pos c9] at H
          have c9b0 : decide (a1 < a0) = true := decide_eq_true c9
          clear c9
          obtain rfl := Option.some.inj H
          go_enter Tryd.func87, Tryd.ntmps87
          go_wp2_with (first | ((with_reducible refine gate_callee (f := 111) rfl ?_); refine goesL_ (some 8) rfl rfl Tryd.func111 (by kernel_rfl) rfl #[.int .i64 a0] rfl (by (try simp only [List.map_toArray, List.map_cons, List.map_nil]); first | done | rfl | (simp only [List.length_drop, List.length_take]; rfl)) ?_; (with_reducible refine (cmp_isNaN_int.calls a0 false _ A3.out).mono ?_); rintro e w' ⟨rfl, ⟨nd, rfl⟩⟩; refine ⟨_, rfl, ?_⟩) | ((with_reducible refine gate_callee (f := 111) rfl ?_); refine goesL_ (some 10) rfl rfl Tryd.func111 (by kernel_rfl) rfl #[.int .i64 a1] rfl (by (try simp only [List.map_toArray, List.map_cons, List.map_nil]); first | done | rfl | (simp only [List.length_drop, List.length_take]; rfl)) ?_; (with_reducible refine (cmp_isNaN_int.calls a1 false _ A4.out).mono ?_); rintro e w' ⟨rfl, ⟨nd, rfl⟩⟩; refine ⟨_, rfl, ?_⟩))
          go_ret
          exact ⟨by first | rfl | (simp; done) | (simp [*]; done), by repeat (first | exact Drawn0.refl _ | apply Drawn0.step)⟩
        · rw [if_neg c9] at H
          have c9b0 : decide (a1 < a0) = false := decide_eq_false c9
          clear c9
          obtain rfl := Option.some.inj H
          go_enter Tryd.func87, Tryd.ntmps87
          go_wp2_with (first | ((with_reducible refine gate_callee (f := 111) rfl ?_); refine goesL_ (some 8) rfl rfl Tryd.func111 (by kernel_rfl) rfl #[.int .i64 a0] rfl (by (try simp only [List.map_toArray, List.map_cons, List.map_nil]); first | done | rfl | (simp only [List.length_drop, List.length_take]; rfl)) ?_; (with_reducible refine (cmp_isNaN_int.calls a0 false _ A3.out).mono ?_); rintro e w' ⟨rfl, ⟨nd, rfl⟩⟩; refine ⟨_, rfl, ?_⟩) | ((with_reducible refine gate_callee (f := 111) rfl ?_); refine goesL_ (some 10) rfl rfl Tryd.func111 (by kernel_rfl) rfl #[.int .i64 a1] rfl (by (try simp only [List.map_toArray, List.map_cons, List.map_nil]); first | done | rfl | (simp only [List.length_drop, List.length_take]; rfl)) ?_; (with_reducible refine (cmp_isNaN_int.calls a1 false _ A4.out).mono ?_); rintro e w' ⟨rfl, ⟨nd, rfl⟩⟩; refine ⟨_, rfl, ?_⟩))
          go_ret
          exact ⟨by first | rfl | (simp; done) | (simp [*]; done), by repeat (first | exact Drawn0.refl _ | apply Drawn0.step)⟩

/-! ### cmp_isNaN_uint32: function 112 -/
def cmp_isNaN_uint32.f (a0 : Int) : Option (Bool) := some (a0 != a0)
set_option maxHeartbeats 8000000 in
set_option maxRecDepth 100000 in
theorem cmp_isNaN_uint32.calls (a0 : Int) (r : Bool) (w : World) (h : cmp_isNaN_uint32.f a0 = some r) :
    Calls Tryd.prog 112 #[.int .u32 a0] w fun e w' => e = .returned (.bool r) ∧ Drawn0 w w' := by
  have H : (some (a0 != a0)) = some r := h
  clear h
  obtain rfl := Option.some.inj H
  go_enter Tryd.func112, Tryd.ntmps112
  go_wp2
  go_ret
  exact ⟨by first | rfl | (simp; done) | (simp [*]; done), by repeat (first | exact Drawn0.refl _ | apply Drawn0.step)⟩

/-! ### cmp_Compare_uint32: function 88 -/
def cmp_Compare_uint32.f (a0 : Int) (a1 : Int) : Option (Int) := (cmp_isNaN_uint32.f a0).bind fun t137 => ((cmp_isNaN_uint32.f a1).bind fun t138 => (if t137 = true then (if t138 = true then (some 0) else (some (-1))) else (if t138 = true then (some 1) else (if a0 < a1 then (some (-1)) else (if a0 > a1 then (some 1) else (some 0))))))
set_option maxHeartbeats 8000000 in
set_option maxRecDepth 100000 in
theorem cmp_Compare_uint32.calls (a0 : Int) (a1 : Int) (r : Int) (w : World) (h : cmp_Compare_uint32.f a0 a1 = some r) :
    Calls Tryd.prog 88 #[.int .u32 a0, .int .u32 a1] w fun e w' => e = .returned (.int .i64 r) ∧ Drawn0 w w' := by
  have H : ((cmp_isNaN_uint32.f a0).bind fun t137 => ((cmp_isNaN_uint32.f a1).bind fun t138 => (if t137 = true then (if t138 = true then (some 0) else (some (-1))) else (if t138 = true then (some 1) else (if a0 < a1 then (some (-1)) else (if a0 > a1 then (some 1) else (some 0))))))) = some r := h
  clear h
  replace H := Option.bind_eq_some_iff.mp H
  obtain ⟨t137, A30, H⟩ := H
  replace H : ((cmp_isNaN_uint32.f a1).bind fun t138 => (if t137 = true then (if t138 = true then (some 0) else (some (-1))) else (if t138 = true then (some 1) else (if a0 < a1 then (some (-1)) else (if a0 > a1 then (some 1) else (some 0)))))) = some r := H
  have A3 := Aside0.mk A30
  clear A30
  replace H := Option.bind_eq_some_iff.mp H
  obtain ⟨t138, A40, H⟩ := H
  replace H : (if t137 = true then (if t138 = true then (some 0) else (some (-1))) else (if t138 = true then (some 1) else (if a0 < a1 then (some (-1)) else (if a0 > a1 then (some 1) else (some 0))))) = some r := H
  have A4 := Aside0.mk A40
  clear A40
  by_cases c5 : t137 = true
  · subst c5
    have H1 : (if t138 = true then (some 0) else (some (-1))) = some r := by rw [if_pos rfl] at H; exact H
    clear H
    have H := H1
    clear H1
    by_cases c6 : t138 = true
    · subst c6
      have H1 : (some 0) = some r := by rw [if_pos rfl] at H; exact H
      clear H
      have H := H1
      clear H1
      obtain rfl := Option.some.inj H
      go_enter Tryd.func88, Tryd.ntmps88
      go_wp2_with (first | ((with_reducible refine gate_callee (f := 112) rfl ?_); refine goesL_ (some 8) rfl rfl Tryd.func112 (by kernel_rfl) rfl #[.int .u32 a0] rfl (by (try simp only [List.map_toArray, List.map_cons, List.map_nil]); first | done | rfl | (simp only [List.length_drop, List.length_take]; rfl)) ?_; (with_reducible refine (cmp_isNaN_uint32.calls a0 true _ A3.out).mono ?_); rintro e w' ⟨rfl, ⟨nd, rfl⟩⟩; refine ⟨_, rfl, ?_⟩) | ((with_reducible refine gate_callee (f := 112) rfl ?_); refine goesL_ (some 10) rfl rfl Tryd.func112 (by kernel_rfl) rfl #[.int .u32 a1] rfl (by (try simp only [List.map_toArray, List.map_cons, List.map_nil]); first | done | rfl | (simp only [List.length_drop, List.length_take]; rfl)) ?_; (with_reducible refine (cmp_isNaN_uint32.calls a1 true _ A4.out).mono ?_); rintro e w' ⟨rfl, ⟨nd, rfl⟩⟩; refine ⟨_, rfl, ?_⟩))
      go_ret
      exact ⟨by first | rfl | (simp; done) | (simp [*]; done), by repeat (first | exact Drawn0.refl _ | apply Drawn0.step)⟩
    · replace c6 := Bool.eq_false_iff.mpr c6
      subst c6
      have H1 : (some (-1)) = some r := by rw [if_neg (show ¬ (false = true) by decide)] at H; exact H
      clear H
      have H := H1
      clear H1
      obtain rfl := Option.some.inj H
      go_enter Tryd.func88, Tryd.ntmps88
      go_wp2_with (first | ((with_reducible refine gate_callee (f := 112) rfl ?_); refine goesL_ (some 8) rfl rfl Tryd.func112 (by kernel_rfl) rfl #[.int .u32 a0] rfl (by (try simp only [List.map_toArray, List.map_cons, List.map_nil]); first | done | rfl | (simp only [List.length_drop, List.length_take]; rfl)) ?_; (with_reducible refine (cmp_isNaN_uint32.calls a0 true _ A3.out).mono ?_); rintro e w' ⟨rfl, ⟨nd, rfl⟩⟩; refine ⟨_, rfl, ?_⟩) | ((with_reducible refine gate_callee (f := 112) rfl ?_); refine goesL_ (some 10) rfl rfl Tryd.func112 (by kernel_rfl) rfl #[.int .u32 a1] rfl (by (try simp only [List.map_toArray, List.map_cons, List.map_nil]); first | done | rfl | (simp only [List.length_drop, List.length_take]; rfl)) ?_; (with_reducible refine (cmp_isNaN_uint32.calls a1 false _ A4.out).mono ?_); rintro e w' ⟨rfl, ⟨nd, rfl⟩⟩; refine ⟨_, rfl, ?_⟩))
      go_ret
      exact ⟨by first | rfl | (simp; done) | (simp [*]; done), by repeat (first | exact Drawn0.refl _ | apply Drawn0.step)⟩
  · replace c5 := Bool.eq_false_iff.mpr c5
    subst c5
    have H1 : (if t138 = true then (some 1) else (if a0 < a1 then (some (-1)) else (if a0 > a1 then (some 1) else (some 0)))) = some r := by rw [if_neg (show ¬ (false = true) by decide)] at H; exact H
    clear H
    have H := H1
    clear H1
    by_cases c7 : t138 = true
    · subst c7
      have H1 : (some 1) = some r := by rw [if_pos rfl] at H; exact H
      clear H
      have H := H1
      clear H1
      obtain rfl := Option.some.inj H
      go_enter Tryd.func88, Tryd.ntmps88
      go_wp2_with (first | ((with_reducible refine gate_callee (f := 112) rfl ?_); refine goesL_ (some 8) rfl rfl Tryd.func112 (by kernel_rfl) rfl #[.int .u32 a0] rfl (by (try simp only [List.map_toArray, List.map_cons, List.map_nil]); first | done | rfl | (simp only [List.length_drop, List.length_take]; rfl)) ?_; (with_reducible refine (cmp_isNaN_uint32.calls a0 false _ A3.out).mono ?_); rintro e w' ⟨rfl, ⟨nd, rfl⟩⟩; refine ⟨_, rfl, ?_⟩) | ((with_reducible refine gate_callee (f := 112) rfl ?_); refine goesL_ (some 10) rfl rfl Tryd.func112 (by kernel_rfl) rfl #[.int .u32 a1] rfl (by (try simp only [List.map_toArray, List.map_cons, List.map_nil]); first | done | rfl | (simp only [List.length_drop, List.length_take]; rfl)) ?_; (with_reducible refine (cmp_isNaN_uint32.calls a1 true _ A4.out).mono ?_); rintro e w' ⟨rfl, ⟨nd, rfl⟩⟩; refine ⟨_, rfl, ?_⟩))
      go_ret
      exact ⟨by first | rfl | (simp; done) | (simp [*]; done), by repeat (first | exact Drawn0.refl _ | apply Drawn0.step)⟩
    · replace c7 := Bool.eq_false_iff.mpr c7
      subst c7
      have H1 : (if a0 < a1 then (some (-1)) else (if a0 > a1 then (some 1) else (some 0))) = some r := by rw [if_neg (show ¬ (false = true) by decide)] at H; exact H
      clear H
      have H := H1
      clear H1
      by_cases c8 : a0 < a1
      · rw [if_pos c8] at H
        have c8b0 : decide (a0 < a1) = true := decide_eq_true c8
        clear c8
        obtain rfl := Option.some.inj H
        go_enter Tryd.func88, Tryd.ntmps88
        go_wp2_with (first | ((with_reducible refine gate_callee (f := 112) rfl ?_); refine goesL_ (some 8) rfl rfl Tryd.func112 (by kernel_rfl) rfl #[.int .u32 a0] rfl (by (try simp only [List.map_toArray, List.map_cons, List.map_nil]); first | done | rfl | (simp only [List.length_drop, List.length_take]; rfl)) ?_; (with_reducible refine (cmp_isNaN_uint32.calls a0 false _ A3.out).mono ?_); rintro e w' ⟨rfl, ⟨nd, rfl⟩⟩; refine ⟨_, rfl, ?_⟩) | ((with_reducible refine gate_callee (f := 112) rfl ?_); refine goesL_ (some 10) rfl rfl Tryd.func112 (by kernel_rfl) rfl #[.int .u32 a1] rfl (by (try simp only [List.map_toArray, List.map_cons, List.map_nil]); first | done | rfl | (simp only [List.length_drop, List.length_take]; rfl)) ?_; (with_reducible refine (cmp_isNaN_uint32.calls a1 false _ A4.out).mono ?_); rintro e w' ⟨rfl, ⟨nd, rfl⟩⟩; refine ⟨_, rfl, ?_⟩))
        go_ret
        exact ⟨by first | rfl | (simp; done) | (simp [*]; done), by repeat (first | exact Drawn0.refl _ | apply Drawn0.step)⟩
      · rw [if_neg c8] at H
        have c8b0 : decide (a0 < a1) = false := decide_eq_false c8
        clear c8
        by_cases c9 : a0 > a1
        · rw [if_pos c9] at H
          have c9b0 : decide (a1 < a0) = true := decide_eq_true c9
          clear c9
          obtain rfl := Option.some.inj H
          go_enter Tryd.func88, Tryd.ntmps88
          go_wp2_with (first | ((with_reducible refine gate_callee (f := 112) rfl ?_); refine goesL_ (some 8) rfl rfl Tryd.func112 (by kernel_rfl) rfl #[.int .u32 a0] rfl (by (try simp only [List.map_toArray, List.map_cons, List.map_nil]); first | done | rfl | (simp only [List.length_drop, List.length_take]; rfl)) ?_; (with_reducible refine (cmp_isNaN_uint32.calls a0 false _ A3.out).mono ?_); rintro e w' ⟨rfl, ⟨nd, rfl⟩⟩; refine ⟨_, rfl, ?_⟩) | ((with_reducible refine gate_callee (f := 112) rfl ?_); refine goesL_ (some 10) rfl rfl Tryd.func112 (by kernel_rfl) rfl #[.int .u32 a1] rfl (by (try simp only [List.map_toArray, List.map_cons, List.map_nil]); first | done | rfl | (simp only [List.length_drop, List.length_take]; rfl)) ?_; (with_reducible refine (cmp_isNaN_uint32.calls a1 false _ A4.out).mono ?_); rintro e w' ⟨rfl, ⟨nd, rfl⟩⟩; refine ⟨_, rfl, ?_⟩))
          go_ret
          exact ⟨by first | rfl | (simp; done) | (simp [*]; done), by repeat (first | exact Drawn0.refl _ | apply Drawn0.step)⟩
        · rw [if_neg c9] at H
          have c9b0 : decide (a1 < a0) = false := decide_eq_false c9
          clear c9
          obtain rfl := Option.some.inj H
          go_enter Tryd.func88, Tryd.ntmps88
          go_wp2_with (first | ((with_reducible refine gate_callee (f := 112) rfl ?_); refine goesL_ (some 8) rfl rfl Tryd.func112 (by kernel_rfl) rfl #[.int .u32 a0] rfl (by (try simp only [List.map_toArray, List.map_cons, List.map_nil]); first | done | rfl | (simp only [List.length_drop, List.length_take]; rfl)) ?_; (with_reducible refine (cmp_isNaN_uint32.calls a0 false _ A3.out).mono ?_); rintro e w' ⟨rfl, ⟨nd, rfl⟩⟩; refine ⟨_, rfl, ?_⟩) | ((with_reducible refine gate_callee (f := 112) rfl ?_); refine goesL_ (some 10) rfl rfl Tryd.func112 (by kernel_rfl) rfl #[.int .u32 a1] rfl (by (try simp only [List.map_toArray, List.map_cons, List.map_nil]); first | done | rfl | (simp only [List.length_drop, List.length_take]; rfl)) ?_; (with_reducible refine (cmp_isNaN_uint32.calls a1 false _ A4.out).mono ?_); rintro e w' ⟨rfl, ⟨nd, rfl⟩⟩; refine ⟨_, rfl, ?_⟩))
          go_ret
          exact ⟨by first | rfl | (simp; done) | (simp [*]; done), by repeat (first | exact Drawn0.refl _ | apply Drawn0.step)⟩

/-! ### bignat_Compare: function 37 -/
def bignat_Compare.l0 : Nat → List Int → List Int → Int → Option (Int)
  | 0, _, _, _ => none
  | k + 1, x0, x1, x5 => if x5 ≥ 0 then (if 0 ≤ x5 then (if x5 < (x0.length : Int) then (if x5 < (x1.length : Int) then (if (rd x0 x5) = (rd x1 x5) then (bignat_Compare.l0 k x0 x1 (wrap64 (x5 - 1))) else ((cmp_Compare_uint32.f (rd x0 x5) (rd x1 x5)).bind fun t150 => (some t150))) else (none)) else (none)) else (none)) else (some 0)
def bignat_Compare.f (k : Nat) (l0 : List Int) (l1 : List Int) : Option (Int) := (bignat_orZero.f l0).bind fun t139 => ((bignat_orZero.f l1).bind fun t142 => (if (t139.length : Int) = (t142.length : Int) then (bignat_Compare.l0 k t139 t142 (wrap64 ((t139.length : Int) - 1))) else ((cmp_Compare_int.f (t139.length : Int) (t142.length : Int)).bind fun t145 => (some t145))))
set_option maxHeartbeats 8000000 in
set_option maxRecDepth 100000 in
theorem bignat_Compare.calls (k : Nat) (A0 : Option Addr) (c0 : Nat) (l0 : List Int) (A1 : Option Addr) (c1 : Nat) (l1 : List Int) (r : Int) (w : World) (hr0 : Kd.C (Kd.int .u32) w A0 l0.length l0) (hc0 : l0.length ≤ c0) (hr1 : Kd.C (Kd.int .u32) w A1 l1.length l1) (hc1 : l1.length ≤ c1) (h : bignat_Compare.f k l0 l1 = some r) :
    Calls Tryd.prog 37 #[.slice A0 l0.length c0, .slice A1 l1.length c1] w fun e w' => e = .returned (.int .i64 r) ∧ Below w.heap.size w w' := by
  have HR0 := Aside0.mk hr0
  have HC0 := Aside0.mk hc0
  clear hr0 hc0
  have HR1 := Aside0.mk hr1
  have HC1 := Aside0.mk hc1
  clear hr1 hc1
  have HB := Aside0.mk (Below.refl w.heap.size w)
  have H : ((bignat_orZero.f l0).bind fun t139 => ((bignat_orZero.f l1).bind fun t142 => (if (t139.length : Int) = (t142.length : Int) then (bignat_Compare.l0 k t139 t142 (wrap64 ((t139.length : Int) - 1))) else ((cmp_Compare_int.f (t139.length : Int) (t142.length : Int)).bind fun t145 => (some t145))))) = some r := h
  clear h
  replace H := Option.bind_eq_some_iff.mp H
  obtain ⟨t139, A30, H⟩ := H
  replace H : ((bignat_orZero.f l1).bind fun t142 => (if (t139.length : Int) = (t142.length : Int) then (bignat_Compare.l0 k t139 t142 (wrap64 ((t139.length : Int) - 1))) else ((cmp_Compare_int.f (t139.length : Int) (t142.length : Int)).bind fun t145 => (some t145)))) = some r := H
  have A3 := Aside0.mk A30
  clear A30
  replace H := Option.bind_eq_some_iff.mp H
  obtain ⟨t142, A40, H⟩ := H
  replace H : (if (t139.length : Int) = (t142.length : Int) then (bignat_Compare.l0 k t139 t142 (wrap64 ((t139.length : Int) - 1))) else ((cmp_Compare_int.f (t139.length : Int) (t142.length : Int)).bind fun t145 => (some t145))) = some r := H
  have A4 := Aside0.mk A40
  clear A40
  by_cases c5 : (t139.length : Int) = (t142.length : Int)
  · rw [if_pos c5] at H
    have c5b0 : ((t139.length : Int) == (t142.length : Int)) = true := beq_iff_eq.mpr c5
    have c5b1 : ((t139.length : Int) != (t142.length : Int)) = false := bne_eq_false_iff_eq.mpr c5
    have c5b2 : (t139.length == t142.length) = true := by first | simpa using c5 | (simp at c5 ⊢; omega)
    clear c5
    have H' := Aside0.mk H
    clear H
    go_enter Tryd.func37, Tryd.ntmps37
    go_wp2_with (first | (go_at_call 85; (with_reducible refine (bignat_orZero.calls (fun k_ => k_ < w.heap.size) _ _ l0 t139 _ ?side1 A3.out).mono ?_); (case side1 => exact Kd.V_mk HC0.out (Kd.F_below (Kd.C_F (Kd.heap_int .u32) HR0.out) (by repeat (first | (with_reducible first | exact HB.out | apply below_alloc | apply pw_below_drewN | apply below_drew1) | exact HB.out)))); rintro e w6 ⟨v140, rfl, ho0, hb⟩; have n0_ := Aside0.mk (Kd.V_lower (Kd.V_mono (ok' := fun k_ => True) ho0 (fun k_ hk_ => trivial)) (below_size (by repeat (first | (with_reducible first | exact HB.out | apply below_alloc | apply pw_below_drewN | apply below_drew1) | exact HB.out)))); have n1_ := Aside0.mk (below_step (by repeat (first | (with_reducible first | exact HB.out | apply below_alloc | apply pw_below_drewN | apply below_drew1) | exact HB.out)) hb); clear HB; have HO141 := n0_; have HB := n1_; clear n0_ n1_; (try clear hb); (try clear hb2); (try clear hk); (try clear hi); (try clear ho0)) | (go_at_call 85; (with_reducible refine (bignat_orZero.calls (fun k_ => k_ < w.heap.size) _ _ l1 t142 _ ?side1 A4.out).mono ?_); (case side1 => exact Kd.V_mk HC1.out (Kd.F_below (Kd.C_F (Kd.heap_int .u32) HR1.out) (by repeat (first | (with_reducible first | exact HB.out | apply below_alloc | apply pw_below_drewN | apply below_drew1) | exact HB.out)))); rintro e w7 ⟨v143, rfl, ho0, hb⟩; have n0_ := Aside0.mk (Kd.V_below (by (with_reducible repeat (first | apply Kd.V_alloc | apply Kd.V_drewN | apply Kd.V_drew)); exact HO141.out) hb); have n1_ := Aside0.mk (Kd.V_lower (Kd.V_mono (ok' := fun k_ => True) ho0 (fun k_ hk_ => trivial)) (below_size (by repeat (first | (with_reducible first | exact HB.out | apply below_alloc | apply pw_below_drewN | apply below_drew1) | exact HB.out)))); have n2_ := Aside0.mk (below_step (by repeat (first | (with_reducible first | exact HB.out | apply below_alloc | apply pw_below_drewN | apply below_drew1) | exact HB.out)) hb); clear HO141; clear HB; have HO141 := n0_; have HO144 := n1_; have HB := n2_; clear n0_ n1_ n2_; (try clear hb); (try clear hb2); (try clear hk); (try clear hi); (try clear ho0); obtain ⟨Ao8, co8, eo8⟩ := Kd.V_slice HO141.out; subst eo8; obtain ⟨Ao9, co9, eo9⟩ := Kd.V_slice HO144.out; subst eo9))
    repeat (go_quiet (first | (go_at_call 85; (with_reducible refine (bignat_orZero.calls (fun k_ => k_ < w.heap.size) _ _ l0 t139 _ ?side1 A3.out).mono ?_); (case side1 => exact Kd.V_mk HC0.out (Kd.F_below (Kd.C_F (Kd.heap_int .u32) HR0.out) (by repeat (first | (with_reducible first | exact HB.out | apply below_alloc | apply pw_below_drewN | apply below_drew1) | exact HB.out)))); rintro e w6 ⟨v140, rfl, ho0, hb⟩; have n0_ := Aside0.mk (Kd.V_lower (Kd.V_mono (ok' := fun k_ => True) ho0 (fun k_ hk_ => trivial)) (below_size (by repeat (first | (with_reducible first | exact HB.out | apply below_alloc | apply pw_below_drewN | apply below_drew1) | exact HB.out)))); have n1_ := Aside0.mk (below_step (by repeat (first | (with_reducible first | exact HB.out | apply below_alloc | apply pw_below_drewN | apply below_drew1) | exact HB.out)) hb); clear HB; have HO141 := n0_; have HB := n1_; clear n0_ n1_; (try clear hb); (try clear hb2); (try clear hk); (try clear hi); (try clear ho0)) | (go_at_call 85; (with_reducible refine (bignat_orZero.calls (fun k_ => k_ < w.heap.size) _ _ l1 t142 _ ?side1 A4.out).mono ?_); (case side1 => exact Kd.V_mk HC1.out (Kd.F_below (Kd.C_F (Kd.heap_int .u32) HR1.out) (by repeat (first | (with_reducible first | exact HB.out | apply below_alloc | apply pw_below_drewN | apply below_drew1) | exact HB.out)))); rintro e w7 ⟨v143, rfl, ho0, hb⟩; have n0_ := Aside0.mk (Kd.V_below (by (with_reducible repeat (first | apply Kd.V_alloc | apply Kd.V_drewN | apply Kd.V_drew)); exact HO141.out) hb); have n1_ := Aside0.mk (Kd.V_lower (Kd.V_mono (ok' := fun k_ => True) ho0 (fun k_ hk_ => trivial)) (below_size (by repeat (first | (with_reducible first | exact HB.out | apply below_alloc | apply pw_below_drewN | apply below_drew1) | exact HB.out)))); have n2_ := Aside0.mk (below_step (by repeat (first | (with_reducible first | exact HB.out | apply below_alloc | apply pw_below_drewN | apply below_drew1) | exact HB.out)) hb); clear HO141; clear HB; have HO141 := n0_; have HO144 := n1_; have HB := n2_; clear n0_ n1_ n2_; (try clear hb); (try clear hb2); (try clear hk); (try clear hi); (try clear ho0); obtain ⟨Ao8, co8, eo8⟩ := Kd.V_slice HO141.out; subst eo8; obtain ⟨Ao9, co9, eo9⟩ := Kd.V_slice HO144.out; subst eo9)); try go_wp2_with (first | (go_at_call 85; (with_reducible refine (bignat_orZero.calls (fun k_ => k_ < w.heap.size) _ _ l0 t139 _ ?side1 A3.out).mono ?_); (case side1 => exact Kd.V_mk HC0.out (Kd.F_below (Kd.C_F (Kd.heap_int .u32) HR0.out) (by repeat (first | (with_reducible first | exact HB.out | apply below_alloc | apply pw_below_drewN | apply below_drew1) | exact HB.out)))); rintro e w6 ⟨v140, rfl, ho0, hb⟩; have n0_ := Aside0.mk (Kd.V_lower (Kd.V_mono (ok' := fun k_ => True) ho0 (fun k_ hk_ => trivial)) (below_size (by repeat (first | (with_reducible first | exact HB.out | apply below_alloc | apply pw_below_drewN | apply below_drew1) | exact HB.out)))); have n1_ := Aside0.mk (below_step (by repeat (first | (with_reducible first | exact HB.out | apply below_alloc | apply pw_below_drewN | apply below_drew1) | exact HB.out)) hb); clear HB; have HO141 := n0_; have HB := n1_; clear n0_ n1_; (try clear hb); (try clear hb2); (try clear hk); (try clear hi); (try clear ho0)) | (go_at_call 85; (with_reducible refine (bignat_orZero.calls (fun k_ => k_ < w.heap.size) _ _ l1 t142 _ ?side1 A4.out).mono ?_); (case side1 => exact Kd.V_mk HC1.out (Kd.F_below (Kd.C_F (Kd.heap_int .u32) HR1.out) (by repeat (first | (with_reducible first | exact HB.out | apply below_alloc | apply pw_below_drewN | apply below_drew1) | exact HB.out)))); rintro e w7 ⟨v143, rfl, ho0, hb⟩; have n0_ := Aside0.mk (Kd.V_below (by (with_reducible repeat (first | apply Kd.V_alloc | apply Kd.V_drewN | apply Kd.V_drew)); exact HO141.out) hb); have n1_ := Aside0.mk (Kd.V_lower (Kd.V_mono (ok' := fun k_ => True) ho0 (fun k_ hk_ => trivial)) (below_size (by repeat (first | (with_reducible first | exact HB.out | apply below_alloc | apply pw_below_drewN | apply below_drew1) | exact HB.out)))); have n2_ := Aside0.mk (below_step (by repeat (first | (with_reducible first | exact HB.out | apply below_alloc | apply pw_below_drewN | apply below_drew1) | exact HB.out)) hb); clear HO141; clear HB; have HO141 := n0_; have HO144 := n1_; have HB := n2_; clear n0_ n1_ n2_; (try clear hb); (try clear hb2); (try clear hk); (try clear hi); (try clear ho0); obtain ⟨Ao8, co8, eo8⟩ := Kd.V_slice HO141.out; subst eo8; obtain ⟨Ao9, co9, eo9⟩ := Kd.V_slice HO144.out; subst eo9)))
    go_loopg [5] k (fun kq v5 w' => ∃ (x5_1 : Int), v5 = .int .i64 x5_1 ∧ Aside0 (bignat_Compare.l0 kq t139 t142 x5_1 = some r) ∧ Aside0 (kq ≤ k) ∧ Aside0 (Kd.V (Kd.int .u32) 63 w' w.heap.size (fun _ => True) (.slice Ao8 t139.length co8) t139) ∧ Aside0 (Kd.V (Kd.int .u32) 63 w' w.heap.size (fun _ => True) (.slice Ao9 t142.length co9) t142) ∧ Aside0 (Below w.heap.size w w'))
    case atStart => exact ⟨(wrap64 ((t139.length : Int) - 1)), (by first | rfl | (simp; done) | (simp [*]; done)), H', ⟨Nat.le_refl _⟩, ⟨by (with_reducible repeat (first | apply Kd.V_alloc | apply Kd.V_drewN | apply Kd.V_drew)); exact HO141.out⟩, ⟨by (with_reducible repeat (first | apply Kd.V_alloc | apply Kd.V_drewN | apply Kd.V_drew)); exact HO144.out⟩, ⟨by repeat (first | (with_reducible first | exact HB.out | apply below_alloc | apply pw_below_drewN | apply below_drew1) | exact HB.out)⟩⟩
    case round =>
      clear H'
      try clear c1
      try clear p2
      try clear c3
      try clear c5
      try clear c5b0
      try clear c5b1
      try clear c5b2
      try clear p6
      obtain ⟨x5_1, rfl, HA, HK1, HO_0, HO_1, HB⟩ := hrel
      cases gk with
      | zero => exact absurd HA.out (by simp [bignat_Compare.l0])
      | succ k1 =>
        have H := HA.out
        clear HA
        simp only [bignat_Compare.l0] at H
        by_cases c10 : x5_1 ≥ 0
        · rw [if_pos c10] at H
          have c10b0 : decide (0 ≤ x5_1) = true := decide_eq_true c10
          clear c10
          by_cases c11 : 0 ≤ x5_1
          · rw [if_pos c11] at H
            have c11b0 : decide (0 ≤ x5_1) = true := decide_eq_true c11
            clear c11
            by_cases c12 : x5_1 < (t139.length : Int)
            · rw [if_pos c12] at H
              have c12b0 : decide (x5_1 < (t139.length : Int)) = true := decide_eq_true c12
              clear c12
              by_cases c13 : x5_1 < (t142.length : Int)
              · rw [if_pos c13] at H
                have c13b0 : decide (x5_1 < (t142.length : Int)) = true := decide_eq_true c13
                clear c13
                by_cases c14 : (rd t139 x5_1) = (rd t142 x5_1)
                · rw [if_pos c14] at H
                  have c14b0 : ((rd t139 x5_1) == (rd t142 x5_1)) = true := beq_iff_eq.mpr c14
                  have c14b1 : ((rd t139 x5_1) != (rd t142 x5_1)) = false := bne_eq_false_iff_eq.mpr c14
                  clear c14
                  have H' := Aside0.mk H
                  clear H
                  have p146 : 0 ≤ (x5_1 : Int) := of_decide_eq_true (by first | (with_reducible assumption) | assumption)
                  have q146 : x5_1 < (t139.length : Int) := of_decide_eq_true (by first | (with_reducible assumption) | assumption)
                  obtain ⟨ad146, e146, hx146_0⟩ := Kd.at_int (Kd.V_reads' HO_0.out).2.2 x5_1 p146 q146
                  cases e146
                  replace p146 := eq_true p146
                  replace q146 := eq_true q146
                  have p147 : 0 ≤ (x5_1 : Int) := of_decide_eq_true (by first | (with_reducible assumption) | assumption)
                  have q147 : x5_1 < (t142.length : Int) := of_decide_eq_true (by first | (with_reducible assumption) | assumption)
                  obtain ⟨ad147, e147, hx147_0⟩ := Kd.at_int (Kd.V_reads' HO_1.out).2.2 x5_1 p147 q147
                  cases e147
                  replace p147 := eq_true p147
                  replace q147 := eq_true q147
                  go_wp2
                  repeat (go_quiet (fail); try go_wp2)
                  go_roundg k1
                  case measure => have := HK1.out; omega
                  case rel => exact ⟨(wrap64 (x5_1 - 1)), (by first | rfl | (simp; done) | (simp [*]; done)), H', ⟨by have := HK1.out; omega⟩, ⟨by (with_reducible repeat (first | apply Kd.V_alloc | apply Kd.V_drewN | apply Kd.V_drew)); exact HO_0.out⟩, ⟨by (with_reducible repeat (first | apply Kd.V_alloc | apply Kd.V_drewN | apply Kd.V_drew)); exact HO_1.out⟩, ⟨by repeat (first | (with_reducible first | exact HB.out | apply below_alloc | apply pw_below_drewN | apply below_drew1) | exact HB.out)⟩⟩
                · rw [if_neg c14] at H
                  have c14b0 : ((rd t139 x5_1) == (rd t142 x5_1)) = false := beq_eq_false_iff_ne.mpr c14
                  have c14b1 : ((rd t139 x5_1) != (rd t142 x5_1)) = true := bne_iff_ne.mpr c14
                  replace H := Option.bind_eq_some_iff.mp H
                  obtain ⟨t150, A150, H⟩ := H
                  replace H : (some t150) = some r := H
                  have A15 := Aside0.mk A150
                  clear A150
                  obtain rfl := Option.some.inj H
                  have p146 : 0 ≤ (x5_1 : Int) := of_decide_eq_true (by first | (with_reducible assumption) | assumption)
                  have q146 : x5_1 < (t139.length : Int) := of_decide_eq_true (by first | (with_reducible assumption) | assumption)
                  obtain ⟨ad146, e146, hx146_0⟩ := Kd.at_int (Kd.V_reads' HO_0.out).2.2 x5_1 p146 q146
                  cases e146
                  replace p146 := eq_true p146
                  replace q146 := eq_true q146
                  have p147 : 0 ≤ (x5_1 : Int) := of_decide_eq_true (by first | (with_reducible assumption) | assumption)
                  have q147 : x5_1 < (t142.length : Int) := of_decide_eq_true (by first | (with_reducible assumption) | assumption)
                  obtain ⟨ad147, e147, hx147_0⟩ := Kd.at_int (Kd.V_reads' HO_1.out).2.2 x5_1 p147 q147
                  cases e147
                  replace p147 := eq_true p147
                  replace q147 := eq_true q147
                  have p148 : 0 ≤ (x5_1 : Int) := of_decide_eq_true (by first | (with_reducible assumption) | assumption)
                  have q148 : x5_1 < (t139.length : Int) := of_decide_eq_true (by first | (with_reducible assumption) | assumption)
                  obtain ⟨ad148, e148, hx148_0⟩ := Kd.at_int (Kd.V_reads' HO_0.out).2.2 x5_1 p148 q148
                  obtain rfl : ad146 = ad148 := (by injection e148)
                  replace p148 := eq_true p148
                  replace q148 := eq_true q148
                  have p149 : 0 ≤ (x5_1 : Int) := of_decide_eq_true (by first | (with_reducible assumption) | assumption)
                  have q149 : x5_1 < (t142.length : Int) := of_decide_eq_true (by first | (with_reducible assumption) | assumption)
                  obtain ⟨ad149, e149, hx149_0⟩ := Kd.at_int (Kd.V_reads' HO_1.out).2.2 x5_1 p149 q149
                  obtain rfl : ad147 = ad149 := (by injection e149)
                  replace p149 := eq_true p149
                  replace q149 := eq_true q149
                  go_wp2_with (first | (go_at_call 88; (with_reducible refine (cmp_Compare_uint32.calls (rd t139 x5_1) (rd t142 x5_1) t150 _ A15.out).mono ?_); rintro e w' ⟨rfl, ⟨nd, rfl⟩⟩; (try first | exact ⟨rfl, _, World.drewN_drewN _ _ _⟩ | exact ⟨rfl, _, Eq.trans (World.drewN_drewN _ _ _) (congrArg (World.drewN _) (Nat.add_assoc _ _ _))⟩)))
                  repeat (go_quiet (first | (go_at_call 88; (with_reducible refine (cmp_Compare_uint32.calls (rd t139 x5_1) (rd t142 x5_1) t150 _ A15.out).mono ?_); rintro e w' ⟨rfl, ⟨nd, rfl⟩⟩; (try first | exact ⟨rfl, _, World.drewN_drewN _ _ _⟩ | exact ⟨rfl, _, Eq.trans (World.drewN_drewN _ _ _) (congrArg (World.drewN _) (Nat.add_assoc _ _ _))⟩))); try go_wp2_with (first | (go_at_call 88; (with_reducible refine (cmp_Compare_uint32.calls (rd t139 x5_1) (rd t142 x5_1) t150 _ A15.out).mono ?_); rintro e w' ⟨rfl, ⟨nd, rfl⟩⟩; (try first | exact ⟨rfl, _, World.drewN_drewN _ _ _⟩ | exact ⟨rfl, _, Eq.trans (World.drewN_drewN _ _ _) (congrArg (World.drewN _) (Nat.add_assoc _ _ _))⟩))))
                  go_ret
                  exact ⟨by first | rfl | (simp [errW_none, errW_some] <;> rfl) | (simp [*, errW_none, errW_some] <;> rfl), by repeat (first | (with_reducible first | exact HB.out | apply below_alloc | apply pw_below_drewN | apply below_drew1) | exact HB.out)⟩
              · rw [if_neg c13] at H
                exact absurd H (by simp)
            · rw [if_neg c12] at H
              exact absurd H (by simp)
          · rw [if_neg c11] at H
            exact absurd H (by simp)
        · rw [if_neg c10] at H
          have c10b0 : decide (0 ≤ x5_1) = false := decide_eq_false c10
          clear c10
          obtain rfl := Option.some.inj H
          go_wp2
          repeat (go_quiet (fail); try go_wp2)
          go_ret
          exact ⟨by first | rfl | (simp [errW_none, errW_some] <;> rfl) | (simp [*, errW_none, errW_some] <;> rfl), by repeat (first | (with_reducible first | exact HB.out | apply below_alloc | apply pw_below_drewN | apply below_drew1) | exact HB.out)⟩
  · rw [if_neg c5] at H
    have c5b0 : ((t139.length : Int) == (t142.length : Int)) = false := beq_eq_false_iff_ne.mpr c5
    have c5b1 : ((t139.length : Int) != (t142.length : Int)) = true := bne_iff_ne.mpr c5
    have c5b2 : (t139.length == t142.length) = false := by first | simpa using c5 | (simp at c5 ⊢; omega)
    replace H := Option.bind_eq_some_iff.mp H
    obtain ⟨t145, A160, H⟩ := H
    replace H : (some t145) = some r := H
    have A16 := Aside0.mk A160
    clear A160
    obtain rfl := Option.some.inj H
    go_enter Tryd.func37, Tryd.ntmps37
    go_wp2_with (first | (go_at_call 85; (with_reducible refine (bignat_orZero.calls (fun k_ => k_ < w.heap.size) _ _ l0 t139 _ ?side1 A3.out).mono ?_); (case side1 => exact Kd.V_mk HC0.out (Kd.F_below (Kd.C_F (Kd.heap_int .u32) HR0.out) (by repeat (first | (with_reducible first | exact HB.out | apply below_alloc | apply pw_below_drewN | apply below_drew1) | exact HB.out)))); rintro e w17 ⟨v140, rfl, ho0, hb⟩; have n0_ := Aside0.mk (Kd.V_lower (Kd.V_mono (ok' := fun k_ => True) ho0 (fun k_ hk_ => trivial)) (below_size (by repeat (first | (with_reducible first | exact HB.out | apply below_alloc | apply pw_below_drewN | apply below_drew1) | exact HB.out)))); have n1_ := Aside0.mk (below_step (by repeat (first | (with_reducible first | exact HB.out | apply below_alloc | apply pw_below_drewN | apply below_drew1) | exact HB.out)) hb); clear HB; have HO141 := n0_; have HB := n1_; clear n0_ n1_; (try clear hb); (try clear hb2); (try clear hk); (try clear hi); (try clear ho0)) | (go_at_call 85; (with_reducible refine (bignat_orZero.calls (fun k_ => k_ < w.heap.size) _ _ l1 t142 _ ?side1 A4.out).mono ?_); (case side1 => exact Kd.V_mk HC1.out (Kd.F_below (Kd.C_F (Kd.heap_int .u32) HR1.out) (by repeat (first | (with_reducible first | exact HB.out | apply below_alloc | apply pw_below_drewN | apply below_drew1) | exact HB.out)))); rintro e w18 ⟨v143, rfl, ho0, hb⟩; have n0_ := Aside0.mk (Kd.V_below (by (with_reducible repeat (first | apply Kd.V_alloc | apply Kd.V_drewN | apply Kd.V_drew)); exact HO141.out) hb); have n1_ := Aside0.mk (Kd.V_lower (Kd.V_mono (ok' := fun k_ => True) ho0 (fun k_ hk_ => trivial)) (below_size (by repeat (first | (with_reducible first | exact HB.out | apply below_alloc | apply pw_below_drewN | apply below_drew1) | exact HB.out)))); have n2_ := Aside0.mk (below_step (by repeat (first | (with_reducible first | exact HB.out | apply below_alloc | apply pw_below_drewN | apply below_drew1) | exact HB.out)) hb); clear HO141; clear HB; have HO141 := n0_; have HO144 := n1_; have HB := n2_; clear n0_ n1_ n2_; (try clear hb); (try clear hb2); (try clear hk); (try clear hi); (try clear ho0); obtain ⟨Ao19, co19, eo19⟩ := Kd.V_slice HO141.out; subst eo19; obtain ⟨Ao20, co20, eo20⟩ := Kd.V_slice HO144.out; subst eo20) | (go_at_call 87; (with_reducible refine (cmp_Compare_int.calls (t139.length : Int) (t142.length : Int) t145 _ A16.out).mono ?_); rintro e w' ⟨rfl, ⟨nd, rfl⟩⟩; (try first | exact ⟨rfl, _, World.drewN_drewN _ _ _⟩ | exact ⟨rfl, _, Eq.trans (World.drewN_drewN _ _ _) (congrArg (World.drewN _) (Nat.add_assoc _ _ _))⟩)))
    repeat (go_quiet (first | (go_at_call 85; (with_reducible refine (bignat_orZero.calls (fun k_ => k_ < w.heap.size) _ _ l0 t139 _ ?side1 A3.out).mono ?_); (case side1 => exact Kd.V_mk HC0.out (Kd.F_below (Kd.C_F (Kd.heap_int .u32) HR0.out) (by repeat (first | (with_reducible first | exact HB.out | apply below_alloc | apply pw_below_drewN | apply below_drew1) | exact HB.out)))); rintro e w17 ⟨v140, rfl, ho0, hb⟩; have n0_ := Aside0.mk (Kd.V_lower (Kd.V_mono (ok' := fun k_ => True) ho0 (fun k_ hk_ => trivial)) (below_size (by repeat (first | (with_reducible first | exact HB.out | apply below_alloc | apply pw_below_drewN | apply below_drew1) | exact HB.out)))); have n1_ := Aside0.mk (below_step (by repeat (first | (with_reducible first | exact HB.out | apply below_alloc | apply pw_below_drewN | apply below_drew1) | exact HB.out)) hb); clear HB; have HO141 := n0_; have HB := n1_; clear n0_ n1_; (try clear hb); (try clear hb2); (try clear hk); (try clear hi); (try clear ho0)) | (go_at_call 85; (with_reducible refine (bignat_orZero.calls (fun k_ => k_ < w.heap.size) _ _ l1 t142 _ ?side1 A4.out).mono ?_); (case side1 => exact Kd.V_mk HC1.out (Kd.F_below (Kd.C_F (Kd.heap_int .u32) HR1.out) (by repeat (first | (with_reducible first | exact HB.out | apply below_alloc | apply pw_below_drewN | apply below_drew1) | exact HB.out)))); rintro e w18 ⟨v143, rfl, ho0, hb⟩; have n0_ := Aside0.mk (Kd.V_below (by (with_reducible repeat (first | apply Kd.V_alloc | apply Kd.V_drewN | apply Kd.V_drew)); exact HO141.out) hb); have n1_ := Aside0.mk (Kd.V_lower (Kd.V_mono (ok' := fun k_ => True) ho0 (fun k_ hk_ => trivial)) (below_size (by repeat (first | (with_reducible first | exact HB.out | apply below_alloc | apply pw_below_drewN | apply below_drew1) | exact HB.out)))); have n2_ := Aside0.mk (below_step (by repeat (first | (with_reducible first | exact HB.out | apply below_alloc | apply pw_below_drewN | apply below_drew1) | exact HB.out)) hb); clear HO141; clear HB; have HO141 := n0_; have HO144 := n1_; have HB := n2_; clear n0_ n1_ n2_; (try clear hb); (try clear hb2); (try clear hk); (try clear hi); (try clear ho0); obtain ⟨Ao19, co19, eo19⟩ := Kd.V_slice HO141.out; subst eo19; obtain ⟨Ao20, co20, eo20⟩ := Kd.V_slice HO144.out; subst eo20) | (go_at_call 87; (with_reducible refine (cmp_Compare_int.calls (t139.length : Int) (t142.length : Int) t145 _ A16.out).mono ?_); rintro e w' ⟨rfl, ⟨nd, rfl⟩⟩; (try first | exact ⟨rfl, _, World.drewN_drewN _ _ _⟩ | exact ⟨rfl, _, Eq.trans (World.drewN_drewN _ _ _) (congrArg (World.drewN _) (Nat.add_assoc _ _ _))⟩))); try go_wp2_with (first | (go_at_call 85; (with_reducible refine (bignat_orZero.calls (fun k_ => k_ < w.heap.size) _ _ l0 t139 _ ?side1 A3.out).mono ?_); (case side1 => exact Kd.V_mk HC0.out (Kd.F_below (Kd.C_F (Kd.heap_int .u32) HR0.out) (by repeat (first | (with_reducible first | exact HB.out | apply below_alloc | apply pw_below_drewN | apply below_drew1) | exact HB.out)))); rintro e w17 ⟨v140, rfl, ho0, hb⟩; have n0_ := Aside0.mk (Kd.V_lower (Kd.V_mono (ok' := fun k_ => True) ho0 (fun k_ hk_ => trivial)) (below_size (by repeat (first | (with_reducible first | exact HB.out | apply below_alloc | apply pw_below_drewN | apply below_drew1) | exact HB.out)))); have n1_ := Aside0.mk (below_step (by repeat (first | (with_reducible first | exact HB.out | apply below_alloc | apply pw_below_drewN | apply below_drew1) | exact HB.out)) hb); clear HB; have HO141 := n0_; have HB := n1_; clear n0_ n1_; (try clear hb); (try clear hb2); (try clear hk); (try clear hi); (try clear ho0)) | (go_at_call 85; (with_reducible refine (bignat_orZero.calls (fun k_ => k_ < w.heap.size) _ _ l1 t142 _ ?side1 A4.out).mono ?_); (case side1 => exact Kd.V_mk HC1.out (Kd.F_below (Kd.C_F (Kd.heap_int .u32) HR1.out) (by repeat (first | (with_reducible first | exact HB.out | apply below_alloc | apply pw_below_drewN | apply below_drew1) | exact HB.out)))); rintro e w18 ⟨v143, rfl, ho0, hb⟩; have n0_ := Aside0.mk (Kd.V_below (by (with_reducible repeat (first | apply Kd.V_alloc | apply Kd.V_drewN | apply Kd.V_drew)); exact HO141.out) hb); have n1_ := Aside0.mk (Kd.V_lower (Kd.V_mono (ok' := fun k_ => True) ho0 (fun k_ hk_ => trivial)) (below_size (by repeat (first | (with_reducible first | exact HB.out | apply below_alloc | apply pw_below_drewN | apply below_drew1) | exact HB.out)))); have n2_ := Aside0.mk (below_step (by repeat (first | (with_reducible first | exact HB.out | apply below_alloc | apply pw_below_drewN | apply below_drew1) | exact HB.out)) hb); clear HO141; clear HB; have HO141 := n0_; have HO144 := n1_; have HB := n2_; clear n0_ n1_ n2_; (try clear hb); (try clear hb2); (try clear hk); (try clear hi); (try clear ho0); obtain ⟨Ao19, co19, eo19⟩ := Kd.V_slice HO141.out; subst eo19; obtain ⟨Ao20, co20, eo20⟩ := Kd.V_slice HO144.out; subst eo20) | (go_at_call 87; (with_reducible refine (cmp_Compare_int.calls (t139.length : Int) (t142.length : Int) t145 _ A16.out).mono ?_); rintro e w' ⟨rfl, ⟨nd, rfl⟩⟩; (try first | exact ⟨rfl, _, World.drewN_drewN _ _ _⟩ | exact ⟨rfl, _, Eq.trans (World.drewN_drewN _ _ _) (congrArg (World.drewN _) (Nat.add_assoc _ _ _))⟩))))
    go_ret
    exact ⟨by first | rfl | (simp [errW_none, errW_some] <;> rfl) | (simp [*, errW_none, errW_some] <;> rfl), by repeat (first | (with_reducible first | exact HB.out | apply below_alloc | apply pw_below_drewN | apply below_drew1) | exact HB.out)⟩

end Go.Proofs.YtoakfjcejamoeaaDoor.B
