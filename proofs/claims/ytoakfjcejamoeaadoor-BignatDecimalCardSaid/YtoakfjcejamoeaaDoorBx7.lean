-- PRINTED by print.py (a twelfth state) out of the translation. Not trusted: Lean checks it.
import Derived.Test.YtoakfjcejamoeaaDoorBx0
import Derived.Test.YtoakfjcejamoeaaDoorBx1
import Derived.Test.YtoakfjcejamoeaaDoorBx2
import Derived.Test.YtoakfjcejamoeaaDoorBx3
import Derived.Test.YtoakfjcejamoeaaDoorBx5
import Derived.Test.YtoakfjcejamoeaaDoorBx6
namespace Go.Proofs.YtoakfjcejamoeaaDoor.B
open Go.RowKit Go.Proofs.YtoakfjcejamoeaaDoorW.PrintWords Go.Proofs.YtoakfjcejamoeaaDoorW.PrintLast Go.Proofs.YtoakfjcejamoeaaDoorW.PrintMore
attribute [local go_sem] max2_int min2_int max_two min_two max_three min_three max_four min_four   -- for this text's walks alone
set_option linter.unusedVariables false
set_option linter.unusedSimpArgs false

/-! ### lineagelaw03_awake: function 18 -/
theorem u64w {n : Int} (h0 : 0 ≤ n) (h1 : n < 18446744073709551616) : IntKind.u64.wrap n = n := by simp [IntKind.wrap, IntKind.bits, IntKind.signed]; omega
theorem or_nat {x y : Nat} (hy : y < 4294967296) : x * 4294967296 ||| y = x * 4294967296 + y := by
  have h := Nat.shiftLeft_add_eq_or_of_lt (i := 32) (b := y) (Nat.lt_of_lt_of_eq hy (by decide)) x
  rw [Nat.shiftLeft_eq] at h
  exact h.symm
theorem or_u64 {a b : Int} (ha : 0 ≤ a ∧ a < 4294967296) (hb : 0 ≤ b ∧ b < 4294967296) : Go.bits .or .u64 (a * 4294967296) b = a * 4294967296 + b := by
  obtain ⟨x, rfl⟩ := Int.eq_ofNat_of_zero_le ha.1
  obtain ⟨y, rfl⟩ := Int.eq_ofNat_of_zero_le hb.1
  have hx : x < 4294967296 := by omega
  have hy : y < 4294967296 := by omega
  have h := (bits_nat .u64 64 (by decide) (fun n h0 h1 => u64w h0 (by rw [show ((2 : Int) ^ 64) = 18446744073709551616 by decide] at h1; exact h1)) (x * 4294967296) y (Nat.lt_of_lt_of_eq (show x * 4294967296 < 18446744073709551616 by omega) (by decide)) (Nat.lt_of_lt_of_eq (show y < 18446744073709551616 by omega) (by decide))).2
  rw [or_nat hy] at h
  rw [show ((x : Int) * 4294967296) = ((x * 4294967296 : Nat) : Int) from (Int.natCast_mul x 4294967296).symm]
  exact h.trans (Int.natCast_add _ _)
theorem nv_drop (l : List Int) (m : Nat) (h : m < l.length) : Bn.nv (l.drop m) = (l[m]).toNat + 4294967296 * Bn.nv (l.drop (m + 1)) := by
  rw [List.drop_eq_getElem_cons h]
  rfl
theorem drop_set_self (l : List Int) (m : Nat) (v : Int) (h : m < l.length) : (l.set m v).drop m = v :: l.drop (m + 1) := by
  rw [List.drop_eq_getElem_cons (by simpa using h)]
  congr 1
  · simp
  · rw [List.drop_set, if_pos (by omega)]
theorem byLimb_l0 {a : List Int} (ha : Bn.Limbs a) (hl : a.length ≤ 1048576) {d : Nat} (hd0 : 0 < d) (hd : d < 4294967296) : ∀ (n k : Nat) (x : List Int) (r : Nat), n ≤ a.length → x.length = a.length → Bn.Limbs x → r < d →
    Bn.nv (a.drop n) = d * Bn.nv (x.drop n) + r → n + a.length + 1 < k → bignat_byLimb.l0 k a (d : Int) x (r : Int) ((n : Int) - 1) = some (Bn.limbs (Bn.nv a / d), ((Bn.nv a % d : Nat) : Int)) := by
  intro n
  induction n with
  | zero =>
    intro k x r _ hx hX hr he hk
    obtain ⟨k, rfl⟩ : ∃ m, k = m + 1 := ⟨k - 1, by omega⟩
    simp only [bignat_byLimb.l0]
    rw [if_neg (by omega), trimmed_f hX (by omega) (by omega)]
    simp only [Option.bind_some, List.drop_zero] at he ⊢
    have e1 : Bn.nv a / d = Bn.nv x := by rw [he, Nat.mul_add_div hd0, Nat.div_eq_of_lt hr, Nat.add_zero]
    have e2 : Bn.nv a % d = r := by rw [he, Nat.mul_add_mod, Nat.mod_eq_of_lt hr]
    rw [e1, e2]
    congr 2
    omega
  | succ m ih =>
    intro k x r hn hx hX hr he hk
    obtain ⟨k, rfl⟩ : ∃ m, k = m + 1 := ⟨k - 1, by omega⟩
    simp only [bignat_byLimb.l0]
    have e : ((m + 1 : Nat) : Int) - 1 = (m : Int) := by omega
    have hm : m < a.length := by omega
    obtain ⟨y, hy⟩ := Int.eq_ofNat_of_zero_le (ha.get m hm).1
    have hyl : y < 4294967296 := by have := (ha.get m hm).2; omega
    rw [e, if_pos (by omega), if_pos (by omega), if_pos (by omega), u64w (n := (d : Int)) (by omega) (by omega), if_neg (by omega), if_pos (by omega), rd_get' a m hm, hy]
    rw [u64w (n := (r : Int) * 4294967296) (by omega) (by omega), u64w (n := (y : Int)) (by omega) (by omega), or_u64 (by omega) (by omega)]
    have ec : ((r : Int) * 4294967296 + (y : Int)) = ((r * 4294967296 + y : Nat) : Int) := by omega
    have hc : r * 4294967296 + y < d * 4294967296 := by
      have : (r + 1) * 4294967296 ≤ d * 4294967296 := Nat.mul_le_mul_right _ hr
      omega
    have hq : (r * 4294967296 + y) / d < 4294967296 := (Nat.div_lt_iff_lt_mul hd0).2 (by rw [Nat.mul_comm 4294967296 d]; exact hc)
    have hdm := Nat.div_add_mod (r * 4294967296 + y) d
    have hrl := Nat.mod_lt (r * 4294967296 + y) hd0
    rw [ec, Int.tdiv_eq_ediv_of_nonneg (by omega), Int.tmod_eq_emod_of_nonneg (by omega), ← Int.natCast_ediv, ← Int.natCast_emod]
    generalize (r * 4294967296 + y) / d = Q at hdm hq ⊢
    generalize (r * 4294967296 + y) % d = R at hdm hrl ⊢
    rw [u64w (by omega) (by omega), w64 (by omega) (by omega), show (Q : Int) % 4294967296 = (Q : Int) by omega, Int.toNat_natCast]
    refine ih k (x.set m (Q : Int)) R (by omega) (by simpa using hx) (hX.set m _ (by omega)) hrl ?_ (by omega)
    rw [nv_drop a m hm, drop_set_self x m _ (by omega), hy]
    simp only [Bn.nv, Int.toNat_natCast]
    rw [he]
    generalize Bn.nv (x.drop (m + 1)) = V
    grind
theorem byLimb_f {a : List Int} (ha : Bn.Limbs a) (hl : a.length ≤ 1048576) {d : Nat} (hd0 : 0 < d) (hd : d < 4294967296) {k : Nat} (hk : 2 * a.length + 1 < k) : bignat_byLimb.f k a (d : Int) = some (Bn.limbs (Bn.nv a / d), ((Bn.nv a % d : Nat) : Int)) := by
  unfold bignat_byLimb.f
  rw [if_pos (by omega), if_pos (by omega), Int.toNat_natCast, w64 (by omega) (by omega)]
  have h := byLimb_l0 ha hl hd0 hd a.length k (List.replicate a.length 0) 0 (Nat.le_refl _) (by simp) (Bn.Limbs.replicate _) hd0 (by simp [Bn.nv]) (by omega)
  exact h
theorem dd_lt {r : Nat} (h : r < 10) : Lib.decDigits r = [UInt8.ofNat (48 + r)] := by rw [Lib.decDigits, dif_pos h]
theorem dd_step (m d : Nat) (hm : 0 < m) (hd : d < 10) : Lib.decDigits (m * 10 + d) = Lib.decDigits m ++ [UInt8.ofNat (48 + d)] := by
  rw [Lib.decDigits, dif_neg (by omega), show (m * 10 + d) / 10 = m by omega, show (m * 10 + d) % 10 = d by omega]
def padR : Nat → Nat → List UInt8
  | 0, _ => []
  | k + 1, r => padR k (r / 10) ++ [UInt8.ofNat (48 + r % 10)]
theorem dd_split (k : Nat) : ∀ (m r : Nat), 0 < m → r < 10 ^ k → Lib.decDigits (m * 10 ^ k + r) = Lib.decDigits m ++ padR k r := by
  induction k with
  | zero =>
    intro m r _ hr
    have : r = 0 := by simpa using hr
    subst this
    simp [padR]
  | succ k ih =>
    intro m r hm hr
    rw [Nat.pow_succ] at hr
    have e : m * 10 ^ (k + 1) + r = (m * 10 ^ k + r / 10) * 10 + r % 10 := by
      rw [Nat.pow_succ, Nat.add_mul, Nat.mul_assoc]
      omega
    have hp : 0 < m * 10 ^ k := Nat.mul_pos hm (Nat.pow_pos (by decide))
    rw [e, dd_step _ _ (by omega) (by omega), ih m (r / 10) hm (by omega)]
    simp [padR]
theorem padR_zero (k : Nat) : padR k 0 = List.replicate k 48 := by
  induction k with
  | zero => rfl
  | succ k ih =>
    simp only [padR, Nat.zero_div, ih]
    rw [List.replicate_succ']
    rfl
theorem padR_eq (k : Nat) : ∀ r : Nat, r < 10 ^ (k + 1) → padR (k + 1) r = List.replicate (k + 1 - (Lib.decDigits r).length) 48 ++ Lib.decDigits r ∧ (Lib.decDigits r).length ≤ k + 1 := by
  induction k with
  | zero =>
    intro r hr
    have h : r < 10 := by simpa using hr
    rw [dd_lt h]
    simp [padR, Nat.mod_eq_of_lt h]
  | succ k ih =>
    intro r hr
    by_cases h : r < 10
    · rw [dd_lt h]
      have e : padR (k + 1 + 1) r = padR (k + 1) (r / 10) ++ [UInt8.ofNat (48 + r % 10)] := rfl
      rw [e, show r / 10 = 0 by omega, padR_zero, Nat.mod_eq_of_lt h]
      simp
    · have h2 := ih (r / 10) (by rw [Nat.pow_succ] at hr; omega)
      have e : Lib.decDigits r = Lib.decDigits (r / 10) ++ [UInt8.ofNat (48 + r % 10)] := by
        rw [← dd_step (r / 10) (r % 10) (by omega) (by omega)]
        congr 1
        omega
      have e2 : padR (k + 1 + 1) r = padR (k + 1) (r / 10) ++ [UInt8.ofNat (48 + r % 10)] := rfl
      rw [e2, h2.1, e]
      simp only [List.length_append, List.length_singleton]
      have := h2.2
      refine ⟨?_, by omega⟩
      rw [List.append_assoc]
      congr 2
      omega
theorem repeat48 (c : Nat) : Lib.repeatL [48] c = List.replicate c 48 := by
  induction c with
  | zero => rfl
  | succ c ih => simp [Lib.repeatL, ih, List.replicate_succ]
theorem dd_pos (v : Nat) : 0 < (Lib.decDigits v).length := by
  rw [Lib.decDigits]
  split <;> simp
theorem size_mk (l : List UInt8) : (⟨l.toArray⟩ : ByteArray).size = l.length := by simp [ByteArray.size]
theorem append_mk (a b : List UInt8) : (⟨a.toArray⟩ : ByteArray) ++ ⟨b.toArray⟩ = ⟨(a ++ b).toArray⟩ := by
  apply ByteArray.ext
  simp
theorem FormatUint_f {r : Nat} (h : r < 18446744073709551616) : strconv_FormatUint_106.f (IntKind.u64.wrap (r : Int)) 10 = some ⟨(Lib.decDigits r).toArray⟩ := by
  rw [u64w (by omega) (by omega)]
  unfold strconv_FormatUint_106.f
  rw [if_pos ⟨by omega, by omega, rfl⟩, Int.toNat_natCast]
theorem Repeat_f {c : Nat} (h : c ≤ 1000) : strings_Repeat.f (⟨#[48]⟩ : ByteArray) (c : Int) = some ⟨(List.replicate c 48).toArray⟩ := by
  unfold strings_Repeat.f
  rw [if_pos ⟨by omega, by omega, by decide⟩, Int.toNat_natCast]
  show some (⟨(Lib.repeatL [48] c).toArray⟩ : ByteArray) = _
  rw [repeat48]
theorem limbs_mono {m n : Nat} (h : m ≤ n) : (Bn.limbs m).length ≤ (Bn.limbs n).length := by
  rw [Bn.limbs_len]
  exact Nat.lt_of_le_of_lt h ((Bn.limbs_len n _).1 (Nat.le_refl _))
theorem p9 : (10 : Nat) ^ 9 = 1000000000 := by decide
theorem byLimb_ten9 {v k : Nat} (hl : (Bn.limbs v).length ≤ 128) (hk : 257 < k) : bignat_byLimb.f k (Bn.limbs v) 1000000000 = some (Bn.limbs (v / 1000000000), ((v % 1000000000 : Nat) : Int)) := by
  obtain ⟨D, hD⟩ : ∃ D : Nat, D = 1000000000 := ⟨_, rfl⟩
  have hb := byLimb_f (Bn.limbs_limbs v) (show (Bn.limbs v).length ≤ 1048576 by omega) (d := D) (by omega) (by omega) (k := k) (by omega)
  rw [Bn.nv_limbs] at hb
  rw [show ((1000000000 : Int)) = (D : Int) by omega, hb, hD]
theorem Format_l0 (n : Nat) : ∀ (k v : Nat) (out : List UInt8), v < 10 ^ (9 * n) → (Bn.limbs v).length ≤ 128 → out.length + 9 * n ≤ 1000000 → (v = 0 → out ≠ []) → 260 + n < k →
    bignat_Format.l0 k (Bn.limbs v) ⟨out.toArray⟩ = some ⟨((if v = 0 then [] else Lib.decDigits v) ++ out).toArray⟩ := by
  induction n with
  | zero =>
    intro k v out hv hm ho h0 hk
    have hv0 : v = 0 := by simpa using hv
    subst hv0
    obtain ⟨k, rfl⟩ : ∃ m, k = m + 1 := ⟨k - 1, by omega⟩
    rw [Bn.limbs_zero]
    simp only [bignat_Format.l0]
    rw [if_neg (by simp)]
    unfold cmp_Or_string.f
    rw [if_pos (by simp)]
    simp only [Option.bind_some, firstText, ByteArray.toList_mk]
    rw [if_neg (h0 rfl)]
    simp
  | succ n ih =>
    intro k v out hv hm ho h0 hk
    by_cases hv0 : v = 0
    · subst hv0
      exact ih k 0 out (Nat.pow_pos (by decide)) hm (by omega) h0 (by omega)
    obtain ⟨k, rfl⟩ : ∃ m, k = m + 1 := ⟨k - 1, by omega⟩
    have hlen := hm
    have hpos : 0 < (Bn.limbs v).length := by
      rw [List.length_pos_iff]
      intro h
      exact hv0 (Bn.limbs_nil.1 h)
    simp only [bignat_Format.l0]
    rw [if_pos (by omega)]
    obtain ⟨Q, hQ⟩ : ∃ Q, v / 1000000000 = Q := ⟨_, rfl⟩
    obtain ⟨R, hR⟩ : ∃ R, v % 1000000000 = R := ⟨_, rfl⟩
    have hb : bignat_byLimb.f k (Bn.limbs v) 1000000000 = some (Bn.limbs Q, (R : Int)) := by rw [byLimb_ten9 hlen (by omega), hQ, hR]
    rw [hb, Option.bind_some]
    have hml : R < 1000000000 := by omega
    have hq : Q < 10 ^ (9 * n) := by
      rw [show 9 * (n + 1) = 9 * n + 9 by omega, Nat.pow_add, p9] at hv
      rw [← hQ]
      exact (Nat.div_lt_iff_lt_mul (by decide)).2 hv
    have hvQR : Q * 1000000000 + R = v := by omega
    have hQv : Q ≤ v := by omega
    clear hQ hR hb hv
    show ((strconv_FormatUint_106.f (IntKind.u64.wrap (R : Int)) 10).bind _) = _
    rw [FormatUint_f (show R < 18446744073709551616 by omega), Option.bind_some]
    have hdl := (padR_eq 8 R (by rw [show 8 + 1 = 9 from rfl, p9]; exact hml))
    have hd2 := hdl.2
    generalize hDD : Lib.decDigits R = DD at hdl hd2 ⊢
    simp only [size_mk]
    by_cases hq0 : Q = 0
    · subst hq0
      rw [Bn.limbs_zero, if_neg (by simp), if_pos (by omega), append_mk]
      have h2 := ih k 0 (DD ++ out) (Nat.pow_pos (by decide)) (by rw [Bn.limbs_zero]; simp) (by rw [List.length_append]; omega) (fun _ h => by have := dd_pos R; rw [hDD, (List.append_eq_nil_iff.1 h).1] at this; simp at this) (by omega)
      rw [Bn.limbs_zero] at h2
      rw [h2, if_pos rfl, if_neg hv0, ← hDD, show R = v by omega]
      simp
    · have hl0 : 0 < (Bn.limbs Q).length := by
        rw [List.length_pos_iff]
        intro h
        exact hq0 (Bn.limbs_nil.1 h)
      have e9 : wrap64 (9 - (DD.length : Int)) = ((9 - DD.length : Nat) : Int) := by
        rw [w64 (by omega) (by omega)]
        omega
      rw [if_pos (by omega), e9, Repeat_f (by omega), Option.bind_some, append_mk]
      simp only [size_mk, List.length_append, List.length_replicate]
      rw [if_pos (by omega), if_pos (by omega), append_mk, ← hdl.1]
      have hpl : (padR (8 + 1) R).length = 9 := by rw [hdl.1, List.length_append, List.length_replicate]; omega
      rw [ih k Q (padR (8 + 1) R ++ out) hq (Nat.le_trans (limbs_mono hQv) hm) (by rw [List.length_append, hpl]; omega) (fun h => absurd h hq0) (by omega), if_neg hq0, if_neg hv0]
      have hs := dd_split 9 Q R (by omega) (by rw [p9]; exact hml)
      rw [p9, hvQR] at hs
      rw [hs, List.append_assoc]
theorem Format_f {a : List Int} (ha : Bn.Limbs a) {k : Nat} (hk : 500 < k) : bignat_Format.f k a = some ⟨(Lib.decDigits (vv a)).toArray⟩ := by
  unfold bignat_Format.f vv
  rw [orZero_f]
  simp only [Option.bind_some]
  obtain ⟨na, la⟩ := oz_nrm ha
  generalize ozB a = x at na la ⊢
  have hv : Bn.nv x < 4294967296 ^ 128 := Nat.lt_of_lt_of_le (Bn.nv_lt na.1) (Nat.pow_le_pow_right (by decide) la)
  by_cases h0 : Bn.nv x = 0
  · obtain rfl := (Bn.nv_zero na).1 h0
    obtain ⟨k, rfl⟩ : ∃ m, k = m + 1 := ⟨k - 1, by omega⟩
    simp only [bignat_Format.l0]
    rw [if_neg (by simp), h0, dd_lt (by decide)]
    unfold cmp_Or_string.f
    rw [if_pos (by simp)]
    simp only [Option.bind_some, firstText, ByteArray.toList_mk, if_true]
    rfl
  · have h := Format_l0 138 k (Bn.nv x) [] (Nat.lt_trans hv (by decide +kernel)) (by rw [na.2]; exact la) (by simp) (fun h => absurd h h0) (by omega)
    rw [na.2, if_neg h0, List.append_nil] at h
    exact h
section
variable {P : Program} {ops : Array Oper} {rest : List Oper} {o : Oper} {a : Act} {Q : Exit → Act → World → Prop}
theorem lit_C (W : World) (xs : List Int) (h : xs.length ≤ 1000) : Kd.C (Kd.int .u32) (W.alloc (.cells (xs.map (Value.int .u32)).toArray 63)) (some ⟨W.heap.size, 0, none⟩) xs.length xs := by
  refine Kd.C_of_reads (d := (0 : Int)) (h1 := fun _ => rfl) ⟨rfl, by omega, fun _ => ⟨_, rfl, fun j hj => ?_⟩⟩
  have e : (⟨W.heap.size, 0, none⟩ : Addr).add j = ⟨W.heap.size, j, none⟩ := by rw [Lib.add_plain]; simp
  rw [e, World.cell?_alloc_new]
  simp [hj, List.getD_eq_getElem?_getD]
/-- A literal of limbs. -/
theorem lit_event {W : World} (hgd : o.guard = none) {N : Tmp} (_hd : o.dst = some N) (xs : List Int) (n : Nat) (hn : n = xs.length) (hl : xs.length ≤ 1000)
    (hrun : (execOp a.eval o).run P W = .ok (.value (.slice (some ⟨W.heap.size, 0, none⟩) n n)) (W.alloc (.cells (xs.map (Value.int .u32)).toArray 63)))
    (h : ∀ A w1, Kd.C (Kd.int .u32) w1 A n xs → Below W.heap.size W w1 → wpList P ops Q rest (a.put o.dst (.slice A n n)) w1) : wpList P ops Q (o :: rest) a W := by
  subst hn
  exact Kd.event_run hgd hrun (h _ _ (lit_C W xs hl) (below_alloc (Below.refl _ _) _))
end
/-- The examples hold. -/
def lineagelaw03_awake.f : Option (Bool) := some true
theorem limbs_one {n : Nat} (h : n ≠ 0) (h2 : n < 4294967296) : Bn.limbs n = [(n : Int)] := by
  rw [Bn.limbs_pos h, show n / 4294967296 = 0 by omega, Bn.limbs_zero, show n % 4294967296 = n by omega]
theorem aw_add1 : bignat_Add.f [4294967295] [1] = some ([0, 1], 0) := by
  have e : Bn.limbs 4294967296 = [0, 1] := by rw [Bn.limbs_pos (by decide), show 4294967296 / 4294967296 = 1 by decide, limbs_one (by decide) (by decide)]; rfl
  unfold bignat_Add.f
  rw [if_pos (by decide), if_pos (by decide), show Bn.nv [4294967295] + Bn.nv [1] = 4294967296 by decide]
  unfold fitB
  rw [e]
  rfl
theorem aw_mul1 : bignat_Mul.f 20 [0, 1] [1, 1] = some ([0, 1, 1], 0) := by decide +kernel
theorem aw_div : bignat_DivMod.f 300 [0, 1, 1] [7] = some ([3067833782, 613566756], [6], 0) := by decide +kernel
theorem aw_mul2 : bignat_Mul.f 20 [3067833782, 613566756] [7] = some ([4294967290, 0, 1], 0) := by decide +kernel
theorem aw_add2 : bignat_Add.f [4294967290, 0, 1] [6] = some ([0, 1, 1], 0) := by
  have e1 : Bn.limbs 4294967297 = [1, 1] := by rw [Bn.limbs_pos (by decide), show 4294967297 / 4294967296 = 1 by decide, limbs_one (by decide) (by decide)]; rfl
  have e : Bn.limbs 18446744078004518912 = [0, 1, 1] := by rw [Bn.limbs_pos (by decide), show 18446744078004518912 / 4294967296 = 4294967297 by decide, e1]; rfl
  unfold bignat_Add.f
  rw [if_pos (by decide), if_pos (by decide), show Bn.nv [4294967290, 0, 1] + Bn.nv [6] = 18446744078004518912 by decide]
  unfold fitB
  rw [e]
  rfl
theorem aw_fmt : bignat_Format.f 501 [0, 1, 1] = some ⟨#[49, 56, 52, 52, 54, 55, 52, 52, 48, 55, 56, 48, 48, 52, 53, 49, 56, 57, 49, 50]⟩ := by
  rw [Format_f (Bn.Limbs.mk (by decide) (Bn.Limbs.mk (by decide) (Bn.Limbs.mk (by decide) Bn.Limbs.nil))) (by decide), show vv [0, 1, 1] = 18446744078004518912 by decide]
  simp [Lib.decDigits]
theorem aw_gcd : bignat_GCD.f 300 [12] [18] = some [6] := by decide +kernel
theorem aw_s1 : lineagelaw03_same.f 20 [0, 1] [0, 1] = some true := by decide +kernel
theorem aw_s2 : lineagelaw03_same.f 20 [0, 1, 1] [0, 1, 1] = some true := by decide +kernel
theorem aw_s3 : lineagelaw03_same.f 20 [6] [6] = some true := by decide +kernel
set_option maxHeartbeats 16000000 in
set_option maxRecDepth 100000 in
theorem lineagelaw03_awake.calls (r : Bool) (w : World) (h : lineagelaw03_awake.f = some r) (ht_ : Tab w) :
    Calls Tryd.prog 18 #[] w fun e w' => e = .returned (.bool r) ∧ Below w.heap.size w w' := by
  obtain rfl : r = true := by injection h with h; exact h.symm
  have HT_ := Aside0.mk ht_
  clear h ht_
  have HB := Aside0.mk (Below.refl w.heap.size w)
  have hAdd1 := Aside0.mk (show bignat_Add.f [4294967295] [1] = some ([0, 1], 0) from aw_add1)
  have hMul1 := Aside0.mk (show bignat_Mul.f 20 [0, 1] [1, 1] = some ([0, 1, 1], 0) from aw_mul1)
  have hDiv := Aside0.mk (show bignat_DivMod.f 300 [0, 1, 1] [7] = some ([3067833782, 613566756], [6], 0) from aw_div)
  have hMul2 := Aside0.mk (show bignat_Mul.f 20 [3067833782, 613566756] [7] = some ([4294967290, 0, 1], 0) from aw_mul2)
  have hAdd2 := Aside0.mk (show bignat_Add.f [4294967290, 0, 1] [6] = some ([0, 1, 1], 0) from aw_add2)
  have hFmt := Aside0.mk (show bignat_Format.f 501 [0, 1, 1] = some ⟨#[49, 56, 52, 52, 54, 55, 52, 52, 48, 55, 56, 48, 48, 52, 53, 49, 56, 57, 49, 50]⟩ from aw_fmt)
  have hGcd := Aside0.mk (show bignat_GCD.f 300 [12] [18] = some [6] from aw_gcd)
  have hS1 := Aside0.mk (show lineagelaw03_same.f 20 [0, 1] [0, 1] = some true from aw_s1)
  have hS2 := Aside0.mk (show lineagelaw03_same.f 20 [0, 1, 1] [0, 1, 1] = some true from aw_s2)
  have hS3 := Aside0.mk (show lineagelaw03_same.f 20 [6] [6] = some true from aw_s3)
  go_enter Tryd.func18, Tryd.ntmps18
  go_wp2_with (first | ((with_reducible refine gate_dst (N := 12) rfl ?_); (try (refine gate_guard (by rfl) ?_; dsimp only)); refine lit_event ?hg (N := 12) ?hd [4294967295] 1 rfl (by decide) ?hr ?_; (case hd => rfl); (case hg => rfl); (case hr => first | (go_simp; done) | (go_simp; rfl)); intro A12 wa1 hc_ hb_; have HB_ := Aside0.mk (below_step HB.out hb_); clear HB; have HB := HB_; clear HB_; have C12 := Aside0.mk hc_; clear hc_ hb_) | ((with_reducible refine gate_dst (N := 13) rfl ?_); (try (refine gate_guard (by rfl) ?_; dsimp only)); refine lit_event ?hg (N := 13) ?hd [1] 1 rfl (by decide) ?hr ?_; (case hd => rfl); (case hg => rfl); (case hr => first | (go_simp; done) | (go_simp; rfl)); intro A13 wa2 hc_ hb_; have C12_ := Aside0.mk (Kd.C_below C12.out hb_); clear C12; have C12 := C12_; clear C12_; have HB_ := Aside0.mk (below_step HB.out hb_); clear HB; have HB := HB_; clear HB_; have C13 := Aside0.mk hc_; clear hc_ hb_))
  refine (bignat_Add.calls A12 1 [4294967295] A13 1 [1] [0, 1] 0 wa2 C12.out (Nat.le_refl _) C13.out (Nat.le_refl _) hAdd1.out).mono ?_
  rintro e wa3 ⟨v_, rfl, hr_, hb_⟩
  have C12_ := Aside0.mk (Kd.C_below C12.out hb_)
  clear C12
  have C12 := C12_
  clear C12_
  have C13_ := Aside0.mk (Kd.C_below C13.out hb_)
  clear C13
  have C13 := C13_
  clear C13_
  have HB_ := Aside0.mk (below_step HB.out hb_)
  clear HB
  have HB := HB_
  clear HB_
  obtain ⟨Av1, cv1, rfl⟩ := Kd.R_slice hr_
  have Cv1 := Aside0.mk (show Kd.C (Kd.int .u32) wa3 Av1 2 [0, 1] from (Kd.R_reads' hr_).2.2)
  have Hv1 := Aside0.mk (show 2 ≤ cv1 from (Kd.R_reads' hr_).2.1)
  clear hr_
  clear hb_
  simp only [List.length_cons, List.length_nil] at *
  go_wp2_with (first | ((with_reducible refine gate_dst (N := 18) rfl ?_); (try (refine gate_guard (by rfl) ?_; dsimp only)); refine lit_event ?hg (N := 18) ?hd [0, 1] 2 rfl (by decide) ?hr ?_; (case hd => rfl); (case hg => rfl); (case hr => first | (go_simp; done) | (go_simp; rfl)); intro A18 wa4 hc_ hb_; have C12_ := Aside0.mk (Kd.C_below C12.out hb_); clear C12; have C12 := C12_; clear C12_; have C13_ := Aside0.mk (Kd.C_below C13.out hb_); clear C13; have C13 := C13_; clear C13_; have Cv1_ := Aside0.mk (Kd.C_below Cv1.out hb_); clear Cv1; have Cv1 := Cv1_; clear Cv1_; have HB_ := Aside0.mk (below_step HB.out hb_); clear HB; have HB := HB_; clear HB_; have C18 := Aside0.mk hc_; clear hc_ hb_) | ((with_reducible refine gate_dst (N := 19) rfl ?_); (try (refine gate_guard (by rfl) ?_; dsimp only)); refine lit_event ?hg (N := 19) ?hd [1, 1] 2 rfl (by decide) ?hr ?_; (case hd => rfl); (case hg => rfl); (case hr => first | (go_simp; done) | (go_simp; rfl)); intro A19 wa5 hc_ hb_; have C12_ := Aside0.mk (Kd.C_below C12.out hb_); clear C12; have C12 := C12_; clear C12_; have C13_ := Aside0.mk (Kd.C_below C13.out hb_); clear C13; have C13 := C13_; clear C13_; have Cv1_ := Aside0.mk (Kd.C_below Cv1.out hb_); clear Cv1; have Cv1 := Cv1_; clear Cv1_; have C18_ := Aside0.mk (Kd.C_below C18.out hb_); clear C18; have C18 := C18_; clear C18_; have HB_ := Aside0.mk (below_step HB.out hb_); clear HB; have HB := HB_; clear HB_; have C19 := Aside0.mk hc_; clear hc_ hb_))
  refine (bignat_Mul.calls 20 A18 2 [0, 1] A19 2 [1, 1] [0, 1, 1] 0 wa5 C18.out (Nat.le_refl _) C19.out (Nat.le_refl _) hMul1.out).mono ?_
  rintro e wa6 ⟨v_, rfl, hr_, hb_⟩
  have C12_ := Aside0.mk (Kd.C_below C12.out hb_)
  clear C12
  have C12 := C12_
  clear C12_
  have C13_ := Aside0.mk (Kd.C_below C13.out hb_)
  clear C13
  have C13 := C13_
  clear C13_
  have Cv1_ := Aside0.mk (Kd.C_below Cv1.out hb_)
  clear Cv1
  have Cv1 := Cv1_
  clear Cv1_
  have C18_ := Aside0.mk (Kd.C_below C18.out hb_)
  clear C18
  have C18 := C18_
  clear C18_
  have C19_ := Aside0.mk (Kd.C_below C19.out hb_)
  clear C19
  have C19 := C19_
  clear C19_
  have HB_ := Aside0.mk (below_step HB.out hb_)
  clear HB
  have HB := HB_
  clear HB_
  obtain ⟨Av3, cv3, rfl⟩ := Kd.R_slice hr_
  have Cv3 := Aside0.mk (show Kd.C (Kd.int .u32) wa6 Av3 3 [0, 1, 1] from (Kd.R_reads' hr_).2.2)
  have Hv3 := Aside0.mk (show 3 ≤ cv3 from (Kd.R_reads' hr_).2.1)
  clear hr_
  clear hb_
  simp only [List.length_cons, List.length_nil] at *
  go_wp2_with (first | ((with_reducible refine gate_dst (N := 25) rfl ?_); (try (refine gate_guard (by rfl) ?_; dsimp only)); refine lit_event ?hg (N := 25) ?hd [7] 1 rfl (by decide) ?hr ?_; (case hd => rfl); (case hg => rfl); (case hr => first | (go_simp; done) | (go_simp; rfl)); intro A25 wa7 hc_ hb_; have C12_ := Aside0.mk (Kd.C_below C12.out hb_); clear C12; have C12 := C12_; clear C12_; have C13_ := Aside0.mk (Kd.C_below C13.out hb_); clear C13; have C13 := C13_; clear C13_; have Cv1_ := Aside0.mk (Kd.C_below Cv1.out hb_); clear Cv1; have Cv1 := Cv1_; clear Cv1_; have C18_ := Aside0.mk (Kd.C_below C18.out hb_); clear C18; have C18 := C18_; clear C18_; have C19_ := Aside0.mk (Kd.C_below C19.out hb_); clear C19; have C19 := C19_; clear C19_; have Cv3_ := Aside0.mk (Kd.C_below Cv3.out hb_); clear Cv3; have Cv3 := Cv3_; clear Cv3_; have HB_ := Aside0.mk (below_step HB.out hb_); clear HB; have HB := HB_; clear HB_; have C25 := Aside0.mk hc_; clear hc_ hb_))
  refine (bignat_DivMod.calls 300 Av3 cv3 [0, 1, 1] A25 1 [7] [3067833782, 613566756] [6] 0 wa7 Cv3.out Hv3.out C25.out (Nat.le_refl _) hDiv.out).mono ?_
  rintro e wa8 ⟨v_, u_, rfl, hr_, hu_, hb_⟩
  have C12_ := Aside0.mk (Kd.C_below C12.out hb_)
  clear C12
  have C12 := C12_
  clear C12_
  have C13_ := Aside0.mk (Kd.C_below C13.out hb_)
  clear C13
  have C13 := C13_
  clear C13_
  have Cv1_ := Aside0.mk (Kd.C_below Cv1.out hb_)
  clear Cv1
  have Cv1 := Cv1_
  clear Cv1_
  have C18_ := Aside0.mk (Kd.C_below C18.out hb_)
  clear C18
  have C18 := C18_
  clear C18_
  have C19_ := Aside0.mk (Kd.C_below C19.out hb_)
  clear C19
  have C19 := C19_
  clear C19_
  have Cv3_ := Aside0.mk (Kd.C_below Cv3.out hb_)
  clear Cv3
  have Cv3 := Cv3_
  clear Cv3_
  have C25_ := Aside0.mk (Kd.C_below C25.out hb_)
  clear C25
  have C25 := C25_
  clear C25_
  have HB_ := Aside0.mk (below_step HB.out hb_)
  clear HB
  have HB := HB_
  clear HB_
  obtain ⟨Av5, cv5, rfl⟩ := Kd.R_slice hr_
  have Cv5 := Aside0.mk (show Kd.C (Kd.int .u32) wa8 Av5 2 [3067833782, 613566756] from (Kd.R_reads' hr_).2.2)
  have Hv5 := Aside0.mk (show 2 ≤ cv5 from (Kd.R_reads' hr_).2.1)
  clear hr_
  obtain ⟨Av5r, cv5r, rfl⟩ := Kd.R_slice hu_
  have Cv5r := Aside0.mk (show Kd.C (Kd.int .u32) wa8 Av5r 1 [6] from (Kd.R_reads' hu_).2.2)
  have Hv5r := Aside0.mk (show 1 ≤ cv5r from (Kd.R_reads' hu_).2.1)
  clear hu_
  clear hb_
  simp only [List.length_cons, List.length_nil] at *
  go_wp2_with (first | ((with_reducible refine gate_dst (N := 32) rfl ?_); (try (refine gate_guard (by rfl) ?_; dsimp only)); refine lit_event ?hg (N := 32) ?hd [7] 1 rfl (by decide) ?hr ?_; (case hd => rfl); (case hg => rfl); (case hr => first | (go_simp; done) | (go_simp; rfl)); intro A32 wa9 hc_ hb_; have C12_ := Aside0.mk (Kd.C_below C12.out hb_); clear C12; have C12 := C12_; clear C12_; have C13_ := Aside0.mk (Kd.C_below C13.out hb_); clear C13; have C13 := C13_; clear C13_; have Cv1_ := Aside0.mk (Kd.C_below Cv1.out hb_); clear Cv1; have Cv1 := Cv1_; clear Cv1_; have C18_ := Aside0.mk (Kd.C_below C18.out hb_); clear C18; have C18 := C18_; clear C18_; have C19_ := Aside0.mk (Kd.C_below C19.out hb_); clear C19; have C19 := C19_; clear C19_; have Cv3_ := Aside0.mk (Kd.C_below Cv3.out hb_); clear Cv3; have Cv3 := Cv3_; clear Cv3_; have C25_ := Aside0.mk (Kd.C_below C25.out hb_); clear C25; have C25 := C25_; clear C25_; have Cv5_ := Aside0.mk (Kd.C_below Cv5.out hb_); clear Cv5; have Cv5 := Cv5_; clear Cv5_; have Cv5r_ := Aside0.mk (Kd.C_below Cv5r.out hb_); clear Cv5r; have Cv5r := Cv5r_; clear Cv5r_; have HB_ := Aside0.mk (below_step HB.out hb_); clear HB; have HB := HB_; clear HB_; have C32 := Aside0.mk hc_; clear hc_ hb_))
  refine (bignat_Mul.calls 20 Av5 cv5 [3067833782, 613566756] A32 1 [7] [4294967290, 0, 1] 0 wa9 Cv5.out Hv5.out C32.out (Nat.le_refl _) hMul2.out).mono ?_
  rintro e wa10 ⟨v_, rfl, hr_, hb_⟩
  have C12_ := Aside0.mk (Kd.C_below C12.out hb_)
  clear C12
  have C12 := C12_
  clear C12_
  have C13_ := Aside0.mk (Kd.C_below C13.out hb_)
  clear C13
  have C13 := C13_
  clear C13_
  have Cv1_ := Aside0.mk (Kd.C_below Cv1.out hb_)
  clear Cv1
  have Cv1 := Cv1_
  clear Cv1_
  have C18_ := Aside0.mk (Kd.C_below C18.out hb_)
  clear C18
  have C18 := C18_
  clear C18_
  have C19_ := Aside0.mk (Kd.C_below C19.out hb_)
  clear C19
  have C19 := C19_
  clear C19_
  have Cv3_ := Aside0.mk (Kd.C_below Cv3.out hb_)
  clear Cv3
  have Cv3 := Cv3_
  clear Cv3_
  have C25_ := Aside0.mk (Kd.C_below C25.out hb_)
  clear C25
  have C25 := C25_
  clear C25_
  have Cv5_ := Aside0.mk (Kd.C_below Cv5.out hb_)
  clear Cv5
  have Cv5 := Cv5_
  clear Cv5_
  have Cv5r_ := Aside0.mk (Kd.C_below Cv5r.out hb_)
  clear Cv5r
  have Cv5r := Cv5r_
  clear Cv5r_
  have C32_ := Aside0.mk (Kd.C_below C32.out hb_)
  clear C32
  have C32 := C32_
  clear C32_
  have HB_ := Aside0.mk (below_step HB.out hb_)
  clear HB
  have HB := HB_
  clear HB_
  obtain ⟨Av8, cv8, rfl⟩ := Kd.R_slice hr_
  have Cv8 := Aside0.mk (show Kd.C (Kd.int .u32) wa10 Av8 3 [4294967290, 0, 1] from (Kd.R_reads' hr_).2.2)
  have Hv8 := Aside0.mk (show 3 ≤ cv8 from (Kd.R_reads' hr_).2.1)
  clear hr_
  clear hb_
  simp only [List.length_cons, List.length_nil] at *
  go_wp2_with fail
  refine (bignat_Add.calls Av8 cv8 [4294967290, 0, 1] Av5r cv5r [6] [0, 1, 1] 0 wa10 Cv8.out Hv8.out Cv5r.out Hv5r.out hAdd2.out).mono ?_
  rintro e wa11 ⟨v_, rfl, hr_, hb_⟩
  have C12_ := Aside0.mk (Kd.C_below C12.out hb_)
  clear C12
  have C12 := C12_
  clear C12_
  have C13_ := Aside0.mk (Kd.C_below C13.out hb_)
  clear C13
  have C13 := C13_
  clear C13_
  have Cv1_ := Aside0.mk (Kd.C_below Cv1.out hb_)
  clear Cv1
  have Cv1 := Cv1_
  clear Cv1_
  have C18_ := Aside0.mk (Kd.C_below C18.out hb_)
  clear C18
  have C18 := C18_
  clear C18_
  have C19_ := Aside0.mk (Kd.C_below C19.out hb_)
  clear C19
  have C19 := C19_
  clear C19_
  have Cv3_ := Aside0.mk (Kd.C_below Cv3.out hb_)
  clear Cv3
  have Cv3 := Cv3_
  clear Cv3_
  have C25_ := Aside0.mk (Kd.C_below C25.out hb_)
  clear C25
  have C25 := C25_
  clear C25_
  have Cv5_ := Aside0.mk (Kd.C_below Cv5.out hb_)
  clear Cv5
  have Cv5 := Cv5_
  clear Cv5_
  have Cv5r_ := Aside0.mk (Kd.C_below Cv5r.out hb_)
  clear Cv5r
  have Cv5r := Cv5r_
  clear Cv5r_
  have C32_ := Aside0.mk (Kd.C_below C32.out hb_)
  clear C32
  have C32 := C32_
  clear C32_
  have Cv8_ := Aside0.mk (Kd.C_below Cv8.out hb_)
  clear Cv8
  have Cv8 := Cv8_
  clear Cv8_
  have HB_ := Aside0.mk (below_step HB.out hb_)
  clear HB
  have HB := HB_
  clear HB_
  obtain ⟨Av8b, cv8b, rfl⟩ := Kd.R_slice hr_
  have Cv8b := Aside0.mk (show Kd.C (Kd.int .u32) wa11 Av8b 3 [0, 1, 1] from (Kd.R_reads' hr_).2.2)
  have Hv8b := Aside0.mk (show 3 ≤ cv8b from (Kd.R_reads' hr_).2.1)
  clear hr_
  clear hb_
  simp only [List.length_cons, List.length_nil] at *
  go_wp2_with (first | ((with_reducible refine gate_dst (N := 62) rfl ?_); (try (refine gate_guard (by rfl) ?_; dsimp only)); refine lit_event ?hg (N := 62) ?hd [0, 1] 2 rfl (by decide) ?hr ?_; (case hd => rfl); (case hg => rfl); (case hr => first | (go_simp; done) | (go_simp; rfl)); intro A62 wa12 hc_ hb_; have C12_ := Aside0.mk (Kd.C_below C12.out hb_); clear C12; have C12 := C12_; clear C12_; have C13_ := Aside0.mk (Kd.C_below C13.out hb_); clear C13; have C13 := C13_; clear C13_; have Cv1_ := Aside0.mk (Kd.C_below Cv1.out hb_); clear Cv1; have Cv1 := Cv1_; clear Cv1_; have C18_ := Aside0.mk (Kd.C_below C18.out hb_); clear C18; have C18 := C18_; clear C18_; have C19_ := Aside0.mk (Kd.C_below C19.out hb_); clear C19; have C19 := C19_; clear C19_; have Cv3_ := Aside0.mk (Kd.C_below Cv3.out hb_); clear Cv3; have Cv3 := Cv3_; clear Cv3_; have C25_ := Aside0.mk (Kd.C_below C25.out hb_); clear C25; have C25 := C25_; clear C25_; have Cv5_ := Aside0.mk (Kd.C_below Cv5.out hb_); clear Cv5; have Cv5 := Cv5_; clear Cv5_; have Cv5r_ := Aside0.mk (Kd.C_below Cv5r.out hb_); clear Cv5r; have Cv5r := Cv5r_; clear Cv5r_; have C32_ := Aside0.mk (Kd.C_below C32.out hb_); clear C32; have C32 := C32_; clear C32_; have Cv8_ := Aside0.mk (Kd.C_below Cv8.out hb_); clear Cv8; have Cv8 := Cv8_; clear Cv8_; have Cv8b_ := Aside0.mk (Kd.C_below Cv8b.out hb_); clear Cv8b; have Cv8b := Cv8b_; clear Cv8b_; have HB_ := Aside0.mk (below_step HB.out hb_); clear HB; have HB := HB_; clear HB_; have C62 := Aside0.mk hc_; clear hc_ hb_))
  refine (lineagelaw03_same.calls 20 Av1 cv1 [0, 1] A62 2 [0, 1] true wa12 Cv1.out Hv1.out C62.out (Nat.le_refl _) hS1.out).mono ?_
  rintro e wa13 ⟨rfl, hd_⟩
  have hb_ := hd_.below
  have C12_ := Aside0.mk (Kd.C_below C12.out hb_)
  clear C12
  have C12 := C12_
  clear C12_
  have C13_ := Aside0.mk (Kd.C_below C13.out hb_)
  clear C13
  have C13 := C13_
  clear C13_
  have Cv1_ := Aside0.mk (Kd.C_below Cv1.out hb_)
  clear Cv1
  have Cv1 := Cv1_
  clear Cv1_
  have C18_ := Aside0.mk (Kd.C_below C18.out hb_)
  clear C18
  have C18 := C18_
  clear C18_
  have C19_ := Aside0.mk (Kd.C_below C19.out hb_)
  clear C19
  have C19 := C19_
  clear C19_
  have Cv3_ := Aside0.mk (Kd.C_below Cv3.out hb_)
  clear Cv3
  have Cv3 := Cv3_
  clear Cv3_
  have C25_ := Aside0.mk (Kd.C_below C25.out hb_)
  clear C25
  have C25 := C25_
  clear C25_
  have Cv5_ := Aside0.mk (Kd.C_below Cv5.out hb_)
  clear Cv5
  have Cv5 := Cv5_
  clear Cv5_
  have Cv5r_ := Aside0.mk (Kd.C_below Cv5r.out hb_)
  clear Cv5r
  have Cv5r := Cv5r_
  clear Cv5r_
  have C32_ := Aside0.mk (Kd.C_below C32.out hb_)
  clear C32
  have C32 := C32_
  clear C32_
  have Cv8_ := Aside0.mk (Kd.C_below Cv8.out hb_)
  clear Cv8
  have Cv8 := Cv8_
  clear Cv8_
  have Cv8b_ := Aside0.mk (Kd.C_below Cv8b.out hb_)
  clear Cv8b
  have Cv8b := Cv8b_
  clear Cv8b_
  have C62_ := Aside0.mk (Kd.C_below C62.out hb_)
  clear C62
  have C62 := C62_
  clear C62_
  have HB_ := Aside0.mk (below_step HB.out hb_)
  clear HB
  have HB := HB_
  clear HB_
  clear hb_ hd_
  go_wp2_with fail
  refine (bignat_Format.calls 501 Av3 cv3 [0, 1, 1] ⟨#[49,56,52,52,54,55,52,52,48,55,56,48,48,52,53,49,56,57,49,50]⟩ wa13 Cv3.out Hv3.out hFmt.out (HT_.out.below HB.out)).mono ?_
  rintro e wa14 ⟨rfl, hb_⟩
  have C12_ := Aside0.mk (Kd.C_below C12.out hb_)
  clear C12
  have C12 := C12_
  clear C12_
  have C13_ := Aside0.mk (Kd.C_below C13.out hb_)
  clear C13
  have C13 := C13_
  clear C13_
  have Cv1_ := Aside0.mk (Kd.C_below Cv1.out hb_)
  clear Cv1
  have Cv1 := Cv1_
  clear Cv1_
  have C18_ := Aside0.mk (Kd.C_below C18.out hb_)
  clear C18
  have C18 := C18_
  clear C18_
  have C19_ := Aside0.mk (Kd.C_below C19.out hb_)
  clear C19
  have C19 := C19_
  clear C19_
  have Cv3_ := Aside0.mk (Kd.C_below Cv3.out hb_)
  clear Cv3
  have Cv3 := Cv3_
  clear Cv3_
  have C25_ := Aside0.mk (Kd.C_below C25.out hb_)
  clear C25
  have C25 := C25_
  clear C25_
  have Cv5_ := Aside0.mk (Kd.C_below Cv5.out hb_)
  clear Cv5
  have Cv5 := Cv5_
  clear Cv5_
  have Cv5r_ := Aside0.mk (Kd.C_below Cv5r.out hb_)
  clear Cv5r
  have Cv5r := Cv5r_
  clear Cv5r_
  have C32_ := Aside0.mk (Kd.C_below C32.out hb_)
  clear C32
  have C32 := C32_
  clear C32_
  have Cv8_ := Aside0.mk (Kd.C_below Cv8.out hb_)
  clear Cv8
  have Cv8 := Cv8_
  clear Cv8_
  have Cv8b_ := Aside0.mk (Kd.C_below Cv8b.out hb_)
  clear Cv8b
  have Cv8b := Cv8b_
  clear Cv8b_
  have C62_ := Aside0.mk (Kd.C_below C62.out hb_)
  clear C62
  have C62 := C62_
  clear C62_
  have HB_ := Aside0.mk (below_step HB.out hb_)
  clear HB
  have HB := HB_
  clear HB_
  clear hb_
  go_wp2_with fail
  refine (lineagelaw03_same.calls 20 Av8b cv8b [0, 1, 1] Av3 cv3 [0, 1, 1] true wa14 Cv8b.out Hv8b.out Cv3.out Hv3.out hS2.out).mono ?_
  rintro e wa15 ⟨rfl, hd_⟩
  have hb_ := hd_.below
  have C12_ := Aside0.mk (Kd.C_below C12.out hb_)
  clear C12
  have C12 := C12_
  clear C12_
  have C13_ := Aside0.mk (Kd.C_below C13.out hb_)
  clear C13
  have C13 := C13_
  clear C13_
  have Cv1_ := Aside0.mk (Kd.C_below Cv1.out hb_)
  clear Cv1
  have Cv1 := Cv1_
  clear Cv1_
  have C18_ := Aside0.mk (Kd.C_below C18.out hb_)
  clear C18
  have C18 := C18_
  clear C18_
  have C19_ := Aside0.mk (Kd.C_below C19.out hb_)
  clear C19
  have C19 := C19_
  clear C19_
  have Cv3_ := Aside0.mk (Kd.C_below Cv3.out hb_)
  clear Cv3
  have Cv3 := Cv3_
  clear Cv3_
  have C25_ := Aside0.mk (Kd.C_below C25.out hb_)
  clear C25
  have C25 := C25_
  clear C25_
  have Cv5_ := Aside0.mk (Kd.C_below Cv5.out hb_)
  clear Cv5
  have Cv5 := Cv5_
  clear Cv5_
  have Cv5r_ := Aside0.mk (Kd.C_below Cv5r.out hb_)
  clear Cv5r
  have Cv5r := Cv5r_
  clear Cv5r_
  have C32_ := Aside0.mk (Kd.C_below C32.out hb_)
  clear C32
  have C32 := C32_
  clear C32_
  have Cv8_ := Aside0.mk (Kd.C_below Cv8.out hb_)
  clear Cv8
  have Cv8 := Cv8_
  clear Cv8_
  have Cv8b_ := Aside0.mk (Kd.C_below Cv8b.out hb_)
  clear Cv8b
  have Cv8b := Cv8b_
  clear Cv8b_
  have C62_ := Aside0.mk (Kd.C_below C62.out hb_)
  clear C62
  have C62 := C62_
  clear C62_
  have HB_ := Aside0.mk (below_step HB.out hb_)
  clear HB
  have HB := HB_
  clear HB_
  clear hb_ hd_
  go_wp2_with (first | ((with_reducible refine gate_dst (N := 76) rfl ?_); (try (refine gate_guard (by rfl) ?_; dsimp only)); refine lit_event ?hg (N := 76) ?hd [12] 1 rfl (by decide) ?hr ?_; (case hd => rfl); (case hg => rfl); (case hr => first | (go_simp; done) | (go_simp; rfl)); intro A76 wa16 hc_ hb_; have C12_ := Aside0.mk (Kd.C_below C12.out hb_); clear C12; have C12 := C12_; clear C12_; have C13_ := Aside0.mk (Kd.C_below C13.out hb_); clear C13; have C13 := C13_; clear C13_; have Cv1_ := Aside0.mk (Kd.C_below Cv1.out hb_); clear Cv1; have Cv1 := Cv1_; clear Cv1_; have C18_ := Aside0.mk (Kd.C_below C18.out hb_); clear C18; have C18 := C18_; clear C18_; have C19_ := Aside0.mk (Kd.C_below C19.out hb_); clear C19; have C19 := C19_; clear C19_; have Cv3_ := Aside0.mk (Kd.C_below Cv3.out hb_); clear Cv3; have Cv3 := Cv3_; clear Cv3_; have C25_ := Aside0.mk (Kd.C_below C25.out hb_); clear C25; have C25 := C25_; clear C25_; have Cv5_ := Aside0.mk (Kd.C_below Cv5.out hb_); clear Cv5; have Cv5 := Cv5_; clear Cv5_; have Cv5r_ := Aside0.mk (Kd.C_below Cv5r.out hb_); clear Cv5r; have Cv5r := Cv5r_; clear Cv5r_; have C32_ := Aside0.mk (Kd.C_below C32.out hb_); clear C32; have C32 := C32_; clear C32_; have Cv8_ := Aside0.mk (Kd.C_below Cv8.out hb_); clear Cv8; have Cv8 := Cv8_; clear Cv8_; have Cv8b_ := Aside0.mk (Kd.C_below Cv8b.out hb_); clear Cv8b; have Cv8b := Cv8b_; clear Cv8b_; have C62_ := Aside0.mk (Kd.C_below C62.out hb_); clear C62; have C62 := C62_; clear C62_; have HB_ := Aside0.mk (below_step HB.out hb_); clear HB; have HB := HB_; clear HB_; have C76 := Aside0.mk hc_; clear hc_ hb_) | ((with_reducible refine gate_dst (N := 77) rfl ?_); (try (refine gate_guard (by rfl) ?_; dsimp only)); refine lit_event ?hg (N := 77) ?hd [18] 1 rfl (by decide) ?hr ?_; (case hd => rfl); (case hg => rfl); (case hr => first | (go_simp; done) | (go_simp; rfl)); intro A77 wa17 hc_ hb_; have C12_ := Aside0.mk (Kd.C_below C12.out hb_); clear C12; have C12 := C12_; clear C12_; have C13_ := Aside0.mk (Kd.C_below C13.out hb_); clear C13; have C13 := C13_; clear C13_; have Cv1_ := Aside0.mk (Kd.C_below Cv1.out hb_); clear Cv1; have Cv1 := Cv1_; clear Cv1_; have C18_ := Aside0.mk (Kd.C_below C18.out hb_); clear C18; have C18 := C18_; clear C18_; have C19_ := Aside0.mk (Kd.C_below C19.out hb_); clear C19; have C19 := C19_; clear C19_; have Cv3_ := Aside0.mk (Kd.C_below Cv3.out hb_); clear Cv3; have Cv3 := Cv3_; clear Cv3_; have C25_ := Aside0.mk (Kd.C_below C25.out hb_); clear C25; have C25 := C25_; clear C25_; have Cv5_ := Aside0.mk (Kd.C_below Cv5.out hb_); clear Cv5; have Cv5 := Cv5_; clear Cv5_; have Cv5r_ := Aside0.mk (Kd.C_below Cv5r.out hb_); clear Cv5r; have Cv5r := Cv5r_; clear Cv5r_; have C32_ := Aside0.mk (Kd.C_below C32.out hb_); clear C32; have C32 := C32_; clear C32_; have Cv8_ := Aside0.mk (Kd.C_below Cv8.out hb_); clear Cv8; have Cv8 := Cv8_; clear Cv8_; have Cv8b_ := Aside0.mk (Kd.C_below Cv8b.out hb_); clear Cv8b; have Cv8b := Cv8b_; clear Cv8b_; have C62_ := Aside0.mk (Kd.C_below C62.out hb_); clear C62; have C62 := C62_; clear C62_; have C76_ := Aside0.mk (Kd.C_below C76.out hb_); clear C76; have C76 := C76_; clear C76_; have HB_ := Aside0.mk (below_step HB.out hb_); clear HB; have HB := HB_; clear HB_; have C77 := Aside0.mk hc_; clear hc_ hb_))
  refine (bignat_GCD.calls 300 A76 1 [12] A77 1 [18] [6] wa17 C76.out (Nat.le_refl _) C77.out (Nat.le_refl _) hGcd.out).mono ?_
  rintro e wa18 ⟨v_, rfl, hr_, hb_⟩
  have C12_ := Aside0.mk (Kd.C_below C12.out hb_)
  clear C12
  have C12 := C12_
  clear C12_
  have C13_ := Aside0.mk (Kd.C_below C13.out hb_)
  clear C13
  have C13 := C13_
  clear C13_
  have Cv1_ := Aside0.mk (Kd.C_below Cv1.out hb_)
  clear Cv1
  have Cv1 := Cv1_
  clear Cv1_
  have C18_ := Aside0.mk (Kd.C_below C18.out hb_)
  clear C18
  have C18 := C18_
  clear C18_
  have C19_ := Aside0.mk (Kd.C_below C19.out hb_)
  clear C19
  have C19 := C19_
  clear C19_
  have Cv3_ := Aside0.mk (Kd.C_below Cv3.out hb_)
  clear Cv3
  have Cv3 := Cv3_
  clear Cv3_
  have C25_ := Aside0.mk (Kd.C_below C25.out hb_)
  clear C25
  have C25 := C25_
  clear C25_
  have Cv5_ := Aside0.mk (Kd.C_below Cv5.out hb_)
  clear Cv5
  have Cv5 := Cv5_
  clear Cv5_
  have Cv5r_ := Aside0.mk (Kd.C_below Cv5r.out hb_)
  clear Cv5r
  have Cv5r := Cv5r_
  clear Cv5r_
  have C32_ := Aside0.mk (Kd.C_below C32.out hb_)
  clear C32
  have C32 := C32_
  clear C32_
  have Cv8_ := Aside0.mk (Kd.C_below Cv8.out hb_)
  clear Cv8
  have Cv8 := Cv8_
  clear Cv8_
  have Cv8b_ := Aside0.mk (Kd.C_below Cv8b.out hb_)
  clear Cv8b
  have Cv8b := Cv8b_
  clear Cv8b_
  have C62_ := Aside0.mk (Kd.C_below C62.out hb_)
  clear C62
  have C62 := C62_
  clear C62_
  have C76_ := Aside0.mk (Kd.C_below C76.out hb_)
  clear C76
  have C76 := C76_
  clear C76_
  have C77_ := Aside0.mk (Kd.C_below C77.out hb_)
  clear C77
  have C77 := C77_
  clear C77_
  have HB_ := Aside0.mk (below_step HB.out hb_)
  clear HB
  have HB := HB_
  clear HB_
  obtain ⟨Avg, cvg, rfl⟩ := Kd.R_slice hr_
  have Cvg := Aside0.mk (show Kd.C (Kd.int .u32) wa18 Avg 1 [6] from (Kd.R_reads' hr_).2.2)
  have Hvg := Aside0.mk (show 1 ≤ cvg from (Kd.R_reads' hr_).2.1)
  clear hr_
  clear hb_
  simp only [List.length_cons, List.length_nil] at *
  go_wp2_with (first | ((with_reducible refine gate_dst (N := 79) rfl ?_); (try (refine gate_guard (by rfl) ?_; dsimp only)); refine lit_event ?hg (N := 79) ?hd [6] 1 rfl (by decide) ?hr ?_; (case hd => rfl); (case hg => rfl); (case hr => first | (go_simp; done) | (go_simp; rfl)); intro A79 wa19 hc_ hb_; have C12_ := Aside0.mk (Kd.C_below C12.out hb_); clear C12; have C12 := C12_; clear C12_; have C13_ := Aside0.mk (Kd.C_below C13.out hb_); clear C13; have C13 := C13_; clear C13_; have Cv1_ := Aside0.mk (Kd.C_below Cv1.out hb_); clear Cv1; have Cv1 := Cv1_; clear Cv1_; have C18_ := Aside0.mk (Kd.C_below C18.out hb_); clear C18; have C18 := C18_; clear C18_; have C19_ := Aside0.mk (Kd.C_below C19.out hb_); clear C19; have C19 := C19_; clear C19_; have Cv3_ := Aside0.mk (Kd.C_below Cv3.out hb_); clear Cv3; have Cv3 := Cv3_; clear Cv3_; have C25_ := Aside0.mk (Kd.C_below C25.out hb_); clear C25; have C25 := C25_; clear C25_; have Cv5_ := Aside0.mk (Kd.C_below Cv5.out hb_); clear Cv5; have Cv5 := Cv5_; clear Cv5_; have Cv5r_ := Aside0.mk (Kd.C_below Cv5r.out hb_); clear Cv5r; have Cv5r := Cv5r_; clear Cv5r_; have C32_ := Aside0.mk (Kd.C_below C32.out hb_); clear C32; have C32 := C32_; clear C32_; have Cv8_ := Aside0.mk (Kd.C_below Cv8.out hb_); clear Cv8; have Cv8 := Cv8_; clear Cv8_; have Cv8b_ := Aside0.mk (Kd.C_below Cv8b.out hb_); clear Cv8b; have Cv8b := Cv8b_; clear Cv8b_; have C62_ := Aside0.mk (Kd.C_below C62.out hb_); clear C62; have C62 := C62_; clear C62_; have C76_ := Aside0.mk (Kd.C_below C76.out hb_); clear C76; have C76 := C76_; clear C76_; have C77_ := Aside0.mk (Kd.C_below C77.out hb_); clear C77; have C77 := C77_; clear C77_; have Cvg_ := Aside0.mk (Kd.C_below Cvg.out hb_); clear Cvg; have Cvg := Cvg_; clear Cvg_; have HB_ := Aside0.mk (below_step HB.out hb_); clear HB; have HB := HB_; clear HB_; have C79 := Aside0.mk hc_; clear hc_ hb_))
  refine (lineagelaw03_same.calls 20 Avg cvg [6] A79 1 [6] true wa19 Cvg.out Hvg.out C79.out (Nat.le_refl _) hS3.out).mono ?_
  rintro e wa20 ⟨rfl, hd_⟩
  have hb_ := hd_.below
  have C12_ := Aside0.mk (Kd.C_below C12.out hb_)
  clear C12
  have C12 := C12_
  clear C12_
  have C13_ := Aside0.mk (Kd.C_below C13.out hb_)
  clear C13
  have C13 := C13_
  clear C13_
  have Cv1_ := Aside0.mk (Kd.C_below Cv1.out hb_)
  clear Cv1
  have Cv1 := Cv1_
  clear Cv1_
  have C18_ := Aside0.mk (Kd.C_below C18.out hb_)
  clear C18
  have C18 := C18_
  clear C18_
  have C19_ := Aside0.mk (Kd.C_below C19.out hb_)
  clear C19
  have C19 := C19_
  clear C19_
  have Cv3_ := Aside0.mk (Kd.C_below Cv3.out hb_)
  clear Cv3
  have Cv3 := Cv3_
  clear Cv3_
  have C25_ := Aside0.mk (Kd.C_below C25.out hb_)
  clear C25
  have C25 := C25_
  clear C25_
  have Cv5_ := Aside0.mk (Kd.C_below Cv5.out hb_)
  clear Cv5
  have Cv5 := Cv5_
  clear Cv5_
  have Cv5r_ := Aside0.mk (Kd.C_below Cv5r.out hb_)
  clear Cv5r
  have Cv5r := Cv5r_
  clear Cv5r_
  have C32_ := Aside0.mk (Kd.C_below C32.out hb_)
  clear C32
  have C32 := C32_
  clear C32_
  have Cv8_ := Aside0.mk (Kd.C_below Cv8.out hb_)
  clear Cv8
  have Cv8 := Cv8_
  clear Cv8_
  have Cv8b_ := Aside0.mk (Kd.C_below Cv8b.out hb_)
  clear Cv8b
  have Cv8b := Cv8b_
  clear Cv8b_
  have C62_ := Aside0.mk (Kd.C_below C62.out hb_)
  clear C62
  have C62 := C62_
  clear C62_
  have C76_ := Aside0.mk (Kd.C_below C76.out hb_)
  clear C76
  have C76 := C76_
  clear C76_
  have C77_ := Aside0.mk (Kd.C_below C77.out hb_)
  clear C77
  have C77 := C77_
  clear C77_
  have Cvg_ := Aside0.mk (Kd.C_below Cvg.out hb_)
  clear Cvg
  have Cvg := Cvg_
  clear Cvg_
  have C79_ := Aside0.mk (Kd.C_below C79.out hb_)
  clear C79
  have C79 := C79_
  clear C79_
  have HB_ := Aside0.mk (below_step HB.out hb_)
  clear HB
  have HB := HB_
  clear HB_
  clear hb_ hd_
  go_wp2_with fail
  go_ret
  exact ⟨rfl, HB.out⟩

end Go.Proofs.YtoakfjcejamoeaaDoor.B
