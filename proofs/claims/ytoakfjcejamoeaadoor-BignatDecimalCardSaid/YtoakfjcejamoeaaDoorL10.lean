import Derived.Test.YtoakfjcejamoeaaDoorL9
namespace Go.Proofs.YtoakfjcejamoeaaDoor.B
open Go.RowKit Go.Proofs.YtoakfjcejamoeaaDoorW.PrintWords Go.Proofs.YtoakfjcejamoeaaDoorW.PrintLast Go.Proofs.YtoakfjcejamoeaaDoorW.PrintMore
set_option exponentiation.threshold 8200
set_option linter.unusedVariables false
set_option linter.unusedSimpArgs false
theorem at_w {m n : Nat} (hm : m ≤ 2000) (hn : n ≤ 2000) (h2 : 2 ≤ n) : wrap64 ((m : Int) + (n : Int)) = ((m + n : Nat) : Int) ∧ wrap64 (((m + n : Nat) : Int) - 1) = ((m + n - 1 : Nat) : Int) := ⟨(w64 (by omega) (by omega)).trans (by omega), (w64 (by omega) (by omega)).trans (by omega)⟩
theorem l0_step {d u o : List Int} {s m k top sec hh hl : Nat} (hm : m ≤ 2000) (hn : d.length ≤ 2000) (hd2 : 2 ≤ d.length) (hul : m + d.length < u.length) (h3 : rd u ((m + d.length : Nat) : Int) = (hh : Int)) (h4 : rd u ((m + d.length - 1 : Nat) : Int) = (hl : Int)) (hhl : hh < 4294967296) (hll : hl < 4294967296) (ht : top ≠ 0) :
    bignat_DivMod.l0 (k + 1) (s : Int) d u o (top : Int) (sec : Int) (m : Int) = bignat_DivMod.l1 k (s : Int) d u o (top : Int) (sec : Int) (m : Int) (((hh * 4294967296 + hl) / top : Nat) : Int) (((hh * 4294967296 + hl) % top : Nat) : Int) := by
  obtain ⟨hw, hw2⟩ := at_w hm hn hd2
  have hb : hh * 4294967296 + hl < 18446744073709551616 := by omega
  have hq : (hh * 4294967296 + hl) / top < 18446744073709551616 := Nat.lt_of_le_of_lt (Nat.div_le_self _ _) hb
  have hh2 : hh < 18446744073709551616 := by omega
  have e1 : IntKind.u64.wrap (hh : Int) = (hh : Int) := u64N hh2
  have e2 := or_u64w hhl hll
  have e3 : Int.tdiv ((hh * 4294967296 + hl : Nat) : Int) (top : Int) = (((hh * 4294967296 + hl) / top : Nat) : Int) := (Int.ofNat_tdiv _ _).symm
  have e4 : Int.tmod ((hh * 4294967296 + hl : Nat) : Int) (top : Int) = (((hh * 4294967296 + hl) % top : Nat) : Int) := (Int.ofNat_tmod _ _).symm
  have e5 := u64N hq
  have c1 : ((m + d.length : Nat) : Int) < (u.length : Int) := Int.ofNat_lt.2 hul
  have c2 : ((m + d.length - 1 : Nat) : Int) < (u.length : Int) := Int.ofNat_lt.2 (by omega)
  have c3 : ¬ (top : Int) = 0 := by omega
  have c4 : (m : Int) ≥ 0 := Int.natCast_nonneg m
  clear hb hq hh2 hhl hll
  conv => lhs; rw [bignat_DivMod.l0]
  rw [if_pos c4, hw, hw2, if_pos (Int.natCast_nonneg _), if_pos c1, if_pos (Int.natCast_nonneg _), if_pos c2, if_neg c3, h3, h4, e1, e2, e3, e4, e5]
theorem div_l0 {d : List Int} (hd : Bn.Limbs d) (hs : d.length ≤ 2000) {s top sec : Nat} (hd2 : 2 ≤ d.length) (h1 : rd d ((d.length - 1 : Nat) : Int) = (top : Int)) (h2 : rd d ((d.length - 2 : Nat) : Int) = (sec : Int)) (htop : 2147483648 ≤ top) (hD : 0 < Bn.nv d) :
    ∀ (m k : Nat) (u o : List Int), 8 * m + d.length + 8 ≤ k → Bn.Limbs u → Bn.Limbs o → m ≤ 2000 → m + d.length ≤ u.length → u.length ≤ 4002 → m ≤ o.length → (∀ t : Nat, t < m → rd o (t : Int) = ((0 : Nat) : Int)) → Bn.nv u < 4294967296 ^ m * Bn.nv d →
    ∃ (k' : Nat) (u' o' : List Int), bignat_DivMod.l0 k (s : Int) d u o (top : Int) (sec : Int) ((m : Int) - 1) = bignat_DivMod.l0 k' (s : Int) d u' o' (top : Int) (sec : Int) (-1) ∧ k ≤ k' + 8 * m ∧ Bn.Limbs u' ∧ Bn.Limbs o' ∧ u'.length = u.length ∧ o'.length = o.length ∧
      Bn.nv u' + Bn.nv o' * Bn.nv d = Bn.nv u + Bn.nv o * Bn.nv d ∧ Bn.nv u' < Bn.nv d := by
  intro m
  induction m with
  | zero =>
    intro k u o hk hu ho hm hul hul2 hol hz hU
    refine ⟨k, u, o, rfl, by omega, hu, ho, rfl, rfl, rfl, ?_⟩
    rw [Nat.pow_zero, Nat.one_mul] at hU
    exact hU
  | succ m ih =>
    intro k u o hk hu ho hm hul hul2 hol hz hU
    obtain ⟨k, rfl⟩ : ∃ j, k = j + 1 := ⟨k - 1, by omega⟩
    obtain ⟨hh, h3, hhl⟩ := limb_rd hu (m + d.length)
    obtain ⟨hl, h4, hll⟩ := limb_rd hu (m + d.length - 1)
    obtain ⟨third, h5, htl⟩ := limb_rd hu (m + d.length - 2)
    have H := guess_of hd hu hd2 (by omega) h1 h2 htop h3 h4 h5 hU
    have hst := H.start
    have hdm := Nat.div_add_mod (hh * 4294967296 + hl) top
    have hml := Nat.mod_lt (hh * 4294967296 + hl) (show 0 < top by omega)
    have hgl : (hh * 4294967296 + hl) / top ≤ hh * 4294967296 + hl := Nat.div_le_self _ _
    have htopl := H.topl
    obtain ⟨k', g', e1, q2, q3, q4, q5⟩ := guess_l1 H (s := s) (at_ := m) (o := o) hs (by omega) hd2 (by omega) h5 2 k ((hh * 4294967296 + hl) / top) ((hh * 4294967296 + hl) % top) (by omega) (by rw [Nat.mul_comm]; exact hdm) (by omega) (by omega) hst (by omega)
    obtain ⟨k', rfl⟩ : ∃ j, k' = j + 1 := ⟨k' - 1, by omega⟩
    have hUP : Bn.nv u < 4294967296 ^ (m + d.length + 1) := by
      refine Nat.lt_trans hU ?_
      rw [show m + d.length + 1 = (m + 1) + d.length by omega, Nat.pow_add 4294967296 (m + 1) d.length]
      exact Nat.mul_lt_mul_of_pos_left (Bn.nv_lt hd) (Nat.pow_pos (n := m + 1) (show 0 < 4294967296 by decide))
    obtain ⟨u', o', q, r1, r2, r3, r4, r5, r6, r7, r8⟩ := div_j4 hd hs (s := s) (top := top) (sec := sec) (k := k') hu ho (by omega) (by omega) (by omega) hul2 (by omega) (hz m (by omega)) hUP q3 hD q4 q5
    obtain ⟨K, U', O', t1, t2, t3, t4, t5, t6, t7, t8⟩ := ih k' u' o' (by omega) r2 r3 (by omega) (by omega) (by omega) (by rw [r5, List.length_set]; omega) (fun t ht => by rw [r5, rd_set_ne _ _ _ _ (by omega)]; exact hz t (by omega)) r7
    refine ⟨K, U', O', ?_, by omega, t3, t4, by omega, by rw [t6, r5, List.length_set], ?_, t8⟩
    · rw [← t1, ← r1, ← e1, show (((m + 1 : Nat) : Int) - 1) = (m : Int) by omega]
      exact l0_step (show m ≤ 2000 by omega) hs hd2 (by omega) h3 h4 hhl hll (by omega)
    · rw [r8] at t7
      rw [← r6]
      rw [Nat.add_mul, Nat.mul_assoc] at t7
      omega
theorem div_exit {d u o : List Int} (hu : Bn.Limbs u) (ho : Bn.Limbs o) (hs : d.length ≤ 2000) (hul : d.length ≤ u.length) (hol : o.length ≤ 2000) {s top sec k : Nat} (hs2 : s < 32) (hk : 2001 < k) :
    bignat_DivMod.l0 (k + 1) (s : Int) d u o (top : Int) (sec : Int) (-1) = some (Bn.limbs (Bn.nv o), Bn.limbs (Bn.nv (u.take d.length) / 2 ^ s), 0) := by
  have hL : (u.take d.length).length = d.length := by rw [List.length_take]; omega
  have e1 := trimmed_f ho (by omega) (k := k) (by omega)
  have e2 := right_f (hu.take d.length) (by omega) hs2 (k := k) (by omega)
  have e3 := trimmed_f (rightOut_limbs (u.take d.length) s (u.take d.length).length) (by rw [rightOut, List.length_map, List.length_range]; omega) (k := k) (by rw [rightOut, List.length_map, List.length_range]; omega)
  rw [rightOut_nv (hu.take d.length) (show s ≤ 32 by omega)] at e3
  have c1 : (d.length : Int) ≤ (u.length : Int) := Int.ofNat_le.2 hul
  conv => lhs; rw [bignat_DivMod.l0]
  rw [if_neg (show ¬ (-1 : Int) ≥ 0 by decide), e1, Option.bind_some, if_pos (Int.natCast_nonneg _), if_pos c1, Int.toNat_natCast, e2, Option.bind_some, e3, Option.bind_some]
theorem len32_f {x : Nat} (h0 : 0 < x) (h1 : x < 4294967296) : ∃ s : Nat, bits_LeadingZeros32.f (x : Int) = some (s : Int) ∧ s < 32 ∧ 2147483648 ≤ x * 2 ^ s ∧ x * 2 ^ s < 4294967296 := by
  unfold bits_LeadingZeros32.f bits_Len32.f
  rw [if_pos ⟨Int.natCast_nonneg _, by omega⟩, Option.bind_some, Int.toNat_natCast]
  obtain ⟨a1, a2, a3⟩ : 1 ≤ Lib.bitLen x ∧ 2 ^ (Lib.bitLen x - 1) ≤ x ∧ x < 2 ^ Lib.bitLen x := Lib.bitLenAux_bounds 64 x (Nat.lt_trans h1 (by decide)) (by omega)
  generalize Lib.bitLen x = L at *
  have hL : L - 1 < 32 := by
    refine (Nat.pow_lt_pow_iff_right (show 1 < 2 by decide)).1 (Nat.lt_of_le_of_lt a2 (Nat.lt_of_lt_of_le h1 (by decide)))
  refine ⟨32 - L, ?_, by omega, ?_, ?_⟩
  · rw [w64 (by omega) (by omega)]
    congr 1
    omega
  · have e : 2147483648 = 2 ^ (L - 1) * 2 ^ (32 - L) := by rw [← Nat.pow_add, show L - 1 + (32 - L) = 31 by omega]
    rw [e]
    exact Nat.mul_le_mul_right _ a2
  · have e : 4294967296 = 2 ^ L * 2 ^ (32 - L) := by rw [← Nat.pow_add, show L + (32 - L) = 32 by omega]
    rw [e]
    exact Nat.mul_lt_mul_of_pos_right a3 (Nat.pow_pos (by decide))
theorem validB_nil : validB [] = true := by decide
theorem vv_valid {l : List Int} (h : validB l = true) : vv l = Bn.nv l := by
  unfold vv ozB
  rw [if_pos h]
theorem quot_of {V Q P Aa b : Nat} (hP : 0 < P) (e : V + Q * (b * P) = Aa * P) (h : V < b * P) : Q = Aa / b ∧ V / P = Aa % b := by
  have hb : 0 < b := by
    rcases Nat.eq_zero_or_pos b with h0 | h0
    · rw [h0, Nat.zero_mul] at h
      omega
    · exact h0
  have e1 : V = (Aa - Q * b) * P := by
    rw [Nat.sub_mul, Nat.mul_assoc]
    omega
  have hQ : Q * b ≤ Aa := by
    have : Q * b * P ≤ Aa * P := by rw [Nat.mul_assoc]; omega
    exact Nat.le_of_mul_le_mul_right this hP
  rw [e1] at h
  have h2 : Aa - Q * b < b := Nat.lt_of_mul_lt_mul_right h
  have h3 : Aa = b * Q + (Aa - Q * b) := by rw [Nat.mul_comm b Q]; omega
  constructor
  · rw [h3, Nat.mul_add_div hb, Nat.div_eq_of_lt h2, Nat.add_zero]
  · rw [e1, Nat.mul_div_cancel _ hP]
    conv => rhs; rw [h3, Nat.mul_add_mod, Nat.mod_eq_of_lt h2]
theorem last_ge {b : List Int} (hb : Bn.Nrm b) (h2 : 2 ≤ b.length) : ∃ t : Nat, rd b ((b.length - 1 : Nat) : Int) = (t : Int) ∧ 0 < t ∧ t < 4294967296 := by
  obtain ⟨t, h1, hl⟩ := limb_rd hb.1 (b.length - 1)
  refine ⟨t, h1, ?_, hl⟩
  have := last_ne hb (b.length - 1) (by omega)
  rw [h1] at this
  omega
theorem top_nv {d : List Int} (hd : Bn.Limbs d) {n t : Nat} (hn : d.length = n + 1) (h : rd d (n : Int) = (t : Int)) : Bn.nv d / 4294967296 ^ n = t := by
  have a := nv_digit hd n t (by omega) h
  have b := Bn.nv_lt hd
  rw [hn, Nat.pow_succ] at b
  have c : Bn.nv d / 4294967296 ^ n < 4294967296 := (Nat.div_lt_iff_lt_mul (Nat.pow_pos (by decide))).2 (by rw [Nat.mul_comm]; exact b)
  rw [Nat.mod_eq_of_lt c] at a
  exact a.1
theorem rd_rep0 (m t : Nat) : rd (List.replicate m 0) (t : Int) = ((0 : Nat) : Int) := by
  rw [rd]
  simp
  rw [List.getElem?_replicate]
  split <;> rfl
theorem norm_d {N t s n : Nat} (h : N / 4294967296 ^ n = t) (hs : s < 32) (h3 : 2147483648 ≤ t * 2 ^ s) (h4 : t * 2 ^ s < 4294967296) : 2147483648 * 4294967296 ^ n ≤ N * 2 ^ s ∧ N * 2 ^ s < 4294967296 ^ (n + 1) := by
  have hB : 0 < 4294967296 ^ n := Nat.pow_pos (by decide)
  have hdm := Nat.div_add_mod N (4294967296 ^ n)
  have hml := Nat.mod_lt N hB
  rw [h] at hdm
  have hP : 0 < 2 ^ s := Nat.pow_pos (by decide)
  have ht : t + 1 ≤ 2 ^ (32 - s) := by
    have e : 4294967296 = 2 ^ (32 - s) * 2 ^ s := by rw [← Nat.pow_add, show 32 - s + s = 32 by omega]
    rw [e] at h4
    exact Nat.lt_of_mul_lt_mul_right h4
  have e : 4294967296 = 2 ^ (32 - s) * 2 ^ s := by rw [← Nat.pow_add, show 32 - s + s = 32 by omega]
  constructor
  · calc 2147483648 * 4294967296 ^ n ≤ t * 2 ^ s * 4294967296 ^ n := Nat.mul_le_mul_right _ h3
      _ = 4294967296 ^ n * t * 2 ^ s := by rw [Nat.mul_comm, Nat.mul_assoc]
      _ ≤ N * 2 ^ s := Nat.mul_le_mul_right _ (by omega)
  · have a1 : N < 4294967296 ^ n * (t + 1) := by rw [Nat.mul_add, Nat.mul_one]; omega
    calc N * 2 ^ s < 4294967296 ^ n * (t + 1) * 2 ^ s := Nat.mul_lt_mul_of_pos_right a1 hP
      _ ≤ 4294967296 ^ n * 2 ^ (32 - s) * 2 ^ s := Nat.mul_le_mul_right _ (Nat.mul_le_mul_left _ ht)
      _ = 4294967296 ^ (n + 1) := by rw [Nat.mul_assoc, ← e, ← Nat.pow_succ]
theorem take_nv {o : List Int} {p : Nat} (hp : p ≤ o.length) (h : Bn.nv o < 4294967296 ^ p) : Bn.nv (o.take p) = Bn.nv o := by
  have h1 := Bn.nv_append (o.take p) (o.drop p)
  rw [List.take_append_drop, nv_above hp h, Nat.mul_zero, Nat.add_zero] at h1
  exact h1.symm
theorem div_U {A2 b2 na nb P la n m : Nat} (h1 : na < 4294967296 ^ la) (h2 : 4294967296 ^ n ≤ nb) (hm : m + n = la) (e1 : A2 = na * P) (e2 : b2 = nb * P) (hP : 0 < P) : A2 < 4294967296 ^ m * b2 := by
  rw [e1, e2, ← Nat.mul_assoc]
  refine Nat.mul_lt_mul_of_pos_right (Nat.lt_of_lt_of_le h1 ?_) hP
  rw [← hm, Nat.pow_add]
  exact Nat.mul_le_mul_left _ h2
theorem div_long {a b : List Int} (ha : Bn.Nrm a) (hb : Bn.Nrm b) (hla : a.length ≤ 128) (hlb : b.length ≤ 128) (h2 : 2 ≤ b.length) (hle : Bn.nv b ≤ Bn.nv a) {k : Nat} (hk : 4000 ≤ k) : bignat_DivMod.j0 (k + 1) a b false = some (Bn.limbs (Bn.nv a / Bn.nv b), Bn.limbs (Bn.nv a % Bn.nv b), 0) := by
  have hab : b.length ≤ a.length := by
    have h := (Bn.limbs_len (Bn.nv b) a.length).2 (Nat.lt_of_le_of_lt hle (Bn.nv_lt ha.1))
    rw [hb.2] at h
    exact h
  have va := vv_valid ((validB_iff ha.1).2 ⟨ha, hla⟩)
  have vb := vv_valid ((validB_iff hb.1).2 ⟨hb, hlb⟩)
  obtain ⟨n, hn⟩ : ∃ n, b.length = n + 1 := ⟨b.length - 1, by omega⟩
  obtain ⟨m, hm⟩ : ∃ m, a.length = m + n := ⟨a.length - n, by omega⟩
  obtain ⟨t, ht, ht0, htl⟩ := last_ge hb h2
  rw [show b.length - 1 = n by omega] at ht
  obtain ⟨s, hs, hs2, hs3, hs4⟩ := len32_f ht0 htl
  obtain ⟨O, o1, o2, o3, o4⟩ := left_f hb.1 (by omega) hs2 (k := k) (by omega)
  obtain ⟨U, u1, u2, u3, u4⟩ := left_f ha.1 (by omega) hs2 (k := k) (by omega)
  obtain ⟨hd1, hd2⟩ := norm_d (top_nv hb.1 hn ht) hs2 hs3 hs4
  have hdn : Bn.nv (O.take (n + 1)) = Bn.nv b * 2 ^ s := by rw [take_nv (by omega) (by rw [o4]; exact hd2), o4]
  have hdl : (O.take (n + 1)).length = n + 1 := by rw [List.length_take]; omega
  have hdL := o3.take (n + 1)
  generalize hd : O.take (n + 1) = d at *
  obtain ⟨tp, ht2, ht3⟩ := limb_rd hdL n
  obtain ⟨sc, hc2, hc3⟩ := limb_rd hdL (n - 1)
  have htp := top_nv hdL hdl ht2
  have htp2 : 2147483648 ≤ tp := by
    rw [← htp, hdn]
    exact (Nat.le_div_iff_mul_le (Nat.pow_pos (by decide))).2 hd1
  have hP : 0 < 2 ^ s := Nat.pow_pos (by decide)
  have hbn := Bn.nv_ge hb (fun h => by rw [h] at h2; simp at h2)
  rw [show b.length - 1 = n by omega] at hbn
  have hb0 : 0 < Bn.nv b := Nat.lt_of_lt_of_le (Nat.pow_pos (by decide)) hbn
  have hD0 : 0 < Bn.nv d := by rw [hdn]; exact Nat.mul_pos hb0 hP
  have haL := Bn.nv_lt ha.1
  rw [hm] at haL
  have hU : Bn.nv U < 4294967296 ^ m * Bn.nv d := div_U haL hbn rfl u4 hdn hP
  obtain ⟨K, U', O', t1, t2, t3, t4, t5, t6, t7, t8⟩ := div_l0 hdL (by omega) (s := s) (top := tp) (sec := sc) (by omega) (by rw [hdl]; exact ht2) (by rw [hdl, show n + 1 - 2 = n - 1 by omega]; exact hc2) htp2 hD0 m k U (List.replicate m 0) (by omega) u3 (Bn.Limbs.replicate m) (by omega) (by omega) (by omega) (by rw [List.length_replicate]; omega) (fun t _ => rd_rep0 m t) hU
  rw [List.length_replicate] at t6
  obtain ⟨K, rfl⟩ : ∃ j, K = j + 1 := ⟨K - 1, by omega⟩
  have E := div_exit (d := d) t3 t4 (by omega) (by omega) (by omega) (s := s) (top := tp) (sec := sc) (k := K) hs2 (by omega)
  rw [Bn.nv_replicate, Nat.zero_mul, Nat.add_zero, u4, hdn] at t7
  rw [hdn] at t8
  obtain ⟨q1, q2⟩ := quot_of hP t7 t8
  have htk : Bn.nv (U'.take d.length) = Bn.nv U' := take_nv (by omega) (Nat.lt_trans t8 (by rw [hdl]; exact hd2))
  rw [htk, q1, q2] at E
  have hcmp : ¬ cmpN (Bn.nv a) (Bn.nv b) < 0 := by
    unfold cmpN
    rw [if_neg (by omega)]
    split <;> decide
  have w1 : wrap64 ((b.length : Int) - 1) = (n : Int) := (w64 (by omega) (by omega)).trans (by omega)
  have w2 : wrap64 ((wrap64 ((a.length : Int) - (b.length : Int))) + 1) = (m : Int) := by
    rw [w64 (n := (a.length : Int) - (b.length : Int)) (by omega) (by omega)]
    exact (w64 (by omega) (by omega)).trans (by omega)
  have w3 : wrap64 ((d.length : Int) - 1) = (n : Int) := (w64 (by omega) (by omega)).trans (by omega)
  have w4 : wrap64 ((d.length : Int) - 2) = ((n - 1 : Nat) : Int) := (w64 (by omega) (by omega)).trans (by omega)
  have w5 : wrap64 ((m : Int) - 1) = (m : Int) - 1 := w64 (by omega) (by omega)
  have x1 : IntKind.u64.wrap (tp : Int) = (tp : Int) := u64N (by omega)
  have x2 : IntKind.u64.wrap (sc : Int) = (sc : Int) := u64N (by omega)
  have c1 : (n : Int) < (b.length : Int) := by omega
  have c2 : (b.length : Int) ≤ (O.length : Int) := by omega
  have c3 : m ≤ 70368744177664 := by omega
  have c4 : (n : Int) < (d.length : Int) := by omega
  have c5 : ((n - 1 : Nat) : Int) < (d.length : Int) := by omega
  have c6 : ¬ (b.length : Int) = 1 := by omega
  have f1 := Compare_f ha.1 hb.1 (k := k) (by omega)
  rw [va, vb] at f1
  have hd' : O.take b.length = d := by rw [hn]; exact hd
  conv => lhs; rw [bignat_DivMod.j0]
  rw [if_neg (show ¬ (false = true) by decide), f1, Option.bind_some, if_neg hcmp, if_neg c6, w1, if_pos (Int.natCast_nonneg _), if_pos c1, ht, hs, Option.bind_some, o1, Option.bind_some, if_pos (Int.natCast_nonneg _), if_pos c2, Int.toNat_natCast, hd', Option.bind_some, u1, Option.bind_some, w2, if_pos (Int.natCast_nonneg _), Int.toNat_natCast, if_pos c3, Option.bind_some, w3, if_pos (Int.natCast_nonneg _), if_pos c4, w4, if_pos (Int.natCast_nonneg _), if_pos c5, ht2, hc2, x1, x2, List.length_replicate, w5, t1, E]
theorem DivMod_j0 {a b : List Int} (ha : Bn.Nrm a) (hb : Bn.Nrm b) (hla : a.length ≤ 128) (hlb : b.length ≤ 128) (h1 : b ≠ []) {k : Nat} (hk : 4000 ≤ k) : bignat_DivMod.j0 (k + 1) a b false = some (Bn.limbs (Bn.nv a / Bn.nv b), Bn.limbs (Bn.nv a % Bn.nv b), 0) := by
  have va := vv_valid ((validB_iff ha.1).2 ⟨ha, hla⟩)
  have vb := vv_valid ((validB_iff hb.1).2 ⟨hb, hlb⟩)
  have f1 := Compare_f ha.1 hb.1 (k := k) (by omega)
  rw [va, vb] at f1
  have hl : 0 < b.length := List.length_pos_iff.2 h1
  by_cases hlt : Bn.nv a < Bn.nv b
  · conv => lhs; rw [bignat_DivMod.j0]
    rw [if_neg (show ¬ (false = true) by decide), f1, Option.bind_some, cmpN_lt hlt, if_pos (by decide), api_Nat_uint32.f, if_pos (by omega), Option.bind_some, trimmed_f ha.1 (by omega) (by omega), Option.bind_some, Nat.div_eq_of_lt hlt, Nat.mod_eq_of_lt hlt, Bn.limbs_zero]
  · by_cases h2 : b.length = 1
    · obtain ⟨x, hx⟩ := List.length_eq_one_iff.1 h2
      obtain ⟨x', hx2, hx3⟩ : ∃ n : Nat, x = (n : Int) ∧ n < 4294967296 := by
        have := hb.1 x (by rw [hx]; simp)
        exact ⟨x.toNat, by omega, by omega⟩
      subst hx2
      have hnb : Bn.nv b = x' := by rw [hx]; simp [Bn.nv]
      have hx0 : 0 < x' := by
        rcases Nat.eq_zero_or_pos (Bn.nv b) with h | h
        · exact absurd ((Bn.nv_zero hb).1 h) h1
        · omega
      have hrd : rd b 0 = (x' : Int) := by rw [hx]; rfl
      have hcmp : ¬ cmpN (Bn.nv a) (Bn.nv b) < 0 := by
        unfold cmpN
        rw [if_neg hlt]
        split <;> decide
      have e1 := byLimb_f ha.1 (by omega) hx0 hx3 (k := k) (by omega)
      have hr : Bn.nv a % x' < x' := Nat.mod_lt _ hx0
      have e2 : IntKind.u64.wrap ((Bn.nv a % x' : Nat) : Int) = ((Bn.nv a % x' : Nat) : Int) := u64N (by omega)
      have e3 := FromUint_f (n := ((Bn.nv a % x' : Nat) : Int)) (Int.natCast_nonneg _) (by omega) (k := k) (by omega)
      rw [Int.toNat_natCast] at e3
      rw [← hnb] at e1 e2 e3
      have c1 : (b.length : Int) = 1 := by omega
      have c2 : 0 < (b.length : Int) := by omega
      conv => lhs; rw [bignat_DivMod.j0]
      rw [if_neg (show ¬ (false = true) by decide), f1, Option.bind_some, if_neg hcmp, if_pos c1, if_pos c2, hrd, ← hnb, e1, Option.bind_some, e2, e3, Option.bind_some]
    · exact div_long ha hb hla hlb (by omega) (by omega) hk
/-- what DivMod answers -/
def divB (a b : List Int) : List Int × List Int × Int := if validB a = true ∧ validB b = true ∧ b ≠ [] then (Bn.limbs (Bn.nv a / Bn.nv b), Bn.limbs (Bn.nv a % Bn.nv b), 0) else ([], [], 1)
theorem DivMod_f {a b : List Int} (ha : Bn.Limbs a) (hb : Bn.Limbs b) {k : Nat} (hk : 4001 ≤ k) : bignat_DivMod.f k a b = some (divB a b) := by
  obtain ⟨k, rfl⟩ : ∃ j, k = j + 1 := ⟨k - 1, by omega⟩
  have bad : bignat_DivMod.j0 (k + 1) a b true = some ([], [], 1) := by
    conv => lhs; rw [bignat_DivMod.j0]
    rw [if_pos rfl]
  unfold bignat_DivMod.f divB
  rw [Valid_f, Option.bind_some]
  by_cases h1 : validB a = true
  · rw [if_pos h1, Valid_f, Option.bind_some]
    by_cases h2 : validB b = true
    · rw [if_pos h2]
      obtain ⟨na, la⟩ := (validB_iff ha).1 h1
      obtain ⟨nb, lb⟩ := (validB_iff hb).1 h2
      by_cases h3 : b = []
      · rw [if_neg (by rintro ⟨-, -, h⟩; exact h h3), ← bad, h3]
        rfl
      · have hl : 0 < b.length := List.length_pos_iff.2 h3
        rw [if_pos ⟨h1, h2, h3⟩, show ((b.length : Int) == 0) = false by rw [beq_eq_false_iff_ne]; omega]
        exact DivMod_j0 na nb la lb h3 (by omega)
    · rw [if_neg h2, bad, if_neg (by rintro ⟨-, h, -⟩; exact h2 h)]
  · rw [if_neg h1, bad, if_neg (by rintro ⟨h, -, -⟩; exact h1 h)]
theorem gcd_l0 : ∀ (j k : Nat) (x y : List Int), Bn.Nrm x → Bn.Nrm y → x.length ≤ 128 → y.length ≤ 128 → Bn.nv y ≤ Bn.nv x → Bn.nv x * Bn.nv y < 2 ^ j → j + 4002 ≤ k → bignat_GCD.l0 k x y = some (Bn.limbs (Nat.gcd (Bn.nv x) (Bn.nv y))) := by
  intro j
  induction j with
  | zero =>
    intro k x y hx hy hlx hly hle hp hk
    obtain ⟨k, rfl⟩ : ∃ j, k = j + 1 := ⟨k - 1, by omega⟩
    have hy0 : Bn.nv y = 0 := by
      rcases Nat.eq_zero_or_pos (Bn.nv y) with h | h
      · exact h
      · have : 1 * 1 ≤ Bn.nv x * Bn.nv y := Nat.mul_le_mul (by omega) h
        rw [Nat.pow_zero] at hp
        omega
    have hy1 := (Bn.nv_zero hy).1 hy0
    subst hy1
    conv => lhs; rw [bignat_GCD.l0]
    rw [if_neg (by decide), hy0, Nat.gcd_zero_right, hx.2]
  | succ j ih =>
    intro k x y hx hy hlx hly hle hp hk
    obtain ⟨k, rfl⟩ : ∃ j, k = j + 1 := ⟨k - 1, by omega⟩
    by_cases hy1 : y = []
    · subst hy1
      conv => lhs; rw [bignat_GCD.l0]
      rw [if_neg (by decide), (Bn.nv_zero hy).2 rfl, Nat.gcd_zero_right, hx.2]
    · have hl : 0 < y.length := List.length_pos_iff.2 hy1
      have hy0 : 0 < Bn.nv y := by
        rcases Nat.eq_zero_or_pos (Bn.nv y) with h | h
        · exact absurd ((Bn.nv_zero hy).1 h) hy1
        · exact h
      have e := DivMod_f hx.1 hy.1 (k := k) (by omega)
      unfold divB at e
      rw [if_pos ⟨(validB_iff hx.1).2 ⟨hx, hlx⟩, (validB_iff hy.1).2 ⟨hy, hly⟩, hy1⟩] at e
      have hc : (y.length : Int) > 0 := by omega
      have hml := Nat.mod_lt (Bn.nv x) hy0
      have hdm := Nat.div_add_mod (Bn.nv x) (Bn.nv y)
      have hq : 1 ≤ Bn.nv x / Bn.nv y := (Nat.le_div_iff_mul_le hy0).2 (by omega)
      have hge : Bn.nv y * 1 ≤ Bn.nv y * (Bn.nv x / Bn.nv y) := Nat.mul_le_mul_left _ hq
      have hstep : Bn.nv y * (Bn.nv x % Bn.nv y) < 2 ^ j := by
        have h1 : Bn.nv y * (2 * (Bn.nv x % Bn.nv y)) ≤ Bn.nv y * Bn.nv x := Nat.mul_le_mul_left _ (by omega)
        rw [Nat.mul_left_comm] at h1
        rw [Nat.mul_comm (Bn.nv x), Nat.pow_succ] at hp
        omega
      have r := ih k y (Bn.limbs (Bn.nv x % Bn.nv y)) hy (Bn.nrm_limbs _) hly (Nat.le_trans (limbs_le hy.1 (by omega)) hly) (by rw [Bn.nv_limbs]; omega) (by rw [Bn.nv_limbs]; exact hstep) (by omega)
      conv => lhs; rw [bignat_GCD.l0]
      rw [if_pos hc, e, Option.bind_some]
      rw [Bn.nv_limbs] at r
      rw [r, Nat.gcd_comm (Bn.nv y), ← Nat.gcd_rec, Nat.gcd_comm]
theorem ozB_nrm {l : List Int} (h : Bn.Limbs l) : Bn.Nrm (ozB l) ∧ (ozB l).length ≤ 128 := by
  unfold ozB
  by_cases hv : validB l = true
  · rw [if_pos hv]
    exact (validB_iff h).1 hv
  · rw [if_neg hv]
    exact ⟨Bn.nrm_nil, by decide⟩
theorem GCD_f {a b : List Int} (ha : Bn.Limbs a) (hb : Bn.Limbs b) {k : Nat} (hk : 12200 ≤ k) : bignat_GCD.f k a b = some (Bn.limbs (Nat.gcd (vv a) (vv b))) := by
  obtain ⟨na, la⟩ := ozB_nrm ha
  obtain ⟨nb, lb⟩ := ozB_nrm hb
  unfold bignat_GCD.f
  rw [orZero_f, Option.bind_some, api_Nat_uint32.f, if_pos (by omega), Option.bind_some, orZero_f, Option.bind_some, api_Nat_uint32.f, if_pos (by omega), Option.bind_some]
  unfold vv
  generalize ozB a = x at *
  generalize ozB b = y at *
  have pw : ∀ z : List Int, Bn.Limbs z → z.length ≤ 128 → Bn.nv z < 2 ^ 4096 := by
    intro z hz hl
    have h := Bn.nv_lt hz
    have h2 : 4294967296 ^ z.length ≤ 4294967296 ^ 128 := Nat.pow_le_pow_right (by decide) hl
    rw [show (2 : Nat) ^ 4096 = 4294967296 ^ 128 by rw [show (4294967296 : Nat) = 2 ^ 32 by decide, ← Nat.pow_mul]]
    exact Nat.lt_of_lt_of_le h h2
  have hx := pw x na.1 la
  have hy := pw y nb.1 lb
  have hxy : Bn.nv x * Bn.nv y < 2 ^ 8192 := by
    rw [show (2 : Nat) ^ 8192 = 2 ^ 4096 * 2 ^ 4096 by rw [← Nat.pow_add]]
    exact Nat.mul_lt_mul'' hx hy
  by_cases hle : Bn.nv y ≤ Bn.nv x
  · exact gcd_l0 8192 k x y na nb la lb hle hxy (by omega)
  · obtain ⟨k, rfl⟩ : ∃ j, k = j + 1 := ⟨k - 1, by omega⟩
    have hy1 : y ≠ [] := fun h => by
      rw [h] at hle
      exact hle (Nat.zero_le _)
    have hl : 0 < y.length := List.length_pos_iff.2 hy1
    have hc : (y.length : Int) > 0 := by omega
    have e := DivMod_f na.1 nb.1 (k := k) (by omega)
    unfold divB at e
    rw [if_pos ⟨(validB_iff na.1).2 ⟨na, la⟩, (validB_iff nb.1).2 ⟨nb, lb⟩, hy1⟩, Nat.mod_eq_of_lt (by omega), na.2] at e
    rw [Nat.mul_comm] at hxy
    have r := gcd_l0 8192 k y x nb na lb la (by omega) hxy (by omega)
    conv => lhs; rw [bignat_GCD.l0]
    rw [if_pos hc, e, Option.bind_some]
    rw [r, Nat.gcd_comm]
end Go.Proofs.YtoakfjcejamoeaaDoor.B
