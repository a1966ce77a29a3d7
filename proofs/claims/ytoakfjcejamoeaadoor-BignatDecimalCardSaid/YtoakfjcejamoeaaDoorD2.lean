/- A part of the proofs of the rational laws. -/
import Derived.Test.YtoakfjcejamoeaaDoorD1
import Derived.Test.YtoakfjcejamoeaaDoorL2
namespace Go.Proofs.YtoakfjcejamoeaaDoor.B
open Go.RowKit Go.Proofs.YtoakfjcejamoeaaDoorW.PrintWords Go.Proofs.YtoakfjcejamoeaaDoorW.PrintLast Go.Proofs.YtoakfjcejamoeaaDoorW.PrintMore
set_option exponentiation.threshold 8200
set_option linter.unusedVariables false
set_option linter.unusedSimpArgs false
/-- A row and an error number are returned. -/
def Rw2 (n : List Int) (ec : Int) (w : World) (e : Ending) (w' : World) : Prop := ∃ A c, e = .returned (.tuple #[.slice A n.length c, .int .i64 ec]) ∧ Kd.C (Kd.int .u32) w' A n.length n ∧ n.length ≤ c ∧ Below w.heap.size w w'
/-- A row is returned. -/
def Rw1 (n : List Int) (w : World) (e : Ending) (w' : World) : Prop := ∃ A c, e = .returned (.slice A n.length c) ∧ Kd.C (Kd.int .u32) w' A n.length n ∧ n.length ≤ c ∧ Below w.heap.size w w'

theorem big_len {V : Nat} (h : V < 10 ^ 320) : (Bn.limbs V).length ≤ 40 := (Bn.limbs_len _ _).2 (Nat.lt_of_lt_of_le h (Nat.le_of_ble_eq_true rfl))
theorem big_valid {V : Nat} (h : V < 10 ^ 320) : validB (Bn.limbs V) = true := validB_limbs (by have := big_len h; omega)
/-- A chunk of digits is taken up. -/
theorem chunk_step {V v D : Nat} (hD : D = 1000000000) (hV : V < 10 ^ 300) (hv : v < 10 ^ 9) :
  bignat_FromUint.f 10 (D : Int) = some (Bn.limbs D) ∧ bignat_Mul.f 1000 (Bn.limbs V) (Bn.limbs D) = some (Bn.limbs (V * D), 0) ∧ bignat_FromUint.f 10 (v : Int) = some (Bn.limbs v) ∧ bignat_Add.f (Bn.limbs (V * D)) (Bn.limbs v) = some (Bn.limbs (V * D + v), 0) := by
 have e9 : (10 : Nat) ^ 9 = 1000000000 := by decide
 have hD9 : D < 10 ^ 10 := by rw [hD]; decide
 have hVD : V * D < 10 ^ 310 := by
  rw [show (310 : Nat) = 300 + 10 from rfl, Nat.pow_add]
  exact Nat.mul_lt_mul'' hV hD9
 have p1 : (10 : Nat) ^ 10 ≤ 10 ^ 310 := Nat.pow_le_pow_right (by decide) (by decide)
 have p2 : (10 : Nat) ^ 9 ≤ 10 ^ 10 := Nat.pow_le_pow_right (by decide) (by decide)
 have p3 : (10 : Nat) ^ 310 + 10 ^ 310 ≤ 10 ^ 320 := Nat.le_of_ble_eq_true rfl
 have p4 : (10 : Nat) ^ 300 ≤ 10 ^ 310 := Nat.pow_le_pow_right (by decide) (by decide)
 have b1 : V < 10 ^ 320 := by omega
 have b2 : V * D < 10 ^ 320 := by omega
 have b3 : D < 10 ^ 320 := by omega
 have b4 : v < 10 ^ 320 := by omega
 have b5 : V * D + v < 10 ^ 320 := by omega
 have lD : (Bn.limbs D).length ≤ 2 := (Bn.limbs_len _ _).2 (Nat.lt_trans hD9 (by decide))
 have lv : (Bn.limbs v).length ≤ 2 := (Bn.limbs_len _ _).2 (Nat.lt_of_lt_of_le hv (by decide))
 refine ⟨?_, ?_, ?_, ?_⟩
 ·have := FromUint_f (n := (D : Int)) (by omega) (by omega) (k := 10) (by decide)
  rwa [Int.toNat_natCast] at this
 ·rw [Mul_f (Bn.limbs_limbs _) (Bn.limbs_limbs _) (by have := big_len b1; omega) (by have := Nat.mul_le_mul (big_len b1) (show (Bn.limbs D).length + 2 ≤ 4 by omega); have := big_len b1; omega), big_valid b1, big_valid b3, Bn.nv_limbs, Bn.nv_limbs]
  unfold fitB
  rw [if_pos (by rfl), if_neg (by have := big_len b2; omega)]
 ·have := FromUint_f (n := (v : Int)) (by omega) (by omega) (k := 10) (by decide)
  rwa [Int.toNat_natCast] at this
 ·unfold bignat_Add.f
  rw [okL_mk (Bn.limbs_limbs _) (by have := big_len b2; omega), okL_mk (Bn.limbs_limbs _) (by omega), big_valid b2, big_valid b4, Bn.nv_limbs, Bn.nv_limbs]
  unfold fitB
  rw [if_pos (by rfl), if_pos (by rfl), if_neg (by have := big_len b5; omega)]

theorem Rw2.intro {n : List Int} {ec : Int} {w : World} {e : Ending} {w' : World} (h : ∃ A c, e = .returned (.tuple #[.slice A n.length c, .int .i64 ec]) ∧ Kd.C (Kd.int .u32) w' A n.length n ∧ n.length ≤ c ∧ Below w.heap.size w w') : Rw2 n ec w e w' := h
theorem cut_take (m : List UInt8) (k : Nat) : (⟨m.toArray⟩ : ByteArray).extract 0 k = ⟨(m.take k).toArray⟩ := by
 apply ByteArray.ext
 simp
theorem cut_drop (m : List UInt8) (k : Nat) : (⟨m.toArray⟩ : ByteArray).extract k m.length = ⟨(m.drop k).toArray⟩ := by
 apply ByteArray.ext
 simp
 exact List.take_of_length_le (by simp)
theorem any_part {l : List UInt8} (h : l.any oddB = false) (k : Nat) : (l.take k).any oddB = false := by
 rw [List.any_eq_false] at *
 exact fun x hx => h x (List.mem_of_mem_take hx)
theorem any_part_drop {l : List UInt8} (h : l.any oddB = false) (k : Nat) : (l.drop k).any oddB = false := by
 rw [List.any_eq_false] at *
 exact fun x hx => h x (List.mem_of_mem_drop hx)
/-- What a round of Parse reckons. -/
theorem chunk_facts {l m : List UInt8} {p k : Nat} {x : List Int} (hs : l.length ≤ 300) (ho : l.any oddB = false) (hp : p ≤ l.length) (hm : m = l.drop p) (h9 : p = 0 ∨ m.length % 9 = 0) (hk : 1 ≤ k ∧ k ≤ m.length ∧ k ≤ 9 ∧ (m.length - k) % 9 = 0 ∧ (m.length % 9 = 0 → k = 9)) (hx : x = Bn.limbs (dvalA 0 (l.take p))) :
  ∃ (T : List Int) (V v : Nat), v = dvalA 0 (m.take k) ∧ bignat_FromUint.f 10 1000000000 = some T ∧ bignat_Mul.f 1000 x T = some (Bn.limbs V, 0) ∧ bignat_FromUint.f 10 (v : Int) = some (Bn.limbs v) ∧ bignat_Add.f (Bn.limbs V) (Bn.limbs v) = some (Bn.limbs (V + v), 0) ∧ V + v = dvalA 0 (l.take (p + k)) := by
 have e9 : (10 : Nat) ^ 9 = 1000000000 := by decide
 obtain ⟨D, hD⟩ : ∃ D : Nat, D = 1000000000 := ⟨_, rfl⟩
 have hlt := dvalA_lt (any_part ho p)
 have hlv := dvalA_lt (any_part (any_part_drop ho p) k)
 rw [← hm] at hlv
 have hV : dvalA 0 (l.take p) < 10 ^ 300 := Nat.lt_of_lt_of_le hlt (Nat.pow_le_pow_right (by decide) (by rw [List.length_take]; omega))
 have hv : dvalA 0 (m.take k) < 10 ^ 9 := Nat.lt_of_lt_of_le hlv (Nat.pow_le_pow_right (by decide) (by rw [List.length_take]; omega))
 obtain ⟨c1, c2, c3, c4⟩ := chunk_step hD hV hv
 rw [← hx] at c2
 have hDi : ((D : Nat) : Int) = 1000000000 := by omega
 rw [hDi] at c1
 refine ⟨Bn.limbs D, dvalA 0 (l.take p) * D, _, rfl, c1, c2, c3, c4, ?_⟩
 rw [List.take_add, dvalA_append, ← hm, dvalA_lin (m.take k) (dvalA 0 (l.take p)), List.length_take, Nat.min_eq_left hk.2.1]
 rcases h9 with h0 | h0
 ·rw [h0, List.take_zero, dvalA_nil, Nat.zero_mul, Nat.zero_mul]
 ·rw [hk.2.2.2.2 h0, e9, hD]

theorem chunk_k {m : List UInt8} (h0 : 0 < m.length) (hs : m.length ≤ 300) : ∃ k : Nat, 1 ≤ k ∧ k ≤ m.length ∧ k ≤ 9 ∧ ((m.length - k) % 9 = 0 ∧ (m.length % 9 = 0 → k = 9)) ∧ min (m.length : Int) (wrap64 ((wrap64 ((m.length : Int) - 1)).tmod 9 + 1)) = (k : Int) := by
 obtain ⟨n, hn⟩ : ∃ n, m.length = n + 1 := ⟨m.length - 1, by omega⟩
 refine ⟨n % 9 + 1, by omega, by omega, by omega, by omega, ?_⟩
 rw [hn]
 have e1 : (((n + 1 : Nat) : Int) - 1) = (n : Int) := by omega
 have e2 : wrap64 (n : Int) = n := w64 (by omega) (by omega)
 have e3 : ((n : Int)).tmod 9 = ((n % 9 : Nat) : Int) := by
  rw [Int.tmod_eq_emod_of_nonneg (by omega)]
  omega
 rw [e1, e2, e3, w64 (by omega) (by omega)]
 omega
theorem nilC0 (w : World) : Kd.C (Kd.int .u32) w none 0 ([] : List Int) := Kd.C_of_reads (d := (0 : Int)) (h1 := fun _ => rfl) ⟨rfl, by omega, fun h => absurd h (by omega)⟩
theorem bsize (l : List UInt8) : (⟨l.toArray⟩ : ByteArray).size = l.length := by simp [ByteArray.size]
set_option maxHeartbeats 16000000 in
set_option maxRecDepth 100000 in
/-- Parse: a text that it takes. -/
theorem parse_ok (l : List UInt8) (hs : l.length ≤ 300) (ht : textB l = true) (n : List Int) (hn : n = Bn.limbs (dvalA 0 l)) (w : World) :
  Calls Tryd.prog 68 #[.string ⟨l.toArray⟩] w fun e w' => Rw2 n 0 w e w' := by
 have HB := Aside0.mk (Below.refl w.heap.size w)
 have hT : l ≠ [] ∧ l.any oddB = false ∧ ¬ (1 < l.length ∧ l.head? = some 48) := by
  unfold textB at ht
  rw [Bool.not_eq_true', Bool.or_eq_false_iff, Bool.or_eq_false_iff] at ht
  refine ⟨by intro e; rw [e] at ht; simp at ht, ht.1.2, ?_⟩
  rintro ⟨h1, h2⟩
  have := ht.2
  rw [h2, decide_eq_true h1] at this
  simp at this
 obtain ⟨h0, ho, hz⟩ := hT
 have he : l.isEmpty = false := by cases l with | nil => exact absurd rfl h0 | cons x y => rfl
 have ho_ := Aside0.mk ho
 have hs_ := Aside0.mk hs
 have hn_ := Aside0.mk hn
 have hz_ := Aside0.mk hz
 clear ho hn ht hz hs
 go_enter Tryd.func68, Tryd.ntmps68
 go_wp2_with fail
 refine (containsFunc_calls _ false ho_.out w).mono ?_
 rintro e wa1 ⟨rfl, hb_⟩
 replace HB := Aside0.mk (below_step HB.out hb_)
 clear hb_
 by_cases h1 : 1 < l.length
 ·have hp : 0 < l.length := by omega
  go_wp2_with fail
  ·rename_i hbad
   exfalso
   refine hz_.out ⟨h1, ?_⟩
   cases l with
   | nil => simp at hp
   | cons x y =>
    have h2 : (x.toNat : Int) = 48 := by
     have h4 : ((x.toNat : Int) == 48) = true := hbad
     simpa using h4
    have h3 : x = 48 := UInt8.toNat_inj.1 (show x.toNat = 48 by omega)
    rw [h3]
    rfl
  ·rename_i hc_ K_ hK_
   clear hc_
   go_loopg [0, 5] l.length (fun kq v0 v5 w' => ∃ (p : Nat) (m : List UInt8) (x : List Int) (A : Option Addr) (c : Nat), v0 = .string ⟨m.toArray⟩ ∧ v5 = .slice A x.length c ∧ Aside0 (p ≤ l.length ∧ m = l.drop p ∧ kq = m.length ∧ (p = 0 ∨ m.length % 9 = 0)) ∧ Aside0 (x = Bn.limbs (dvalA 0 (l.take p))) ∧ Aside0 (Kd.C (Kd.int .u32) w' A x.length x) ∧ Aside0 (x.length ≤ c) ∧ Aside0 (Below w.heap.size w w'))
   case atStart => exact ⟨0, l, [], none, 0, rfl, rfl, ⟨Nat.zero_le _, rfl, rfl, Or.inl rfl⟩, ⟨(Bn.limbs_zero).symm⟩, ⟨nilC0 _⟩, ⟨Nat.le_refl _⟩, HB⟩
   case round =>
    clear HB
    obtain ⟨p, m, x, A, c, rfl, rfl, hk, hx, hC, hH, HB⟩ := hrel
    by_cases hm : m = []
    ·have hme : m.isEmpty = true := by rw [hm]; rfl
     have hxn : x = n := by
      have hp2 : l.length ≤ p := by
       have := hk.out.2.1
       rw [hm] at this
       exact List.drop_eq_nil_iff.1 this.symm
      rw [hx.out, hn_.out, List.take_of_length_le hp2]
     subst hxn
     go_wp2_with fail
     go_ret2
     exact Rw2.intro ⟨_, _, rfl, hC.out, hH.out, HB.out⟩
    ·have hme : m.isEmpty = false := by cases m with | nil => exact absurd rfl hm | cons x y => rfl
     obtain ⟨k, k1, k2, k9, kk, hkm⟩ := chunk_k (m := m) (List.length_pos_iff.2 hm) (by rw [hk.out.2.1, List.length_drop]; have := hs_.out; omega)
     have hK := Aside0.mk (show 1 ≤ k ∧ k ≤ m.length ∧ k ≤ 9 ∧ (m.length - k) % 9 = 0 ∧ (m.length % 9 = 0 → k = 9) from ⟨k1, k2, k9, kk⟩)
     have k2' : (k : Int) ≤ (m.length : Int) := by omega
     have hoT : (m.take k).any oddB = false := by
      rw [hk.out.2.1]
      exact any_part (any_part_drop ho_.out _) _
     have hX := Aside0.mk (chunk_facts hs_.out ho_.out hk.out.1 hk.out.2.1 hk.out.2.2.2 hK.out hx.out)
     obtain ⟨T, V, v, hv, hF, hM, hFv, hA, hvv⟩ := hX.out
     have hT := Aside0.mk hoT
     have hv_ := Aside0.mk hv
     have hF_ := Aside0.mk hF
     have hM_ := Aside0.mk hM
     have hFv_ := Aside0.mk hFv
     have hA_ := Aside0.mk hA
     have hvv_ := Aside0.mk hvv
     clear k1 k9 kk hX hoT hv hF hM hFv hA hvv
     have hcut := cut_take m k
     have hcut2 := cut_drop m k
     go_wp2_with fail
     refine (parseUint_calls _ ?s0 ?s1 ?s2 v ?s3 wr).mono ?_
     case s0 =>
      rw [bsize, List.length_take]
      have := hK.out
      omega
     case s1 =>
      rw [bsize, List.length_take]
      have := hK.out
      omega
     case s2 => exact hT.out
     case s3 => exact hv_.out
     rintro e wb1 ⟨rfl, hb_⟩
     replace HB := Aside0.mk (below_step HB.out hb_)
     replace hC := Aside0.mk (Kd.C_below hC.out hb_)
     clear hb_
     go_wp2_with fail
     refine (bignat_FromUint.calls 10 _ T wb1 hF_.out).mono ?_
     rintro e wb2 ⟨v_, rfl, hr_, hb_⟩
     replace HB := Aside0.mk (below_step HB.out hb_)
     replace hC := Aside0.mk (Kd.C_below hC.out hb_)
     obtain ⟨At, ct, rfl⟩ := Kd.R_slice hr_
     have Ct := Aside0.mk (Kd.R_reads' hr_).2.2
     have Ht := Aside0.mk (show T.length ≤ ct from (Kd.R_reads' hr_).2.1)
     clear hr_ hb_
     go_wp2_with fail
     refine (bignat_Mul.calls 1000 A c x At ct T (Bn.limbs V) 0 wb2 hC.out hH.out Ct.out Ht.out hM_.out).mono ?_
     rintro e wb3 ⟨v_, rfl, hr_, hb_⟩
     replace HB := Aside0.mk (below_step HB.out hb_)
     obtain ⟨As, cs, rfl⟩ := Kd.R_slice hr_
     have Cs := Aside0.mk (Kd.R_reads' hr_).2.2
     have Hs := Aside0.mk (show (Bn.limbs V).length ≤ cs from (Kd.R_reads' hr_).2.1)
     clear hr_ hb_ Ct Ht hC hH
     go_wp2_with fail
     refine (bignat_FromUint.calls 10 _ (Bn.limbs v) wb3 hFv_.out).mono ?_
     rintro e wb4 ⟨v_, rfl, hr_, hb_⟩
     replace HB := Aside0.mk (below_step HB.out hb_)
     replace Cs := Aside0.mk (Kd.C_below Cs.out hb_)
     obtain ⟨Av, cv, rfl⟩ := Kd.R_slice hr_
     have Cv := Aside0.mk (Kd.R_reads' hr_).2.2
     have Hv := Aside0.mk (show (Bn.limbs v).length ≤ cv from (Kd.R_reads' hr_).2.1)
     clear hr_ hb_
     go_wp2_with fail
     refine (bignat_Add.calls As cs (Bn.limbs V) Av cv (Bn.limbs v) (Bn.limbs (V + v)) 0 wb4 Cs.out Hs.out Cv.out Hv.out hA_.out).mono ?_
     rintro e wb5 ⟨v_, rfl, hr_, hb_⟩
     replace HB := Aside0.mk (below_step HB.out hb_)
     obtain ⟨Ax, cx, rfl⟩ := Kd.R_slice hr_
     have Cx := Aside0.mk (Kd.R_reads' hr_).2.2
     have Hx := Aside0.mk (show (Bn.limbs (V + v)).length ≤ cx from (Kd.R_reads' hr_).2.1)
     clear hr_ hb_ Cs Hs Cv Hv
     go_wp2_with fail
     clear hkm hcut hcut2
     go_roundg (m.length - k)
     case rel => exact ⟨p + k, m.drop k, Bn.limbs (V + v), Ax, cx, rfl, rfl, ⟨by have h1 := hK.out; have h2 := hk.out; have e : m.length = l.length - p := (congrArg List.length h2.2.1).trans List.length_drop; omega, by rw [hk.out.2.1, List.drop_drop], by rw [List.length_drop], Or.inr (by rw [List.length_drop]; exact hK.out.2.2.2.1)⟩, ⟨congrArg Bn.limbs hvv_.out⟩, Cx, Hx, HB⟩
     case measure =>
      have := hK.out
      have := hk.out
      omega
 ·have hz2 : ¬ ((1 : Int) < (l.length : Int)) := by omega
  go_wp2_with fail
  go_loopg [0, 5] l.length (fun kq v0 v5 w' => ∃ (p : Nat) (m : List UInt8) (x : List Int) (A : Option Addr) (c : Nat), v0 = .string ⟨m.toArray⟩ ∧ v5 = .slice A x.length c ∧ Aside0 (p ≤ l.length ∧ m = l.drop p ∧ kq = m.length ∧ (p = 0 ∨ m.length % 9 = 0)) ∧ Aside0 (x = Bn.limbs (dvalA 0 (l.take p))) ∧ Aside0 (Kd.C (Kd.int .u32) w' A x.length x) ∧ Aside0 (x.length ≤ c) ∧ Aside0 (Below w.heap.size w w'))
  case atStart => exact ⟨0, l, [], none, 0, rfl, rfl, ⟨Nat.zero_le _, rfl, rfl, Or.inl rfl⟩, ⟨(Bn.limbs_zero).symm⟩, ⟨nilC0 _⟩, ⟨Nat.le_refl _⟩, HB⟩
  case round =>
   clear HB
   obtain ⟨p, m, x, A, c, rfl, rfl, hk, hx, hC, hH, HB⟩ := hrel
   by_cases hm : m = []
   ·have hme : m.isEmpty = true := by rw [hm]; rfl
    have hxn : x = n := by
     have hp2 : l.length ≤ p := by
      have := hk.out.2.1
      rw [hm] at this
      exact List.drop_eq_nil_iff.1 this.symm
     rw [hx.out, hn_.out, List.take_of_length_le hp2]
    subst hxn
    go_wp2_with fail
    go_ret2
    exact Rw2.intro ⟨_, _, rfl, hC.out, hH.out, HB.out⟩
   ·have hme : m.isEmpty = false := by cases m with | nil => exact absurd rfl hm | cons x y => rfl
    obtain ⟨k, k1, k2, k9, kk, hkm⟩ := chunk_k (m := m) (List.length_pos_iff.2 hm) (by rw [hk.out.2.1, List.length_drop]; have := hs_.out; omega)
    have hK := Aside0.mk (show 1 ≤ k ∧ k ≤ m.length ∧ k ≤ 9 ∧ (m.length - k) % 9 = 0 ∧ (m.length % 9 = 0 → k = 9) from ⟨k1, k2, k9, kk⟩)
    have k2' : (k : Int) ≤ (m.length : Int) := by omega
    have hoT : (m.take k).any oddB = false := by
     rw [hk.out.2.1]
     exact any_part (any_part_drop ho_.out _) _
    have hX := Aside0.mk (chunk_facts hs_.out ho_.out hk.out.1 hk.out.2.1 hk.out.2.2.2 hK.out hx.out)
    obtain ⟨T, V, v, hv, hF, hM, hFv, hA, hvv⟩ := hX.out
    have hT := Aside0.mk hoT
    have hv_ := Aside0.mk hv
    have hF_ := Aside0.mk hF
    have hM_ := Aside0.mk hM
    have hFv_ := Aside0.mk hFv
    have hA_ := Aside0.mk hA
    have hvv_ := Aside0.mk hvv
    clear k1 k9 kk hX hoT hv hF hM hFv hA hvv
    have hcut := cut_take m k
    have hcut2 := cut_drop m k
    go_wp2_with fail
    refine (parseUint_calls _ ?s0 ?s1 ?s2 v ?s3 wr).mono ?_
    case s0 =>
     rw [bsize, List.length_take]
     have := hK.out
     omega
    case s1 =>
     rw [bsize, List.length_take]
     have := hK.out
     omega
    case s2 => exact hT.out
    case s3 => exact hv_.out
    rintro e wb1 ⟨rfl, hb_⟩
    replace HB := Aside0.mk (below_step HB.out hb_)
    replace hC := Aside0.mk (Kd.C_below hC.out hb_)
    clear hb_
    go_wp2_with fail
    refine (bignat_FromUint.calls 10 _ T wb1 hF_.out).mono ?_
    rintro e wb2 ⟨v_, rfl, hr_, hb_⟩
    replace HB := Aside0.mk (below_step HB.out hb_)
    replace hC := Aside0.mk (Kd.C_below hC.out hb_)
    obtain ⟨At, ct, rfl⟩ := Kd.R_slice hr_
    have Ct := Aside0.mk (Kd.R_reads' hr_).2.2
    have Ht := Aside0.mk (show T.length ≤ ct from (Kd.R_reads' hr_).2.1)
    clear hr_ hb_
    go_wp2_with fail
    refine (bignat_Mul.calls 1000 A c x At ct T (Bn.limbs V) 0 wb2 hC.out hH.out Ct.out Ht.out hM_.out).mono ?_
    rintro e wb3 ⟨v_, rfl, hr_, hb_⟩
    replace HB := Aside0.mk (below_step HB.out hb_)
    obtain ⟨As, cs, rfl⟩ := Kd.R_slice hr_
    have Cs := Aside0.mk (Kd.R_reads' hr_).2.2
    have Hs := Aside0.mk (show (Bn.limbs V).length ≤ cs from (Kd.R_reads' hr_).2.1)
    clear hr_ hb_ Ct Ht hC hH
    go_wp2_with fail
    refine (bignat_FromUint.calls 10 _ (Bn.limbs v) wb3 hFv_.out).mono ?_
    rintro e wb4 ⟨v_, rfl, hr_, hb_⟩
    replace HB := Aside0.mk (below_step HB.out hb_)
    replace Cs := Aside0.mk (Kd.C_below Cs.out hb_)
    obtain ⟨Av, cv, rfl⟩ := Kd.R_slice hr_
    have Cv := Aside0.mk (Kd.R_reads' hr_).2.2
    have Hv := Aside0.mk (show (Bn.limbs v).length ≤ cv from (Kd.R_reads' hr_).2.1)
    clear hr_ hb_
    go_wp2_with fail
    refine (bignat_Add.calls As cs (Bn.limbs V) Av cv (Bn.limbs v) (Bn.limbs (V + v)) 0 wb4 Cs.out Hs.out Cv.out Hv.out hA_.out).mono ?_
    rintro e wb5 ⟨v_, rfl, hr_, hb_⟩
    replace HB := Aside0.mk (below_step HB.out hb_)
    obtain ⟨Ax, cx, rfl⟩ := Kd.R_slice hr_
    have Cx := Aside0.mk (Kd.R_reads' hr_).2.2
    have Hx := Aside0.mk (show (Bn.limbs (V + v)).length ≤ cx from (Kd.R_reads' hr_).2.1)
    clear hr_ hb_ Cs Hs Cv Hv
    go_wp2_with fail
    clear hkm hcut hcut2
    go_roundg (m.length - k)
    case rel => exact ⟨p + k, m.drop k, Bn.limbs (V + v), Ax, cx, rfl, rfl, ⟨by have h1 := hK.out; have h2 := hk.out; have e : m.length = l.length - p := (congrArg List.length h2.2.1).trans List.length_drop; omega, by rw [hk.out.2.1, List.drop_drop], by rw [List.length_drop], Or.inr (by rw [List.length_drop]; exact hK.out.2.2.2.1)⟩, ⟨congrArg Bn.limbs hvv_.out⟩, Cx, Hx, HB⟩
    case measure =>
     have := hK.out
     have := hk.out
     omega

end Go.Proofs.YtoakfjcejamoeaaDoor.B
