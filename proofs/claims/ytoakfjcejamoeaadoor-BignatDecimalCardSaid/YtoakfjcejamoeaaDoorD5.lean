/- A part of the proofs of the rational laws. -/
import Derived.Test.YtoakfjcejamoeaaDoorD4
import Derived.Test.YtoakfjcejamoeaaDoorBx9
import Derived.Test.YtoakfjcejamoeaaDoorBx10
import Derived.Test.YtoakfjcejamoeaaDoorBx7
import Derived.Test.YtoakfjcejamoeaaDoorL2
import Derived.Test.YtoakfjcejamoeaaDoorL5
namespace Go.Proofs.YtoakfjcejamoeaaDoor.B
open Go.RowKit Go.Proofs.YtoakfjcejamoeaaDoorW.PrintWords Go.Proofs.YtoakfjcejamoeaaDoorW.PrintLast Go.Proofs.YtoakfjcejamoeaaDoorW.PrintMore
set_option exponentiation.threshold 8200
set_option linter.unusedVariables false
set_option linter.unusedSimpArgs false
set_option maxHeartbeats 16000000 in
set_option maxRecDepth 100000 in
/-- The reference's FromUint. -/
theorem refFromUint_calls (n : Nat) (hn : n < 18446744073709551616) (w : World) :
  Calls Tryd.prog 35 #[.int .u64 (n : Int)] w fun e w' => ∃ A c, e = .returned (.slice A (Bn.limbs n).length c) ∧ Kd.C (Kd.int .u32) w' A (Bn.limbs n).length (Bn.limbs n) ∧ (Bn.limbs n).length ≤ c ∧ Below w.heap.size w w' := by
 have HB := Aside0.mk (Below.refl w.heap.size w)
 have hL : Bn.Limbs [(n : Int) % 4294967296, (n : Int) / 4294967296] := by
  refine Bn.Limbs.mk (by omega) (Bn.Limbs.mk (by omega) Bn.Limbs.nil)
 have ht := refTrim_f hL (by simp) (k := 3) (by simp)
 have hnv : Bn.nv [(n : Int) % 4294967296, (n : Int) / 4294967296] = n := by
  simp only [Bn.nv]
  omega
 rw [hnv] at ht
 have hT := Aside0.mk ht
 clear hL ht hnv
 go_enter Tryd.func35, Tryd.ntmps35
 go_wp2_with ((with_reducible refine gate_dst (N := 9) rfl ?_); (try (refine gate_guard (by rfl) ?_; dsimp only)); refine lit_event ?hg (N := 9) ?hd [(n : Int) % 4294967296, (n : Int) / 4294967296] 2 rfl (by simp) ?hr ?_; (case hd => rfl); (case hg => rfl); (case hr => first | (go_simp; done) | (go_simp; rfl)); intro A9 wa1 hc_ hb_; have HB_ := Aside0.mk (below_step HB.out hb_); have C9 := Aside0.mk hc_; clear HB hb_ hc_; have HB := HB_; clear HB_)
 refine (lineageref03_trim.calls 3 (fun k => k < wa1.heap.size) A9 2 [(n : Int) % 4294967296, (n : Int) / 4294967296] _ wa1 (Kd.V_mk (e := 63) (base := wa1.heap.size) (ok := fun k => k < wa1.heap.size) (by simp) (Kd.C_F (Kd.heap_int .u32) C9.out)) hT.out).mono ?_
 rintro e wa2 ⟨v_, rfl, hV_, hb_⟩
 replace HB := Aside0.mk (below_step HB.out hb_)
 clear hb_
 obtain ⟨Ar, cr, rfl⟩ := Kd.V_slice hV_
 have Cr := Aside0.mk (Kd.V_reads' hV_).2.2
 have Hr := Aside0.mk (show (Bn.limbs n).length ≤ cr from (Kd.V_reads' hV_).2.1)
 clear hV_
 go_wp2_with fail
 go_ret
 exact ⟨_, _, rfl, Cr.out, Hr.out, HB.out⟩

theorem textB_parts {l : List UInt8} (ht : textB l = true) : l ≠ [] ∧ l.any oddB = false ∧ ¬ (1 < l.length ∧ l.head? = some 48) := by
 unfold textB at ht
 rw [Bool.not_eq_true', Bool.or_eq_false_iff, Bool.or_eq_false_iff] at ht
 refine ⟨by intro e; rw [e] at ht; simp at ht, ht.1.2, ?_⟩
 rintro ⟨h1, h2⟩
 have := ht.2
 rw [h2, decide_eq_true h1] at this
 simp at this
theorem digit_at {l : List UInt8} (ho : l.any oddB = false) {i : Nat} (hi : i < l.length) : 48 ≤ (({ data := l.toArray } : ByteArray)[i]'(by rw [bsize]; exact hi)).toNat ∧ (({ data := l.toArray } : ByteArray)[i]'(by rw [bsize]; exact hi)).toNat ≤ 57 := by
 have h2 : oddB (l[i]) = false := by
  rw [List.any_eq_false] at ho
  have := ho _ (List.getElem_mem hi)
  simpa using this
 exact oddB_false h2
theorem value3_ {P : Program} {ops : Array Oper} {Q : Exit → Act → World → Prop} {K : Act → World → Prop} {oi : Oper} {N : Option Tmp} {a : Act} {w w1 : World} {v : Value} (hw : Region.wanted oi (yielded ops a.tmps) = true) (hN : oi.dst = N) (hrun : (execOp a.eval oi).run P w = .ok (.value v) w1)
  (h : K (a.put N v) w1) : if Region.wanted oi (yielded ops a.tmps) = true then Oper.wp P oi a w K Q else K (a.put N undef) w := by
 rw [if_pos hw]
 unfold Oper.wp
 rw [hrun]
 show K (a.put oi.dst v) w1
 rw [hN]
 exact h
theorem nrm10 : Bn.Nrm [10] := by
 have h : Bn.limbs 10 = [10] := limbs_one (by decide) (by decide)
 rw [← h]
 exact Bn.nrm_limbs 10
theorem nv10 : Bn.nv [10] = 10 := by decide
/-- What a round of the reference's Parse reckons. -/
theorem dig_step {l : List UInt8} {i : Nat} {x : List Int} (hs : l.length ≤ 300) (ho : l.any oddB = false) (hi : i < l.length) (hx : x = Bn.limbs (dvalA 0 (l.take i))) :
  ∃ V d Z : Nat, d < 10 ∧ ((({ data := l.toArray } : ByteArray)[i]'(by rw [bsize]; exact hi)).toNat : Int) = (d : Int) + 48 ∧ lineageref03_Mul.f 5000 x [10] = some (Bn.limbs V) ∧ lineageref03_Add.f 500 (Bn.limbs V) (Bn.limbs d) = some (Bn.limbs Z) ∧ lineageref03_trim.f 500 (Bn.limbs Z) = some (Bn.limbs Z) ∧ Z = dvalA 0 (l.take (i + 1)) ∧ (Bn.limbs Z).length ≤ 128 := by
 have hlt := dvalA_lt (any_part ho i)
 have hV : dvalA 0 (l.take i) < 10 ^ 300 := Nat.lt_of_lt_of_le hlt (Nat.pow_le_pow_right (by decide) (by rw [List.length_take]; omega))
 obtain ⟨V, hVe⟩ : ∃ V, V = dvalA 0 (l.take i) := ⟨_, rfl⟩
 rw [← hVe] at hx hV
 have hb := digit_at ho hi
 have hbl : (({ data := l.toArray } : ByteArray)[i]'(by rw [bsize]; exact hi)) = l[i] := rfl
 rw [hbl] at hb ⊢
 have p0 : (10 : Nat) ^ 300 * 10 + 10 ≤ 10 ^ 320 := Nat.le_of_ble_eq_true rfl
 have p1 : (10 : Nat) ^ 300 ≤ 10 ^ 320 := Nat.le_of_ble_eq_true rfl
 have b1 : V < 10 ^ 320 := by omega
 have b2 : V * 10 < 10 ^ 320 := by omega
 have b3 : V * 10 + (l[i].toNat - 48) < 10 ^ 320 := by omega
 have b4 : l[i].toNat - 48 < 10 ^ 320 := by omega
 refine ⟨V * 10, l[i].toNat - 48, V * 10 + (l[i].toNat - 48), by omega, by omega, ?_, ?_, ?_, ?_, by have := big_len b3; omega⟩
 ·rw [hx, refMul_f (Bn.limbs_limbs _) nrm10.1 (by have := big_len b1; simp; omega) (by have := big_len b1; simp; omega), Bn.nv_limbs, nv10]
 ·rw [refAdd_f (Bn.nrm_limbs _) (Bn.nrm_limbs _) (by have := big_len b2; omega) (by have := big_len b4; omega) (by have h1 := big_len b2; have h2 := big_len b4; omega), Bn.nv_limbs, Bn.nv_limbs]
 ·rw [refTrim_f (Bn.limbs_limbs _) (by have := big_len b3; omega) (by have := big_len b3; omega), Bn.nv_limbs]
 ·rw [List.take_add_one, List.getElem?_eq_getElem hi, dvalA_append, ← hVe]
  show _ = dvalA V [l[i]]
  rw [dvalA_cons, dvalA_nil, Nat.mul_comm]

set_option maxHeartbeats 16000000 in
set_option maxRecDepth 100000 in
/-- The reference's Parse: a text that it takes. -/
theorem refParse_ok (l : List UInt8) (hs : l.length ≤ 300) (ht : textB l = true) (n : List Int) (hn : n = Bn.limbs (dvalA 0 l)) (w : World) :
  Calls Tryd.prog 69 #[.string ⟨l.toArray⟩] w fun e w' => Rw2 n 0 w e w' := by
 have HB := Aside0.mk (Below.refl w.heap.size w)
 obtain ⟨h0, ho, hz⟩ := textB_parts ht
 have he : l.isEmpty = false := by cases l with | nil => exact absurd rfl h0 | cons x y => rfl
 have hz3 : ¬ (1 : Int) < (l.length : Int) ∨ ((l.getD 0 0).toNat : Int) ≠ 48 := by
  by_cases h : 1 < l.length
  ·right
   intro e
   refine hz ⟨h, ?_⟩
   cases l with
   | nil => exact absurd rfl h0
   | cons x y =>
    have e2 : (x.toNat : Int) = 48 := e
    have h3 : x = 48 := UInt8.toNat_inj.1 (show x.toNat = 48 by omega)
    rw [h3]
    rfl
  ·left
   omega
 have hp : 0 < l.length := List.length_pos_iff.2 h0
 have ho_ := Aside0.mk ho
 have hs_ := Aside0.mk hs
 have hn_ := Aside0.mk hn
 clear ho hn ht hz hs h0
 go_enter Tryd.func69, Tryd.ntmps69
 go_wp2_with fail
 -- CUT
 ·rename_i hbad
  exfalso
  cases l with
  | nil => simp at hp
  | cons x y =>
   have h4 : ((x.toNat : Int) == 48) = true := hbad
   have h2 : (x.toNat : Int) = 48 := by simpa using h4
   rcases hz3 with h | h
   ·omega
   ·exact h h2
 ·rename_i hc_ K_ hK_
  clear hc_ hz3
  go_loopg [4] l.length (fun kq v4 w' => ∃ (i : Nat), v4 = .int .i64 (i : Int) ∧ Aside0 (i ≤ l.length ∧ kq = l.length - i) ∧ Aside0 (Below w.heap.size w w'))
  case atStart => exact ⟨0, rfl, ⟨Nat.zero_le _, rfl⟩, HB⟩
  case round =>
   clear HB
   obtain ⟨i, rfl, hk, HB⟩ := hrel
   by_cases hi : i < l.length
   ·have hi2 : (i : Int) < (l.length : Int) := by omega
    have hb := digit_at ho_.out hi
    have h48 : ¬ ((({ data := l.toArray } : ByteArray)[i]'(by rw [bsize]; exact hi)).toNat : Int) < 48 := by have := hb.1; omega
    have h57 : ¬ (57 : Int) < ((({ data := l.toArray } : ByteArray)[i]'(by rw [bsize]; exact hi)).toNat : Int) := by have := hb.2; omega
    have hs2 := hs_.out
    clear hb
    go_wp2_with fail
    go_roundg (l.length - (i + 1))
    case rel => exact ⟨i + 1, congrArg (Value.int .i64) (by omega), ⟨by omega, rfl⟩, HB⟩
    case measure =>
     have := hk.out
     omega
   ·have hi2 : ¬ (i : Int) < (l.length : Int) := by omega
    clear hk
    go_wp2_with ((with_reducible refine gate_dst (N := 37) rfl ?_); (try (refine gate_guard (by rfl) ?_; dsimp only)); refine lit_event ?hg (N := 37) ?hd [] 0 rfl (by decide) ?hr ?_; (case hd => rfl); (case hg => rfl); (case hr => first | (go_simp; done) | (go_simp; rfl)); intro A0 wb0 hc_ hb_; replace HB := Aside0.mk (below_step HB.out hb_); have C0 := Aside0.mk hc_; clear hb_ hc_)
    go_loopg [5, 6] l.length (fun kq v5 v6 w' => ∃ (i : Nat) (x : List Int) (A : Option Addr) (c : Nat), v5 = .slice A x.length c ∧ v6 = .int .i64 (i : Int) ∧ Aside0 (i ≤ l.length ∧ kq = l.length - i) ∧ Aside0 (x = Bn.limbs (dvalA 0 (l.take i))) ∧ Aside0 (Kd.C (Kd.int .u32) w' A x.length x) ∧ Aside0 (x.length ≤ c) ∧ Aside0 (Below w.heap.size w w'))
    case atStart => exact ⟨0, [], _, 0, rfl, rfl, ⟨Nat.zero_le _, rfl⟩, ⟨(Bn.limbs_zero).symm⟩, C0, ⟨Nat.le_refl _⟩, HB⟩
    case round =>
     clear HB C0 hi hi2
     obtain ⟨i, x, A, c, rfl, rfl, hk, hx, hC, hH, HB⟩ := hrel
     by_cases hi : i < l.length
     ·have hi2 : (i : Int) < (l.length : Int) := by omega
      obtain ⟨V, d, Z, hd, hbv, hM, hA, hT, hZ, hZl⟩ := dig_step hs_.out ho_.out hi hx.out
      have hd_ := Aside0.mk hd
      have hM_ := Aside0.mk hM
      have hA_ := Aside0.mk hA
      have hT_ := Aside0.mk hT
      have hZ_ := Aside0.mk hZ
      have hi_ := Aside0.mk hi
      have hZ2 : ¬ (128 : Int) < ((Bn.limbs Z).length : Int) := by omega
      have hdb := Aside0.mk (show d < 18446744073709551616 by omega)
      have hdd : IntKind.u8.wrap (d : Int) = d := wraps_u8 _ (by omega) (by omega)
      have hd6 := (show IntKind.u64.wrap (d : Int) = d from u64w (by omega) (by clear hdd; omega))
      clear hd hM hA hT hZ hZl
      go_wp2_with fail
      have hb_ : Below wr.heap.size wr wr.drew := below_drew1 (Below.refl _ _)
      refine start_ (n := 12) (S := fun _ => True) (ds := []) #[false, false, false, false, false, false, false, false, false, false, false, false] (by kernel_rfl) rfl rfl trivial (fun hHeld => ?_)
      replace HB := Aside0.mk (below_step HB.out hb_)
      replace hC := Aside0.mk (Kd.C_below hC.out hb_)
      clear hb_
      generalize wr.drew = wq0 at *
      refine pure_ (i := 0) (N := some 44) (v := ?_) (a' := ?_) #[true, false, false, false, false, false, false, false, false, false, false, false] rfl rfl (by kernel_rfl) (fun _ _ _ h => h) (Or.inl ⟨by rfl, ?_⟩) ?_ ?_
      rotate_left
      ·intro w'
       go_simp
       with_reducible rfl
      rotate_left
      ·simp only [Act.put, List.setIfInBounds_toArray, List.set_cons_zero, List.set_cons_succ, i64_w, i32_w]
       rfl
      refine pure_ (i := 3) (N := some 47) (v := ?_) (a' := ?_) #[true, false, false, true, false, false, false, false, false, false, false, false] rfl rfl (by kernel_rfl) (fun _ _ _ h => h) (Or.inl ⟨by rfl, ?_⟩) ?_ ?_
      rotate_left
      ·intro w'
       go_simp
       with_reducible rfl
      rotate_left
      ·simp only [Act.put, List.setIfInBounds_toArray, List.set_cons_zero, List.set_cons_succ, i64_w, i32_w]
       rfl
      refine pure_ (i := 4) (N := some 48) (v := ?_) (a' := ?_) #[true, false, false, true, true, false, false, false, false, false, false, false] rfl rfl (by kernel_rfl) (fun _ _ _ h => h) (Or.inl ⟨by rfl, ?_⟩) ?_ ?_
      rotate_left
      ·intro w'
       go_simp
       with_reducible rfl
      rotate_left
      ·simp only [Act.put, List.setIfInBounds_toArray, List.set_cons_zero, List.set_cons_succ, i64_w, i32_w]
       rfl
      refine pure_ (i := 5) (N := some 49) (v := ?_) (a' := ?_) #[true, false, false, true, true, true, false, false, false, false, false, false] rfl rfl (by kernel_rfl) (fun _ _ _ h => h) (Or.inl ⟨by rfl, ?_⟩) ?_ ?_
      rotate_left
      ·intro w'
       go_simp
       with_reducible rfl
      rotate_left
      ·simp only [Act.put, List.setIfInBounds_toArray, List.set_cons_zero, List.set_cons_succ, i64_w, i32_w]
       rfl
      refine pure_ (i := 6) (N := some 50) (v := ?_) (a' := ?_) #[true, false, false, true, true, true, true, false, false, false, false, false] rfl rfl (by kernel_rfl) (fun _ _ _ h => h) (Or.inl ⟨by rfl, ?_⟩) ?_ ?_
      rotate_left
      ·intro w'
       go_simp
       with_reducible rfl
      rotate_left
      ·simp only [Act.put, List.setIfInBounds_toArray, List.set_cons_zero, List.set_cons_succ, i64_w, i32_w]
       rfl
      refine pure_ (i := 7) (N := some 51) (v := ?_) (a' := ?_) #[true, false, false, true, true, true, true, true, false, false, false, false] rfl rfl (by kernel_rfl) (fun _ _ _ h => h) (Or.inl ⟨by rfl, ?_⟩) ?_ ?_
      rotate_left
      ·intro w'
       go_simp
       with_reducible rfl
      rotate_left
      ·simp only [Act.put, List.setIfInBounds_toArray, List.set_cons_zero, List.set_cons_succ, i64_w, i32_w]
       rfl
      refine one_ (i := 1) (N := some 45) #[true, true, false, true, true, true, true, true, false, false, false, false] rfl rfl (by kernel_rfl) (by decide) (fun K hK => ?_)
      refine value3_ (w1 := wq0.alloc (.cells (([10] : List Int).map (Value.int .u32)).toArray 63)) (v := .slice (some ⟨wq0.heap.size, 0, none⟩) 1 1) (by rfl) rfl (by go_simp; try rfl) ?_
      have hc_ := lit_C wq0 [10] (by decide)
      have hb_ : Below wq0.heap.size wq0 (wq0.alloc (.cells (([10] : List Int).map (Value.int .u32)).toArray 63)) := below_alloc (Below.refl _ _) _
      replace HB := Aside0.mk (below_step HB.out hb_)
      replace hC := Aside0.mk (Kd.C_below hC.out hb_)
      have C10 := Aside0.mk hc_
      clear hc_ hb_
      obtain ⟨A10, hA10⟩ : ∃ A, A = (some ⟨wq0.heap.size, 0, none⟩ : Option Addr) := ⟨_, rfl⟩
      rw [← hA10] at C10 ⊢
      generalize wq0.alloc (.cells (([10] : List Int).map (Value.int .u32)).toArray 63) = wq1 at *
      clear hA10
      clear hHeld
      refine hK.out _ _ trivial (fun hHeld => ?_)
      clear hK K
      refine norm_ (a' := ?_) ?_ ?_
      rotate_left
      ·show Act.put _ (some 45) _ = _
       simp only [Act.put, List.setIfInBounds_toArray, List.set_cons_zero, List.set_cons_succ, i64_w, i32_w]
       rfl
      refine one_ (i := 2) (N := some 46) #[true, true, true, true, true, true, true, true, false, false, false, false] rfl rfl (by kernel_rfl) (by decide) (fun K hK => ?_)
      refine goes_ Tryd.func22 (by kernel_rfl) rfl #[.slice A x.length c, .slice A10 1 1] (by rfl) rfl rfl (by (try simp only [List.map_toArray, List.map_cons, List.map_nil]); first | done | rfl) ?_
      refine (lineageref03_Mul.calls 5000 A c x A10 1 [10] (Bn.limbs V) wq1 hC.out hH.out C10.out (Nat.le_refl _) hM_.out).mono ?_
      rintro e wq2 ⟨v_, rfl, hr_, hb_⟩
      replace HB := Aside0.mk (below_step HB.out hb_)
      obtain ⟨Ay, cy, rfl⟩ := Kd.V_slice hr_
      have Cy := Aside0.mk (Kd.V_reads' hr_).2.2
      have Hy := Aside0.mk (show (Bn.limbs V).length ≤ cy from (Kd.V_reads' hr_).2.1)
      clear hr_ hb_
      clear C10 hC hH
      refine ⟨_, rfl, ?_⟩
      clear hHeld
      refine hK.out _ _ trivial (fun hHeld => ?_)
      clear hK K
      refine norm_ (a' := ?_) ?_ ?_
      rotate_left
      ·show Act.put _ (some 46) _ = _
       simp only [Act.put, List.setIfInBounds_toArray, List.set_cons_zero, List.set_cons_succ, i64_w, i32_w]
       rfl
      refine one_ (i := 8) (N := some 52) #[true, true, true, true, true, true, true, true, true, false, false, false] rfl rfl (by kernel_rfl) (by decide) (fun K hK => ?_)
      refine goes_ Tryd.func35 (by kernel_rfl) rfl #[.int .u64 (d : Int)] (by rfl) rfl rfl (by (try simp only [List.map_toArray, List.map_cons, List.map_nil]); first | done | rfl) ?_
      refine (refFromUint_calls d hdb.out wq2).mono ?_
      rintro e wq3 ⟨Au, cu, rfl, hCu, hHu, hb_⟩
      replace HB := Aside0.mk (below_step HB.out hb_)
      replace Cy := Aside0.mk (Kd.C_below Cy.out hb_)
      have Cu := Aside0.mk hCu
      have Hu := Aside0.mk hHu
      clear hCu hHu hb_
      refine ⟨_, rfl, ?_⟩
      clear hHeld
      refine hK.out _ _ trivial (fun hHeld => ?_)
      clear hK K
      refine norm_ (a' := ?_) ?_ ?_
      rotate_left
      ·show Act.put _ (some 52) _ = _
       simp only [Act.put, List.setIfInBounds_toArray, List.set_cons_zero, List.set_cons_succ, i64_w, i32_w]
       rfl
      refine one_ (i := 9) (N := some 53) #[true, true, true, true, true, true, true, true, true, true, false, false] rfl rfl (by kernel_rfl) (by decide) (fun K hK => ?_)
      refine goes_ Tryd.func29 (by kernel_rfl) rfl #[.slice Ay (Bn.limbs V).length cy, .slice Au (Bn.limbs d).length cu] (by rfl) rfl rfl (by (try simp only [List.map_toArray, List.map_cons, List.map_nil]); first | done | rfl) ?_
      refine (lineageref03_Add.calls 500 Ay cy (Bn.limbs V) Au cu (Bn.limbs d) (Bn.limbs Z) wq3 Cy.out Hy.out Cu.out Hu.out hA_.out).mono ?_
      rintro e wq4 ⟨v_, rfl, hr_, hb_⟩
      replace HB := Aside0.mk (below_step HB.out hb_)
      obtain ⟨Az, cz, rfl⟩ := Kd.R_slice hr_
      have Cz := Aside0.mk (Kd.R_reads' hr_).2.2
      have Hz := Aside0.mk (show (Bn.limbs Z).length ≤ cz from (Kd.R_reads' hr_).2.1)
      clear hr_ hb_
      clear Cy Hy Cu Hu
      refine ⟨_, rfl, ?_⟩
      clear hHeld
      refine hK.out _ _ trivial (fun hHeld => ?_)
      clear hK K
      refine norm_ (a' := ?_) ?_ ?_
      rotate_left
      ·show Act.put _ (some 53) _ = _
       simp only [Act.put, List.setIfInBounds_toArray, List.set_cons_zero, List.set_cons_succ, i64_w, i32_w]
       rfl
      refine one_ (i := 10) (N := some 54) #[true, true, true, true, true, true, true, true, true, true, true, false] rfl rfl (by kernel_rfl) (by decide) (fun K hK => ?_)
      refine goes_ Tryd.func73 (by kernel_rfl) rfl #[.slice Az (Bn.limbs Z).length cz] (by rfl) rfl rfl (by (try simp only [List.map_toArray, List.map_cons, List.map_nil]); first | done | rfl) ?_
      refine (lineageref03_trim.calls 500 (fun k => k < wq4.heap.size) Az cz (Bn.limbs Z) (Bn.limbs Z) wq4 (Kd.V_mk (e := 63) (base := wq4.heap.size) (ok := fun k => k < wq4.heap.size) Hz.out (Kd.C_F (Kd.heap_int .u32) Cz.out)) hT_.out).mono ?_
      rintro e wq5 ⟨v_, rfl, hr_, hb_⟩
      replace HB := Aside0.mk (below_step HB.out hb_)
      obtain ⟨At, ct, rfl⟩ := Kd.V_slice hr_
      have Ct := Aside0.mk (Kd.V_reads' hr_).2.2
      have Ht := Aside0.mk (show (Bn.limbs Z).length ≤ ct from (Kd.V_reads' hr_).2.1)
      clear hr_ hb_
      clear Cz Hz
      refine ⟨_, rfl, ?_⟩
      clear hHeld
      refine hK.out _ _ trivial (fun hHeld => ?_)
      clear hK K
      refine norm_ (a' := ?_) ?_ ?_
      rotate_left
      ·show Act.put _ (some 54) _ = _
       simp only [Act.put, List.setIfInBounds_toArray, List.set_cons_zero, List.set_cons_succ, i64_w, i32_w]
       rfl
      refine pure_ (i := 11) (N := some 5) (v := ?_) (a' := ?_) #[true, true, true, true, true, true, true, true, true, true, true, true] rfl rfl (by kernel_rfl) (fun _ _ _ h => h) (Or.inl ⟨by rfl, ?_⟩) ?_ ?_
      rotate_left
      ·intro w'
       go_simp
       with_reducible rfl
      rotate_left
      ·simp only [Act.put, List.setIfInBounds_toArray, List.set_cons_zero, List.set_cons_succ, i64_w, i32_w]
       rfl
      refine done_ (by kernel_rfl) ?_
      clear hHeld hbv hdd hd6
      go_wp2_with fail
      have hs2 := hs_.out
      go_roundg (l.length - (i + 1))
      case rel => exact ⟨i + 1, Bn.limbs Z, At, ct, rfl, congrArg (Value.int .i64) (by first | omega | exact (w64 (by omega) (by omega)).trans (by omega)), ⟨by have := hi_.out; omega, rfl⟩, ⟨congrArg Bn.limbs hZ_.out⟩, Ct, Ht, HB⟩
      case measure =>
       have := hk.out
       have := hi_.out
       omega
     ·have hi2 : ¬ (i : Int) < (l.length : Int) := by omega
      have hxn : x = n := by
       rw [hx.out, hn_.out, List.take_of_length_le (by omega)]
      subst hxn
      go_wp2_with fail
      go_ret2
      exact Rw2.intro ⟨_, _, rfl, hC.out, hH.out, HB.out⟩
 ·clear hz3
  go_loopg [4] l.length (fun kq v4 w' => ∃ (i : Nat), v4 = .int .i64 (i : Int) ∧ Aside0 (i ≤ l.length ∧ kq = l.length - i) ∧ Aside0 (Below w.heap.size w w'))
  case atStart => exact ⟨0, rfl, ⟨Nat.zero_le _, rfl⟩, HB⟩
  case round =>
   clear HB
   obtain ⟨i, rfl, hk, HB⟩ := hrel
   by_cases hi : i < l.length
   ·have hi2 : (i : Int) < (l.length : Int) := by omega
    have hb := digit_at ho_.out hi
    have h48 : ¬ ((({ data := l.toArray } : ByteArray)[i]'(by rw [bsize]; exact hi)).toNat : Int) < 48 := by have := hb.1; omega
    have h57 : ¬ (57 : Int) < ((({ data := l.toArray } : ByteArray)[i]'(by rw [bsize]; exact hi)).toNat : Int) := by have := hb.2; omega
    have hs2 := hs_.out
    clear hb
    go_wp2_with fail
    go_roundg (l.length - (i + 1))
    case rel => exact ⟨i + 1, congrArg (Value.int .i64) (by omega), ⟨by omega, rfl⟩, HB⟩
    case measure =>
     have := hk.out
     omega
   ·have hi2 : ¬ (i : Int) < (l.length : Int) := by omega
    clear hk
    go_wp2_with ((with_reducible refine gate_dst (N := 37) rfl ?_); (try (refine gate_guard (by rfl) ?_; dsimp only)); refine lit_event ?hg (N := 37) ?hd [] 0 rfl (by decide) ?hr ?_; (case hd => rfl); (case hg => rfl); (case hr => first | (go_simp; done) | (go_simp; rfl)); intro A0 wb0 hc_ hb_; replace HB := Aside0.mk (below_step HB.out hb_); have C0 := Aside0.mk hc_; clear hb_ hc_)
    go_loopg [5, 6] l.length (fun kq v5 v6 w' => ∃ (i : Nat) (x : List Int) (A : Option Addr) (c : Nat), v5 = .slice A x.length c ∧ v6 = .int .i64 (i : Int) ∧ Aside0 (i ≤ l.length ∧ kq = l.length - i) ∧ Aside0 (x = Bn.limbs (dvalA 0 (l.take i))) ∧ Aside0 (Kd.C (Kd.int .u32) w' A x.length x) ∧ Aside0 (x.length ≤ c) ∧ Aside0 (Below w.heap.size w w'))
    case atStart => exact ⟨0, [], _, 0, rfl, rfl, ⟨Nat.zero_le _, rfl⟩, ⟨(Bn.limbs_zero).symm⟩, C0, ⟨Nat.le_refl _⟩, HB⟩
    case round =>
     clear HB C0 hi hi2
     obtain ⟨i, x, A, c, rfl, rfl, hk, hx, hC, hH, HB⟩ := hrel
     by_cases hi : i < l.length
     ·have hi2 : (i : Int) < (l.length : Int) := by omega
      obtain ⟨V, d, Z, hd, hbv, hM, hA, hT, hZ, hZl⟩ := dig_step hs_.out ho_.out hi hx.out
      have hd_ := Aside0.mk hd
      have hM_ := Aside0.mk hM
      have hA_ := Aside0.mk hA
      have hT_ := Aside0.mk hT
      have hZ_ := Aside0.mk hZ
      have hi_ := Aside0.mk hi
      have hZ2 : ¬ (128 : Int) < ((Bn.limbs Z).length : Int) := by omega
      have hdb := Aside0.mk (show d < 18446744073709551616 by omega)
      have hdd : IntKind.u8.wrap (d : Int) = d := wraps_u8 _ (by omega) (by omega)
      have hd6 := (show IntKind.u64.wrap (d : Int) = d from u64w (by omega) (by clear hdd; omega))
      clear hd hM hA hT hZ hZl
      go_wp2_with fail
      have hb_ : Below wr.heap.size wr wr.drew := below_drew1 (Below.refl _ _)
      refine start_ (n := 12) (S := fun _ => True) (ds := []) #[false, false, false, false, false, false, false, false, false, false, false, false] (by kernel_rfl) rfl rfl trivial (fun hHeld => ?_)
      replace HB := Aside0.mk (below_step HB.out hb_)
      replace hC := Aside0.mk (Kd.C_below hC.out hb_)
      clear hb_
      generalize wr.drew = wq0 at *
      refine pure_ (i := 0) (N := some 44) (v := ?_) (a' := ?_) #[true, false, false, false, false, false, false, false, false, false, false, false] rfl rfl (by kernel_rfl) (fun _ _ _ h => h) (Or.inl ⟨by rfl, ?_⟩) ?_ ?_
      rotate_left
      ·intro w'
       go_simp
       with_reducible rfl
      rotate_left
      ·simp only [Act.put, List.setIfInBounds_toArray, List.set_cons_zero, List.set_cons_succ, i64_w, i32_w]
       rfl
      refine pure_ (i := 3) (N := some 47) (v := ?_) (a' := ?_) #[true, false, false, true, false, false, false, false, false, false, false, false] rfl rfl (by kernel_rfl) (fun _ _ _ h => h) (Or.inl ⟨by rfl, ?_⟩) ?_ ?_
      rotate_left
      ·intro w'
       go_simp
       with_reducible rfl
      rotate_left
      ·simp only [Act.put, List.setIfInBounds_toArray, List.set_cons_zero, List.set_cons_succ, i64_w, i32_w]
       rfl
      refine pure_ (i := 4) (N := some 48) (v := ?_) (a' := ?_) #[true, false, false, true, true, false, false, false, false, false, false, false] rfl rfl (by kernel_rfl) (fun _ _ _ h => h) (Or.inl ⟨by rfl, ?_⟩) ?_ ?_
      rotate_left
      ·intro w'
       go_simp
       with_reducible rfl
      rotate_left
      ·simp only [Act.put, List.setIfInBounds_toArray, List.set_cons_zero, List.set_cons_succ, i64_w, i32_w]
       rfl
      refine pure_ (i := 5) (N := some 49) (v := ?_) (a' := ?_) #[true, false, false, true, true, true, false, false, false, false, false, false] rfl rfl (by kernel_rfl) (fun _ _ _ h => h) (Or.inl ⟨by rfl, ?_⟩) ?_ ?_
      rotate_left
      ·intro w'
       go_simp
       with_reducible rfl
      rotate_left
      ·simp only [Act.put, List.setIfInBounds_toArray, List.set_cons_zero, List.set_cons_succ, i64_w, i32_w]
       rfl
      refine pure_ (i := 6) (N := some 50) (v := ?_) (a' := ?_) #[true, false, false, true, true, true, true, false, false, false, false, false] rfl rfl (by kernel_rfl) (fun _ _ _ h => h) (Or.inl ⟨by rfl, ?_⟩) ?_ ?_
      rotate_left
      ·intro w'
       go_simp
       with_reducible rfl
      rotate_left
      ·simp only [Act.put, List.setIfInBounds_toArray, List.set_cons_zero, List.set_cons_succ, i64_w, i32_w]
       rfl
      refine pure_ (i := 7) (N := some 51) (v := ?_) (a' := ?_) #[true, false, false, true, true, true, true, true, false, false, false, false] rfl rfl (by kernel_rfl) (fun _ _ _ h => h) (Or.inl ⟨by rfl, ?_⟩) ?_ ?_
      rotate_left
      ·intro w'
       go_simp
       with_reducible rfl
      rotate_left
      ·simp only [Act.put, List.setIfInBounds_toArray, List.set_cons_zero, List.set_cons_succ, i64_w, i32_w]
       rfl
      refine one_ (i := 1) (N := some 45) #[true, true, false, true, true, true, true, true, false, false, false, false] rfl rfl (by kernel_rfl) (by decide) (fun K hK => ?_)
      refine value3_ (w1 := wq0.alloc (.cells (([10] : List Int).map (Value.int .u32)).toArray 63)) (v := .slice (some ⟨wq0.heap.size, 0, none⟩) 1 1) (by rfl) rfl (by go_simp; try rfl) ?_
      have hc_ := lit_C wq0 [10] (by decide)
      have hb_ : Below wq0.heap.size wq0 (wq0.alloc (.cells (([10] : List Int).map (Value.int .u32)).toArray 63)) := below_alloc (Below.refl _ _) _
      replace HB := Aside0.mk (below_step HB.out hb_)
      replace hC := Aside0.mk (Kd.C_below hC.out hb_)
      have C10 := Aside0.mk hc_
      clear hc_ hb_
      obtain ⟨A10, hA10⟩ : ∃ A, A = (some ⟨wq0.heap.size, 0, none⟩ : Option Addr) := ⟨_, rfl⟩
      rw [← hA10] at C10 ⊢
      generalize wq0.alloc (.cells (([10] : List Int).map (Value.int .u32)).toArray 63) = wq1 at *
      clear hA10
      clear hHeld
      refine hK.out _ _ trivial (fun hHeld => ?_)
      clear hK K
      refine norm_ (a' := ?_) ?_ ?_
      rotate_left
      ·show Act.put _ (some 45) _ = _
       simp only [Act.put, List.setIfInBounds_toArray, List.set_cons_zero, List.set_cons_succ, i64_w, i32_w]
       rfl
      refine one_ (i := 2) (N := some 46) #[true, true, true, true, true, true, true, true, false, false, false, false] rfl rfl (by kernel_rfl) (by decide) (fun K hK => ?_)
      refine goes_ Tryd.func22 (by kernel_rfl) rfl #[.slice A x.length c, .slice A10 1 1] (by rfl) rfl rfl (by (try simp only [List.map_toArray, List.map_cons, List.map_nil]); first | done | rfl) ?_
      refine (lineageref03_Mul.calls 5000 A c x A10 1 [10] (Bn.limbs V) wq1 hC.out hH.out C10.out (Nat.le_refl _) hM_.out).mono ?_
      rintro e wq2 ⟨v_, rfl, hr_, hb_⟩
      replace HB := Aside0.mk (below_step HB.out hb_)
      obtain ⟨Ay, cy, rfl⟩ := Kd.V_slice hr_
      have Cy := Aside0.mk (Kd.V_reads' hr_).2.2
      have Hy := Aside0.mk (show (Bn.limbs V).length ≤ cy from (Kd.V_reads' hr_).2.1)
      clear hr_ hb_
      clear C10 hC hH
      refine ⟨_, rfl, ?_⟩
      clear hHeld
      refine hK.out _ _ trivial (fun hHeld => ?_)
      clear hK K
      refine norm_ (a' := ?_) ?_ ?_
      rotate_left
      ·show Act.put _ (some 46) _ = _
       simp only [Act.put, List.setIfInBounds_toArray, List.set_cons_zero, List.set_cons_succ, i64_w, i32_w]
       rfl
      refine one_ (i := 8) (N := some 52) #[true, true, true, true, true, true, true, true, true, false, false, false] rfl rfl (by kernel_rfl) (by decide) (fun K hK => ?_)
      refine goes_ Tryd.func35 (by kernel_rfl) rfl #[.int .u64 (d : Int)] (by rfl) rfl rfl (by (try simp only [List.map_toArray, List.map_cons, List.map_nil]); first | done | rfl) ?_
      refine (refFromUint_calls d hdb.out wq2).mono ?_
      rintro e wq3 ⟨Au, cu, rfl, hCu, hHu, hb_⟩
      replace HB := Aside0.mk (below_step HB.out hb_)
      replace Cy := Aside0.mk (Kd.C_below Cy.out hb_)
      have Cu := Aside0.mk hCu
      have Hu := Aside0.mk hHu
      clear hCu hHu hb_
      refine ⟨_, rfl, ?_⟩
      clear hHeld
      refine hK.out _ _ trivial (fun hHeld => ?_)
      clear hK K
      refine norm_ (a' := ?_) ?_ ?_
      rotate_left
      ·show Act.put _ (some 52) _ = _
       simp only [Act.put, List.setIfInBounds_toArray, List.set_cons_zero, List.set_cons_succ, i64_w, i32_w]
       rfl
      refine one_ (i := 9) (N := some 53) #[true, true, true, true, true, true, true, true, true, true, false, false] rfl rfl (by kernel_rfl) (by decide) (fun K hK => ?_)
      refine goes_ Tryd.func29 (by kernel_rfl) rfl #[.slice Ay (Bn.limbs V).length cy, .slice Au (Bn.limbs d).length cu] (by rfl) rfl rfl (by (try simp only [List.map_toArray, List.map_cons, List.map_nil]); first | done | rfl) ?_
      refine (lineageref03_Add.calls 500 Ay cy (Bn.limbs V) Au cu (Bn.limbs d) (Bn.limbs Z) wq3 Cy.out Hy.out Cu.out Hu.out hA_.out).mono ?_
      rintro e wq4 ⟨v_, rfl, hr_, hb_⟩
      replace HB := Aside0.mk (below_step HB.out hb_)
      obtain ⟨Az, cz, rfl⟩ := Kd.R_slice hr_
      have Cz := Aside0.mk (Kd.R_reads' hr_).2.2
      have Hz := Aside0.mk (show (Bn.limbs Z).length ≤ cz from (Kd.R_reads' hr_).2.1)
      clear hr_ hb_
      clear Cy Hy Cu Hu
      refine ⟨_, rfl, ?_⟩
      clear hHeld
      refine hK.out _ _ trivial (fun hHeld => ?_)
      clear hK K
      refine norm_ (a' := ?_) ?_ ?_
      rotate_left
      ·show Act.put _ (some 53) _ = _
       simp only [Act.put, List.setIfInBounds_toArray, List.set_cons_zero, List.set_cons_succ, i64_w, i32_w]
       rfl
      refine one_ (i := 10) (N := some 54) #[true, true, true, true, true, true, true, true, true, true, true, false] rfl rfl (by kernel_rfl) (by decide) (fun K hK => ?_)
      refine goes_ Tryd.func73 (by kernel_rfl) rfl #[.slice Az (Bn.limbs Z).length cz] (by rfl) rfl rfl (by (try simp only [List.map_toArray, List.map_cons, List.map_nil]); first | done | rfl) ?_
      refine (lineageref03_trim.calls 500 (fun k => k < wq4.heap.size) Az cz (Bn.limbs Z) (Bn.limbs Z) wq4 (Kd.V_mk (e := 63) (base := wq4.heap.size) (ok := fun k => k < wq4.heap.size) Hz.out (Kd.C_F (Kd.heap_int .u32) Cz.out)) hT_.out).mono ?_
      rintro e wq5 ⟨v_, rfl, hr_, hb_⟩
      replace HB := Aside0.mk (below_step HB.out hb_)
      obtain ⟨At, ct, rfl⟩ := Kd.V_slice hr_
      have Ct := Aside0.mk (Kd.V_reads' hr_).2.2
      have Ht := Aside0.mk (show (Bn.limbs Z).length ≤ ct from (Kd.V_reads' hr_).2.1)
      clear hr_ hb_
      clear Cz Hz
      refine ⟨_, rfl, ?_⟩
      clear hHeld
      refine hK.out _ _ trivial (fun hHeld => ?_)
      clear hK K
      refine norm_ (a' := ?_) ?_ ?_
      rotate_left
      ·show Act.put _ (some 54) _ = _
       simp only [Act.put, List.setIfInBounds_toArray, List.set_cons_zero, List.set_cons_succ, i64_w, i32_w]
       rfl
      refine pure_ (i := 11) (N := some 5) (v := ?_) (a' := ?_) #[true, true, true, true, true, true, true, true, true, true, true, true] rfl rfl (by kernel_rfl) (fun _ _ _ h => h) (Or.inl ⟨by rfl, ?_⟩) ?_ ?_
      rotate_left
      ·intro w'
       go_simp
       with_reducible rfl
      rotate_left
      ·simp only [Act.put, List.setIfInBounds_toArray, List.set_cons_zero, List.set_cons_succ, i64_w, i32_w]
       rfl
      refine done_ (by kernel_rfl) ?_
      clear hHeld hbv hdd hd6
      go_wp2_with fail
      have hs2 := hs_.out
      go_roundg (l.length - (i + 1))
      case rel => exact ⟨i + 1, Bn.limbs Z, At, ct, rfl, congrArg (Value.int .i64) (by first | omega | exact (w64 (by omega) (by omega)).trans (by omega)), ⟨by have := hi_.out; omega, rfl⟩, ⟨congrArg Bn.limbs hZ_.out⟩, Ct, Ht, HB⟩
      case measure =>
       have := hk.out
       have := hi_.out
       omega
     ·have hi2 : ¬ (i : Int) < (l.length : Int) := by omega
      have hxn : x = n := by
       rw [hx.out, hn_.out, List.take_of_length_le (by omega)]
      subst hxn
      go_wp2_with fail
      go_ret2
      exact Rw2.intro ⟨_, _, rfl, hC.out, hH.out, HB.out⟩

end Go.Proofs.YtoakfjcejamoeaaDoor.B
