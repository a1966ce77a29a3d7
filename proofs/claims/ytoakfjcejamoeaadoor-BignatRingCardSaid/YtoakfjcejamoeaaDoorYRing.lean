import Derived.Test.YtoakfjcejamoeaaDoorL2
import Derived.Test.YtoakfjcejamoeaaDoorBx10
import Derived.Test.YtoakfjcejamoeaaDoorBx5
import Derived.Test.YtoakfjcejamoeaaDoorBx9
namespace Go.Proofs.YtoakfjcejamoeaaDoor.B
open Go.RowKit Go.Proofs.YtoakfjcejamoeaaDoorW.PrintWords Go.Proofs.YtoakfjcejamoeaaDoorW.PrintLast Go.Proofs.YtoakfjcejamoeaaDoorW.PrintMore
set_option exponentiation.threshold 8200
set_option linter.unusedVariables false
set_option linter.unusedSimpArgs false
section
variable {P : Program} {ops : Array Oper} {rest : List Oper} {o : Oper} {a : Act} {Q : Exit → Act → World → Prop}
/-- A literal of rows of limbs. -/
theorem lits_event {W : World} (hgd : o.guard = none) {N : Tmp} (hd : o.dst = some N) {LL : List (List Int)} {inner : List Value}
    (hrun : (execOp a.eval o).run P W = .ok (.value (.slice (some ⟨W.heap.size, 0, none⟩) LL.length LL.length)) (W.alloc (.cells inner.toArray 23)))
    (hrep : Reps (Kd.FK (Kd.slice 63 (Kd.int .u32)) W (fun k => k < W.heap.size)) (Kd.slice 63 (Kd.int .u32)).sz LL inner) (hm : LL.length ≤ 1000)
    (h : ∀ A c w1, Kd.C (Kd.slice 63 (Kd.int .u32)) w1 A LL.length LL → LL.length ≤ c → Below W.heap.size W w1 → wpList P ops Q rest (a.put o.dst (.slice A LL.length c)) w1) : wpList P ops Q (o :: rest) a W :=
  Kd.N_lit (Kd.slice 63 (Kd.int .u32)) (w0 := W) W.heap.size 23 hgd hd (ok := fun _ => True) (okp := fun k => k < W.heap.size) hrun hrep (fun _ _ => trivial) trivial (Below.refl _ _) (Nat.le_refl _) (by omega) (fun v1 w1 hn hb _ _ => by
    obtain ⟨A, c, rfl⟩ := Kd.N_slice hn
    exact h A c w1 (Kd.N_reads' hn).2.2 (Kd.N_reads' hn).2.1 hb)
end
theorem same_same {x y : List Int} (hx : Bn.Nrm x) (hy : Bn.Nrm y) (lx : x.length < 200) (h : Bn.nv x = Bn.nv y) : lineagelaw03_same.f 200 x y = some true := by
  obtain rfl := hx.inj hy h
  rw [same_f x x (by omega) lx]
  simp
theorem nilC (w : World) : Kd.C (Kd.int .u32) w none 0 ([] : List Int) := Kd.C_of_reads (d := (0 : Int)) (h1 := fun _ => rfl) ⟨rfl, by omega, fun h => absurd h (by omega)⟩
theorem add_fit {x y : List Int} {n : Nat} (hx : Bn.Nrm x) (hy : Bn.Nrm y) (lx : x.length ≤ n) (ly : y.length ≤ n) (hn : n ≤ 120) : ∃ z, bignat_Add.f x y = some (z, 0) ∧ Bn.Nrm z ∧ Bn.nv z = Bn.nv x + Bn.nv y ∧ z.length ≤ n + 1 := by
  have b : Bn.nv x + Bn.nv y < 4294967296 ^ (n + 1) := by
    have h1 := Nat.lt_of_lt_of_le (Bn.nv_lt hx.1) (Nat.pow_le_pow_right (show 0 < 4294967296 by decide) lx)
    have h2 := Nat.lt_of_lt_of_le (Bn.nv_lt hy.1) (Nat.pow_le_pow_right (show 0 < 4294967296 by decide) ly)
    rw [Nat.pow_succ]
    omega
  have hl := (Bn.limbs_len _ _).2 b
  refine ⟨Bn.limbs (Bn.nv x + Bn.nv y), ?_, Bn.nrm_limbs _, Bn.nv_limbs _, hl⟩
  unfold bignat_Add.f fitB
  rw [okL_mk hx.1 (by omega), okL_mk hy.1 (by omega), (validB_iff hx.1).2 ⟨hx, by omega⟩, (validB_iff hy.1).2 ⟨hy, by omega⟩, if_neg (show ¬ 128 < _ by omega)]
  rfl
theorem mul_fit {x y : List Int} {n m : Nat} (hx : Bn.Nrm x) (hy : Bn.Nrm y) (lx : x.length ≤ n) (ly : y.length ≤ m) (hn : n + m ≤ 128) : ∃ z, bignat_Mul.f 17000 x y = some (z, 0) ∧ Bn.Nrm z ∧ Bn.nv z = Bn.nv x * Bn.nv y ∧ z.length ≤ n + m := by
  have b : Bn.nv x * Bn.nv y < 4294967296 ^ (n + m) := by
    have h1 := Nat.lt_of_lt_of_le (Bn.nv_lt hx.1) (Nat.pow_le_pow_right (show 0 < 4294967296 by decide) lx)
    have h2 := Nat.lt_of_lt_of_le (Bn.nv_lt hy.1) (Nat.pow_le_pow_right (show 0 < 4294967296 by decide) ly)
    rw [Nat.pow_add]
    exact Nat.mul_lt_mul'' h1 h2
  have hl := (Bn.limbs_len _ _).2 b
  refine ⟨Bn.limbs (Bn.nv x * Bn.nv y), ?_, Bn.nrm_limbs _, Bn.nv_limbs _, hl⟩
  rw [Mul_f hx.1 hy.1 (by omega) (by have h := Nat.mul_le_mul (show x.length ≤ 128 by omega) (show y.length + 2 ≤ 130 by omega); omega), (validB_iff hx.1).2 ⟨hx, by omega⟩, (validB_iff hy.1).2 ⟨hy, by omega⟩]
  unfold fitB
  rw [if_neg (show ¬ 128 < _ by omega)]
  rfl
theorem ringLaw_facts {l0 l1 l2 : List Int} (n0 : Bn.Nrm l0) (n1 : Bn.Nrm l1) (n2 : Bn.Nrm l2) (s0 : l0.length ≤ 30) (s1 : l1.length ≤ 30) (s2 : l2.length ≤ 30) :
    ∃ ab ba bc lf rg mab mba mbc mac ml mr di sm ze on oe no : List Int, bignat_Add.f l0 l1 = some (ab, 0) ∧ bignat_Add.f l1 l0 = some (ba, 0) ∧ bignat_Add.f l1 l2 = some (bc, 0) ∧ bignat_Add.f ab l2 = some (lf, 0) ∧ bignat_Add.f l0 bc = some (rg, 0) ∧ bignat_Mul.f 17000 l0 l1 = some (mab, 0) ∧ bignat_Mul.f 17000 l1 l0 = some (mba, 0) ∧ bignat_Mul.f 17000 l1 l2 = some (mbc, 0) ∧ bignat_Mul.f 17000 l0 l2 = some (mac, 0) ∧ bignat_Mul.f 17000 mab l2 = some (ml, 0) ∧ bignat_Mul.f 17000 l0 mbc = some (mr, 0) ∧ bignat_Mul.f 17000 l0 bc = some (di, 0) ∧ bignat_Add.f mab mac = some (sm, 0) ∧ bignat_Add.f l0 ([] : List Int) = some (ze, 0) ∧ bignat_FromUint.f 10 1 = some on ∧ bignat_Mul.f 17000 l0 on = some (oe, 0) ∧ bignat_Mul.f 17000 l0 ([] : List Int) = some (no, 0) ∧ lineagelaw03_same.f 200 ab ba = some true ∧ lineagelaw03_same.f 200 lf rg = some true ∧ lineagelaw03_same.f 200 mab mba = some true ∧ lineagelaw03_same.f 200 ml mr = some true ∧ lineagelaw03_same.f 200 di sm = some true ∧ lineagelaw03_same.f 200 ze l0 = some true ∧ lineagelaw03_same.f 200 oe l0 = some true ∧ no = [] := by
  have nn := Bn.nrm_nil
  have hz0 : ([] : List Int).length = 0 := rfl
  obtain ⟨ab, f_ab, n_ab, v_ab, b_ab⟩ := add_fit (n := 30) n0 n1 (by have := s0; omega) (by have := s1; omega) (by decide)
  obtain ⟨ba, f_ba, n_ba, v_ba, b_ba⟩ := add_fit (n := 30) n1 n0 (by have := s1; omega) (by have := s0; omega) (by decide)
  obtain ⟨bc, f_bc, n_bc, v_bc, b_bc⟩ := add_fit (n := 30) n1 n2 (by have := s1; omega) (by have := s2; omega) (by decide)
  obtain ⟨lf, f_lf, n_lf, v_lf, b_lf⟩ := add_fit (n := 31) n_ab n2 (by have := b_ab; omega) (by have := s2; omega) (by decide)
  obtain ⟨rg, f_rg, n_rg, v_rg, b_rg⟩ := add_fit (n := 31) n0 n_bc (by have := s0; omega) (by have := b_bc; omega) (by decide)
  obtain ⟨mab, f_mab, n_mab, v_mab, b_mab⟩ := mul_fit (n := 30) (m := 30) n0 n1 (by have := s0; omega) (by have := s1; omega) (by decide)
  obtain ⟨mba, f_mba, n_mba, v_mba, b_mba⟩ := mul_fit (n := 30) (m := 30) n1 n0 (by have := s1; omega) (by have := s0; omega) (by decide)
  obtain ⟨mbc, f_mbc, n_mbc, v_mbc, b_mbc⟩ := mul_fit (n := 30) (m := 30) n1 n2 (by have := s1; omega) (by have := s2; omega) (by decide)
  obtain ⟨mac, f_mac, n_mac, v_mac, b_mac⟩ := mul_fit (n := 30) (m := 30) n0 n2 (by have := s0; omega) (by have := s2; omega) (by decide)
  obtain ⟨ml, f_ml, n_ml, v_ml, b_ml⟩ := mul_fit (n := 60) (m := 30) n_mab n2 (by have := b_mab; omega) (by have := s2; omega) (by decide)
  obtain ⟨mr, f_mr, n_mr, v_mr, b_mr⟩ := mul_fit (n := 30) (m := 60) n0 n_mbc (by have := s0; omega) (by have := b_mbc; omega) (by decide)
  obtain ⟨di, f_di, n_di, v_di, b_di⟩ := mul_fit (n := 30) (m := 31) n0 n_bc (by have := s0; omega) (by have := b_bc; omega) (by decide)
  obtain ⟨sm, f_sm, n_sm, v_sm, b_sm⟩ := add_fit (n := 60) n_mab n_mac (by have := b_mab; omega) (by have := b_mac; omega) (by decide)
  obtain ⟨ze, f_ze, n_ze, v_ze, b_ze⟩ := add_fit (n := 30) n0 nn (by have := s0; omega) (by have := hz0; omega) (by decide)
  obtain ⟨on, f_on, n_on, v_on, b_on⟩ : ∃ z, bignat_FromUint.f 10 1 = some z ∧ Bn.Nrm z ∧ Bn.nv z = 1 ∧ z.length ≤ 1 := ⟨_, FromUint_f (by decide) (by decide) (by decide), Bn.nrm_limbs _, Bn.nv_limbs _, (Bn.limbs_len _ _).2 (by decide)⟩
  obtain ⟨oe, f_oe, n_oe, v_oe, b_oe⟩ := mul_fit (n := 30) (m := 1) n0 n_on (by have := s0; omega) (by have := b_on; omega) (by decide)
  obtain ⟨no, f_no, n_no, v_no, b_no⟩ := mul_fit (n := 30) (m := 0) n0 nn (by have := s0; omega) (by have := hz0; omega) (by decide)
  refine ⟨ab, ba, bc, lf, rg, mab, mba, mbc, mac, ml, mr, di, sm, ze, on, oe, no, f_ab, f_ba, f_bc, f_lf, f_rg, f_mab, f_mba, f_mbc, f_mac, f_ml, f_mr, f_di, f_sm, f_ze, f_on, f_oe, f_no, ?_, ?_, ?_, ?_, ?_, ?_, ?_, ?_⟩
  · refine same_same n_ab n_ba (by omega) ?_
    simp only [v_ab, v_ba, v_bc, v_lf, v_rg, v_mab, v_mba, v_mbc, v_mac, v_ml, v_mr, v_di, v_sm, v_ze, v_on, v_oe]
    exact Nat.add_comm _ _
  · refine same_same n_lf n_rg (by omega) ?_
    simp only [v_ab, v_ba, v_bc, v_lf, v_rg, v_mab, v_mba, v_mbc, v_mac, v_ml, v_mr, v_di, v_sm, v_ze, v_on, v_oe]
    exact Nat.add_assoc _ _ _
  · refine same_same n_mab n_mba (by omega) ?_
    simp only [v_ab, v_ba, v_bc, v_lf, v_rg, v_mab, v_mba, v_mbc, v_mac, v_ml, v_mr, v_di, v_sm, v_ze, v_on, v_oe]
    exact Nat.mul_comm _ _
  · refine same_same n_ml n_mr (by omega) ?_
    simp only [v_ab, v_ba, v_bc, v_lf, v_rg, v_mab, v_mba, v_mbc, v_mac, v_ml, v_mr, v_di, v_sm, v_ze, v_on, v_oe]
    exact Nat.mul_assoc _ _ _
  · refine same_same n_di n_sm (by omega) ?_
    simp only [v_ab, v_ba, v_bc, v_lf, v_rg, v_mab, v_mba, v_mbc, v_mac, v_ml, v_mr, v_di, v_sm, v_ze, v_on, v_oe]
    exact Nat.mul_add _ _ _
  · refine same_same n_ze n0 (by omega) ?_
    simp only [v_ab, v_ba, v_bc, v_lf, v_rg, v_mab, v_mba, v_mbc, v_mac, v_ml, v_mr, v_di, v_sm, v_ze, v_on, v_oe]
    exact Nat.add_zero _
  · refine same_same n_oe n0 (by omega) ?_
    simp only [v_ab, v_ba, v_bc, v_lf, v_rg, v_mab, v_mba, v_mbc, v_mac, v_ml, v_mr, v_di, v_sm, v_ze, v_on, v_oe]
    exact Nat.mul_one _
  · refine (Bn.nv_zero n_no).1 ?_
    rw [v_no]
    exact Nat.mul_zero _
set_option maxHeartbeats 16000000 in
set_option maxRecDepth 100000 in
theorem ringLaw (A0 : Option Addr) (c0 : Nat) (l0 : List Int) (A1 : Option Addr) (c1 : Nat) (l1 : List Int) (A2 : Option Addr) (c2 : Nat) (l2 : List Int) (w : World) (hr0 : Kd.C (Kd.int .u32) w A0 l0.length l0) (hc0 : l0.length ≤ c0) (hr1 : Kd.C (Kd.int .u32) w A1 l1.length l1) (hc1 : l1.length ≤ c1) (hr2 : Kd.C (Kd.int .u32) w A2 l2.length l2) (hc2 : l2.length ≤ c2) (ht_ : Tab w) (L0 : Bn.Limbs l0) (L1 : Bn.Limbs l1) (L2 : Bn.Limbs l2) :
    Calls Tryd.prog 4 #[.slice A0 l0.length c0, .slice A1 l1.length c1, .slice A2 l2.length c2] w fun e w' => e = .returned (.bool true) ∧ Below w.heap.size w w' := by
  have HT_ := Aside0.mk ht_
  clear ht_
  have C0 := Aside0.mk hr0
  have H0 := Aside0.mk hc0
  clear hr0 hc0
  have C1 := Aside0.mk hr1
  have H1 := Aside0.mk hc1
  clear hr1 hc1
  have C2 := Aside0.mk hr2
  have H2 := Aside0.mk hc2
  clear hr2 hc2
  have HB := Aside0.mk (Below.refl w.heap.size w)
  have hs0 : ∃ s : Bool, lineagelaw03_small.f 10 30 [l0, l1, l2] = some s ∧ (s = true → l0.length ≤ 30 ∧ l1.length ≤ 30 ∧ l2.length ≤ 30) := by
      refine ⟨_, small_f 30 [l0, l1, l2] (by simp) (by simp), fun h => ?_⟩
      simp at h
      omega
  obtain ⟨s, hs, hs2⟩ := hs0
  have hSm := Aside0.mk hs
  clear hs
  obtain ⟨p0, hp0⟩ : ∃ p, p = validB l0 := ⟨_, rfl⟩
  obtain ⟨p1, hp1⟩ : ∃ p, p = validB l1 := ⟨_, rfl⟩
  obtain ⟨p2, hp2⟩ : ∃ p, p = validB l2 := ⟨_, rfl⟩
  have hP0 := Aside0.mk (show bignat_Valid.f l0 = some p0 from hp0 ▸ Valid_f l0)
  have hP1 := Aside0.mk (show bignat_Valid.f l1 = some p1 from hp1 ▸ Valid_f l1)
  have hP2 := Aside0.mk (show bignat_Valid.f l2 = some p2 from hp2 ▸ Valid_f l2)
  have hf := Aside0.mk (show s = true → p0 = true → p1 = true → p2 = true → ∃ ab ba bc lf rg mab mba mbc mac ml mr di sm ze on oe no : List Int, bignat_Add.f l0 l1 = some (ab, 0) ∧ bignat_Add.f l1 l0 = some (ba, 0) ∧ bignat_Add.f l1 l2 = some (bc, 0) ∧ bignat_Add.f ab l2 = some (lf, 0) ∧ bignat_Add.f l0 bc = some (rg, 0) ∧ bignat_Mul.f 17000 l0 l1 = some (mab, 0) ∧ bignat_Mul.f 17000 l1 l0 = some (mba, 0) ∧ bignat_Mul.f 17000 l1 l2 = some (mbc, 0) ∧ bignat_Mul.f 17000 l0 l2 = some (mac, 0) ∧ bignat_Mul.f 17000 mab l2 = some (ml, 0) ∧ bignat_Mul.f 17000 l0 mbc = some (mr, 0) ∧ bignat_Mul.f 17000 l0 bc = some (di, 0) ∧ bignat_Add.f mab mac = some (sm, 0) ∧ bignat_Add.f l0 ([] : List Int) = some (ze, 0) ∧ bignat_FromUint.f 10 1 = some on ∧ bignat_Mul.f 17000 l0 on = some (oe, 0) ∧ bignat_Mul.f 17000 l0 ([] : List Int) = some (no, 0) ∧ lineagelaw03_same.f 200 ab ba = some true ∧ lineagelaw03_same.f 200 lf rg = some true ∧ lineagelaw03_same.f 200 mab mba = some true ∧ lineagelaw03_same.f 200 ml mr = some true ∧ lineagelaw03_same.f 200 di sm = some true ∧ lineagelaw03_same.f 200 ze l0 = some true ∧ lineagelaw03_same.f 200 oe l0 = some true ∧ no = [] from fun hs hq0 hq1 hq2 => by
      obtain ⟨z0, z1, z2⟩ := hs2 hs
      exact ringLaw_facts ((validB_iff L0).1 (hp0 ▸ hq0)).1 ((validB_iff L1).1 (hp1 ▸ hq1)).1 ((validB_iff L2).1 (hp2 ▸ hq2)).1 z0 z1 z2)
  clear hs2 hp0 hp1 hp2 L0 L1 L2
  go_enter Tryd.func4, Tryd.ntmps4
  go_wp2_with fail
  refine (lineagelaw03_awake.calls true w rfl (HT_.out.below HB.out)).mono ?_
  rintro e wa1 ⟨rfl, hb_⟩
  have C0_ := Aside0.mk (Kd.C_below C0.out hb_)
  clear C0
  have C0 := C0_
  clear C0_
  have C1_ := Aside0.mk (Kd.C_below C1.out hb_)
  clear C1
  have C1 := C1_
  clear C1_
  have C2_ := Aside0.mk (Kd.C_below C2.out hb_)
  clear C2
  have C2 := C2_
  clear C2_
  have HB_ := Aside0.mk (below_step HB.out hb_)
  clear HB
  have HB := HB_
  clear HB_
  clear hb_
  go_wp2_with (first | ((with_reducible refine gate_dst (N := 45) rfl ?_); (try (refine gate_guard (by rfl) ?_; dsimp only)); refine lits_event ?hg (N := 45) ?hd (LL := [l0, l1, l2]) (inner := [.slice A0 l0.length c0, .slice A1 l1.length c1, .slice A2 l2.length c2]) ?hr (Reps.one (Kd.FK_slice_mk (l := l0) H0.out (Kd.C_F (Kd.heap_int .u32) C0.out)) (Reps.one (Kd.FK_slice_mk (l := l1) H1.out (Kd.C_F (Kd.heap_int .u32) C1.out)) (Reps.one (Kd.FK_slice_mk (l := l2) H2.out (Kd.C_F (Kd.heap_int .u32) C2.out)) (Reps.none _ _)))) (by simp) ?_; (case hd => rfl); (case hg => rfl); (case hr => first | (go_simp; done) | (go_simp; rfl)); intro As cs wa2 hl_ hm_ hb_; have C0_ := Aside0.mk (Kd.C_below C0.out hb_); clear C0; have C0 := C0_; clear C0_; have C1_ := Aside0.mk (Kd.C_below C1.out hb_); clear C1; have C1 := C1_; clear C1_; have C2_ := Aside0.mk (Kd.C_below C2.out hb_); clear C2; have C2 := C2_; clear C2_; have HB_ := Aside0.mk (below_step HB.out hb_); clear HB; have HB := HB_; clear HB_; have Ds := Aside0.mk hl_; have Es := Aside0.mk hm_; clear hl_ hm_ hb_))
  refine (lineagelaw03_small.calls 10 30 As cs [l0, l1, l2] s wa2 Ds.out Es.out hSm.out).mono ?_
  rintro e wa3 ⟨rfl, hd_⟩
  have hb_ := hd_.below
  have C0_ := Aside0.mk (Kd.C_below C0.out hb_)
  clear C0
  have C0 := C0_
  clear C0_
  have C1_ := Aside0.mk (Kd.C_below C1.out hb_)
  clear C1
  have C1 := C1_
  clear C1_
  have C2_ := Aside0.mk (Kd.C_below C2.out hb_)
  clear C2
  have C2 := C2_
  clear C2_
  have HB_ := Aside0.mk (below_step HB.out hb_)
  clear HB
  have HB := HB_
  clear HB_
  clear hb_ hd_
  clear Ds Es
  cases s with
  | false =>
    go_wp2_with fail
    refine (lineagelaw03_awake.calls true wa3 rfl (HT_.out.below HB.out)).mono ?_
    rintro e wa4 ⟨rfl, hb_⟩
    have C0_ := Aside0.mk (Kd.C_below C0.out hb_)
    clear C0
    have C0 := C0_
    clear C0_
    have C1_ := Aside0.mk (Kd.C_below C1.out hb_)
    clear C1
    have C1 := C1_
    clear C1_
    have C2_ := Aside0.mk (Kd.C_below C2.out hb_)
    clear C2
    have C2 := C2_
    clear C2_
    have HB_ := Aside0.mk (below_step HB.out hb_)
    clear HB
    have HB := HB_
    clear HB_
    clear hb_
    go_wp2_with fail
    go_ret
    exact ⟨rfl, HB.out⟩
  | true =>
    go_wp2_with fail
    refine (bignat_Valid.calls  A0 c0 l0 p0 wa3 C0.out H0.out hP0.out).mono ?_
    rintro e wa4 ⟨rfl, hd_⟩
    have hb_ := hd_.below
    have C0_ := Aside0.mk (Kd.C_below C0.out hb_)
    clear C0
    have C0 := C0_
    clear C0_
    have C1_ := Aside0.mk (Kd.C_below C1.out hb_)
    clear C1
    have C1 := C1_
    clear C1_
    have C2_ := Aside0.mk (Kd.C_below C2.out hb_)
    clear C2
    have C2 := C2_
    clear C2_
    have HB_ := Aside0.mk (below_step HB.out hb_)
    clear HB
    have HB := HB_
    clear HB_
    clear hb_ hd_
    cases p0 with
    | false =>
      go_wp2_with fail
      refine (lineagelaw03_awake.calls true wa4 rfl (HT_.out.below HB.out)).mono ?_
      rintro e wa5 ⟨rfl, hb_⟩
      have C0_ := Aside0.mk (Kd.C_below C0.out hb_)
      clear C0
      have C0 := C0_
      clear C0_
      have C1_ := Aside0.mk (Kd.C_below C1.out hb_)
      clear C1
      have C1 := C1_
      clear C1_
      have C2_ := Aside0.mk (Kd.C_below C2.out hb_)
      clear C2
      have C2 := C2_
      clear C2_
      have HB_ := Aside0.mk (below_step HB.out hb_)
      clear HB
      have HB := HB_
      clear HB_
      clear hb_
      go_wp2_with fail
      go_ret
      exact ⟨rfl, HB.out⟩
    | true =>
      go_wp2_with fail
      refine (bignat_Valid.calls  A1 c1 l1 p1 wa4 C1.out H1.out hP1.out).mono ?_
      rintro e wa5 ⟨rfl, hd_⟩
      have hb_ := hd_.below
      have C0_ := Aside0.mk (Kd.C_below C0.out hb_)
      clear C0
      have C0 := C0_
      clear C0_
      have C1_ := Aside0.mk (Kd.C_below C1.out hb_)
      clear C1
      have C1 := C1_
      clear C1_
      have C2_ := Aside0.mk (Kd.C_below C2.out hb_)
      clear C2
      have C2 := C2_
      clear C2_
      have HB_ := Aside0.mk (below_step HB.out hb_)
      clear HB
      have HB := HB_
      clear HB_
      clear hb_ hd_
      cases p1 with
      | false =>
        go_wp2_with fail
        refine (lineagelaw03_awake.calls true wa5 rfl (HT_.out.below HB.out)).mono ?_
        rintro e wa6 ⟨rfl, hb_⟩
        have C0_ := Aside0.mk (Kd.C_below C0.out hb_)
        clear C0
        have C0 := C0_
        clear C0_
        have C1_ := Aside0.mk (Kd.C_below C1.out hb_)
        clear C1
        have C1 := C1_
        clear C1_
        have C2_ := Aside0.mk (Kd.C_below C2.out hb_)
        clear C2
        have C2 := C2_
        clear C2_
        have HB_ := Aside0.mk (below_step HB.out hb_)
        clear HB
        have HB := HB_
        clear HB_
        clear hb_
        go_wp2_with fail
        go_ret
        exact ⟨rfl, HB.out⟩
      | true =>
        go_wp2_with fail
        refine (bignat_Valid.calls  A2 c2 l2 p2 wa5 C2.out H2.out hP2.out).mono ?_
        rintro e wa6 ⟨rfl, hd_⟩
        have hb_ := hd_.below
        have C0_ := Aside0.mk (Kd.C_below C0.out hb_)
        clear C0
        have C0 := C0_
        clear C0_
        have C1_ := Aside0.mk (Kd.C_below C1.out hb_)
        clear C1
        have C1 := C1_
        clear C1_
        have C2_ := Aside0.mk (Kd.C_below C2.out hb_)
        clear C2
        have C2 := C2_
        clear C2_
        have HB_ := Aside0.mk (below_step HB.out hb_)
        clear HB
        have HB := HB_
        clear HB_
        clear hb_ hd_
        cases p2 with
        | false =>
          go_wp2_with fail
          refine (lineagelaw03_awake.calls true wa6 rfl (HT_.out.below HB.out)).mono ?_
          rintro e wa7 ⟨rfl, hb_⟩
          have C0_ := Aside0.mk (Kd.C_below C0.out hb_)
          clear C0
          have C0 := C0_
          clear C0_
          have C1_ := Aside0.mk (Kd.C_below C1.out hb_)
          clear C1
          have C1 := C1_
          clear C1_
          have C2_ := Aside0.mk (Kd.C_below C2.out hb_)
          clear C2
          have C2 := C2_
          clear C2_
          have HB_ := Aside0.mk (below_step HB.out hb_)
          clear HB
          have HB := HB_
          clear HB_
          clear hb_
          go_wp2_with fail
          go_ret
          exact ⟨rfl, HB.out⟩
        | true =>
          obtain ⟨ab, ba, bc, lf, rg, mab, mba, mbc, mac, ml, mr, di, sm, ze, on, oe, no, f_ab, f_ba, f_bc, f_lf, f_rg, f_mab, f_mba, f_mbc, f_mac, f_ml, f_mr, f_di, f_sm, f_ze, f_on, f_oe, f_no, s_0, s_1, s_2, s_3, s_4, s_5, s_6, hno⟩ := hf.out (by trivial) (by trivial) (by trivial) (by trivial)
          clear hf
          have f_ab_ := Aside0.mk f_ab
          clear f_ab
          have f_ab := f_ab_
          clear f_ab_
          have f_ba_ := Aside0.mk f_ba
          clear f_ba
          have f_ba := f_ba_
          clear f_ba_
          have f_bc_ := Aside0.mk f_bc
          clear f_bc
          have f_bc := f_bc_
          clear f_bc_
          have f_lf_ := Aside0.mk f_lf
          clear f_lf
          have f_lf := f_lf_
          clear f_lf_
          have f_rg_ := Aside0.mk f_rg
          clear f_rg
          have f_rg := f_rg_
          clear f_rg_
          have f_mab_ := Aside0.mk f_mab
          clear f_mab
          have f_mab := f_mab_
          clear f_mab_
          have f_mba_ := Aside0.mk f_mba
          clear f_mba
          have f_mba := f_mba_
          clear f_mba_
          have f_mbc_ := Aside0.mk f_mbc
          clear f_mbc
          have f_mbc := f_mbc_
          clear f_mbc_
          have f_mac_ := Aside0.mk f_mac
          clear f_mac
          have f_mac := f_mac_
          clear f_mac_
          have f_ml_ := Aside0.mk f_ml
          clear f_ml
          have f_ml := f_ml_
          clear f_ml_
          have f_mr_ := Aside0.mk f_mr
          clear f_mr
          have f_mr := f_mr_
          clear f_mr_
          have f_di_ := Aside0.mk f_di
          clear f_di
          have f_di := f_di_
          clear f_di_
          have f_sm_ := Aside0.mk f_sm
          clear f_sm
          have f_sm := f_sm_
          clear f_sm_
          have f_ze_ := Aside0.mk f_ze
          clear f_ze
          have f_ze := f_ze_
          clear f_ze_
          have f_on_ := Aside0.mk f_on
          clear f_on
          have f_on := f_on_
          clear f_on_
          have f_oe_ := Aside0.mk f_oe
          clear f_oe
          have f_oe := f_oe_
          clear f_oe_
          have f_no_ := Aside0.mk f_no
          clear f_no
          have f_no := f_no_
          clear f_no_
          have s_0_ := Aside0.mk s_0
          clear s_0
          have s_0 := s_0_
          clear s_0_
          have s_1_ := Aside0.mk s_1
          clear s_1
          have s_1 := s_1_
          clear s_1_
          have s_2_ := Aside0.mk s_2
          clear s_2
          have s_2 := s_2_
          clear s_2_
          have s_3_ := Aside0.mk s_3
          clear s_3
          have s_3 := s_3_
          clear s_3_
          have s_4_ := Aside0.mk s_4
          clear s_4
          have s_4 := s_4_
          clear s_4_
          have s_5_ := Aside0.mk s_5
          clear s_5
          have s_5 := s_5_
          clear s_5_
          have s_6_ := Aside0.mk s_6
          clear s_6
          have s_6 := s_6_
          clear s_6_
          subst hno
          have Cn := Aside0.mk (nilC wa6)
          have Hn := Aside0.mk (Nat.le_refl 0)
          go_wp2_with fail
          refine (bignat_Add.calls  A0 c0 l0 A1 c1 l1 ab 0 wa6 C0.out H0.out C1.out H1.out f_ab.out).mono ?_
          rintro e wa7 ⟨vab_, rfl, hrab_, hb_⟩
          have C0_ := Aside0.mk (Kd.C_below C0.out hb_)
          clear C0
          have C0 := C0_
          clear C0_
          have C1_ := Aside0.mk (Kd.C_below C1.out hb_)
          clear C1
          have C1 := C1_
          clear C1_
          have C2_ := Aside0.mk (Kd.C_below C2.out hb_)
          clear C2
          have C2 := C2_
          clear C2_
          have Cn_ := Aside0.mk (Kd.C_below Cn.out hb_)
          clear Cn
          have Cn := Cn_
          clear Cn_
          have HB_ := Aside0.mk (below_step HB.out hb_)
          clear HB
          have HB := HB_
          clear HB_
          obtain ⟨Aab, cab, rfl⟩ := Kd.R_slice hrab_
          have Cab := Aside0.mk (Kd.R_reads' hrab_).2.2
          have Hab := Aside0.mk (show ab.length ≤ cab from (Kd.R_reads' hrab_).2.1)
          clear hrab_ hb_
          go_wp2_with fail
          refine (bignat_Add.calls  A1 c1 l1 A0 c0 l0 ba 0 wa7 C1.out H1.out C0.out H0.out f_ba.out).mono ?_
          rintro e wa8 ⟨vba_, rfl, hrba_, hb_⟩
          have C0_ := Aside0.mk (Kd.C_below C0.out hb_)
          clear C0
          have C0 := C0_
          clear C0_
          have C1_ := Aside0.mk (Kd.C_below C1.out hb_)
          clear C1
          have C1 := C1_
          clear C1_
          have C2_ := Aside0.mk (Kd.C_below C2.out hb_)
          clear C2
          have C2 := C2_
          clear C2_
          have Cn_ := Aside0.mk (Kd.C_below Cn.out hb_)
          clear Cn
          have Cn := Cn_
          clear Cn_
          have Cab_ := Aside0.mk (Kd.C_below Cab.out hb_)
          clear Cab
          have Cab := Cab_
          clear Cab_
          have HB_ := Aside0.mk (below_step HB.out hb_)
          clear HB
          have HB := HB_
          clear HB_
          obtain ⟨Aba, cba, rfl⟩ := Kd.R_slice hrba_
          have Cba := Aside0.mk (Kd.R_reads' hrba_).2.2
          have Hba := Aside0.mk (show ba.length ≤ cba from (Kd.R_reads' hrba_).2.1)
          clear hrba_ hb_
          go_wp2_with fail
          refine (bignat_Add.calls  A1 c1 l1 A2 c2 l2 bc 0 wa8 C1.out H1.out C2.out H2.out f_bc.out).mono ?_
          rintro e wa9 ⟨vbc_, rfl, hrbc_, hb_⟩
          have C0_ := Aside0.mk (Kd.C_below C0.out hb_)
          clear C0
          have C0 := C0_
          clear C0_
          have C1_ := Aside0.mk (Kd.C_below C1.out hb_)
          clear C1
          have C1 := C1_
          clear C1_
          have C2_ := Aside0.mk (Kd.C_below C2.out hb_)
          clear C2
          have C2 := C2_
          clear C2_
          have Cn_ := Aside0.mk (Kd.C_below Cn.out hb_)
          clear Cn
          have Cn := Cn_
          clear Cn_
          have Cab_ := Aside0.mk (Kd.C_below Cab.out hb_)
          clear Cab
          have Cab := Cab_
          clear Cab_
          have Cba_ := Aside0.mk (Kd.C_below Cba.out hb_)
          clear Cba
          have Cba := Cba_
          clear Cba_
          have HB_ := Aside0.mk (below_step HB.out hb_)
          clear HB
          have HB := HB_
          clear HB_
          obtain ⟨Abc, cbc, rfl⟩ := Kd.R_slice hrbc_
          have Cbc := Aside0.mk (Kd.R_reads' hrbc_).2.2
          have Hbc := Aside0.mk (show bc.length ≤ cbc from (Kd.R_reads' hrbc_).2.1)
          clear hrbc_ hb_
          go_wp2_with fail
          refine (bignat_Add.calls  Aab cab ab A2 c2 l2 lf 0 wa9 Cab.out Hab.out C2.out H2.out f_lf.out).mono ?_
          rintro e wa10 ⟨vlf_, rfl, hrlf_, hb_⟩
          have C0_ := Aside0.mk (Kd.C_below C0.out hb_)
          clear C0
          have C0 := C0_
          clear C0_
          have C1_ := Aside0.mk (Kd.C_below C1.out hb_)
          clear C1
          have C1 := C1_
          clear C1_
          have C2_ := Aside0.mk (Kd.C_below C2.out hb_)
          clear C2
          have C2 := C2_
          clear C2_
          have Cn_ := Aside0.mk (Kd.C_below Cn.out hb_)
          clear Cn
          have Cn := Cn_
          clear Cn_
          have Cab_ := Aside0.mk (Kd.C_below Cab.out hb_)
          clear Cab
          have Cab := Cab_
          clear Cab_
          have Cba_ := Aside0.mk (Kd.C_below Cba.out hb_)
          clear Cba
          have Cba := Cba_
          clear Cba_
          have Cbc_ := Aside0.mk (Kd.C_below Cbc.out hb_)
          clear Cbc
          have Cbc := Cbc_
          clear Cbc_
          have HB_ := Aside0.mk (below_step HB.out hb_)
          clear HB
          have HB := HB_
          clear HB_
          obtain ⟨Alf, clf, rfl⟩ := Kd.R_slice hrlf_
          have Clf := Aside0.mk (Kd.R_reads' hrlf_).2.2
          have Hlf := Aside0.mk (show lf.length ≤ clf from (Kd.R_reads' hrlf_).2.1)
          clear hrlf_ hb_
          go_wp2_with fail
          refine (bignat_Add.calls  A0 c0 l0 Abc cbc bc rg 0 wa10 C0.out H0.out Cbc.out Hbc.out f_rg.out).mono ?_
          rintro e wa11 ⟨vrg_, rfl, hrrg_, hb_⟩
          have C0_ := Aside0.mk (Kd.C_below C0.out hb_)
          clear C0
          have C0 := C0_
          clear C0_
          have C1_ := Aside0.mk (Kd.C_below C1.out hb_)
          clear C1
          have C1 := C1_
          clear C1_
          have C2_ := Aside0.mk (Kd.C_below C2.out hb_)
          clear C2
          have C2 := C2_
          clear C2_
          have Cn_ := Aside0.mk (Kd.C_below Cn.out hb_)
          clear Cn
          have Cn := Cn_
          clear Cn_
          have Cab_ := Aside0.mk (Kd.C_below Cab.out hb_)
          clear Cab
          have Cab := Cab_
          clear Cab_
          have Cba_ := Aside0.mk (Kd.C_below Cba.out hb_)
          clear Cba
          have Cba := Cba_
          clear Cba_
          have Cbc_ := Aside0.mk (Kd.C_below Cbc.out hb_)
          clear Cbc
          have Cbc := Cbc_
          clear Cbc_
          have Clf_ := Aside0.mk (Kd.C_below Clf.out hb_)
          clear Clf
          have Clf := Clf_
          clear Clf_
          have HB_ := Aside0.mk (below_step HB.out hb_)
          clear HB
          have HB := HB_
          clear HB_
          obtain ⟨Arg, crg, rfl⟩ := Kd.R_slice hrrg_
          have Crg := Aside0.mk (Kd.R_reads' hrrg_).2.2
          have Hrg := Aside0.mk (show rg.length ≤ crg from (Kd.R_reads' hrrg_).2.1)
          clear hrrg_ hb_
          go_wp2_with fail
          refine (bignat_Mul.calls 17000 A0 c0 l0 A1 c1 l1 mab 0 wa11 C0.out H0.out C1.out H1.out f_mab.out).mono ?_
          rintro e wa12 ⟨vmab_, rfl, hrmab_, hb_⟩
          have C0_ := Aside0.mk (Kd.C_below C0.out hb_)
          clear C0
          have C0 := C0_
          clear C0_
          have C1_ := Aside0.mk (Kd.C_below C1.out hb_)
          clear C1
          have C1 := C1_
          clear C1_
          have C2_ := Aside0.mk (Kd.C_below C2.out hb_)
          clear C2
          have C2 := C2_
          clear C2_
          have Cn_ := Aside0.mk (Kd.C_below Cn.out hb_)
          clear Cn
          have Cn := Cn_
          clear Cn_
          have Cab_ := Aside0.mk (Kd.C_below Cab.out hb_)
          clear Cab
          have Cab := Cab_
          clear Cab_
          have Cba_ := Aside0.mk (Kd.C_below Cba.out hb_)
          clear Cba
          have Cba := Cba_
          clear Cba_
          have Cbc_ := Aside0.mk (Kd.C_below Cbc.out hb_)
          clear Cbc
          have Cbc := Cbc_
          clear Cbc_
          have Clf_ := Aside0.mk (Kd.C_below Clf.out hb_)
          clear Clf
          have Clf := Clf_
          clear Clf_
          have Crg_ := Aside0.mk (Kd.C_below Crg.out hb_)
          clear Crg
          have Crg := Crg_
          clear Crg_
          have HB_ := Aside0.mk (below_step HB.out hb_)
          clear HB
          have HB := HB_
          clear HB_
          obtain ⟨Amab, cmab, rfl⟩ := Kd.R_slice hrmab_
          have Cmab := Aside0.mk (Kd.R_reads' hrmab_).2.2
          have Hmab := Aside0.mk (show mab.length ≤ cmab from (Kd.R_reads' hrmab_).2.1)
          clear hrmab_ hb_
          go_wp2_with fail
          refine (bignat_Mul.calls 17000 A1 c1 l1 A0 c0 l0 mba 0 wa12 C1.out H1.out C0.out H0.out f_mba.out).mono ?_
          rintro e wa13 ⟨vmba_, rfl, hrmba_, hb_⟩
          have C0_ := Aside0.mk (Kd.C_below C0.out hb_)
          clear C0
          have C0 := C0_
          clear C0_
          have C1_ := Aside0.mk (Kd.C_below C1.out hb_)
          clear C1
          have C1 := C1_
          clear C1_
          have C2_ := Aside0.mk (Kd.C_below C2.out hb_)
          clear C2
          have C2 := C2_
          clear C2_
          have Cn_ := Aside0.mk (Kd.C_below Cn.out hb_)
          clear Cn
          have Cn := Cn_
          clear Cn_
          have Cab_ := Aside0.mk (Kd.C_below Cab.out hb_)
          clear Cab
          have Cab := Cab_
          clear Cab_
          have Cba_ := Aside0.mk (Kd.C_below Cba.out hb_)
          clear Cba
          have Cba := Cba_
          clear Cba_
          have Cbc_ := Aside0.mk (Kd.C_below Cbc.out hb_)
          clear Cbc
          have Cbc := Cbc_
          clear Cbc_
          have Clf_ := Aside0.mk (Kd.C_below Clf.out hb_)
          clear Clf
          have Clf := Clf_
          clear Clf_
          have Crg_ := Aside0.mk (Kd.C_below Crg.out hb_)
          clear Crg
          have Crg := Crg_
          clear Crg_
          have Cmab_ := Aside0.mk (Kd.C_below Cmab.out hb_)
          clear Cmab
          have Cmab := Cmab_
          clear Cmab_
          have HB_ := Aside0.mk (below_step HB.out hb_)
          clear HB
          have HB := HB_
          clear HB_
          obtain ⟨Amba, cmba, rfl⟩ := Kd.R_slice hrmba_
          have Cmba := Aside0.mk (Kd.R_reads' hrmba_).2.2
          have Hmba := Aside0.mk (show mba.length ≤ cmba from (Kd.R_reads' hrmba_).2.1)
          clear hrmba_ hb_
          go_wp2_with fail
          refine (bignat_Mul.calls 17000 A1 c1 l1 A2 c2 l2 mbc 0 wa13 C1.out H1.out C2.out H2.out f_mbc.out).mono ?_
          rintro e wa14 ⟨vmbc_, rfl, hrmbc_, hb_⟩
          have C0_ := Aside0.mk (Kd.C_below C0.out hb_)
          clear C0
          have C0 := C0_
          clear C0_
          have C1_ := Aside0.mk (Kd.C_below C1.out hb_)
          clear C1
          have C1 := C1_
          clear C1_
          have C2_ := Aside0.mk (Kd.C_below C2.out hb_)
          clear C2
          have C2 := C2_
          clear C2_
          have Cn_ := Aside0.mk (Kd.C_below Cn.out hb_)
          clear Cn
          have Cn := Cn_
          clear Cn_
          have Cab_ := Aside0.mk (Kd.C_below Cab.out hb_)
          clear Cab
          have Cab := Cab_
          clear Cab_
          have Cba_ := Aside0.mk (Kd.C_below Cba.out hb_)
          clear Cba
          have Cba := Cba_
          clear Cba_
          have Cbc_ := Aside0.mk (Kd.C_below Cbc.out hb_)
          clear Cbc
          have Cbc := Cbc_
          clear Cbc_
          have Clf_ := Aside0.mk (Kd.C_below Clf.out hb_)
          clear Clf
          have Clf := Clf_
          clear Clf_
          have Crg_ := Aside0.mk (Kd.C_below Crg.out hb_)
          clear Crg
          have Crg := Crg_
          clear Crg_
          have Cmab_ := Aside0.mk (Kd.C_below Cmab.out hb_)
          clear Cmab
          have Cmab := Cmab_
          clear Cmab_
          have Cmba_ := Aside0.mk (Kd.C_below Cmba.out hb_)
          clear Cmba
          have Cmba := Cmba_
          clear Cmba_
          have HB_ := Aside0.mk (below_step HB.out hb_)
          clear HB
          have HB := HB_
          clear HB_
          obtain ⟨Ambc, cmbc, rfl⟩ := Kd.R_slice hrmbc_
          have Cmbc := Aside0.mk (Kd.R_reads' hrmbc_).2.2
          have Hmbc := Aside0.mk (show mbc.length ≤ cmbc from (Kd.R_reads' hrmbc_).2.1)
          clear hrmbc_ hb_
          clear C1 H1
          go_wp2_with fail
          refine (bignat_Mul.calls 17000 A0 c0 l0 A2 c2 l2 mac 0 wa14 C0.out H0.out C2.out H2.out f_mac.out).mono ?_
          rintro e wa15 ⟨vmac_, rfl, hrmac_, hb_⟩
          have C0_ := Aside0.mk (Kd.C_below C0.out hb_)
          clear C0
          have C0 := C0_
          clear C0_
          have C2_ := Aside0.mk (Kd.C_below C2.out hb_)
          clear C2
          have C2 := C2_
          clear C2_
          have Cn_ := Aside0.mk (Kd.C_below Cn.out hb_)
          clear Cn
          have Cn := Cn_
          clear Cn_
          have Cab_ := Aside0.mk (Kd.C_below Cab.out hb_)
          clear Cab
          have Cab := Cab_
          clear Cab_
          have Cba_ := Aside0.mk (Kd.C_below Cba.out hb_)
          clear Cba
          have Cba := Cba_
          clear Cba_
          have Cbc_ := Aside0.mk (Kd.C_below Cbc.out hb_)
          clear Cbc
          have Cbc := Cbc_
          clear Cbc_
          have Clf_ := Aside0.mk (Kd.C_below Clf.out hb_)
          clear Clf
          have Clf := Clf_
          clear Clf_
          have Crg_ := Aside0.mk (Kd.C_below Crg.out hb_)
          clear Crg
          have Crg := Crg_
          clear Crg_
          have Cmab_ := Aside0.mk (Kd.C_below Cmab.out hb_)
          clear Cmab
          have Cmab := Cmab_
          clear Cmab_
          have Cmba_ := Aside0.mk (Kd.C_below Cmba.out hb_)
          clear Cmba
          have Cmba := Cmba_
          clear Cmba_
          have Cmbc_ := Aside0.mk (Kd.C_below Cmbc.out hb_)
          clear Cmbc
          have Cmbc := Cmbc_
          clear Cmbc_
          have HB_ := Aside0.mk (below_step HB.out hb_)
          clear HB
          have HB := HB_
          clear HB_
          obtain ⟨Amac, cmac, rfl⟩ := Kd.R_slice hrmac_
          have Cmac := Aside0.mk (Kd.R_reads' hrmac_).2.2
          have Hmac := Aside0.mk (show mac.length ≤ cmac from (Kd.R_reads' hrmac_).2.1)
          clear hrmac_ hb_
          go_wp2_with fail
          refine (bignat_Mul.calls 17000 Amab cmab mab A2 c2 l2 ml 0 wa15 Cmab.out Hmab.out C2.out H2.out f_ml.out).mono ?_
          rintro e wa16 ⟨vml_, rfl, hrml_, hb_⟩
          have C0_ := Aside0.mk (Kd.C_below C0.out hb_)
          clear C0
          have C0 := C0_
          clear C0_
          have C2_ := Aside0.mk (Kd.C_below C2.out hb_)
          clear C2
          have C2 := C2_
          clear C2_
          have Cn_ := Aside0.mk (Kd.C_below Cn.out hb_)
          clear Cn
          have Cn := Cn_
          clear Cn_
          have Cab_ := Aside0.mk (Kd.C_below Cab.out hb_)
          clear Cab
          have Cab := Cab_
          clear Cab_
          have Cba_ := Aside0.mk (Kd.C_below Cba.out hb_)
          clear Cba
          have Cba := Cba_
          clear Cba_
          have Cbc_ := Aside0.mk (Kd.C_below Cbc.out hb_)
          clear Cbc
          have Cbc := Cbc_
          clear Cbc_
          have Clf_ := Aside0.mk (Kd.C_below Clf.out hb_)
          clear Clf
          have Clf := Clf_
          clear Clf_
          have Crg_ := Aside0.mk (Kd.C_below Crg.out hb_)
          clear Crg
          have Crg := Crg_
          clear Crg_
          have Cmab_ := Aside0.mk (Kd.C_below Cmab.out hb_)
          clear Cmab
          have Cmab := Cmab_
          clear Cmab_
          have Cmba_ := Aside0.mk (Kd.C_below Cmba.out hb_)
          clear Cmba
          have Cmba := Cmba_
          clear Cmba_
          have Cmbc_ := Aside0.mk (Kd.C_below Cmbc.out hb_)
          clear Cmbc
          have Cmbc := Cmbc_
          clear Cmbc_
          have Cmac_ := Aside0.mk (Kd.C_below Cmac.out hb_)
          clear Cmac
          have Cmac := Cmac_
          clear Cmac_
          have HB_ := Aside0.mk (below_step HB.out hb_)
          clear HB
          have HB := HB_
          clear HB_
          obtain ⟨Aml, cml, rfl⟩ := Kd.R_slice hrml_
          have Cml := Aside0.mk (Kd.R_reads' hrml_).2.2
          have Hml := Aside0.mk (show ml.length ≤ cml from (Kd.R_reads' hrml_).2.1)
          clear hrml_ hb_
          clear C2 H2
          go_wp2_with fail
          refine (bignat_Mul.calls 17000 A0 c0 l0 Ambc cmbc mbc mr 0 wa16 C0.out H0.out Cmbc.out Hmbc.out f_mr.out).mono ?_
          rintro e wa17 ⟨vmr_, rfl, hrmr_, hb_⟩
          have C0_ := Aside0.mk (Kd.C_below C0.out hb_)
          clear C0
          have C0 := C0_
          clear C0_
          have Cn_ := Aside0.mk (Kd.C_below Cn.out hb_)
          clear Cn
          have Cn := Cn_
          clear Cn_
          have Cab_ := Aside0.mk (Kd.C_below Cab.out hb_)
          clear Cab
          have Cab := Cab_
          clear Cab_
          have Cba_ := Aside0.mk (Kd.C_below Cba.out hb_)
          clear Cba
          have Cba := Cba_
          clear Cba_
          have Cbc_ := Aside0.mk (Kd.C_below Cbc.out hb_)
          clear Cbc
          have Cbc := Cbc_
          clear Cbc_
          have Clf_ := Aside0.mk (Kd.C_below Clf.out hb_)
          clear Clf
          have Clf := Clf_
          clear Clf_
          have Crg_ := Aside0.mk (Kd.C_below Crg.out hb_)
          clear Crg
          have Crg := Crg_
          clear Crg_
          have Cmab_ := Aside0.mk (Kd.C_below Cmab.out hb_)
          clear Cmab
          have Cmab := Cmab_
          clear Cmab_
          have Cmba_ := Aside0.mk (Kd.C_below Cmba.out hb_)
          clear Cmba
          have Cmba := Cmba_
          clear Cmba_
          have Cmbc_ := Aside0.mk (Kd.C_below Cmbc.out hb_)
          clear Cmbc
          have Cmbc := Cmbc_
          clear Cmbc_
          have Cmac_ := Aside0.mk (Kd.C_below Cmac.out hb_)
          clear Cmac
          have Cmac := Cmac_
          clear Cmac_
          have Cml_ := Aside0.mk (Kd.C_below Cml.out hb_)
          clear Cml
          have Cml := Cml_
          clear Cml_
          have HB_ := Aside0.mk (below_step HB.out hb_)
          clear HB
          have HB := HB_
          clear HB_
          obtain ⟨Amr, cmr, rfl⟩ := Kd.R_slice hrmr_
          have Cmr := Aside0.mk (Kd.R_reads' hrmr_).2.2
          have Hmr := Aside0.mk (show mr.length ≤ cmr from (Kd.R_reads' hrmr_).2.1)
          clear hrmr_ hb_
          clear Cmbc Hmbc
          go_wp2_with fail
          refine (bignat_Mul.calls 17000 A0 c0 l0 Abc cbc bc di 0 wa17 C0.out H0.out Cbc.out Hbc.out f_di.out).mono ?_
          rintro e wa18 ⟨vdi_, rfl, hrdi_, hb_⟩
          have C0_ := Aside0.mk (Kd.C_below C0.out hb_)
          clear C0
          have C0 := C0_
          clear C0_
          have Cn_ := Aside0.mk (Kd.C_below Cn.out hb_)
          clear Cn
          have Cn := Cn_
          clear Cn_
          have Cab_ := Aside0.mk (Kd.C_below Cab.out hb_)
          clear Cab
          have Cab := Cab_
          clear Cab_
          have Cba_ := Aside0.mk (Kd.C_below Cba.out hb_)
          clear Cba
          have Cba := Cba_
          clear Cba_
          have Cbc_ := Aside0.mk (Kd.C_below Cbc.out hb_)
          clear Cbc
          have Cbc := Cbc_
          clear Cbc_
          have Clf_ := Aside0.mk (Kd.C_below Clf.out hb_)
          clear Clf
          have Clf := Clf_
          clear Clf_
          have Crg_ := Aside0.mk (Kd.C_below Crg.out hb_)
          clear Crg
          have Crg := Crg_
          clear Crg_
          have Cmab_ := Aside0.mk (Kd.C_below Cmab.out hb_)
          clear Cmab
          have Cmab := Cmab_
          clear Cmab_
          have Cmba_ := Aside0.mk (Kd.C_below Cmba.out hb_)
          clear Cmba
          have Cmba := Cmba_
          clear Cmba_
          have Cmac_ := Aside0.mk (Kd.C_below Cmac.out hb_)
          clear Cmac
          have Cmac := Cmac_
          clear Cmac_
          have Cml_ := Aside0.mk (Kd.C_below Cml.out hb_)
          clear Cml
          have Cml := Cml_
          clear Cml_
          have Cmr_ := Aside0.mk (Kd.C_below Cmr.out hb_)
          clear Cmr
          have Cmr := Cmr_
          clear Cmr_
          have HB_ := Aside0.mk (below_step HB.out hb_)
          clear HB
          have HB := HB_
          clear HB_
          obtain ⟨Adi, cdi, rfl⟩ := Kd.R_slice hrdi_
          have Cdi := Aside0.mk (Kd.R_reads' hrdi_).2.2
          have Hdi := Aside0.mk (show di.length ≤ cdi from (Kd.R_reads' hrdi_).2.1)
          clear hrdi_ hb_
          clear Cbc Hbc
          go_wp2_with fail
          refine (bignat_Add.calls  Amab cmab mab Amac cmac mac sm 0 wa18 Cmab.out Hmab.out Cmac.out Hmac.out f_sm.out).mono ?_
          rintro e wa19 ⟨vsm_, rfl, hrsm_, hb_⟩
          have C0_ := Aside0.mk (Kd.C_below C0.out hb_)
          clear C0
          have C0 := C0_
          clear C0_
          have Cn_ := Aside0.mk (Kd.C_below Cn.out hb_)
          clear Cn
          have Cn := Cn_
          clear Cn_
          have Cab_ := Aside0.mk (Kd.C_below Cab.out hb_)
          clear Cab
          have Cab := Cab_
          clear Cab_
          have Cba_ := Aside0.mk (Kd.C_below Cba.out hb_)
          clear Cba
          have Cba := Cba_
          clear Cba_
          have Clf_ := Aside0.mk (Kd.C_below Clf.out hb_)
          clear Clf
          have Clf := Clf_
          clear Clf_
          have Crg_ := Aside0.mk (Kd.C_below Crg.out hb_)
          clear Crg
          have Crg := Crg_
          clear Crg_
          have Cmab_ := Aside0.mk (Kd.C_below Cmab.out hb_)
          clear Cmab
          have Cmab := Cmab_
          clear Cmab_
          have Cmba_ := Aside0.mk (Kd.C_below Cmba.out hb_)
          clear Cmba
          have Cmba := Cmba_
          clear Cmba_
          have Cmac_ := Aside0.mk (Kd.C_below Cmac.out hb_)
          clear Cmac
          have Cmac := Cmac_
          clear Cmac_
          have Cml_ := Aside0.mk (Kd.C_below Cml.out hb_)
          clear Cml
          have Cml := Cml_
          clear Cml_
          have Cmr_ := Aside0.mk (Kd.C_below Cmr.out hb_)
          clear Cmr
          have Cmr := Cmr_
          clear Cmr_
          have Cdi_ := Aside0.mk (Kd.C_below Cdi.out hb_)
          clear Cdi
          have Cdi := Cdi_
          clear Cdi_
          have HB_ := Aside0.mk (below_step HB.out hb_)
          clear HB
          have HB := HB_
          clear HB_
          obtain ⟨Asm, csm, rfl⟩ := Kd.R_slice hrsm_
          have Csm := Aside0.mk (Kd.R_reads' hrsm_).2.2
          have Hsm := Aside0.mk (show sm.length ≤ csm from (Kd.R_reads' hrsm_).2.1)
          clear hrsm_ hb_
          clear Cmac Hmac
          go_wp2_with fail
          refine (bignat_Add.calls  A0 c0 l0 none 0 ([] : List Int) ze 0 wa19 C0.out H0.out Cn.out Hn.out f_ze.out).mono ?_
          rintro e wa20 ⟨vze_, rfl, hrze_, hb_⟩
          have C0_ := Aside0.mk (Kd.C_below C0.out hb_)
          clear C0
          have C0 := C0_
          clear C0_
          have Cn_ := Aside0.mk (Kd.C_below Cn.out hb_)
          clear Cn
          have Cn := Cn_
          clear Cn_
          have Cab_ := Aside0.mk (Kd.C_below Cab.out hb_)
          clear Cab
          have Cab := Cab_
          clear Cab_
          have Cba_ := Aside0.mk (Kd.C_below Cba.out hb_)
          clear Cba
          have Cba := Cba_
          clear Cba_
          have Clf_ := Aside0.mk (Kd.C_below Clf.out hb_)
          clear Clf
          have Clf := Clf_
          clear Clf_
          have Crg_ := Aside0.mk (Kd.C_below Crg.out hb_)
          clear Crg
          have Crg := Crg_
          clear Crg_
          have Cmab_ := Aside0.mk (Kd.C_below Cmab.out hb_)
          clear Cmab
          have Cmab := Cmab_
          clear Cmab_
          have Cmba_ := Aside0.mk (Kd.C_below Cmba.out hb_)
          clear Cmba
          have Cmba := Cmba_
          clear Cmba_
          have Cml_ := Aside0.mk (Kd.C_below Cml.out hb_)
          clear Cml
          have Cml := Cml_
          clear Cml_
          have Cmr_ := Aside0.mk (Kd.C_below Cmr.out hb_)
          clear Cmr
          have Cmr := Cmr_
          clear Cmr_
          have Cdi_ := Aside0.mk (Kd.C_below Cdi.out hb_)
          clear Cdi
          have Cdi := Cdi_
          clear Cdi_
          have Csm_ := Aside0.mk (Kd.C_below Csm.out hb_)
          clear Csm
          have Csm := Csm_
          clear Csm_
          have HB_ := Aside0.mk (below_step HB.out hb_)
          clear HB
          have HB := HB_
          clear HB_
          obtain ⟨Aze, cze, rfl⟩ := Kd.R_slice hrze_
          have Cze := Aside0.mk (Kd.R_reads' hrze_).2.2
          have Hze := Aside0.mk (show ze.length ≤ cze from (Kd.R_reads' hrze_).2.1)
          clear hrze_ hb_
          go_wp2_with fail
          refine (bignat_FromUint.calls 10 1 on wa20 f_on.out).mono ?_
          rintro e wa21 ⟨von_, rfl, hron_, hb_⟩
          have C0_ := Aside0.mk (Kd.C_below C0.out hb_)
          clear C0
          have C0 := C0_
          clear C0_
          have Cn_ := Aside0.mk (Kd.C_below Cn.out hb_)
          clear Cn
          have Cn := Cn_
          clear Cn_
          have Cab_ := Aside0.mk (Kd.C_below Cab.out hb_)
          clear Cab
          have Cab := Cab_
          clear Cab_
          have Cba_ := Aside0.mk (Kd.C_below Cba.out hb_)
          clear Cba
          have Cba := Cba_
          clear Cba_
          have Clf_ := Aside0.mk (Kd.C_below Clf.out hb_)
          clear Clf
          have Clf := Clf_
          clear Clf_
          have Crg_ := Aside0.mk (Kd.C_below Crg.out hb_)
          clear Crg
          have Crg := Crg_
          clear Crg_
          have Cmab_ := Aside0.mk (Kd.C_below Cmab.out hb_)
          clear Cmab
          have Cmab := Cmab_
          clear Cmab_
          have Cmba_ := Aside0.mk (Kd.C_below Cmba.out hb_)
          clear Cmba
          have Cmba := Cmba_
          clear Cmba_
          have Cml_ := Aside0.mk (Kd.C_below Cml.out hb_)
          clear Cml
          have Cml := Cml_
          clear Cml_
          have Cmr_ := Aside0.mk (Kd.C_below Cmr.out hb_)
          clear Cmr
          have Cmr := Cmr_
          clear Cmr_
          have Cdi_ := Aside0.mk (Kd.C_below Cdi.out hb_)
          clear Cdi
          have Cdi := Cdi_
          clear Cdi_
          have Csm_ := Aside0.mk (Kd.C_below Csm.out hb_)
          clear Csm
          have Csm := Csm_
          clear Csm_
          have Cze_ := Aside0.mk (Kd.C_below Cze.out hb_)
          clear Cze
          have Cze := Cze_
          clear Cze_
          have HB_ := Aside0.mk (below_step HB.out hb_)
          clear HB
          have HB := HB_
          clear HB_
          obtain ⟨Aon, con, rfl⟩ := Kd.R_slice hron_
          have Con := Aside0.mk (Kd.R_reads' hron_).2.2
          have Hon := Aside0.mk (show on.length ≤ con from (Kd.R_reads' hron_).2.1)
          clear hron_ hb_
          go_wp2_with fail
          refine (bignat_Mul.calls 17000 A0 c0 l0 Aon con on oe 0 wa21 C0.out H0.out Con.out Hon.out f_oe.out).mono ?_
          rintro e wa22 ⟨voe_, rfl, hroe_, hb_⟩
          have C0_ := Aside0.mk (Kd.C_below C0.out hb_)
          clear C0
          have C0 := C0_
          clear C0_
          have Cn_ := Aside0.mk (Kd.C_below Cn.out hb_)
          clear Cn
          have Cn := Cn_
          clear Cn_
          have Cab_ := Aside0.mk (Kd.C_below Cab.out hb_)
          clear Cab
          have Cab := Cab_
          clear Cab_
          have Cba_ := Aside0.mk (Kd.C_below Cba.out hb_)
          clear Cba
          have Cba := Cba_
          clear Cba_
          have Clf_ := Aside0.mk (Kd.C_below Clf.out hb_)
          clear Clf
          have Clf := Clf_
          clear Clf_
          have Crg_ := Aside0.mk (Kd.C_below Crg.out hb_)
          clear Crg
          have Crg := Crg_
          clear Crg_
          have Cmab_ := Aside0.mk (Kd.C_below Cmab.out hb_)
          clear Cmab
          have Cmab := Cmab_
          clear Cmab_
          have Cmba_ := Aside0.mk (Kd.C_below Cmba.out hb_)
          clear Cmba
          have Cmba := Cmba_
          clear Cmba_
          have Cml_ := Aside0.mk (Kd.C_below Cml.out hb_)
          clear Cml
          have Cml := Cml_
          clear Cml_
          have Cmr_ := Aside0.mk (Kd.C_below Cmr.out hb_)
          clear Cmr
          have Cmr := Cmr_
          clear Cmr_
          have Cdi_ := Aside0.mk (Kd.C_below Cdi.out hb_)
          clear Cdi
          have Cdi := Cdi_
          clear Cdi_
          have Csm_ := Aside0.mk (Kd.C_below Csm.out hb_)
          clear Csm
          have Csm := Csm_
          clear Csm_
          have Cze_ := Aside0.mk (Kd.C_below Cze.out hb_)
          clear Cze
          have Cze := Cze_
          clear Cze_
          have Con_ := Aside0.mk (Kd.C_below Con.out hb_)
          clear Con
          have Con := Con_
          clear Con_
          have HB_ := Aside0.mk (below_step HB.out hb_)
          clear HB
          have HB := HB_
          clear HB_
          obtain ⟨Aoe, coe, rfl⟩ := Kd.R_slice hroe_
          have Coe := Aside0.mk (Kd.R_reads' hroe_).2.2
          have Hoe := Aside0.mk (show oe.length ≤ coe from (Kd.R_reads' hroe_).2.1)
          clear hroe_ hb_
          clear Con Hon
          go_wp2_with fail
          refine (bignat_Mul.calls 17000 A0 c0 l0 none 0 ([] : List Int) ([] : List Int) 0 wa22 C0.out H0.out Cn.out Hn.out f_no.out).mono ?_
          rintro e wa23 ⟨vno_, rfl, hrno_, hb_⟩
          have C0_ := Aside0.mk (Kd.C_below C0.out hb_)
          clear C0
          have C0 := C0_
          clear C0_
          have Cn_ := Aside0.mk (Kd.C_below Cn.out hb_)
          clear Cn
          have Cn := Cn_
          clear Cn_
          have Cab_ := Aside0.mk (Kd.C_below Cab.out hb_)
          clear Cab
          have Cab := Cab_
          clear Cab_
          have Cba_ := Aside0.mk (Kd.C_below Cba.out hb_)
          clear Cba
          have Cba := Cba_
          clear Cba_
          have Clf_ := Aside0.mk (Kd.C_below Clf.out hb_)
          clear Clf
          have Clf := Clf_
          clear Clf_
          have Crg_ := Aside0.mk (Kd.C_below Crg.out hb_)
          clear Crg
          have Crg := Crg_
          clear Crg_
          have Cmab_ := Aside0.mk (Kd.C_below Cmab.out hb_)
          clear Cmab
          have Cmab := Cmab_
          clear Cmab_
          have Cmba_ := Aside0.mk (Kd.C_below Cmba.out hb_)
          clear Cmba
          have Cmba := Cmba_
          clear Cmba_
          have Cml_ := Aside0.mk (Kd.C_below Cml.out hb_)
          clear Cml
          have Cml := Cml_
          clear Cml_
          have Cmr_ := Aside0.mk (Kd.C_below Cmr.out hb_)
          clear Cmr
          have Cmr := Cmr_
          clear Cmr_
          have Cdi_ := Aside0.mk (Kd.C_below Cdi.out hb_)
          clear Cdi
          have Cdi := Cdi_
          clear Cdi_
          have Csm_ := Aside0.mk (Kd.C_below Csm.out hb_)
          clear Csm
          have Csm := Csm_
          clear Csm_
          have Cze_ := Aside0.mk (Kd.C_below Cze.out hb_)
          clear Cze
          have Cze := Cze_
          clear Cze_
          have Coe_ := Aside0.mk (Kd.C_below Coe.out hb_)
          clear Coe
          have Coe := Coe_
          clear Coe_
          have HB_ := Aside0.mk (below_step HB.out hb_)
          clear HB
          have HB := HB_
          clear HB_
          obtain ⟨Ano, cno, rfl⟩ := Kd.R_slice hrno_
          have Cno := Aside0.mk (Kd.R_reads' hrno_).2.2
          have Hno := Aside0.mk (show ([] : List Int).length ≤ cno from (Kd.R_reads' hrno_).2.1)
          clear hrno_ hb_
          clear Cn Hn
          go_wp2_with fail
          refine (lineagelaw03_same.calls 200 Aab cab ab Aba cba ba true wa23 Cab.out Hab.out Cba.out Hba.out s_0.out).mono ?_
          rintro e wa24 ⟨rfl, hd_⟩
          have hb_ := hd_.below
          have C0_ := Aside0.mk (Kd.C_below C0.out hb_)
          clear C0
          have C0 := C0_
          clear C0_
          have Cab_ := Aside0.mk (Kd.C_below Cab.out hb_)
          clear Cab
          have Cab := Cab_
          clear Cab_
          have Cba_ := Aside0.mk (Kd.C_below Cba.out hb_)
          clear Cba
          have Cba := Cba_
          clear Cba_
          have Clf_ := Aside0.mk (Kd.C_below Clf.out hb_)
          clear Clf
          have Clf := Clf_
          clear Clf_
          have Crg_ := Aside0.mk (Kd.C_below Crg.out hb_)
          clear Crg
          have Crg := Crg_
          clear Crg_
          have Cmab_ := Aside0.mk (Kd.C_below Cmab.out hb_)
          clear Cmab
          have Cmab := Cmab_
          clear Cmab_
          have Cmba_ := Aside0.mk (Kd.C_below Cmba.out hb_)
          clear Cmba
          have Cmba := Cmba_
          clear Cmba_
          have Cml_ := Aside0.mk (Kd.C_below Cml.out hb_)
          clear Cml
          have Cml := Cml_
          clear Cml_
          have Cmr_ := Aside0.mk (Kd.C_below Cmr.out hb_)
          clear Cmr
          have Cmr := Cmr_
          clear Cmr_
          have Cdi_ := Aside0.mk (Kd.C_below Cdi.out hb_)
          clear Cdi
          have Cdi := Cdi_
          clear Cdi_
          have Csm_ := Aside0.mk (Kd.C_below Csm.out hb_)
          clear Csm
          have Csm := Csm_
          clear Csm_
          have Cze_ := Aside0.mk (Kd.C_below Cze.out hb_)
          clear Cze
          have Cze := Cze_
          clear Cze_
          have Coe_ := Aside0.mk (Kd.C_below Coe.out hb_)
          clear Coe
          have Coe := Coe_
          clear Coe_
          have Cno_ := Aside0.mk (Kd.C_below Cno.out hb_)
          clear Cno
          have Cno := Cno_
          clear Cno_
          have HB_ := Aside0.mk (below_step HB.out hb_)
          clear HB
          have HB := HB_
          clear HB_
          clear hb_ hd_
          go_wp2_with fail
          refine (lineagelaw03_same.calls 200 Alf clf lf Arg crg rg true wa24 Clf.out Hlf.out Crg.out Hrg.out s_1.out).mono ?_
          rintro e wa25 ⟨rfl, hd_⟩
          have hb_ := hd_.below
          have C0_ := Aside0.mk (Kd.C_below C0.out hb_)
          clear C0
          have C0 := C0_
          clear C0_
          have Cab_ := Aside0.mk (Kd.C_below Cab.out hb_)
          clear Cab
          have Cab := Cab_
          clear Cab_
          have Cba_ := Aside0.mk (Kd.C_below Cba.out hb_)
          clear Cba
          have Cba := Cba_
          clear Cba_
          have Clf_ := Aside0.mk (Kd.C_below Clf.out hb_)
          clear Clf
          have Clf := Clf_
          clear Clf_
          have Crg_ := Aside0.mk (Kd.C_below Crg.out hb_)
          clear Crg
          have Crg := Crg_
          clear Crg_
          have Cmab_ := Aside0.mk (Kd.C_below Cmab.out hb_)
          clear Cmab
          have Cmab := Cmab_
          clear Cmab_
          have Cmba_ := Aside0.mk (Kd.C_below Cmba.out hb_)
          clear Cmba
          have Cmba := Cmba_
          clear Cmba_
          have Cml_ := Aside0.mk (Kd.C_below Cml.out hb_)
          clear Cml
          have Cml := Cml_
          clear Cml_
          have Cmr_ := Aside0.mk (Kd.C_below Cmr.out hb_)
          clear Cmr
          have Cmr := Cmr_
          clear Cmr_
          have Cdi_ := Aside0.mk (Kd.C_below Cdi.out hb_)
          clear Cdi
          have Cdi := Cdi_
          clear Cdi_
          have Csm_ := Aside0.mk (Kd.C_below Csm.out hb_)
          clear Csm
          have Csm := Csm_
          clear Csm_
          have Cze_ := Aside0.mk (Kd.C_below Cze.out hb_)
          clear Cze
          have Cze := Cze_
          clear Cze_
          have Coe_ := Aside0.mk (Kd.C_below Coe.out hb_)
          clear Coe
          have Coe := Coe_
          clear Coe_
          have Cno_ := Aside0.mk (Kd.C_below Cno.out hb_)
          clear Cno
          have Cno := Cno_
          clear Cno_
          have HB_ := Aside0.mk (below_step HB.out hb_)
          clear HB
          have HB := HB_
          clear HB_
          clear hb_ hd_
          go_wp2_with fail
          refine (lineagelaw03_same.calls 200 Amab cmab mab Amba cmba mba true wa25 Cmab.out Hmab.out Cmba.out Hmba.out s_2.out).mono ?_
          rintro e wa26 ⟨rfl, hd_⟩
          have hb_ := hd_.below
          have C0_ := Aside0.mk (Kd.C_below C0.out hb_)
          clear C0
          have C0 := C0_
          clear C0_
          have Cab_ := Aside0.mk (Kd.C_below Cab.out hb_)
          clear Cab
          have Cab := Cab_
          clear Cab_
          have Cba_ := Aside0.mk (Kd.C_below Cba.out hb_)
          clear Cba
          have Cba := Cba_
          clear Cba_
          have Clf_ := Aside0.mk (Kd.C_below Clf.out hb_)
          clear Clf
          have Clf := Clf_
          clear Clf_
          have Crg_ := Aside0.mk (Kd.C_below Crg.out hb_)
          clear Crg
          have Crg := Crg_
          clear Crg_
          have Cmab_ := Aside0.mk (Kd.C_below Cmab.out hb_)
          clear Cmab
          have Cmab := Cmab_
          clear Cmab_
          have Cmba_ := Aside0.mk (Kd.C_below Cmba.out hb_)
          clear Cmba
          have Cmba := Cmba_
          clear Cmba_
          have Cml_ := Aside0.mk (Kd.C_below Cml.out hb_)
          clear Cml
          have Cml := Cml_
          clear Cml_
          have Cmr_ := Aside0.mk (Kd.C_below Cmr.out hb_)
          clear Cmr
          have Cmr := Cmr_
          clear Cmr_
          have Cdi_ := Aside0.mk (Kd.C_below Cdi.out hb_)
          clear Cdi
          have Cdi := Cdi_
          clear Cdi_
          have Csm_ := Aside0.mk (Kd.C_below Csm.out hb_)
          clear Csm
          have Csm := Csm_
          clear Csm_
          have Cze_ := Aside0.mk (Kd.C_below Cze.out hb_)
          clear Cze
          have Cze := Cze_
          clear Cze_
          have Coe_ := Aside0.mk (Kd.C_below Coe.out hb_)
          clear Coe
          have Coe := Coe_
          clear Coe_
          have Cno_ := Aside0.mk (Kd.C_below Cno.out hb_)
          clear Cno
          have Cno := Cno_
          clear Cno_
          have HB_ := Aside0.mk (below_step HB.out hb_)
          clear HB
          have HB := HB_
          clear HB_
          clear hb_ hd_
          go_wp2_with fail
          refine (lineagelaw03_same.calls 200 Aml cml ml Amr cmr mr true wa26 Cml.out Hml.out Cmr.out Hmr.out s_3.out).mono ?_
          rintro e wa27 ⟨rfl, hd_⟩
          have hb_ := hd_.below
          have C0_ := Aside0.mk (Kd.C_below C0.out hb_)
          clear C0
          have C0 := C0_
          clear C0_
          have Cab_ := Aside0.mk (Kd.C_below Cab.out hb_)
          clear Cab
          have Cab := Cab_
          clear Cab_
          have Cba_ := Aside0.mk (Kd.C_below Cba.out hb_)
          clear Cba
          have Cba := Cba_
          clear Cba_
          have Clf_ := Aside0.mk (Kd.C_below Clf.out hb_)
          clear Clf
          have Clf := Clf_
          clear Clf_
          have Crg_ := Aside0.mk (Kd.C_below Crg.out hb_)
          clear Crg
          have Crg := Crg_
          clear Crg_
          have Cmab_ := Aside0.mk (Kd.C_below Cmab.out hb_)
          clear Cmab
          have Cmab := Cmab_
          clear Cmab_
          have Cmba_ := Aside0.mk (Kd.C_below Cmba.out hb_)
          clear Cmba
          have Cmba := Cmba_
          clear Cmba_
          have Cml_ := Aside0.mk (Kd.C_below Cml.out hb_)
          clear Cml
          have Cml := Cml_
          clear Cml_
          have Cmr_ := Aside0.mk (Kd.C_below Cmr.out hb_)
          clear Cmr
          have Cmr := Cmr_
          clear Cmr_
          have Cdi_ := Aside0.mk (Kd.C_below Cdi.out hb_)
          clear Cdi
          have Cdi := Cdi_
          clear Cdi_
          have Csm_ := Aside0.mk (Kd.C_below Csm.out hb_)
          clear Csm
          have Csm := Csm_
          clear Csm_
          have Cze_ := Aside0.mk (Kd.C_below Cze.out hb_)
          clear Cze
          have Cze := Cze_
          clear Cze_
          have Coe_ := Aside0.mk (Kd.C_below Coe.out hb_)
          clear Coe
          have Coe := Coe_
          clear Coe_
          have Cno_ := Aside0.mk (Kd.C_below Cno.out hb_)
          clear Cno
          have Cno := Cno_
          clear Cno_
          have HB_ := Aside0.mk (below_step HB.out hb_)
          clear HB
          have HB := HB_
          clear HB_
          clear hb_ hd_
          go_wp2_with fail
          refine (lineagelaw03_same.calls 200 Adi cdi di Asm csm sm true wa27 Cdi.out Hdi.out Csm.out Hsm.out s_4.out).mono ?_
          rintro e wa28 ⟨rfl, hd_⟩
          have hb_ := hd_.below
          have C0_ := Aside0.mk (Kd.C_below C0.out hb_)
          clear C0
          have C0 := C0_
          clear C0_
          have Cab_ := Aside0.mk (Kd.C_below Cab.out hb_)
          clear Cab
          have Cab := Cab_
          clear Cab_
          have Cba_ := Aside0.mk (Kd.C_below Cba.out hb_)
          clear Cba
          have Cba := Cba_
          clear Cba_
          have Clf_ := Aside0.mk (Kd.C_below Clf.out hb_)
          clear Clf
          have Clf := Clf_
          clear Clf_
          have Crg_ := Aside0.mk (Kd.C_below Crg.out hb_)
          clear Crg
          have Crg := Crg_
          clear Crg_
          have Cmab_ := Aside0.mk (Kd.C_below Cmab.out hb_)
          clear Cmab
          have Cmab := Cmab_
          clear Cmab_
          have Cmba_ := Aside0.mk (Kd.C_below Cmba.out hb_)
          clear Cmba
          have Cmba := Cmba_
          clear Cmba_
          have Cml_ := Aside0.mk (Kd.C_below Cml.out hb_)
          clear Cml
          have Cml := Cml_
          clear Cml_
          have Cmr_ := Aside0.mk (Kd.C_below Cmr.out hb_)
          clear Cmr
          have Cmr := Cmr_
          clear Cmr_
          have Cdi_ := Aside0.mk (Kd.C_below Cdi.out hb_)
          clear Cdi
          have Cdi := Cdi_
          clear Cdi_
          have Csm_ := Aside0.mk (Kd.C_below Csm.out hb_)
          clear Csm
          have Csm := Csm_
          clear Csm_
          have Cze_ := Aside0.mk (Kd.C_below Cze.out hb_)
          clear Cze
          have Cze := Cze_
          clear Cze_
          have Coe_ := Aside0.mk (Kd.C_below Coe.out hb_)
          clear Coe
          have Coe := Coe_
          clear Coe_
          have Cno_ := Aside0.mk (Kd.C_below Cno.out hb_)
          clear Cno
          have Cno := Cno_
          clear Cno_
          have HB_ := Aside0.mk (below_step HB.out hb_)
          clear HB
          have HB := HB_
          clear HB_
          clear hb_ hd_
          go_wp2_with fail
          refine (lineagelaw03_same.calls 200 Aze cze ze A0 c0 l0 true wa28 Cze.out Hze.out C0.out H0.out s_5.out).mono ?_
          rintro e wa29 ⟨rfl, hd_⟩
          have hb_ := hd_.below
          have C0_ := Aside0.mk (Kd.C_below C0.out hb_)
          clear C0
          have C0 := C0_
          clear C0_
          have Cab_ := Aside0.mk (Kd.C_below Cab.out hb_)
          clear Cab
          have Cab := Cab_
          clear Cab_
          have Cba_ := Aside0.mk (Kd.C_below Cba.out hb_)
          clear Cba
          have Cba := Cba_
          clear Cba_
          have Clf_ := Aside0.mk (Kd.C_below Clf.out hb_)
          clear Clf
          have Clf := Clf_
          clear Clf_
          have Crg_ := Aside0.mk (Kd.C_below Crg.out hb_)
          clear Crg
          have Crg := Crg_
          clear Crg_
          have Cmab_ := Aside0.mk (Kd.C_below Cmab.out hb_)
          clear Cmab
          have Cmab := Cmab_
          clear Cmab_
          have Cmba_ := Aside0.mk (Kd.C_below Cmba.out hb_)
          clear Cmba
          have Cmba := Cmba_
          clear Cmba_
          have Cml_ := Aside0.mk (Kd.C_below Cml.out hb_)
          clear Cml
          have Cml := Cml_
          clear Cml_
          have Cmr_ := Aside0.mk (Kd.C_below Cmr.out hb_)
          clear Cmr
          have Cmr := Cmr_
          clear Cmr_
          have Cdi_ := Aside0.mk (Kd.C_below Cdi.out hb_)
          clear Cdi
          have Cdi := Cdi_
          clear Cdi_
          have Csm_ := Aside0.mk (Kd.C_below Csm.out hb_)
          clear Csm
          have Csm := Csm_
          clear Csm_
          have Cze_ := Aside0.mk (Kd.C_below Cze.out hb_)
          clear Cze
          have Cze := Cze_
          clear Cze_
          have Coe_ := Aside0.mk (Kd.C_below Coe.out hb_)
          clear Coe
          have Coe := Coe_
          clear Coe_
          have Cno_ := Aside0.mk (Kd.C_below Cno.out hb_)
          clear Cno
          have Cno := Cno_
          clear Cno_
          have HB_ := Aside0.mk (below_step HB.out hb_)
          clear HB
          have HB := HB_
          clear HB_
          clear hb_ hd_
          go_wp2_with fail
          refine (lineagelaw03_same.calls 200 Aoe coe oe A0 c0 l0 true wa29 Coe.out Hoe.out C0.out H0.out s_6.out).mono ?_
          rintro e wa30 ⟨rfl, hd_⟩
          have hb_ := hd_.below
          have C0_ := Aside0.mk (Kd.C_below C0.out hb_)
          clear C0
          have C0 := C0_
          clear C0_
          have Cab_ := Aside0.mk (Kd.C_below Cab.out hb_)
          clear Cab
          have Cab := Cab_
          clear Cab_
          have Cba_ := Aside0.mk (Kd.C_below Cba.out hb_)
          clear Cba
          have Cba := Cba_
          clear Cba_
          have Clf_ := Aside0.mk (Kd.C_below Clf.out hb_)
          clear Clf
          have Clf := Clf_
          clear Clf_
          have Crg_ := Aside0.mk (Kd.C_below Crg.out hb_)
          clear Crg
          have Crg := Crg_
          clear Crg_
          have Cmab_ := Aside0.mk (Kd.C_below Cmab.out hb_)
          clear Cmab
          have Cmab := Cmab_
          clear Cmab_
          have Cmba_ := Aside0.mk (Kd.C_below Cmba.out hb_)
          clear Cmba
          have Cmba := Cmba_
          clear Cmba_
          have Cml_ := Aside0.mk (Kd.C_below Cml.out hb_)
          clear Cml
          have Cml := Cml_
          clear Cml_
          have Cmr_ := Aside0.mk (Kd.C_below Cmr.out hb_)
          clear Cmr
          have Cmr := Cmr_
          clear Cmr_
          have Cdi_ := Aside0.mk (Kd.C_below Cdi.out hb_)
          clear Cdi
          have Cdi := Cdi_
          clear Cdi_
          have Csm_ := Aside0.mk (Kd.C_below Csm.out hb_)
          clear Csm
          have Csm := Csm_
          clear Csm_
          have Cze_ := Aside0.mk (Kd.C_below Cze.out hb_)
          clear Cze
          have Cze := Cze_
          clear Cze_
          have Coe_ := Aside0.mk (Kd.C_below Coe.out hb_)
          clear Coe
          have Coe := Coe_
          clear Coe_
          have Cno_ := Aside0.mk (Kd.C_below Cno.out hb_)
          clear Cno
          have Cno := Cno_
          clear Cno_
          have HB_ := Aside0.mk (below_step HB.out hb_)
          clear HB
          have HB := HB_
          clear HB_
          clear hb_ hd_
          go_wp2_with fail
          go_ret
          exact ⟨rfl, HB.out⟩
end Go.Proofs.YtoakfjcejamoeaaDoor.B
