import Derived.Test.YtoakfjcejamoeaaDoorL10
import Derived.Test.YtoakfjcejamoeaaDoorBx5
import Derived.Test.YtoakfjcejamoeaaDoorBx6
import Derived.Test.YtoakfjcejamoeaaDoorBx9
import Derived.Test.YtoakfjcejamoeaaDoorBx8
namespace Go.Proofs.YtoakfjcejamoeaaDoor.B
open Go.RowKit Go.Proofs.YtoakfjcejamoeaaDoorW.PrintWords Go.Proofs.YtoakfjcejamoeaaDoorW.PrintLast Go.Proofs.YtoakfjcejamoeaaDoorW.PrintMore
set_option exponentiation.threshold 8200
set_option linter.unusedVariables false
set_option linter.unusedSimpArgs false
section
variable {P : Program} {ops : Array Oper} {rest : List Oper} {o : Oper} {a : Act} {Q : Exit → Act → World → Prop}
/-- A literal of rows of limbs. -/
theorem lits_event {W : World} (hgd : o.guard = none) {N : Tmp} (hd : o.dst = some N) {LL : List (List Int)} {inner : List Value}
    (hrun : (execOp a.eval o).run P W = .ok (.value (.slice (some ⟨W.heap.size, 0, none⟩) LL.length LL.length)) (W.alloc (.cells inner.toArray 23)))
    (hrep : Reps (Kd.FK (Kd.slice 63 (Kd.int .u32)) W (fun k => k < W.heap.size)) (Kd.slice 63 (Kd.int .u32)).sz LL inner) (hm : LL.length ≤ 1000)
    (h : ∀ A c w1, Kd.C (Kd.slice 63 (Kd.int .u32)) w1 A LL.length LL → LL.length ≤ c → Below W.heap.size W w1 → wpList P ops Q rest (a.put o.dst (.slice A LL.length c)) w1) : wpList P ops Q (o :: rest) a W :=
  Kd.N_lit (Kd.slice 63 (Kd.int .u32)) (w0 := W) W.heap.size 23 hgd hd (ok := fun _ => True) (okp := fun k => k < W.heap.size) hrun hrep (fun _ _ => trivial) trivial (Below.refl _ _) (Nat.le_refl _) (by omega) (fun v1 w1 hn hb _ _ => by
    obtain ⟨A, c, rfl⟩ := Kd.N_slice hn
    exact h A c w1 (Kd.N_reads' hn).2.2 (Kd.N_reads' hn).2.1 hb)
end
set_option maxHeartbeats 16000000 in
set_option maxRecDepth 100000 in
/-- Of returns the number, or zero. -/
theorem Of_calls (A0 : Option Addr) (c0 : Nat) (l0 : List Int) (w : World) (hr0 : Kd.C (Kd.int .u32) w A0 l0.length l0) (hc0 : l0.length ≤ c0) :
    Calls Tryd.prog 31 #[.slice A0 l0.length c0] w fun e w' => ∃ A c, e = .returned (.slice A (ozB l0).length c) ∧ Kd.C (Kd.int .u32) w' A (ozB l0).length (ozB l0) ∧ (ozB l0).length ≤ c ∧ Below w.heap.size w w' := by
  have C0 := Aside0.mk hr0
  have H0 := Aside0.mk hc0
  have HB := Aside0.mk (Below.refl w.heap.size w)
  clear hr0 hc0
  obtain ⟨v, hv⟩ : ∃ v, v = validB l0 := ⟨_, rfl⟩
  have hVa := Aside0.mk (show lineageref03_Valid.f l0 = some v from hv ▸ refValid_f l0)
  have hoz : ozB l0 = if v = true then l0 else [] := by rw [hv]; rfl
  have hO := Aside0.mk hoz
  clear hv hoz
  go_enter Tryd.func31, Tryd.ntmps31
  go_wp2_with fail
  refine (lineageref03_Valid.calls A0 c0 l0 v w C0.out H0.out hVa.out).mono ?_
  rintro e wa1 ⟨rfl, hd_⟩
  have hb_ := hd_.below
  have C0_ := Aside0.mk (Kd.C_below C0.out hb_)
  clear C0
  have C0 := C0_
  clear C0_
  have HB_ := Aside0.mk (below_step HB.out hb_)
  clear HB
  have HB := HB_
  clear HB_ hb_ hd_
  cases v with
  | false =>
    go_wp2_with ((with_reducible refine gate_dst (N := 6) rfl ?_); (try (refine gate_guard (by rfl) ?_; dsimp only)); refine lit_event ?hg (N := 6) ?hd [] 0 rfl (by decide) ?hr ?_; (case hd => rfl); (case hg => rfl); (case hr => first | (go_simp; done) | (go_simp; rfl)); intro A6 wa2 hc_ hb_; have HB_ := Aside0.mk (below_step HB.out hb_); have C6 := Aside0.mk hc_; clear HB hb_ hc_; have HB := HB_; clear HB_)
    go_ret
    have e : ozB l0 = [] := by rw [hO.out]; rfl
    rw [e]
    exact ⟨_, _, rfl, C6.out, Nat.le_refl _, HB.out⟩
  | true =>
    go_wp2_with fail
    go_ret
    have e : ozB l0 = l0 := by rw [hO.out]; rfl
    rw [e]
    exact ⟨_, _, rfl, C0.out, H0.out, HB.out⟩
set_option maxHeartbeats 16000000 in
set_option maxRecDepth 100000 in
/-- divides: the remainder is zero. -/
theorem divides_calls (k : Nat) (A0 : Option Addr) (c0 : Nat) (l0 : List Int) (A1 : Option Addr) (c1 : Nat) (l1 : List Int) (b : Bool) (w : World) (hr0 : Kd.C (Kd.int .u32) w A0 l0.length l0) (hc0 : l0.length ≤ c0) (hr1 : Kd.C (Kd.int .u32) w A1 l1.length l1) (hc1 : l1.length ≤ c1) (h : ∃ q r, lineageref03_DivMod.f k l1 l0 = some (q, r) ∧ b = decide (r = [])) :
    Calls Tryd.prog 32 #[.slice A0 l0.length c0, .slice A1 l1.length c1] w fun e w' => e = .returned (.bool b) ∧ Below w.heap.size w w' := by
  obtain ⟨q, r, h1, h2⟩ := h
  have hD := Aside0.mk h1
  have hB := Aside0.mk h2
  have C0 := Aside0.mk hr0
  have H0 := Aside0.mk hc0
  have C1 := Aside0.mk hr1
  have H1 := Aside0.mk hc1
  have HB := Aside0.mk (Below.refl w.heap.size w)
  clear hr0 hc0 hr1 hc1 h1 h2
  go_enter Tryd.func32, Tryd.ntmps32
  go_wp2_with fail
  refine (lineageref03_DivMod.calls k A1 c1 l1 A0 c0 l0 q r w C1.out H1.out C0.out H0.out hD.out).mono ?_
  rintro e wa1 ⟨v_, u_, rfl, hr_, hu_, hb_⟩
  have HB_ := Aside0.mk (below_step HB.out hb_)
  clear HB
  have HB := HB_
  clear HB_ hb_
  obtain ⟨Aq, cq, rfl⟩ := Kd.V_slice hr_
  obtain ⟨Ar, cr, rfl⟩ := Kd.V_slice hu_
  clear hr_ hu_
  by_cases hz : r = []
  · obtain rfl : b = true := by rw [hB.out]; simp [hz]
    clear hB
    go_wp2_with fail
    go_ret
    exact ⟨rfl, HB.out⟩
  · obtain rfl : b = false := by rw [hB.out]; simp [hz]
    clear hB
    have hz0 : ((r.length : Int) == 0) = false := by
      have : 0 < r.length := List.length_pos_iff.2 hz
      rw [beq_eq_false_iff_ne]
      omega
    go_wp2_with fail
    go_ret
    exact ⟨rfl, HB.out⟩
theorem limbs_eq_nil (n : Nat) : decide (Bn.limbs n = []) = decide (n = 0) := by
  by_cases h : n = 0
  · rw [h, Bn.limbs_zero]
    rfl
  · have h2 := mt Bn.limbs_nil.1 h
    simp [h, h2]
theorem divides_f {d n : List Int} (hd : Bn.Nrm d) (hn : Bn.Nrm n) (ld : d.length ≤ 128) (ln : n.length ≤ 128) (h0 : d ≠ []) : ∃ q r, lineageref03_DivMod.f 10000 n d = some (q, r) ∧ decide (Bn.nv d ∣ Bn.nv n) = decide (r = []) := by
  have hp : 0 < Bn.nv d := by
    rcases Nat.eq_zero_or_pos (Bn.nv d) with h | h
    · exact absurd ((Bn.nv_zero hd).1 h) h0
    · exact h
  refine ⟨_, _, refDivMod_f hn.1 hd (by omega) (by omega) hp (by omega), ?_⟩
  rw [limbs_eq_nil]
  exact decide_eq_decide.2 ⟨Nat.mod_eq_zero_of_dvd, Nat.dvd_of_mod_eq_zero⟩
theorem gcd_row {a b : List Int} (ha : Bn.Nrm a) (hb : Bn.Nrm b) (la : a.length ≤ 128) (lb : b.length ≤ 128) (h : ¬ (a = [] ∧ b = [])) : Bn.Nrm (Bn.limbs (Nat.gcd (Bn.nv a) (Bn.nv b))) ∧ (Bn.limbs (Nat.gcd (Bn.nv a) (Bn.nv b))).length ≤ 128 ∧ Bn.limbs (Nat.gcd (Bn.nv a) (Bn.nv b)) ≠ [] := by
  have hp : 0 < Nat.gcd (Bn.nv a) (Bn.nv b) := by
    rcases Nat.eq_zero_or_pos (Nat.gcd (Bn.nv a) (Bn.nv b)) with h2 | h2
    · have h3 := Nat.eq_zero_of_gcd_eq_zero_left h2
      have h4 := Nat.eq_zero_of_gcd_eq_zero_right h2
      exact absurd ⟨(Bn.nv_zero ha).1 h3, (Bn.nv_zero hb).1 h4⟩ h
    · exact h2
  refine ⟨Bn.nrm_limbs _, ?_, fun h2 => by have := Bn.limbs_nil.1 h2; omega⟩
  rcases Nat.eq_zero_or_pos (Bn.nv a) with h2 | h2
  · rw [h2, Nat.gcd_zero_left, hb.2]
    exact lb
  · exact Nat.le_trans (limbs_le ha.1 (Nat.gcd_le_left _ h2)) la
set_option maxHeartbeats 16000000 in
set_option maxRecDepth 100000 in
theorem gcdLaw (A0 : Option Addr) (c0 : Nat) (l0 : List Int) (A1 : Option Addr) (c1 : Nat) (l1 : List Int) (A2 : Option Addr) (c2 : Nat) (l2 : List Int) (w : World) (hr0 : Kd.C (Kd.int .u32) w A0 l0.length l0) (hc0 : l0.length ≤ c0) (hr1 : Kd.C (Kd.int .u32) w A1 l1.length l1) (hc1 : l1.length ≤ c1) (hr2 : Kd.C (Kd.int .u32) w A2 l2.length l2) (hc2 : l2.length ≤ c2) (ht_ : Tab w) (L0 : Bn.Limbs l0) (L1 : Bn.Limbs l1) (L2 : Bn.Limbs l2) :
    Calls Tryd.prog 6 #[.slice A0 l0.length c0, .slice A1 l1.length c1, .slice A2 l2.length c2] w fun e w' => e = .returned (.bool true) ∧ Below w.heap.size w w' := by
  have HT_ := Aside0.mk ht_
  clear ht_
  have C0 := Aside0.mk hr0
  have H0 := Aside0.mk hc0
  clear hr0 hc0
  have C1 := Aside0.mk hr1
  have H1 := Aside0.mk hc1
  clear hr1 hc1
  have C2 := Aside0.mk hr2
  have H2 := Aside0.mk hc2
  clear hr2 hc2
  have HB := Aside0.mk (Below.refl w.heap.size w)
  have hs0 : ∃ s : Bool, lineagelaw03_small.f 10 16 [l0, l1, l2] = some s ∧ (s = true → l0.length ≤ 16 ∧ l1.length ≤ 16 ∧ l2.length ≤ 16) := by
      refine ⟨_, small_f 16 [l0, l1, l2] (by simp) (by simp), fun h => ?_⟩
      simp at h
      omega
  obtain ⟨s, hs, hs2⟩ := hs0
  have hSm := Aside0.mk hs
  clear hs hs2
  obtain ⟨g, hg⟩ : ∃ g, g = Bn.limbs (Nat.gcd (vv l0) (vv l1)) := ⟨_, rfl⟩
  have hGc := Aside0.mk (show bignat_GCD.f 12200 l0 l1 = some g from hg ▸ GCD_f L0 L1 (Nat.le_refl _))
  have hO0 := Aside0.mk (ozB_nrm L0)
  have hO1 := Aside0.mk (ozB_nrm L1)
  have hgg := Aside0.mk (show g = Bn.limbs (Nat.gcd (Bn.nv (ozB l0)) (Bn.nv (ozB l1))) from hg)
  obtain ⟨vd, hvd⟩ : ∃ v, v = validB l2 := ⟨_, rfl⟩
  have hV2 := Aside0.mk (show lineagelaw03_valid.f 10 [l2] = some vd from by rw [valid_f [l2] (by simp) (by simp), hvd]; simp)
  have hvd2 := Aside0.mk hvd
  have hL2 := Aside0.mk L2
  clear hg hvd L0 L1 L2
  go_enter Tryd.func6, Tryd.ntmps6
  go_wp2_with fail
  refine (lineagelaw03_awake.calls true w rfl (HT_.out.below HB.out)).mono ?_
  rintro e wa1 ⟨rfl, hb_⟩
  have C0_ := Aside0.mk (Kd.C_below C0.out hb_)
  clear C0
  have C0 := C0_
  clear C0_
  have C1_ := Aside0.mk (Kd.C_below C1.out hb_)
  clear C1
  have C1 := C1_
  clear C1_
  have C2_ := Aside0.mk (Kd.C_below C2.out hb_)
  clear C2
  have C2 := C2_
  clear C2_
  have HB_ := Aside0.mk (below_step HB.out hb_)
  clear HB
  have HB := HB_
  clear HB_
  clear hb_
  go_wp2_with (first | ((with_reducible refine gate_dst (N := 14) rfl ?_); (try (refine gate_guard (by rfl) ?_; dsimp only)); refine lits_event ?hg (N := 14) ?hd (LL := [l0, l1, l2]) (inner := [.slice A0 l0.length c0, .slice A1 l1.length c1, .slice A2 l2.length c2]) ?hr (Reps.one (Kd.FK_slice_mk (l := l0) H0.out (Kd.C_F (Kd.heap_int .u32) C0.out)) (Reps.one (Kd.FK_slice_mk (l := l1) H1.out (Kd.C_F (Kd.heap_int .u32) C1.out)) (Reps.one (Kd.FK_slice_mk (l := l2) H2.out (Kd.C_F (Kd.heap_int .u32) C2.out)) (Reps.none _ _)))) (by simp) ?_; (case hd => rfl); (case hg => rfl); (case hr => first | (go_simp; done) | (go_simp; rfl)); intro As cs wa2 hl_ hm_ hb_; have C0_ := Aside0.mk (Kd.C_below C0.out hb_); clear C0; have C0 := C0_; clear C0_; have C1_ := Aside0.mk (Kd.C_below C1.out hb_); clear C1; have C1 := C1_; clear C1_; have C2_ := Aside0.mk (Kd.C_below C2.out hb_); clear C2; have C2 := C2_; clear C2_; have HB_ := Aside0.mk (below_step HB.out hb_); clear HB; have HB := HB_; clear HB_; have Ds := Aside0.mk hl_; have Es := Aside0.mk hm_; clear hl_ hm_ hb_))
  refine (lineagelaw03_small.calls 10 16 As cs [l0, l1, l2] s wa2 Ds.out Es.out hSm.out).mono ?_
  rintro e wa3 ⟨rfl, hd_⟩
  have hb_ := hd_.below
  have C0_ := Aside0.mk (Kd.C_below C0.out hb_)
  clear C0
  have C0 := C0_
  clear C0_
  have C1_ := Aside0.mk (Kd.C_below C1.out hb_)
  clear C1
  have C1 := C1_
  clear C1_
  have C2_ := Aside0.mk (Kd.C_below C2.out hb_)
  clear C2
  have C2 := C2_
  clear C2_
  have HB_ := Aside0.mk (below_step HB.out hb_)
  clear HB
  have HB := HB_
  clear HB_
  clear hb_ hd_
  clear Ds Es
  cases s with
  | false =>
    go_wp2_with fail
    refine (lineagelaw03_awake.calls true wa3 rfl (HT_.out.below HB.out)).mono ?_
    rintro e wa4 ⟨rfl, hb_⟩
    have C0_ := Aside0.mk (Kd.C_below C0.out hb_)
    clear C0
    have C0 := C0_
    clear C0_
    have C1_ := Aside0.mk (Kd.C_below C1.out hb_)
    clear C1
    have C1 := C1_
    clear C1_
    have C2_ := Aside0.mk (Kd.C_below C2.out hb_)
    clear C2
    have C2 := C2_
    clear C2_
    have HB_ := Aside0.mk (below_step HB.out hb_)
    clear HB
    have HB := HB_
    clear HB_
    clear hb_
    go_wp2_with fail
    go_ret
    exact ⟨rfl, HB.out⟩
  | true =>
    go_wp2_with fail
    refine (bignat_GCD.calls 12200 A0 c0 l0 A1 c1 l1 g wa3 C0.out H0.out C1.out H1.out hGc.out).mono ?_
    rintro e wa4 ⟨vg_, rfl, hrg_, hb_⟩
    have C0_ := Aside0.mk (Kd.C_below C0.out hb_)
    clear C0
    have C0 := C0_
    clear C0_
    have C1_ := Aside0.mk (Kd.C_below C1.out hb_)
    clear C1
    have C1 := C1_
    clear C1_
    have C2_ := Aside0.mk (Kd.C_below C2.out hb_)
    clear C2
    have C2 := C2_
    clear C2_
    have HB_ := Aside0.mk (below_step HB.out hb_)
    clear HB
    have HB := HB_
    clear HB_
    obtain ⟨Ag, cg, rfl⟩ := Kd.R_slice hrg_
    have Cg := Aside0.mk (Kd.R_reads' hrg_).2.2
    have Hg := Aside0.mk (show g.length ≤ cg from (Kd.R_reads' hrg_).2.1)
    clear hrg_
    clear hb_
    go_wp2_with fail
    refine (Of_calls A0 c0 l0 wa4 C0.out H0.out).mono ?_
    rintro e wa5 ⟨Aa, ca, rfl, hC_, hH_, hb_⟩
    have C0_ := Aside0.mk (Kd.C_below C0.out hb_)
    clear C0
    have C0 := C0_
    clear C0_
    have C1_ := Aside0.mk (Kd.C_below C1.out hb_)
    clear C1
    have C1 := C1_
    clear C1_
    have C2_ := Aside0.mk (Kd.C_below C2.out hb_)
    clear C2
    have C2 := C2_
    clear C2_
    have Cg_ := Aside0.mk (Kd.C_below Cg.out hb_)
    clear Cg
    have Cg := Cg_
    clear Cg_
    have HB_ := Aside0.mk (below_step HB.out hb_)
    clear HB
    have HB := HB_
    clear HB_
    have Ca := Aside0.mk hC_
    have Ha := Aside0.mk hH_
    clear hC_ hH_ hb_
    go_wp2_with fail
    refine (Of_calls A1 c1 l1 wa5 C1.out H1.out).mono ?_
    rintro e wa6 ⟨Ab, cb, rfl, hC_, hH_, hb_⟩
    have C0_ := Aside0.mk (Kd.C_below C0.out hb_)
    clear C0
    have C0 := C0_
    clear C0_
    have C1_ := Aside0.mk (Kd.C_below C1.out hb_)
    clear C1
    have C1 := C1_
    clear C1_
    have C2_ := Aside0.mk (Kd.C_below C2.out hb_)
    clear C2
    have C2 := C2_
    clear C2_
    have Cg_ := Aside0.mk (Kd.C_below Cg.out hb_)
    clear Cg
    have Cg := Cg_
    clear Cg_
    have Ca_ := Aside0.mk (Kd.C_below Ca.out hb_)
    clear Ca
    have Ca := Ca_
    clear Ca_
    have HB_ := Aside0.mk (below_step HB.out hb_)
    clear HB
    have HB := HB_
    clear HB_
    have Cb := Aside0.mk hC_
    have Hb := Aside0.mk hH_
    clear hC_ hH_ hb_
    generalize hx : ozB l0 = x at *
    generalize hy : ozB l1 = y at *
    clear hx hy
    by_cases hz : x = [] ∧ y = []
    · obtain ⟨rfl, rfl⟩ := hz
      obtain rfl : g = [] := by rw [hgg.out]; simp [Bn.nv, Bn.limbs_zero]
      go_wp2_with fail
      go_ret
      exact ⟨rfl, HB.out⟩
    · have hlen : ((wrap64 ((x.length : Int) + (y.length : Int))) == 0) = false := by
        have h1 := hO0.out.2
        have h2 := hO1.out.2
        rw [w64 (by omega) (by omega), beq_eq_false_iff_ne]
        intro h
        exact hz ⟨List.length_eq_zero_iff.1 (by omega), List.length_eq_zero_iff.1 (by omega)⟩
      obtain ⟨ng, lg, g0⟩ := gcd_row hO0.out.1 hO1.out.1 hO0.out.2 hO1.out.2 hz
      rw [← hgg.out] at ng lg g0
      have vgg : Bn.nv g = Nat.gcd (Bn.nv x) (Bn.nv y) := by rw [hgg.out, Bn.nv_limbs]
      have hVg := Aside0.mk (show lineagelaw03_valid.f 10 [g] = some true from by rw [valid_f [g] (by simp) (by simp)]; simp [(validB_iff ng.1).2 ⟨ng, lg⟩])
      have hDa := Aside0.mk (show ∃ q r, lineageref03_DivMod.f 10000 x g = some (q, r) ∧ true = decide (r = []) from by
          have h := divides_f ng hO0.out.1 lg hO0.out.2 g0
          rw [decide_eq_true (show Bn.nv g ∣ Bn.nv x from by rw [vgg]; exact Nat.gcd_dvd_left _ _)] at h
          exact h)
      have hDb := Aside0.mk (show ∃ q r, lineageref03_DivMod.f 10000 y g = some (q, r) ∧ true = decide (r = []) from by
          have h := divides_f ng hO1.out.1 lg hO1.out.2 g0
          rw [decide_eq_true (show Bn.nv g ∣ Bn.nv y from by rw [vgg]; exact Nat.gcd_dvd_right _ _)] at h
          exact h)
      have hg0 : ((g.length : Int) == 0) = false := by
        have : 0 < g.length := List.length_pos_iff.2 g0
        rw [beq_eq_false_iff_ne]
        omega
      have kg := Aside0.mk (show Bn.Nrm g ∧ g.length ≤ 128 ∧ Bn.nv g = Nat.gcd (Bn.nv x) (Bn.nv y) from ⟨ng, lg, vgg⟩)
      clear ng lg g0 vgg hgg hz hGc hSm
      go_wp2_with (first | ((with_reducible refine gate_dst (N := 36) rfl ?_); (try (refine gate_guard (by rfl) ?_; dsimp only)); refine lits_event ?hg (N := 36) ?hd (LL := [g]) (inner := [.slice Ag g.length cg]) ?hr (Reps.one (Kd.FK_slice_mk (l := g) Hg.out (Kd.C_F (Kd.heap_int .u32) Cg.out)) (Reps.none _ _)) (by simp) ?_; (case hd => rfl); (case hg => rfl); (case hr => first | (go_simp; done) | (go_simp; rfl)); intro Avg cvg wa7 hl_ hm_ hb_; have C0_ := Aside0.mk (Kd.C_below C0.out hb_); clear C0; have C0 := C0_; clear C0_; have C1_ := Aside0.mk (Kd.C_below C1.out hb_); clear C1; have C1 := C1_; clear C1_; have C2_ := Aside0.mk (Kd.C_below C2.out hb_); clear C2; have C2 := C2_; clear C2_; have Cg_ := Aside0.mk (Kd.C_below Cg.out hb_); clear Cg; have Cg := Cg_; clear Cg_; have Ca_ := Aside0.mk (Kd.C_below Ca.out hb_); clear Ca; have Ca := Ca_; clear Ca_; have Cb_ := Aside0.mk (Kd.C_below Cb.out hb_); clear Cb; have Cb := Cb_; clear Cb_; have HB_ := Aside0.mk (below_step HB.out hb_); clear HB; have HB := HB_; clear HB_; have Dvg := Aside0.mk hl_; have Evg := Aside0.mk hm_; clear hl_ hm_ hb_))
      refine (lineagelaw03_valid.calls 10 Avg cvg [g] true wa7 Dvg.out Evg.out hVg.out).mono ?_
      rintro e wa8 ⟨rfl, hd_⟩
      have hb_ := hd_.below
      have C0_ := Aside0.mk (Kd.C_below C0.out hb_)
      clear C0
      have C0 := C0_
      clear C0_
      have C1_ := Aside0.mk (Kd.C_below C1.out hb_)
      clear C1
      have C1 := C1_
      clear C1_
      have C2_ := Aside0.mk (Kd.C_below C2.out hb_)
      clear C2
      have C2 := C2_
      clear C2_
      have Cg_ := Aside0.mk (Kd.C_below Cg.out hb_)
      clear Cg
      have Cg := Cg_
      clear Cg_
      have Ca_ := Aside0.mk (Kd.C_below Ca.out hb_)
      clear Ca
      have Ca := Ca_
      clear Ca_
      have Cb_ := Aside0.mk (Kd.C_below Cb.out hb_)
      clear Cb
      have Cb := Cb_
      clear Cb_
      have HB_ := Aside0.mk (below_step HB.out hb_)
      clear HB
      have HB := HB_
      clear HB_
      clear hb_ hd_
      clear Dvg Evg
      go_wp2_with fail
      refine (divides_calls 10000 Ag cg g Aa ca x true wa8 Cg.out Hg.out Ca.out Ha.out hDa.out).mono ?_
      rintro e wa9 ⟨rfl, hb_⟩
      have C0_ := Aside0.mk (Kd.C_below C0.out hb_)
      clear C0
      have C0 := C0_
      clear C0_
      have C1_ := Aside0.mk (Kd.C_below C1.out hb_)
      clear C1
      have C1 := C1_
      clear C1_
      have C2_ := Aside0.mk (Kd.C_below C2.out hb_)
      clear C2
      have C2 := C2_
      clear C2_
      have Cg_ := Aside0.mk (Kd.C_below Cg.out hb_)
      clear Cg
      have Cg := Cg_
      clear Cg_
      have Ca_ := Aside0.mk (Kd.C_below Ca.out hb_)
      clear Ca
      have Ca := Ca_
      clear Ca_
      have Cb_ := Aside0.mk (Kd.C_below Cb.out hb_)
      clear Cb
      have Cb := Cb_
      clear Cb_
      have HB_ := Aside0.mk (below_step HB.out hb_)
      clear HB
      have HB := HB_
      clear HB_
      clear hb_
      go_wp2_with fail
      refine (divides_calls 10000 Ag cg g Ab cb y true wa9 Cg.out Hg.out Cb.out Hb.out hDb.out).mono ?_
      rintro e wa10 ⟨rfl, hb_⟩
      have C0_ := Aside0.mk (Kd.C_below C0.out hb_)
      clear C0
      have C0 := C0_
      clear C0_
      have C1_ := Aside0.mk (Kd.C_below C1.out hb_)
      clear C1
      have C1 := C1_
      clear C1_
      have C2_ := Aside0.mk (Kd.C_below C2.out hb_)
      clear C2
      have C2 := C2_
      clear C2_
      have Cg_ := Aside0.mk (Kd.C_below Cg.out hb_)
      clear Cg
      have Cg := Cg_
      clear Cg_
      have Ca_ := Aside0.mk (Kd.C_below Ca.out hb_)
      clear Ca
      have Ca := Ca_
      clear Ca_
      have Cb_ := Aside0.mk (Kd.C_below Cb.out hb_)
      clear Cb
      have Cb := Cb_
      clear Cb_
      have HB_ := Aside0.mk (below_step HB.out hb_)
      clear HB
      have HB := HB_
      clear HB_
      clear hb_
      go_wp2_with (first | ((with_reducible refine gate_dst (N := 57) rfl ?_); (try (refine gate_guard (by rfl) ?_; dsimp only)); refine lits_event ?hg (N := 57) ?hd (LL := [l2]) (inner := [.slice A2 l2.length c2]) ?hr (Reps.one (Kd.FK_slice_mk (l := l2) H2.out (Kd.C_F (Kd.heap_int .u32) C2.out)) (Reps.none _ _)) (by simp) ?_; (case hd => rfl); (case hg => rfl); (case hr => first | (go_simp; done) | (go_simp; rfl)); intro Avd cvd wa11 hl_ hm_ hb_; have C0_ := Aside0.mk (Kd.C_below C0.out hb_); clear C0; have C0 := C0_; clear C0_; have C1_ := Aside0.mk (Kd.C_below C1.out hb_); clear C1; have C1 := C1_; clear C1_; have C2_ := Aside0.mk (Kd.C_below C2.out hb_); clear C2; have C2 := C2_; clear C2_; have Cg_ := Aside0.mk (Kd.C_below Cg.out hb_); clear Cg; have Cg := Cg_; clear Cg_; have Ca_ := Aside0.mk (Kd.C_below Ca.out hb_); clear Ca; have Ca := Ca_; clear Ca_; have Cb_ := Aside0.mk (Kd.C_below Cb.out hb_); clear Cb; have Cb := Cb_; clear Cb_; have HB_ := Aside0.mk (below_step HB.out hb_); clear HB; have HB := HB_; clear HB_; have Dvd := Aside0.mk hl_; have Evd := Aside0.mk hm_; clear hl_ hm_ hb_))
      refine (lineagelaw03_valid.calls 10 Avd cvd [l2] vd wa11 Dvd.out Evd.out hV2.out).mono ?_
      rintro e wa12 ⟨rfl, hd_⟩
      have hb_ := hd_.below
      have C0_ := Aside0.mk (Kd.C_below C0.out hb_)
      clear C0
      have C0 := C0_
      clear C0_
      have C1_ := Aside0.mk (Kd.C_below C1.out hb_)
      clear C1
      have C1 := C1_
      clear C1_
      have C2_ := Aside0.mk (Kd.C_below C2.out hb_)
      clear C2
      have C2 := C2_
      clear C2_
      have Cg_ := Aside0.mk (Kd.C_below Cg.out hb_)
      clear Cg
      have Cg := Cg_
      clear Cg_
      have Ca_ := Aside0.mk (Kd.C_below Ca.out hb_)
      clear Ca
      have Ca := Ca_
      clear Ca_
      have Cb_ := Aside0.mk (Kd.C_below Cb.out hb_)
      clear Cb
      have Cb := Cb_
      clear Cb_
      have HB_ := Aside0.mk (below_step HB.out hb_)
      clear HB
      have HB := HB_
      clear HB_
      clear hb_ hd_
      clear Dvd Evd
      cases vd with
      | false =>
        go_wp2_with fail
        go_ret
        exact ⟨rfl, HB.out⟩
      | true =>
        by_cases h2 : l2 = []
        · obtain rfl := h2
          go_wp2_with fail
          go_ret
          exact ⟨rfl, HB.out⟩
        · have hl2 : ((l2.length : Int) == 0) = false := by
            have : 0 < l2.length := List.length_pos_iff.2 h2
            rw [beq_eq_false_iff_ne]
            omega
          obtain ⟨n2, s2⟩ := (validB_iff hL2.out).1 hvd2.out.symm
          obtain ⟨da, hda⟩ : ∃ b, b = decide (Bn.nv l2 ∣ Bn.nv x) := ⟨_, rfl⟩
          obtain ⟨db, hdb⟩ : ∃ b, b = decide (Bn.nv l2 ∣ Bn.nv y) := ⟨_, rfl⟩
          have hE := Aside0.mk (show ∃ q r, lineageref03_DivMod.f 10000 x l2 = some (q, r) ∧ da = decide (r = []) from by rw [hda]; exact divides_f n2 hO0.out.1 s2 hO0.out.2 h2)
          have hF := Aside0.mk (show ∃ q r, lineageref03_DivMod.f 10000 y l2 = some (q, r) ∧ db = decide (r = []) from by rw [hdb]; exact divides_f n2 hO1.out.1 s2 hO1.out.2 h2)
          have hG := Aside0.mk (show da = true → db = true → ∃ q r, lineageref03_DivMod.f 10000 g l2 = some (q, r) ∧ true = decide (r = []) from fun ea eb => by
              have h := divides_f n2 kg.out.1 s2 kg.out.2.1 h2
              rw [decide_eq_true (show Bn.nv l2 ∣ Bn.nv g from by rw [kg.out.2.2]; exact Nat.dvd_gcd (of_decide_eq_true (hda ▸ ea)) (of_decide_eq_true (hdb ▸ eb)))] at h
              exact h)
          clear hda hdb n2 s2 h2
          go_wp2_with fail
          refine (divides_calls 10000 A2 c2 l2 Aa ca x da wa12 C2.out H2.out Ca.out Ha.out hE.out).mono ?_
          rintro e wa13 ⟨rfl, hb_⟩
          have C0_ := Aside0.mk (Kd.C_below C0.out hb_)
          clear C0
          have C0 := C0_
          clear C0_
          have C1_ := Aside0.mk (Kd.C_below C1.out hb_)
          clear C1
          have C1 := C1_
          clear C1_
          have C2_ := Aside0.mk (Kd.C_below C2.out hb_)
          clear C2
          have C2 := C2_
          clear C2_
          have Cg_ := Aside0.mk (Kd.C_below Cg.out hb_)
          clear Cg
          have Cg := Cg_
          clear Cg_
          have Ca_ := Aside0.mk (Kd.C_below Ca.out hb_)
          clear Ca
          have Ca := Ca_
          clear Ca_
          have Cb_ := Aside0.mk (Kd.C_below Cb.out hb_)
          clear Cb
          have Cb := Cb_
          clear Cb_
          have HB_ := Aside0.mk (below_step HB.out hb_)
          clear HB
          have HB := HB_
          clear HB_
          clear hb_
          cases da with
          | false =>
            go_wp2_with fail
            go_ret
            exact ⟨rfl, HB.out⟩
          | true =>
            go_wp2_with fail
            refine (divides_calls 10000 A2 c2 l2 Ab cb y db wa13 C2.out H2.out Cb.out Hb.out hF.out).mono ?_
            rintro e wa14 ⟨rfl, hb_⟩
            have C0_ := Aside0.mk (Kd.C_below C0.out hb_)
            clear C0
            have C0 := C0_
            clear C0_
            have C1_ := Aside0.mk (Kd.C_below C1.out hb_)
            clear C1
            have C1 := C1_
            clear C1_
            have C2_ := Aside0.mk (Kd.C_below C2.out hb_)
            clear C2
            have C2 := C2_
            clear C2_
            have Cg_ := Aside0.mk (Kd.C_below Cg.out hb_)
            clear Cg
            have Cg := Cg_
            clear Cg_
            have Ca_ := Aside0.mk (Kd.C_below Ca.out hb_)
            clear Ca
            have Ca := Ca_
            clear Ca_
            have Cb_ := Aside0.mk (Kd.C_below Cb.out hb_)
            clear Cb
            have Cb := Cb_
            clear Cb_
            have HB_ := Aside0.mk (below_step HB.out hb_)
            clear HB
            have HB := HB_
            clear HB_
            clear hb_
            cases db with
            | false =>
              go_wp2_with fail
              go_ret
              exact ⟨rfl, HB.out⟩
            | true =>
              have hG2 := Aside0.mk (hG.out (by trivial) (by trivial))
              clear hG
              go_wp2_with fail
              refine (divides_calls 10000 A2 c2 l2 Ag cg g true wa14 C2.out H2.out Cg.out Hg.out hG2.out).mono ?_
              rintro e wa15 ⟨rfl, hb_⟩
              have C0_ := Aside0.mk (Kd.C_below C0.out hb_)
              clear C0
              have C0 := C0_
              clear C0_
              have C1_ := Aside0.mk (Kd.C_below C1.out hb_)
              clear C1
              have C1 := C1_
              clear C1_
              have C2_ := Aside0.mk (Kd.C_below C2.out hb_)
              clear C2
              have C2 := C2_
              clear C2_
              have Cg_ := Aside0.mk (Kd.C_below Cg.out hb_)
              clear Cg
              have Cg := Cg_
              clear Cg_
              have Ca_ := Aside0.mk (Kd.C_below Ca.out hb_)
              clear Ca
              have Ca := Ca_
              clear Ca_
              have Cb_ := Aside0.mk (Kd.C_below Cb.out hb_)
              clear Cb
              have Cb := Cb_
              clear Cb_
              have HB_ := Aside0.mk (below_step HB.out hb_)
              clear HB
              have HB := HB_
              clear HB_
              clear hb_
              go_wp2_with fail
              go_ret
              exact ⟨rfl, HB.out⟩
end Go.Proofs.YtoakfjcejamoeaaDoor.B
