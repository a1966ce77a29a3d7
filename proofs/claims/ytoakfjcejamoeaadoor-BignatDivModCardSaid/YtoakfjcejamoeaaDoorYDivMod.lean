import Derived.Test.YtoakfjcejamoeaaDoorL10
import Derived.Test.YtoakfjcejamoeaaDoorBx5
import Derived.Test.YtoakfjcejamoeaaDoorBx9
import Derived.Test.YtoakfjcejamoeaaDoorBx8
namespace Go.Proofs.YtoakfjcejamoeaaDoor.B
open Go.RowKit Go.Proofs.YtoakfjcejamoeaaDoorW.PrintWords Go.Proofs.YtoakfjcejamoeaaDoorW.PrintLast Go.Proofs.YtoakfjcejamoeaaDoorW.PrintMore
set_option exponentiation.threshold 8200
set_option linter.unusedVariables false
set_option linter.unusedSimpArgs false
section
variable {P : Program} {ops : Array Oper} {rest : List Oper} {o : Oper} {a : Act} {Q : Exit → Act → World → Prop}
/-- A literal of rows of limbs. -/
theorem lits_event {W : World} (hgd : o.guard = none) {N : Tmp} (hd : o.dst = some N) {LL : List (List Int)} {inner : List Value}
    (hrun : (execOp a.eval o).run P W = .ok (.value (.slice (some ⟨W.heap.size, 0, none⟩) LL.length LL.length)) (W.alloc (.cells inner.toArray 23)))
    (hrep : Reps (Kd.FK (Kd.slice 63 (Kd.int .u32)) W (fun k => k < W.heap.size)) (Kd.slice 63 (Kd.int .u32)).sz LL inner) (hm : LL.length ≤ 1000)
    (h : ∀ A c w1, Kd.C (Kd.slice 63 (Kd.int .u32)) w1 A LL.length LL → LL.length ≤ c → Below W.heap.size W w1 → wpList P ops Q rest (a.put o.dst (.slice A LL.length c)) w1) : wpList P ops Q (o :: rest) a W :=
  Kd.N_lit (Kd.slice 63 (Kd.int .u32)) (w0 := W) W.heap.size 23 hgd hd (ok := fun _ => True) (okp := fun k => k < W.heap.size) hrun hrep (fun _ _ => trivial) trivial (Below.refl _ _) (Nat.le_refl _) (by omega) (fun v1 w1 hn hb _ _ => by
    obtain ⟨A, c, rfl⟩ := Kd.N_slice hn
    exact h A c w1 (Kd.N_reads' hn).2.2 (Kd.N_reads' hn).2.1 hb)
end
theorem divLaw_facts {l0 l1 q r : List Int} (L0 : Bn.Limbs l0) (L1 : Bn.Limbs l1) (v0 : validB l0 = true) (v1 : validB l1 = true) (hz : l1 ≠ []) (hq : q = Bn.limbs (Bn.nv l0 / Bn.nv l1)) (hr : r = Bn.limbs (Bn.nv l0 % Bn.nv l1)) :
    ∃ m, lineagelaw03_valid.f 10 [q, r] = some true ∧ lineageref03_Compare.f 200 r l1 = some (-1) ∧ lineageref03_Mul.f 20000 q l1 = some m ∧ lineageref03_Add.f 1000 m r = some l0 ∧ lineagelaw03_same.f 200 l0 l0 = some true := by
  obtain ⟨n0, s0⟩ := (validB_iff L0).1 v0
  obtain ⟨n1, s1⟩ := (validB_iff L1).1 v1
  have h0 : 0 < Bn.nv l1 := by
    rcases Nat.eq_zero_or_pos (Bn.nv l1) with h | h
    · exact absurd ((Bn.nv_zero n1).1 h) hz
    · exact h
  have hml := Nat.mod_lt (Bn.nv l0) h0
  have hdl : Bn.nv l0 / Bn.nv l1 ≤ Bn.nv l0 := Nat.div_le_self _ _
  have lq : q.length ≤ 128 := by rw [hq]; exact Nat.le_trans (limbs_le L0 hdl) s0
  have lr : r.length ≤ 128 := by rw [hr]; exact Nat.le_trans (limbs_le L1 (by omega)) s1
  have nq : Bn.Nrm q := by rw [hq]; exact Bn.nrm_limbs _
  have nr : Bn.Nrm r := by rw [hr]; exact Bn.nrm_limbs _
  have vq : Bn.nv q = Bn.nv l0 / Bn.nv l1 := by rw [hq, Bn.nv_limbs]
  have vr : Bn.nv r = Bn.nv l0 % Bn.nv l1 := by rw [hr, Bn.nv_limbs]
  have e1 := refMul_f nq.1 n1.1 (show q.length + l1.length ≤ 1048576 by omega) (k := 20000) (by have := Nat.mul_le_mul lq (show l1.length + 2 ≤ 130 by omega); omega)
  rw [vq, Nat.mul_comm] at e1
  have hle : Bn.nv l1 * (Bn.nv l0 / Bn.nv l1) ≤ Bn.nv l0 := Nat.mul_div_le _ _
  have lm : (Bn.limbs (Bn.nv l1 * (Bn.nv l0 / Bn.nv l1))).length ≤ 128 := Nat.le_trans (limbs_le L0 hle) s0
  refine ⟨_, ?_, ?_, e1, ?_, ?_⟩
  · rw [valid_f [q, r] (by simp) (by simp)]
    simp [(validB_iff nq.1).2 ⟨nq, lq⟩, (validB_iff nr.1).2 ⟨nr, lr⟩]
  · rw [refCompare_f nr n1 (by omega) (by omega), vr, cmpN_lt hml]
  · rw [refAdd_f (Bn.nrm_limbs _) nr (by omega) (by omega) (by omega), Bn.nv_limbs, vr, Nat.div_add_mod, n0.2]
  · rw [same_f l0 l0 (by omega) (by omega)]
    simp
set_option maxHeartbeats 16000000 in
set_option maxRecDepth 100000 in
theorem divModLaw (A0 : Option Addr) (c0 : Nat) (l0 : List Int) (A1 : Option Addr) (c1 : Nat) (l1 : List Int) (w : World) (hr0 : Kd.C (Kd.int .u32) w A0 l0.length l0) (hc0 : l0.length ≤ c0) (hr1 : Kd.C (Kd.int .u32) w A1 l1.length l1) (hc1 : l1.length ≤ c1) (ht_ : Tab w) (L0 : Bn.Limbs l0) (L1 : Bn.Limbs l1) :
    Calls Tryd.prog 5 #[.slice A0 l0.length c0, .slice A1 l1.length c1] w fun e w' => e = .returned (.bool true) ∧ Below w.heap.size w w' := by
  have HT_ := Aside0.mk ht_
  clear ht_
  have C0 := Aside0.mk hr0
  have H0 := Aside0.mk hc0
  clear hr0 hc0
  have C1 := Aside0.mk hr1
  have H1 := Aside0.mk hc1
  clear hr1 hc1
  have HB := Aside0.mk (Below.refl w.heap.size w)
  have hs0 : ∃ s : Bool, lineagelaw03_small.f 10 140 [l0, l1] = some s ∧ (s = true → l0.length ≤ 140 ∧ l1.length ≤ 140) := by
      refine ⟨_, small_f 140 [l0, l1] (by simp) (by simp), fun h => ?_⟩
      simp at h
      omega
  obtain ⟨s, hs, hs2⟩ := hs0
  have hSm := Aside0.mk hs
  clear hs
  have hv0 : ∃ v : Bool, lineagelaw03_valid.f 10 [l0, l1] = some v ∧ v = (validB l0 && validB l1) := ⟨_, valid_f [l0, l1] (by simp) (by simp), by simp⟩
  obtain ⟨v, hv, hv2⟩ := hv0
  have hVa := Aside0.mk hv
  clear hv
  obtain ⟨⟨q, r, ec⟩, hd⟩ : ∃ t, t = divB l0 l1 := ⟨_, rfl⟩
  have hDi := Aside0.mk (show bignat_DivMod.f 4001 l0 l1 = some (q, r, ec) from hd ▸ DivMod_f L0 L1 (Nat.le_refl _))
  have hv3 := Aside0.mk hv2
  have hs3 := Aside0.mk hs2
  have hd3 := Aside0.mk hd
  have L0_ := Aside0.mk L0
  have L1_ := Aside0.mk L1
  clear hv2 hs2 hd L0 L1
  go_enter Tryd.func5, Tryd.ntmps5
  go_wp2_with fail
  refine (lineagelaw03_awake.calls true w rfl (HT_.out.below HB.out)).mono ?_
  rintro e wa1 ⟨rfl, hb_⟩
  have C0_ := Aside0.mk (Kd.C_below C0.out hb_)
  clear C0
  have C0 := C0_
  clear C0_
  have C1_ := Aside0.mk (Kd.C_below C1.out hb_)
  clear C1
  have C1 := C1_
  clear C1_
  have HB_ := Aside0.mk (below_step HB.out hb_)
  clear HB
  have HB := HB_
  clear HB_
  clear hb_
  go_wp2_with (first | ((with_reducible refine gate_dst (N := 13) rfl ?_); (try (refine gate_guard (by rfl) ?_; dsimp only)); refine lits_event ?hg (N := 13) ?hd (LL := [l0, l1]) (inner := [.slice A0 l0.length c0, .slice A1 l1.length c1]) ?hr (Reps.one (Kd.FK_slice_mk (l := l0) H0.out (Kd.C_F (Kd.heap_int .u32) C0.out)) (Reps.one (Kd.FK_slice_mk (l := l1) H1.out (Kd.C_F (Kd.heap_int .u32) C1.out)) (Reps.none _ _))) (by simp) ?_; (case hd => rfl); (case hg => rfl); (case hr => first | (go_simp; done) | (go_simp; rfl)); intro As cs wa2 hl_ hm_ hb_; have C0_ := Aside0.mk (Kd.C_below C0.out hb_); clear C0; have C0 := C0_; clear C0_; have C1_ := Aside0.mk (Kd.C_below C1.out hb_); clear C1; have C1 := C1_; clear C1_; have HB_ := Aside0.mk (below_step HB.out hb_); clear HB; have HB := HB_; clear HB_; have Ds := Aside0.mk hl_; have Es := Aside0.mk hm_; clear hl_ hm_ hb_))
  refine (lineagelaw03_small.calls 10 140 As cs [l0, l1] s wa2 Ds.out Es.out hSm.out).mono ?_
  rintro e wa3 ⟨rfl, hd_⟩
  have hb_ := hd_.below
  have C0_ := Aside0.mk (Kd.C_below C0.out hb_)
  clear C0
  have C0 := C0_
  clear C0_
  have C1_ := Aside0.mk (Kd.C_below C1.out hb_)
  clear C1
  have C1 := C1_
  clear C1_
  have HB_ := Aside0.mk (below_step HB.out hb_)
  clear HB
  have HB := HB_
  clear HB_
  clear hb_ hd_
  clear Ds Es
  cases s with
  | false =>
    go_wp2_with fail
    refine (lineagelaw03_awake.calls true wa3 rfl (HT_.out.below HB.out)).mono ?_
    rintro e wa4 ⟨rfl, hb_⟩
    have C0_ := Aside0.mk (Kd.C_below C0.out hb_)
    clear C0
    have C0 := C0_
    clear C0_
    have C1_ := Aside0.mk (Kd.C_below C1.out hb_)
    clear C1
    have C1 := C1_
    clear C1_
    have HB_ := Aside0.mk (below_step HB.out hb_)
    clear HB
    have HB := HB_
    clear HB_
    clear hb_
    go_wp2_with fail
    go_ret
    exact ⟨rfl, HB.out⟩
  | true =>
    obtain ⟨z0, z1⟩ := hs3.out rfl
    clear hs3
    go_wp2_with fail
    refine (bignat_DivMod.calls 4001 A0 c0 l0 A1 c1 l1 q r ec wa3 C0.out H0.out C1.out H1.out hDi.out).mono ?_
    rintro e wa4 ⟨vq_, vr_, rfl, hrq_, hrr_, hb_⟩
    have C0_ := Aside0.mk (Kd.C_below C0.out hb_)
    clear C0
    have C0 := C0_
    clear C0_
    have C1_ := Aside0.mk (Kd.C_below C1.out hb_)
    clear C1
    have C1 := C1_
    clear C1_
    have HB_ := Aside0.mk (below_step HB.out hb_)
    clear HB
    have HB := HB_
    clear HB_
    obtain ⟨Aq, cq, rfl⟩ := Kd.R_slice hrq_
    have Cq := Aside0.mk (Kd.R_reads' hrq_).2.2
    have Hq := Aside0.mk (show q.length ≤ cq from (Kd.R_reads' hrq_).2.1)
    clear hrq_
    obtain ⟨Ar, cr, rfl⟩ := Kd.R_slice hrr_
    have Cr := Aside0.mk (Kd.R_reads' hrr_).2.2
    have Hr := Aside0.mk (show r.length ≤ cr from (Kd.R_reads' hrr_).2.1)
    clear hrr_
    clear hb_
    go_wp2_with (first | ((with_reducible refine gate_dst (N := 27) rfl ?_); (try (refine gate_guard (by rfl) ?_; dsimp only)); refine lits_event ?hg (N := 27) ?hd (LL := [l0, l1]) (inner := [.slice A0 l0.length c0, .slice A1 l1.length c1]) ?hr (Reps.one (Kd.FK_slice_mk (l := l0) H0.out (Kd.C_F (Kd.heap_int .u32) C0.out)) (Reps.one (Kd.FK_slice_mk (l := l1) H1.out (Kd.C_F (Kd.heap_int .u32) C1.out)) (Reps.none _ _))) (by simp) ?_; (case hd => rfl); (case hg => rfl); (case hr => first | (go_simp; done) | (go_simp; rfl)); intro Av cv wa5 hl_ hm_ hb_; have C0_ := Aside0.mk (Kd.C_below C0.out hb_); clear C0; have C0 := C0_; clear C0_; have C1_ := Aside0.mk (Kd.C_below C1.out hb_); clear C1; have C1 := C1_; clear C1_; have Cq_ := Aside0.mk (Kd.C_below Cq.out hb_); clear Cq; have Cq := Cq_; clear Cq_; have Cr_ := Aside0.mk (Kd.C_below Cr.out hb_); clear Cr; have Cr := Cr_; clear Cr_; have HB_ := Aside0.mk (below_step HB.out hb_); clear HB; have HB := HB_; clear HB_; have Dv := Aside0.mk hl_; have Ev := Aside0.mk hm_; clear hl_ hm_ hb_))
    refine (lineagelaw03_valid.calls 10 Av cv [l0, l1] v wa5 Dv.out Ev.out hVa.out).mono ?_
    rintro e wa6 ⟨rfl, hd_⟩
    have hb_ := hd_.below
    have C0_ := Aside0.mk (Kd.C_below C0.out hb_)
    clear C0
    have C0 := C0_
    clear C0_
    have C1_ := Aside0.mk (Kd.C_below C1.out hb_)
    clear C1
    have C1 := C1_
    clear C1_
    have Cq_ := Aside0.mk (Kd.C_below Cq.out hb_)
    clear Cq
    have Cq := Cq_
    clear Cq_
    have Cr_ := Aside0.mk (Kd.C_below Cr.out hb_)
    clear Cr
    have Cr := Cr_
    clear Cr_
    have HB_ := Aside0.mk (below_step HB.out hb_)
    clear HB
    have HB := HB_
    clear HB_
    clear hb_ hd_
    clear Dv Ev
    cases v with
    | false =>
      obtain ⟨rfl, rfl, rfl⟩ : q = [] ∧ r = [] ∧ ec = 1 := by
        have h := hd3.out
        unfold divB at h
        rw [if_neg (by rintro ⟨h1, h2, -⟩; have := hv3.out; rw [h1, h2] at this; cases this)] at h
        injection h with h1 h2
        injection h2 with h2 h3
        exact ⟨h1, h2, h3⟩
      go_wp2_with fail
      go_ret
      exact ⟨rfl, HB.out⟩
    | true =>
      obtain ⟨v0, v1⟩ : validB l0 = true ∧ validB l1 = true := by
        have h := hv3.out.symm
        simpa using h
      by_cases hz : l1 = []
      · obtain ⟨rfl, rfl, rfl⟩ : q = [] ∧ r = [] ∧ ec = 1 := by
          have h := hd3.out
          unfold divB at h
          rw [if_neg (by rintro ⟨-, -, h3⟩; exact h3 hz)] at h
          injection h with h1 h2
          injection h2 with h2 h3
          exact ⟨h1, h2, h3⟩
        have hz1 : ((l1.length : Int) == 0) = true := by rw [hz]; rfl
        go_wp2_with fail
        go_ret
        exact ⟨rfl, HB.out⟩
      · have facts : (q = Bn.limbs (Bn.nv l0 / Bn.nv l1) ∧ r = Bn.limbs (Bn.nv l0 % Bn.nv l1) ∧ ec = 0) := by
          have h := hd3.out
          unfold divB at h
          rw [if_pos ⟨v0, v1, hz⟩] at h
          injection h with h1 h2
          injection h2 with h2 h3
          exact ⟨h1, h2, h3⟩
        obtain ⟨hq, hr, rfl⟩ := facts
        obtain ⟨m, f1, f2, f3, f4, f5⟩ := divLaw_facts L0_.out L1_.out v0 v1 hz hq hr
        have hV2 := Aside0.mk f1
        have hCm := Aside0.mk f2
        have hMu := Aside0.mk f3
        have hAd := Aside0.mk f4
        have hSa := Aside0.mk f5
        have hz0 : ((l1.length : Int) == 0) = false := by
          have : 0 < l1.length := List.length_pos_iff.2 hz
          rw [beq_eq_false_iff_ne]
          omega
        clear f1 f2 f3 f4 f5 hq hr hd3 hv3 hDi hVa hSm
        go_wp2_with (first | ((with_reducible refine gate_dst (N := 52) rfl ?_); (try (refine gate_guard (by rfl) ?_; dsimp only)); refine lits_event ?hg (N := 52) ?hd (LL := [q, r]) (inner := [.slice Aq q.length cq, .slice Ar r.length cr]) ?hr (Reps.one (Kd.FK_slice_mk (l := q) Hq.out (Kd.C_F (Kd.heap_int .u32) Cq.out)) (Reps.one (Kd.FK_slice_mk (l := r) Hr.out (Kd.C_F (Kd.heap_int .u32) Cr.out)) (Reps.none _ _))) (by simp) ?_; (case hd => rfl); (case hg => rfl); (case hr => first | (go_simp; done) | (go_simp; rfl)); intro Av2 cv2 wa7 hl_ hm_ hb_; have C0_ := Aside0.mk (Kd.C_below C0.out hb_); clear C0; have C0 := C0_; clear C0_; have C1_ := Aside0.mk (Kd.C_below C1.out hb_); clear C1; have C1 := C1_; clear C1_; have Cq_ := Aside0.mk (Kd.C_below Cq.out hb_); clear Cq; have Cq := Cq_; clear Cq_; have Cr_ := Aside0.mk (Kd.C_below Cr.out hb_); clear Cr; have Cr := Cr_; clear Cr_; have HB_ := Aside0.mk (below_step HB.out hb_); clear HB; have HB := HB_; clear HB_; have Dv2 := Aside0.mk hl_; have Ev2 := Aside0.mk hm_; clear hl_ hm_ hb_))
        refine (lineagelaw03_valid.calls 10 Av2 cv2 [q, r] true wa7 Dv2.out Ev2.out hV2.out).mono ?_
        rintro e wa8 ⟨rfl, hd_⟩
        have hb_ := hd_.below
        have C0_ := Aside0.mk (Kd.C_below C0.out hb_)
        clear C0
        have C0 := C0_
        clear C0_
        have C1_ := Aside0.mk (Kd.C_below C1.out hb_)
        clear C1
        have C1 := C1_
        clear C1_
        have Cq_ := Aside0.mk (Kd.C_below Cq.out hb_)
        clear Cq
        have Cq := Cq_
        clear Cq_
        have Cr_ := Aside0.mk (Kd.C_below Cr.out hb_)
        clear Cr
        have Cr := Cr_
        clear Cr_
        have HB_ := Aside0.mk (below_step HB.out hb_)
        clear HB
        have HB := HB_
        clear HB_
        clear hb_ hd_
        clear Dv2 Ev2
        go_wp2_with fail
        refine (lineageref03_Compare.calls 200 Ar cr r A1 c1 l1 (-1) wa8 Cr.out Hr.out C1.out H1.out hCm.out).mono ?_
        rintro e wa9 ⟨rfl, hd_⟩
        have hb_ := hd_.below
        have C0_ := Aside0.mk (Kd.C_below C0.out hb_)
        clear C0
        have C0 := C0_
        clear C0_
        have C1_ := Aside0.mk (Kd.C_below C1.out hb_)
        clear C1
        have C1 := C1_
        clear C1_
        have Cq_ := Aside0.mk (Kd.C_below Cq.out hb_)
        clear Cq
        have Cq := Cq_
        clear Cq_
        have Cr_ := Aside0.mk (Kd.C_below Cr.out hb_)
        clear Cr
        have Cr := Cr_
        clear Cr_
        have HB_ := Aside0.mk (below_step HB.out hb_)
        clear HB
        have HB := HB_
        clear HB_
        clear hb_ hd_
        go_wp2_with fail
        refine (lineageref03_Mul.calls 20000 Aq cq q A1 c1 l1 m wa9 Cq.out Hq.out C1.out H1.out hMu.out).mono ?_
        rintro e wa10 ⟨vm_, rfl, hrm_, hb_⟩
        have C0_ := Aside0.mk (Kd.C_below C0.out hb_)
        clear C0
        have C0 := C0_
        clear C0_
        have C1_ := Aside0.mk (Kd.C_below C1.out hb_)
        clear C1
        have C1 := C1_
        clear C1_
        have Cq_ := Aside0.mk (Kd.C_below Cq.out hb_)
        clear Cq
        have Cq := Cq_
        clear Cq_
        have Cr_ := Aside0.mk (Kd.C_below Cr.out hb_)
        clear Cr
        have Cr := Cr_
        clear Cr_
        have HB_ := Aside0.mk (below_step HB.out hb_)
        clear HB
        have HB := HB_
        clear HB_
        obtain ⟨Am, cm, rfl⟩ := Kd.V_slice hrm_
        have Cm := Aside0.mk (Kd.V_reads' hrm_).2.2
        have Hm := Aside0.mk (show m.length ≤ cm from (Kd.V_reads' hrm_).2.1)
        clear hrm_
        clear hb_
        go_wp2_with fail
        refine (lineageref03_Add.calls 1000 Am cm m Ar cr r l0 wa10 Cm.out Hm.out Cr.out Hr.out hAd.out).mono ?_
        rintro e wa11 ⟨vt_, rfl, hrt_, hb_⟩
        have C0_ := Aside0.mk (Kd.C_below C0.out hb_)
        clear C0
        have C0 := C0_
        clear C0_
        have C1_ := Aside0.mk (Kd.C_below C1.out hb_)
        clear C1
        have C1 := C1_
        clear C1_
        have Cq_ := Aside0.mk (Kd.C_below Cq.out hb_)
        clear Cq
        have Cq := Cq_
        clear Cq_
        have Cr_ := Aside0.mk (Kd.C_below Cr.out hb_)
        clear Cr
        have Cr := Cr_
        clear Cr_
        have Cm_ := Aside0.mk (Kd.C_below Cm.out hb_)
        clear Cm
        have Cm := Cm_
        clear Cm_
        have HB_ := Aside0.mk (below_step HB.out hb_)
        clear HB
        have HB := HB_
        clear HB_
        obtain ⟨At, ct, rfl⟩ := Kd.R_slice hrt_
        have Ct := Aside0.mk (Kd.R_reads' hrt_).2.2
        have Ht := Aside0.mk (show l0.length ≤ ct from (Kd.R_reads' hrt_).2.1)
        clear hrt_
        clear hb_
        go_wp2_with fail
        refine (lineagelaw03_same.calls 200 At ct l0 A0 c0 l0 true wa11 Ct.out Ht.out C0.out H0.out hSa.out).mono ?_
        rintro e wa12 ⟨rfl, hd_⟩
        have hb_ := hd_.below
        have C0_ := Aside0.mk (Kd.C_below C0.out hb_)
        clear C0
        have C0 := C0_
        clear C0_
        have C1_ := Aside0.mk (Kd.C_below C1.out hb_)
        clear C1
        have C1 := C1_
        clear C1_
        have Cq_ := Aside0.mk (Kd.C_below Cq.out hb_)
        clear Cq
        have Cq := Cq_
        clear Cq_
        have Cr_ := Aside0.mk (Kd.C_below Cr.out hb_)
        clear Cr
        have Cr := Cr_
        clear Cr_
        have Cm_ := Aside0.mk (Kd.C_below Cm.out hb_)
        clear Cm
        have Cm := Cm_
        clear Cm_
        have Ct_ := Aside0.mk (Kd.C_below Ct.out hb_)
        clear Ct
        have Ct := Ct_
        clear Ct_
        have HB_ := Aside0.mk (below_step HB.out hb_)
        clear HB
        have HB := HB_
        clear HB_
        clear hb_ hd_
        go_wp2_with fail
        go_ret
        exact ⟨rfl, HB.out⟩
end Go.Proofs.YtoakfjcejamoeaaDoor.B
