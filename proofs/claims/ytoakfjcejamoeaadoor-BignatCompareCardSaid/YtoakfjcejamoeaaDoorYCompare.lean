import Derived.Test.YtoakfjcejamoeaaDoorL10
import Derived.Test.YtoakfjcejamoeaaDoorBx5
import Derived.Test.YtoakfjcejamoeaaDoorBx6
import Derived.Test.YtoakfjcejamoeaaDoorBx9
import Derived.Test.YtoakfjcejamoeaaDoorBx8
import Derived.Handy
namespace Go.Proofs.YtoakfjcejamoeaaDoor.B
open Go.RowKit Go.Proofs.YtoakfjcejamoeaaDoorW.PrintWords Go.Proofs.YtoakfjcejamoeaaDoorW.PrintLast Go.Proofs.YtoakfjcejamoeaaDoorW.PrintMore
set_option exponentiation.threshold 8200
set_option linter.unusedVariables false
set_option linter.unusedSimpArgs false
section
variable {P : Program} {ops : Array Oper} {rest : List Oper} {o : Oper} {a : Act} {Q : Exit → Act → World → Prop}
/-- A literal of rows of limbs. -/
theorem lits_event {W : World} (hgd : o.guard = none) {N : Tmp} (hd : o.dst = some N) {LL : List (List Int)} {inner : List Value}
    (hrun : (execOp a.eval o).run P W = .ok (.value (.slice (some ⟨W.heap.size, 0, none⟩) LL.length LL.length)) (W.alloc (.cells inner.toArray 23)))
    (hrep : Reps (Kd.FK (Kd.slice 63 (Kd.int .u32)) W (fun k => k < W.heap.size)) (Kd.slice 63 (Kd.int .u32)).sz LL inner) (hm : LL.length ≤ 1000)
    (h : ∀ A c w1, Kd.C (Kd.slice 63 (Kd.int .u32)) w1 A LL.length LL → LL.length ≤ c → Below W.heap.size W w1 → wpList P ops Q rest (a.put o.dst (.slice A LL.length c)) w1) : wpList P ops Q (o :: rest) a W :=
  Kd.N_lit (Kd.slice 63 (Kd.int .u32)) (w0 := W) W.heap.size 23 hgd hd (ok := fun _ => True) (okp := fun k => k < W.heap.size) hrun hrep (fun _ _ => trivial) trivial (Below.refl _ _) (Nat.le_refl _) (by omega) (fun v1 w1 hn hb _ _ => by
    obtain ⟨A, c, rfl⟩ := Kd.N_slice hn
    exact h A c w1 (Kd.N_reads' hn).2.2 (Kd.N_reads' hn).2.1 hb)
end
set_option maxHeartbeats 16000000 in
set_option maxRecDepth 100000 in
/-- Of returns the number, or zero. -/
theorem Of_calls (A0 : Option Addr) (c0 : Nat) (l0 : List Int) (w : World) (hr0 : Kd.C (Kd.int .u32) w A0 l0.length l0) (hc0 : l0.length ≤ c0) :
    Calls Tryd.prog 31 #[.slice A0 l0.length c0] w fun e w' => ∃ A c, e = .returned (.slice A (ozB l0).length c) ∧ Kd.C (Kd.int .u32) w' A (ozB l0).length (ozB l0) ∧ (ozB l0).length ≤ c ∧ Below w.heap.size w w' := by
  have C0 := Aside0.mk hr0
  have H0 := Aside0.mk hc0
  have HB := Aside0.mk (Below.refl w.heap.size w)
  clear hr0 hc0
  obtain ⟨v, hv⟩ : ∃ v, v = validB l0 := ⟨_, rfl⟩
  have hVa := Aside0.mk (show lineageref03_Valid.f l0 = some v from hv ▸ refValid_f l0)
  have hoz : ozB l0 = if v = true then l0 else [] := by rw [hv]; rfl
  have hO := Aside0.mk hoz
  clear hv hoz
  go_enter Tryd.func31, Tryd.ntmps31
  go_wp2_with fail
  refine (lineageref03_Valid.calls A0 c0 l0 v w C0.out H0.out hVa.out).mono ?_
  rintro e wa1 ⟨rfl, hd_⟩
  have hb_ := hd_.below
  have C0_ := Aside0.mk (Kd.C_below C0.out hb_)
  clear C0
  have C0 := C0_
  clear C0_
  have HB_ := Aside0.mk (below_step HB.out hb_)
  clear HB
  have HB := HB_
  clear HB_ hb_ hd_
  cases v with
  | false =>
    go_wp2_with ((with_reducible refine gate_dst (N := 6) rfl ?_); (try (refine gate_guard (by rfl) ?_; dsimp only)); refine lit_event ?hg (N := 6) ?hd [] 0 rfl (by decide) ?hr ?_; (case hd => rfl); (case hg => rfl); (case hr => first | (go_simp; done) | (go_simp; rfl)); intro A6 wa2 hc_ hb_; have HB_ := Aside0.mk (below_step HB.out hb_); have C6 := Aside0.mk hc_; clear HB hb_ hc_; have HB := HB_; clear HB_)
    go_ret
    have e : ozB l0 = [] := by rw [hO.out]; rfl
    rw [e]
    exact ⟨_, _, rfl, C6.out, Nat.le_refl _, HB.out⟩
  | true =>
    go_wp2_with fail
    go_ret
    have e : ozB l0 = l0 := by rw [hO.out]; rfl
    rw [e]
    exact ⟨_, _, rfl, C0.out, H0.out, HB.out⟩
/-- What Uint answers. -/
def uintB (l : List Int) : Int × Bool := if validB l = true ∧ l.length ≤ 2 then ((Bn.nv l : Int), true) else (0, false)
theorem uor1 {x : Nat} (hx : x < 4294967296) : Go.bits .or .u64 0 (x : Int) = (x : Int) := by
  have h := or_u64w (show 0 < 4294967296 by decide) hx
  rw [u64N (show x < 18446744073709551616 by omega), show IntKind.u64.wrap (((0 : Nat) : Int) * 4294967296) = 0 by decide] at h
  rw [h]
  omega
theorem uor2 {x y : Nat} (hx : x < 4294967296) (hy : y < 4294967296) : Go.bits .or .u64 (x : Int) ((y : Int) * 4294967296) = ((x + 4294967296 * y : Nat) : Int) := by
  have h := or_u64' (a := (y : Int)) (b := (x : Int)) (by omega) (by omega)
  rw [h]
  omega
theorem nat_limb {x : Int} (h : 0 ≤ x ∧ x < 4294967296) : ∃ n : Nat, x = (n : Int) ∧ n < 4294967296 := ⟨x.toNat, by omega, by omega⟩
set_option maxHeartbeats 16000000 in
set_option maxRecDepth 100000 in
/-- Uint. -/
theorem Uint_calls (A0 : Option Addr) (c0 : Nat) (l0 : List Int) (w : World) (hr0 : Kd.C (Kd.int .u32) w A0 l0.length l0) (hc0 : l0.length ≤ c0) (L0 : Bn.Limbs l0) :
    Calls Tryd.prog 33 #[.slice A0 l0.length c0] w fun e w' => e = .returned (.tuple #[.int .u64 (uintB l0).1, .bool (uintB l0).2]) ∧ Below w.heap.size w w' := by
  obtain ⟨v, hv⟩ : ∃ v, v = validB l0 := ⟨_, rfl⟩
  have hVa := Aside0.mk (show bignat_Valid.f l0 = some v from hv ▸ Valid_f l0)
  have hV2 := Aside0.mk hv
  have hF := Aside0.mk (show v = false → uintB l0 = (0, false) from fun h => by unfold uintB; rw [if_neg (by rintro ⟨h2, -⟩; rw [h, h2] at hv; cases hv)])
  clear hv
  have C0 := Aside0.mk hr0
  have H0 := Aside0.mk hc0
  have L0_ := Aside0.mk L0
  clear hr0 hc0 L0
  by_cases hl : l0.length ≤ 2
  · rcases l0 with _ | ⟨x, _ | ⟨y, _ | ⟨z, t⟩⟩⟩
    · skip
      go_enter Tryd.func33, Tryd.ntmps33
      go_wp2_with fail
      refine (bignat_Valid.calls _ c0 _ v w C0.out H0.out hVa.out).mono ?_
      rintro e wa1 ⟨rfl, ⟨nd_, rfl⟩⟩
      have hb_ := Aside0.mk (Drawn0.below ⟨nd_, rfl⟩ : Below w.heap.size w (w.drewN nd_))
      cases v with
      | false =>
        go_wp2_with fail
        go_ret2
        exact ⟨by rw [hF.out (by trivial)]; rfl, hb_.out⟩
      | true =>
        go_wp2_with fail
        go_rounds 3
        go_ret2
        refine ⟨?_, hb_.out⟩
        unfold uintB
        rw [if_pos ⟨hV2.out.symm, by simp⟩]
        rfl
    · obtain ⟨x, rfl, lx⟩ := nat_limb (L0_.out x (by simp))
      obtain ⟨ad, e1, hx⟩ := Kd.at_int C0.out 0 (by decide) (by simp)
      cases e1
      have hx0 : w.cell? ad = some (.int .u32 x) := hx
      clear hx
      go_enter Tryd.func33, Tryd.ntmps33
      go_wp2_with fail
      refine (bignat_Valid.calls _ c0 _ v w C0.out H0.out hVa.out).mono ?_
      rintro e wa1 ⟨rfl, ⟨nd_, rfl⟩⟩
      have hb_ := Aside0.mk (Drawn0.below ⟨nd_, rfl⟩ : Below w.heap.size w (w.drewN nd_))
      cases v with
      | false =>
        go_wp2_with fail
        go_ret2
        exact ⟨by rw [hF.out (by trivial)]; rfl, hb_.out⟩
      | true =>
        go_wp2_with fail
        go_rounds 3
        go_ret2
        refine ⟨?_, hb_.out⟩
        unfold uintB
        rw [if_pos ⟨hV2.out.symm, by simp⟩]
        have e1 := uor1 lx
        show Ending.returned (Value.tuple #[.int .u64 (Go.bits .or .u64 0 (x : Int)), .bool true]) = _
        rw [e1]
        simp [Bn.nv]
    · obtain ⟨x, rfl, lx⟩ := nat_limb (L0_.out x (by simp))
      obtain ⟨y, rfl, ly⟩ := nat_limb (L0_.out y (by simp))
      obtain ⟨ad, e1, hx⟩ := Kd.at_int C0.out 0 (by decide) (by simp)
      obtain ⟨ad2, e2, hy⟩ := Kd.at_int C0.out 1 (by decide) (by simp)
      cases e1
      cases e2
      have hx0 : w.cell? ad = some (.int .u32 x) := hx
      have hy0 : w.cell? { block := ad.block, off := ad.off + 1 } = some (.int .u32 y) := hy
      clear hx hy
      go_enter Tryd.func33, Tryd.ntmps33
      go_wp2_with fail
      refine (bignat_Valid.calls _ c0 _ v w C0.out H0.out hVa.out).mono ?_
      rintro e wa1 ⟨rfl, ⟨nd_, rfl⟩⟩
      have hb_ := Aside0.mk (Drawn0.below ⟨nd_, rfl⟩ : Below w.heap.size w (w.drewN nd_))
      cases v with
      | false =>
        go_wp2_with fail
        go_ret2
        exact ⟨by rw [hF.out (by trivial)]; rfl, hb_.out⟩
      | true =>
        go_wp2_with fail
        go_rounds 3
        go_ret2
        refine ⟨?_, hb_.out⟩
        unfold uintB
        rw [if_pos ⟨hV2.out.symm, by simp⟩]
        have e1 := uor1 lx
        have e2 := uor2 lx ly
        show Ending.returned (Value.tuple #[.int .u64 (Go.bits .or .u64 (Go.bits .or .u64 0 (x : Int)) ((y : Int) * 4294967296)), .bool true]) = _
        rw [e1, e2]
        simp [Bn.nv]
    · exact absurd hl (by simp)
  · have hg : decide ((l0.length : Int) > 2) = true := decide_eq_true (by omega)
    have e : uintB l0 = (0, false) := by unfold uintB; rw [if_neg (by rintro ⟨-, h⟩; exact hl h)]
    have hE := Aside0.mk e
    clear e
    go_enter Tryd.func33, Tryd.ntmps33
    go_wp2_with fail
    refine (bignat_Valid.calls A0 c0 l0 v w C0.out H0.out hVa.out).mono ?_
    rintro e wa1 ⟨rfl, hd_⟩
    cases v with
    | false =>
      go_wp2_with fail
      go_ret2
      exact ⟨by rw [hE.out]; rfl, hd_.below⟩
    | true =>
      go_wp2_with fail
      go_ret2
      exact ⟨by rw [hE.out]; rfl, hd_.below⟩
set_option maxHeartbeats 16000000 in
set_option maxRecDepth 100000 in
/-- The reference's Uint, for a valid number. -/
theorem refUint_calls (A0 : Option Addr) (c0 : Nat) (l0 : List Int) (w : World) (hr0 : Kd.C (Kd.int .u32) w A0 l0.length l0) (hc0 : l0.length ≤ c0) (L0 : Bn.Limbs l0) (hv : validB l0 = true) :
    Calls Tryd.prog 36 #[.slice A0 l0.length c0] w fun e w' => e = .returned (.tuple #[.int .u64 (uintB l0).1, .bool (uintB l0).2]) ∧ Below w.heap.size w w' := by
  have C0 := Aside0.mk hr0
  have H0 := Aside0.mk hc0
  have HB := Aside0.mk (Below.refl w.heap.size w)
  clear hr0 hc0
  by_cases hl : l0.length ≤ 2
  · obtain ⟨x, h1, lx⟩ := limb_rd L0 0
    obtain ⟨y, h2, ly⟩ := limb_rd L0 1
    have f1 := limb_f L0 0
    have f2 := limb_f L0 1
    rw [h1] at f1
    rw [h2] at f2
    have hE := Aside0.mk (show uintB l0 = (((y * 4294967296 + x : Nat) : Int), true) from by
      unfold uintB
      rw [if_pos ⟨hv, hl⟩]
      have e : Bn.nv l0 = y * 4294967296 + x := by
        rcases l0 with _ | ⟨a, _ | ⟨b, _ | ⟨z, t⟩⟩⟩
        · simp [rd] at h1 h2
          simp [Bn.nv]
          omega
        · simp [rd] at h1 h2
          simp [Bn.nv]
          omega
        · simp [rd] at h1 h2
          simp [Bn.nv]
          omega
        · exact absurd hl (by simp)
      rw [e])
    have hF1 := Aside0.mk f1
    have hF2 := Aside0.mk f2
    have hg : decide ((l0.length : Int) > 2) = false := decide_eq_false (by omega)
    have hx := Aside0.mk lx
    have hy := Aside0.mk ly
    clear f1 f2 h1 h2 lx ly L0 hv hl
    go_enter Tryd.func36, Tryd.ntmps36
    go_wp2_with fail
    refine (lineageref03_limb.calls A0 c0 l0 1 (y : Int) w C0.out H0.out hF2.out).mono ?_
    rintro e wa1 ⟨rfl, hd_⟩
    have C1 := Aside0.mk (Kd.C_below C0.out hd_.below)
    have HB1 := Aside0.mk (below_step HB.out hd_.below)
    clear hd_
    go_wp2_with fail
    refine (lineageref03_limb.calls A0 c0 l0 0 (x : Int) wa1 C1.out H0.out hF1.out).mono ?_
    rintro e wa2 ⟨rfl, hd_⟩
    have HB2 := Aside0.mk (below_step HB1.out hd_.below)
    clear hd_
    go_wp2_with fail
    go_ret2
    refine ⟨?_, HB2.out⟩
    rw [hE.out]
    have e1 : IntKind.u64.wrap ((y : Int) * 4294967296) = ((y * 4294967296 : Nat) : Int) := by
      rw [show (y : Int) * 4294967296 = ((y * 4294967296 : Nat) : Int) by omega]
      exact u64N (by have := hy.out; omega)
    have e2 : IntKind.u64.wrap (((y * 4294967296 : Nat) : Int) + (x : Int)) = ((y * 4294967296 + x : Nat) : Int) := by
      rw [show ((y * 4294967296 : Nat) : Int) + (x : Int) = ((y * 4294967296 + x : Nat) : Int) by omega]
      exact u64N (by have := hy.out; have := hx.out; omega)
    show Ending.returned (Value.tuple #[.int .u64 (IntKind.u64.wrap (IntKind.u64.wrap ((y : Int) * 4294967296) + (x : Int))), .bool true]) = _
    rw [e1, e2]
  · have hg : decide ((l0.length : Int) > 2) = true := decide_eq_true (by omega)
    have e : uintB l0 = (0, false) := by unfold uintB; rw [if_neg (by rintro ⟨-, h⟩; exact hl h)]
    have hE := Aside0.mk e
    clear e hv L0
    go_enter Tryd.func36, Tryd.ntmps36
    go_wp2_with fail
    go_ret2
    exact ⟨by rw [hE.out]; rfl, HB.out⟩
set_option maxHeartbeats 16000000 in
set_option maxRecDepth 100000 in
/-- The reference's FromUint. -/
theorem refFromUint_calls (n : Nat) (hn : n < 18446744073709551616) (w : World) :
    Calls Tryd.prog 35 #[.int .u64 (n : Int)] w fun e w' => ∃ A c, e = .returned (.slice A (Bn.limbs n).length c) ∧ Kd.C (Kd.int .u32) w' A (Bn.limbs n).length (Bn.limbs n) ∧ (Bn.limbs n).length ≤ c ∧ Below w.heap.size w w' := by
  have HB := Aside0.mk (Below.refl w.heap.size w)
  have hL : Bn.Limbs [(n : Int) % 4294967296, (n : Int) / 4294967296] := by
    refine Bn.Limbs.mk (by omega) (Bn.Limbs.mk (by omega) Bn.Limbs.nil)
  have ht := refTrim_f hL (by simp) (k := 3) (by simp)
  have hnv : Bn.nv [(n : Int) % 4294967296, (n : Int) / 4294967296] = n := by
    simp only [Bn.nv]
    omega
  rw [hnv] at ht
  have hT := Aside0.mk ht
  clear hL ht hnv
  go_enter Tryd.func35, Tryd.ntmps35
  go_wp2_with ((with_reducible refine gate_dst (N := 9) rfl ?_); (try (refine gate_guard (by rfl) ?_; dsimp only)); refine lit_event ?hg (N := 9) ?hd [(n : Int) % 4294967296, (n : Int) / 4294967296] 2 rfl (by simp) ?hr ?_; (case hd => rfl); (case hg => rfl); (case hr => first | (go_simp; done) | (go_simp; rfl)); intro A9 wa1 hc_ hb_; have HB_ := Aside0.mk (below_step HB.out hb_); have C9 := Aside0.mk hc_; clear HB hb_ hc_; have HB := HB_; clear HB_)
  refine (lineageref03_trim.calls 3 (fun k => k < wa1.heap.size) A9 2 [(n : Int) % 4294967296, (n : Int) / 4294967296] _ wa1 (Kd.V_mk (e := 63) (base := wa1.heap.size) (ok := fun k => k < wa1.heap.size) (by simp) (Kd.C_F (Kd.heap_int .u32) C9.out)) hT.out).mono ?_
  rintro e wa2 ⟨v_, rfl, hV_, hb_⟩
  have HB_ := Aside0.mk (below_step HB.out hb_)
  clear HB
  have HB := HB_
  clear HB_ hb_
  obtain ⟨Ar, cr, rfl⟩ := Kd.V_slice hV_
  have Cr := Aside0.mk (Kd.V_reads' hV_).2.2
  have Hr := Aside0.mk (show (Bn.limbs n).length ≤ cr from (Kd.V_reads' hV_).2.1)
  clear hV_
  go_wp2_with fail
  go_ret
  exact ⟨_, _, rfl, Cr.out, Hr.out, HB.out⟩
theorem Uint_calls2 (A0 : Option Addr) (c0 : Nat) (l0 : List Int) (u : Int) (f : Bool) (w : World) (hr0 : Kd.C (Kd.int .u32) w A0 l0.length l0) (hc0 : l0.length ≤ c0) (h : Bn.Limbs l0 ∧ uintB l0 = (u, f)) :
    Calls Tryd.prog 33 #[.slice A0 l0.length c0] w fun e w' => e = .returned (.tuple #[.int .u64 u, .bool f]) ∧ Below w.heap.size w w' := by
  have H := Uint_calls A0 c0 l0 w hr0 hc0 h.1
  rw [h.2] at H
  exact H
theorem refUint_calls2 (A0 : Option Addr) (c0 : Nat) (l0 : List Int) (u : Int) (f : Bool) (w : World) (hr0 : Kd.C (Kd.int .u32) w A0 l0.length l0) (hc0 : l0.length ≤ c0) (h : Bn.Limbs l0 ∧ validB l0 = true ∧ uintB l0 = (u, f)) :
    Calls Tryd.prog 36 #[.slice A0 l0.length c0] w fun e w' => e = .returned (.tuple #[.int .u64 u, .bool f]) ∧ Below w.heap.size w w' := by
  have H := refUint_calls A0 c0 l0 w hr0 hc0 h.1 h.2.1
  rw [h.2.2] at H
  exact H
theorem cmp_facts {l0 l1 : List Int} (L0 : Bn.Limbs l0) (L1 : Bn.Limbs l1) (v : validB l0 = true) : ∃ c cb : Int, bignat_Compare.f 200 l0 l1 = some c ∧ lineageref03_Compare.f 200 l0 (ozB l1) = some c ∧ bignat_Compare.f 200 l1 l0 = some cb ∧ ((c = -1 ∧ cb = 1) ∨ (c = 0 ∧ cb = 0) ∨ (c = 1 ∧ cb = -1)) := by
  obtain ⟨n0, s0⟩ := (validB_iff L0).1 v
  obtain ⟨n1, s1⟩ := ozB_nrm L1
  refine ⟨_, _, Compare_f L0 L1 (by decide), ?_, Compare_f L1 L0 (by decide), ?_⟩
  · rw [refCompare_f n0 n1 (by omega) (by omega), vv_valid v]
    rfl
  · unfold cmpN
    rcases Nat.lt_trichotomy (vv l0) (vv l1) with h | h | h
    · left
      rw [if_pos h, if_neg (by omega), if_pos h]
      exact ⟨rfl, rfl⟩
    · right
      left
      rw [if_neg (by omega), if_neg (by omega), if_neg (by omega), if_neg (by omega)]
      exact ⟨rfl, rfl⟩
    · right
      right
      rw [if_neg (by omega), if_pos h, if_pos h]
      exact ⟨rfl, rfl⟩
theorem uint_x {n : Nat} (hn : n < 18446744073709551616) : uintB (Bn.limbs n) = ((n : Int), true) := by
  have hl : (Bn.limbs n).length ≤ 2 := (Bn.limbs_len n 2).2 (by omega)
  unfold uintB
  rw [if_pos ⟨validB_limbs (by omega), hl⟩, Bn.nv_limbs]
set_option maxHeartbeats 16000000 in
set_option maxRecDepth 100000 in
theorem compareLaw (A0 : Option Addr) (c0 : Nat) (l0 : List Int) (A1 : Option Addr) (c1 : Nat) (l1 : List Int) (w : World) (hr0 : Kd.C (Kd.int .u32) w A0 l0.length l0) (hc0 : l0.length ≤ c0) (hr1 : Kd.C (Kd.int .u32) w A1 l1.length l1) (hc1 : l1.length ≤ c1) (ht_ : Tab w) (L0 : Bn.Limbs l0) (L1 : Bn.Limbs l1) (n : Nat) (hn : n < 18446744073709551616) :
    Calls Tryd.prog 7 #[.slice A0 l0.length c0, .slice A1 l1.length c1, .int .u64 (n : Int)] w fun e w' => e = .returned (.bool true) ∧ Below w.heap.size w w' := by
  have HT_ := Aside0.mk ht_
  clear ht_
  have C0 := Aside0.mk hr0
  have H0 := Aside0.mk hc0
  clear hr0 hc0
  have C1 := Aside0.mk hr1
  have H1 := Aside0.mk hc1
  clear hr1 hc1
  have HB := Aside0.mk (Below.refl w.heap.size w)
  have hs0 : ∃ s : Bool, lineagelaw03_small.f 10 140 [l0, l1] = some s := ⟨_, small_f 140 [l0, l1] (by simp) (by simp)⟩
  obtain ⟨s, hs⟩ := hs0
  have hSm := Aside0.mk hs
  clear hs
  have hl2 : (Bn.limbs n).length ≤ 2 := (Bn.limbs_len n 2).2 (by omega)
  have hSa := Aside0.mk (show lineagelaw03_same.f 200 (Bn.limbs n) (Bn.limbs n) = some true from by rw [same_f _ _ (by omega) (by omega)]; simp)
  have hFu := Aside0.mk (show bignat_FromUint.f 10 (n : Int) = some (Bn.limbs n) from by rw [FromUint_f (Int.natCast_nonneg _) (by omega) (by decide)]; rfl)
  have hUx := Aside0.mk (show Bn.Limbs (Bn.limbs n) ∧ uintB (Bn.limbs n) = ((n : Int), true) from ⟨Bn.limbs_limbs n, uint_x hn⟩)
  have hn_ := Aside0.mk hn
  obtain ⟨v, hv⟩ : ∃ v, v = validB l0 := ⟨_, rfl⟩
  have hV1 := Aside0.mk (show bignat_Valid.f l0 = some v from hv ▸ Valid_f l0)
  have hV2 := Aside0.mk (show lineageref03_Valid.f l0 = some v from hv ▸ refValid_f l0)
  have hV3 := Aside0.mk (show lineagelaw03_valid.f 10 [l0] = some v from by rw [valid_f [l0] (by simp) (by simp), hv]; simp)
  obtain ⟨⟨u, f⟩, huf⟩ : ∃ t, t = uintB l0 := ⟨_, rfl⟩
  have hU0 := Aside0.mk (show Bn.Limbs l0 ∧ uintB l0 = (u, f) from ⟨L0, huf.symm⟩)
  have hBad := Aside0.mk (show v = false → u = 0 ∧ f = false from fun h => by
      unfold uintB at huf
      rw [if_neg (by rintro ⟨h2, -⟩; rw [h, h2] at hv; cases hv)] at huf
      injection huf with a b
      exact ⟨a, b⟩)
  have hGood := Aside0.mk (show v = true → (validB l0 = true ∧ ∃ c cb : Int, bignat_Compare.f 200 l0 l1 = some c ∧ lineageref03_Compare.f 200 l0 (ozB l1) = some c ∧ bignat_Compare.f 200 l1 l0 = some cb ∧ ((c = -1 ∧ cb = 1) ∨ (c = 0 ∧ cb = 0) ∨ (c = 1 ∧ cb = -1))) from fun h => ⟨hv ▸ h, cmp_facts L0 L1 (hv ▸ h)⟩)
  generalize hx : Bn.limbs n = x at *
  clear hl2 hn hv huf L0 L1
  go_enter Tryd.func7, Tryd.ntmps7
  go_wp2_with fail
  refine (lineagelaw03_awake.calls true w rfl (HT_.out.below HB.out)).mono ?_
  rintro e wa1 ⟨rfl, hb_⟩
  have C0_ := Aside0.mk (Kd.C_below C0.out hb_)
  clear C0
  have C0 := C0_
  clear C0_
  have C1_ := Aside0.mk (Kd.C_below C1.out hb_)
  clear C1
  have C1 := C1_
  clear C1_
  have HB_ := Aside0.mk (below_step HB.out hb_)
  clear HB
  have HB := HB_
  clear HB_
  clear hb_
  go_wp2_with (first | ((with_reducible refine gate_dst (N := 19) rfl ?_); (try (refine gate_guard (by rfl) ?_; dsimp only)); refine lits_event ?hg (N := 19) ?hd (LL := [l0, l1]) (inner := [.slice A0 l0.length c0, .slice A1 l1.length c1]) ?hr (Reps.one (Kd.FK_slice_mk (l := l0) H0.out (Kd.C_F (Kd.heap_int .u32) C0.out)) (Reps.one (Kd.FK_slice_mk (l := l1) H1.out (Kd.C_F (Kd.heap_int .u32) C1.out)) (Reps.none _ _))) (by simp) ?_; (case hd => rfl); (case hg => rfl); (case hr => first | (go_simp; done) | (go_simp; rfl)); intro As cs wa2 hl_ hm_ hb_; have C0_ := Aside0.mk (Kd.C_below C0.out hb_); clear C0; have C0 := C0_; clear C0_; have C1_ := Aside0.mk (Kd.C_below C1.out hb_); clear C1; have C1 := C1_; clear C1_; have HB_ := Aside0.mk (below_step HB.out hb_); clear HB; have HB := HB_; clear HB_; have Ds := Aside0.mk hl_; have Es := Aside0.mk hm_; clear hl_ hm_ hb_))
  refine (lineagelaw03_small.calls 10 140 As cs [l0, l1] s wa2 Ds.out Es.out hSm.out).mono ?_
  rintro e wa3 ⟨rfl, hd_⟩
  have hb_ := hd_.below
  have C0_ := Aside0.mk (Kd.C_below C0.out hb_)
  clear C0
  have C0 := C0_
  clear C0_
  have C1_ := Aside0.mk (Kd.C_below C1.out hb_)
  clear C1
  have C1 := C1_
  clear C1_
  have HB_ := Aside0.mk (below_step HB.out hb_)
  clear HB
  have HB := HB_
  clear HB_
  clear hb_ hd_
  clear Ds Es
  cases s with
  | false =>
    go_wp2_with fail
    refine (lineagelaw03_awake.calls true wa3 rfl (HT_.out.below HB.out)).mono ?_
    rintro e wa4 ⟨rfl, hb_⟩
    have C0_ := Aside0.mk (Kd.C_below C0.out hb_)
    clear C0
    have C0 := C0_
    clear C0_
    have C1_ := Aside0.mk (Kd.C_below C1.out hb_)
    clear C1
    have C1 := C1_
    clear C1_
    have HB_ := Aside0.mk (below_step HB.out hb_)
    clear HB
    have HB := HB_
    clear HB_
    clear hb_
    go_wp2_with fail
    go_ret
    exact ⟨rfl, HB.out⟩
  | true =>
    go_wp2_with fail
    refine (bignat_FromUint.calls 10 (n : Int) x wa3 hFu.out).mono ?_
    rintro e wa4 ⟨vx_, rfl, hrx_, hb_⟩
    have C0_ := Aside0.mk (Kd.C_below C0.out hb_)
    clear C0
    have C0 := C0_
    clear C0_
    have C1_ := Aside0.mk (Kd.C_below C1.out hb_)
    clear C1
    have C1 := C1_
    clear C1_
    have HB_ := Aside0.mk (below_step HB.out hb_)
    clear HB
    have HB := HB_
    clear HB_
    obtain ⟨Ax, cx, rfl⟩ := Kd.R_slice hrx_
    have Cx := Aside0.mk (Kd.R_reads' hrx_).2.2
    have Hx := Aside0.mk (show x.length ≤ cx from (Kd.R_reads' hrx_).2.1)
    clear hrx_ hb_
    go_wp2_with fail
    refine (Uint_calls2  Ax cx x (n : Int) true wa4 Cx.out Hx.out hUx.out).mono ?_
    rintro e wa5 ⟨rfl, hb_⟩
    have C0_ := Aside0.mk (Kd.C_below C0.out hb_)
    clear C0
    have C0 := C0_
    clear C0_
    have C1_ := Aside0.mk (Kd.C_below C1.out hb_)
    clear C1
    have C1 := C1_
    clear C1_
    have Cx_ := Aside0.mk (Kd.C_below Cx.out hb_)
    clear Cx
    have Cx := Cx_
    clear Cx_
    have HB_ := Aside0.mk (below_step HB.out hb_)
    clear HB
    have HB := HB_
    clear HB_
    clear hb_
    go_wp2_with fail
    refine (bignat_Valid.calls  A0 c0 l0 v wa5 C0.out H0.out hV1.out).mono ?_
    rintro e wa6 ⟨rfl, hd_⟩
    have hb_ := hd_.below
    have C0_ := Aside0.mk (Kd.C_below C0.out hb_)
    clear C0
    have C0 := C0_
    clear C0_
    have C1_ := Aside0.mk (Kd.C_below C1.out hb_)
    clear C1
    have C1 := C1_
    clear C1_
    have Cx_ := Aside0.mk (Kd.C_below Cx.out hb_)
    clear Cx
    have Cx := Cx_
    clear Cx_
    have HB_ := Aside0.mk (below_step HB.out hb_)
    clear HB
    have HB := HB_
    clear HB_
    clear hb_ hd_
    go_wp2_with fail
    refine (lineageref03_Valid.calls  A0 c0 l0 v wa6 C0.out H0.out hV2.out).mono ?_
    rintro e wa7 ⟨rfl, hd_⟩
    have hb_ := hd_.below
    have C0_ := Aside0.mk (Kd.C_below C0.out hb_)
    clear C0
    have C0 := C0_
    clear C0_
    have C1_ := Aside0.mk (Kd.C_below C1.out hb_)
    clear C1
    have C1 := C1_
    clear C1_
    have Cx_ := Aside0.mk (Kd.C_below Cx.out hb_)
    clear Cx
    have Cx := Cx_
    clear Cx_
    have HB_ := Aside0.mk (below_step HB.out hb_)
    clear HB
    have HB := HB_
    clear HB_
    clear hb_ hd_
    go_wp2_with fail
    refine (refFromUint_calls n hn_.out wa7).mono ?_
    rw [hx]
    rintro e wa8 ⟨Ay, cy, rfl, hC_, hH_, hb_⟩
    have C0_ := Aside0.mk (Kd.C_below C0.out hb_)
    clear C0
    have C0 := C0_
    clear C0_
    have C1_ := Aside0.mk (Kd.C_below C1.out hb_)
    clear C1
    have C1 := C1_
    clear C1_
    have Cx_ := Aside0.mk (Kd.C_below Cx.out hb_)
    clear Cx
    have Cx := Cx_
    clear Cx_
    have HB_ := Aside0.mk (below_step HB.out hb_)
    clear HB
    have HB := HB_
    clear HB_
    have Cy := Aside0.mk hC_
    have Hy := Aside0.mk hH_
    clear hC_ hH_ hb_
    go_wp2_with fail
    refine (lineagelaw03_same.calls 200 Ax cx x Ay cy x true wa8 Cx.out Hx.out Cy.out Hy.out hSa.out).mono ?_
    rintro e wa9 ⟨rfl, hd_⟩
    have hb_ := hd_.below
    have C0_ := Aside0.mk (Kd.C_below C0.out hb_)
    clear C0
    have C0 := C0_
    clear C0_
    have C1_ := Aside0.mk (Kd.C_below C1.out hb_)
    clear C1
    have C1 := C1_
    clear C1_
    have Cx_ := Aside0.mk (Kd.C_below Cx.out hb_)
    clear Cx
    have Cx := Cx_
    clear Cx_
    have Cy_ := Aside0.mk (Kd.C_below Cy.out hb_)
    clear Cy
    have Cy := Cy_
    clear Cy_
    have HB_ := Aside0.mk (below_step HB.out hb_)
    clear HB
    have HB := HB_
    clear HB_
    clear hb_ hd_
    go_wp2_with fail
    refine (Uint_calls2  A0 c0 l0 u f wa9 C0.out H0.out hU0.out).mono ?_
    rintro e wa10 ⟨rfl, hb_⟩
    have C0_ := Aside0.mk (Kd.C_below C0.out hb_)
    clear C0
    have C0 := C0_
    clear C0_
    have C1_ := Aside0.mk (Kd.C_below C1.out hb_)
    clear C1
    have C1 := C1_
    clear C1_
    have Cx_ := Aside0.mk (Kd.C_below Cx.out hb_)
    clear Cx
    have Cx := Cx_
    clear Cx_
    have Cy_ := Aside0.mk (Kd.C_below Cy.out hb_)
    clear Cy
    have Cy := Cy_
    clear Cy_
    have HB_ := Aside0.mk (below_step HB.out hb_)
    clear HB
    have HB := HB_
    clear HB_
    clear hb_
    go_wp2_with (first | ((with_reducible refine gate_dst (N := 58) rfl ?_); (try (refine gate_guard (by rfl) ?_; dsimp only)); refine lits_event ?hg (N := 58) ?hd (LL := [l0]) (inner := [.slice A0 l0.length c0]) ?hr (Reps.one (Kd.FK_slice_mk (l := l0) H0.out (Kd.C_F (Kd.heap_int .u32) C0.out)) (Reps.none _ _)) (by simp) ?_; (case hd => rfl); (case hg => rfl); (case hr => first | (go_simp; done) | (go_simp; rfl)); intro Av cv wa11 hl_ hm_ hb_; have C0_ := Aside0.mk (Kd.C_below C0.out hb_); clear C0; have C0 := C0_; clear C0_; have C1_ := Aside0.mk (Kd.C_below C1.out hb_); clear C1; have C1 := C1_; clear C1_; have Cx_ := Aside0.mk (Kd.C_below Cx.out hb_); clear Cx; have Cx := Cx_; clear Cx_; have Cy_ := Aside0.mk (Kd.C_below Cy.out hb_); clear Cy; have Cy := Cy_; clear Cy_; have HB_ := Aside0.mk (below_step HB.out hb_); clear HB; have HB := HB_; clear HB_; have Dv := Aside0.mk hl_; have Ev := Aside0.mk hm_; clear hl_ hm_ hb_))
    refine (lineagelaw03_valid.calls 10 Av cv [l0] v wa11 Dv.out Ev.out hV3.out).mono ?_
    rintro e wa12 ⟨rfl, hd_⟩
    have hb_ := hd_.below
    have C0_ := Aside0.mk (Kd.C_below C0.out hb_)
    clear C0
    have C0 := C0_
    clear C0_
    have C1_ := Aside0.mk (Kd.C_below C1.out hb_)
    clear C1
    have C1 := C1_
    clear C1_
    have Cx_ := Aside0.mk (Kd.C_below Cx.out hb_)
    clear Cx
    have Cx := Cx_
    clear Cx_
    have Cy_ := Aside0.mk (Kd.C_below Cy.out hb_)
    clear Cy
    have Cy := Cy_
    clear Cy_
    have HB_ := Aside0.mk (below_step HB.out hb_)
    clear HB
    have HB := HB_
    clear HB_
    clear hb_ hd_
    clear Dv Ev
    cases v with
    | false =>
      obtain ⟨rfl, rfl⟩ := hBad.out (by trivial)
      go_wp2_with fail
      go_ret
      exact ⟨rfl, HB.out⟩
    | true =>
      obtain ⟨hv, c, cb, h1, h2, h3, h4⟩ := hGood.out (by trivial)
      have hRU := Aside0.mk (show Bn.Limbs l0 ∧ validB l0 = true ∧ uintB l0 = (u, f) from ⟨hU0.out.1, hv, hU0.out.2⟩)
      have hC1 := Aside0.mk h1
      have hC2 := Aside0.mk h2
      have hC3 := Aside0.mk h3
      clear hv h1 h2 h3 hGood hBad
      go_wp2_with fail
      refine (refUint_calls2  A0 c0 l0 u f wa12 C0.out H0.out hRU.out).mono ?_
      rintro e wa13 ⟨rfl, hb_⟩
      have C0_ := Aside0.mk (Kd.C_below C0.out hb_)
      clear C0
      have C0 := C0_
      clear C0_
      have C1_ := Aside0.mk (Kd.C_below C1.out hb_)
      clear C1
      have C1 := C1_
      clear C1_
      have Cx_ := Aside0.mk (Kd.C_below Cx.out hb_)
      clear Cx
      have Cx := Cx_
      clear Cx_
      have Cy_ := Aside0.mk (Kd.C_below Cy.out hb_)
      clear Cy
      have Cy := Cy_
      clear Cy_
      have HB_ := Aside0.mk (below_step HB.out hb_)
      clear HB
      have HB := HB_
      clear HB_
      clear hb_
      rcases h4 with ⟨rfl, rfl⟩ | ⟨rfl, rfl⟩ | ⟨rfl, rfl⟩
      · go_wp2_with fail
        refine (bignat_Compare.calls 200 A0 c0 l0 A1 c1 l1 (-1) wa13 C0.out H0.out C1.out H1.out hC1.out).mono ?_
        rintro e wa14 ⟨rfl, hb_⟩
        have C0_ := Aside0.mk (Kd.C_below C0.out hb_)
        clear C0
        have C0 := C0_
        clear C0_
        have C1_ := Aside0.mk (Kd.C_below C1.out hb_)
        clear C1
        have C1 := C1_
        clear C1_
        have Cx_ := Aside0.mk (Kd.C_below Cx.out hb_)
        clear Cx
        have Cx := Cx_
        clear Cx_
        have Cy_ := Aside0.mk (Kd.C_below Cy.out hb_)
        clear Cy
        have Cy := Cy_
        clear Cy_
        have HB_ := Aside0.mk (below_step HB.out hb_)
        clear HB
        have HB := HB_
        clear HB_
        clear hb_
        go_wp2_with fail
        refine (Of_calls A1 c1 l1 wa14 C1.out H1.out).mono ?_
        rintro e wa15 ⟨Ab, cB, rfl, hC_, hH_, hb_⟩
        have C0_ := Aside0.mk (Kd.C_below C0.out hb_)
        clear C0
        have C0 := C0_
        clear C0_
        have C1_ := Aside0.mk (Kd.C_below C1.out hb_)
        clear C1
        have C1 := C1_
        clear C1_
        have Cx_ := Aside0.mk (Kd.C_below Cx.out hb_)
        clear Cx
        have Cx := Cx_
        clear Cx_
        have Cy_ := Aside0.mk (Kd.C_below Cy.out hb_)
        clear Cy
        have Cy := Cy_
        clear Cy_
        have HB_ := Aside0.mk (below_step HB.out hb_)
        clear HB
        have HB := HB_
        clear HB_
        have Cb := Aside0.mk hC_
        have Hb := Aside0.mk hH_
        clear hC_ hH_ hb_
        go_wp2_with fail
        refine (lineageref03_Compare.calls 200 A0 c0 l0 Ab cB (ozB l1) (-1) wa15 C0.out H0.out Cb.out Hb.out hC2.out).mono ?_
        rintro e wa16 ⟨rfl, hd_⟩
        have hb_ := hd_.below
        have C0_ := Aside0.mk (Kd.C_below C0.out hb_)
        clear C0
        have C0 := C0_
        clear C0_
        have C1_ := Aside0.mk (Kd.C_below C1.out hb_)
        clear C1
        have C1 := C1_
        clear C1_
        have Cx_ := Aside0.mk (Kd.C_below Cx.out hb_)
        clear Cx
        have Cx := Cx_
        clear Cx_
        have Cy_ := Aside0.mk (Kd.C_below Cy.out hb_)
        clear Cy
        have Cy := Cy_
        clear Cy_
        have Cb_ := Aside0.mk (Kd.C_below Cb.out hb_)
        clear Cb
        have Cb := Cb_
        clear Cb_
        have HB_ := Aside0.mk (below_step HB.out hb_)
        clear HB
        have HB := HB_
        clear HB_
        clear hb_ hd_
        go_wp2_with fail
        refine (bignat_Compare.calls 200 A1 c1 l1 A0 c0 l0 1 wa16 C1.out H1.out C0.out H0.out hC3.out).mono ?_
        rintro e wa17 ⟨rfl, hb_⟩
        have C0_ := Aside0.mk (Kd.C_below C0.out hb_)
        clear C0
        have C0 := C0_
        clear C0_
        have C1_ := Aside0.mk (Kd.C_below C1.out hb_)
        clear C1
        have C1 := C1_
        clear C1_
        have Cx_ := Aside0.mk (Kd.C_below Cx.out hb_)
        clear Cx
        have Cx := Cx_
        clear Cx_
        have Cy_ := Aside0.mk (Kd.C_below Cy.out hb_)
        clear Cy
        have Cy := Cy_
        clear Cy_
        have Cb_ := Aside0.mk (Kd.C_below Cb.out hb_)
        clear Cb
        have Cb := Cb_
        clear Cb_
        have HB_ := Aside0.mk (below_step HB.out hb_)
        clear HB
        have HB := HB_
        clear HB_
        clear hb_
        go_wp2_with fail
        refine (bignat_Compare.calls 200 A0 c0 l0 A1 c1 l1 (-1) wa17 C0.out H0.out C1.out H1.out hC1.out).mono ?_
        rintro e wa18 ⟨rfl, hb_⟩
        have C0_ := Aside0.mk (Kd.C_below C0.out hb_)
        clear C0
        have C0 := C0_
        clear C0_
        have C1_ := Aside0.mk (Kd.C_below C1.out hb_)
        clear C1
        have C1 := C1_
        clear C1_
        have Cx_ := Aside0.mk (Kd.C_below Cx.out hb_)
        clear Cx
        have Cx := Cx_
        clear Cx_
        have Cy_ := Aside0.mk (Kd.C_below Cy.out hb_)
        clear Cy
        have Cy := Cy_
        clear Cy_
        have Cb_ := Aside0.mk (Kd.C_below Cb.out hb_)
        clear Cb
        have Cb := Cb_
        clear Cb_
        have HB_ := Aside0.mk (below_step HB.out hb_)
        clear HB
        have HB := HB_
        clear HB_
        clear hb_
        go_wp2_with fail
        go_ret
        exact ⟨rfl, HB.out⟩
      · go_wp2_with fail
        refine (bignat_Compare.calls 200 A0 c0 l0 A1 c1 l1 0 wa13 C0.out H0.out C1.out H1.out hC1.out).mono ?_
        rintro e wa14 ⟨rfl, hb_⟩
        have C0_ := Aside0.mk (Kd.C_below C0.out hb_)
        clear C0
        have C0 := C0_
        clear C0_
        have C1_ := Aside0.mk (Kd.C_below C1.out hb_)
        clear C1
        have C1 := C1_
        clear C1_
        have Cx_ := Aside0.mk (Kd.C_below Cx.out hb_)
        clear Cx
        have Cx := Cx_
        clear Cx_
        have Cy_ := Aside0.mk (Kd.C_below Cy.out hb_)
        clear Cy
        have Cy := Cy_
        clear Cy_
        have HB_ := Aside0.mk (below_step HB.out hb_)
        clear HB
        have HB := HB_
        clear HB_
        clear hb_
        go_wp2_with fail
        refine (Of_calls A1 c1 l1 wa14 C1.out H1.out).mono ?_
        rintro e wa15 ⟨Ab, cB, rfl, hC_, hH_, hb_⟩
        have C0_ := Aside0.mk (Kd.C_below C0.out hb_)
        clear C0
        have C0 := C0_
        clear C0_
        have C1_ := Aside0.mk (Kd.C_below C1.out hb_)
        clear C1
        have C1 := C1_
        clear C1_
        have Cx_ := Aside0.mk (Kd.C_below Cx.out hb_)
        clear Cx
        have Cx := Cx_
        clear Cx_
        have Cy_ := Aside0.mk (Kd.C_below Cy.out hb_)
        clear Cy
        have Cy := Cy_
        clear Cy_
        have HB_ := Aside0.mk (below_step HB.out hb_)
        clear HB
        have HB := HB_
        clear HB_
        have Cb := Aside0.mk hC_
        have Hb := Aside0.mk hH_
        clear hC_ hH_ hb_
        go_wp2_with fail
        refine (lineageref03_Compare.calls 200 A0 c0 l0 Ab cB (ozB l1) 0 wa15 C0.out H0.out Cb.out Hb.out hC2.out).mono ?_
        rintro e wa16 ⟨rfl, hd_⟩
        have hb_ := hd_.below
        have C0_ := Aside0.mk (Kd.C_below C0.out hb_)
        clear C0
        have C0 := C0_
        clear C0_
        have C1_ := Aside0.mk (Kd.C_below C1.out hb_)
        clear C1
        have C1 := C1_
        clear C1_
        have Cx_ := Aside0.mk (Kd.C_below Cx.out hb_)
        clear Cx
        have Cx := Cx_
        clear Cx_
        have Cy_ := Aside0.mk (Kd.C_below Cy.out hb_)
        clear Cy
        have Cy := Cy_
        clear Cy_
        have Cb_ := Aside0.mk (Kd.C_below Cb.out hb_)
        clear Cb
        have Cb := Cb_
        clear Cb_
        have HB_ := Aside0.mk (below_step HB.out hb_)
        clear HB
        have HB := HB_
        clear HB_
        clear hb_ hd_
        go_wp2_with fail
        refine (bignat_Compare.calls 200 A1 c1 l1 A0 c0 l0 0 wa16 C1.out H1.out C0.out H0.out hC3.out).mono ?_
        rintro e wa17 ⟨rfl, hb_⟩
        have C0_ := Aside0.mk (Kd.C_below C0.out hb_)
        clear C0
        have C0 := C0_
        clear C0_
        have C1_ := Aside0.mk (Kd.C_below C1.out hb_)
        clear C1
        have C1 := C1_
        clear C1_
        have Cx_ := Aside0.mk (Kd.C_below Cx.out hb_)
        clear Cx
        have Cx := Cx_
        clear Cx_
        have Cy_ := Aside0.mk (Kd.C_below Cy.out hb_)
        clear Cy
        have Cy := Cy_
        clear Cy_
        have Cb_ := Aside0.mk (Kd.C_below Cb.out hb_)
        clear Cb
        have Cb := Cb_
        clear Cb_
        have HB_ := Aside0.mk (below_step HB.out hb_)
        clear HB
        have HB := HB_
        clear HB_
        clear hb_
        go_wp2_with fail
        refine (bignat_Compare.calls 200 A0 c0 l0 A1 c1 l1 0 wa17 C0.out H0.out C1.out H1.out hC1.out).mono ?_
        rintro e wa18 ⟨rfl, hb_⟩
        have C0_ := Aside0.mk (Kd.C_below C0.out hb_)
        clear C0
        have C0 := C0_
        clear C0_
        have C1_ := Aside0.mk (Kd.C_below C1.out hb_)
        clear C1
        have C1 := C1_
        clear C1_
        have Cx_ := Aside0.mk (Kd.C_below Cx.out hb_)
        clear Cx
        have Cx := Cx_
        clear Cx_
        have Cy_ := Aside0.mk (Kd.C_below Cy.out hb_)
        clear Cy
        have Cy := Cy_
        clear Cy_
        have Cb_ := Aside0.mk (Kd.C_below Cb.out hb_)
        clear Cb
        have Cb := Cb_
        clear Cb_
        have HB_ := Aside0.mk (below_step HB.out hb_)
        clear HB
        have HB := HB_
        clear HB_
        clear hb_
        go_wp2_with fail
        go_ret
        exact ⟨rfl, HB.out⟩
      · go_wp2_with fail
        refine (bignat_Compare.calls 200 A0 c0 l0 A1 c1 l1 1 wa13 C0.out H0.out C1.out H1.out hC1.out).mono ?_
        rintro e wa14 ⟨rfl, hb_⟩
        have C0_ := Aside0.mk (Kd.C_below C0.out hb_)
        clear C0
        have C0 := C0_
        clear C0_
        have C1_ := Aside0.mk (Kd.C_below C1.out hb_)
        clear C1
        have C1 := C1_
        clear C1_
        have Cx_ := Aside0.mk (Kd.C_below Cx.out hb_)
        clear Cx
        have Cx := Cx_
        clear Cx_
        have Cy_ := Aside0.mk (Kd.C_below Cy.out hb_)
        clear Cy
        have Cy := Cy_
        clear Cy_
        have HB_ := Aside0.mk (below_step HB.out hb_)
        clear HB
        have HB := HB_
        clear HB_
        clear hb_
        go_wp2_with fail
        refine (Of_calls A1 c1 l1 wa14 C1.out H1.out).mono ?_
        rintro e wa15 ⟨Ab, cB, rfl, hC_, hH_, hb_⟩
        have C0_ := Aside0.mk (Kd.C_below C0.out hb_)
        clear C0
        have C0 := C0_
        clear C0_
        have C1_ := Aside0.mk (Kd.C_below C1.out hb_)
        clear C1
        have C1 := C1_
        clear C1_
        have Cx_ := Aside0.mk (Kd.C_below Cx.out hb_)
        clear Cx
        have Cx := Cx_
        clear Cx_
        have Cy_ := Aside0.mk (Kd.C_below Cy.out hb_)
        clear Cy
        have Cy := Cy_
        clear Cy_
        have HB_ := Aside0.mk (below_step HB.out hb_)
        clear HB
        have HB := HB_
        clear HB_
        have Cb := Aside0.mk hC_
        have Hb := Aside0.mk hH_
        clear hC_ hH_ hb_
        go_wp2_with fail
        refine (lineageref03_Compare.calls 200 A0 c0 l0 Ab cB (ozB l1) 1 wa15 C0.out H0.out Cb.out Hb.out hC2.out).mono ?_
        rintro e wa16 ⟨rfl, hd_⟩
        have hb_ := hd_.below
        have C0_ := Aside0.mk (Kd.C_below C0.out hb_)
        clear C0
        have C0 := C0_
        clear C0_
        have C1_ := Aside0.mk (Kd.C_below C1.out hb_)
        clear C1
        have C1 := C1_
        clear C1_
        have Cx_ := Aside0.mk (Kd.C_below Cx.out hb_)
        clear Cx
        have Cx := Cx_
        clear Cx_
        have Cy_ := Aside0.mk (Kd.C_below Cy.out hb_)
        clear Cy
        have Cy := Cy_
        clear Cy_
        have Cb_ := Aside0.mk (Kd.C_below Cb.out hb_)
        clear Cb
        have Cb := Cb_
        clear Cb_
        have HB_ := Aside0.mk (below_step HB.out hb_)
        clear HB
        have HB := HB_
        clear HB_
        clear hb_ hd_
        go_wp2_with fail
        refine (bignat_Compare.calls 200 A1 c1 l1 A0 c0 l0 (-1) wa16 C1.out H1.out C0.out H0.out hC3.out).mono ?_
        rintro e wa17 ⟨rfl, hb_⟩
        have C0_ := Aside0.mk (Kd.C_below C0.out hb_)
        clear C0
        have C0 := C0_
        clear C0_
        have C1_ := Aside0.mk (Kd.C_below C1.out hb_)
        clear C1
        have C1 := C1_
        clear C1_
        have Cx_ := Aside0.mk (Kd.C_below Cx.out hb_)
        clear Cx
        have Cx := Cx_
        clear Cx_
        have Cy_ := Aside0.mk (Kd.C_below Cy.out hb_)
        clear Cy
        have Cy := Cy_
        clear Cy_
        have Cb_ := Aside0.mk (Kd.C_below Cb.out hb_)
        clear Cb
        have Cb := Cb_
        clear Cb_
        have HB_ := Aside0.mk (below_step HB.out hb_)
        clear HB
        have HB := HB_
        clear HB_
        clear hb_
        go_wp2_with fail
        refine (bignat_Compare.calls 200 A0 c0 l0 A1 c1 l1 1 wa17 C0.out H0.out C1.out H1.out hC1.out).mono ?_
        rintro e wa18 ⟨rfl, hb_⟩
        have C0_ := Aside0.mk (Kd.C_below C0.out hb_)
        clear C0
        have C0 := C0_
        clear C0_
        have C1_ := Aside0.mk (Kd.C_below C1.out hb_)
        clear C1
        have C1 := C1_
        clear C1_
        have Cx_ := Aside0.mk (Kd.C_below Cx.out hb_)
        clear Cx
        have Cx := Cx_
        clear Cx_
        have Cy_ := Aside0.mk (Kd.C_below Cy.out hb_)
        clear Cy
        have Cy := Cy_
        clear Cy_
        have Cb_ := Aside0.mk (Kd.C_below Cb.out hb_)
        clear Cb
        have Cb := Cb_
        clear Cb_
        have HB_ := Aside0.mk (below_step HB.out hb_)
        clear HB
        have HB := HB_
        clear HB_
        clear hb_
        go_wp2_with fail
        go_ret
        exact ⟨rfl, HB.out⟩
end Go.Proofs.YtoakfjcejamoeaaDoor.B
