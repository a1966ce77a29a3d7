/- Contracts of package rational and its reference: Valid, New, FromInts, Zero, One, products, Same. -/
import Derived.Test.YtoakfjcejamoeaaDoorL10
import Derived.Test.YtoakfjcejamoeaaDoorBx1
import Derived.Test.YtoakfjcejamoeaaDoorBx5
import Derived.Test.YtoakfjcejamoeaaDoorBx6
import Derived.Test.YtoakfjcejamoeaaDoorBx8
import Derived.Test.YtoakfjcejamoeaaDoorBx9
import Derived.Handy
namespace Go.Proofs.YtoakfjcejamoeaaDoor.B
open Go.RowKit Go.Proofs.YtoakfjcejamoeaaDoorW.PrintWords Go.Proofs.YtoakfjcejamoeaaDoorW.PrintLast Go.Proofs.YtoakfjcejamoeaaDoorW.PrintMore
set_option exponentiation.threshold 8200
set_option linter.unusedVariables false
set_option linter.unusedSimpArgs false
/-- What Uint answers. -/
def uintB (l : List Int) : Int × Bool := if validB l = true ∧ l.length ≤ 2 then ((Bn.nv l : Int), true) else (0, false)
theorem uor1 {x : Nat} (hx : x < 4294967296) : Go.bits .or .u64 0 (x : Int) = (x : Int) := by
 have h := or_u64w (show 0 < 4294967296 by decide) hx
 rw [u64N (show x < 18446744073709551616 by omega), show IntKind.u64.wrap (((0 : Nat) : Int) * 4294967296) = 0 by decide] at h
 rw [h]
 omega
theorem uor2 {x y : Nat} (hx : x < 4294967296) (hy : y < 4294967296) : Go.bits .or .u64 (x : Int) ((y : Int) * 4294967296) = ((x + 4294967296 * y : Nat) : Int) := by
 have h := or_u64' (a := (y : Int)) (b := (x : Int)) (by omega) (by omega)
 rw [h]
 omega
theorem nat_limb {x : Int} (h : 0 ≤ x ∧ x < 4294967296) : ∃ n : Nat, x = (n : Int) ∧ n < 4294967296 := ⟨x.toNat, by omega, by omega⟩
set_option maxHeartbeats 16000000 in
set_option maxRecDepth 100000 in
/-- Uint. -/
theorem Uint_calls (A0 : Option Addr) (c0 : Nat) (l0 : List Int) (w : World) (hr0 : Kd.C (Kd.int .u32) w A0 l0.length l0) (hc0 : l0.length ≤ c0) (L0 : Bn.Limbs l0) :
  Calls Tryd.prog 33 #[.slice A0 l0.length c0] w fun e w' => e = .returned (.tuple #[.int .u64 (uintB l0).1, .bool (uintB l0).2]) ∧ Below w.heap.size w w' := by
 obtain ⟨v, hv⟩ : ∃ v, v = validB l0 := ⟨_, rfl⟩
 have hVa := Aside0.mk (show bignat_Valid.f l0 = some v from hv ▸ Valid_f l0)
 have hV2 := Aside0.mk hv
 have hF := Aside0.mk (show v = false → uintB l0 = (0, false) from fun h => by unfold uintB; rw [if_neg (by rintro ⟨h2, -⟩; rw [h, h2] at hv; cases hv)])
 clear hv
 have C0 := Aside0.mk hr0
 have H0 := Aside0.mk hc0
 have L0_ := Aside0.mk L0
 clear hr0 hc0 L0
 by_cases hl : l0.length ≤ 2
 ·rcases l0 with _ | ⟨x, _ | ⟨y, _ | ⟨z, t⟩⟩⟩
  ·skip
   go_enter Tryd.func33, Tryd.ntmps33
   go_wp2_with fail
   refine (bignat_Valid.calls _ c0 _ v w C0.out H0.out hVa.out).mono ?_
   rintro e wa1 ⟨rfl, ⟨nd_, rfl⟩⟩
   have hb_ := Aside0.mk (Drawn0.below ⟨nd_, rfl⟩ : Below w.heap.size w (w.drewN nd_))
   cases v with
   | false =>
    go_wp2_with fail
    go_ret2
    exact ⟨by rw [hF.out (by trivial)]; rfl, hb_.out⟩
   | true =>
    go_wp2_with fail
    go_rounds 3
    go_ret2
    refine ⟨?_, hb_.out⟩
    unfold uintB
    rw [if_pos ⟨hV2.out.symm, by simp⟩]
    rfl
  ·obtain ⟨x, rfl, lx⟩ := nat_limb (L0_.out x (by simp))
   obtain ⟨ad, e1, hx⟩ := Kd.at_int C0.out 0 (by decide) (by simp)
   cases e1
   have hx0 : w.cell? ad = some (.int .u32 x) := hx
   clear hx
   go_enter Tryd.func33, Tryd.ntmps33
   go_wp2_with fail
   refine (bignat_Valid.calls _ c0 _ v w C0.out H0.out hVa.out).mono ?_
   rintro e wa1 ⟨rfl, ⟨nd_, rfl⟩⟩
   have hb_ := Aside0.mk (Drawn0.below ⟨nd_, rfl⟩ : Below w.heap.size w (w.drewN nd_))
   cases v with
   | false =>
    go_wp2_with fail
    go_ret2
    exact ⟨by rw [hF.out (by trivial)]; rfl, hb_.out⟩
   | true =>
    go_wp2_with fail
    go_rounds 3
    go_ret2
    refine ⟨?_, hb_.out⟩
    unfold uintB
    rw [if_pos ⟨hV2.out.symm, by simp⟩]
    have e1 := uor1 lx
    show Ending.returned (Value.tuple #[.int .u64 (Go.bits .or .u64 0 (x : Int)), .bool true]) = _
    rw [e1]
    simp [Bn.nv]
  ·obtain ⟨x, rfl, lx⟩ := nat_limb (L0_.out x (by simp))
   obtain ⟨y, rfl, ly⟩ := nat_limb (L0_.out y (by simp))
   obtain ⟨ad, e1, hx⟩ := Kd.at_int C0.out 0 (by decide) (by simp)
   obtain ⟨ad2, e2, hy⟩ := Kd.at_int C0.out 1 (by decide) (by simp)
   cases e1
   cases e2
   have hx0 : w.cell? ad = some (.int .u32 x) := hx
   have hy0 : w.cell? { block := ad.block, off := ad.off + 1 } = some (.int .u32 y) := hy
   clear hx hy
   go_enter Tryd.func33, Tryd.ntmps33
   go_wp2_with fail
   refine (bignat_Valid.calls _ c0 _ v w C0.out H0.out hVa.out).mono ?_
   rintro e wa1 ⟨rfl, ⟨nd_, rfl⟩⟩
   have hb_ := Aside0.mk (Drawn0.below ⟨nd_, rfl⟩ : Below w.heap.size w (w.drewN nd_))
   cases v with
   | false =>
    go_wp2_with fail
    go_ret2
    exact ⟨by rw [hF.out (by trivial)]; rfl, hb_.out⟩
   | true =>
    go_wp2_with fail
    go_rounds 3
    go_ret2
    refine ⟨?_, hb_.out⟩
    unfold uintB
    rw [if_pos ⟨hV2.out.symm, by simp⟩]
    have e1 := uor1 lx
    have e2 := uor2 lx ly
    show Ending.returned (Value.tuple #[.int .u64 (Go.bits .or .u64 (Go.bits .or .u64 0 (x : Int)) ((y : Int) * 4294967296)), .bool true]) = _
    rw [e1, e2]
    simp [Bn.nv]
  ·exact absurd hl (by simp)
 ·have hg : decide ((l0.length : Int) > 2) = true := decide_eq_true (by omega)
  have e : uintB l0 = (0, false) := by unfold uintB; rw [if_neg (by rintro ⟨-, h⟩; exact hl h)]
  have hE := Aside0.mk e
  clear e
  go_enter Tryd.func33, Tryd.ntmps33
  go_wp2_with fail
  refine (bignat_Valid.calls A0 c0 l0 v w C0.out H0.out hVa.out).mono ?_
  rintro e wa1 ⟨rfl, hd_⟩
  cases v with
  | false =>
   go_wp2_with fail
   go_ret2
   exact ⟨by rw [hE.out]; rfl, hd_.below⟩
  | true =>
   go_wp2_with fail
   go_ret2
   exact ⟨by rw [hE.out]; rfl, hd_.below⟩
set_option maxHeartbeats 16000000 in
set_option maxRecDepth 100000 in
/-- The reference's Uint, for a valid number. -/
theorem refUint_calls (A0 : Option Addr) (c0 : Nat) (l0 : List Int) (w : World) (hr0 : Kd.C (Kd.int .u32) w A0 l0.length l0) (hc0 : l0.length ≤ c0) (L0 : Bn.Limbs l0) (hv : validB l0 = true) :
  Calls Tryd.prog 36 #[.slice A0 l0.length c0] w fun e w' => e = .returned (.tuple #[.int .u64 (uintB l0).1, .bool (uintB l0).2]) ∧ Below w.heap.size w w' := by
 have C0 := Aside0.mk hr0
 have H0 := Aside0.mk hc0
 have HB := Aside0.mk (Below.refl w.heap.size w)
 clear hr0 hc0
 by_cases hl : l0.length ≤ 2
 ·obtain ⟨x, h1, lx⟩ := limb_rd L0 0
  obtain ⟨y, h2, ly⟩ := limb_rd L0 1
  have f1 := limb_f L0 0
  have f2 := limb_f L0 1
  rw [h1] at f1
  rw [h2] at f2
  have hE := Aside0.mk (show uintB l0 = (((y * 4294967296 + x : Nat) : Int), true) from by
   unfold uintB
   rw [if_pos ⟨hv, hl⟩]
   have e : Bn.nv l0 = y * 4294967296 + x := by
    rcases l0 with _ | ⟨a, _ | ⟨b, _ | ⟨z, t⟩⟩⟩
    ·simp [rd] at h1 h2
     simp [Bn.nv]
     omega
    ·simp [rd] at h1 h2
     simp [Bn.nv]
     omega
    ·simp [rd] at h1 h2
     simp [Bn.nv]
     omega
    ·exact absurd hl (by simp)
   rw [e])
  have hF1 := Aside0.mk f1
  have hF2 := Aside0.mk f2
  have hg : decide ((l0.length : Int) > 2) = false := decide_eq_false (by omega)
  have hx := Aside0.mk lx
  have hy := Aside0.mk ly
  clear f1 f2 h1 h2 lx ly L0 hv hl
  go_enter Tryd.func36, Tryd.ntmps36
  go_wp2_with fail
  refine (lineageref03_limb.calls A0 c0 l0 1 (y : Int) w C0.out H0.out hF2.out).mono ?_
  rintro e wa1 ⟨rfl, hd_⟩
  have C1 := Aside0.mk (Kd.C_below C0.out hd_.below)
  have HB1 := Aside0.mk (below_step HB.out hd_.below)
  clear hd_
  go_wp2_with fail
  refine (lineageref03_limb.calls A0 c0 l0 0 (x : Int) wa1 C1.out H0.out hF1.out).mono ?_
  rintro e wa2 ⟨rfl, hd_⟩
  have HB2 := Aside0.mk (below_step HB1.out hd_.below)
  clear hd_
  go_wp2_with fail
  go_ret2
  refine ⟨?_, HB2.out⟩
  rw [hE.out]
  have e1 : IntKind.u64.wrap ((y : Int) * 4294967296) = ((y * 4294967296 : Nat) : Int) := by
   rw [show (y : Int) * 4294967296 = ((y * 4294967296 : Nat) : Int) by omega]
   exact u64N (by have := hy.out; omega)
  have e2 : IntKind.u64.wrap (((y * 4294967296 : Nat) : Int) + (x : Int)) = ((y * 4294967296 + x : Nat) : Int) := by
   rw [show ((y * 4294967296 : Nat) : Int) + (x : Int) = ((y * 4294967296 + x : Nat) : Int) by omega]
   exact u64N (by have := hy.out; have := hx.out; omega)
  show Ending.returned (Value.tuple #[.int .u64 (IntKind.u64.wrap (IntKind.u64.wrap ((y : Int) * 4294967296) + (x : Int))), .bool true]) = _
  rw [e1, e2]
 ·have hg : decide ((l0.length : Int) > 2) = true := decide_eq_true (by omega)
  have e : uintB l0 = (0, false) := by unfold uintB; rw [if_neg (by rintro ⟨-, h⟩; exact hl h)]
  have hE := Aside0.mk e
  clear e hv L0
  go_enter Tryd.func36, Tryd.ntmps36
  go_wp2_with fail
  go_ret2
  exact ⟨by rw [hE.out]; rfl, HB.out⟩

set_option maxHeartbeats 16000000 in
set_option maxRecDepth 100000 in
/-- The reference's FromUint. -/
theorem refFromUint_calls (n : Nat) (hn : n < 18446744073709551616) (w : World) :
  Calls Tryd.prog 35 #[.int .u64 (n : Int)] w fun e w' => ∃ A c, e = .returned (.slice A (Bn.limbs n).length c) ∧ Kd.C (Kd.int .u32) w' A (Bn.limbs n).length (Bn.limbs n) ∧ (Bn.limbs n).length ≤ c ∧ Below w.heap.size w w' := by
 have HB := Aside0.mk (Below.refl w.heap.size w)
 have hL : Bn.Limbs [(n : Int) % 4294967296, (n : Int) / 4294967296] := by
  refine Bn.Limbs.mk (by omega) (Bn.Limbs.mk (by omega) Bn.Limbs.nil)
 have ht := refTrim_f hL (by simp) (k := 3) (by simp)
 have hnv : Bn.nv [(n : Int) % 4294967296, (n : Int) / 4294967296] = n := by
  simp only [Bn.nv]
  omega
 rw [hnv] at ht
 have hT := Aside0.mk ht
 clear hL ht hnv
 go_enter Tryd.func35, Tryd.ntmps35
 go_wp2_with ((with_reducible refine gate_dst (N := 9) rfl ?_); (try (refine gate_guard (by rfl) ?_; dsimp only)); refine lit_event ?hg (N := 9) ?hd [(n : Int) % 4294967296, (n : Int) / 4294967296] 2 rfl (by simp) ?hr ?_; (case hd => rfl); (case hg => rfl); (case hr => first | (go_simp; done) | (go_simp; rfl)); intro A9 wa1 hc_ hb_; have HB_ := Aside0.mk (below_step HB.out hb_); have C9 := Aside0.mk hc_; clear HB hb_ hc_; have HB := HB_; clear HB_)
 refine (lineageref03_trim.calls 3 (fun k => k < wa1.heap.size) A9 2 [(n : Int) % 4294967296, (n : Int) / 4294967296] _ wa1 (Kd.V_mk (e := 63) (base := wa1.heap.size) (ok := fun k => k < wa1.heap.size) (by simp) (Kd.C_F (Kd.heap_int .u32) C9.out)) hT.out).mono ?_
 rintro e wa2 ⟨v_, rfl, hV_, hb_⟩
 replace HB := Aside0.mk (below_step HB.out hb_)
 clear hb_
 obtain ⟨Ar, cr, rfl⟩ := Kd.V_slice hV_
 have Cr := Aside0.mk (Kd.V_reads' hV_).2.2
 have Hr := Aside0.mk (show (Bn.limbs n).length ≤ cr from (Kd.V_reads' hV_).2.1)
 clear hV_
 go_wp2_with fail
 go_ret
 exact ⟨_, _, rfl, Cr.out, Hr.out, HB.out⟩

/-- A rational is returned. -/
def Rat1 (n d : List Int) (w : World) (e : Ending) (w' : World) : Prop := ∃ A c A' c', e = .returned (.agg #[.slice A n.length c, .slice A' d.length c']) ∧ Kd.C (Kd.int .u32) w' A n.length n ∧ n.length ≤ c ∧ Kd.C (Kd.int .u32) w' A' d.length d ∧ d.length ≤ c' ∧ Below w.heap.size w w'
/-- A rational and an error number are returned. -/
def Rat2 (n d : List Int) (ec : Int) (w : World) (e : Ending) (w' : World) : Prop := ∃ A c A' c', e = .returned (.tuple #[.agg #[.slice A n.length c, .slice A' d.length c'], .int .i64 ec]) ∧ Kd.C (Kd.int .u32) w' A n.length n ∧ n.length ≤ c ∧ Kd.C (Kd.int .u32) w' A' d.length d ∧ d.length ≤ c' ∧ Below w.heap.size w w'
theorem Rat1.intro {n d : List Int} {w : World} {e : Ending} {w' : World} (h : ∃ A c A' c', e = .returned (.agg #[.slice A n.length c, .slice A' d.length c']) ∧ Kd.C (Kd.int .u32) w' A n.length n ∧ n.length ≤ c ∧ Kd.C (Kd.int .u32) w' A' d.length d ∧ d.length ≤ c' ∧ Below w.heap.size w w') : Rat1 n d w e w' := h
theorem Rat2.intro {n d : List Int} {ec : Int} {w : World} {e : Ending} {w' : World} (h : ∃ A c A' c', e = .returned (.tuple #[.agg #[.slice A n.length c, .slice A' d.length c'], .int .i64 ec]) ∧ Kd.C (Kd.int .u32) w' A n.length n ∧ n.length ≤ c ∧ Kd.C (Kd.int .u32) w' A' d.length d ∧ d.length ≤ c' ∧ Below w.heap.size w w') : Rat2 n d ec w e w' := h
/-- A block of two slices: a rational in memory. -/
def Bx (W : World) (b : Nat) (v0 v1 : Value) : Prop := W.heap[b]? = some (.cells #[v0, v1] 48)
theorem Bx.lt {W : World} {b : Nat} {v0 v1 : Value} (h : Bx W b v0 v1) : b < W.heap.size := (Array.getElem?_eq_some_iff.1 h).1
theorem Bx.below {W W' : World} {b : Nat} {v0 v1 : Value} (h : Bx W b v0 v1) (hb : Below W.heap.size W W') : Bx W' b v0 v1 := (hb.block b h.lt).trans h
theorem Bx.c0 {W : World} {b : Nat} {v0 v1 : Value} (h : Bx W b v0 v1) : W.cell? ⟨b, 0, none⟩ = some v0 := by
 unfold Bx at h
 simp [World.cell?, h]
theorem Bx.c1 {W : World} {b : Nat} {v0 v1 : Value} (h : Bx W b v0 v1) : W.cell? ⟨b, 1, none⟩ = some v1 := by
 unfold Bx at h
 simp [World.cell?, h]
theorem Bx.f0 {W : World} {b : Nat} {v0 v1 : Value} (h : Bx W b v0 v1) : W.frozen? ⟨b, 0, none⟩ = false := by
 unfold Bx at h
 simp [World.frozen?, h]
theorem Bx.f1 {W : World} {b : Nat} {v0 v1 : Value} (h : Bx W b v0 v1) : W.frozen? ⟨b, 1, none⟩ = false := by
 unfold Bx at h
 simp [World.frozen?, h]
theorem Bx.alloc (W : World) (v0 v1 : Value) : Bx (W.alloc (.cells #[v0, v1] 48)) W.heap.size v0 v1 := by
 unfold Bx
 show (W.heap.push _)[W.heap.size]? = some _
 simp
theorem Bx.store {W : World} {b : Nat} {v0 v1 : Value} (h : Bx W b v0 v1) (u0 u1 : Value) : Bx ((W.setCell ⟨b, 0, none⟩ u0).setCell ⟨b, 1, none⟩ u1) b u0 u1 := by
 unfold Bx at *
 simp [World.setCell, Array.getElem?_modify, h]
theorem cell_set_ne {W : World} {p q : Addr} {x y : Value} (hx : W.cell? p = some x) (hy : W.cell? q = some y) (hn : x ≠ y) (u : Value) : (W.setCell p u).cell? q = some y := by
 unfold World.cell? at *
 unfold World.setCell
 simp only [Array.getElem?_modify]
 by_cases hb : p.block = q.block
 ·rw [if_pos hb]
  rw [hb] at hx
  cases ho : W.heap[q.block]? with
  | none => rw [ho] at hy; simp at hy
  | some ob =>
   rw [ho] at hx hy
   cases ob with
   | cells c t f =>
    simp only [Option.map_some] at *
    split at hx
    ·cases hx
    ·split at hy
     ·cases hy
     ·rename_i h1 h2
      rw [if_neg h1, if_neg h2]
      rw [Array.getElem?_setIfInBounds]
      split
      ·rename_i he
       rw [he, hy] at hx
       injection hx with hx
       exact absurd hx.symm hn
      ·exact hy
   | _ => simp at hy
 ·rw [if_neg hb]
  exact hy
theorem C_set {W : World} {A : Option Addr} {l : List Int} (hC : Kd.C (Kd.int .u32) W A l.length l) {p : Addr} {x : Value} (hx : W.cell? p = some x) (hn : ∀ z, x ≠ .int .u32 z) (u : Value) : Kd.C (Kd.int .u32) (W.setCell p u) A l.length l := by
 have hr := Kd.reads_of_C (enc := Value.int .u32) (d := (0 : Int)) (h1 := fun _ => rfl) hC
 refine Kd.C_of_reads (d := (0 : Int)) (h1 := fun _ => rfl) ⟨hr.1, hr.2.1, fun h0 => ?_⟩
 obtain ⟨ad, e, hc⟩ := hr.2.2 h0
 exact ⟨ad, e, fun j hj => cell_set_ne hx (hc j hj) (hn _) u⟩
theorem C_store {W : World} {b : Nat} {A0 A1 : Option Addr} {n0 c0 n1 c1 : Nat} (h : Bx W b (.slice A0 n0 c0) (.slice A1 n1 c1)) {A : Option Addr} {l : List Int} (hC : Kd.C (Kd.int .u32) W A l.length l) (u0 u1 : Value) : Kd.C (Kd.int .u32) ((W.setCell ⟨b, 0, none⟩ u0).setCell ⟨b, 1, none⟩ u1) A l.length l := by
 have h1 := C_set hC h.c0 (fun z e => by cases e) u0
 have q : (W.setCell ⟨b, 0, none⟩ u0).cell? ⟨b, 1, none⟩ = some (.slice A1 n1 c1) := by
  unfold Bx at h
  simp [World.cell?, World.setCell, Array.getElem?_modify, h]
 exact C_set h1 q (fun z e => by cases e) u1
theorem results_cell48 {fn : Func} {t : Tmp} (h : fn.results = #[.cell t 48]) {tmps : Array Value} {w : World} {b : Nat} {v0 v1 : Value} (ht : tmps.getD t undef = .pointer (some ⟨b, 0, none⟩)) (hb : Bx w b v0 v1) :
  (results fn tmps).run Tryd.prog w = .ok (.agg #[v0, v1]) w := by
 have q0 := hb.c0
 have q1 := hb.c1
 simp only [Array.getD_eq_getD_getElem?] at ht
 simp [results, h, ht, q0, q1, go_sem]
theorem results_cell48t {fn : Func} {t u : Tmp} (h : fn.results = #[.cell t 48, .tmp u]) {tmps : Array Value} {w : World} {b : Nat} {v0 v1 : Value} (ht : tmps.getD t undef = .pointer (some ⟨b, 0, none⟩)) (hb : Bx w b v0 v1) :
  (results fn tmps).run Tryd.prog w = .ok (.tuple #[.agg #[v0, v1], tmps.getD u undef]) w := by
 have q0 := hb.c0
 have q1 := hb.c1
 simp only [Array.getD_eq_getD_getElem?] at ht
 simp [results, h, ht, q0, q1, go_sem]
section
variable {P : Program} {ops : Array Oper} {rest : List Oper} {o : Oper} {a : Act} {Q : Exit → Act → World → Prop}
/-- A rational is laid in a fresh block. -/
theorem box_event {W : World} (hgd : o.guard = none) {N : Tmp} (_hd : o.dst = some N) (v0 v1 : Value)
  (hrun : (execOp a.eval o).run P W = .ok (.value (.pointer (some ⟨W.heap.size, 0, none⟩))) (W.alloc (.cells #[v0, v1] 48)))
  (h : ∀ b w1, Bx w1 b v0 v1 → W.heap.size ≤ b → Below W.heap.size W w1 → wpList P ops Q rest (a.put o.dst (.pointer (some ⟨b, 0, none⟩))) w1) : wpList P ops Q (o :: rest) a W :=
 Kd.event_run hgd hrun (h _ _ (Bx.alloc W v0 v1) (Nat.le_refl _) (below_alloc (Below.refl _ _) _))
end
set_option maxHeartbeats 8000000 in
set_option maxRecDepth 100000 in
theorem limbs10_calls (k : Nat) (A0 : Option Addr) (c0 : Nat) (l0 : List Int) (A1 : Option Addr) (c1 : Nat) (l1 : List Int) (r : Bool) (w : World) (hr0 : Kd.C (Kd.int .u32) w A0 l0.length l0) (hc0 : l0.length ≤ c0) (hr1 : Kd.C (Kd.int .u32) w A1 l1.length l1) (hc1 : l1.length ≤ c1) (h : lineagelaw03_same.f k l0 l1 = some r) :
  Calls Tryd.prog 96 #[.slice A0 l0.length c0, .slice A1 l1.length c1] w fun e w' => e = .returned (.bool r) ∧ Drawn0 w w' := by
 have HR0 := Aside0.mk hr0
 have HC0 := Aside0.mk hc0
 clear hr0 hc0
 have HR1 := Aside0.mk hr1
 have HC1 := Aside0.mk hc1
 clear hr1 hc1
 have H : (if (l0.length : Int) = (l1.length : Int) then (lineagelaw03_same.l0 k l0 l1 0) else (some false)) = some r := h
 clear h
 by_cases c3 : (l0.length : Int) = (l1.length : Int)
 ·rw [if_pos c3] at H
  have c3b0 : ((l0.length : Int) == (l1.length : Int)) = true := beq_iff_eq.mpr c3
  have c3b1 : ((l0.length : Int) != (l1.length : Int)) = false := bne_eq_false_iff_eq.mpr c3
  have c3b2 : (l0.length == l1.length) = true := by first | simpa using c3 | (simp at c3 ⊢; omega)
  clear c3
  have H' := Aside0.mk H
  clear H
  go_enter Tryd.func96, Tryd.ntmps96
  go_wp2
  repeat (go_quiet (fail); try go_wp2)
  go_loopg [5] k (fun kq v5 w' => ∃ (x5_1 : Int), v5 = .int .i64 x5_1 ∧ Aside0 (lineagelaw03_same.l0 kq l0 l1 x5_1 = some r) ∧ Aside0 (kq ≤ k) ∧ Drawn0 w w')
  case atStart => exact ⟨(0), (by first | rfl | (simp; done) | (simp [*]; done)), H', ⟨Nat.le_refl _⟩, by repeat (first | exact Drawn0.refl _ | apply Drawn0.step)⟩
  case round =>
   clear H'
   try clear c1
   try clear c2
   try clear p2
   try clear c3
   try clear c3b0
   try clear c3b1
   try clear c3b2
   obtain ⟨x5_1, rfl, HA, HK1, ⟨m1, rfl⟩⟩ := hrel
   cases gk with
   | zero => exact absurd HA.out (by simp [lineagelaw03_same.l0])
   | succ k1 =>
    have H := HA.out
    clear HA
    simp only [lineagelaw03_same.l0] at H
    by_cases c4 : x5_1 < (l0.length : Int)
    ·rw [if_pos c4] at H
     have c4b0 : decide (x5_1 < (l0.length : Int)) = true := decide_eq_true c4
     clear c4
     by_cases c5 : 0 ≤ x5_1
     ·rw [if_pos c5] at H
      have c5b0 : decide (0 ≤ x5_1) = true := decide_eq_true c5
      clear c5
      by_cases c6 : x5_1 < (l1.length : Int)
      ·rw [if_pos c6] at H
       have c6b0 : decide (x5_1 < (l1.length : Int)) = true := decide_eq_true c6
       clear c6
       by_cases c7 : (rd l0 x5_1) = (rd l1 x5_1)
       ·rw [if_pos c7] at H
        have c7b0 : ((rd l0 x5_1) == (rd l1 x5_1)) = true := beq_iff_eq.mpr c7
        have c7b1 : ((rd l0 x5_1) != (rd l1 x5_1)) = false := bne_eq_false_iff_eq.mpr c7
        clear c7
        have H' := Aside0.mk H
        clear H
        have p126 : 0 ≤ (x5_1 : Int) := of_decide_eq_true (by first | (with_reducible assumption) | assumption)
        have q126 : x5_1 < (l0.length : Int) := of_decide_eq_true (by first | (with_reducible assumption) | assumption)
        obtain ⟨ad126, e126, hx126_0⟩ := Kd.at_int HR0.out x5_1 p126 q126
        cases e126
        replace p126 := eq_true p126
        replace q126 := eq_true q126
        have p127 : 0 ≤ (x5_1 : Int) := of_decide_eq_true (by first | (with_reducible assumption) | assumption)
        have q127 : x5_1 < (l1.length : Int) := of_decide_eq_true (by first | (with_reducible assumption) | assumption)
        obtain ⟨ad127, e127, hx127_0⟩ := Kd.at_int HR1.out x5_1 p127 q127
        cases e127
        replace p127 := eq_true p127
        replace q127 := eq_true q127
        go_wp2
        repeat (go_quiet (fail); try go_wp2)
        go_roundg k1
        case measure => have := HK1.out; omega
        case rel => exact ⟨(wrap64 (x5_1 + 1)), (by first | rfl | (simp; done) | (simp [*]; done)), H', ⟨by have := HK1.out; omega⟩, by repeat (first | exact Drawn0.refl _ | apply Drawn0.step)⟩
       ·rw [if_neg c7] at H
        have c7b0 : ((rd l0 x5_1) == (rd l1 x5_1)) = false := beq_eq_false_iff_ne.mpr c7
        have c7b1 : ((rd l0 x5_1) != (rd l1 x5_1)) = true := bne_iff_ne.mpr c7
        obtain rfl := Option.some.inj H
        have p126 : 0 ≤ (x5_1 : Int) := of_decide_eq_true (by first | (with_reducible assumption) | assumption)
        have q126 : x5_1 < (l0.length : Int) := of_decide_eq_true (by first | (with_reducible assumption) | assumption)
        obtain ⟨ad126, e126, hx126_0⟩ := Kd.at_int HR0.out x5_1 p126 q126
        cases e126
        replace p126 := eq_true p126
        replace q126 := eq_true q126
        have p127 : 0 ≤ (x5_1 : Int) := of_decide_eq_true (by first | (with_reducible assumption) | assumption)
        have q127 : x5_1 < (l1.length : Int) := of_decide_eq_true (by first | (with_reducible assumption) | assumption)
        obtain ⟨ad127, e127, hx127_0⟩ := Kd.at_int HR1.out x5_1 p127 q127
        cases e127
        replace p127 := eq_true p127
        replace q127 := eq_true q127
        go_wp2
        repeat (go_quiet (fail); try go_wp2)
        go_ret
        exact ⟨by first | rfl | (simp; done) | (simp [*]; done), by repeat (first | exact Drawn0.refl _ | apply Drawn0.step)⟩
      ·rw [if_neg c6] at H
       exact absurd H (by simp)
     ·rw [if_neg c5] at H
      exact absurd H (by simp)
    ·rw [if_neg c4] at H
     have c4b0 : decide (x5_1 < (l0.length : Int)) = false := decide_eq_false c4
     clear c4
     obtain rfl := Option.some.inj H
     go_wp2
     repeat (go_quiet (fail); try go_wp2)
     go_ret
     exact ⟨by first | rfl | (simp; done) | (simp [*]; done), by repeat (first | exact Drawn0.refl _ | apply Drawn0.step)⟩
 ·rw [if_neg c3] at H
  have c3b0 : ((l0.length : Int) == (l1.length : Int)) = false := beq_eq_false_iff_ne.mpr c3
  have c3b1 : ((l0.length : Int) != (l1.length : Int)) = true := bne_iff_ne.mpr c3
  have c3b2 : (l0.length == l1.length) = false := by first | simpa using c3 | (simp at c3 ⊢; omega)
  obtain rfl := Option.some.inj H
  go_enter Tryd.func96, Tryd.ntmps96
  go_wp2
  repeat (go_quiet (fail); try go_wp2)
  go_ret
  exact ⟨by first | rfl | (simp; done) | (simp [*]; done), by repeat (first | exact Drawn0.refl _ | apply Drawn0.step)⟩
set_option maxHeartbeats 8000000 in
set_option maxRecDepth 100000 in
theorem slicesEqual_calls (k : Nat) (A0 : Option Addr) (c0 : Nat) (l0 : List Int) (A1 : Option Addr) (c1 : Nat) (l1 : List Int) (r : Bool) (w : World) (hr0 : Kd.C (Kd.int .u32) w A0 l0.length l0) (hc0 : l0.length ≤ c0) (hr1 : Kd.C (Kd.int .u32) w A1 l1.length l1) (hc1 : l1.length ≤ c1) (h : lineagelaw03_same.f k l0 l1 = some r) :
  Calls Tryd.prog 100 #[.slice A0 l0.length c0, .slice A1 l1.length c1] w fun e w' => e = .returned (.bool r) ∧ Drawn0 w w' := by
 have HR0 := Aside0.mk hr0
 have HC0 := Aside0.mk hc0
 clear hr0 hc0
 have HR1 := Aside0.mk hr1
 have HC1 := Aside0.mk hc1
 clear hr1 hc1
 have H : (if (l0.length : Int) = (l1.length : Int) then (lineagelaw03_same.l0 k l0 l1 0) else (some false)) = some r := h
 clear h
 by_cases c3 : (l0.length : Int) = (l1.length : Int)
 ·rw [if_pos c3] at H
  have c3b0 : ((l0.length : Int) == (l1.length : Int)) = true := beq_iff_eq.mpr c3
  have c3b1 : ((l0.length : Int) != (l1.length : Int)) = false := bne_eq_false_iff_eq.mpr c3
  have c3b2 : (l0.length == l1.length) = true := by first | simpa using c3 | (simp at c3 ⊢; omega)
  clear c3
  have H' := Aside0.mk H
  clear H
  go_enter Tryd.func100, Tryd.ntmps100
  go_wp2
  repeat (go_quiet (fail); try go_wp2)
  go_loopg [13] k (fun kq v5 w' => ∃ (x5_1 : Int), v5 = .int .i64 x5_1 ∧ Aside0 (lineagelaw03_same.l0 kq l0 l1 x5_1 = some r) ∧ Aside0 (kq ≤ k) ∧ Drawn0 w w')
  case atStart => exact ⟨(0), (by first | rfl | (simp; done) | (simp [*]; done)), H', ⟨Nat.le_refl _⟩, by repeat (first | exact Drawn0.refl _ | apply Drawn0.step)⟩
  case round =>
   clear H'
   try clear c1
   try clear c2
   try clear p2
   try clear c3
   try clear c3b0
   try clear c3b1
   try clear c3b2
   obtain ⟨x5_1, rfl, HA, HK1, ⟨m1, rfl⟩⟩ := hrel
   cases gk with
   | zero => exact absurd HA.out (by simp [lineagelaw03_same.l0])
   | succ k1 =>
    have H := HA.out
    clear HA
    simp only [lineagelaw03_same.l0] at H
    by_cases c4 : x5_1 < (l0.length : Int)
    ·rw [if_pos c4] at H
     have c4b0 : decide (x5_1 < (l0.length : Int)) = true := decide_eq_true c4
     clear c4
     by_cases c5 : 0 ≤ x5_1
     ·rw [if_pos c5] at H
      have c5b0 : decide (0 ≤ x5_1) = true := decide_eq_true c5
      clear c5
      by_cases c6 : x5_1 < (l1.length : Int)
      ·rw [if_pos c6] at H
       have c6b0 : decide (x5_1 < (l1.length : Int)) = true := decide_eq_true c6
       clear c6
       by_cases c7 : (rd l0 x5_1) = (rd l1 x5_1)
       ·rw [if_pos c7] at H
        have c7b0 : ((rd l0 x5_1) == (rd l1 x5_1)) = true := beq_iff_eq.mpr c7
        have c7b1 : ((rd l0 x5_1) != (rd l1 x5_1)) = false := bne_eq_false_iff_eq.mpr c7
        clear c7
        have H' := Aside0.mk H
        clear H
        have p126 : 0 ≤ (x5_1 : Int) := of_decide_eq_true (by first | (with_reducible assumption) | assumption)
        have q126 : x5_1 < (l0.length : Int) := of_decide_eq_true (by first | (with_reducible assumption) | assumption)
        obtain ⟨ad126, e126, hx126_0⟩ := Kd.at_int HR0.out x5_1 p126 q126
        cases e126
        replace p126 := eq_true p126
        replace q126 := eq_true q126
        have p127 : 0 ≤ (x5_1 : Int) := of_decide_eq_true (by first | (with_reducible assumption) | assumption)
        have q127 : x5_1 < (l1.length : Int) := of_decide_eq_true (by first | (with_reducible assumption) | assumption)
        obtain ⟨ad127, e127, hx127_0⟩ := Kd.at_int HR1.out x5_1 p127 q127
        cases e127
        replace p127 := eq_true p127
        replace q127 := eq_true q127
        go_wp2
        repeat (go_quiet (fail); try go_wp2)
        go_roundg k1
        case measure => have := HK1.out; omega
        case rel => exact ⟨(wrap64 (x5_1 + 1)), (by first | rfl | (simp; done) | (simp [*]; done)), H', ⟨by have := HK1.out; omega⟩, by repeat (first | exact Drawn0.refl _ | apply Drawn0.step)⟩
       ·rw [if_neg c7] at H
        have c7b0 : ((rd l0 x5_1) == (rd l1 x5_1)) = false := beq_eq_false_iff_ne.mpr c7
        have c7b1 : ((rd l0 x5_1) != (rd l1 x5_1)) = true := bne_iff_ne.mpr c7
        obtain rfl := Option.some.inj H
        have p126 : 0 ≤ (x5_1 : Int) := of_decide_eq_true (by first | (with_reducible assumption) | assumption)
        have q126 : x5_1 < (l0.length : Int) := of_decide_eq_true (by first | (with_reducible assumption) | assumption)
        obtain ⟨ad126, e126, hx126_0⟩ := Kd.at_int HR0.out x5_1 p126 q126
        cases e126
        replace p126 := eq_true p126
        replace q126 := eq_true q126
        have p127 : 0 ≤ (x5_1 : Int) := of_decide_eq_true (by first | (with_reducible assumption) | assumption)
        have q127 : x5_1 < (l1.length : Int) := of_decide_eq_true (by first | (with_reducible assumption) | assumption)
        obtain ⟨ad127, e127, hx127_0⟩ := Kd.at_int HR1.out x5_1 p127 q127
        cases e127
        replace p127 := eq_true p127
        replace q127 := eq_true q127
        go_wp2
        repeat (go_quiet (fail); try go_wp2)
        go_ret
        exact ⟨by first | rfl | (simp; done) | (simp [*]; done), by repeat (first | exact Drawn0.refl _ | apply Drawn0.step)⟩
      ·rw [if_neg c6] at H
       exact absurd H (by simp)
     ·rw [if_neg c5] at H
      exact absurd H (by simp)
    ·rw [if_neg c4] at H
     have c4b0 : decide (x5_1 < (l0.length : Int)) = false := decide_eq_false c4
     clear c4
     obtain rfl := Option.some.inj H
     go_wp2
     repeat (go_quiet (fail); try go_wp2)
     go_ret
     exact ⟨by first | rfl | (simp; done) | (simp [*]; done), by repeat (first | exact Drawn0.refl _ | apply Drawn0.step)⟩
 ·rw [if_neg c3] at H
  have c3b0 : ((l0.length : Int) == (l1.length : Int)) = false := beq_eq_false_iff_ne.mpr c3
  have c3b1 : ((l0.length : Int) != (l1.length : Int)) = true := bne_iff_ne.mpr c3
  have c3b2 : (l0.length == l1.length) = false := by first | simpa using c3 | (simp at c3 ⊢; omega)
  obtain rfl := Option.some.inj H
  go_enter Tryd.func100, Tryd.ntmps100
  go_wp2
  repeat (go_quiet (fail); try go_wp2)
  go_ret
  exact ⟨by first | rfl | (simp; done) | (simp [*]; done), by repeat (first | exact Drawn0.refl _ | apply Drawn0.step)⟩
set_option maxHeartbeats 16000000 in
set_option maxRecDepth 100000 in
/-- Few. -/
theorem Few_calls (A0 : Option Addr) (c0 : Nat) (l0 : List Int) (A1 : Option Addr) (c1 : Nat) (l1 : List Int) (m : Int) (r : Bool) (w : World) (hr : r = (decide ((l0.length : Int) ≤ m) && decide ((l1.length : Int) ≤ m))) :
  Calls Tryd.prog 43 #[.agg #[.slice A0 l0.length c0, .slice A1 l1.length c1], .int .i64 m] w fun e w' => e = .returned (.bool r) ∧ Below w.heap.size w w' := by
 have HB := Aside0.mk (Below.refl w.heap.size w)
 obtain ⟨p, hp⟩ : ∃ p, decide ((l0.length : Int) ≤ m) = p := ⟨_, rfl⟩
 have hR := Aside0.mk (hp ▸ hr : r = (p && decide ((l1.length : Int) ≤ m)))
 clear hr
 cases p with
 | false =>
  obtain rfl : r = false := by rw [hR.out]; rfl
  go_enter Tryd.func43, Tryd.ntmps43
  go_wp2_with fail
  go_ret
  exact ⟨rfl, below_alloc (Below.refl _ _) _⟩
 | true =>
  go_enter Tryd.func43, Tryd.ntmps43
  go_wp2_with fail
  go_ret
  exact ⟨by rw [hR.out]; rfl, below_alloc (Below.refl _ _) _⟩
/-- A valid fraction. -/
def ratB (n d : List Int) : Bool := validB n && validB d && decide (d ≠ []) && decide (Nat.gcd (Bn.nv n) (Bn.nv d) = 1)
theorem limbs_one_iff (n : Nat) : decide (Bn.limbs n = Bn.limbs 1) = decide (n = 1) := by
 by_cases h : n = 1
 ·simp [h]
 ·have h2 : Bn.limbs n ≠ Bn.limbs 1 := fun e => h (by have := congrArg Bn.nv e; rwa [Bn.nv_limbs, Bn.nv_limbs] at this)
  simp [h, h2]
theorem gcd_len {a b : List Int} (ha : Bn.Nrm a) (hb : Bn.Nrm b) (la : a.length ≤ 128) (lb : b.length ≤ 128) : (Bn.limbs (Nat.gcd (Bn.nv a) (Bn.nv b))).length ≤ 128 := by
 rcases Nat.eq_zero_or_pos (Bn.nv a) with h2 | h2
 ·rw [h2, Nat.gcd_zero_left, hb.2]
  exact lb
 ·exact Nat.le_trans (limbs_le ha.1 (Nat.gcd_le_left _ h2)) la
set_option maxHeartbeats 16000000 in
set_option maxRecDepth 100000 in
/-- Valid. -/
theorem ratValid_calls (A0 : Option Addr) (c0 : Nat) (l0 : List Int) (A1 : Option Addr) (c1 : Nat) (l1 : List Int) (r : Bool) (w : World) (hr0 : Kd.C (Kd.int .u32) w A0 l0.length l0) (hc0 : l0.length ≤ c0) (hr1 : Kd.C (Kd.int .u32) w A1 l1.length l1) (hc1 : l1.length ≤ c1)  (L0 : Bn.Limbs l0) (L1 : Bn.Limbs l1) (hr : r = ratB l0 l1) :
  Calls Tryd.prog 56 #[.agg #[.slice A0 l0.length c0, .slice A1 l1.length c1]] w fun e w' => e = .returned (.bool r) ∧ Below w.heap.size w w' := by
 have C0 := Aside0.mk hr0
 have H0 := Aside0.mk hc0
 clear hr0 hc0
 have C1 := Aside0.mk hr1
 have H1 := Aside0.mk hc1
 clear hr1 hc1
 have HB := Aside0.mk (Below.refl w.heap.size w)
 obtain ⟨p0, hp0⟩ : ∃ p, p = validB l0 := ⟨_, rfl⟩
 obtain ⟨p1, hp1⟩ : ∃ p, p = validB l1 := ⟨_, rfl⟩
 have hP0 := Aside0.mk (show bignat_Valid.f l0 = some p0 from hp0 ▸ Valid_f l0)
 have hP1 := Aside0.mk (show bignat_Valid.f l1 = some p1 from hp1 ▸ Valid_f l1)
 have hR := Aside0.mk (show r = (p0 && p1 && decide (l1 ≠ []) && decide (Nat.gcd (Bn.nv l0) (Bn.nv l1) = 1)) from by rw [hr, hp0, hp1]; rfl)
 have hV0 := Aside0.mk (show p0 = true → Bn.Nrm l0 ∧ l0.length ≤ 128 from fun h => (validB_iff L0).1 (hp0 ▸ h))
 have hV1 := Aside0.mk (show p1 = true → Bn.Nrm l1 ∧ l1.length ≤ 128 from fun h => (validB_iff L1).1 (hp1 ▸ h))
 have hvv := Aside0.mk (show p0 = true → p1 = true → vv l0 = Bn.nv l0 ∧ vv l1 = Bn.nv l1 from fun h0 h1 => ⟨vv_valid (hp0 ▸ h0), vv_valid (hp1 ▸ h1)⟩)
 have hL0 := Aside0.mk L0
 have hL1 := Aside0.mk L1
 clear hp0 hp1 hr L0 L1
 go_enter Tryd.func56, Tryd.ntmps56
 go_wp2_with (first | ((with_reducible refine gate_dst (N := 1) rfl ?_); (try (refine gate_guard (by rfl) ?_; dsimp only)); refine box_event ?hg (N := 1) ?hd (.slice A0 l0.length c0) (.slice A1 l1.length c1) ?hr ?_; (case hd => rfl); (case hg => rfl); (case hr => first | (go_simp; done) | (go_simp; rfl)); intro bx wa1 hx_ hs_ hb_; skip; have Sx := Aside0.mk (Nat.le_trans (below_size HB.out) hs_); have Xx := Aside0.mk hx_; replace C0 := Aside0.mk (Kd.C_below C0.out hb_); replace C1 := Aside0.mk (Kd.C_below C1.out hb_); replace HB := Aside0.mk (below_step HB.out hb_); have qax := Bx.c0 Xx.out; have qbx := Bx.c1 Xx.out; clear hb_ hx_ hs_))
 refine (bignat_Valid.calls  A0 c0 l0 p0 wa1 C0.out H0.out hP0.out).mono ?_
 rintro e wa2 ⟨rfl, hd_⟩
 have hb_ := hd_.below
 replace C0 := Aside0.mk (Kd.C_below C0.out hb_)
 replace C1 := Aside0.mk (Kd.C_below C1.out hb_)
 clear qax qbx
 replace Xx := Aside0.mk (Bx.below Xx.out hb_)
 have qax := Bx.c0 Xx.out
 have qbx := Bx.c1 Xx.out
 replace HB := Aside0.mk (below_step HB.out hb_)
 clear hb_ hd_
 cases p0 with
 | false =>
  obtain rfl : r = false := by rw [hR.out]; simp
  go_wp2_with fail
  go_ret
  exact ⟨rfl, HB.out⟩
 | true =>
  go_wp2_with fail
  refine (bignat_Valid.calls  A1 c1 l1 p1 wa2 C1.out H1.out hP1.out).mono ?_
  rintro e wa3 ⟨rfl, hd_⟩
  have hb_ := hd_.below
  replace C0 := Aside0.mk (Kd.C_below C0.out hb_)
  replace C1 := Aside0.mk (Kd.C_below C1.out hb_)
  clear qax qbx
  replace Xx := Aside0.mk (Bx.below Xx.out hb_)
  have qax := Bx.c0 Xx.out
  have qbx := Bx.c1 Xx.out
  replace HB := Aside0.mk (below_step HB.out hb_)
  clear hb_ hd_
  cases p1 with
  | false =>
   obtain rfl : r = false := by rw [hR.out]; simp
   go_wp2_with fail
   go_ret
   exact ⟨rfl, HB.out⟩
  | true =>
   by_cases hz : l1 = []
   ·obtain rfl : r = false := by rw [hR.out]; simp [hz]
    obtain rfl := hz
    go_wp2_with fail
    go_ret
    exact ⟨rfl, HB.out⟩
   ·have hz0 : decide (0 < (l1.length : Int)) = true := by
     have : 0 < l1.length := List.length_pos_iff.2 hz
     exact decide_eq_true (by omega)
    have hz1 : decide (0 < l1.length) = true := decide_eq_true (List.length_pos_iff.2 hz)
    obtain ⟨g, hg⟩ : ∃ g, g = Bn.limbs (Nat.gcd (Bn.nv l0) (Bn.nv l1)) := ⟨_, rfl⟩
    obtain ⟨n0, s0⟩ := hV0.out (by trivial)
    obtain ⟨n1, s1⟩ := hV1.out (by trivial)
    obtain ⟨e0, e1⟩ := hvv.out (by trivial) (by trivial)
    have hG := Aside0.mk (show bignat_GCD.f 12200 l0 l1 = some g from by rw [GCD_f hL0.out hL1.out (Nat.le_refl _), e0, e1, hg])
    obtain ⟨o, ho⟩ : ∃ o, o = Bn.limbs 1 := ⟨_, rfl⟩
    have hO := Aside0.mk (show bignat_FromUint.f 10 1 = some o from ho ▸ FromUint_f (by decide) (by decide) (by decide))
    have hS := Aside0.mk (show lineagelaw03_same.f 200 g o = some r from by
      have hl := gcd_len n0 n1 s0 s1
      rw [← hg] at hl
      rw [same_f g o (by omega) (by omega), hR.out, hg, ho, limbs_one_iff]
      simp [hz])
    clear n0 s0 n1 s1 e0 e1 hg ho hR hV0 hV1 hvv
    go_wp2_with fail
    refine (bignat_GCD.calls 12200 A0 c0 l0 A1 c1 l1 g wa3 C0.out H0.out C1.out H1.out hG.out).mono ?_
    rintro e wa4 ⟨v_, rfl, hr_, hb_⟩
    replace C0 := Aside0.mk (Kd.C_below C0.out hb_)
    replace C1 := Aside0.mk (Kd.C_below C1.out hb_)
    clear qax qbx
    replace Xx := Aside0.mk (Bx.below Xx.out hb_)
    have qax := Bx.c0 Xx.out
    have qbx := Bx.c1 Xx.out
    replace HB := Aside0.mk (below_step HB.out hb_)
    obtain ⟨Ag, cg, rfl⟩ := Kd.R_slice hr_
    have Cg := Aside0.mk (Kd.R_reads' hr_).2.2
    have Hg := Aside0.mk (show g.length ≤ cg from (Kd.R_reads' hr_).2.1)
    clear hr_ hb_
    go_wp2_with fail
    refine (bignat_FromUint.calls 10 1 o wa4 hO.out).mono ?_
    rintro e wa5 ⟨v_, rfl, hr_, hb_⟩
    replace C0 := Aside0.mk (Kd.C_below C0.out hb_)
    replace C1 := Aside0.mk (Kd.C_below C1.out hb_)
    replace Cg := Aside0.mk (Kd.C_below Cg.out hb_)
    clear qax qbx
    replace Xx := Aside0.mk (Bx.below Xx.out hb_)
    have qax := Bx.c0 Xx.out
    have qbx := Bx.c1 Xx.out
    replace HB := Aside0.mk (below_step HB.out hb_)
    obtain ⟨Ao, co, rfl⟩ := Kd.R_slice hr_
    have Co := Aside0.mk (Kd.R_reads' hr_).2.2
    have Ho := Aside0.mk (show o.length ≤ co from (Kd.R_reads' hr_).2.1)
    clear hr_ hb_
    go_wp2_with fail
    refine (slicesEqual_calls 200 Ag cg g Ao co o r wa5 Cg.out Hg.out Co.out Ho.out hS.out).mono ?_
    rintro e wa6 ⟨rfl, hd_⟩
    have hb_ := hd_.below
    replace C0 := Aside0.mk (Kd.C_below C0.out hb_)
    replace C1 := Aside0.mk (Kd.C_below C1.out hb_)
    replace Cg := Aside0.mk (Kd.C_below Cg.out hb_)
    replace Co := Aside0.mk (Kd.C_below Co.out hb_)
    clear qax qbx
    replace Xx := Aside0.mk (Bx.below Xx.out hb_)
    have qax := Bx.c0 Xx.out
    have qbx := Bx.c1 Xx.out
    replace HB := Aside0.mk (below_step HB.out hb_)
    clear hb_ hd_
    go_wp2_with fail
    go_ret
    exact ⟨rfl, HB.out⟩
set_option maxHeartbeats 16000000 in
set_option maxRecDepth 100000 in
/-- The reference's GCD. -/
theorem refGCD_calls (A0 : Option Addr) (c0 : Nat) (l0 : List Int) (A1 : Option Addr) (c1 : Nat) (l1 : List Int) (g : List Int) (w : World) (hr0 : Kd.C (Kd.int .u32) w A0 l0.length l0) (hc0 : l0.length ≤ c0) (hr1 : Kd.C (Kd.int .u32) w A1 l1.length l1) (hc1 : l1.length ≤ c1)
  (h : Bn.Nrm l0 ∧ Bn.Nrm l1 ∧ l0.length ≤ 128 ∧ l1.length ≤ 128 ∧ g = Bn.limbs (Nat.gcd (Bn.nv l0) (Bn.nv l1))) :
  Calls Tryd.prog 94 #[.slice A0 l0.length c0, .slice A1 l1.length c1] w fun e w' => ∃ A c, e = .returned (.slice A g.length c) ∧ Kd.C (Kd.int .u32) w' A g.length g ∧ g.length ≤ c ∧ Below w.heap.size w w' := by
 have C0 := Aside0.mk hr0
 have H0 := Aside0.mk hc0
 have C1 := Aside0.mk hr1
 have H1 := Aside0.mk hc1
 have hh := Aside0.mk h
 have HB := Aside0.mk (Below.refl w.heap.size w)
 clear hr0 hc0 hr1 hc1 h
 go_enter Tryd.func94, Tryd.ntmps94
 go_wp2_with fail
 go_loopg [0, 1] (Bn.nv l1) (fun kq v0 v1 w' => ∃ (x y : List Int) (A : Option Addr) (c : Nat) (A' : Option Addr) (c' : Nat), v0 = .slice A x.length c ∧ v1 = .slice A' y.length c' ∧ Aside0 (kq = Bn.nv y) ∧ Aside0 (Kd.C (Kd.int .u32) w' A x.length x) ∧ Aside0 (x.length ≤ c) ∧ Aside0 (Kd.C (Kd.int .u32) w' A' y.length y) ∧ Aside0 (y.length ≤ c') ∧ Aside0 (Bn.Nrm x ∧ Bn.Nrm y ∧ x.length ≤ 128 ∧ y.length ≤ 128 ∧ g = Bn.limbs (Nat.gcd (Bn.nv x) (Bn.nv y))) ∧ Aside0 (Below w.heap.size w w'))
 case atStart => exact ⟨l0, l1, A0, c0, A1, c1, rfl, rfl, ⟨rfl⟩, C0, H0, C1, H1, hh, HB⟩
 case round =>
  clear C0 H0 C1 H1 hh HB
  obtain ⟨x, y, A, c, A', c', rfl, rfl, hk, Cx, Hx, Cy, Hy, hh, HB⟩ := hrel
  by_cases hy : y = []
  ·obtain rfl := hy
   have e : x = g := by
    obtain ⟨n0, -, -, -, e⟩ := hh.out
    rw [e]
    simp [Bn.nv, n0.2]
   have he := Aside0.mk e
   clear e
   go_wp2_with fail
   go_ret
   rw [← he.out]
   exact ⟨_, _, rfl, Cx.out, Hx.out, HB.out⟩
  ·have p0 : decide (0 < (y.length : Int)) = true := by
    have : 0 < y.length := List.length_pos_iff.2 hy
    exact decide_eq_true (by omega)
   have p1 : decide (0 < y.length) = true := decide_eq_true (List.length_pos_iff.2 hy)
   have hpos : 0 < Bn.nv y := by
    rcases Nat.eq_zero_or_pos (Bn.nv y) with h | h
    ·exact absurd ((Bn.nv_zero hh.out.2.1).1 h) hy
    ·exact h
   have hD := Aside0.mk (show lineageref03_DivMod.f 10000 x y = some (Bn.limbs (Bn.nv x / Bn.nv y), Bn.limbs (Bn.nv x % Bn.nv y)) from by
    obtain ⟨n0, n1, s0, s1, -⟩ := hh.out
    exact refDivMod_f n0.1 n1 (by omega) (by omega) hpos (by omega))
   have hp := Aside0.mk hpos
   clear hpos
   go_wp2_with fail
   refine (lineageref03_DivMod.calls 10000 A c x A' c' y _ _ _ Cx.out Hx.out Cy.out Hy.out hD.out).mono ?_
   rintro e wa1 ⟨v_, u_, rfl, hr_, hu_, hb_⟩
   have Cy_ := Aside0.mk (Kd.C_below Cy.out hb_)
   have HB_ := Aside0.mk (below_step HB.out hb_)
   clear HB Cy Cx hb_ hD
   obtain ⟨Aq, cq, rfl⟩ := Kd.V_slice hr_
   obtain ⟨Ar, cr, rfl⟩ := Kd.V_slice hu_
   have Cr := Aside0.mk (Kd.V_reads' hu_).2.2
   have Hr := Aside0.mk (show (Bn.limbs (Bn.nv x % Bn.nv y)).length ≤ cr from (Kd.V_reads' hu_).2.1)
   clear hr_ hu_
   go_wp2_with fail
   go_roundg (Bn.nv x % Bn.nv y)
   case measure =>
    rw [hk.out]
    exact Nat.mod_lt _ hp.out
   case rel =>
    refine ⟨y, Bn.limbs (Bn.nv x % Bn.nv y), A', c', Ar, cr, rfl, rfl, ⟨by rw [Bn.nv_limbs]⟩, Cy_, Hy, Cr, Hr, ⟨?_⟩, HB_⟩
    obtain ⟨n0, n1, s0, s1, e⟩ := hh.out
    have hml := Nat.mod_lt (Bn.nv x) hp.out
    refine ⟨n1, Bn.nrm_limbs _, s1, Nat.le_trans (limbs_le n1.1 (by omega)) s1, ?_⟩
    rw [e, Bn.nv_limbs, Nat.gcd_comm (Bn.nv y), ← Nat.gcd_rec, Nat.gcd_comm]
set_option maxHeartbeats 16000000 in
set_option maxRecDepth 100000 in
/-- Valid. -/
theorem refRatValid_calls (A0 : Option Addr) (c0 : Nat) (l0 : List Int) (A1 : Option Addr) (c1 : Nat) (l1 : List Int) (r : Bool) (w : World) (hr0 : Kd.C (Kd.int .u32) w A0 l0.length l0) (hc0 : l0.length ≤ c0) (hr1 : Kd.C (Kd.int .u32) w A1 l1.length l1) (hc1 : l1.length ≤ c1)  (L0 : Bn.Limbs l0) (L1 : Bn.Limbs l1) (hr : r = ratB l0 l1) :
  Calls Tryd.prog 47 #[.agg #[.slice A0 l0.length c0, .slice A1 l1.length c1]] w fun e w' => e = .returned (.bool r) ∧ Below w.heap.size w w' := by
 have C0 := Aside0.mk hr0
 have H0 := Aside0.mk hc0
 clear hr0 hc0
 have C1 := Aside0.mk hr1
 have H1 := Aside0.mk hc1
 clear hr1 hc1
 have HB := Aside0.mk (Below.refl w.heap.size w)
 obtain ⟨p0, hp0⟩ : ∃ p, p = validB l0 := ⟨_, rfl⟩
 obtain ⟨p1, hp1⟩ : ∃ p, p = validB l1 := ⟨_, rfl⟩
 have hP0 := Aside0.mk (show lineageref03_Valid.f l0 = some p0 from hp0 ▸ refValid_f l0)
 have hP1 := Aside0.mk (show lineageref03_Valid.f l1 = some p1 from hp1 ▸ refValid_f l1)
 have hR := Aside0.mk (show r = (p0 && p1 && decide (l1 ≠ []) && decide (Nat.gcd (Bn.nv l0) (Bn.nv l1) = 1)) from by rw [hr, hp0, hp1]; rfl)
 have hV0 := Aside0.mk (show p0 = true → Bn.Nrm l0 ∧ l0.length ≤ 128 from fun h => (validB_iff L0).1 (hp0 ▸ h))
 have hV1 := Aside0.mk (show p1 = true → Bn.Nrm l1 ∧ l1.length ≤ 128 from fun h => (validB_iff L1).1 (hp1 ▸ h))
 have hvv := Aside0.mk (show p0 = true → p1 = true → vv l0 = Bn.nv l0 ∧ vv l1 = Bn.nv l1 from fun h0 h1 => ⟨vv_valid (hp0 ▸ h0), vv_valid (hp1 ▸ h1)⟩)
 have hL0 := Aside0.mk L0
 have hL1 := Aside0.mk L1
 clear hp0 hp1 hr L0 L1
 go_enter Tryd.func47, Tryd.ntmps47
 go_wp2_with (first | ((with_reducible refine gate_dst (N := 1) rfl ?_); (try (refine gate_guard (by rfl) ?_; dsimp only)); refine box_event ?hg (N := 1) ?hd (.slice A0 l0.length c0) (.slice A1 l1.length c1) ?hr ?_; (case hd => rfl); (case hg => rfl); (case hr => first | (go_simp; done) | (go_simp; rfl)); intro bx wa1 hx_ hs_ hb_; skip; have Sx := Aside0.mk (Nat.le_trans (below_size HB.out) hs_); have Xx := Aside0.mk hx_; replace C0 := Aside0.mk (Kd.C_below C0.out hb_); replace C1 := Aside0.mk (Kd.C_below C1.out hb_); replace HB := Aside0.mk (below_step HB.out hb_); have qax := Bx.c0 Xx.out; have qbx := Bx.c1 Xx.out; clear hb_ hx_ hs_))
 refine (lineageref03_Valid.calls  A0 c0 l0 p0 wa1 C0.out H0.out hP0.out).mono ?_
 rintro e wa2 ⟨rfl, hd_⟩
 have hb_ := hd_.below
 replace C0 := Aside0.mk (Kd.C_below C0.out hb_)
 replace C1 := Aside0.mk (Kd.C_below C1.out hb_)
 clear qax qbx
 replace Xx := Aside0.mk (Bx.below Xx.out hb_)
 have qax := Bx.c0 Xx.out
 have qbx := Bx.c1 Xx.out
 replace HB := Aside0.mk (below_step HB.out hb_)
 clear hb_ hd_
 cases p0 with
 | false =>
  obtain rfl : r = false := by rw [hR.out]; simp
  go_wp2_with fail
  go_ret
  exact ⟨rfl, HB.out⟩
 | true =>
  go_wp2_with fail
  refine (lineageref03_Valid.calls  A1 c1 l1 p1 wa2 C1.out H1.out hP1.out).mono ?_
  rintro e wa3 ⟨rfl, hd_⟩
  have hb_ := hd_.below
  replace C0 := Aside0.mk (Kd.C_below C0.out hb_)
  replace C1 := Aside0.mk (Kd.C_below C1.out hb_)
  clear qax qbx
  replace Xx := Aside0.mk (Bx.below Xx.out hb_)
  have qax := Bx.c0 Xx.out
  have qbx := Bx.c1 Xx.out
  replace HB := Aside0.mk (below_step HB.out hb_)
  clear hb_ hd_
  cases p1 with
  | false =>
   obtain rfl : r = false := by rw [hR.out]; simp
   go_wp2_with fail
   go_ret
   exact ⟨rfl, HB.out⟩
  | true =>
   by_cases hz : l1 = []
   ·obtain rfl : r = false := by rw [hR.out]; simp [hz]
    obtain rfl := hz
    go_wp2_with fail
    go_ret
    exact ⟨rfl, HB.out⟩
   ·have hz0 : decide (0 < (l1.length : Int)) = true := by
     have : 0 < l1.length := List.length_pos_iff.2 hz
     exact decide_eq_true (by omega)
    have hz1 : decide (0 < l1.length) = true := decide_eq_true (List.length_pos_iff.2 hz)
    obtain ⟨g, hg⟩ : ∃ g, g = Bn.limbs (Nat.gcd (Bn.nv l0) (Bn.nv l1)) := ⟨_, rfl⟩
    obtain ⟨n0, s0⟩ := hV0.out (by trivial)
    obtain ⟨n1, s1⟩ := hV1.out (by trivial)
    obtain ⟨e0, e1⟩ := hvv.out (by trivial) (by trivial)
    have hG := Aside0.mk (show Bn.Nrm l0 ∧ Bn.Nrm l1 ∧ l0.length ≤ 128 ∧ l1.length ≤ 128 ∧ g = Bn.limbs (Nat.gcd (Bn.nv l0) (Bn.nv l1)) from ⟨n0, n1, s0, s1, hg⟩)
    obtain ⟨c, hc⟩ : ∃ c, c = cmpN (Nat.gcd (Bn.nv l0) (Bn.nv l1)) 1 := ⟨_, rfl⟩
    have hC := Aside0.mk (show lineageref03_Compare.f 200 g [1] = some c from by
      have hl := gcd_len n0 n1 s0 s1
      rw [← hg] at hl
      rw [refCompare_f (by rw [hg]; exact Bn.nrm_limbs _) nrm_one (by omega) (by omega), hc, hg, Bn.nv_limbs]
      rfl)
    have hr2 : r = decide (c = 0) := by
     rw [hR.out, hc]
     simp only [hz, ne_eq, not_false_eq_true, decide_true, Bool.true_and]
     unfold cmpN
     rcases Nat.lt_trichotomy (Nat.gcd (Bn.nv l0) (Bn.nv l1)) 1 with h | h | h
     ·rw [if_pos h, decide_eq_false (show ¬ Nat.gcd (Bn.nv l0) (Bn.nv l1) = 1 by omega)]; rfl
     ·rw [if_neg (by omega), if_neg (by omega), decide_eq_true h]; rfl
     ·rw [if_neg (by omega), if_pos h, decide_eq_false (show ¬ Nat.gcd (Bn.nv l0) (Bn.nv l1) = 1 by omega)]; rfl
    have hR2 := Aside0.mk hr2
    clear n0 s0 n1 s1 e0 e1 hg hR hV0 hV1 hvv hc hr2
    go_wp2_with fail
    refine (refGCD_calls A0 c0 l0 A1 c1 l1 g wa3 C0.out H0.out C1.out H1.out hG.out).mono ?_
    rintro e wa4 ⟨Ag, cg, rfl, hCg_, hHg_, hb_⟩
    replace C0 := Aside0.mk (Kd.C_below C0.out hb_)
    replace C1 := Aside0.mk (Kd.C_below C1.out hb_)
    clear qax qbx
    replace Xx := Aside0.mk (Bx.below Xx.out hb_)
    have qax := Bx.c0 Xx.out
    have qbx := Bx.c1 Xx.out
    replace HB := Aside0.mk (below_step HB.out hb_)
    have Cg := Aside0.mk hCg_
    have Hg := Aside0.mk hHg_
    clear hCg_ hHg_
    clear hb_
    go_wp2_with (first | ((with_reducible refine gate_dst (N := 23) rfl ?_); (try (refine gate_guard (by rfl) ?_; dsimp only)); refine lit_event ?hg (N := 23) ?hd [1] 1 rfl (by decide) ?hr ?_; (case hd => rfl); (case hg => rfl); (case hr => first | (go_simp; done) | (go_simp; rfl)); intro Ao wa5 hc_ hb_; replace C0 := Aside0.mk (Kd.C_below C0.out hb_); replace C1 := Aside0.mk (Kd.C_below C1.out hb_); replace Cg := Aside0.mk (Kd.C_below Cg.out hb_); clear qax qbx; replace Xx := Aside0.mk (Bx.below Xx.out hb_); have qax := Bx.c0 Xx.out; have qbx := Bx.c1 Xx.out; replace HB := Aside0.mk (below_step HB.out hb_); have Co := Aside0.mk hc_; have Ho := Aside0.mk (Nat.le_refl 1); clear hc_ hb_))
    refine (lineageref03_Compare.calls 200 Ag cg g Ao 1 [1] c wa5 Cg.out Hg.out Co.out Ho.out hC.out).mono ?_
    rintro e wa6 ⟨rfl, hd_⟩
    have hb_ := hd_.below
    replace C0 := Aside0.mk (Kd.C_below C0.out hb_)
    replace C1 := Aside0.mk (Kd.C_below C1.out hb_)
    replace Cg := Aside0.mk (Kd.C_below Cg.out hb_)
    replace Co := Aside0.mk (Kd.C_below Co.out hb_)
    clear qax qbx
    replace Xx := Aside0.mk (Bx.below Xx.out hb_)
    have qax := Bx.c0 Xx.out
    have qbx := Bx.c1 Xx.out
    replace HB := Aside0.mk (below_step HB.out hb_)
    clear hb_ hd_
    by_cases hc : c = 0
    ·obtain rfl : r = true := by rw [hR2.out]; exact decide_eq_true hc
     obtain rfl := hc
     go_wp2_with fail
     go_ret
     exact ⟨rfl, HB.out⟩
    ·obtain rfl : r = false := by rw [hR2.out]; exact decide_eq_false hc
     have hc0 : (c == 0) = false := beq_eq_false_iff_ne.2 hc
     go_wp2_with fail
     go_ret
     exact ⟨rfl, HB.out⟩

theorem nilC (w : World) : Kd.C (Kd.int .u32) w none 0 ([] : List Int) := Kd.C_of_reads (d := (0 : Int)) (h1 := fun _ => rfl) ⟨rfl, by omega, fun h => absurd h (by omega)⟩
theorem limbs_1 : Bn.limbs 1 = [1] := nrm_one.2
/-- What New answers. -/
def newB (a b : List Int) : (List Int × List Int) × Int := if validB a = true ∧ validB b = true ∧ b ≠ [] then ((Bn.limbs (Bn.nv a / Nat.gcd (Bn.nv a) (Bn.nv b)), Bn.limbs (Bn.nv b / Nat.gcd (Bn.nv a) (Bn.nv b))), 0) else (([], []), 1)
theorem gcd_ne {a b : List Int} (hb : Bn.Nrm b) (h : b ≠ []) : 0 < Nat.gcd (Bn.nv a) (Bn.nv b) := by
 rcases Nat.eq_zero_or_pos (Nat.gcd (Bn.nv a) (Bn.nv b)) with h2 | h2
 ·exact absurd ((Bn.nv_zero hb).1 (Nat.eq_zero_of_gcd_eq_zero_right h2)) h
 ·exact h2
/-- the divisions by the greatest common divisor -/
theorem new_facts {a b n d : List Int} (na : Bn.Nrm a) (nb : Bn.Nrm b) (la : a.length ≤ 128) (lb : b.length ≤ 128) (h : b ≠ []) (hn : n = Bn.limbs (Bn.nv a / Nat.gcd (Bn.nv a) (Bn.nv b))) (hd : d = Bn.limbs (Bn.nv b / Nat.gcd (Bn.nv a) (Bn.nv b))) :
  ∃ g r s, g = Bn.limbs (Nat.gcd (Bn.nv a) (Bn.nv b)) ∧ bignat_GCD.f 12200 a b = some g ∧ bignat_DivMod.f 4001 a g = some (n, r, 0) ∧ bignat_DivMod.f 4001 b g = some (d, s, 0) ∧ lineageref03_DivMod.f 10000 a g = some (n, r) ∧ lineageref03_DivMod.f 10000 b g = some (d, s) := by
 have va := (validB_iff na.1).2 ⟨na, la⟩
 have vb := (validB_iff nb.1).2 ⟨nb, lb⟩
 have hg := gcd_ne (a := a) nb h
 have lg := gcd_len na nb la lb
 have ng := Bn.nrm_limbs (Nat.gcd (Bn.nv a) (Bn.nv b))
 have vg := (validB_iff ng.1).2 ⟨ng, lg⟩
 have g0 : Bn.limbs (Nat.gcd (Bn.nv a) (Bn.nv b)) ≠ [] := fun h2 => by have := Bn.limbs_nil.1 h2; omega
 have eg : Bn.nv (Bn.limbs (Nat.gcd (Bn.nv a) (Bn.nv b))) = Nat.gcd (Bn.nv a) (Bn.nv b) := Bn.nv_limbs _
 refine ⟨_, Bn.limbs (Bn.nv a % Nat.gcd (Bn.nv a) (Bn.nv b)), Bn.limbs (Bn.nv b % Nat.gcd (Bn.nv a) (Bn.nv b)), rfl, ?_, ?_, ?_, ?_, ?_⟩
 ·rw [GCD_f na.1 nb.1 (Nat.le_refl _), vv_valid va, vv_valid vb]
 ·rw [DivMod_f na.1 ng.1 (Nat.le_refl _)]
  unfold divB
  rw [if_pos ⟨va, vg, g0⟩, eg, hn]
 ·rw [DivMod_f nb.1 ng.1 (Nat.le_refl _)]
  unfold divB
  rw [if_pos ⟨vb, vg, g0⟩, eg, hd]
 ·rw [refDivMod_f na.1 ng (by omega) (by omega) (by omega) (by omega), eg, hn]
 ·rw [refDivMod_f nb.1 ng (by omega) (by omega) (by omega) (by omega), eg, hd]
set_option maxHeartbeats 16000000 in
set_option maxRecDepth 100000 in
theorem whole_calls  (n : Int) (x o : List Int) (w : World)   (hx : bignat_FromUint.f 10 n = some x) (ho : bignat_FromUint.f 10 1 = some o) :
  Calls Tryd.prog 101 #[.int .u64 n] w fun e_ w' => Rat1 x o w e_ w' := by
 have HB := Aside0.mk (Below.refl w.heap.size w)
 have hX := Aside0.mk hx
 have hO := Aside0.mk ho
 clear hx ho
 go_enter Tryd.func101, Tryd.ntmps101
 go_wp2_with (first | ((with_reducible refine gate_dst (N := 2) rfl ?_); (try (refine gate_guard (by rfl) ?_; dsimp only)); refine box_event ?hg (N := 2) ?hd (.slice none 0 0) (.slice none 0 0) ?hr ?_; (case hd => rfl); (case hg => rfl); (case hr => first | (go_simp; done) | (go_simp; rfl)); intro br wa1 hx_ hs_ hb_; skip; have Sr := Aside0.mk (Nat.le_trans (below_size HB.out) hs_); have Xr := Aside0.mk hx_; replace HB := Aside0.mk (below_step HB.out hb_); skip; clear hb_ hx_ hs_))
 refine (bignat_FromUint.calls 10 n x wa1 hX.out).mono ?_
 rintro e wa2 ⟨v_, rfl, hr_, hb_⟩
 replace Xr := Aside0.mk (Bx.below Xr.out hb_)
 replace HB := Aside0.mk (below_step HB.out hb_)
 obtain ⟨Ax, cx, rfl⟩ := Kd.R_slice hr_
 have Cx := Aside0.mk (Kd.R_reads' hr_).2.2
 have Hx := Aside0.mk (show x.length ≤ cx from (Kd.R_reads' hr_).2.1)
 clear hr_ hb_
 go_wp2_with fail
 refine (bignat_FromUint.calls 10 1 o wa2 hO.out).mono ?_
 rintro e wa3 ⟨v_, rfl, hr_, hb_⟩
 replace Cx := Aside0.mk (Kd.C_below Cx.out hb_)
 replace Xr := Aside0.mk (Bx.below Xr.out hb_)
 replace HB := Aside0.mk (below_step HB.out hb_)
 obtain ⟨Ao, co, rfl⟩ := Kd.R_slice hr_
 have Co := Aside0.mk (Kd.R_reads' hr_).2.2
 have Ho := Aside0.mk (show o.length ≤ co from (Kd.R_reads' hr_).2.1)
 clear hr_ hb_
 have qar := Bx.c0 Xr.out
 have qbr := Bx.c1 Xr.out
 have qcr := Bx.f0 Xr.out
 have qdr := Bx.f1 Xr.out
 go_wp2_with fail
 refine bodyPost_ret (results_cell48 rfl rfl (Bx.store Xr.out (.slice Ax x.length cx) (.slice Ao o.length co))) rfl ?_
 exact Rat1.intro ⟨_, _, _, _, rfl, C_store Xr.out Cx.out _ _, Hx.out, C_store Xr.out Co.out _ _, Ho.out, below_set (below_set HB.out Sr.out) Sr.out⟩
set_option maxHeartbeats 16000000 in
set_option maxRecDepth 100000 in
theorem ratZero_calls  (x o : List Int) (w : World)   (hxo : x = Bn.limbs 0 ∧ o = Bn.limbs 1) :
  Calls Tryd.prog 57 #[] w fun e_ w' => Rat1 x o w e_ w' := by
 have HB := Aside0.mk (Below.refl w.heap.size w)
 have hO := Aside0.mk hxo
 clear hxo
 go_enter Tryd.func57, Tryd.ntmps57
 go_wp2_with (first | ((with_reducible refine gate_dst (N := 0) rfl ?_); (try (refine gate_guard (by rfl) ?_; dsimp only)); refine box_event ?hg (N := 0) ?hd (.slice none 0 0) (.slice none 0 0) ?hr ?_; (case hd => rfl); (case hg => rfl); (case hr => first | (go_simp; done) | (go_simp; rfl)); intro br wa1 hx_ hs_ hb_; skip; have Sr := Aside0.mk (Nat.le_trans (below_size HB.out) hs_); have Xr := Aside0.mk hx_; replace HB := Aside0.mk (below_step HB.out hb_); skip; clear hb_ hx_ hs_))
 refine (whole_calls 0 x o wa1 (by rw [hO.out.1]; exact FromUint_f (by decide) (by decide) (by decide)) (by rw [hO.out.2]; exact FromUint_f (by decide) (by decide) (by decide))).mono ?_
 rintro e wa2 ⟨Ax, cx, Ao, co, rfl, hCx_, hHx_, hCo_, hHo_, hb_⟩
 replace Xr := Aside0.mk (Bx.below Xr.out hb_)
 replace HB := Aside0.mk (below_step HB.out hb_)
 have Cx := Aside0.mk hCx_
 have Hx := Aside0.mk hHx_
 clear hCx_ hHx_
 have Co := Aside0.mk hCo_
 have Ho := Aside0.mk hHo_
 clear hCo_ hHo_
 clear hb_
 have qar := Bx.c0 Xr.out
 have qbr := Bx.c1 Xr.out
 have qcr := Bx.f0 Xr.out
 have qdr := Bx.f1 Xr.out
 go_wp2_with fail
 refine bodyPost_ret (results_cell48 rfl rfl (Bx.store Xr.out (.slice Ax x.length cx) (.slice Ao o.length co))) rfl ?_
 exact Rat1.intro ⟨_, _, _, _, rfl, C_store Xr.out Cx.out _ _, Hx.out, C_store Xr.out Co.out _ _, Ho.out, below_set (below_set HB.out Sr.out) Sr.out⟩
set_option maxHeartbeats 16000000 in
set_option maxRecDepth 100000 in
theorem ratOne_calls  (x o : List Int) (w : World)   (hxo : x = Bn.limbs 1 ∧ o = Bn.limbs 1) :
  Calls Tryd.prog 59 #[] w fun e_ w' => Rat1 x o w e_ w' := by
 have HB := Aside0.mk (Below.refl w.heap.size w)
 have hO := Aside0.mk hxo
 clear hxo
 go_enter Tryd.func59, Tryd.ntmps59
 go_wp2_with (first | ((with_reducible refine gate_dst (N := 0) rfl ?_); (try (refine gate_guard (by rfl) ?_; dsimp only)); refine box_event ?hg (N := 0) ?hd (.slice none 0 0) (.slice none 0 0) ?hr ?_; (case hd => rfl); (case hg => rfl); (case hr => first | (go_simp; done) | (go_simp; rfl)); intro br wa1 hx_ hs_ hb_; skip; have Sr := Aside0.mk (Nat.le_trans (below_size HB.out) hs_); have Xr := Aside0.mk hx_; replace HB := Aside0.mk (below_step HB.out hb_); skip; clear hb_ hx_ hs_))
 refine (whole_calls 1 x o wa1 (by rw [hO.out.1]; exact FromUint_f (by decide) (by decide) (by decide)) (by rw [hO.out.2]; exact FromUint_f (by decide) (by decide) (by decide))).mono ?_
 rintro e wa2 ⟨Ax, cx, Ao, co, rfl, hCx_, hHx_, hCo_, hHo_, hb_⟩
 replace Xr := Aside0.mk (Bx.below Xr.out hb_)
 replace HB := Aside0.mk (below_step HB.out hb_)
 have Cx := Aside0.mk hCx_
 have Hx := Aside0.mk hHx_
 clear hCx_ hHx_
 have Co := Aside0.mk hCo_
 have Ho := Aside0.mk hHo_
 clear hCo_ hHo_
 clear hb_
 have qar := Bx.c0 Xr.out
 have qbr := Bx.c1 Xr.out
 have qcr := Bx.f0 Xr.out
 have qdr := Bx.f1 Xr.out
 go_wp2_with fail
 refine bodyPost_ret (results_cell48 rfl rfl (Bx.store Xr.out (.slice Ax x.length cx) (.slice Ao o.length co))) rfl ?_
 exact Rat1.intro ⟨_, _, _, _, rfl, C_store Xr.out Cx.out _ _, Hx.out, C_store Xr.out Co.out _ _, Ho.out, below_set (below_set HB.out Sr.out) Sr.out⟩
set_option maxHeartbeats 16000000 in
set_option maxRecDepth 100000 in
theorem refZero_calls   (w : World)    :
  Calls Tryd.prog 58 #[] w fun e_ w' => Rat1 ([] : List Int) [(1 : Int)] w e_ w' := by
 have HB := Aside0.mk (Below.refl w.heap.size w)
 go_enter Tryd.func58, Tryd.ntmps58
 go_wp2_with (first | ((with_reducible refine gate_dst (N := 0) rfl ?_); (try (refine gate_guard (by rfl) ?_; dsimp only)); refine box_event ?hg (N := 0) ?hd (.slice none 0 0) (.slice none 0 0) ?hr ?_; (case hd => rfl); (case hg => rfl); (case hr => first | (go_simp; done) | (go_simp; rfl)); intro br wa1 hx_ hs_ hb_; skip; have Sr := Aside0.mk (Nat.le_trans (below_size HB.out) hs_); have Xr := Aside0.mk hx_; replace HB := Aside0.mk (below_step HB.out hb_); have qar := Bx.c0 Xr.out; have qbr := Bx.c1 Xr.out; have qcr := Bx.f0 Xr.out; have qdr := Bx.f1 Xr.out; clear hb_ hx_ hs_) | ((with_reducible refine gate_dst (N := 1) rfl ?_); (try (refine gate_guard (by rfl) ?_; dsimp only)); refine lit_event ?hg (N := 1) ?hd [1] 1 rfl (by decide) ?hr ?_; (case hd => rfl); (case hg => rfl); (case hr => first | (go_simp; done) | (go_simp; rfl)); intro Ao wa2 hc_ hb_; clear qar qbr; clear qcr qdr; replace Xr := Aside0.mk (Bx.below Xr.out hb_); have qar := Bx.c0 Xr.out; have qbr := Bx.c1 Xr.out; have qcr := Bx.f0 Xr.out; have qdr := Bx.f1 Xr.out; replace HB := Aside0.mk (below_step HB.out hb_); have Co := Aside0.mk hc_; have Ho := Aside0.mk (Nat.le_refl 1); clear hc_ hb_))
 have Cn := Aside0.mk (nilC wa2)
 have Hn := Aside0.mk (Nat.le_refl 0)
 go_wp2_with fail
 refine bodyPost_ret (results_cell48 rfl rfl (Bx.store Xr.out (.slice none 0 0) (.slice Ao 1 1))) rfl ?_
 exact Rat1.intro ⟨_, _, _, _, rfl, C_store Xr.out Cn.out _ _, Hn.out, C_store Xr.out Co.out _ _, Ho.out, below_set (below_set HB.out Sr.out) Sr.out⟩
set_option maxHeartbeats 16000000 in
set_option maxRecDepth 100000 in
theorem refOne_calls   (w : World)    :
  Calls Tryd.prog 60 #[] w fun e_ w' => Rat1 [(1 : Int)] [(1 : Int)] w e_ w' := by
 have HB := Aside0.mk (Below.refl w.heap.size w)
 go_enter Tryd.func60, Tryd.ntmps60
 go_wp2_with (first | ((with_reducible refine gate_dst (N := 0) rfl ?_); (try (refine gate_guard (by rfl) ?_; dsimp only)); refine box_event ?hg (N := 0) ?hd (.slice none 0 0) (.slice none 0 0) ?hr ?_; (case hd => rfl); (case hg => rfl); (case hr => first | (go_simp; done) | (go_simp; rfl)); intro br wa1 hx_ hs_ hb_; skip; have Sr := Aside0.mk (Nat.le_trans (below_size HB.out) hs_); have Xr := Aside0.mk hx_; replace HB := Aside0.mk (below_step HB.out hb_); have qar := Bx.c0 Xr.out; have qbr := Bx.c1 Xr.out; have qcr := Bx.f0 Xr.out; have qdr := Bx.f1 Xr.out; clear hb_ hx_ hs_) | ((with_reducible refine gate_dst (N := 1) rfl ?_); (try (refine gate_guard (by rfl) ?_; dsimp only)); refine lit_event ?hg (N := 1) ?hd [1] 1 rfl (by decide) ?hr ?_; (case hd => rfl); (case hg => rfl); (case hr => first | (go_simp; done) | (go_simp; rfl)); intro Ax wa2 hc_ hb_; clear qar qbr; clear qcr qdr; replace Xr := Aside0.mk (Bx.below Xr.out hb_); have qar := Bx.c0 Xr.out; have qbr := Bx.c1 Xr.out; have qcr := Bx.f0 Xr.out; have qdr := Bx.f1 Xr.out; replace HB := Aside0.mk (below_step HB.out hb_); have Cx := Aside0.mk hc_; have Hx := Aside0.mk (Nat.le_refl 1); clear hc_ hb_) | ((with_reducible refine gate_dst (N := 2) rfl ?_); (try (refine gate_guard (by rfl) ?_; dsimp only)); refine lit_event ?hg (N := 2) ?hd [1] 1 rfl (by decide) ?hr ?_; (case hd => rfl); (case hg => rfl); (case hr => first | (go_simp; done) | (go_simp; rfl)); intro Ao wa3 hc_ hb_; replace Cx := Aside0.mk (Kd.C_below Cx.out hb_); clear qar qbr; clear qcr qdr; replace Xr := Aside0.mk (Bx.below Xr.out hb_); have qar := Bx.c0 Xr.out; have qbr := Bx.c1 Xr.out; have qcr := Bx.f0 Xr.out; have qdr := Bx.f1 Xr.out; replace HB := Aside0.mk (below_step HB.out hb_); have Co := Aside0.mk hc_; have Ho := Aside0.mk (Nat.le_refl 1); clear hc_ hb_))
 refine bodyPost_ret (results_cell48 rfl rfl (Bx.store Xr.out (.slice Ax 1 1) (.slice Ao 1 1))) rfl ?_
 exact Rat1.intro ⟨_, _, _, _, rfl, C_store Xr.out Cx.out _ _, Hx.out, C_store Xr.out Co.out _ _, Ho.out, below_set (below_set HB.out Sr.out) Sr.out⟩
set_option maxHeartbeats 16000000 in
set_option maxRecDepth 100000 in
theorem Reduce_calls (A0 : Option Addr) (c0 : Nat) (l0 : List Int) (A1 : Option Addr) (c1 : Nat) (l1 : List Int) (n d : List Int) (w : World) (hr0 : Kd.C (Kd.int .u32) w A0 l0.length l0) (hc0 : l0.length ≤ c0) (hr1 : Kd.C (Kd.int .u32) w A1 l1.length l1) (hc1 : l1.length ≤ c1)  (h : Bn.Nrm l0 ∧ Bn.Nrm l1 ∧ l0.length ≤ 128 ∧ l1.length ≤ 128 ∧ l1 ≠ [] ∧ n = Bn.limbs (Bn.nv l0 / Nat.gcd (Bn.nv l0) (Bn.nv l1)) ∧ d = Bn.limbs (Bn.nv l1 / Nat.gcd (Bn.nv l0) (Bn.nv l1))) :
  Calls Tryd.prog 99 #[.slice A0 l0.length c0, .slice A1 l1.length c1] w fun e_ w' => Rat1 n d w e_ w' := by
 have C0 := Aside0.mk hr0
 have H0 := Aside0.mk hc0
 clear hr0 hc0
 have C1 := Aside0.mk hr1
 have H1 := Aside0.mk hc1
 clear hr1 hc1
 have HB := Aside0.mk (Below.refl w.heap.size w)
 obtain ⟨na, nb, la, lb, hz, hn, hd⟩ := h
 obtain ⟨g, r, s, g1, -, -, -, g2, g3⟩ := new_facts na nb la lb hz hn hd
 have hG := Aside0.mk (show Bn.Nrm l0 ∧ Bn.Nrm l1 ∧ l0.length ≤ 128 ∧ l1.length ≤ 128 ∧ g = Bn.limbs (Nat.gcd (Bn.nv l0) (Bn.nv l1)) from ⟨na, nb, la, lb, g1⟩)
 have hD := Aside0.mk g2
 have hE := Aside0.mk g3
 clear na nb la lb hz hn hd g1 g2 g3
 go_enter Tryd.func99, Tryd.ntmps99
 go_wp2_with (first | ((with_reducible refine gate_dst (N := 4) rfl ?_); (try (refine gate_guard (by rfl) ?_; dsimp only)); refine box_event ?hg (N := 4) ?hd (.slice none 0 0) (.slice none 0 0) ?hr ?_; (case hd => rfl); (case hg => rfl); (case hr => first | (go_simp; done) | (go_simp; rfl)); intro bz wa1 hx_ hs_ hb_; skip; have Sz := Aside0.mk (Nat.le_trans (below_size HB.out) hs_); have Xz := Aside0.mk hx_; replace C0 := Aside0.mk (Kd.C_below C0.out hb_); replace C1 := Aside0.mk (Kd.C_below C1.out hb_); replace HB := Aside0.mk (below_step HB.out hb_); skip; clear hb_ hx_ hs_))
 refine (refGCD_calls A0 c0 l0 A1 c1 l1 g wa1 C0.out H0.out C1.out H1.out hG.out).mono ?_
 rintro e wa2 ⟨Ag, cg, rfl, hCg_, hHg_, hb_⟩
 replace C0 := Aside0.mk (Kd.C_below C0.out hb_)
 replace C1 := Aside0.mk (Kd.C_below C1.out hb_)
 replace Xz := Aside0.mk (Bx.below Xz.out hb_)
 replace HB := Aside0.mk (below_step HB.out hb_)
 have Cg := Aside0.mk hCg_
 have Hg := Aside0.mk hHg_
 clear hCg_ hHg_
 clear hb_
 go_wp2_with fail
 refine (lineageref03_DivMod.calls 10000 A0 c0 l0 Ag cg g n r wa2 C0.out H0.out Cg.out Hg.out hD.out).mono ?_
 rintro e wa3 ⟨v_, u_, rfl, hr_, hu_, hb_⟩
 replace C0 := Aside0.mk (Kd.C_below C0.out hb_)
 replace C1 := Aside0.mk (Kd.C_below C1.out hb_)
 replace Cg := Aside0.mk (Kd.C_below Cg.out hb_)
 replace Xz := Aside0.mk (Bx.below Xz.out hb_)
 replace HB := Aside0.mk (below_step HB.out hb_)
 obtain ⟨Aq, cq, rfl⟩ := Kd.V_slice hr_
 have Cq := Aside0.mk (Kd.V_reads' hr_).2.2
 have Hq := Aside0.mk (show n.length ≤ cq from (Kd.V_reads' hr_).2.1)
 obtain ⟨Ar, cr, rfl⟩ := Kd.V_slice hu_
 have Cr := Aside0.mk (Kd.V_reads' hu_).2.2
 have Hr := Aside0.mk (show r.length ≤ cr from (Kd.V_reads' hu_).2.1)
 clear hr_ hu_ hb_
 go_wp2_with fail
 refine (lineageref03_DivMod.calls 10000 A1 c1 l1 Ag cg g d s wa3 C1.out H1.out Cg.out Hg.out hE.out).mono ?_
 rintro e wa4 ⟨v_, u_, rfl, hr_, hu_, hb_⟩
 replace C0 := Aside0.mk (Kd.C_below C0.out hb_)
 replace C1 := Aside0.mk (Kd.C_below C1.out hb_)
 replace Cg := Aside0.mk (Kd.C_below Cg.out hb_)
 replace Cq := Aside0.mk (Kd.C_below Cq.out hb_)
 replace Cr := Aside0.mk (Kd.C_below Cr.out hb_)
 replace Xz := Aside0.mk (Bx.below Xz.out hb_)
 replace HB := Aside0.mk (below_step HB.out hb_)
 obtain ⟨Ae, ce, rfl⟩ := Kd.V_slice hr_
 have Ce := Aside0.mk (Kd.V_reads' hr_).2.2
 have He := Aside0.mk (show d.length ≤ ce from (Kd.V_reads' hr_).2.1)
 obtain ⟨As, cs, rfl⟩ := Kd.V_slice hu_
 have Cs := Aside0.mk (Kd.V_reads' hu_).2.2
 have Hs := Aside0.mk (show s.length ≤ cs from (Kd.V_reads' hu_).2.1)
 clear hr_ hu_ hb_
 have qaz := Bx.c0 Xz.out
 have qbz := Bx.c1 Xz.out
 have qcz := Bx.f0 Xz.out
 have qdz := Bx.f1 Xz.out
 go_wp2_with fail
 refine bodyPost_ret (results_cell48 rfl rfl (Bx.store Xz.out (.slice Aq n.length cq) (.slice Ae d.length ce))) rfl ?_
 exact Rat1.intro ⟨_, _, _, _, rfl, C_store Xz.out Cq.out _ _, Hq.out, C_store Xz.out Ce.out _ _, He.out, below_set (below_set HB.out Sz.out) Sz.out⟩
set_option maxHeartbeats 16000000 in
set_option maxRecDepth 100000 in
/-- New. -/
theorem ratNew_calls (A0 : Option Addr) (c0 : Nat) (l0 : List Int) (A1 : Option Addr) (c1 : Nat) (l1 : List Int) (n d : List Int) (ec : Int) (w : World) (hr0 : Kd.C (Kd.int .u32) w A0 l0.length l0) (hc0 : l0.length ≤ c0) (hr1 : Kd.C (Kd.int .u32) w A1 l1.length l1) (hc1 : l1.length ≤ c1)  (L0 : Bn.Limbs l0) (L1 : Bn.Limbs l1) (h : newB l0 l1 = ((n, d), ec)) :
  Calls Tryd.prog 53 #[.slice A0 l0.length c0, .slice A1 l1.length c1] w fun e_ w' => Rat2 n d ec w e_ w' := by
 have C0 := Aside0.mk hr0
 have H0 := Aside0.mk hc0
 clear hr0 hc0
 have C1 := Aside0.mk hr1
 have H1 := Aside0.mk hc1
 clear hr1 hc1
 have HB := Aside0.mk (Below.refl w.heap.size w)
 obtain ⟨p0, hp0⟩ : ∃ p, p = validB l0 := ⟨_, rfl⟩
 obtain ⟨p1, hp1⟩ : ∃ p, p = validB l1 := ⟨_, rfl⟩
 have hP0 := Aside0.mk (show bignat_Valid.f l0 = some p0 from hp0 ▸ Valid_f l0)
 have hP1 := Aside0.mk (show bignat_Valid.f l1 = some p1 from hp1 ▸ Valid_f l1)
 have hBad := Aside0.mk (show ¬ (p0 = true ∧ p1 = true ∧ l1 ≠ []) → n = [] ∧ d = [] ∧ ec = 1 from fun hn => by
   unfold newB at h
   rw [hp0, hp1] at hn
   rw [if_neg hn] at h
   injection h with h1 h2
   injection h1 with h1 h3
   exact ⟨h1.symm, h3.symm, h2.symm⟩)
 have hGood := Aside0.mk (show p0 = true → p1 = true → l1 ≠ [] → ec = 0 ∧ Bn.Nrm l0 ∧ Bn.Nrm l1 ∧ l0.length ≤ 128 ∧ l1.length ≤ 128 ∧ l1 ≠ [] ∧ n = Bn.limbs (Bn.nv l0 / Nat.gcd (Bn.nv l0) (Bn.nv l1)) ∧ d = Bn.limbs (Bn.nv l1 / Nat.gcd (Bn.nv l0) (Bn.nv l1)) from fun h0 h1 h2 => by
   obtain ⟨n0, s0⟩ := (validB_iff L0).1 (hp0 ▸ h0)
   obtain ⟨n1, s1⟩ := (validB_iff L1).1 (hp1 ▸ h1)
   unfold newB at h
   rw [hp0] at h0
   rw [hp1] at h1
   rw [if_pos ⟨h0, h1, h2⟩] at h
   injection h with h3 h4
   injection h3 with h3 h5
   exact ⟨h4.symm, n0, n1, s0, s1, h2, h3.symm, h5.symm⟩)
 clear hp0 hp1 h L0 L1
 go_enter Tryd.func53, Tryd.ntmps53
 go_wp2_with (first | ((with_reducible refine gate_dst (N := 4) rfl ?_); (try (refine gate_guard (by rfl) ?_; dsimp only)); refine box_event ?hg (N := 4) ?hd (.slice none 0 0) (.slice none 0 0) ?hr ?_; (case hd => rfl); (case hg => rfl); (case hr => first | (go_simp; done) | (go_simp; rfl)); intro bz wa1 hx_ hs_ hb_; skip; have Sz := Aside0.mk (Nat.le_trans (below_size HB.out) hs_); have Xz := Aside0.mk hx_; replace C0 := Aside0.mk (Kd.C_below C0.out hb_); replace C1 := Aside0.mk (Kd.C_below C1.out hb_); replace HB := Aside0.mk (below_step HB.out hb_); skip; clear hb_ hx_ hs_))
 refine (bignat_Valid.calls  A0 c0 l0 p0 wa1 C0.out H0.out hP0.out).mono ?_
 rintro e wa2 ⟨rfl, hd_⟩
 have hb_ := hd_.below
 replace C0 := Aside0.mk (Kd.C_below C0.out hb_)
 replace C1 := Aside0.mk (Kd.C_below C1.out hb_)
 replace Xz := Aside0.mk (Bx.below Xz.out hb_)
 replace HB := Aside0.mk (below_step HB.out hb_)
 clear hb_ hd_
 cases p0 with
 | false =>
  obtain ⟨rfl, rfl, rfl⟩ := hBad.out (by simp)
  have Cn := Aside0.mk (nilC wa2)
  have Hn := Aside0.mk (Nat.le_refl 0)
  have qaz := Bx.c0 Xz.out
  have qbz := Bx.c1 Xz.out
  have qcz := Bx.f0 Xz.out
  have qdz := Bx.f1 Xz.out
  go_wp2_with fail
  refine bodyPost_ret (results_cell48t rfl rfl (Bx.store Xz.out (.slice none 0 0) (.slice none 0 0))) rfl ?_
  exact Rat2.intro ⟨_, _, _, _, rfl, C_store Xz.out Cn.out _ _, Hn.out, C_store Xz.out Cn.out _ _, Hn.out, below_set (below_set HB.out Sz.out) Sz.out⟩
 | true =>
  go_wp2_with fail
  refine (bignat_Valid.calls  A1 c1 l1 p1 wa2 C1.out H1.out hP1.out).mono ?_
  rintro e wa3 ⟨rfl, hd_⟩
  have hb_ := hd_.below
  replace C0 := Aside0.mk (Kd.C_below C0.out hb_)
  replace C1 := Aside0.mk (Kd.C_below C1.out hb_)
  replace Xz := Aside0.mk (Bx.below Xz.out hb_)
  replace HB := Aside0.mk (below_step HB.out hb_)
  clear hb_ hd_
  cases p1 with
  | false =>
   obtain ⟨rfl, rfl, rfl⟩ := hBad.out (by simp)
   have Cn := Aside0.mk (nilC wa3)
   have Hn := Aside0.mk (Nat.le_refl 0)
   have qaz := Bx.c0 Xz.out
   have qbz := Bx.c1 Xz.out
   have qcz := Bx.f0 Xz.out
   have qdz := Bx.f1 Xz.out
   go_wp2_with fail
   refine bodyPost_ret (results_cell48t rfl rfl (Bx.store Xz.out (.slice none 0 0) (.slice none 0 0))) rfl ?_
   exact Rat2.intro ⟨_, _, _, _, rfl, C_store Xz.out Cn.out _ _, Hn.out, C_store Xz.out Cn.out _ _, Hn.out, below_set (below_set HB.out Sz.out) Sz.out⟩
  | true =>
   by_cases hz : l1 = []
   ·obtain ⟨rfl, rfl, rfl⟩ := hBad.out (by simp [hz])
    obtain rfl := hz
    have Cn := Aside0.mk (nilC wa3)
    have Hn := Aside0.mk (Nat.le_refl 0)
    have qaz := Bx.c0 Xz.out
    have qbz := Bx.c1 Xz.out
    have qcz := Bx.f0 Xz.out
    have qdz := Bx.f1 Xz.out
    go_wp2_with fail
    refine bodyPost_ret (results_cell48t rfl rfl (Bx.store Xz.out (.slice none 0 0) (.slice none 0 0))) rfl ?_
    exact Rat2.intro ⟨_, _, _, _, rfl, C_store Xz.out Cn.out _ _, Hn.out, C_store Xz.out Cn.out _ _, Hn.out, below_set (below_set HB.out Sz.out) Sz.out⟩
   ·obtain ⟨rfl, hgood⟩ := hGood.out (by trivial) (by trivial) hz
    have hz1 : ((l1.length : Int) == 0) = false := by
     have : 0 < l1.length := List.length_pos_iff.2 hz
     rw [beq_eq_false_iff_ne]
     omega
    have hh := Aside0.mk hgood
    clear hgood hGood hBad
    obtain ⟨na, nb, la, lb, -, hn, hd⟩ := hh.out
    obtain ⟨g, r, s, -, g1, g2, g3, -, -⟩ := new_facts na nb la lb hz hn hd
    have hG := Aside0.mk g1
    have hD := Aside0.mk g2
    have hE := Aside0.mk g3
    clear na nb la lb hn hd g1 g2 g3 hh
    go_wp2_with fail
    refine (bignat_GCD.calls 12200 A0 c0 l0 A1 c1 l1 g wa3 C0.out H0.out C1.out H1.out hG.out).mono ?_
    rintro e wa4 ⟨v_, rfl, hr_, hb_⟩
    replace C0 := Aside0.mk (Kd.C_below C0.out hb_)
    replace C1 := Aside0.mk (Kd.C_below C1.out hb_)
    replace Xz := Aside0.mk (Bx.below Xz.out hb_)
    replace HB := Aside0.mk (below_step HB.out hb_)
    obtain ⟨Ag, cg, rfl⟩ := Kd.R_slice hr_
    have Cg := Aside0.mk (Kd.R_reads' hr_).2.2
    have Hg := Aside0.mk (show g.length ≤ cg from (Kd.R_reads' hr_).2.1)
    clear hr_ hb_
    go_wp2_with fail
    refine (bignat_DivMod.calls 4001 A0 c0 l0 Ag cg g n r 0 wa4 C0.out H0.out Cg.out Hg.out hD.out).mono ?_
    rintro e wa5 ⟨v_, u_, rfl, hr_, hu_, hb_⟩
    replace C0 := Aside0.mk (Kd.C_below C0.out hb_)
    replace C1 := Aside0.mk (Kd.C_below C1.out hb_)
    replace Cg := Aside0.mk (Kd.C_below Cg.out hb_)
    replace Xz := Aside0.mk (Bx.below Xz.out hb_)
    replace HB := Aside0.mk (below_step HB.out hb_)
    obtain ⟨Aq, cq, rfl⟩ := Kd.R_slice hr_
    have Cq := Aside0.mk (Kd.R_reads' hr_).2.2
    have Hq := Aside0.mk (show n.length ≤ cq from (Kd.R_reads' hr_).2.1)
    obtain ⟨Ar, cr, rfl⟩ := Kd.R_slice hu_
    have Cr := Aside0.mk (Kd.R_reads' hu_).2.2
    have Hr := Aside0.mk (show r.length ≤ cr from (Kd.R_reads' hu_).2.1)
    clear hr_ hu_ hb_
    go_wp2_with fail
    refine (bignat_DivMod.calls 4001 A1 c1 l1 Ag cg g d s 0 wa5 C1.out H1.out Cg.out Hg.out hE.out).mono ?_
    rintro e wa6 ⟨v_, u_, rfl, hr_, hu_, hb_⟩
    replace C0 := Aside0.mk (Kd.C_below C0.out hb_)
    replace C1 := Aside0.mk (Kd.C_below C1.out hb_)
    replace Cg := Aside0.mk (Kd.C_below Cg.out hb_)
    replace Cq := Aside0.mk (Kd.C_below Cq.out hb_)
    replace Cr := Aside0.mk (Kd.C_below Cr.out hb_)
    replace Xz := Aside0.mk (Bx.below Xz.out hb_)
    replace HB := Aside0.mk (below_step HB.out hb_)
    obtain ⟨Ae, ce, rfl⟩ := Kd.R_slice hr_
    have Ce := Aside0.mk (Kd.R_reads' hr_).2.2
    have He := Aside0.mk (show d.length ≤ ce from (Kd.R_reads' hr_).2.1)
    obtain ⟨As, cs, rfl⟩ := Kd.R_slice hu_
    have Cs := Aside0.mk (Kd.R_reads' hu_).2.2
    have Hs := Aside0.mk (show s.length ≤ cs from (Kd.R_reads' hu_).2.1)
    clear hr_ hu_ hb_
    have qaz := Bx.c0 Xz.out
    have qbz := Bx.c1 Xz.out
    have qcz := Bx.f0 Xz.out
    have qdz := Bx.f1 Xz.out
    go_wp2_with fail
    refine bodyPost_ret (results_cell48t rfl rfl (Bx.store Xz.out (.slice Aq n.length cq) (.slice Ae d.length ce))) rfl ?_
    exact Rat2.intro ⟨_, _, _, _, rfl, C_store Xz.out Cq.out _ _, Hq.out, C_store Xz.out Ce.out _ _, He.out, below_set (below_set HB.out Sz.out) Sz.out⟩
set_option maxHeartbeats 16000000 in
set_option maxRecDepth 100000 in
/-- New. -/
theorem refNew_calls (A0 : Option Addr) (c0 : Nat) (l0 : List Int) (A1 : Option Addr) (c1 : Nat) (l1 : List Int) (n d : List Int) (ec : Int) (w : World) (hr0 : Kd.C (Kd.int .u32) w A0 l0.length l0) (hc0 : l0.length ≤ c0) (hr1 : Kd.C (Kd.int .u32) w A1 l1.length l1) (hc1 : l1.length ≤ c1)  (L0 : Bn.Limbs l0) (L1 : Bn.Limbs l1) (h : newB l0 l1 = ((n, d), ec)) :
  Calls Tryd.prog 54 #[.slice A0 l0.length c0, .slice A1 l1.length c1] w fun e_ w' => Rat2 n d ec w e_ w' := by
 have C0 := Aside0.mk hr0
 have H0 := Aside0.mk hc0
 clear hr0 hc0
 have C1 := Aside0.mk hr1
 have H1 := Aside0.mk hc1
 clear hr1 hc1
 have HB := Aside0.mk (Below.refl w.heap.size w)
 obtain ⟨p0, hp0⟩ : ∃ p, p = validB l0 := ⟨_, rfl⟩
 obtain ⟨p1, hp1⟩ : ∃ p, p = validB l1 := ⟨_, rfl⟩
 have hP0 := Aside0.mk (show lineageref03_Valid.f l0 = some p0 from hp0 ▸ refValid_f l0)
 have hP1 := Aside0.mk (show lineageref03_Valid.f l1 = some p1 from hp1 ▸ refValid_f l1)
 have hBad := Aside0.mk (show ¬ (p0 = true ∧ p1 = true ∧ l1 ≠ []) → n = [] ∧ d = [] ∧ ec = 1 from fun hn => by
   unfold newB at h
   rw [hp0, hp1] at hn
   rw [if_neg hn] at h
   injection h with h1 h2
   injection h1 with h1 h3
   exact ⟨h1.symm, h3.symm, h2.symm⟩)
 have hGood := Aside0.mk (show p0 = true → p1 = true → l1 ≠ [] → ec = 0 ∧ Bn.Nrm l0 ∧ Bn.Nrm l1 ∧ l0.length ≤ 128 ∧ l1.length ≤ 128 ∧ l1 ≠ [] ∧ n = Bn.limbs (Bn.nv l0 / Nat.gcd (Bn.nv l0) (Bn.nv l1)) ∧ d = Bn.limbs (Bn.nv l1 / Nat.gcd (Bn.nv l0) (Bn.nv l1)) from fun h0 h1 h2 => by
   obtain ⟨n0, s0⟩ := (validB_iff L0).1 (hp0 ▸ h0)
   obtain ⟨n1, s1⟩ := (validB_iff L1).1 (hp1 ▸ h1)
   unfold newB at h
   rw [hp0] at h0
   rw [hp1] at h1
   rw [if_pos ⟨h0, h1, h2⟩] at h
   injection h with h3 h4
   injection h3 with h3 h5
   exact ⟨h4.symm, n0, n1, s0, s1, h2, h3.symm, h5.symm⟩)
 clear hp0 hp1 h L0 L1
 go_enter Tryd.func54, Tryd.ntmps54
 go_wp2_with (first | ((with_reducible refine gate_dst (N := 4) rfl ?_); (try (refine gate_guard (by rfl) ?_; dsimp only)); refine box_event ?hg (N := 4) ?hd (.slice none 0 0) (.slice none 0 0) ?hr ?_; (case hd => rfl); (case hg => rfl); (case hr => first | (go_simp; done) | (go_simp; rfl)); intro bz wa1 hx_ hs_ hb_; skip; have Sz := Aside0.mk (Nat.le_trans (below_size HB.out) hs_); have Xz := Aside0.mk hx_; replace C0 := Aside0.mk (Kd.C_below C0.out hb_); replace C1 := Aside0.mk (Kd.C_below C1.out hb_); replace HB := Aside0.mk (below_step HB.out hb_); skip; clear hb_ hx_ hs_))
 refine (lineageref03_Valid.calls  A0 c0 l0 p0 wa1 C0.out H0.out hP0.out).mono ?_
 rintro e wa2 ⟨rfl, hd_⟩
 have hb_ := hd_.below
 replace C0 := Aside0.mk (Kd.C_below C0.out hb_)
 replace C1 := Aside0.mk (Kd.C_below C1.out hb_)
 replace Xz := Aside0.mk (Bx.below Xz.out hb_)
 replace HB := Aside0.mk (below_step HB.out hb_)
 clear hb_ hd_
 cases p0 with
 | false =>
  obtain ⟨rfl, rfl, rfl⟩ := hBad.out (by simp)
  have Cn := Aside0.mk (nilC wa2)
  have Hn := Aside0.mk (Nat.le_refl 0)
  have qaz := Bx.c0 Xz.out
  have qbz := Bx.c1 Xz.out
  have qcz := Bx.f0 Xz.out
  have qdz := Bx.f1 Xz.out
  go_wp2_with fail
  refine bodyPost_ret (results_cell48t rfl rfl (Bx.store Xz.out (.slice none 0 0) (.slice none 0 0))) rfl ?_
  exact Rat2.intro ⟨_, _, _, _, rfl, C_store Xz.out Cn.out _ _, Hn.out, C_store Xz.out Cn.out _ _, Hn.out, below_set (below_set HB.out Sz.out) Sz.out⟩
 | true =>
  go_wp2_with fail
  refine (lineageref03_Valid.calls  A1 c1 l1 p1 wa2 C1.out H1.out hP1.out).mono ?_
  rintro e wa3 ⟨rfl, hd_⟩
  have hb_ := hd_.below
  replace C0 := Aside0.mk (Kd.C_below C0.out hb_)
  replace C1 := Aside0.mk (Kd.C_below C1.out hb_)
  replace Xz := Aside0.mk (Bx.below Xz.out hb_)
  replace HB := Aside0.mk (below_step HB.out hb_)
  clear hb_ hd_
  cases p1 with
  | false =>
   obtain ⟨rfl, rfl, rfl⟩ := hBad.out (by simp)
   have Cn := Aside0.mk (nilC wa3)
   have Hn := Aside0.mk (Nat.le_refl 0)
   have qaz := Bx.c0 Xz.out
   have qbz := Bx.c1 Xz.out
   have qcz := Bx.f0 Xz.out
   have qdz := Bx.f1 Xz.out
   go_wp2_with fail
   refine bodyPost_ret (results_cell48t rfl rfl (Bx.store Xz.out (.slice none 0 0) (.slice none 0 0))) rfl ?_
   exact Rat2.intro ⟨_, _, _, _, rfl, C_store Xz.out Cn.out _ _, Hn.out, C_store Xz.out Cn.out _ _, Hn.out, below_set (below_set HB.out Sz.out) Sz.out⟩
  | true =>
   by_cases hz : l1 = []
   ·obtain ⟨rfl, rfl, rfl⟩ := hBad.out (by simp [hz])
    obtain rfl := hz
    have Cn := Aside0.mk (nilC wa3)
    have Hn := Aside0.mk (Nat.le_refl 0)
    have qaz := Bx.c0 Xz.out
    have qbz := Bx.c1 Xz.out
    have qcz := Bx.f0 Xz.out
    have qdz := Bx.f1 Xz.out
    go_wp2_with fail
    refine bodyPost_ret (results_cell48t rfl rfl (Bx.store Xz.out (.slice none 0 0) (.slice none 0 0))) rfl ?_
    exact Rat2.intro ⟨_, _, _, _, rfl, C_store Xz.out Cn.out _ _, Hn.out, C_store Xz.out Cn.out _ _, Hn.out, below_set (below_set HB.out Sz.out) Sz.out⟩
   ·obtain ⟨rfl, hgood⟩ := hGood.out (by trivial) (by trivial) hz
    have hz1 : ((l1.length : Int) == 0) = false := by
     have : 0 < l1.length := List.length_pos_iff.2 hz
     rw [beq_eq_false_iff_ne]
     omega
    have hh := Aside0.mk hgood
    clear hgood hGood hBad
    go_wp2_with fail
    refine (Reduce_calls A0 c0 l0 A1 c1 l1 n d wa3 C0.out H0.out C1.out H1.out hh.out).mono ?_
    rintro e wa4 ⟨Aq, cq, Ae, ce, rfl, hCq_, hHq_, hCe_, hHe_, hb_⟩
    replace C0 := Aside0.mk (Kd.C_below C0.out hb_)
    replace C1 := Aside0.mk (Kd.C_below C1.out hb_)
    replace Xz := Aside0.mk (Bx.below Xz.out hb_)
    replace HB := Aside0.mk (below_step HB.out hb_)
    have Cq := Aside0.mk hCq_
    have Hq := Aside0.mk hHq_
    clear hCq_ hHq_
    have Ce := Aside0.mk hCe_
    have He := Aside0.mk hHe_
    clear hCe_ hHe_
    clear hb_
    have qaz := Bx.c0 Xz.out
    have qbz := Bx.c1 Xz.out
    have qcz := Bx.f0 Xz.out
    have qdz := Bx.f1 Xz.out
    go_wp2_with fail
    refine bodyPost_ret (results_cell48t rfl rfl (Bx.store Xz.out (.slice Aq n.length cq) (.slice Ae d.length ce))) rfl ?_
    exact Rat2.intro ⟨_, _, _, _, rfl, C_store Xz.out Cq.out _ _, Hq.out, C_store Xz.out Ce.out _ _, He.out, below_set (below_set HB.out Sz.out) Sz.out⟩
set_option maxHeartbeats 16000000 in
set_option maxRecDepth 100000 in
/-- FromInts. -/
theorem FromInts_calls  (a b : Nat) (n d : List Int) (ec : Int) (w : World)   (ha : a < 18446744073709551616) (hb : b < 18446744073709551616) (h : newB (Bn.limbs a) (Bn.limbs b) = ((n, d), ec)) :
  Calls Tryd.prog 52 #[.int .u64 (a : Int), .int .u64 (b : Int)] w fun e_ w' => Rat2 n d ec w e_ w' := by
 have HB := Aside0.mk (Below.refl w.heap.size w)
 have hN := Aside0.mk h
 have hA := Aside0.mk ha
 have hBb := Aside0.mk hb
 obtain ⟨x, hx⟩ : ∃ x, x = Bn.limbs a := ⟨_, rfl⟩
 obtain ⟨y, hy⟩ : ∃ y, y = Bn.limbs b := ⟨_, rfl⟩
 have hX := Aside0.mk (show bignat_FromUint.f 10 (a : Int) = some x from by rw [FromUint_f (by omega) (by omega) (by decide), hx]; rfl)
 have hY := Aside0.mk (show bignat_FromUint.f 10 (b : Int) = some y from by rw [FromUint_f (by omega) (by omega) (by decide), hy]; rfl)
 rw [← hx, ← hy] at h
 have hN2 := Aside0.mk (show Bn.Limbs x ∧ Bn.Limbs y ∧ newB x y = ((n, d), ec) from ⟨hx ▸ Bn.limbs_limbs _, hy ▸ Bn.limbs_limbs _, h⟩)
 have hXe := Aside0.mk hx
 have hYe := Aside0.mk hy
 clear h ha hb hN hx hy
 go_enter Tryd.func52, Tryd.ntmps52
 go_wp2_with (first | ((with_reducible refine gate_dst (N := 4) rfl ?_); (try (refine gate_guard (by rfl) ?_; dsimp only)); refine box_event ?hg (N := 4) ?hd (.slice none 0 0) (.slice none 0 0) ?hr ?_; (case hd => rfl); (case hg => rfl); (case hr => first | (go_simp; done) | (go_simp; rfl)); intro bz wa1 hx_ hs_ hb_; skip; have Sz := Aside0.mk (Nat.le_trans (below_size HB.out) hs_); have Xz := Aside0.mk hx_; replace HB := Aside0.mk (below_step HB.out hb_); skip; clear hb_ hx_ hs_))
 refine (bignat_FromUint.calls 10 (a : Int) x wa1 hX.out).mono ?_
 rintro e wa2 ⟨v_, rfl, hr_, hb_⟩
 replace Xz := Aside0.mk (Bx.below Xz.out hb_)
 replace HB := Aside0.mk (below_step HB.out hb_)
 obtain ⟨Ax, cx, rfl⟩ := Kd.R_slice hr_
 have Cx := Aside0.mk (Kd.R_reads' hr_).2.2
 have Hx := Aside0.mk (show x.length ≤ cx from (Kd.R_reads' hr_).2.1)
 clear hr_ hb_
 go_wp2_with fail
 refine (bignat_FromUint.calls 10 (b : Int) y wa2 hY.out).mono ?_
 rintro e wa3 ⟨v_, rfl, hr_, hb_⟩
 replace Cx := Aside0.mk (Kd.C_below Cx.out hb_)
 replace Xz := Aside0.mk (Bx.below Xz.out hb_)
 replace HB := Aside0.mk (below_step HB.out hb_)
 obtain ⟨Ay, cy, rfl⟩ := Kd.R_slice hr_
 have Cy := Aside0.mk (Kd.R_reads' hr_).2.2
 have Hy := Aside0.mk (show y.length ≤ cy from (Kd.R_reads' hr_).2.1)
 clear hr_ hb_
 go_wp2_with fail
 refine (ratNew_calls Ax cx x Ay cy y n d ec wa3 Cx.out Hx.out Cy.out Hy.out hN2.out.1 hN2.out.2.1 hN2.out.2.2).mono ?_
 rintro e wa4 ⟨Aq, cq, Ae, ce, rfl, hCq_, hHq_, hCe_, hHe_, hb_⟩
 replace Cx := Aside0.mk (Kd.C_below Cx.out hb_)
 replace Cy := Aside0.mk (Kd.C_below Cy.out hb_)
 replace Xz := Aside0.mk (Bx.below Xz.out hb_)
 replace HB := Aside0.mk (below_step HB.out hb_)
 have Cq := Aside0.mk hCq_
 have Hq := Aside0.mk hHq_
 clear hCq_ hHq_
 have Ce := Aside0.mk hCe_
 have He := Aside0.mk hHe_
 clear hCe_ hHe_
 clear hb_
 have qaz := Bx.c0 Xz.out
 have qbz := Bx.c1 Xz.out
 have qcz := Bx.f0 Xz.out
 have qdz := Bx.f1 Xz.out
 go_wp2_with fail
 refine bodyPost_ret (results_cell48t rfl rfl (Bx.store Xz.out (.slice Aq n.length cq) (.slice Ae d.length ce))) rfl ?_
 exact Rat2.intro ⟨_, _, _, _, rfl, C_store Xz.out Cq.out _ _, Hq.out, C_store Xz.out Ce.out _ _, He.out, below_set (below_set HB.out Sz.out) Sz.out⟩
set_option maxHeartbeats 16000000 in
set_option maxRecDepth 100000 in
/-- FromInts. -/
theorem refFromInts_calls  (a b : Nat) (n d : List Int) (ec : Int) (w : World)   (ha : a < 18446744073709551616) (hb : b < 18446744073709551616) (h : newB (Bn.limbs a) (Bn.limbs b) = ((n, d), ec)) :
  Calls Tryd.prog 55 #[.int .u64 (a : Int), .int .u64 (b : Int)] w fun e_ w' => Rat2 n d ec w e_ w' := by
 have HB := Aside0.mk (Below.refl w.heap.size w)
 have hN := Aside0.mk h
 have hA := Aside0.mk ha
 have hBb := Aside0.mk hb
 obtain ⟨x, hx⟩ : ∃ x, x = Bn.limbs a := ⟨_, rfl⟩
 obtain ⟨y, hy⟩ : ∃ y, y = Bn.limbs b := ⟨_, rfl⟩
 have hX := Aside0.mk (show bignat_FromUint.f 10 (a : Int) = some x from by rw [FromUint_f (by omega) (by omega) (by decide), hx]; rfl)
 have hY := Aside0.mk (show bignat_FromUint.f 10 (b : Int) = some y from by rw [FromUint_f (by omega) (by omega) (by decide), hy]; rfl)
 rw [← hx, ← hy] at h
 have hN2 := Aside0.mk (show Bn.Limbs x ∧ Bn.Limbs y ∧ newB x y = ((n, d), ec) from ⟨hx ▸ Bn.limbs_limbs _, hy ▸ Bn.limbs_limbs _, h⟩)
 have hXe := Aside0.mk hx
 have hYe := Aside0.mk hy
 clear h ha hb hN hx hy
 go_enter Tryd.func55, Tryd.ntmps55
 go_wp2_with (first | ((with_reducible refine gate_dst (N := 4) rfl ?_); (try (refine gate_guard (by rfl) ?_; dsimp only)); refine box_event ?hg (N := 4) ?hd (.slice none 0 0) (.slice none 0 0) ?hr ?_; (case hd => rfl); (case hg => rfl); (case hr => first | (go_simp; done) | (go_simp; rfl)); intro bz wa1 hx_ hs_ hb_; skip; have Sz := Aside0.mk (Nat.le_trans (below_size HB.out) hs_); have Xz := Aside0.mk hx_; replace HB := Aside0.mk (below_step HB.out hb_); skip; clear hb_ hx_ hs_))
 refine (refFromUint_calls a hA.out wa1).mono ?_
 rw [← hXe.out]
 rintro e wa2 ⟨Ax, cx, rfl, hC_, hH_, hb_⟩
 replace Xz := Aside0.mk (Bx.below Xz.out hb_)
 replace HB := Aside0.mk (below_step HB.out hb_)
 have Cx := Aside0.mk hC_
 have Hx := Aside0.mk hH_
 clear hC_ hH_ hb_
 go_wp2_with fail
 refine (refFromUint_calls b hBb.out wa2).mono ?_
 rw [← hYe.out]
 rintro e wa3 ⟨Ay, cy, rfl, hC_, hH_, hb_⟩
 replace Cx := Aside0.mk (Kd.C_below Cx.out hb_)
 replace Xz := Aside0.mk (Bx.below Xz.out hb_)
 replace HB := Aside0.mk (below_step HB.out hb_)
 have Cy := Aside0.mk hC_
 have Hy := Aside0.mk hH_
 clear hC_ hH_ hb_
 go_wp2_with fail
 refine (refNew_calls Ax cx x Ay cy y n d ec wa3 Cx.out Hx.out Cy.out Hy.out hN2.out.1 hN2.out.2.1 hN2.out.2.2).mono ?_
 rintro e wa4 ⟨Aq, cq, Ae, ce, rfl, hCq_, hHq_, hCe_, hHe_, hb_⟩
 replace Cx := Aside0.mk (Kd.C_below Cx.out hb_)
 replace Cy := Aside0.mk (Kd.C_below Cy.out hb_)
 replace Xz := Aside0.mk (Bx.below Xz.out hb_)
 replace HB := Aside0.mk (below_step HB.out hb_)
 have Cq := Aside0.mk hCq_
 have Hq := Aside0.mk hHq_
 clear hCq_ hHq_
 have Ce := Aside0.mk hCe_
 have He := Aside0.mk hHe_
 clear hCe_ hHe_
 clear hb_
 have qaz := Bx.c0 Xz.out
 have qbz := Bx.c1 Xz.out
 have qcz := Bx.f0 Xz.out
 have qdz := Bx.f1 Xz.out
 go_wp2_with fail
 refine bodyPost_ret (results_cell48t rfl rfl (Bx.store Xz.out (.slice Aq n.length cq) (.slice Ae d.length ce))) rfl ?_
 exact Rat2.intro ⟨_, _, _, _, rfl, C_store Xz.out Cq.out _ _, Hq.out, C_store Xz.out Ce.out _ _, He.out, below_set (below_set HB.out Sz.out) Sz.out⟩
set_option maxHeartbeats 16000000 in
set_option maxRecDepth 100000 in
/-- Same. -/
theorem Same_calls (A0 : Option Addr) (c0 : Nat) (l0 : List Int) (A1 : Option Addr) (c1 : Nat) (l1 : List Int) (A2 : Option Addr) (c2 : Nat) (l2 : List Int) (A3 : Option Addr) (c3 : Nat) (l3 : List Int) (r : Bool) (w : World) (hr0 : Kd.C (Kd.int .u32) w A0 l0.length l0) (hc0 : l0.length ≤ c0) (hr1 : Kd.C (Kd.int .u32) w A1 l1.length l1) (hc1 : l1.length ≤ c1) (hr2 : Kd.C (Kd.int .u32) w A2 l2.length l2) (hc2 : l2.length ≤ c2) (hr3 : Kd.C (Kd.int .u32) w A3 l3.length l3) (hc3 : l3.length ≤ c3)  (h0 : l0.length ≤ 1000) (h1 : l1.length ≤ 1000) (hr : r = (decide (l0 = l2) && decide (l1 = l3))) :
  Calls Tryd.prog 49 #[.agg #[.slice A0 l0.length c0, .slice A1 l1.length c1], .agg #[.slice A2 l2.length c2, .slice A3 l3.length c3]] w fun e w' => e = .returned (.bool r) ∧ Below w.heap.size w w' := by
 have C0 := Aside0.mk hr0
 have H0 := Aside0.mk hc0
 clear hr0 hc0
 have C1 := Aside0.mk hr1
 have H1 := Aside0.mk hc1
 clear hr1 hc1
 have C2 := Aside0.mk hr2
 have H2 := Aside0.mk hc2
 clear hr2 hc2
 have C3 := Aside0.mk hr3
 have H3 := Aside0.mk hc3
 clear hr3 hc3
 have HB := Aside0.mk (Below.refl w.heap.size w)
 obtain ⟨p, hp⟩ : ∃ p, p = decide (l0 = l2) := ⟨_, rfl⟩
 have hS := Aside0.mk (show lineagelaw03_same.f 1200 l0 l2 = some p from by rw [same_f l0 l2 (by omega) (by omega), hp])
 have hS2 := Aside0.mk (show lineagelaw03_same.f 1200 l1 l3 = some (decide (l1 = l3)) from same_f l1 l3 (by omega) (by omega))
 obtain ⟨q, hq⟩ : ∃ q, q = decide (l1 = l3) := ⟨_, rfl⟩
 rw [← hq] at hS2
 have hR := Aside0.mk (show r = (p && q) from by rw [hr, hp, hq])
 clear hp hq hr
 go_enter Tryd.func49, Tryd.ntmps49
 go_wp2_with (first | ((with_reducible refine gate_dst (N := 2) rfl ?_); (try (refine gate_guard (by rfl) ?_; dsimp only)); refine box_event ?hg (N := 2) ?hd (.slice A0 l0.length c0) (.slice A1 l1.length c1) ?hr ?_; (case hd => rfl); (case hg => rfl); (case hr => first | (go_simp; done) | (go_simp; rfl)); intro ba wa1 hx_ hs_ hb_; skip; have Sa := Aside0.mk (Nat.le_trans (below_size HB.out) hs_); have Xa := Aside0.mk hx_; replace C0 := Aside0.mk (Kd.C_below C0.out hb_); replace C1 := Aside0.mk (Kd.C_below C1.out hb_); replace C2 := Aside0.mk (Kd.C_below C2.out hb_); replace C3 := Aside0.mk (Kd.C_below C3.out hb_); replace HB := Aside0.mk (below_step HB.out hb_); have qaa := Bx.c0 Xa.out; have qba := Bx.c1 Xa.out; clear hb_ hx_ hs_) | ((with_reducible refine gate_dst (N := 3) rfl ?_); (try (refine gate_guard (by rfl) ?_; dsimp only)); refine box_event ?hg (N := 3) ?hd (.slice A2 l2.length c2) (.slice A3 l3.length c3) ?hr ?_; (case hd => rfl); (case hg => rfl); (case hr => first | (go_simp; done) | (go_simp; rfl)); intro bb wa2 hx_ hs_ hb_; skip; have Sb := Aside0.mk (Nat.le_trans (below_size HB.out) hs_); have Xb := Aside0.mk hx_; replace C0 := Aside0.mk (Kd.C_below C0.out hb_); replace C1 := Aside0.mk (Kd.C_below C1.out hb_); replace C2 := Aside0.mk (Kd.C_below C2.out hb_); replace C3 := Aside0.mk (Kd.C_below C3.out hb_); clear qaa qba; replace Xa := Aside0.mk (Bx.below Xa.out hb_); have qaa := Bx.c0 Xa.out; have qba := Bx.c1 Xa.out; replace HB := Aside0.mk (below_step HB.out hb_); have qab := Bx.c0 Xb.out; have qbb := Bx.c1 Xb.out; clear hb_ hx_ hs_))
 refine (limbs10_calls 1200 A0 c0 l0 A2 c2 l2 p wa2 C0.out H0.out C2.out H2.out hS.out).mono ?_
 rintro e wa3 ⟨rfl, hd_⟩
 have hb_ := hd_.below
 replace C0 := Aside0.mk (Kd.C_below C0.out hb_)
 replace C1 := Aside0.mk (Kd.C_below C1.out hb_)
 replace C2 := Aside0.mk (Kd.C_below C2.out hb_)
 replace C3 := Aside0.mk (Kd.C_below C3.out hb_)
 clear qaa qba
 replace Xa := Aside0.mk (Bx.below Xa.out hb_)
 have qaa := Bx.c0 Xa.out
 have qba := Bx.c1 Xa.out
 clear qab qbb
 replace Xb := Aside0.mk (Bx.below Xb.out hb_)
 have qab := Bx.c0 Xb.out
 have qbb := Bx.c1 Xb.out
 replace HB := Aside0.mk (below_step HB.out hb_)
 clear hb_ hd_
 cases p with
 | false =>
  obtain rfl : r = false := by rw [hR.out]; rfl
  go_wp2_with fail
  go_ret
  exact ⟨rfl, HB.out⟩
 | true =>
  go_wp2_with fail
  refine (limbs10_calls 1200 A1 c1 l1 A3 c3 l3 q wa3 C1.out H1.out C3.out H3.out hS2.out).mono ?_
  rintro e wa4 ⟨rfl, hd_⟩
  have hb_ := hd_.below
  replace C0 := Aside0.mk (Kd.C_below C0.out hb_)
  replace C1 := Aside0.mk (Kd.C_below C1.out hb_)
  replace C2 := Aside0.mk (Kd.C_below C2.out hb_)
  replace C3 := Aside0.mk (Kd.C_below C3.out hb_)
  clear qaa qba
  replace Xa := Aside0.mk (Bx.below Xa.out hb_)
  have qaa := Bx.c0 Xa.out
  have qba := Bx.c1 Xa.out
  clear qab qbb
  replace Xb := Aside0.mk (Bx.below Xb.out hb_)
  have qab := Bx.c0 Xb.out
  have qbb := Bx.c1 Xb.out
  replace HB := Aside0.mk (below_step HB.out hb_)
  clear hb_ hd_
  obtain rfl : r = q := by rw [hR.out]; rfl
  go_wp2_with fail
  go_ret
  exact ⟨rfl, HB.out⟩

/-- A row of limbs of one's own is kept when another row of rows is appended to. -/
theorem R_app {W w1 : World} {v u : Value} {b0 base n : Nat} {xs : List Int} {ps : List Value} (h : Kd.R (Kd.int .u32) 63 W b0 (fun _ => True) u xs) (ho : W.ownsRow base 23 1 v n ps) (hg : W.grownBy w1 v.ownBlock) : Kd.R (Kd.int .u32) 63 w1 b0 (fun _ => True) u xs :=
 Kd.R_mono (Kd.R_move (Kd.R_bound h) (fun k hk => by
  obtain ⟨-, -, hlt, q, hq, cells, hc⟩ := hk
  have hq2 : q = 63 := by simpa [Kd.int, Kd.scalar] using hq
  subst hq2
  exact hg.block k hlt (own_ne ho hc (by decide)))) (fun _ _ => trivial)
theorem own_row_below {W w1 : World} {v : Value} {base n : Nat} {ps : List Value} (h : W.ownsRow base 23 1 v n ps) (hb : Below W.heap.size W w1) : w1.ownsRow base 23 1 v n ps := own_other h (grown_of_below hb none) (by cases v.ownBlock <;> simp)
set_option maxHeartbeats 16000000 in
set_option maxRecDepth 100000 in
/-- products of 2 pairs. -/
theorem products2_calls (A0 : Option Addr) (c0 : Nat) (x0 : List Int) (B0 : Option Addr) (d0 : Nat) (y0 : List Int) (A1 : Option Addr) (c1 : Nat) (x1 : List Int) (B1 : Option Addr) (d1 : Nat) (y1 : List Int) (n0 : List Int) (e0 : Int) (n1 : List Int) (e1 : Int) (ok : Bool) (b : Nat) (w : World) (hx0 : Kd.C (Kd.int .u32) w A0 x0.length x0) (hX0 : x0.length ≤ c0) (hy0 : Kd.C (Kd.int .u32) w B0 y0.length y0) (hY0 : y0.length ≤ d0) (hm0 : bignat_Mul.f 17000 x0 y0 = some (n0, e0)) (hx1 : Kd.C (Kd.int .u32) w A1 x1.length x1) (hX1 : x1.length ≤ c1) (hy1 : Kd.C (Kd.int .u32) w B1 y1.length y1) (hY1 : y1.length ≤ d1) (hm1 : bignat_Mul.f 17000 x1 y1 = some (n1, e1)) (hok : ok = (decide (e0 = 0) && decide (e1 = 0))) (hb : w.heap[b]? = some (.cells #[.slice A0 x0.length c0, .slice B0 y0.length d0, .slice A1 x1.length c1, .slice B1 y1.length d1] 95)) :
  Calls Tryd.prog 95 #[.slice (some ⟨b, 0, none⟩) 2 2] w fun e w' => (ok = true → ∃ v P0 q0 P1 q1, e = .returned (.tuple #[v, .bool true]) ∧ w'.ownsRow w.heap.size 23 1 v 2 [.slice P0 n0.length q0, .slice P1 n1.length q1] ∧ (Kd.C (Kd.int .u32) w' P0 n0.length n0 ∧ n0.length ≤ q0) ∧ (Kd.C (Kd.int .u32) w' P1 n1.length n1 ∧ n1.length ≤ q1)) ∧ (ok = false → e = .returned (.tuple #[.slice none 0 0, .bool false])) ∧ Below w.heap.size w w' := by
 have hblt : b < w.heap.size := (Array.getElem?_eq_some_iff.1 hb).1
 have hb_ := Aside0.mk hb
 have hl_ := Aside0.mk hblt
 have hO := Aside0.mk hok
 clear hok
 have Cx0 := Aside0.mk hx0
 have Hx0 := Aside0.mk hX0
 have Cy0 := Aside0.mk hy0
 have Hy0 := Aside0.mk hY0
 have M0 := Aside0.mk hm0
 clear hx0 hX0 hy0 hY0 hm0
 have Cx1 := Aside0.mk hx1
 have Hx1 := Aside0.mk hX1
 have Cy1 := Aside0.mk hy1
 have Hy1 := Aside0.mk hY1
 have M1 := Aside0.mk hm1
 clear hx1 hX1 hy1 hY1 hm1
 have HB := Aside0.mk (Below.refl w.heap.size w)
 have g0 : w.cell? ⟨b, 0, none⟩ = some (.slice A0 x0.length c0) := by
  have h := hb_.out
  simp [World.cell?, h]
 have g1 : w.cell? ⟨b, 1, none⟩ = some (.slice B0 y0.length d0) := by
  have h := hb_.out
  simp [World.cell?, h]
 have g2 : w.cell? ⟨b, 2, none⟩ = some (.slice A1 x1.length c1) := by
  have h := hb_.out
  simp [World.cell?, h]
 have g3 : w.cell? ⟨b, 3, none⟩ = some (.slice B1 y1.length d1) := by
  have h := hb_.out
  simp [World.cell?, h]
 clear hb hblt
 go_enter Tryd.func95, Tryd.ntmps95
 go_wp2_with fail
 refine wp_loop_rounds 3 ?_
 rw [rounds_succ]
 go_wp2_with fail
 have hE : Below w.heap.size w (w.alloc (.cells #[.slice A0 x0.length c0, .slice B0 y0.length d0] 95)) := below_alloc (Below.refl _ _) _
 have HE := Aside0.mk hE
 have HB2 := Aside0.mk (below_step HB.out hE)
 clear hE
 refine (bignat_Mul.calls 17000 A0 c0 x0 B0 d0 y0 n0 e0 _ (Kd.C_below Cx0.out HB2.out) Hx0.out (Kd.C_below Cy0.out HB2.out) Hy0.out M0.out).mono ?_
 rintro e m0 ⟨v_, rfl, hr_, hb2_⟩
 have HS := Aside0.mk (below_step HE.out hb2_)
 have HB3 := Aside0.mk (below_step HB.out HS.out)
 clear hb2_ HE HB2 HB
 have HB := HB3
 clear HB3
 obtain ⟨P0, q0, rfl⟩ := Kd.R_slice hr_
 have R0 := Aside0.mk hr_
 clear hr_
 clear g0
 clear g1
 clear g2
 clear g3
 have O := Aside0.mk (show m0.ownsRow w.heap.size 23 1 (.slice none 0 0) 0 [] from own_nil _ _ _ _)
 clear HS
 have g0 : m0.cell? ⟨b, 0, none⟩ = some (.slice A0 x0.length c0) := by
  have h := (HB.out.block b hl_.out).trans hb_.out
  simp [World.cell?, h]
 have g1 : m0.cell? ⟨b, 1, none⟩ = some (.slice B0 y0.length d0) := by
  have h := (HB.out.block b hl_.out).trans hb_.out
  simp [World.cell?, h]
 have g2 : m0.cell? ⟨b, 2, none⟩ = some (.slice A1 x1.length c1) := by
  have h := (HB.out.block b hl_.out).trans hb_.out
  simp [World.cell?, h]
 have g3 : m0.cell? ⟨b, 3, none⟩ = some (.slice B1 y1.length d1) := by
  have h := (HB.out.block b hl_.out).trans hb_.out
  simp [World.cell?, h]
 by_cases he0 : e0 = 0
 rotate_left 1
 ·have hz : (e0 != 0) = true := bne_iff_ne.2 he0
  have hz1 : (e0 == 0) = false := beq_eq_false_iff_ne.2 he0
  go_wp2_with fail
  go_ret2
  have hf : ok = false := by rw [hO.out]; simp [he0]
  exact ⟨fun h => absurd (hf.symm.trans h) (by decide), fun _ => rfl, HB.out⟩
 obtain rfl := he0
 go_wp2_with (first | (at_builtin; refine print_append_cells (w0 := w) w.heap.size rfl (.tmp 25) (.tmp 27) 68 23 (.slice none 0 0) 1 24 rfl Tryd.underlying68 info23 rfl (by decide) (by decide) (.slice none 0 0) 0 [] [.slice P0 n0.length q0] rfl rfl rfl (by simp [Value.oneCell']) O.out HB.out (below_size HB.out) (by decide) ?_; intro u0 a0 ho_ hb2_ hg_ _; have O_ := Aside0.mk ho_; have HB_ := Aside0.mk hb2_; replace R0 := Aside0.mk (R_app R0.out O.out hg_); clear O HB g0 g1 g2 g3 hg_ ho_ hb2_; have O := O_; have HB := HB_; clear O_ HB_; have g0 : a0.cell? ⟨b, 0, none⟩ = some (.slice A0 x0.length c0) := (by have h := (HB.out.block b hl_.out).trans hb_.out; simp [World.cell?, h]); have g1 : a0.cell? ⟨b, 1, none⟩ = some (.slice B0 y0.length d0) := (by have h := (HB.out.block b hl_.out).trans hb_.out; simp [World.cell?, h]); have g2 : a0.cell? ⟨b, 2, none⟩ = some (.slice A1 x1.length c1) := (by have h := (HB.out.block b hl_.out).trans hb_.out; simp [World.cell?, h]); have g3 : a0.cell? ⟨b, 3, none⟩ = some (.slice B1 y1.length d1) := (by have h := (HB.out.block b hl_.out).trans hb_.out; simp [World.cell?, h])))
 rw [rounds_succ]
 go_wp2_with fail
 have hE : Below a0.heap.size a0 (a0.alloc (.cells #[.slice A1 x1.length c1, .slice B1 y1.length d1] 95)) := below_alloc (Below.refl _ _) _
 have HE := Aside0.mk hE
 have HB2 := Aside0.mk (below_step HB.out hE)
 clear hE
 refine (bignat_Mul.calls 17000 A1 c1 x1 B1 d1 y1 n1 e1 _ (Kd.C_below Cx1.out HB2.out) Hx1.out (Kd.C_below Cy1.out HB2.out) Hy1.out M1.out).mono ?_
 rintro e m1 ⟨v_, rfl, hr_, hb2_⟩
 have HS := Aside0.mk (below_step HE.out hb2_)
 have HB3 := Aside0.mk (below_step HB.out HS.out)
 clear hb2_ HE HB2 HB
 have HB := HB3
 clear HB3
 obtain ⟨P1, q1, rfl⟩ := Kd.R_slice hr_
 have R1 := Aside0.mk hr_
 clear hr_
 clear g0
 clear g1
 clear g2
 clear g3
 replace R0 := Aside0.mk (Kd.R_below R0.out HS.out)
 replace O := Aside0.mk (own_row_below O.out HS.out)
 clear HS
 have g0 : m1.cell? ⟨b, 0, none⟩ = some (.slice A0 x0.length c0) := by
  have h := (HB.out.block b hl_.out).trans hb_.out
  simp [World.cell?, h]
 have g1 : m1.cell? ⟨b, 1, none⟩ = some (.slice B0 y0.length d0) := by
  have h := (HB.out.block b hl_.out).trans hb_.out
  simp [World.cell?, h]
 have g2 : m1.cell? ⟨b, 2, none⟩ = some (.slice A1 x1.length c1) := by
  have h := (HB.out.block b hl_.out).trans hb_.out
  simp [World.cell?, h]
 have g3 : m1.cell? ⟨b, 3, none⟩ = some (.slice B1 y1.length d1) := by
  have h := (HB.out.block b hl_.out).trans hb_.out
  simp [World.cell?, h]
 by_cases he1 : e1 = 0
 rotate_left 1
 ·have hz : (e1 != 0) = true := bne_iff_ne.2 he1
  have hz1 : (e1 == 0) = false := beq_eq_false_iff_ne.2 he1
  go_wp2_with fail
  go_ret2
  have hf : ok = false := by rw [hO.out]; simp [he1]
  exact ⟨fun h => absurd (hf.symm.trans h) (by decide), fun _ => rfl, HB.out⟩
 obtain rfl := he1
 go_wp2_with (first | (at_builtin; refine print_append_cells (w0 := w) w.heap.size rfl (.tmp 25) (.tmp 27) 68 23 (.slice none 0 0) 1 24 rfl Tryd.underlying68 info23 rfl (by decide) (by decide) u0 1 [.slice P0 n0.length q0] [.slice P1 n1.length q1] rfl rfl rfl (by simp [Value.oneCell']) O.out HB.out (below_size HB.out) (by decide) ?_; intro u1 a1 ho_ hb2_ hg_ _; have O_ := Aside0.mk ho_; have HB_ := Aside0.mk hb2_; replace R0 := Aside0.mk (R_app R0.out O.out hg_); replace R1 := Aside0.mk (R_app R1.out O.out hg_); clear O HB g0 g1 g2 g3 hg_ ho_ hb2_; have O := O_; have HB := HB_; clear O_ HB_; have g0 : a1.cell? ⟨b, 0, none⟩ = some (.slice A0 x0.length c0) := (by have h := (HB.out.block b hl_.out).trans hb_.out; simp [World.cell?, h]); have g1 : a1.cell? ⟨b, 1, none⟩ = some (.slice B0 y0.length d0) := (by have h := (HB.out.block b hl_.out).trans hb_.out; simp [World.cell?, h]); have g2 : a1.cell? ⟨b, 2, none⟩ = some (.slice A1 x1.length c1) := (by have h := (HB.out.block b hl_.out).trans hb_.out; simp [World.cell?, h]); have g3 : a1.cell? ⟨b, 3, none⟩ = some (.slice B1 y1.length d1) := (by have h := (HB.out.block b hl_.out).trans hb_.out; simp [World.cell?, h])))
 rw [rounds_succ]
 go_wp2_with fail
 go_ret2
 have ht : ok = true := by rw [hO.out]; rfl
 exact ⟨fun _ => ⟨u1, P0, q0, P1, q1, rfl, O.out, ⟨(Kd.R_reads' R0.out).2.2, (Kd.R_reads' R0.out).2.1⟩, ⟨(Kd.R_reads' R1.out).2.2, (Kd.R_reads' R1.out).2.1⟩⟩, fun h => absurd (ht.symm.trans h) (by decide), HB.out⟩
set_option maxHeartbeats 16000000 in
set_option maxRecDepth 100000 in
/-- products of 3 pairs. -/
theorem products3_calls (A0 : Option Addr) (c0 : Nat) (x0 : List Int) (B0 : Option Addr) (d0 : Nat) (y0 : List Int) (A1 : Option Addr) (c1 : Nat) (x1 : List Int) (B1 : Option Addr) (d1 : Nat) (y1 : List Int) (A2 : Option Addr) (c2 : Nat) (x2 : List Int) (B2 : Option Addr) (d2 : Nat) (y2 : List Int) (n0 : List Int) (e0 : Int) (n1 : List Int) (e1 : Int) (n2 : List Int) (e2 : Int) (ok : Bool) (b : Nat) (w : World) (hx0 : Kd.C (Kd.int .u32) w A0 x0.length x0) (hX0 : x0.length ≤ c0) (hy0 : Kd.C (Kd.int .u32) w B0 y0.length y0) (hY0 : y0.length ≤ d0) (hm0 : bignat_Mul.f 17000 x0 y0 = some (n0, e0)) (hx1 : Kd.C (Kd.int .u32) w A1 x1.length x1) (hX1 : x1.length ≤ c1) (hy1 : Kd.C (Kd.int .u32) w B1 y1.length y1) (hY1 : y1.length ≤ d1) (hm1 : bignat_Mul.f 17000 x1 y1 = some (n1, e1)) (hx2 : Kd.C (Kd.int .u32) w A2 x2.length x2) (hX2 : x2.length ≤ c2) (hy2 : Kd.C (Kd.int .u32) w B2 y2.length y2) (hY2 : y2.length ≤ d2) (hm2 : bignat_Mul.f 17000 x2 y2 = some (n2, e2)) (hok : ok = (decide (e0 = 0) && decide (e1 = 0) && decide (e2 = 0))) (hb : w.heap[b]? = some (.cells #[.slice A0 x0.length c0, .slice B0 y0.length d0, .slice A1 x1.length c1, .slice B1 y1.length d1, .slice A2 x2.length c2, .slice B2 y2.length d2] 95)) :
  Calls Tryd.prog 95 #[.slice (some ⟨b, 0, none⟩) 3 3] w fun e w' => (ok = true → ∃ v P0 q0 P1 q1 P2 q2, e = .returned (.tuple #[v, .bool true]) ∧ w'.ownsRow w.heap.size 23 1 v 3 [.slice P0 n0.length q0, .slice P1 n1.length q1, .slice P2 n2.length q2] ∧ (Kd.C (Kd.int .u32) w' P0 n0.length n0 ∧ n0.length ≤ q0) ∧ (Kd.C (Kd.int .u32) w' P1 n1.length n1 ∧ n1.length ≤ q1) ∧ (Kd.C (Kd.int .u32) w' P2 n2.length n2 ∧ n2.length ≤ q2)) ∧ (ok = false → e = .returned (.tuple #[.slice none 0 0, .bool false])) ∧ Below w.heap.size w w' := by
 have hblt : b < w.heap.size := (Array.getElem?_eq_some_iff.1 hb).1
 have hb_ := Aside0.mk hb
 have hl_ := Aside0.mk hblt
 have hO := Aside0.mk hok
 clear hok
 have Cx0 := Aside0.mk hx0
 have Hx0 := Aside0.mk hX0
 have Cy0 := Aside0.mk hy0
 have Hy0 := Aside0.mk hY0
 have M0 := Aside0.mk hm0
 clear hx0 hX0 hy0 hY0 hm0
 have Cx1 := Aside0.mk hx1
 have Hx1 := Aside0.mk hX1
 have Cy1 := Aside0.mk hy1
 have Hy1 := Aside0.mk hY1
 have M1 := Aside0.mk hm1
 clear hx1 hX1 hy1 hY1 hm1
 have Cx2 := Aside0.mk hx2
 have Hx2 := Aside0.mk hX2
 have Cy2 := Aside0.mk hy2
 have Hy2 := Aside0.mk hY2
 have M2 := Aside0.mk hm2
 clear hx2 hX2 hy2 hY2 hm2
 have HB := Aside0.mk (Below.refl w.heap.size w)
 have g0 : w.cell? ⟨b, 0, none⟩ = some (.slice A0 x0.length c0) := by
  have h := hb_.out
  simp [World.cell?, h]
 have g1 : w.cell? ⟨b, 1, none⟩ = some (.slice B0 y0.length d0) := by
  have h := hb_.out
  simp [World.cell?, h]
 have g2 : w.cell? ⟨b, 2, none⟩ = some (.slice A1 x1.length c1) := by
  have h := hb_.out
  simp [World.cell?, h]
 have g3 : w.cell? ⟨b, 3, none⟩ = some (.slice B1 y1.length d1) := by
  have h := hb_.out
  simp [World.cell?, h]
 have g4 : w.cell? ⟨b, 4, none⟩ = some (.slice A2 x2.length c2) := by
  have h := hb_.out
  simp [World.cell?, h]
 have g5 : w.cell? ⟨b, 5, none⟩ = some (.slice B2 y2.length d2) := by
  have h := hb_.out
  simp [World.cell?, h]
 clear hb hblt
 go_enter Tryd.func95, Tryd.ntmps95
 go_wp2_with fail
 refine wp_loop_rounds 4 ?_
 rw [rounds_succ]
 go_wp2_with fail
 have hE : Below w.heap.size w (w.alloc (.cells #[.slice A0 x0.length c0, .slice B0 y0.length d0] 95)) := below_alloc (Below.refl _ _) _
 have HE := Aside0.mk hE
 have HB2 := Aside0.mk (below_step HB.out hE)
 clear hE
 refine (bignat_Mul.calls 17000 A0 c0 x0 B0 d0 y0 n0 e0 _ (Kd.C_below Cx0.out HB2.out) Hx0.out (Kd.C_below Cy0.out HB2.out) Hy0.out M0.out).mono ?_
 rintro e m0 ⟨v_, rfl, hr_, hb2_⟩
 have HS := Aside0.mk (below_step HE.out hb2_)
 have HB3 := Aside0.mk (below_step HB.out HS.out)
 clear hb2_ HE HB2 HB
 have HB := HB3
 clear HB3
 obtain ⟨P0, q0, rfl⟩ := Kd.R_slice hr_
 have R0 := Aside0.mk hr_
 clear hr_
 clear g0
 clear g1
 clear g2
 clear g3
 clear g4
 clear g5
 have O := Aside0.mk (show m0.ownsRow w.heap.size 23 1 (.slice none 0 0) 0 [] from own_nil _ _ _ _)
 clear HS
 have g0 : m0.cell? ⟨b, 0, none⟩ = some (.slice A0 x0.length c0) := by
  have h := (HB.out.block b hl_.out).trans hb_.out
  simp [World.cell?, h]
 have g1 : m0.cell? ⟨b, 1, none⟩ = some (.slice B0 y0.length d0) := by
  have h := (HB.out.block b hl_.out).trans hb_.out
  simp [World.cell?, h]
 have g2 : m0.cell? ⟨b, 2, none⟩ = some (.slice A1 x1.length c1) := by
  have h := (HB.out.block b hl_.out).trans hb_.out
  simp [World.cell?, h]
 have g3 : m0.cell? ⟨b, 3, none⟩ = some (.slice B1 y1.length d1) := by
  have h := (HB.out.block b hl_.out).trans hb_.out
  simp [World.cell?, h]
 have g4 : m0.cell? ⟨b, 4, none⟩ = some (.slice A2 x2.length c2) := by
  have h := (HB.out.block b hl_.out).trans hb_.out
  simp [World.cell?, h]
 have g5 : m0.cell? ⟨b, 5, none⟩ = some (.slice B2 y2.length d2) := by
  have h := (HB.out.block b hl_.out).trans hb_.out
  simp [World.cell?, h]
 by_cases he0 : e0 = 0
 rotate_left 1
 ·have hz : (e0 != 0) = true := bne_iff_ne.2 he0
  have hz1 : (e0 == 0) = false := beq_eq_false_iff_ne.2 he0
  go_wp2_with fail
  go_ret2
  have hf : ok = false := by rw [hO.out]; simp [he0]
  exact ⟨fun h => absurd (hf.symm.trans h) (by decide), fun _ => rfl, HB.out⟩
 obtain rfl := he0
 go_wp2_with (first | (at_builtin; refine print_append_cells (w0 := w) w.heap.size rfl (.tmp 25) (.tmp 27) 68 23 (.slice none 0 0) 1 24 rfl Tryd.underlying68 info23 rfl (by decide) (by decide) (.slice none 0 0) 0 [] [.slice P0 n0.length q0] rfl rfl rfl (by simp [Value.oneCell']) O.out HB.out (below_size HB.out) (by decide) ?_; intro u0 a0 ho_ hb2_ hg_ _; have O_ := Aside0.mk ho_; have HB_ := Aside0.mk hb2_; replace R0 := Aside0.mk (R_app R0.out O.out hg_); clear O HB g0 g1 g2 g3 g4 g5 hg_ ho_ hb2_; have O := O_; have HB := HB_; clear O_ HB_; have g0 : a0.cell? ⟨b, 0, none⟩ = some (.slice A0 x0.length c0) := (by have h := (HB.out.block b hl_.out).trans hb_.out; simp [World.cell?, h]); have g1 : a0.cell? ⟨b, 1, none⟩ = some (.slice B0 y0.length d0) := (by have h := (HB.out.block b hl_.out).trans hb_.out; simp [World.cell?, h]); have g2 : a0.cell? ⟨b, 2, none⟩ = some (.slice A1 x1.length c1) := (by have h := (HB.out.block b hl_.out).trans hb_.out; simp [World.cell?, h]); have g3 : a0.cell? ⟨b, 3, none⟩ = some (.slice B1 y1.length d1) := (by have h := (HB.out.block b hl_.out).trans hb_.out; simp [World.cell?, h]); have g4 : a0.cell? ⟨b, 4, none⟩ = some (.slice A2 x2.length c2) := (by have h := (HB.out.block b hl_.out).trans hb_.out; simp [World.cell?, h]); have g5 : a0.cell? ⟨b, 5, none⟩ = some (.slice B2 y2.length d2) := (by have h := (HB.out.block b hl_.out).trans hb_.out; simp [World.cell?, h])))
 rw [rounds_succ]
 go_wp2_with fail
 have hE : Below a0.heap.size a0 (a0.alloc (.cells #[.slice A1 x1.length c1, .slice B1 y1.length d1] 95)) := below_alloc (Below.refl _ _) _
 have HE := Aside0.mk hE
 have HB2 := Aside0.mk (below_step HB.out hE)
 clear hE
 refine (bignat_Mul.calls 17000 A1 c1 x1 B1 d1 y1 n1 e1 _ (Kd.C_below Cx1.out HB2.out) Hx1.out (Kd.C_below Cy1.out HB2.out) Hy1.out M1.out).mono ?_
 rintro e m1 ⟨v_, rfl, hr_, hb2_⟩
 have HS := Aside0.mk (below_step HE.out hb2_)
 have HB3 := Aside0.mk (below_step HB.out HS.out)
 clear hb2_ HE HB2 HB
 have HB := HB3
 clear HB3
 obtain ⟨P1, q1, rfl⟩ := Kd.R_slice hr_
 have R1 := Aside0.mk hr_
 clear hr_
 clear g0
 clear g1
 clear g2
 clear g3
 clear g4
 clear g5
 replace R0 := Aside0.mk (Kd.R_below R0.out HS.out)
 replace O := Aside0.mk (own_row_below O.out HS.out)
 clear HS
 have g0 : m1.cell? ⟨b, 0, none⟩ = some (.slice A0 x0.length c0) := by
  have h := (HB.out.block b hl_.out).trans hb_.out
  simp [World.cell?, h]
 have g1 : m1.cell? ⟨b, 1, none⟩ = some (.slice B0 y0.length d0) := by
  have h := (HB.out.block b hl_.out).trans hb_.out
  simp [World.cell?, h]
 have g2 : m1.cell? ⟨b, 2, none⟩ = some (.slice A1 x1.length c1) := by
  have h := (HB.out.block b hl_.out).trans hb_.out
  simp [World.cell?, h]
 have g3 : m1.cell? ⟨b, 3, none⟩ = some (.slice B1 y1.length d1) := by
  have h := (HB.out.block b hl_.out).trans hb_.out
  simp [World.cell?, h]
 have g4 : m1.cell? ⟨b, 4, none⟩ = some (.slice A2 x2.length c2) := by
  have h := (HB.out.block b hl_.out).trans hb_.out
  simp [World.cell?, h]
 have g5 : m1.cell? ⟨b, 5, none⟩ = some (.slice B2 y2.length d2) := by
  have h := (HB.out.block b hl_.out).trans hb_.out
  simp [World.cell?, h]
 by_cases he1 : e1 = 0
 rotate_left 1
 ·have hz : (e1 != 0) = true := bne_iff_ne.2 he1
  have hz1 : (e1 == 0) = false := beq_eq_false_iff_ne.2 he1
  go_wp2_with fail
  go_ret2
  have hf : ok = false := by rw [hO.out]; simp [he1]
  exact ⟨fun h => absurd (hf.symm.trans h) (by decide), fun _ => rfl, HB.out⟩
 obtain rfl := he1
 go_wp2_with (first | (at_builtin; refine print_append_cells (w0 := w) w.heap.size rfl (.tmp 25) (.tmp 27) 68 23 (.slice none 0 0) 1 24 rfl Tryd.underlying68 info23 rfl (by decide) (by decide) u0 1 [.slice P0 n0.length q0] [.slice P1 n1.length q1] rfl rfl rfl (by simp [Value.oneCell']) O.out HB.out (below_size HB.out) (by decide) ?_; intro u1 a1 ho_ hb2_ hg_ _; have O_ := Aside0.mk ho_; have HB_ := Aside0.mk hb2_; replace R0 := Aside0.mk (R_app R0.out O.out hg_); replace R1 := Aside0.mk (R_app R1.out O.out hg_); clear O HB g0 g1 g2 g3 g4 g5 hg_ ho_ hb2_; have O := O_; have HB := HB_; clear O_ HB_; have g0 : a1.cell? ⟨b, 0, none⟩ = some (.slice A0 x0.length c0) := (by have h := (HB.out.block b hl_.out).trans hb_.out; simp [World.cell?, h]); have g1 : a1.cell? ⟨b, 1, none⟩ = some (.slice B0 y0.length d0) := (by have h := (HB.out.block b hl_.out).trans hb_.out; simp [World.cell?, h]); have g2 : a1.cell? ⟨b, 2, none⟩ = some (.slice A1 x1.length c1) := (by have h := (HB.out.block b hl_.out).trans hb_.out; simp [World.cell?, h]); have g3 : a1.cell? ⟨b, 3, none⟩ = some (.slice B1 y1.length d1) := (by have h := (HB.out.block b hl_.out).trans hb_.out; simp [World.cell?, h]); have g4 : a1.cell? ⟨b, 4, none⟩ = some (.slice A2 x2.length c2) := (by have h := (HB.out.block b hl_.out).trans hb_.out; simp [World.cell?, h]); have g5 : a1.cell? ⟨b, 5, none⟩ = some (.slice B2 y2.length d2) := (by have h := (HB.out.block b hl_.out).trans hb_.out; simp [World.cell?, h])))
 rw [rounds_succ]
 go_wp2_with fail
 have hE : Below a1.heap.size a1 (a1.alloc (.cells #[.slice A2 x2.length c2, .slice B2 y2.length d2] 95)) := below_alloc (Below.refl _ _) _
 have HE := Aside0.mk hE
 have HB2 := Aside0.mk (below_step HB.out hE)
 clear hE
 refine (bignat_Mul.calls 17000 A2 c2 x2 B2 d2 y2 n2 e2 _ (Kd.C_below Cx2.out HB2.out) Hx2.out (Kd.C_below Cy2.out HB2.out) Hy2.out M2.out).mono ?_
 rintro e m2 ⟨v_, rfl, hr_, hb2_⟩
 have HS := Aside0.mk (below_step HE.out hb2_)
 have HB3 := Aside0.mk (below_step HB.out HS.out)
 clear hb2_ HE HB2 HB
 have HB := HB3
 clear HB3
 obtain ⟨P2, q2, rfl⟩ := Kd.R_slice hr_
 have R2 := Aside0.mk hr_
 clear hr_
 clear g0
 clear g1
 clear g2
 clear g3
 clear g4
 clear g5
 replace R0 := Aside0.mk (Kd.R_below R0.out HS.out)
 replace R1 := Aside0.mk (Kd.R_below R1.out HS.out)
 replace O := Aside0.mk (own_row_below O.out HS.out)
 clear HS
 have g0 : m2.cell? ⟨b, 0, none⟩ = some (.slice A0 x0.length c0) := by
  have h := (HB.out.block b hl_.out).trans hb_.out
  simp [World.cell?, h]
 have g1 : m2.cell? ⟨b, 1, none⟩ = some (.slice B0 y0.length d0) := by
  have h := (HB.out.block b hl_.out).trans hb_.out
  simp [World.cell?, h]
 have g2 : m2.cell? ⟨b, 2, none⟩ = some (.slice A1 x1.length c1) := by
  have h := (HB.out.block b hl_.out).trans hb_.out
  simp [World.cell?, h]
 have g3 : m2.cell? ⟨b, 3, none⟩ = some (.slice B1 y1.length d1) := by
  have h := (HB.out.block b hl_.out).trans hb_.out
  simp [World.cell?, h]
 have g4 : m2.cell? ⟨b, 4, none⟩ = some (.slice A2 x2.length c2) := by
  have h := (HB.out.block b hl_.out).trans hb_.out
  simp [World.cell?, h]
 have g5 : m2.cell? ⟨b, 5, none⟩ = some (.slice B2 y2.length d2) := by
  have h := (HB.out.block b hl_.out).trans hb_.out
  simp [World.cell?, h]
 by_cases he2 : e2 = 0
 rotate_left 1
 ·have hz : (e2 != 0) = true := bne_iff_ne.2 he2
  have hz1 : (e2 == 0) = false := beq_eq_false_iff_ne.2 he2
  go_wp2_with fail
  go_ret2
  have hf : ok = false := by rw [hO.out]; simp [he2]
  exact ⟨fun h => absurd (hf.symm.trans h) (by decide), fun _ => rfl, HB.out⟩
 obtain rfl := he2
 go_wp2_with (first | (at_builtin; refine print_append_cells (w0 := w) w.heap.size rfl (.tmp 25) (.tmp 27) 68 23 (.slice none 0 0) 1 24 rfl Tryd.underlying68 info23 rfl (by decide) (by decide) u1 2 [.slice P0 n0.length q0, .slice P1 n1.length q1] [.slice P2 n2.length q2] rfl rfl rfl (by simp [Value.oneCell']) O.out HB.out (below_size HB.out) (by decide) ?_; intro u2 a2 ho_ hb2_ hg_ _; have O_ := Aside0.mk ho_; have HB_ := Aside0.mk hb2_; replace R0 := Aside0.mk (R_app R0.out O.out hg_); replace R1 := Aside0.mk (R_app R1.out O.out hg_); replace R2 := Aside0.mk (R_app R2.out O.out hg_); clear O HB g0 g1 g2 g3 g4 g5 hg_ ho_ hb2_; have O := O_; have HB := HB_; clear O_ HB_; have g0 : a2.cell? ⟨b, 0, none⟩ = some (.slice A0 x0.length c0) := (by have h := (HB.out.block b hl_.out).trans hb_.out; simp [World.cell?, h]); have g1 : a2.cell? ⟨b, 1, none⟩ = some (.slice B0 y0.length d0) := (by have h := (HB.out.block b hl_.out).trans hb_.out; simp [World.cell?, h]); have g2 : a2.cell? ⟨b, 2, none⟩ = some (.slice A1 x1.length c1) := (by have h := (HB.out.block b hl_.out).trans hb_.out; simp [World.cell?, h]); have g3 : a2.cell? ⟨b, 3, none⟩ = some (.slice B1 y1.length d1) := (by have h := (HB.out.block b hl_.out).trans hb_.out; simp [World.cell?, h]); have g4 : a2.cell? ⟨b, 4, none⟩ = some (.slice A2 x2.length c2) := (by have h := (HB.out.block b hl_.out).trans hb_.out; simp [World.cell?, h]); have g5 : a2.cell? ⟨b, 5, none⟩ = some (.slice B2 y2.length d2) := (by have h := (HB.out.block b hl_.out).trans hb_.out; simp [World.cell?, h])))
 rw [rounds_succ]
 go_wp2_with fail
 go_ret2
 have ht : ok = true := by rw [hO.out]; rfl
 exact ⟨fun _ => ⟨u2, P0, q0, P1, q1, P2, q2, rfl, O.out, ⟨(Kd.R_reads' R0.out).2.2, (Kd.R_reads' R0.out).2.1⟩, ⟨(Kd.R_reads' R1.out).2.2, (Kd.R_reads' R1.out).2.1⟩, ⟨(Kd.R_reads' R2.out).2.2, (Kd.R_reads' R2.out).2.1⟩⟩, fun h => absurd (ht.symm.trans h) (by decide), HB.out⟩

end Go.Proofs.YtoakfjcejamoeaaDoor.B
