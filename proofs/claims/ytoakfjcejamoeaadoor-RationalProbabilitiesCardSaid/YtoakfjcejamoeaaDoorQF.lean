/- Format, light and awake. -/
import Derived.Test.YtoakfjcejamoeaaDoorQE
import Derived.Test.YtoakfjcejamoeaaDoorQC
import Derived.Test.YtoakfjcejamoeaaDoorBx7
namespace Go.Proofs.YtoakfjcejamoeaaDoor.B
open Go.RowKit Go.Proofs.YtoakfjcejamoeaaDoorW.PrintWords Go.Proofs.YtoakfjcejamoeaaDoorW.PrintLast Go.Proofs.YtoakfjcejamoeaaDoorW.PrintMore
set_option exponentiation.threshold 8200
set_option linter.unusedVariables false
set_option linter.unusedSimpArgs false
/-- The text of a fraction. -/
def fmtT (s t : ByteArray) : ByteArray := if t = ⟨#[49]⟩ then s else s ++ ⟨#[47]⟩ ++ t

set_option maxHeartbeats 16000000 in
set_option maxRecDepth 100000 in
/-- Format. -/
theorem ratFormat_calls (A0 : Option Addr) (c0 : Nat) (l0 : List Int) (A1 : Option Addr) (c1 : Nat) (l1 : List Int) (s t r : ByteArray) (w : World) (hr0 : Kd.C (Kd.int .u32) w A0 l0.length l0) (hc0 : l0.length ≤ c0) (hr1 : Kd.C (Kd.int .u32) w A1 l1.length l1) (hc1 : l1.length ≤ c1) (ht_ : Tab w) (L0 : Bn.Limbs l0) (L1 : Bn.Limbs l1) (hf0 : bignat_Format.f 501 l0 = some s) (hf1 : bignat_Format.f 501 l1 = some t) (hs1 : s.size ≤ 1000000) (hs2 : t.size ≤ 1000000) (hr : r = if ratB l0 l1 = true then fmtT s t else ⟨#[]⟩) :
  Calls Tryd.prog 92 #[.agg #[.slice A0 l0.length c0, .slice A1 l1.length c1]] w fun e w' => e = .returned (.string r) ∧ Below w.heap.size w w' := by
 have HT_ := Aside0.mk ht_
 clear ht_
 have C0 := Aside0.mk hr0
 have H0 := Aside0.mk hc0
 clear hr0 hc0
 have C1 := Aside0.mk hr1
 have H1 := Aside0.mk hc1
 clear hr1 hc1
 have HB := Aside0.mk (Below.refl w.heap.size w)
 obtain ⟨p0, hp0⟩ : ∃ p, p = ratB l0 l1 := ⟨_, rfl⟩
 have hP0 := Aside0.mk (show Bn.Limbs l0 ∧ Bn.Limbs l1 ∧ p0 = ratB l0 l1 from ⟨L0, L1, hp0⟩)
 have hR := Aside0.mk (show (p0 = true → r = fmtT s t) ∧ (p0 = false → r = ⟨#[]⟩) from by
   rw [hr, hp0]
   exact ⟨fun e => if_pos e, fun e => if_neg (by rw [e]; decide)⟩)
 have F0 := Aside0.mk hf0
 have F1 := Aside0.mk hf1
 clear hp0 hr L0 L1 hf0 hf1
 go_enter Tryd.func92, Tryd.ntmps92
 go_wp2_with (first | ((with_reducible refine gate_dst (N := 1) rfl ?_); (try (refine gate_guard (by rfl) ?_; dsimp only)); refine box_event ?hg (N := 1) ?hd (.slice A0 l0.length c0) (.slice A1 l1.length c1) ?hr ?_; (case hd => rfl); (case hg => rfl); (case hr => first | (go_simp; done) | (go_simp; rfl)); intro ba wa1 hx_ hs_ hb_; skip; have Sa := Aside0.mk (Nat.le_trans (below_size HB.out) hs_); have Xa := Aside0.mk hx_; replace C0 := Aside0.mk (Kd.C_below C0.out hb_); replace C1 := Aside0.mk (Kd.C_below C1.out hb_); replace HB := Aside0.mk (below_step HB.out hb_); have qaa := Bx.c0 Xa.out; have qba := Bx.c1 Xa.out; clear hb_ hx_ hs_))
 refine (ratValid_calls A0 c0 l0 A1 c1 l1 p0 wa1 C0.out H0.out C1.out H1.out hP0.out.1 hP0.out.2.1 hP0.out.2.2).mono ?_
 rintro e wa2 ⟨rfl, hb_⟩
 replace C0 := Aside0.mk (Kd.C_below C0.out hb_)
 replace C1 := Aside0.mk (Kd.C_below C1.out hb_)
 clear qaa qba
 replace Xa := Aside0.mk (Bx.below Xa.out hb_)
 have qaa := Bx.c0 Xa.out
 have qba := Bx.c1 Xa.out
 replace HB := Aside0.mk (below_step HB.out hb_)
 clear hb_
 cases p0 with
 | false =>
  obtain rfl := hR.out.2 (by trivial)
  go_wp2_with fail
  go_ret
  exact ⟨rfl, HB.out⟩
 | true =>
  obtain rfl := hR.out.1 (by trivial)
  clear hR
  go_wp2_with fail
  refine (bignat_Format.calls 501 A0 c0 l0 s wa2 C0.out H0.out F0.out (HT_.out.below HB.out)).mono ?_
  rintro e wa3 ⟨rfl, hb_⟩
  replace C0 := Aside0.mk (Kd.C_below C0.out hb_)
  replace C1 := Aside0.mk (Kd.C_below C1.out hb_)
  clear qaa qba
  replace Xa := Aside0.mk (Bx.below Xa.out hb_)
  have qaa := Bx.c0 Xa.out
  have qba := Bx.c1 Xa.out
  replace HB := Aside0.mk (below_step HB.out hb_)
  clear hb_
  go_wp2_with fail
  refine (bignat_Format.calls 501 A1 c1 l1 t wa3 C1.out H1.out F1.out (HT_.out.below HB.out)).mono ?_
  rintro e wa4 ⟨rfl, hb_⟩
  replace C0 := Aside0.mk (Kd.C_below C0.out hb_)
  replace C1 := Aside0.mk (Kd.C_below C1.out hb_)
  clear qaa qba
  replace Xa := Aside0.mk (Bx.below Xa.out hb_)
  have qaa := Bx.c0 Xa.out
  have qba := Bx.c1 Xa.out
  replace HB := Aside0.mk (below_step HB.out hb_)
  clear hb_
  by_cases ht1 : t = ⟨#[49]⟩
  ·have e_ := Aside0.mk (show fmtT s t = s from if_pos ht1)
   obtain rfl := ht1
   go_wp2_with fail
   go_ret
   rw [e_.out]
   exact ⟨rfl, HB.out⟩
  ·have e_ := Aside0.mk (show fmtT s t = s ++ ⟨#[47]⟩ ++ t from if_neg ht1)
   have z2 : (t.toList == [49]) = false := by
    rw [beq_eq_false_iff_ne, ByteArray.toList_eq]
    intro h
    exact ht1 (WideShapes.bytes_inj (a := t) (b := ⟨#[49]⟩) h)
   have z1 : (s ++ (⟨#[47]⟩ : ByteArray)).size = s.size + 1 := by rw [ByteArray.size_append]; rfl
   go_wp2_with fail
   go_ret
   rw [e_.out]
   exact ⟨rfl, HB.out⟩

set_option maxHeartbeats 16000000 in
set_option maxRecDepth 100000 in
/-- light, of 1 fractions. -/
theorem light1_calls (A0 : Option Addr) (c0 : Nat) (x0 : List Int) (B0 : Option Addr) (d0 : Nat) (y0 : List Int) (f0 : Bool) (b : Nat) (w : World) (hf0 : f0 = (decide ((x0.length : Int) ≤ 4) && decide ((y0.length : Int) ≤ 4))) (hb : w.heap[b]? = some (.cells #[.slice A0 x0.length c0, .slice B0 y0.length d0] 48)) :
  Calls Tryd.prog 46 #[.slice (some ⟨b, 0, none⟩) 1 1] w fun e w' => e = .returned (.bool (f0)) ∧ Below w.heap.size w w' := by
 have hb_ := Aside0.mk hb
 have hl_ := Aside0.mk (show b < w.heap.size from (Array.getElem?_eq_some_iff.1 hb).1)
 have HB := Aside0.mk (Below.refl w.heap.size w)
 have hF0 := Aside0.mk hf0
 clear hf0
 clear hb
 have g0 : w.cell? ⟨b, 0, none⟩ = some (.slice A0 x0.length c0) := by
  have h := hb_.out
  simp [World.cell?, h]
 have g1 : w.cell? ⟨b, 1, none⟩ = some (.slice B0 y0.length d0) := by
  have h := hb_.out
  simp [World.cell?, h]
 go_enter Tryd.func46, Tryd.ntmps46
 go_wp2_with fail
 refine wp_loop_rounds 2 ?_
 rw [rounds_succ]
 go_wp2_with fail
 refine (Few_calls A0 c0 x0 B0 d0 y0 4 f0 w hF0.out).mono ?_
 rintro e wa0 ⟨rfl, hb_2⟩
 have HB_ := Aside0.mk (below_step HB.out hb_2)
 clear HB hb_2
 have HB := HB_
 clear HB_
 clear g0
 clear g1
 have g0 : wa0.cell? ⟨b, 0, none⟩ = some (.slice A0 x0.length c0) := by
  have h := (HB.out.block b hl_.out).trans hb_.out
  simp [World.cell?, h]
 have g1 : wa0.cell? ⟨b, 1, none⟩ = some (.slice B0 y0.length d0) := by
  have h := (HB.out.block b hl_.out).trans hb_.out
  simp [World.cell?, h]
 cases f0 with
 | false =>
  go_wp2_with fail
  go_ret
  exact ⟨by simp, HB.out⟩
 | true =>
  go_wp2_with fail
  rw [rounds_succ]
  go_wp2_with fail
  go_ret
  exact ⟨by simp, HB.out⟩

set_option maxHeartbeats 16000000 in
set_option maxRecDepth 100000 in
/-- light, of 2 fractions. -/
theorem light2_calls (A0 : Option Addr) (c0 : Nat) (x0 : List Int) (B0 : Option Addr) (d0 : Nat) (y0 : List Int) (f0 : Bool) (A1 : Option Addr) (c1 : Nat) (x1 : List Int) (B1 : Option Addr) (d1 : Nat) (y1 : List Int) (f1 : Bool) (b : Nat) (w : World) (hf0 : f0 = (decide ((x0.length : Int) ≤ 4) && decide ((y0.length : Int) ≤ 4))) (hf1 : f1 = (decide ((x1.length : Int) ≤ 4) && decide ((y1.length : Int) ≤ 4))) (hb : w.heap[b]? = some (.cells #[.slice A0 x0.length c0, .slice B0 y0.length d0, .slice A1 x1.length c1, .slice B1 y1.length d1] 48)) :
  Calls Tryd.prog 46 #[.slice (some ⟨b, 0, none⟩) 2 2] w fun e w' => e = .returned (.bool (f0 && f1)) ∧ Below w.heap.size w w' := by
 have hb_ := Aside0.mk hb
 have hl_ := Aside0.mk (show b < w.heap.size from (Array.getElem?_eq_some_iff.1 hb).1)
 have HB := Aside0.mk (Below.refl w.heap.size w)
 have hF0 := Aside0.mk hf0
 clear hf0
 have hF1 := Aside0.mk hf1
 clear hf1
 clear hb
 have g0 : w.cell? ⟨b, 0, none⟩ = some (.slice A0 x0.length c0) := by
  have h := hb_.out
  simp [World.cell?, h]
 have g1 : w.cell? ⟨b, 1, none⟩ = some (.slice B0 y0.length d0) := by
  have h := hb_.out
  simp [World.cell?, h]
 have g2 : w.cell? ⟨b, 2, none⟩ = some (.slice A1 x1.length c1) := by
  have h := hb_.out
  simp [World.cell?, h]
 have g3 : w.cell? ⟨b, 3, none⟩ = some (.slice B1 y1.length d1) := by
  have h := hb_.out
  simp [World.cell?, h]
 go_enter Tryd.func46, Tryd.ntmps46
 go_wp2_with fail
 refine wp_loop_rounds 3 ?_
 rw [rounds_succ]
 go_wp2_with fail
 refine (Few_calls A0 c0 x0 B0 d0 y0 4 f0 w hF0.out).mono ?_
 rintro e wa0 ⟨rfl, hb_2⟩
 have HB_ := Aside0.mk (below_step HB.out hb_2)
 clear HB hb_2
 have HB := HB_
 clear HB_
 clear g0
 clear g1
 clear g2
 clear g3
 have g0 : wa0.cell? ⟨b, 0, none⟩ = some (.slice A0 x0.length c0) := by
  have h := (HB.out.block b hl_.out).trans hb_.out
  simp [World.cell?, h]
 have g1 : wa0.cell? ⟨b, 1, none⟩ = some (.slice B0 y0.length d0) := by
  have h := (HB.out.block b hl_.out).trans hb_.out
  simp [World.cell?, h]
 have g2 : wa0.cell? ⟨b, 2, none⟩ = some (.slice A1 x1.length c1) := by
  have h := (HB.out.block b hl_.out).trans hb_.out
  simp [World.cell?, h]
 have g3 : wa0.cell? ⟨b, 3, none⟩ = some (.slice B1 y1.length d1) := by
  have h := (HB.out.block b hl_.out).trans hb_.out
  simp [World.cell?, h]
 cases f0 with
 | false =>
  go_wp2_with fail
  go_ret
  exact ⟨by simp, HB.out⟩
 | true =>
  go_wp2_with fail
  rw [rounds_succ]
  go_wp2_with fail
  refine (Few_calls A1 c1 x1 B1 d1 y1 4 f1 wa0 hF1.out).mono ?_
  rintro e wa1 ⟨rfl, hb_2⟩
  have HB_ := Aside0.mk (below_step HB.out hb_2)
  clear HB hb_2
  have HB := HB_
  clear HB_
  clear g0
  clear g1
  clear g2
  clear g3
  have g0 : wa1.cell? ⟨b, 0, none⟩ = some (.slice A0 x0.length c0) := by
   have h := (HB.out.block b hl_.out).trans hb_.out
   simp [World.cell?, h]
  have g1 : wa1.cell? ⟨b, 1, none⟩ = some (.slice B0 y0.length d0) := by
   have h := (HB.out.block b hl_.out).trans hb_.out
   simp [World.cell?, h]
  have g2 : wa1.cell? ⟨b, 2, none⟩ = some (.slice A1 x1.length c1) := by
   have h := (HB.out.block b hl_.out).trans hb_.out
   simp [World.cell?, h]
  have g3 : wa1.cell? ⟨b, 3, none⟩ = some (.slice B1 y1.length d1) := by
   have h := (HB.out.block b hl_.out).trans hb_.out
   simp [World.cell?, h]
  cases f1 with
  | false =>
   go_wp2_with fail
   go_ret
   exact ⟨by simp, HB.out⟩
  | true =>
   go_wp2_with fail
   rw [rounds_succ]
   go_wp2_with fail
   go_ret
   exact ⟨by simp, HB.out⟩

set_option maxHeartbeats 16000000 in
set_option maxRecDepth 100000 in
/-- light, of 3 fractions. -/
theorem light3_calls (A0 : Option Addr) (c0 : Nat) (x0 : List Int) (B0 : Option Addr) (d0 : Nat) (y0 : List Int) (f0 : Bool) (A1 : Option Addr) (c1 : Nat) (x1 : List Int) (B1 : Option Addr) (d1 : Nat) (y1 : List Int) (f1 : Bool) (A2 : Option Addr) (c2 : Nat) (x2 : List Int) (B2 : Option Addr) (d2 : Nat) (y2 : List Int) (f2 : Bool) (b : Nat) (w : World) (hf0 : f0 = (decide ((x0.length : Int) ≤ 4) && decide ((y0.length : Int) ≤ 4))) (hf1 : f1 = (decide ((x1.length : Int) ≤ 4) && decide ((y1.length : Int) ≤ 4))) (hf2 : f2 = (decide ((x2.length : Int) ≤ 4) && decide ((y2.length : Int) ≤ 4))) (hb : w.heap[b]? = some (.cells #[.slice A0 x0.length c0, .slice B0 y0.length d0, .slice A1 x1.length c1, .slice B1 y1.length d1, .slice A2 x2.length c2, .slice B2 y2.length d2] 48)) :
  Calls Tryd.prog 46 #[.slice (some ⟨b, 0, none⟩) 3 3] w fun e w' => e = .returned (.bool (f0 && f1 && f2)) ∧ Below w.heap.size w w' := by
 have hb_ := Aside0.mk hb
 have hl_ := Aside0.mk (show b < w.heap.size from (Array.getElem?_eq_some_iff.1 hb).1)
 have HB := Aside0.mk (Below.refl w.heap.size w)
 have hF0 := Aside0.mk hf0
 clear hf0
 have hF1 := Aside0.mk hf1
 clear hf1
 have hF2 := Aside0.mk hf2
 clear hf2
 clear hb
 have g0 : w.cell? ⟨b, 0, none⟩ = some (.slice A0 x0.length c0) := by
  have h := hb_.out
  simp [World.cell?, h]
 have g1 : w.cell? ⟨b, 1, none⟩ = some (.slice B0 y0.length d0) := by
  have h := hb_.out
  simp [World.cell?, h]
 have g2 : w.cell? ⟨b, 2, none⟩ = some (.slice A1 x1.length c1) := by
  have h := hb_.out
  simp [World.cell?, h]
 have g3 : w.cell? ⟨b, 3, none⟩ = some (.slice B1 y1.length d1) := by
  have h := hb_.out
  simp [World.cell?, h]
 have g4 : w.cell? ⟨b, 4, none⟩ = some (.slice A2 x2.length c2) := by
  have h := hb_.out
  simp [World.cell?, h]
 have g5 : w.cell? ⟨b, 5, none⟩ = some (.slice B2 y2.length d2) := by
  have h := hb_.out
  simp [World.cell?, h]
 go_enter Tryd.func46, Tryd.ntmps46
 go_wp2_with fail
 refine wp_loop_rounds 4 ?_
 rw [rounds_succ]
 go_wp2_with fail
 refine (Few_calls A0 c0 x0 B0 d0 y0 4 f0 w hF0.out).mono ?_
 rintro e wa0 ⟨rfl, hb_2⟩
 have HB_ := Aside0.mk (below_step HB.out hb_2)
 clear HB hb_2
 have HB := HB_
 clear HB_
 clear g0
 clear g1
 clear g2
 clear g3
 clear g4
 clear g5
 have g0 : wa0.cell? ⟨b, 0, none⟩ = some (.slice A0 x0.length c0) := by
  have h := (HB.out.block b hl_.out).trans hb_.out
  simp [World.cell?, h]
 have g1 : wa0.cell? ⟨b, 1, none⟩ = some (.slice B0 y0.length d0) := by
  have h := (HB.out.block b hl_.out).trans hb_.out
  simp [World.cell?, h]
 have g2 : wa0.cell? ⟨b, 2, none⟩ = some (.slice A1 x1.length c1) := by
  have h := (HB.out.block b hl_.out).trans hb_.out
  simp [World.cell?, h]
 have g3 : wa0.cell? ⟨b, 3, none⟩ = some (.slice B1 y1.length d1) := by
  have h := (HB.out.block b hl_.out).trans hb_.out
  simp [World.cell?, h]
 have g4 : wa0.cell? ⟨b, 4, none⟩ = some (.slice A2 x2.length c2) := by
  have h := (HB.out.block b hl_.out).trans hb_.out
  simp [World.cell?, h]
 have g5 : wa0.cell? ⟨b, 5, none⟩ = some (.slice B2 y2.length d2) := by
  have h := (HB.out.block b hl_.out).trans hb_.out
  simp [World.cell?, h]
 cases f0 with
 | false =>
  go_wp2_with fail
  go_ret
  exact ⟨by simp, HB.out⟩
 | true =>
  go_wp2_with fail
  rw [rounds_succ]
  go_wp2_with fail
  refine (Few_calls A1 c1 x1 B1 d1 y1 4 f1 wa0 hF1.out).mono ?_
  rintro e wa1 ⟨rfl, hb_2⟩
  have HB_ := Aside0.mk (below_step HB.out hb_2)
  clear HB hb_2
  have HB := HB_
  clear HB_
  clear g0
  clear g1
  clear g2
  clear g3
  clear g4
  clear g5
  have g0 : wa1.cell? ⟨b, 0, none⟩ = some (.slice A0 x0.length c0) := by
   have h := (HB.out.block b hl_.out).trans hb_.out
   simp [World.cell?, h]
  have g1 : wa1.cell? ⟨b, 1, none⟩ = some (.slice B0 y0.length d0) := by
   have h := (HB.out.block b hl_.out).trans hb_.out
   simp [World.cell?, h]
  have g2 : wa1.cell? ⟨b, 2, none⟩ = some (.slice A1 x1.length c1) := by
   have h := (HB.out.block b hl_.out).trans hb_.out
   simp [World.cell?, h]
  have g3 : wa1.cell? ⟨b, 3, none⟩ = some (.slice B1 y1.length d1) := by
   have h := (HB.out.block b hl_.out).trans hb_.out
   simp [World.cell?, h]
  have g4 : wa1.cell? ⟨b, 4, none⟩ = some (.slice A2 x2.length c2) := by
   have h := (HB.out.block b hl_.out).trans hb_.out
   simp [World.cell?, h]
  have g5 : wa1.cell? ⟨b, 5, none⟩ = some (.slice B2 y2.length d2) := by
   have h := (HB.out.block b hl_.out).trans hb_.out
   simp [World.cell?, h]
  cases f1 with
  | false =>
   go_wp2_with fail
   go_ret
   exact ⟨by simp, HB.out⟩
  | true =>
   go_wp2_with fail
   rw [rounds_succ]
   go_wp2_with fail
   refine (Few_calls A2 c2 x2 B2 d2 y2 4 f2 wa1 hF2.out).mono ?_
   rintro e wa2 ⟨rfl, hb_2⟩
   have HB_ := Aside0.mk (below_step HB.out hb_2)
   clear HB hb_2
   have HB := HB_
   clear HB_
   clear g0
   clear g1
   clear g2
   clear g3
   clear g4
   clear g5
   have g0 : wa2.cell? ⟨b, 0, none⟩ = some (.slice A0 x0.length c0) := by
    have h := (HB.out.block b hl_.out).trans hb_.out
    simp [World.cell?, h]
   have g1 : wa2.cell? ⟨b, 1, none⟩ = some (.slice B0 y0.length d0) := by
    have h := (HB.out.block b hl_.out).trans hb_.out
    simp [World.cell?, h]
   have g2 : wa2.cell? ⟨b, 2, none⟩ = some (.slice A1 x1.length c1) := by
    have h := (HB.out.block b hl_.out).trans hb_.out
    simp [World.cell?, h]
   have g3 : wa2.cell? ⟨b, 3, none⟩ = some (.slice B1 y1.length d1) := by
    have h := (HB.out.block b hl_.out).trans hb_.out
    simp [World.cell?, h]
   have g4 : wa2.cell? ⟨b, 4, none⟩ = some (.slice A2 x2.length c2) := by
    have h := (HB.out.block b hl_.out).trans hb_.out
    simp [World.cell?, h]
   have g5 : wa2.cell? ⟨b, 5, none⟩ = some (.slice B2 y2.length d2) := by
    have h := (HB.out.block b hl_.out).trans hb_.out
    simp [World.cell?, h]
   cases f2 with
   | false =>
    go_wp2_with fail
    go_ret
    exact ⟨by simp, HB.out⟩
   | true =>
    go_wp2_with fail
    rw [rounds_succ]
    go_wp2_with fail
    go_ret
    exact ⟨by simp, HB.out⟩

theorem limbsS {n : Nat} (h : n ≠ 0) (h2 : n < 4294967296) : Bn.limbs n = [(n : Int)] := limbs_one h h2
theorem fitsS {n : Nat} (h : n ≠ 0) (h2 : n < 4294967296) : fitsB n = true := by
 unfold fitsB
 rw [limbsS h h2]
 rfl
theorem redS {n d g a b : Nat} (hg : Nat.gcd n d = g) (ha : n / g = a) (hb : d / g = b) (ha0 : a ≠ 0) (hb0 : b ≠ 0) (ha1 : a < 4294967296) (hb1 : b < 4294967296) : redB n d = ([(a : Int)], [(b : Int)]) := by
 unfold redB
 rw [hg, ha, hb, limbsS ha0 ha1, limbsS hb0 hb1]
theorem aw_n1 : newB (Bn.limbs 6) (Bn.limbs 16) = (([3], [8]), 0) := by
 rw [newB_limbs (fitsS (by decide) (by decide)) (fitsS (by decide) (by decide)) (by decide), redS (g := 2) (a := 3) (b := 8) (by decide) (by decide) (by decide) (by decide) (by decide) (by decide) (by decide)]
 rfl
theorem aw_n2 : newB (Bn.limbs 1) (Bn.limbs 8) = (([1], [8]), 0) := by
 rw [newB_limbs (fitsS (by decide) (by decide)) (fitsS (by decide) (by decide)) (by decide), redS (g := 1) (a := 1) (b := 8) (by decide) (by decide) (by decide) (by decide) (by decide) (by decide) (by decide)]
 rfl
theorem aw_n3 : newB (Bn.limbs 2) (Bn.limbs 3) = (([2], [3]), 0) := by
 rw [newB_limbs (fitsS (by decide) (by decide)) (fitsS (by decide) (by decide)) (by decide), redS (g := 1) (a := 2) (b := 3) (by decide) (by decide) (by decide) (by decide) (by decide) (by decide) (by decide)]
 rfl
theorem aw_r1 : ratB [3] [8] = true := by decide +kernel
theorem aw_r2 : ratB [1] [8] = true := by decide +kernel
theorem aw_r3 : ratB [2] [3] = true := by decide +kernel
theorem aw_r4 : ratB [1] [2] = true := by decide +kernel
theorem aw_r5 : ratB [5] [8] = true := by decide +kernel
theorem aw_add : addR [3] [8] [1] [8] = (([1], [2]), 0) := by
 have e : Bn.nv [3] = 3 ∧ Bn.nv [8] = 8 ∧ Bn.nv [1] = 1 := by decide
 unfold addR
 rw [if_pos ⟨aw_r1, aw_r2⟩, e.1, e.2.1, e.2.2, if_pos ⟨fitsS (by decide) (by decide), fitsS (by decide) (by decide), fitsS (by decide) (by decide), fitsS (by decide) (by decide)⟩, redS (g := 32) (a := 1) (b := 2) (by decide) (by decide) (by decide) (by decide) (by decide) (by decide) (by decide)]
 rfl
theorem aw_comp : compR [3] [8] = (([5], [8]), 0) := by
 have e : Bn.nv [3] = 3 ∧ Bn.nv [8] = 8 := by decide
 unfold compR
 rw [if_pos aw_r1, e.1, e.2, if_pos (by decide), limbsS (by decide) (by decide)]
 rfl
theorem aw_perm : permR [2] [3] = 666 := by
 unfold permR permN
 rw [if_pos aw_r3]
 decide
theorem aw_fmt1 (d : Nat) (hd : d ≠ 0) (hd2 : d < 10) : bignat_Format.f 501 [(d : Int)] = some ⟨(Lib.decDigits d).toArray⟩ := by
 have hl : Bn.Limbs [(d : Int)] := Bn.Limbs.mk (by omega) Bn.Limbs.nil
 rw [Format_f hl (by decide)]
 have hv : validB [(d : Int)] = true := by
  have h := validB_limbs (n := d) (by rw [limbsS hd (by omega)]; simp)
  rwa [limbsS hd (by omega)] at h
 rw [vv_valid hv]
 simp [Bn.nv]
theorem aw_limbs (d : Nat) (hd : d < 4294967296) : Bn.Limbs [(d : Int)] := Bn.Limbs.mk (by omega) Bn.Limbs.nil
theorem aw_f1 : bignat_Format.f 501 [1] = some ⟨#[49]⟩ := by have h := aw_fmt1 1 (by decide) (by decide); simpa [Lib.decDigits] using h
theorem aw_f2 : bignat_Format.f 501 [2] = some ⟨#[50]⟩ := by have h := aw_fmt1 2 (by decide) (by decide); simpa [Lib.decDigits] using h
theorem aw_f3 : bignat_Format.f 501 [3] = some ⟨#[51]⟩ := by have h := aw_fmt1 3 (by decide) (by decide); simpa [Lib.decDigits] using h
theorem aw_f5 : bignat_Format.f 501 [5] = some ⟨#[53]⟩ := by have h := aw_fmt1 5 (by decide) (by decide); simpa [Lib.decDigits] using h
theorem aw_f8 : bignat_Format.f 501 [8] = some ⟨#[56]⟩ := by have h := aw_fmt1 8 (by decide) (by decide); simpa [Lib.decDigits] using h
theorem aw_t1 : (if ratB [3] [8] = true then fmtT ⟨#[51]⟩ ⟨#[56]⟩ else ⟨#[]⟩) = (⟨#[51, 47, 56]⟩ : ByteArray) := by rw [if_pos aw_r1]; decide +kernel
theorem aw_t2 : (if ratB [1] [2] = true then fmtT ⟨#[49]⟩ ⟨#[50]⟩ else ⟨#[]⟩) = (⟨#[49, 47, 50]⟩ : ByteArray) := by rw [if_pos aw_r4]; decide +kernel
theorem aw_t3 : (if ratB [5] [8] = true then fmtT ⟨#[53]⟩ ⟨#[56]⟩ else ⟨#[]⟩) = (⟨#[53, 47, 56]⟩ : ByteArray) := by rw [if_pos aw_r5]; decide +kernel

set_option maxHeartbeats 16000000 in
set_option maxRecDepth 100000 in
/-- The examples hold. -/
theorem awake10_calls   (w : World)  (ht_ : Tab w)  :
  Calls Tryd.prog 42 #[] w fun e w' => e = .returned (.bool true) ∧ Below w.heap.size w w' := by
 have HT_ := Aside0.mk ht_
 clear ht_
 have HB := Aside0.mk (Below.refl w.heap.size w)
 go_enter Tryd.func42, Tryd.ntmps42
 go_wp2_with fail
 refine (FromInts_calls 6 16 [3] [8] 0 w (by decide) (by decide) aw_n1).mono ?_
 rintro e wa1 ⟨Aan, can, Aad, cad, rfl, hCan_, hHan_, hCad_, hHad_, hb_⟩
 replace HB := Aside0.mk (below_step HB.out hb_)
 have Can := Aside0.mk hCan_
 have Han := Aside0.mk hHan_
 clear hCan_ hHan_
 have Cad := Aside0.mk hCad_
 have Had := Aside0.mk hHad_
 clear hCad_ hHad_
 clear hb_
 go_wp2_with (first | ((with_reducible refine gate_dst (N := 1) rfl ?_); (try (refine gate_guard (by rfl) ?_; dsimp only)); refine box_event ?hg (N := 1) ?hd (.slice none 0 0) (.slice none 0 0) ?hr ?_; (case hd => rfl); (case hg => rfl); (case hr => first | (go_simp; done) | (go_simp; rfl)); intro ba wa2 hx_ hs_ hb_; skip; have Sa := Aside0.mk (Nat.le_trans (below_size HB.out) hs_); have Xa := Aside0.mk hx_; replace Can := Aside0.mk (Kd.C_below Can.out hb_); replace Cad := Aside0.mk (Kd.C_below Cad.out hb_); replace HB := Aside0.mk (below_step HB.out hb_); have qaa := Bx.c0 Xa.out; have qba := Bx.c1 Xa.out; have qca := Bx.f0 Xa.out; have qda := Bx.f1 Xa.out; clear hb_ hx_ hs_) | (refine store_event (by rfl) (by rfl) Xa.out (.slice Aan 1 can) (.slice Aad 1 cad) ?hr ?_; (case hr => first | (go_simp; done) | (go_simp; rfl)); intro wa3 he_ hx_; replace Can := Aside0.mk (C_store Xa.out Can.out (.slice Aan 1 can) (.slice Aad 1 cad)); replace Cad := Aside0.mk (C_store Xa.out Cad.out (.slice Aan 1 can) (.slice Aad 1 cad)); clear qaa qba; clear qca qda; replace HB := Aside0.mk (below_set (j := 1) (v := (.slice Aad 1 cad)) (below_set (j := 0) (v := (.slice Aan 1 can)) HB.out Sa.out) Sa.out); clear Xa; have Xa := Aside0.mk hx_; have qaa := Bx.c0 Xa.out; have qba := Bx.c1 Xa.out; have qca := Bx.f0 Xa.out; have qda := Bx.f1 Xa.out; generalize (wa2.setCell ⟨ba, 0, none⟩ (.slice Aan 1 can)).setCell ⟨ba, 1, none⟩ (.slice Aad 1 cad) = wg_ at *; subst he_; clear hx_))
 refine (FromInts_calls 1 8 [1] [8] 0 wa3 (by decide) (by decide) aw_n2).mono ?_
 rintro e wa4 ⟨Abn, cbn, Abd, cbd, rfl, hCbn_, hHbn_, hCbd_, hHbd_, hb_⟩
 replace Can := Aside0.mk (Kd.C_below Can.out hb_)
 replace Cad := Aside0.mk (Kd.C_below Cad.out hb_)
 clear qaa qba
 clear qca qda
 replace Xa := Aside0.mk (Bx.below Xa.out hb_)
 have qaa := Bx.c0 Xa.out
 have qba := Bx.c1 Xa.out
 have qca := Bx.f0 Xa.out
 have qda := Bx.f1 Xa.out
 replace HB := Aside0.mk (below_step HB.out hb_)
 have Cbn := Aside0.mk hCbn_
 have Hbn := Aside0.mk hHbn_
 clear hCbn_ hHbn_
 have Cbd := Aside0.mk hCbd_
 have Hbd := Aside0.mk hHbd_
 clear hCbd_ hHbd_
 clear hb_
 go_wp2_with (first | ((with_reducible refine gate_dst (N := 3) rfl ?_); (try (refine gate_guard (by rfl) ?_; dsimp only)); refine box_event ?hg (N := 3) ?hd (.slice none 0 0) (.slice none 0 0) ?hr ?_; (case hd => rfl); (case hg => rfl); (case hr => first | (go_simp; done) | (go_simp; rfl)); intro bb wa5 hx_ hs_ hb_; have Nab := Aside0.mk (Bx.ne Xa.out hs_); skip; have Sb := Aside0.mk (Nat.le_trans (below_size HB.out) hs_); have Xb := Aside0.mk hx_; replace Can := Aside0.mk (Kd.C_below Can.out hb_); replace Cad := Aside0.mk (Kd.C_below Cad.out hb_); replace Cbn := Aside0.mk (Kd.C_below Cbn.out hb_); replace Cbd := Aside0.mk (Kd.C_below Cbd.out hb_); clear qaa qba; clear qca qda; replace Xa := Aside0.mk (Bx.below Xa.out hb_); have qaa := Bx.c0 Xa.out; have qba := Bx.c1 Xa.out; have qca := Bx.f0 Xa.out; have qda := Bx.f1 Xa.out; replace HB := Aside0.mk (below_step HB.out hb_); have qab := Bx.c0 Xb.out; have qbb := Bx.c1 Xb.out; have qcb := Bx.f0 Xb.out; have qdb := Bx.f1 Xb.out; clear hb_ hx_ hs_) | (refine store_event (by rfl) (by rfl) Xb.out (.slice Abn 1 cbn) (.slice Abd 1 cbd) ?hr ?_; (case hr => first | (go_simp; done) | (go_simp; rfl)); intro wa6 he_ hx_; replace Can := Aside0.mk (C_store Xb.out Can.out (.slice Abn 1 cbn) (.slice Abd 1 cbd)); replace Cad := Aside0.mk (C_store Xb.out Cad.out (.slice Abn 1 cbn) (.slice Abd 1 cbd)); replace Cbn := Aside0.mk (C_store Xb.out Cbn.out (.slice Abn 1 cbn) (.slice Abd 1 cbd)); replace Cbd := Aside0.mk (C_store Xb.out Cbd.out (.slice Abn 1 cbn) (.slice Abd 1 cbd)); clear qaa qba; clear qca qda; replace Xa := Aside0.mk (Bx.other Xa.out Nab.out (.slice Abn 1 cbn) (.slice Abd 1 cbd)); clear qab qbb; clear qcb qdb; replace HB := Aside0.mk (below_set (j := 1) (v := (.slice Abd 1 cbd)) (below_set (j := 0) (v := (.slice Abn 1 cbn)) HB.out Sb.out) Sb.out); clear Xb; have Xb := Aside0.mk hx_; have qaa := Bx.c0 Xa.out; have qba := Bx.c1 Xa.out; have qca := Bx.f0 Xa.out; have qda := Bx.f1 Xa.out; have qab := Bx.c0 Xb.out; have qbb := Bx.c1 Xb.out; have qcb := Bx.f0 Xb.out; have qdb := Bx.f1 Xb.out; generalize (wa5.setCell ⟨bb, 0, none⟩ (.slice Abn 1 cbn)).setCell ⟨bb, 1, none⟩ (.slice Abd 1 cbd) = wg_ at *; subst he_; clear hx_))
 refine (ratAdd_calls Aan can ([3] : List Int) Aad cad ([8] : List Int) Abn cbn ([1] : List Int) Abd cbd ([8] : List Int) [1] [2] 0 wa6 Can.out Han.out Cad.out Had.out Cbn.out Hbn.out Cbd.out Hbd.out (aw_limbs 3 (by decide)) (aw_limbs 8 (by decide)) (aw_limbs 1 (by decide)) (aw_limbs 8 (by decide)) aw_add).mono ?_
 rintro e wa7 ⟨Acn, ccn, Acd, ccd, rfl, hCcn_, hHcn_, hCcd_, hHcd_, hb_⟩
 replace Can := Aside0.mk (Kd.C_below Can.out hb_)
 replace Cad := Aside0.mk (Kd.C_below Cad.out hb_)
 replace Cbn := Aside0.mk (Kd.C_below Cbn.out hb_)
 replace Cbd := Aside0.mk (Kd.C_below Cbd.out hb_)
 clear qaa qba
 clear qca qda
 replace Xa := Aside0.mk (Bx.below Xa.out hb_)
 have qaa := Bx.c0 Xa.out
 have qba := Bx.c1 Xa.out
 have qca := Bx.f0 Xa.out
 have qda := Bx.f1 Xa.out
 clear qab qbb
 clear qcb qdb
 replace Xb := Aside0.mk (Bx.below Xb.out hb_)
 have qab := Bx.c0 Xb.out
 have qbb := Bx.c1 Xb.out
 have qcb := Bx.f0 Xb.out
 have qdb := Bx.f1 Xb.out
 replace HB := Aside0.mk (below_step HB.out hb_)
 have Ccn := Aside0.mk hCcn_
 have Hcn := Aside0.mk hHcn_
 clear hCcn_ hHcn_
 have Ccd := Aside0.mk hCcd_
 have Hcd := Aside0.mk hHcd_
 clear hCcd_ hHcd_
 clear hb_
 go_wp2_with (first | ((with_reducible refine gate_dst (N := 5) rfl ?_); (try (refine gate_guard (by rfl) ?_; dsimp only)); refine box_event ?hg (N := 5) ?hd (.slice none 0 0) (.slice none 0 0) ?hr ?_; (case hd => rfl); (case hg => rfl); (case hr => first | (go_simp; done) | (go_simp; rfl)); intro bc wa8 hx_ hs_ hb_; have Nac := Aside0.mk (Bx.ne Xa.out hs_); have Nbc := Aside0.mk (Bx.ne Xb.out hs_); skip; have Sc := Aside0.mk (Nat.le_trans (below_size HB.out) hs_); have Xc := Aside0.mk hx_; replace Can := Aside0.mk (Kd.C_below Can.out hb_); replace Cad := Aside0.mk (Kd.C_below Cad.out hb_); replace Cbn := Aside0.mk (Kd.C_below Cbn.out hb_); replace Cbd := Aside0.mk (Kd.C_below Cbd.out hb_); replace Ccn := Aside0.mk (Kd.C_below Ccn.out hb_); replace Ccd := Aside0.mk (Kd.C_below Ccd.out hb_); clear qaa qba; clear qca qda; replace Xa := Aside0.mk (Bx.below Xa.out hb_); have qaa := Bx.c0 Xa.out; have qba := Bx.c1 Xa.out; have qca := Bx.f0 Xa.out; have qda := Bx.f1 Xa.out; clear qab qbb; clear qcb qdb; replace Xb := Aside0.mk (Bx.below Xb.out hb_); have qab := Bx.c0 Xb.out; have qbb := Bx.c1 Xb.out; have qcb := Bx.f0 Xb.out; have qdb := Bx.f1 Xb.out; replace HB := Aside0.mk (below_step HB.out hb_); have qac := Bx.c0 Xc.out; have qbc := Bx.c1 Xc.out; have qcc := Bx.f0 Xc.out; have qdc := Bx.f1 Xc.out; clear hb_ hx_ hs_) | (refine store_event (by rfl) (by rfl) Xc.out (.slice Acn 1 ccn) (.slice Acd 1 ccd) ?hr ?_; (case hr => first | (go_simp; done) | (go_simp; rfl)); intro wa9 he_ hx_; replace Can := Aside0.mk (C_store Xc.out Can.out (.slice Acn 1 ccn) (.slice Acd 1 ccd)); replace Cad := Aside0.mk (C_store Xc.out Cad.out (.slice Acn 1 ccn) (.slice Acd 1 ccd)); replace Cbn := Aside0.mk (C_store Xc.out Cbn.out (.slice Acn 1 ccn) (.slice Acd 1 ccd)); replace Cbd := Aside0.mk (C_store Xc.out Cbd.out (.slice Acn 1 ccn) (.slice Acd 1 ccd)); replace Ccn := Aside0.mk (C_store Xc.out Ccn.out (.slice Acn 1 ccn) (.slice Acd 1 ccd)); replace Ccd := Aside0.mk (C_store Xc.out Ccd.out (.slice Acn 1 ccn) (.slice Acd 1 ccd)); clear qaa qba; clear qca qda; replace Xa := Aside0.mk (Bx.other Xa.out Nac.out (.slice Acn 1 ccn) (.slice Acd 1 ccd)); clear qab qbb; clear qcb qdb; replace Xb := Aside0.mk (Bx.other Xb.out Nbc.out (.slice Acn 1 ccn) (.slice Acd 1 ccd)); clear qac qbc; clear qcc qdc; replace HB := Aside0.mk (below_set (j := 1) (v := (.slice Acd 1 ccd)) (below_set (j := 0) (v := (.slice Acn 1 ccn)) HB.out Sc.out) Sc.out); clear Xc; have Xc := Aside0.mk hx_; have qaa := Bx.c0 Xa.out; have qba := Bx.c1 Xa.out; have qca := Bx.f0 Xa.out; have qda := Bx.f1 Xa.out; have qab := Bx.c0 Xb.out; have qbb := Bx.c1 Xb.out; have qcb := Bx.f0 Xb.out; have qdb := Bx.f1 Xb.out; have qac := Bx.c0 Xc.out; have qbc := Bx.c1 Xc.out; have qcc := Bx.f0 Xc.out; have qdc := Bx.f1 Xc.out; generalize (wa8.setCell ⟨bc, 0, none⟩ (.slice Acn 1 ccn)).setCell ⟨bc, 1, none⟩ (.slice Acd 1 ccd) = wg_ at *; subst he_; clear hx_))
 refine (ratComp_calls Aan can ([3] : List Int) Aad cad ([8] : List Int) [5] [8] 0 wa9 Can.out Han.out Cad.out Had.out (aw_limbs 3 (by decide)) (aw_limbs 8 (by decide)) aw_comp).mono ?_
 rintro e wa10 ⟨Adn, cdn, Add, cdd, rfl, hCdn_, hHdn_, hCdd_, hHdd_, hb_⟩
 replace Can := Aside0.mk (Kd.C_below Can.out hb_)
 replace Cad := Aside0.mk (Kd.C_below Cad.out hb_)
 replace Cbn := Aside0.mk (Kd.C_below Cbn.out hb_)
 replace Cbd := Aside0.mk (Kd.C_below Cbd.out hb_)
 replace Ccn := Aside0.mk (Kd.C_below Ccn.out hb_)
 replace Ccd := Aside0.mk (Kd.C_below Ccd.out hb_)
 clear qaa qba
 clear qca qda
 replace Xa := Aside0.mk (Bx.below Xa.out hb_)
 have qaa := Bx.c0 Xa.out
 have qba := Bx.c1 Xa.out
 have qca := Bx.f0 Xa.out
 have qda := Bx.f1 Xa.out
 clear qab qbb
 clear qcb qdb
 replace Xb := Aside0.mk (Bx.below Xb.out hb_)
 have qab := Bx.c0 Xb.out
 have qbb := Bx.c1 Xb.out
 have qcb := Bx.f0 Xb.out
 have qdb := Bx.f1 Xb.out
 clear qac qbc
 clear qcc qdc
 replace Xc := Aside0.mk (Bx.below Xc.out hb_)
 have qac := Bx.c0 Xc.out
 have qbc := Bx.c1 Xc.out
 have qcc := Bx.f0 Xc.out
 have qdc := Bx.f1 Xc.out
 replace HB := Aside0.mk (below_step HB.out hb_)
 have Cdn := Aside0.mk hCdn_
 have Hdn := Aside0.mk hHdn_
 clear hCdn_ hHdn_
 have Cdd := Aside0.mk hCdd_
 have Hdd := Aside0.mk hHdd_
 clear hCdd_ hHdd_
 clear hb_
 go_wp2_with (first | ((with_reducible refine gate_dst (N := 7) rfl ?_); (try (refine gate_guard (by rfl) ?_; dsimp only)); refine box_event ?hg (N := 7) ?hd (.slice none 0 0) (.slice none 0 0) ?hr ?_; (case hd => rfl); (case hg => rfl); (case hr => first | (go_simp; done) | (go_simp; rfl)); intro bd wa11 hx_ hs_ hb_; have Nad := Aside0.mk (Bx.ne Xa.out hs_); have Nbd := Aside0.mk (Bx.ne Xb.out hs_); have Ncd := Aside0.mk (Bx.ne Xc.out hs_); skip; have Sd := Aside0.mk (Nat.le_trans (below_size HB.out) hs_); have Xd := Aside0.mk hx_; replace Can := Aside0.mk (Kd.C_below Can.out hb_); replace Cad := Aside0.mk (Kd.C_below Cad.out hb_); replace Cbn := Aside0.mk (Kd.C_below Cbn.out hb_); replace Cbd := Aside0.mk (Kd.C_below Cbd.out hb_); replace Ccn := Aside0.mk (Kd.C_below Ccn.out hb_); replace Ccd := Aside0.mk (Kd.C_below Ccd.out hb_); replace Cdn := Aside0.mk (Kd.C_below Cdn.out hb_); replace Cdd := Aside0.mk (Kd.C_below Cdd.out hb_); clear qaa qba; clear qca qda; replace Xa := Aside0.mk (Bx.below Xa.out hb_); have qaa := Bx.c0 Xa.out; have qba := Bx.c1 Xa.out; have qca := Bx.f0 Xa.out; have qda := Bx.f1 Xa.out; clear qab qbb; clear qcb qdb; replace Xb := Aside0.mk (Bx.below Xb.out hb_); have qab := Bx.c0 Xb.out; have qbb := Bx.c1 Xb.out; have qcb := Bx.f0 Xb.out; have qdb := Bx.f1 Xb.out; clear qac qbc; clear qcc qdc; replace Xc := Aside0.mk (Bx.below Xc.out hb_); have qac := Bx.c0 Xc.out; have qbc := Bx.c1 Xc.out; have qcc := Bx.f0 Xc.out; have qdc := Bx.f1 Xc.out; replace HB := Aside0.mk (below_step HB.out hb_); have qad := Bx.c0 Xd.out; have qbd := Bx.c1 Xd.out; have qcd := Bx.f0 Xd.out; have qdd := Bx.f1 Xd.out; clear hb_ hx_ hs_) | (refine store_event (by rfl) (by rfl) Xd.out (.slice Adn 1 cdn) (.slice Add 1 cdd) ?hr ?_; (case hr => first | (go_simp; done) | (go_simp; rfl)); intro wa12 he_ hx_; replace Can := Aside0.mk (C_store Xd.out Can.out (.slice Adn 1 cdn) (.slice Add 1 cdd)); replace Cad := Aside0.mk (C_store Xd.out Cad.out (.slice Adn 1 cdn) (.slice Add 1 cdd)); replace Cbn := Aside0.mk (C_store Xd.out Cbn.out (.slice Adn 1 cdn) (.slice Add 1 cdd)); replace Cbd := Aside0.mk (C_store Xd.out Cbd.out (.slice Adn 1 cdn) (.slice Add 1 cdd)); replace Ccn := Aside0.mk (C_store Xd.out Ccn.out (.slice Adn 1 cdn) (.slice Add 1 cdd)); replace Ccd := Aside0.mk (C_store Xd.out Ccd.out (.slice Adn 1 cdn) (.slice Add 1 cdd)); replace Cdn := Aside0.mk (C_store Xd.out Cdn.out (.slice Adn 1 cdn) (.slice Add 1 cdd)); replace Cdd := Aside0.mk (C_store Xd.out Cdd.out (.slice Adn 1 cdn) (.slice Add 1 cdd)); clear qaa qba; clear qca qda; replace Xa := Aside0.mk (Bx.other Xa.out Nad.out (.slice Adn 1 cdn) (.slice Add 1 cdd)); clear qab qbb; clear qcb qdb; replace Xb := Aside0.mk (Bx.other Xb.out Nbd.out (.slice Adn 1 cdn) (.slice Add 1 cdd)); clear qac qbc; clear qcc qdc; replace Xc := Aside0.mk (Bx.other Xc.out Ncd.out (.slice Adn 1 cdn) (.slice Add 1 cdd)); clear qad qbd; clear qcd qdd; replace HB := Aside0.mk (below_set (j := 1) (v := (.slice Add 1 cdd)) (below_set (j := 0) (v := (.slice Adn 1 cdn)) HB.out Sd.out) Sd.out); clear Xd; have Xd := Aside0.mk hx_; have qaa := Bx.c0 Xa.out; have qba := Bx.c1 Xa.out; have qca := Bx.f0 Xa.out; have qda := Bx.f1 Xa.out; have qab := Bx.c0 Xb.out; have qbb := Bx.c1 Xb.out; have qcb := Bx.f0 Xb.out; have qdb := Bx.f1 Xb.out; have qac := Bx.c0 Xc.out; have qbc := Bx.c1 Xc.out; have qcc := Bx.f0 Xc.out; have qdc := Bx.f1 Xc.out; have qad := Bx.c0 Xd.out; have qbd := Bx.c1 Xd.out; have qcd := Bx.f0 Xd.out; have qdd := Bx.f1 Xd.out; generalize (wa11.setCell ⟨bd, 0, none⟩ (.slice Adn 1 cdn)).setCell ⟨bd, 1, none⟩ (.slice Add 1 cdd) = wg_ at *; subst he_; clear hx_))
 refine (FromInts_calls 2 3 [2] [3] 0 wa12 (by decide) (by decide) aw_n3).mono ?_
 rintro e wa13 ⟨Axn, cxn, Axd, cxd, rfl, hCxn_, hHxn_, hCxd_, hHxd_, hb_⟩
 replace Can := Aside0.mk (Kd.C_below Can.out hb_)
 replace Cad := Aside0.mk (Kd.C_below Cad.out hb_)
 replace Cbn := Aside0.mk (Kd.C_below Cbn.out hb_)
 replace Cbd := Aside0.mk (Kd.C_below Cbd.out hb_)
 replace Ccn := Aside0.mk (Kd.C_below Ccn.out hb_)
 replace Ccd := Aside0.mk (Kd.C_below Ccd.out hb_)
 replace Cdn := Aside0.mk (Kd.C_below Cdn.out hb_)
 replace Cdd := Aside0.mk (Kd.C_below Cdd.out hb_)
 clear qaa qba
 clear qca qda
 replace Xa := Aside0.mk (Bx.below Xa.out hb_)
 have qaa := Bx.c0 Xa.out
 have qba := Bx.c1 Xa.out
 have qca := Bx.f0 Xa.out
 have qda := Bx.f1 Xa.out
 clear qab qbb
 clear qcb qdb
 replace Xb := Aside0.mk (Bx.below Xb.out hb_)
 have qab := Bx.c0 Xb.out
 have qbb := Bx.c1 Xb.out
 have qcb := Bx.f0 Xb.out
 have qdb := Bx.f1 Xb.out
 clear qac qbc
 clear qcc qdc
 replace Xc := Aside0.mk (Bx.below Xc.out hb_)
 have qac := Bx.c0 Xc.out
 have qbc := Bx.c1 Xc.out
 have qcc := Bx.f0 Xc.out
 have qdc := Bx.f1 Xc.out
 clear qad qbd
 clear qcd qdd
 replace Xd := Aside0.mk (Bx.below Xd.out hb_)
 have qad := Bx.c0 Xd.out
 have qbd := Bx.c1 Xd.out
 have qcd := Bx.f0 Xd.out
 have qdd := Bx.f1 Xd.out
 replace HB := Aside0.mk (below_step HB.out hb_)
 have Cxn := Aside0.mk hCxn_
 have Hxn := Aside0.mk hHxn_
 clear hCxn_ hHxn_
 have Cxd := Aside0.mk hCxd_
 have Hxd := Aside0.mk hHxd_
 clear hCxd_ hHxd_
 clear hb_
 go_wp2_with (first | ((with_reducible refine gate_dst (N := 9) rfl ?_); (try (refine gate_guard (by rfl) ?_; dsimp only)); refine box_event ?hg (N := 9) ?hd (.slice none 0 0) (.slice none 0 0) ?hr ?_; (case hd => rfl); (case hg => rfl); (case hr => first | (go_simp; done) | (go_simp; rfl)); intro bx wa14 hx_ hs_ hb_; have Nax := Aside0.mk (Bx.ne Xa.out hs_); have Nbx := Aside0.mk (Bx.ne Xb.out hs_); have Ncx := Aside0.mk (Bx.ne Xc.out hs_); have Ndx := Aside0.mk (Bx.ne Xd.out hs_); skip; have Sx := Aside0.mk (Nat.le_trans (below_size HB.out) hs_); have Xx := Aside0.mk hx_; replace Can := Aside0.mk (Kd.C_below Can.out hb_); replace Cad := Aside0.mk (Kd.C_below Cad.out hb_); replace Cbn := Aside0.mk (Kd.C_below Cbn.out hb_); replace Cbd := Aside0.mk (Kd.C_below Cbd.out hb_); replace Ccn := Aside0.mk (Kd.C_below Ccn.out hb_); replace Ccd := Aside0.mk (Kd.C_below Ccd.out hb_); replace Cdn := Aside0.mk (Kd.C_below Cdn.out hb_); replace Cdd := Aside0.mk (Kd.C_below Cdd.out hb_); replace Cxn := Aside0.mk (Kd.C_below Cxn.out hb_); replace Cxd := Aside0.mk (Kd.C_below Cxd.out hb_); clear qaa qba; clear qca qda; replace Xa := Aside0.mk (Bx.below Xa.out hb_); have qaa := Bx.c0 Xa.out; have qba := Bx.c1 Xa.out; have qca := Bx.f0 Xa.out; have qda := Bx.f1 Xa.out; clear qab qbb; clear qcb qdb; replace Xb := Aside0.mk (Bx.below Xb.out hb_); have qab := Bx.c0 Xb.out; have qbb := Bx.c1 Xb.out; have qcb := Bx.f0 Xb.out; have qdb := Bx.f1 Xb.out; clear qac qbc; clear qcc qdc; replace Xc := Aside0.mk (Bx.below Xc.out hb_); have qac := Bx.c0 Xc.out; have qbc := Bx.c1 Xc.out; have qcc := Bx.f0 Xc.out; have qdc := Bx.f1 Xc.out; clear qad qbd; clear qcd qdd; replace Xd := Aside0.mk (Bx.below Xd.out hb_); have qad := Bx.c0 Xd.out; have qbd := Bx.c1 Xd.out; have qcd := Bx.f0 Xd.out; have qdd := Bx.f1 Xd.out; replace HB := Aside0.mk (below_step HB.out hb_); have qax := Bx.c0 Xx.out; have qbx := Bx.c1 Xx.out; have qcx := Bx.f0 Xx.out; have qdx := Bx.f1 Xx.out; clear hb_ hx_ hs_) | (refine store_event (by rfl) (by rfl) Xx.out (.slice Axn 1 cxn) (.slice Axd 1 cxd) ?hr ?_; (case hr => first | (go_simp; done) | (go_simp; rfl)); intro wa15 he_ hx_; replace Can := Aside0.mk (C_store Xx.out Can.out (.slice Axn 1 cxn) (.slice Axd 1 cxd)); replace Cad := Aside0.mk (C_store Xx.out Cad.out (.slice Axn 1 cxn) (.slice Axd 1 cxd)); replace Cbn := Aside0.mk (C_store Xx.out Cbn.out (.slice Axn 1 cxn) (.slice Axd 1 cxd)); replace Cbd := Aside0.mk (C_store Xx.out Cbd.out (.slice Axn 1 cxn) (.slice Axd 1 cxd)); replace Ccn := Aside0.mk (C_store Xx.out Ccn.out (.slice Axn 1 cxn) (.slice Axd 1 cxd)); replace Ccd := Aside0.mk (C_store Xx.out Ccd.out (.slice Axn 1 cxn) (.slice Axd 1 cxd)); replace Cdn := Aside0.mk (C_store Xx.out Cdn.out (.slice Axn 1 cxn) (.slice Axd 1 cxd)); replace Cdd := Aside0.mk (C_store Xx.out Cdd.out (.slice Axn 1 cxn) (.slice Axd 1 cxd)); replace Cxn := Aside0.mk (C_store Xx.out Cxn.out (.slice Axn 1 cxn) (.slice Axd 1 cxd)); replace Cxd := Aside0.mk (C_store Xx.out Cxd.out (.slice Axn 1 cxn) (.slice Axd 1 cxd)); clear qaa qba; clear qca qda; replace Xa := Aside0.mk (Bx.other Xa.out Nax.out (.slice Axn 1 cxn) (.slice Axd 1 cxd)); clear qab qbb; clear qcb qdb; replace Xb := Aside0.mk (Bx.other Xb.out Nbx.out (.slice Axn 1 cxn) (.slice Axd 1 cxd)); clear qac qbc; clear qcc qdc; replace Xc := Aside0.mk (Bx.other Xc.out Ncx.out (.slice Axn 1 cxn) (.slice Axd 1 cxd)); clear qad qbd; clear qcd qdd; replace Xd := Aside0.mk (Bx.other Xd.out Ndx.out (.slice Axn 1 cxn) (.slice Axd 1 cxd)); clear qax qbx; clear qcx qdx; replace HB := Aside0.mk (below_set (j := 1) (v := (.slice Axd 1 cxd)) (below_set (j := 0) (v := (.slice Axn 1 cxn)) HB.out Sx.out) Sx.out); clear Xx; have Xx := Aside0.mk hx_; have qaa := Bx.c0 Xa.out; have qba := Bx.c1 Xa.out; have qca := Bx.f0 Xa.out; have qda := Bx.f1 Xa.out; have qab := Bx.c0 Xb.out; have qbb := Bx.c1 Xb.out; have qcb := Bx.f0 Xb.out; have qdb := Bx.f1 Xb.out; have qac := Bx.c0 Xc.out; have qbc := Bx.c1 Xc.out; have qcc := Bx.f0 Xc.out; have qdc := Bx.f1 Xc.out; have qad := Bx.c0 Xd.out; have qbd := Bx.c1 Xd.out; have qcd := Bx.f0 Xd.out; have qdd := Bx.f1 Xd.out; have qax := Bx.c0 Xx.out; have qbx := Bx.c1 Xx.out; have qcx := Bx.f0 Xx.out; have qdx := Bx.f1 Xx.out; generalize (wa14.setCell ⟨bx, 0, none⟩ (.slice Axn 1 cxn)).setCell ⟨bx, 1, none⟩ (.slice Axd 1 cxd) = wg_ at *; subst he_; clear hx_))
 refine (ratFormat_calls Aan can ([3] : List Int) Aad cad ([8] : List Int) ⟨#[51]⟩ ⟨#[56]⟩ ⟨#[51, 47, 56]⟩ wa15 Can.out Han.out Cad.out Had.out (HT_.out.below HB.out) (aw_limbs 3 (by decide)) (aw_limbs 8 (by decide)) aw_f3 aw_f8 (by decide) (by decide) aw_t1.symm).mono ?_
 rintro e wa16 ⟨rfl, hb_⟩
 replace Can := Aside0.mk (Kd.C_below Can.out hb_)
 replace Cad := Aside0.mk (Kd.C_below Cad.out hb_)
 replace Cbn := Aside0.mk (Kd.C_below Cbn.out hb_)
 replace Cbd := Aside0.mk (Kd.C_below Cbd.out hb_)
 replace Ccn := Aside0.mk (Kd.C_below Ccn.out hb_)
 replace Ccd := Aside0.mk (Kd.C_below Ccd.out hb_)
 replace Cdn := Aside0.mk (Kd.C_below Cdn.out hb_)
 replace Cdd := Aside0.mk (Kd.C_below Cdd.out hb_)
 replace Cxn := Aside0.mk (Kd.C_below Cxn.out hb_)
 replace Cxd := Aside0.mk (Kd.C_below Cxd.out hb_)
 clear qaa qba
 clear qca qda
 replace Xa := Aside0.mk (Bx.below Xa.out hb_)
 have qaa := Bx.c0 Xa.out
 have qba := Bx.c1 Xa.out
 have qca := Bx.f0 Xa.out
 have qda := Bx.f1 Xa.out
 clear qab qbb
 clear qcb qdb
 replace Xb := Aside0.mk (Bx.below Xb.out hb_)
 have qab := Bx.c0 Xb.out
 have qbb := Bx.c1 Xb.out
 have qcb := Bx.f0 Xb.out
 have qdb := Bx.f1 Xb.out
 clear qac qbc
 clear qcc qdc
 replace Xc := Aside0.mk (Bx.below Xc.out hb_)
 have qac := Bx.c0 Xc.out
 have qbc := Bx.c1 Xc.out
 have qcc := Bx.f0 Xc.out
 have qdc := Bx.f1 Xc.out
 clear qad qbd
 clear qcd qdd
 replace Xd := Aside0.mk (Bx.below Xd.out hb_)
 have qad := Bx.c0 Xd.out
 have qbd := Bx.c1 Xd.out
 have qcd := Bx.f0 Xd.out
 have qdd := Bx.f1 Xd.out
 clear qax qbx
 clear qcx qdx
 replace Xx := Aside0.mk (Bx.below Xx.out hb_)
 have qax := Bx.c0 Xx.out
 have qbx := Bx.c1 Xx.out
 have qcx := Bx.f0 Xx.out
 have qdx := Bx.f1 Xx.out
 replace HB := Aside0.mk (below_step HB.out hb_)
 clear hb_
 go_wp2_with fail
 refine (ratFormat_calls Acn ccn ([1] : List Int) Acd ccd ([2] : List Int) ⟨#[49]⟩ ⟨#[50]⟩ ⟨#[49, 47, 50]⟩ wa16 Ccn.out Hcn.out Ccd.out Hcd.out (HT_.out.below HB.out) (aw_limbs 1 (by decide)) (aw_limbs 2 (by decide)) aw_f1 aw_f2 (by decide) (by decide) aw_t2.symm).mono ?_
 rintro e wa17 ⟨rfl, hb_⟩
 replace Can := Aside0.mk (Kd.C_below Can.out hb_)
 replace Cad := Aside0.mk (Kd.C_below Cad.out hb_)
 replace Cbn := Aside0.mk (Kd.C_below Cbn.out hb_)
 replace Cbd := Aside0.mk (Kd.C_below Cbd.out hb_)
 replace Ccn := Aside0.mk (Kd.C_below Ccn.out hb_)
 replace Ccd := Aside0.mk (Kd.C_below Ccd.out hb_)
 replace Cdn := Aside0.mk (Kd.C_below Cdn.out hb_)
 replace Cdd := Aside0.mk (Kd.C_below Cdd.out hb_)
 replace Cxn := Aside0.mk (Kd.C_below Cxn.out hb_)
 replace Cxd := Aside0.mk (Kd.C_below Cxd.out hb_)
 clear qaa qba
 clear qca qda
 replace Xa := Aside0.mk (Bx.below Xa.out hb_)
 have qaa := Bx.c0 Xa.out
 have qba := Bx.c1 Xa.out
 have qca := Bx.f0 Xa.out
 have qda := Bx.f1 Xa.out
 clear qab qbb
 clear qcb qdb
 replace Xb := Aside0.mk (Bx.below Xb.out hb_)
 have qab := Bx.c0 Xb.out
 have qbb := Bx.c1 Xb.out
 have qcb := Bx.f0 Xb.out
 have qdb := Bx.f1 Xb.out
 clear qac qbc
 clear qcc qdc
 replace Xc := Aside0.mk (Bx.below Xc.out hb_)
 have qac := Bx.c0 Xc.out
 have qbc := Bx.c1 Xc.out
 have qcc := Bx.f0 Xc.out
 have qdc := Bx.f1 Xc.out
 clear qad qbd
 clear qcd qdd
 replace Xd := Aside0.mk (Bx.below Xd.out hb_)
 have qad := Bx.c0 Xd.out
 have qbd := Bx.c1 Xd.out
 have qcd := Bx.f0 Xd.out
 have qdd := Bx.f1 Xd.out
 clear qax qbx
 clear qcx qdx
 replace Xx := Aside0.mk (Bx.below Xx.out hb_)
 have qax := Bx.c0 Xx.out
 have qbx := Bx.c1 Xx.out
 have qcx := Bx.f0 Xx.out
 have qdx := Bx.f1 Xx.out
 replace HB := Aside0.mk (below_step HB.out hb_)
 clear hb_
 go_wp2_with fail
 refine (ratFormat_calls Adn cdn ([5] : List Int) Add cdd ([8] : List Int) ⟨#[53]⟩ ⟨#[56]⟩ ⟨#[53, 47, 56]⟩ wa17 Cdn.out Hdn.out Cdd.out Hdd.out (HT_.out.below HB.out) (aw_limbs 5 (by decide)) (aw_limbs 8 (by decide)) aw_f5 aw_f8 (by decide) (by decide) aw_t3.symm).mono ?_
 rintro e wa18 ⟨rfl, hb_⟩
 replace Can := Aside0.mk (Kd.C_below Can.out hb_)
 replace Cad := Aside0.mk (Kd.C_below Cad.out hb_)
 replace Cbn := Aside0.mk (Kd.C_below Cbn.out hb_)
 replace Cbd := Aside0.mk (Kd.C_below Cbd.out hb_)
 replace Ccn := Aside0.mk (Kd.C_below Ccn.out hb_)
 replace Ccd := Aside0.mk (Kd.C_below Ccd.out hb_)
 replace Cdn := Aside0.mk (Kd.C_below Cdn.out hb_)
 replace Cdd := Aside0.mk (Kd.C_below Cdd.out hb_)
 replace Cxn := Aside0.mk (Kd.C_below Cxn.out hb_)
 replace Cxd := Aside0.mk (Kd.C_below Cxd.out hb_)
 clear qaa qba
 clear qca qda
 replace Xa := Aside0.mk (Bx.below Xa.out hb_)
 have qaa := Bx.c0 Xa.out
 have qba := Bx.c1 Xa.out
 have qca := Bx.f0 Xa.out
 have qda := Bx.f1 Xa.out
 clear qab qbb
 clear qcb qdb
 replace Xb := Aside0.mk (Bx.below Xb.out hb_)
 have qab := Bx.c0 Xb.out
 have qbb := Bx.c1 Xb.out
 have qcb := Bx.f0 Xb.out
 have qdb := Bx.f1 Xb.out
 clear qac qbc
 clear qcc qdc
 replace Xc := Aside0.mk (Bx.below Xc.out hb_)
 have qac := Bx.c0 Xc.out
 have qbc := Bx.c1 Xc.out
 have qcc := Bx.f0 Xc.out
 have qdc := Bx.f1 Xc.out
 clear qad qbd
 clear qcd qdd
 replace Xd := Aside0.mk (Bx.below Xd.out hb_)
 have qad := Bx.c0 Xd.out
 have qbd := Bx.c1 Xd.out
 have qcd := Bx.f0 Xd.out
 have qdd := Bx.f1 Xd.out
 clear qax qbx
 clear qcx qdx
 replace Xx := Aside0.mk (Bx.below Xx.out hb_)
 have qax := Bx.c0 Xx.out
 have qbx := Bx.c1 Xx.out
 have qcx := Bx.f0 Xx.out
 have qdx := Bx.f1 Xx.out
 replace HB := Aside0.mk (below_step HB.out hb_)
 clear hb_
 go_wp2_with fail
 refine (permille_calls Axn cxn ([2] : List Int) Axd cxd ([3] : List Int) 666 wa18 Cxn.out Hxn.out Cxd.out Hxd.out (aw_limbs 2 (by decide)) (aw_limbs 3 (by decide)) aw_perm.symm).mono ?_
 rintro e wa19 ⟨rfl, hb_⟩
 replace Can := Aside0.mk (Kd.C_below Can.out hb_)
 replace Cad := Aside0.mk (Kd.C_below Cad.out hb_)
 replace Cbn := Aside0.mk (Kd.C_below Cbn.out hb_)
 replace Cbd := Aside0.mk (Kd.C_below Cbd.out hb_)
 replace Ccn := Aside0.mk (Kd.C_below Ccn.out hb_)
 replace Ccd := Aside0.mk (Kd.C_below Ccd.out hb_)
 replace Cdn := Aside0.mk (Kd.C_below Cdn.out hb_)
 replace Cdd := Aside0.mk (Kd.C_below Cdd.out hb_)
 replace Cxn := Aside0.mk (Kd.C_below Cxn.out hb_)
 replace Cxd := Aside0.mk (Kd.C_below Cxd.out hb_)
 clear qaa qba
 clear qca qda
 replace Xa := Aside0.mk (Bx.below Xa.out hb_)
 have qaa := Bx.c0 Xa.out
 have qba := Bx.c1 Xa.out
 have qca := Bx.f0 Xa.out
 have qda := Bx.f1 Xa.out
 clear qab qbb
 clear qcb qdb
 replace Xb := Aside0.mk (Bx.below Xb.out hb_)
 have qab := Bx.c0 Xb.out
 have qbb := Bx.c1 Xb.out
 have qcb := Bx.f0 Xb.out
 have qdb := Bx.f1 Xb.out
 clear qac qbc
 clear qcc qdc
 replace Xc := Aside0.mk (Bx.below Xc.out hb_)
 have qac := Bx.c0 Xc.out
 have qbc := Bx.c1 Xc.out
 have qcc := Bx.f0 Xc.out
 have qdc := Bx.f1 Xc.out
 clear qad qbd
 clear qcd qdd
 replace Xd := Aside0.mk (Bx.below Xd.out hb_)
 have qad := Bx.c0 Xd.out
 have qbd := Bx.c1 Xd.out
 have qcd := Bx.f0 Xd.out
 have qdd := Bx.f1 Xd.out
 clear qax qbx
 clear qcx qdx
 replace Xx := Aside0.mk (Bx.below Xx.out hb_)
 have qax := Bx.c0 Xx.out
 have qbx := Bx.c1 Xx.out
 have qcx := Bx.f0 Xx.out
 have qdx := Bx.f1 Xx.out
 replace HB := Aside0.mk (below_step HB.out hb_)
 clear hb_
 go_wp2_with fail
 go_ret
 exact ⟨rfl, HB.out⟩

section
variable {P : Program} {ops : Array Oper} {rest : List Oper} {o : Oper} {a : Act} {Q : Exit → Act → World → Prop}
/-- A literal of fractions. -/
theorem rats_event {W : World} (hgd : o.guard = none) {N : Tmp} (_hd : o.dst = some N) (cs : Array Value) (n : Nat)
  (hrun : (execOp a.eval o).run P W = .ok (.value (.slice (some ⟨W.heap.size, 0, none⟩) n n)) (W.alloc (.cells cs 48)))
  (h : ∀ b w1, w1.heap[b]? = some (.cells cs 48) → Below W.heap.size W w1 → wpList P ops Q rest (a.put o.dst (.slice (some ⟨b, 0, none⟩) n n)) w1) : wpList P ops Q (o :: rest) a W :=
 Kd.event_run hgd hrun (h _ _ (by show (W.heap.push _)[W.heap.size]? = some _; simp) (below_alloc (Below.refl _ _) _))
end
theorem div_row {n g : Nat} (h : fitsB n = true) : (Bn.limbs (n / g)).length ≤ 128 := Nat.le_trans (by
 have h2 := (Bn.limbs_len n _).1 (Nat.le_refl (Bn.limbs n).length)
 exact (Bn.limbs_len _ _).2 (Nat.lt_of_le_of_lt (Nat.div_le_self _ _) h2)) (of_decide_eq_true h)
theorem addR_len {a b c d n m : List Int} {e : Int} (h : addR a b c d = ((n, m), e)) : n.length ≤ 128 ∧ m.length ≤ 128 ∧ Bn.Limbs n ∧ Bn.Limbs m := by
 unfold addR redB at h
 split at h
 ·split at h
  ·rename_i h1
   injection h with h2 h3
   injection h2 with h2 h4
   rw [← h2, ← h4]
   exact ⟨div_row h1.2.2.2, div_row h1.2.2.1, Bn.limbs_limbs _, Bn.limbs_limbs _⟩
  ·injection h with h2 h3
   injection h2 with h2 h4
   rw [← h2, ← h4]
   exact ⟨by decide, by decide, Bn.Limbs.nil, Bn.Limbs.nil⟩
 ·injection h with h2 h3
  injection h2 with h2 h4
  rw [← h2, ← h4]
  exact ⟨by decide, by decide, Bn.Limbs.nil, Bn.Limbs.nil⟩
theorem mulR_len {a b c d n m : List Int} {e : Int} (h : mulR a b c d = ((n, m), e)) : n.length ≤ 128 ∧ m.length ≤ 128 ∧ Bn.Limbs n ∧ Bn.Limbs m := by
 unfold mulR redB at h
 split at h
 ·split at h
  ·rename_i h1
   injection h with h2 h3
   injection h2 with h2 h4
   rw [← h2, ← h4]
   exact ⟨div_row h1.1, div_row h1.2, Bn.limbs_limbs _, Bn.limbs_limbs _⟩
  ·injection h with h2 h3
   injection h2 with h2 h4
   rw [← h2, ← h4]
   exact ⟨by decide, by decide, Bn.Limbs.nil, Bn.Limbs.nil⟩
 ·injection h with h2 h3
  injection h2 with h2 h4
  rw [← h2, ← h4]
  exact ⟨by decide, by decide, Bn.Limbs.nil, Bn.Limbs.nil⟩
theorem compR_len {a b n m : List Int} {e : Int} (La : Bn.Limbs a) (Lb : Bn.Limbs b) (h : compR a b = ((n, m), e)) : n.length ≤ 128 ∧ m.length ≤ 128 ∧ Bn.Limbs n ∧ Bn.Limbs m := by
 unfold compR at h
 split at h
 ·rename_i h0
  obtain ⟨va, vb, -, -⟩ := (ratB_iff La Lb).1 h0
  split at h
  ·injection h with h2 h3
   injection h2 with h2 h4
   rw [← h2, ← h4]
   exact ⟨Nat.le_trans (limbs_le vb.1.1 (by omega)) vb.2, vb.2, Bn.limbs_limbs _, Lb⟩
  ·injection h with h2 h3
   injection h2 with h2 h4
   rw [← h2, ← h4]
   exact ⟨by decide, by decide, Bn.Limbs.nil, Bn.Limbs.nil⟩
 ·injection h with h2 h3
  injection h2 with h2 h4
  rw [← h2, ← h4]
  exact ⟨by decide, by decide, Bn.Limbs.nil, Bn.Limbs.nil⟩

end Go.Proofs.YtoakfjcejamoeaaDoor.B
