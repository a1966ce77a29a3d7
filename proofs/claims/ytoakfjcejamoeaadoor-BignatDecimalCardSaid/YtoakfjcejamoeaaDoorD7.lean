/- A part of the proofs of the rational laws. -/
import Derived.Test.YtoakfjcejamoeaaDoorD6
import Derived.Test.YtoakfjcejamoeaaDoorBx12
import Derived.Test.YtoakfjcejamoeaaDoorBx9
import Derived.Test.YtoakfjcejamoeaaDoorL5
import Derived.Laws.IdiomStrings
namespace Go.Proofs.YtoakfjcejamoeaaDoor.B
open Go.RowKit Go.Proofs.YtoakfjcejamoeaaDoorW.PrintWords Go.Proofs.YtoakfjcejamoeaaDoorW.PrintLast Go.Proofs.YtoakfjcejamoeaaDoorW.PrintMore
set_option exponentiation.threshold 8200
set_option linter.unusedVariables false
set_option linter.unusedSimpArgs false
/-- The digits of V, none for zero. -/
def ddz (V : Nat) : List UInt8 := if V = 0 then [] else Lib.decDigits V
theorem ddz_step {V : Nat} (h : V ≠ 0) : ddz V = ddz (V / 10) ++ [UInt8.ofNat (48 + V % 10)] := by
 unfold ddz
 rw [if_neg h]
 by_cases h2 : V / 10 = 0
 ·rw [if_pos h2, dd_lt (show V < 10 by omega), Nat.mod_eq_of_lt (show V < 10 by omega)]
  rfl
 ·rw [if_neg h2]
  have := dd_step (V / 10) (V % 10) (by omega) (by omega)
  rwa [show V / 10 * 10 + V % 10 = V by omega] at this
theorem ddz_len : ∀ (n V : Nat), V < 10 ^ n → (ddz V).length ≤ n := by
 intro n
 induction n with
 | zero =>
  intro V h
  have h2 : V = 0 := by simpa using h
  rw [h2]
  decide
 | succ n ih =>
  intro V h
  by_cases h0 : V = 0
  ·subst h0; simp [ddz]
  ·rw [ddz_step h0, List.length_append]
   have := ih (V / 10) (by rw [Nat.pow_succ] at h; exact (Nat.div_lt_iff_lt_mul (by decide)).2 h)
   simp
   exact this
theorem rd_dig {d : Nat} (h : d < 10) : rd (Bn.limbs d) 0 = (d : Int) := by
 by_cases h0 : d = 0
 ·subst h0
  rw [Bn.limbs_zero]
  rfl
 ·rw [limbs_one (by omega) (by omega)]
  rfl
/-- What a round of the reference's Format reckons. -/
theorem fmt_step {V : Nat} (hl : (Bn.limbs V).length ≤ 128) :
  lineageref03_DivMod.f 20000 (Bn.limbs V) [10] = some (Bn.limbs (V / 10), Bn.limbs (V % 10)) ∧ lineageref03_limb.f (Bn.limbs (V % 10)) 0 = some ((V % 10 : Nat) : Int) := by
 refine ⟨?_, ?_⟩
 ·rw [refDivMod_f (Bn.limbs_limbs _) nrm10 (by omega) (by simp) (by rw [nv10]; decide) (by simp; omega), Bn.nv_limbs, nv10]
 ·have := limb_f (Bn.limbs_limbs (V % 10)) 0
  rw [show ((0 : Nat) : Int) = 0 from rfl, rd_dig (by omega)] at this
  exact this
theorem dig_string (W : World) (d : Nat) (h : d < 10) : (convert 109 9 (.slice (some ⟨W.heap.size, 0, none⟩) 1 1)).run Tryd.prog (W.alloc (.cells #[.int .u8 (48 + (d : Int))] 5)) = .ok (.string ⟨[UInt8.ofNat (48 + d)].toArray⟩) (W.alloc (.cells #[.int .u8 (48 + (d : Int))] 5)) := by
 have e : (UInt8.ofNat (48 + d)).toNat = 48 + d := by
  rw [UInt8.toNat_ofNat']
  omega
 refine run_convert_bytes_back _ 109 9 5 ⟨W.heap.size, 0, none⟩ 1 [UInt8.ofNat (48 + d)] Tryd.underlying109 Tryd.underlying5 Tryd.underlying9 (fun j hj => ?_)
 obtain rfl : j = 0 := by simpa using hj
 rw [List.getElem_cons_zero, e]
 have h1 : (W.alloc (.cells #[.int .u8 (48 + (d : Int))] 5)).heap[W.heap.size]? = some (.cells #[.int .u8 (48 + (d : Int))] 5) := by
  show (W.heap.push _)[W.heap.size]? = _
  simp
 show World.cell? _ ⟨W.heap.size, 0, none⟩ = _
 unfold World.cell?
 rw [h1]
 rfl

set_option maxHeartbeats 16000000 in
set_option maxRecDepth 100000 in
/-- The reference's Format. -/
theorem refFormat_calls (A0 : Option Addr) (c0 : Nat) (l0 : List Int) (v : Nat) (w : World) (hr0 : Kd.C (Kd.int .u32) w A0 l0.length l0) (hc0 : l0.length ≤ c0) (hv : l0 = Bn.limbs v) (hl : l0.length ≤ 128) (t : ByteArray) (ht : t = ⟨(Lib.decDigits v).toArray⟩) :
  Calls Tryd.prog 71 #[.slice A0 l0.length c0] w fun e w' => e = .returned (.string t) ∧ Below w.heap.size w w' := by
 have C0 := Aside0.mk hr0
 have H0 := Aside0.mk hc0
 have HB := Aside0.mk (Below.refl w.heap.size w)
 have hV0 := Aside0.mk hv
 have hl_ := Aside0.mk hl
 have ht_ := Aside0.mk ht
 clear hr0 hc0 hv hl ht
 go_enter Tryd.func71, Tryd.ntmps71
 go_wp2_with fail
 go_loopg [0, 3] v (fun kq v0 v3 w' => ∃ (V : Nat) (x : List Int) (A : Option Addr) (c : Nat) (s : List UInt8), v0 = .slice A x.length c ∧ v3 = .string ⟨s.toArray⟩ ∧ Aside0 (x = Bn.limbs V ∧ V ≤ v ∧ kq = V ∧ ddz V ++ s = ddz v) ∧ Aside0 (Kd.C (Kd.int .u32) w' A x.length x) ∧ Aside0 (x.length ≤ c) ∧ Aside0 (Below w.heap.size w w'))
 case atStart => exact ⟨v, l0, A0, c0, [], rfl, rfl, ⟨hV0.out, Nat.le_refl _, rfl, List.append_nil _⟩, C0, H0, HB⟩
 case round =>
  clear HB C0 H0
  obtain ⟨V, x, A, c, s, rfl, rfl, hk, hC, hH, HB⟩ := hrel
  by_cases hx : x = []
  ·have hx0 : ¬ (0 : Int) < (x.length : Int) := by rw [hx]; decide
   have hV : V = 0 := by
    have := hk.out.1
    rw [hx] at this
    exact Bn.limbs_nil.1 this.symm
   have hs : s = ddz v := by
    have := hk.out.2.2.2
    rw [hV] at this
    exact this
   by_cases hv0 : v = 0
   ·have hs0 : s = [] := by rw [hs, hv0]; rfl
    have hse : s.isEmpty = true := by rw [hs0]; rfl
    have ht2 : t = { data := #[48] } := by rw [ht_.out, hv0, dd_lt (by decide)]; rfl
    clear hs hs0 hV hx
    go_wp2_with fail
    go_ret
    exact ⟨rfl, HB.out⟩
   ·have hsd : s = Lib.decDigits v := by rw [hs]; unfold ddz; rw [if_neg hv0]
    have hse : s.isEmpty = false := by
     have := dd_pos v
     rw [← hsd] at this
     cases s with
     | nil => simp at this
     | cons a b => rfl
    have ht2 : t = { data := s.toArray } := by rw [ht_.out, hsd]
    clear hs hsd hV hx
    go_wp2_with fail
    go_ret
    exact ⟨rfl, HB.out⟩
  ·have hx0 : (0 : Int) < (x.length : Int) := by have := List.length_pos_iff.2 hx; omega
   have hVle := hk.out.2.1
   have hxl : x.length ≤ 128 := by
    rw [hk.out.1]
    have h2 := hl_.out
    rw [hV0.out] at h2
    exact Nat.le_trans (limbs_mono hVle) h2
   have hV : V ≠ 0 := fun h => hx (by rw [hk.out.1, h]; exact Bn.limbs_zero)
   obtain ⟨f1, f2⟩ := fmt_step (V := V) (by rw [← hk.out.1]; exact hxl)
   rw [← hk.out.1] at f1
   have F1 := Aside0.mk f1
   have F2 := Aside0.mk f2
   have hV_ := Aside0.mk hV
   obtain ⟨d, hd⟩ : ∃ d, d = V % 10 := ⟨_, rfl⟩
   have hd_ := Aside0.mk hd
   have hslen := Aside0.mk (show s.length ≤ 1300 from by
    have h1 : (ddz v).length ≤ 1300 := ddz_len 1300 v (by
     have h2 := hl_.out
     rw [hV0.out] at h2
     exact Nat.lt_of_lt_of_le ((Bn.limbs_len _ _).1 h2) (Nat.le_of_ble_eq_true rfl))
    rw [← hk.out.2.2.2, List.length_append] at h1
    omega)
   clear f1 f2 hV hx hxl hVle hd
   go_wp2_with ((with_reducible refine gate_dst (N := 11) rfl ?_); (try (refine gate_guard (by rfl) ?_; dsimp only)); refine lit_event ?hg (N := 11) ?hd [10] 1 rfl (by decide) ?hr ?_; (case hd => rfl); (case hg => rfl); (case hr => first | (go_simp; done) | (go_simp; rfl)); intro A10 wb0 hc_ hb_; replace HB := Aside0.mk (below_step HB.out hb_); replace hC := Aside0.mk (Kd.C_below hC.out hb_); have C10 := Aside0.mk hc_; clear hb_ hc_)
   refine (lineageref03_DivMod.calls 20000 A c x A10 1 [10] (Bn.limbs (V / 10)) (Bn.limbs (V % 10)) wb0 hC.out hH.out C10.out (Nat.le_refl _) F1.out).mono ?_
   rintro e wb1 ⟨v_, u_, rfl, hr_, hu_, hb_⟩
   replace HB := Aside0.mk (below_step HB.out hb_)
   obtain ⟨Aq, cq, rfl⟩ := Kd.V_slice hr_
   obtain ⟨Ar, cr, rfl⟩ := Kd.V_slice hu_
   have Cq := Aside0.mk (Kd.V_reads' hr_).2.2
   have Hq := Aside0.mk (show (Bn.limbs (V / 10)).length ≤ cq from (Kd.V_reads' hr_).2.1)
   have Cr := Aside0.mk (Kd.V_reads' hu_).2.2
   have Hr := Aside0.mk (show (Bn.limbs (V % 10)).length ≤ cr from (Kd.V_reads' hu_).2.1)
   clear hr_ hu_ hb_ C10 hC hH
   go_wp2_with fail
   refine (lineageref03_limb.calls Ar cr (Bn.limbs (V % 10)) 0 ((V % 10 : Nat) : Int) wb1 Cr.out Hr.out F2.out).mono ?_
   rw [← hd_.out]
   rintro e wb2 ⟨rfl, hd2_⟩
   have hb_ := hd2_.below
   replace HB := Aside0.mk (below_step HB.out hb_)
   replace Cq := Aside0.mk (Kd.C_below Cq.out hb_)
   clear hd2_ hb_ Cr Hr
   have w1 : IntKind.u64.wrap (48 + (d : Int)) = 48 + (d : Int) := u64w (by omega) (by have := hd_.out; omega)
   have w2 : IntKind.u8.wrap (48 + (d : Int)) = 48 + (d : Int) := wraps_u8 _ (by omega) (by clear w1; have := hd_.out; omega)
   have hcv := dig_string wb2 d (by clear w1 w2; have := hd_.out; omega)
   have hs2 := hslen.out
   go_wp2_with fail
   clear w1 w2 hcv
   have hb_ : Below wb2.heap.size wb2 (wb2.alloc (Obj.cells #[Value.int IntKind.u8 (48 + (d : Int))] 5)) := below_alloc (Below.refl _ _) _
   replace HB := Aside0.mk (below_step HB.out hb_)
   replace Cq := Aside0.mk (Kd.C_below Cq.out hb_)
   generalize wb2.alloc (Obj.cells #[Value.int IntKind.u8 (48 + (d : Int))] 5) = wb3 at *
   go_roundg (V / 10)
   case rel => exact ⟨V / 10, Bn.limbs (V / 10), Aq, cq, (48 + UInt8.ofNat d) :: s, rfl, congrArg Value.string (by apply ByteArray.ext; simp), ⟨rfl, Nat.le_trans (Nat.div_le_self _ _) hk.out.2.1, rfl, by
    have h1 := hk.out.2.2.2
    rw [ddz_step hV_.out, ← hd_.out, List.append_assoc] at h1
    have h2 : UInt8.ofNat (48 + d) = 48 + UInt8.ofNat d := by simp
    rw [h2] at h1
    exact h1⟩, Cq, Hq, HB⟩
   case measure =>
    have h1 := hk.out.2.2.1
    have h2 := hV_.out
    omega

end Go.Proofs.YtoakfjcejamoeaaDoor.B
