-- PRINTED by print.py (a twelfth state) out of the translation. Not trusted: Lean checks it.
import Derived.Test.YtoakfjcejamoeaaDoorBx0
import Derived.Test.YtoakfjcejamoeaaDoorBx1
import Derived.Test.YtoakfjcejamoeaaDoorBx2
import Derived.Test.YtoakfjcejamoeaaDoorBx3
import Derived.Test.YtoakfjcejamoeaaDoorBx4
namespace Go.Proofs.YtoakfjcejamoeaaDoor.B
open Go.RowKit Go.Proofs.YtoakfjcejamoeaaDoorW.PrintWords Go.Proofs.YtoakfjcejamoeaaDoorW.PrintLast Go.Proofs.YtoakfjcejamoeaaDoorW.PrintMore
attribute [local go_sem] max2_int min2_int max_two min_two max_three min_three max_four min_four   -- for this text's walks alone
set_option linter.unusedVariables false
set_option linter.unusedSimpArgs false

/-! ### bignat_DivMod: function 27 -/
mutual
def bignat_DivMod.j0 : Nat → List Int → List Int → Bool → Option (List Int × List Int × Int)
  | 0, _, _, _ => none
  | k + 1, x0, x1, x31 => if x31 = true then (some (([] : List Int), ([] : List Int), 1)) else ((bignat_Compare.f k x0 x1).bind fun t192 => (if t192 < 0 then ((api_Nat_uint32.f x0).bind fun t193 => ((bignat_trimmed.f k t193).bind fun t196 => (some (([] : List Int), t196, 0)))) else (if (x1.length : Int) = 1 then (if 0 < (x1.length : Int) then ((bignat_byLimb.f k x0 (rd x1 0)).bind fun bt200 => ((bignat_FromUint.f k (IntKind.u64.wrap (bt200.2))).bind fun t204 => (some (bt200.1, t204, 0)))) else (none)) else (if 0 ≤ (wrap64 ((x1.length : Int) - 1)) then (if (wrap64 ((x1.length : Int) - 1)) < (x1.length : Int) then ((bits_LeadingZeros32.f (rd x1 (wrap64 ((x1.length : Int) - 1)))).bind fun t208 => ((bignat_left.f k x1 t208).bind fun t209 => (if 0 ≤ (x1.length : Int) then (if (x1.length : Int) ≤ (t209.length : Int) then ((some (t209.take ((x1.length : Int) : Int).toNat : List Int)).bind fun y212 => ((bignat_left.f k x0 t208).bind fun t215 => (if 0 ≤ (wrap64 ((wrap64 ((x0.length : Int) - (x1.length : Int))) + 1)) then (if (wrap64 ((wrap64 ((x0.length : Int) - (x1.length : Int))) + 1) : Int).toNat ≤ 70368744177664 then ((some (List.replicate (wrap64 ((wrap64 ((x0.length : Int) - (x1.length : Int))) + 1) : Int).toNat 0 : List Int)).bind fun y218 => (if 0 ≤ (wrap64 ((y212.length : Int) - 1)) then (if (wrap64 ((y212.length : Int) - 1)) < (y212.length : Int) then (if 0 ≤ (wrap64 ((y212.length : Int) - 2)) then (if (wrap64 ((y212.length : Int) - 2)) < (y212.length : Int) then (bignat_DivMod.l0 k t208 y212 t215 y218 (IntKind.u64.wrap (rd y212 (wrap64 ((y212.length : Int) - 1)))) (IntKind.u64.wrap (rd y212 (wrap64 ((y212.length : Int) - 2)))) (wrap64 ((y218.length : Int) - 1))) else (none)) else (none)) else (none)) else (none))) else (none)) else (none)))) else (none)) else (none)))) else (none)) else (none)))))
def bignat_DivMod.l0 : Nat → Int → List Int → List Int → List Int → Int → Int → Int → Option (List Int × List Int × Int)
  | 0, _, _, _, _, _, _, _ => none
  | k + 1, x9, x10, x11, x12, x13, x14, x15 => if x15 ≥ 0 then (if 0 ≤ (wrap64 (x15 + (x10.length : Int))) then (if (wrap64 (x15 + (x10.length : Int))) < (x11.length : Int) then (if 0 ≤ (wrap64 ((wrap64 (x15 + (x10.length : Int))) - 1)) then (if (wrap64 ((wrap64 (x15 + (x10.length : Int))) - 1)) < (x11.length : Int) then (if x13 = 0 then (none) else (bignat_DivMod.l1 k x9 x10 x11 x12 x13 x14 x15 (IntKind.u64.wrap (Int.tdiv (Go.bits .or .u64 (IntKind.u64.wrap ((IntKind.u64.wrap (rd x11 (wrap64 (x15 + (x10.length : Int))))) * 4294967296)) (IntKind.u64.wrap (rd x11 (wrap64 ((wrap64 (x15 + (x10.length : Int))) - 1))))) x13)) (Int.tmod (Go.bits .or .u64 (IntKind.u64.wrap ((IntKind.u64.wrap (rd x11 (wrap64 (x15 + (x10.length : Int))))) * 4294967296)) (IntKind.u64.wrap (rd x11 (wrap64 ((wrap64 (x15 + (x10.length : Int))) - 1))))) x13))) else (none)) else (none)) else (none)) else (none)) else ((bignat_trimmed.f k x12).bind fun t223 => (if 0 ≤ (x10.length : Int) then (if (x10.length : Int) ≤ (x11.length : Int) then ((bignat_right.f k (x11.take ((x10.length : Int) : Int).toNat) x9).bind fun t229 => ((bignat_trimmed.f k t229).bind fun t232 => (some (t223, t232, 0)))) else (none)) else (none)))
def bignat_DivMod.j4 : Nat → Int → List Int → List Int → List Int → Int → Int → Int → Int → Option (List Int × List Int × Int)
  | 0, _, _, _, _, _, _, _, _ => none
  | k + 1, x9, x10, x11, x12, x13, x14, x15, x17 => (bignat_reduce.f k x11 x10 x15 x17).bind fun bt238 => (if bt238.1 = true then ((bignat_restore.f k bt238.2 x10 x15).bind fun t240 => (if 0 ≤ x15 then (if x15 < (x12.length : Int) then (bignat_DivMod.l0 k x9 x10 t240 (x12.set (x15 : Int).toNat ((IntKind.u64.wrap (x17 - 1)) % 4294967296)) x13 x14 (wrap64 (x15 - 1))) else (none)) else (none))) else (if 0 ≤ x15 then (if x15 < (x12.length : Int) then (bignat_DivMod.l0 k x9 x10 bt238.2 (x12.set (x15 : Int).toNat ((x17) % 4294967296)) x13 x14 (wrap64 (x15 - 1))) else (none)) else (none)))
def bignat_DivMod.l1 : Nat → Int → List Int → List Int → List Int → Int → Int → Int → Int → Int → Option (List Int × List Int × Int)
  | 0, _, _, _, _, _, _, _, _, _ => none
  | k + 1, x9, x10, x11, x12, x13, x14, x15, x17, x18 => if x17 ≥ 4294967296 then (bignat_DivMod.j3 k x9 x10 x11 x12 x13 x14 x15 x17 x18 true) else (if 0 ≤ (wrap64 ((wrap64 (x15 + (x10.length : Int))) - 2)) then (if (wrap64 ((wrap64 (x15 + (x10.length : Int))) - 2)) < (x11.length : Int) then (bignat_DivMod.j3 k x9 x10 x11 x12 x13 x14 x15 x17 x18 (decide ((IntKind.u64.wrap (x17 * x14)) > (Go.bits .or .u64 (IntKind.u64.wrap (x18 * 4294967296)) (IntKind.u64.wrap (rd x11 (wrap64 ((wrap64 (x15 + (x10.length : Int))) - 2)))))))) else (none)) else (none))
def bignat_DivMod.j3 : Nat → Int → List Int → List Int → List Int → Int → Int → Int → Int → Int → Bool → Option (List Int × List Int × Int)
  | 0, _, _, _, _, _, _, _, _, _, _ => none
  | k + 1, x9, x10, x11, x12, x13, x14, x15, x17, x18, x142 => if x142 = true then (if (IntKind.u64.wrap (x18 + x13)) ≥ 4294967296 then (bignat_DivMod.j4 k x9 x10 x11 x12 x13 x14 x15 (IntKind.u64.wrap (x17 - 1))) else (bignat_DivMod.l1 k x9 x10 x11 x12 x13 x14 x15 (IntKind.u64.wrap (x17 - 1)) (IntKind.u64.wrap (x18 + x13)))) else (bignat_DivMod.j4 k x9 x10 x11 x12 x13 x14 x15 x17)
end
def bignat_DivMod.f (k : Nat) (l0 : List Int) (l1 : List Int) : Option (List Int × List Int × Int) := (bignat_Valid.f l0).bind fun t190 => (if t190 = true then ((bignat_Valid.f l1).bind fun t191 => (if t191 = true then (bignat_DivMod.j0 k l0 l1 ((l1.length : Int) == 0)) else (bignat_DivMod.j0 k l0 l1 true))) else (bignat_DivMod.j0 k l0 l1 true))
def bignat_DivMod.T12 : Bool × List (List Nat × List Nat) := (true, [([], []), ([], []), ([1], [1]), ([2], [2]), ([0, 3], [0, 3]), ([4], [4]), ([5], [5]), ([], []), ([], []), ([8], [8]), ([9], [9]), ([7, 10], [7, 10]), ([11], [11]), ([12], [12]), ([6, 0, 1, 2, 3, 4, 5, 6], [6]), ([13, 14, 0, 1, 2, 3, 4, 5, 6, 7, 8, 9, 10, 11, 12, 13, 14], [13])])
def bignat_DivMod.B12 : List Nat := [0, 0, 2, 6, 15, 31, 63, 0, 0, 256, 768, 1920, 3968, 8064, 127, 32767]
theorem bignat_DivMod.tab12 : rtab .any (opsOf Tryd.f27 12) = bignat_DivMod.T12 := by kernel_rfl
theorem bignat_DivMod.bits12 : waitsOk bignat_DivMod.T12.2 bignat_DivMod.B12 = true := by kernel_rfl
def bignat_DivMod.T16 : Bool × List (List Nat × List Nat) := (true, [([], []), ([], []), ([], []), ([2], [2]), ([1, 3], [1, 3]), ([0, 4], [0, 4]), ([5], [5]), ([6], [6]), ([7], [7]), ([], []), ([], []), ([], []), ([11], [11]), ([10, 12], [10, 12]), ([13], [13]), ([9, 14], [9, 14]), ([15], [15]), ([16], [16]), ([8, 17], [8, 17]), ([18, 0, 1, 2, 3, 4, 5, 6, 7, 8, 9, 10, 11, 12, 13, 14, 15, 16, 17, 18], [18])])
def bignat_DivMod.B16 : List Nat := [0, 0, 0, 4, 14, 31, 63, 127, 255, 0, 0, 0, 2048, 7168, 15360, 32256, 65024, 130560, 262143, 524287]
theorem bignat_DivMod.tab16 : rtab .any (opsOf Tryd.f27 16) = bignat_DivMod.T16 := by kernel_rfl
theorem bignat_DivMod.bits16 : waitsOk bignat_DivMod.T16.2 bignat_DivMod.B16 = true := by kernel_rfl
def bignat_DivMod.T17 : Bool × List (List Nat × List Nat) := (true, [([], []), ([], []), ([0, 1], [0, 1]), ([], []), ([], []), ([3, 4], [3, 4]), ([2, 0, 1, 2], [2]), ([5, 6, 0, 1, 2, 3, 4, 5, 6], [5])])
def bignat_DivMod.B17 : List Nat := [0, 0, 3, 0, 0, 24, 7, 127]
theorem bignat_DivMod.tab17 : rtab .any (opsOf Tryd.f27 17) = bignat_DivMod.T17 := by kernel_rfl
theorem bignat_DivMod.bits17 : waitsOk bignat_DivMod.T17.2 bignat_DivMod.B17 = true := by kernel_rfl
def bignat_DivMod.T25 : Bool × List (List Nat × List Nat) := (true, [([], []), ([0], [0]), ([], []), ([], []), ([3], [3]), ([2, 4], [2, 4]), ([], []), ([5, 6, 1], [5, 6]), ([7, 7], [7]), ([1, 8, 0, 1], [1]), ([8, 9, 0, 1, 2, 3, 4, 5, 6, 7, 8, 9], [8]), ([10, 0, 1, 2, 3, 4, 5, 6, 7, 8, 9, 10], [])])
def bignat_DivMod.B25 : List Nat := [0, 1, 0, 0, 8, 28, 0, 127, 255, 511, 1023, 2047]
theorem bignat_DivMod.tab25 : rtab .any (opsOf Tryd.f27 25) = bignat_DivMod.T25 := by kernel_rfl
theorem bignat_DivMod.bits25 : waitsOk bignat_DivMod.T25.2 bignat_DivMod.B25 = true := by kernel_rfl
set_option maxHeartbeats 8000000 in
set_option maxRecDepth 100000 in
theorem bignat_DivMod.calls (k : Nat) (A0 : Option Addr) (c0 : Nat) (l0 : List Int) (A1 : Option Addr) (c1 : Nat) (l1 : List Int) (r1 : List Int) (r2 : List Int) (r3 : Int) (w : World) (hr0 : Kd.C (Kd.int .u32) w A0 l0.length l0) (hc0 : l0.length ≤ c0) (hr1 : Kd.C (Kd.int .u32) w A1 l1.length l1) (hc1 : l1.length ≤ c1) (h : bignat_DivMod.f k l0 l1 = some (r1, r2, r3)) :
    Calls Tryd.prog 27 #[.slice A0 l0.length c0, .slice A1 l1.length c1] w fun e w' => ∃ v0_ v1_ : Value, e = .returned (.tuple #[v0_, v1_, .int .i64 r3]) ∧ Kd.R (Kd.int .u32) 63 w' w.heap.size (fun k_ => some k_ ≠ (v1_ : Value).ownBlock) v0_ r1 ∧ Kd.R (Kd.int .u32) 63 w' w.heap.size (fun k_ => some k_ ≠ (v0_ : Value).ownBlock) v1_ r2 ∧ Below w.heap.size w w' := by
  have HR0 := Aside0.mk hr0
  have HC0 := Aside0.mk hc0
  clear hr0 hc0
  have HR1 := Aside0.mk hr1
  have HC1 := Aside0.mk hc1
  clear hr1 hc1
  have HB := Aside0.mk (Below.refl w.heap.size w)
  have H : ((bignat_Valid.f l0).bind fun t190 => (if t190 = true then ((bignat_Valid.f l1).bind fun t191 => (if t191 = true then (bignat_DivMod.j0 k l0 l1 ((l1.length : Int) == 0)) else (bignat_DivMod.j0 k l0 l1 true))) else (bignat_DivMod.j0 k l0 l1 true))) = some (r1, r2, r3) := h
  clear h
  have HC3 := Aside0.mk H
  clear H
  go_enter Tryd.func27, Tryd.ntmps27
  go_upto_region 1 with (fail)
  go_cut [31] (fun v31 wc => ∃ (kq : Nat) (x31_2 : Bool), v31 = .bool x31_2 ∧ Aside0 (bignat_DivMod.j0 kq l0 l1 x31_2 = some (r1, r2, r3)) ∧ Aside0 (kq ≤ k) ∧ Aside0 (Below w.heap.size w wc))
  case first =>
    have H := HC3.out
    clear HC3
    replace H := Option.bind_eq_some_iff.mp H
    obtain ⟨t190, A40, H⟩ := H
    replace H : (if t190 = true then ((bignat_Valid.f l1).bind fun t191 => (if t191 = true then (bignat_DivMod.j0 k l0 l1 ((l1.length : Int) == 0)) else (bignat_DivMod.j0 k l0 l1 true))) else (bignat_DivMod.j0 k l0 l1 true)) = some (r1, r2, r3) := H
    have A4 := Aside0.mk A40
    clear A40
    by_cases c5 : t190 = true
    · subst c5
      have H1 : ((bignat_Valid.f l1).bind fun t191 => (if t191 = true then (bignat_DivMod.j0 k l0 l1 ((l1.length : Int) == 0)) else (bignat_DivMod.j0 k l0 l1 true))) = some (r1, r2, r3) := by rw [if_pos rfl] at H; exact H
      clear H
      have H := H1
      clear H1
      replace H := Option.bind_eq_some_iff.mp H
      obtain ⟨t191, A60, H⟩ := H
      replace H : (if t191 = true then (bignat_DivMod.j0 k l0 l1 ((l1.length : Int) == 0)) else (bignat_DivMod.j0 k l0 l1 true)) = some (r1, r2, r3) := H
      have A6 := Aside0.mk A60
      clear A60
      by_cases c7 : t191 = true
      · subst c7
        have H1 : (bignat_DivMod.j0 k l0 l1 ((l1.length : Int) == 0)) = some (r1, r2, r3) := by rw [if_pos rfl] at H; exact H
        clear H
        have H := H1
        clear H1
        have H' := Aside0.mk H
        clear H
        go_wp2_with (first | ((with_reducible refine gate_callee (f := 24) rfl ?_); refine goesL_ (some 20) rfl rfl Tryd.func24 (by kernel_rfl) rfl #[.slice A0 l0.length c0] rfl (by (try simp only [List.map_toArray, List.map_cons, List.map_nil]); first | done | rfl | (simp only [List.length_drop, List.length_take]; rfl)) ?_; (with_reducible refine (bignat_Valid.calls _ _ l0 true _ ?side1 ?side2 A4.out).mono ?_); (case side1 => repeat (first | exact (Kd.C_below HR0.out HB.out) | (with_reducible refine Kd.C_alloc ?_ _) | (with_reducible refine Kd.C_drewN ?_ _) | (with_reducible refine Kd.C_drew ?_))); (case side2 => exact HC0.out); rintro e w' ⟨rfl, ⟨nd, rfl⟩⟩; refine ⟨_, rfl, ?_⟩) | (go_at_call 24; (with_reducible refine (bignat_Valid.calls _ _ l1 true _ ?side1 ?side2 A6.out).mono ?_); (case side1 => repeat (first | exact (Kd.C_below HR1.out (by repeat (first | (with_reducible first | exact HB.out | apply below_alloc | apply pw_below_drewN | apply below_drew1) | exact HB.out))) | (with_reducible refine Kd.C_alloc ?_ _) | (with_reducible refine Kd.C_drewN ?_ _) | (with_reducible refine Kd.C_drew ?_))); (case side2 => exact HC1.out); rintro e w' ⟨rfl, ⟨nd, rfl⟩⟩))
        go_meet
        case rel => exact ⟨_, (((l1.length : Int) == 0)), (by first | rfl | (simp; done) | (simp [*]; done)), H', ⟨by first | omega | exact Nat.le_refl _⟩, ⟨by repeat (first | (with_reducible first | exact HB.out | apply below_alloc | apply pw_below_drewN | apply below_drew1) | exact HB.out)⟩⟩
      · replace c7 := Bool.eq_false_iff.mpr c7
        subst c7
        have H1 : (bignat_DivMod.j0 k l0 l1 true) = some (r1, r2, r3) := by rw [if_neg (show ¬ (false = true) by decide)] at H; exact H
        clear H
        have H := H1
        clear H1
        have H' := Aside0.mk H
        clear H
        go_wp2_with (first | ((with_reducible refine gate_callee (f := 24) rfl ?_); refine goesL_ (some 20) rfl rfl Tryd.func24 (by kernel_rfl) rfl #[.slice A0 l0.length c0] rfl (by (try simp only [List.map_toArray, List.map_cons, List.map_nil]); first | done | rfl | (simp only [List.length_drop, List.length_take]; rfl)) ?_; (with_reducible refine (bignat_Valid.calls _ _ l0 true _ ?side1 ?side2 A4.out).mono ?_); (case side1 => repeat (first | exact (Kd.C_below HR0.out HB.out) | (with_reducible refine Kd.C_alloc ?_ _) | (with_reducible refine Kd.C_drewN ?_ _) | (with_reducible refine Kd.C_drew ?_))); (case side2 => exact HC0.out); rintro e w' ⟨rfl, ⟨nd, rfl⟩⟩; refine ⟨_, rfl, ?_⟩) | (go_at_call 24; (with_reducible refine (bignat_Valid.calls _ _ l1 false _ ?side1 ?side2 A6.out).mono ?_); (case side1 => repeat (first | exact (Kd.C_below HR1.out (by repeat (first | (with_reducible first | exact HB.out | apply below_alloc | apply pw_below_drewN | apply below_drew1) | exact HB.out))) | (with_reducible refine Kd.C_alloc ?_ _) | (with_reducible refine Kd.C_drewN ?_ _) | (with_reducible refine Kd.C_drew ?_))); (case side2 => exact HC1.out); rintro e w' ⟨rfl, ⟨nd, rfl⟩⟩))
        go_meet
        case rel => exact ⟨_, (true), (by first | rfl | (simp; done) | (simp [*]; done)), H', ⟨by first | omega | exact Nat.le_refl _⟩, ⟨by repeat (first | (with_reducible first | exact HB.out | apply below_alloc | apply pw_below_drewN | apply below_drew1) | exact HB.out)⟩⟩
    · replace c5 := Bool.eq_false_iff.mpr c5
      subst c5
      have H1 : (bignat_DivMod.j0 k l0 l1 true) = some (r1, r2, r3) := by rw [if_neg (show ¬ (false = true) by decide)] at H; exact H
      clear H
      have H := H1
      clear H1
      have H' := Aside0.mk H
      clear H
      go_wp2_with (first | ((with_reducible refine gate_callee (f := 24) rfl ?_); refine goesL_ (some 20) rfl rfl Tryd.func24 (by kernel_rfl) rfl #[.slice A0 l0.length c0] rfl (by (try simp only [List.map_toArray, List.map_cons, List.map_nil]); first | done | rfl | (simp only [List.length_drop, List.length_take]; rfl)) ?_; (with_reducible refine (bignat_Valid.calls _ _ l0 false _ ?side1 ?side2 A4.out).mono ?_); (case side1 => repeat (first | exact (Kd.C_below HR0.out HB.out) | (with_reducible refine Kd.C_alloc ?_ _) | (with_reducible refine Kd.C_drewN ?_ _) | (with_reducible refine Kd.C_drew ?_))); (case side2 => exact HC0.out); rintro e w' ⟨rfl, ⟨nd, rfl⟩⟩; refine ⟨_, rfl, ?_⟩))
      go_meet
      case rel => exact ⟨_, (true), (by first | rfl | (simp; done) | (simp [*]; done)), H', ⟨by first | omega | exact Nat.le_refl _⟩, ⟨by repeat (first | (with_reducible first | exact HB.out | apply below_alloc | apply pw_below_drewN | apply below_drew1) | exact HB.out)⟩⟩
  case rest =>
    clear HC3
    try clear c1
    try clear c2
    try clear p2
    try clear c5
    try clear c7
    obtain ⟨kq, x31_2, rfl, HA, HJ2, HB⟩ := hcut
    cases kq with
    | zero => exact absurd HA.out (by simp [bignat_DivMod.j0])
    | succ kj2 =>
      have H := HA.out
      clear HA
      simp only [bignat_DivMod.j0] at H
      by_cases c8 : x31_2 = true
      · subst c8
        have H1 : (some (([] : List Int), ([] : List Int), 1)) = some (r1, r2, r3) := by rw [if_pos rfl] at H; exact H
        clear H
        have H := H1
        clear H1
        simp only [Option.some.injEq, Prod.mk.injEq] at H
        obtain ⟨rfl, rfl, rfl⟩ := H
        go_wp2
        go_ret3
        exact ⟨_, _, by first | rfl | (simp [errW_none, errW_some] <;> rfl) | (simp [*, errW_none, errW_some] <;> rfl), by first | exact Kd.R_nil _ _ _ _ _ | exact Kd.N_nil _ _ _ _ _ | exact Kd.V_nil _ _ _ _ _ | exact Kd.Q_nil _ _ _ _ _ | exact Kd.S_nil _ _ _ _ _, by first | exact Kd.R_nil _ _ _ _ _ | exact Kd.N_nil _ _ _ _ _ | exact Kd.V_nil _ _ _ _ _ | exact Kd.Q_nil _ _ _ _ _ | exact Kd.S_nil _ _ _ _ _, by repeat (first | (with_reducible first | exact HB.out | apply below_alloc | apply pw_below_drewN | apply below_drew1) | exact HB.out)⟩
      · replace c8 := Bool.eq_false_iff.mpr c8
        subst c8
        have H1 : ((bignat_Compare.f kj2 l0 l1).bind fun t192 => (if t192 < 0 then ((api_Nat_uint32.f l0).bind fun t193 => ((bignat_trimmed.f kj2 t193).bind fun t196 => (some (([] : List Int), t196, 0)))) else (if (l1.length : Int) = 1 then (if 0 < (l1.length : Int) then ((bignat_byLimb.f kj2 l0 (rd l1 0)).bind fun bt200 => ((bignat_FromUint.f kj2 (IntKind.u64.wrap (bt200.2))).bind fun t204 => (some (bt200.1, t204, 0)))) else (none)) else (if 0 ≤ (wrap64 ((l1.length : Int) - 1)) then (if (wrap64 ((l1.length : Int) - 1)) < (l1.length : Int) then ((bits_LeadingZeros32.f (rd l1 (wrap64 ((l1.length : Int) - 1)))).bind fun t208 => ((bignat_left.f kj2 l1 t208).bind fun t209 => (if 0 ≤ (l1.length : Int) then (if (l1.length : Int) ≤ (t209.length : Int) then ((some (t209.take ((l1.length : Int) : Int).toNat : List Int)).bind fun y212 => ((bignat_left.f kj2 l0 t208).bind fun t215 => (if 0 ≤ (wrap64 ((wrap64 ((l0.length : Int) - (l1.length : Int))) + 1)) then (if (wrap64 ((wrap64 ((l0.length : Int) - (l1.length : Int))) + 1) : Int).toNat ≤ 70368744177664 then ((some (List.replicate (wrap64 ((wrap64 ((l0.length : Int) - (l1.length : Int))) + 1) : Int).toNat 0 : List Int)).bind fun y218 => (if 0 ≤ (wrap64 ((y212.length : Int) - 1)) then (if (wrap64 ((y212.length : Int) - 1)) < (y212.length : Int) then (if 0 ≤ (wrap64 ((y212.length : Int) - 2)) then (if (wrap64 ((y212.length : Int) - 2)) < (y212.length : Int) then (bignat_DivMod.l0 kj2 t208 y212 t215 y218 (IntKind.u64.wrap (rd y212 (wrap64 ((y212.length : Int) - 1)))) (IntKind.u64.wrap (rd y212 (wrap64 ((y212.length : Int) - 2)))) (wrap64 ((y218.length : Int) - 1))) else (none)) else (none)) else (none)) else (none))) else (none)) else (none)))) else (none)) else (none)))) else (none)) else (none))))) = some (r1, r2, r3) := by rw [if_neg (show ¬ (false = true) by decide)] at H; exact H
        clear H
        have H := H1
        clear H1
        replace H := Option.bind_eq_some_iff.mp H
        obtain ⟨t192, A90, H⟩ := H
        replace H : (if t192 < 0 then ((api_Nat_uint32.f l0).bind fun t193 => ((bignat_trimmed.f kj2 t193).bind fun t196 => (some (([] : List Int), t196, 0)))) else (if (l1.length : Int) = 1 then (if 0 < (l1.length : Int) then ((bignat_byLimb.f kj2 l0 (rd l1 0)).bind fun bt200 => ((bignat_FromUint.f kj2 (IntKind.u64.wrap (bt200.2))).bind fun t204 => (some (bt200.1, t204, 0)))) else (none)) else (if 0 ≤ (wrap64 ((l1.length : Int) - 1)) then (if (wrap64 ((l1.length : Int) - 1)) < (l1.length : Int) then ((bits_LeadingZeros32.f (rd l1 (wrap64 ((l1.length : Int) - 1)))).bind fun t208 => ((bignat_left.f kj2 l1 t208).bind fun t209 => (if 0 ≤ (l1.length : Int) then (if (l1.length : Int) ≤ (t209.length : Int) then ((some (t209.take ((l1.length : Int) : Int).toNat : List Int)).bind fun y212 => ((bignat_left.f kj2 l0 t208).bind fun t215 => (if 0 ≤ (wrap64 ((wrap64 ((l0.length : Int) - (l1.length : Int))) + 1)) then (if (wrap64 ((wrap64 ((l0.length : Int) - (l1.length : Int))) + 1) : Int).toNat ≤ 70368744177664 then ((some (List.replicate (wrap64 ((wrap64 ((l0.length : Int) - (l1.length : Int))) + 1) : Int).toNat 0 : List Int)).bind fun y218 => (if 0 ≤ (wrap64 ((y212.length : Int) - 1)) then (if (wrap64 ((y212.length : Int) - 1)) < (y212.length : Int) then (if 0 ≤ (wrap64 ((y212.length : Int) - 2)) then (if (wrap64 ((y212.length : Int) - 2)) < (y212.length : Int) then (bignat_DivMod.l0 kj2 t208 y212 t215 y218 (IntKind.u64.wrap (rd y212 (wrap64 ((y212.length : Int) - 1)))) (IntKind.u64.wrap (rd y212 (wrap64 ((y212.length : Int) - 2)))) (wrap64 ((y218.length : Int) - 1))) else (none)) else (none)) else (none)) else (none))) else (none)) else (none)))) else (none)) else (none)))) else (none)) else (none)))) = some (r1, r2, r3) := H
        have A9 := Aside0.mk A90
        clear A90
        by_cases c10 : t192 < 0
        · rw [if_pos c10] at H
          have c10b0 : decide (t192 < 0) = true := decide_eq_true c10
          clear c10
          replace H := Option.bind_eq_some_iff.mp H
          obtain ⟨t193, A110, H⟩ := H
          replace H : ((bignat_trimmed.f kj2 t193).bind fun t196 => (some (([] : List Int), t196, 0))) = some (r1, r2, r3) := H
          have A11 := Aside0.mk A110
          clear A110
          replace H := Option.bind_eq_some_iff.mp H
          obtain ⟨t196, A120, H⟩ := H
          replace H : (some (([] : List Int), t196, 0)) = some (r1, r2, r3) := H
          have A12 := Aside0.mk A120
          clear A120
          simp only [Option.some.injEq, Prod.mk.injEq] at H
          obtain ⟨rfl, rfl, rfl⟩ := H
          go_wp2_with (first | ((with_reducible refine gate_callee (f := 37) rfl ?_); refine goesL_ (some 34) rfl rfl Tryd.func37 (by kernel_rfl) rfl #[.slice A0 l0.length c0, .slice A1 l1.length c1] rfl (by (try simp only [List.map_toArray, List.map_cons, List.map_nil]); first | done | rfl | (simp only [List.length_drop, List.length_take]; rfl)) ?_; (with_reducible refine (bignat_Compare.calls kj2 _ _ l0 _ _ l1 t192 _ ?side1 ?side2 ?side3 ?side4 A9.out).mono ?_); (case side1 => repeat (first | exact (Kd.C_below HR0.out HB.out) | (with_reducible refine Kd.C_alloc ?_ _) | (with_reducible refine Kd.C_drewN ?_ _) | (with_reducible refine Kd.C_drew ?_))); (case side2 => exact HC0.out); (case side3 => repeat (first | exact (Kd.C_below HR1.out HB.out) | (with_reducible refine Kd.C_alloc ?_ _) | (with_reducible refine Kd.C_drewN ?_ _) | (with_reducible refine Kd.C_drew ?_))); (case side4 => exact HC1.out); rintro e w13 ⟨rfl, hb⟩; refine ⟨_, rfl, ?_⟩; have n0_ := Aside0.mk (below_step (by repeat (first | (with_reducible first | exact HB.out | apply below_alloc | apply pw_below_drewN | apply below_drew1) | exact HB.out)) hb); clear HB; have HB := n0_; clear n0_; (try clear hb); (try clear hb2); (try clear hk); (try clear hi)) | ((with_reducible refine gate_callee (f := 77) rfl ?_); refine goesL_ (some 37) rfl rfl Tryd.func77 (by kernel_rfl) rfl #[.slice A0 l0.length c0] rfl (by (try simp only [List.map_toArray, List.map_cons, List.map_nil]); first | done | rfl | (simp only [List.length_drop, List.length_take]; rfl)) ?_; (with_reducible refine (api_Nat_uint32.calls _ _ l0 t193 _ ?side1 ?side2 A11.out).mono ?_); (case side1 => repeat (first | exact (Kd.C_below HR0.out HB.out) | (with_reducible refine Kd.C_alloc ?_ _) | (with_reducible refine Kd.C_drewN ?_ _) | (with_reducible refine Kd.C_drew ?_))); (case side2 => exact HC0.out); rintro e w14 ⟨v194, rfl, ho0, hb⟩; refine ⟨_, rfl, ?_⟩; have n0_ := Aside0.mk (Kd.R_lower ho0 (below_size (by repeat (first | (with_reducible first | exact HB.out | apply below_alloc | apply pw_below_drewN | apply below_drew1) | exact HB.out)))); have n1_ := Aside0.mk (below_step (by repeat (first | (with_reducible first | exact HB.out | apply below_alloc | apply pw_below_drewN | apply below_drew1) | exact HB.out)) hb); clear HB; have HO195 := n0_; have HB := n1_; clear n0_ n1_; (try clear hb); (try clear hb2); (try clear hk); (try clear hi); (try clear ho0); obtain ⟨Ao15, co15, eo15⟩ := Kd.R_slice HO195.out; subst eo15) | ((with_reducible refine gate_callee (f := 76) rfl ?_); refine goesL_ (some 38) rfl rfl Tryd.func76 (by kernel_rfl) rfl #[.slice Ao15 t193.length co15] rfl (by (try simp only [List.map_toArray, List.map_cons, List.map_nil]); first | done | rfl | (simp only [List.length_drop, List.length_take]; rfl)) ?_; (with_reducible refine (bignat_trimmed.calls kj2 (fun k_ => some k_ = (.slice Ao15 t193.length co15 : Value).ownBlock) (.slice Ao15 t193.length co15) t193 t196 w _ ?side1 ?side2 A12.out).mono ?_); (case side1 => repeat (first | (with_reducible first | exact HB.out | apply below_alloc | apply pw_below_drewN | apply below_drew1) | exact HB.out)); (case side2 => exact Kd.R_tight rfl HO195.out); rintro e w16 ⟨v197, rfl, ho0, hb, hkp⟩; refine ⟨_, rfl, ?_⟩; have n0_ := Aside0.mk (Kd.R_mono (ok' := fun k_ => True) ho0 (fun k_ hk_ => trivial)); have n1_ := Aside0.mk (hb); clear HB; clear HO195; have HO198 := n0_; have HB := n1_; clear n0_ n1_; (try clear hb); (try clear hkp); (try clear ho0)))
          go_ret3
          exact ⟨_, _, by first | rfl | (simp [errW_none, errW_some] <;> rfl) | (simp [*, errW_none, errW_some] <;> rfl), by first | exact Kd.R_nil _ _ _ _ _ | exact Kd.N_nil _ _ _ _ _ | exact Kd.V_nil _ _ _ _ _ | exact Kd.Q_nil _ _ _ _ _ | exact Kd.S_nil _ _ _ _ _, by (with_reducible repeat (first | apply Kd.R_alloc | apply Kd.R_drewN | apply Kd.R_drew)); exact Kd.R_mono HO198.out (fun _ hk => (by simp [Value.ownBlock])), by repeat (first | (with_reducible first | exact HB.out | apply below_alloc | apply pw_below_drewN | apply below_drew1) | exact HB.out)⟩
        · rw [if_neg c10] at H
          have c10b0 : decide (t192 < 0) = false := decide_eq_false c10
          clear c10
          by_cases c17 : (l1.length : Int) = 1
          · rw [if_pos c17] at H
            have c17b0 : ((l1.length : Int) == 1) = true := beq_iff_eq.mpr c17
            have c17b1 : ((l1.length : Int) != 1) = false := bne_eq_false_iff_eq.mpr c17
            clear c17
            by_cases c18 : 0 < (l1.length : Int)
            · rw [if_pos c18] at H
              have c18b0 : decide (0 < (l1.length : Int)) = true := decide_eq_true c18
              have c18b1 : decide (0 < l1.length) = true := decide_eq_true (by omega)
              clear c18
              replace H := Option.bind_eq_some_iff.mp H
              obtain ⟨⟨t200, t201⟩, A190, H⟩ := H
              replace H : ((bignat_FromUint.f kj2 (IntKind.u64.wrap (t201))).bind fun t204 => (some (t200, t204, 0))) = some (r1, r2, r3) := H
              have A19 := Aside0.mk A190
              clear A190
              replace H := Option.bind_eq_some_iff.mp H
              obtain ⟨t204, A200, H⟩ := H
              replace H : (some (t200, t204, 0)) = some (r1, r2, r3) := H
              have A20 := Aside0.mk A200
              clear A200
              simp only [Option.some.injEq, Prod.mk.injEq] at H
              obtain ⟨rfl, rfl, rfl⟩ := H
              go_wp2_with (first | ((with_reducible refine gate_callee (f := 37) rfl ?_); refine goesL_ (some 34) rfl rfl Tryd.func37 (by kernel_rfl) rfl #[.slice A0 l0.length c0, .slice A1 l1.length c1] rfl (by (try simp only [List.map_toArray, List.map_cons, List.map_nil]); first | done | rfl | (simp only [List.length_drop, List.length_take]; rfl)) ?_; (with_reducible refine (bignat_Compare.calls kj2 _ _ l0 _ _ l1 t192 _ ?side1 ?side2 ?side3 ?side4 A9.out).mono ?_); (case side1 => repeat (first | exact (Kd.C_below HR0.out HB.out) | (with_reducible refine Kd.C_alloc ?_ _) | (with_reducible refine Kd.C_drewN ?_ _) | (with_reducible refine Kd.C_drew ?_))); (case side2 => exact HC0.out); (case side3 => repeat (first | exact (Kd.C_below HR1.out HB.out) | (with_reducible refine Kd.C_alloc ?_ _) | (with_reducible refine Kd.C_drewN ?_ _) | (with_reducible refine Kd.C_drew ?_))); (case side4 => exact HC1.out); rintro e w21 ⟨rfl, hb⟩; refine ⟨_, rfl, ?_⟩; have n0_ := Aside0.mk (below_step (by repeat (first | (with_reducible first | exact HB.out | apply below_alloc | apply pw_below_drewN | apply below_drew1) | exact HB.out)) hb); clear HB; have HB := n0_; clear n0_; (try clear hb); (try clear hb2); (try clear hk); (try clear hi); have p199 : 0 ≤ (0 : Int) := (by omega); have q199 : 0 < (l1.length : Int) := of_decide_eq_true (by first | (with_reducible assumption) | assumption); obtain ⟨ad199, e199, hx199_0⟩ := Kd.at_int HR1.out 0 p199 q199; cases e199; have qi199 : (0 < l1.length) = True := eq_true (by omega); (try rw [show ((0 : Int)).toNat = 0 from rfl] at hx199_0); (try rw [Addr.add_zero'] at hx199_0); replace hx199_0 := (HB.out.cell (World.block_lt_of_cell? w _ hx199_0)).trans hx199_0; replace p199 := eq_true p199; replace q199 := eq_true q199) | ((with_reducible refine gate_callee (f := 78) rfl ?_); refine goesL_ (some 47) rfl rfl Tryd.func78 (by kernel_rfl) rfl #[.slice A0 l0.length c0, .int .u32 (rd l1 0)] rfl (by (try simp only [List.map_toArray, List.map_cons, List.map_nil]); first | done | rfl | (simp only [List.length_drop, List.length_take]; rfl)) ?_; (with_reducible refine (bignat_byLimb.calls kj2 _ _ l0 (rd l1 0) t200 t201 _ ?side1 ?side2 A19.out).mono ?_); (case side1 => repeat (first | exact (Kd.C_below HR0.out HB.out) | (with_reducible refine Kd.C_alloc ?_ _) | (with_reducible refine Kd.C_drewN ?_ _) | (with_reducible refine Kd.C_drew ?_))); (case side2 => exact HC0.out); rintro e w22 ⟨v202, rfl, ho0, hb⟩; refine ⟨_, rfl, ?_⟩; have n0_ := Aside0.mk (Kd.R_lower ho0 (below_size (by repeat (first | (with_reducible first | exact HB.out | apply below_alloc | apply pw_below_drewN | apply below_drew1) | exact HB.out)))); have n1_ := Aside0.mk (below_step (by repeat (first | (with_reducible first | exact HB.out | apply below_alloc | apply pw_below_drewN | apply below_drew1) | exact HB.out)) hb); clear HB; have HO203 := n0_; have HB := n1_; clear n0_ n1_; (try clear hb); (try clear hb2); (try clear hk); (try clear hi); (try clear ho0)) | ((with_reducible refine gate_callee (f := 26) rfl ?_); refine goesL_ (some 53) rfl rfl Tryd.func26 (by kernel_rfl) rfl #[.int .u64 (IntKind.u64.wrap (t201))] rfl (by (try simp only [List.map_toArray, List.map_cons, List.map_nil]); first | done | rfl | (simp only [List.length_drop, List.length_take]; rfl)) ?_; (with_reducible refine (bignat_FromUint.calls kj2 (IntKind.u64.wrap (t201)) t204 _ A20.out).mono ?_); rintro e w23 ⟨v205, rfl, ho0, hb⟩; refine ⟨_, rfl, ?_⟩; have n0_ := Aside0.mk (Kd.R_elder' (by (with_reducible repeat (first | apply Kd.R_alloc | apply Kd.R_drewN | apply Kd.R_drew)); exact HO203.out) (Kd.R_base ho0) hb); have n1_ := Aside0.mk (Kd.R_lower (Kd.R_new' ho0 (Kd.R_lt (by (with_reducible repeat (first | apply Kd.R_alloc | apply Kd.R_drewN | apply Kd.R_drew)); exact HO203.out))) (below_size (by repeat (first | (with_reducible first | exact HB.out | apply below_alloc | apply pw_below_drewN | apply below_drew1) | exact HB.out)))); have n2_ := Aside0.mk (below_step (by repeat (first | (with_reducible first | exact HB.out | apply below_alloc | apply pw_below_drewN | apply below_drew1) | exact HB.out)) hb); clear HO203; clear HB; have HO203 := n0_; have HO206 := n1_; have HB := n2_; clear n0_ n1_ n2_; (try clear hb); (try clear hb2); (try clear hk); (try clear hi); (try clear ho0)))
              go_ret3
              exact ⟨_, _, by first | rfl | (simp [errW_none, errW_some] <;> rfl) | (simp [*, errW_none, errW_some] <;> rfl), by (with_reducible repeat (first | apply Kd.R_alloc | apply Kd.R_drewN | apply Kd.R_drew)); exact Kd.R_mono HO203.out (fun _ hk => hk.2), by (with_reducible repeat (first | apply Kd.R_alloc | apply Kd.R_drewN | apply Kd.R_drew)); exact Kd.R_mono HO206.out (fun _ hk => hk.2), by repeat (first | (with_reducible first | exact HB.out | apply below_alloc | apply pw_below_drewN | apply below_drew1) | exact HB.out)⟩
            · rw [if_neg c18] at H
              exact absurd H (by simp)
          · rw [if_neg c17] at H
            have c17b0 : ((l1.length : Int) == 1) = false := beq_eq_false_iff_ne.mpr c17
            have c17b1 : ((l1.length : Int) != 1) = true := bne_iff_ne.mpr c17
            obtain ⟨ji24, hji24⟩ : ∃ j_ : Int, (wrap64 ((l1.length : Int) - 1)) = j_ := ⟨_, rfl⟩
            replace H : (if 0 ≤ (ji24) then (if (ji24) < (l1.length : Int) then ((bits_LeadingZeros32.f (rd l1 (ji24))).bind fun t208 => ((bignat_left.f kj2 l1 t208).bind fun t209 => (if 0 ≤ (l1.length : Int) then (if (l1.length : Int) ≤ (t209.length : Int) then ((some (t209.take ((l1.length : Int) : Int).toNat : List Int)).bind fun y212 => ((bignat_left.f kj2 l0 t208).bind fun t215 => (if 0 ≤ (wrap64 ((wrap64 ((l0.length : Int) - (l1.length : Int))) + 1)) then (if (wrap64 ((wrap64 ((l0.length : Int) - (l1.length : Int))) + 1) : Int).toNat ≤ 70368744177664 then ((some (List.replicate (wrap64 ((wrap64 ((l0.length : Int) - (l1.length : Int))) + 1) : Int).toNat 0 : List Int)).bind fun y218 => (if 0 ≤ (wrap64 ((y212.length : Int) - 1)) then (if (wrap64 ((y212.length : Int) - 1)) < (y212.length : Int) then (if 0 ≤ (wrap64 ((y212.length : Int) - 2)) then (if (wrap64 ((y212.length : Int) - 2)) < (y212.length : Int) then (bignat_DivMod.l0 kj2 t208 y212 t215 y218 (IntKind.u64.wrap (rd y212 (wrap64 ((y212.length : Int) - 1)))) (IntKind.u64.wrap (rd y212 (wrap64 ((y212.length : Int) - 2)))) (wrap64 ((y218.length : Int) - 1))) else (none)) else (none)) else (none)) else (none))) else (none)) else (none)))) else (none)) else (none)))) else (none)) else (none)) = some (r1, r2, r3) := by first | (rw [hji24] at H; exact H) | (simp only [hji24] at H ⊢; exact H)
            (try rw [hji24] at A9)
            have hji24w : (IntKind.i64.wrap ((l1.length : Int) - 1)) = ji24 := (i64_w _).trans hji24
            by_cases c25 : 0 ≤ (ji24)
            · rw [if_pos c25] at H
              have c25b0 : decide (0 ≤ (ji24)) = true := decide_eq_true c25
              clear c25
              by_cases c26 : (ji24) < (l1.length : Int)
              · rw [if_pos c26] at H
                have c26b0 : decide ((ji24) < (l1.length : Int)) = true := decide_eq_true c26
                clear c26
                replace H := Option.bind_eq_some_iff.mp H
                obtain ⟨t208, A270, H⟩ := H
                replace H : ((bignat_left.f kj2 l1 t208).bind fun t209 => (if 0 ≤ (l1.length : Int) then (if (l1.length : Int) ≤ (t209.length : Int) then ((some (t209.take ((l1.length : Int) : Int).toNat : List Int)).bind fun y212 => ((bignat_left.f kj2 l0 t208).bind fun t215 => (if 0 ≤ (wrap64 ((wrap64 ((l0.length : Int) - (l1.length : Int))) + 1)) then (if (wrap64 ((wrap64 ((l0.length : Int) - (l1.length : Int))) + 1) : Int).toNat ≤ 70368744177664 then ((some (List.replicate (wrap64 ((wrap64 ((l0.length : Int) - (l1.length : Int))) + 1) : Int).toNat 0 : List Int)).bind fun y218 => (if 0 ≤ (wrap64 ((y212.length : Int) - 1)) then (if (wrap64 ((y212.length : Int) - 1)) < (y212.length : Int) then (if 0 ≤ (wrap64 ((y212.length : Int) - 2)) then (if (wrap64 ((y212.length : Int) - 2)) < (y212.length : Int) then (bignat_DivMod.l0 kj2 t208 y212 t215 y218 (IntKind.u64.wrap (rd y212 (wrap64 ((y212.length : Int) - 1)))) (IntKind.u64.wrap (rd y212 (wrap64 ((y212.length : Int) - 2)))) (wrap64 ((y218.length : Int) - 1))) else (none)) else (none)) else (none)) else (none))) else (none)) else (none)))) else (none)) else (none))) = some (r1, r2, r3) := H
                have A27 := Aside0.mk A270
                clear A270
                replace H := Option.bind_eq_some_iff.mp H
                obtain ⟨t209, A280, H⟩ := H
                replace H : (if 0 ≤ (l1.length : Int) then (if (l1.length : Int) ≤ (t209.length : Int) then ((some (t209.take ((l1.length : Int) : Int).toNat : List Int)).bind fun y212 => ((bignat_left.f kj2 l0 t208).bind fun t215 => (if 0 ≤ (wrap64 ((wrap64 ((l0.length : Int) - (l1.length : Int))) + 1)) then (if (wrap64 ((wrap64 ((l0.length : Int) - (l1.length : Int))) + 1) : Int).toNat ≤ 70368744177664 then ((some (List.replicate (wrap64 ((wrap64 ((l0.length : Int) - (l1.length : Int))) + 1) : Int).toNat 0 : List Int)).bind fun y218 => (if 0 ≤ (wrap64 ((y212.length : Int) - 1)) then (if (wrap64 ((y212.length : Int) - 1)) < (y212.length : Int) then (if 0 ≤ (wrap64 ((y212.length : Int) - 2)) then (if (wrap64 ((y212.length : Int) - 2)) < (y212.length : Int) then (bignat_DivMod.l0 kj2 t208 y212 t215 y218 (IntKind.u64.wrap (rd y212 (wrap64 ((y212.length : Int) - 1)))) (IntKind.u64.wrap (rd y212 (wrap64 ((y212.length : Int) - 2)))) (wrap64 ((y218.length : Int) - 1))) else (none)) else (none)) else (none)) else (none))) else (none)) else (none)))) else (none)) else (none)) = some (r1, r2, r3) := H
                have A28 := Aside0.mk A280
                clear A280
                by_cases c29 : 0 ≤ (l1.length : Int)
                · rw [if_pos c29] at H
                  have c29b0 := eq_true c29
                  have c29b1 : decide (0 ≤ (l1.length : Int)) = true := decide_eq_true c29
                  clear c29
                  by_cases c30 : (l1.length : Int) ≤ (t209.length : Int)
                  · rw [if_pos c30] at H
                    have c30b0 := eq_true c30
                    have c30b1 : decide ((l1.length : Int) ≤ (t209.length : Int)) = true := decide_eq_true c30
                    clear c30
                    obtain ⟨y212, hy212⟩ : ∃ y_ : List Int, y_ = (t209.take ((l1.length : Int) : Int).toNat) := ⟨_, rfl⟩
                    replace H : ((bignat_left.f kj2 l0 t208).bind fun t215 => (if 0 ≤ (wrap64 ((wrap64 ((l0.length : Int) - (l1.length : Int))) + 1)) then (if (wrap64 ((wrap64 ((l0.length : Int) - (l1.length : Int))) + 1) : Int).toNat ≤ 70368744177664 then ((some (List.replicate (wrap64 ((wrap64 ((l0.length : Int) - (l1.length : Int))) + 1) : Int).toNat 0 : List Int)).bind fun y218 => (if 0 ≤ (wrap64 ((y212.length : Int) - 1)) then (if (wrap64 ((y212.length : Int) - 1)) < (y212.length : Int) then (if 0 ≤ (wrap64 ((y212.length : Int) - 2)) then (if (wrap64 ((y212.length : Int) - 2)) < (y212.length : Int) then (bignat_DivMod.l0 kj2 t208 y212 t215 y218 (IntKind.u64.wrap (rd y212 (wrap64 ((y212.length : Int) - 1)))) (IntKind.u64.wrap (rd y212 (wrap64 ((y212.length : Int) - 2)))) (wrap64 ((y218.length : Int) - 1))) else (none)) else (none)) else (none)) else (none))) else (none)) else (none))) = some (r1, r2, r3) := by first | (rw [hy212]; with_reducible exact H) | (have H2_ := (Option.bind_some _ _).symm.trans H; rw [hy212]; with_reducible exact H2_) | (have H2_ := (Option.bind_some _ _).symm.trans H; with_reducible exact H2_) | with_reducible exact H | (rw [hy212]; exact H) | exact H
                    have Ny212 := Aside0.mk hy212
                    clear hy212
                    replace H := Option.bind_eq_some_iff.mp H
                    obtain ⟨t215, A310, H⟩ := H
                    replace H : (if 0 ≤ (wrap64 ((wrap64 ((l0.length : Int) - (l1.length : Int))) + 1)) then (if (wrap64 ((wrap64 ((l0.length : Int) - (l1.length : Int))) + 1) : Int).toNat ≤ 70368744177664 then ((some (List.replicate (wrap64 ((wrap64 ((l0.length : Int) - (l1.length : Int))) + 1) : Int).toNat 0 : List Int)).bind fun y218 => (if 0 ≤ (wrap64 ((y212.length : Int) - 1)) then (if (wrap64 ((y212.length : Int) - 1)) < (y212.length : Int) then (if 0 ≤ (wrap64 ((y212.length : Int) - 2)) then (if (wrap64 ((y212.length : Int) - 2)) < (y212.length : Int) then (bignat_DivMod.l0 kj2 t208 y212 t215 y218 (IntKind.u64.wrap (rd y212 (wrap64 ((y212.length : Int) - 1)))) (IntKind.u64.wrap (rd y212 (wrap64 ((y212.length : Int) - 2)))) (wrap64 ((y218.length : Int) - 1))) else (none)) else (none)) else (none)) else (none))) else (none)) else (none)) = some (r1, r2, r3) := H
                    have A31 := Aside0.mk A310
                    clear A310
                    obtain ⟨ji32, hji32⟩ : ∃ j_ : Int, (wrap64 ((wrap64 ((l0.length : Int) - (l1.length : Int))) + 1)) = j_ := ⟨_, rfl⟩
                    replace H : (if 0 ≤ (ji32) then (if (ji32 : Int).toNat ≤ 70368744177664 then ((some (List.replicate (ji32 : Int).toNat 0 : List Int)).bind fun y218 => (if 0 ≤ (wrap64 ((y212.length : Int) - 1)) then (if (wrap64 ((y212.length : Int) - 1)) < (y212.length : Int) then (if 0 ≤ (wrap64 ((y212.length : Int) - 2)) then (if (wrap64 ((y212.length : Int) - 2)) < (y212.length : Int) then (bignat_DivMod.l0 kj2 t208 y212 t215 y218 (IntKind.u64.wrap (rd y212 (wrap64 ((y212.length : Int) - 1)))) (IntKind.u64.wrap (rd y212 (wrap64 ((y212.length : Int) - 2)))) (wrap64 ((y218.length : Int) - 1))) else (none)) else (none)) else (none)) else (none))) else (none)) else (none)) = some (r1, r2, r3) := by first | (rw [hji32] at H; exact H) | (simp only [hji32] at H ⊢; exact H)
                    (try rw [hji32] at A9)
                    (try rw [hji32] at A27)
                    (try rw [hji32] at A28)
                    (try rw [hji32] at A31)
                    have hji32w : (IntKind.i64.wrap ((wrap64 ((l0.length : Int) - (l1.length : Int))) + 1)) = ji32 := (i64_w _).trans hji32
                    by_cases c33 : 0 ≤ (ji32)
                    · rw [if_pos c33] at H
                      have c33b0 := eq_true c33
                      have c33b1 : decide (0 ≤ (ji32)) = true := decide_eq_true c33
                      clear c33
                      by_cases c34 : (ji32 : Int).toNat ≤ 70368744177664
                      · rw [if_pos c34] at H
                        have c34b0 := eq_true c34
                        have c34b1 : decide ((ji32 : Int).toNat ≤ 70368744177664) = true := decide_eq_true c34
                        clear c34
                        obtain ⟨y218, hy218⟩ : ∃ y_ : List Int, y_ = (List.replicate (ji32 : Int).toNat 0) := ⟨_, rfl⟩
                        replace H : (if 0 ≤ (wrap64 ((y212.length : Int) - 1)) then (if (wrap64 ((y212.length : Int) - 1)) < (y212.length : Int) then (if 0 ≤ (wrap64 ((y212.length : Int) - 2)) then (if (wrap64 ((y212.length : Int) - 2)) < (y212.length : Int) then (bignat_DivMod.l0 kj2 t208 y212 t215 y218 (IntKind.u64.wrap (rd y212 (wrap64 ((y212.length : Int) - 1)))) (IntKind.u64.wrap (rd y212 (wrap64 ((y212.length : Int) - 2)))) (wrap64 ((y218.length : Int) - 1))) else (none)) else (none)) else (none)) else (none)) = some (r1, r2, r3) := by first | (rw [hy218]; with_reducible exact H) | (have H2_ := (Option.bind_some _ _).symm.trans H; rw [hy218]; with_reducible exact H2_) | (have H2_ := (Option.bind_some _ _).symm.trans H; with_reducible exact H2_) | with_reducible exact H | (rw [hy218]; exact H) | exact H
                        have Ny218 := Aside0.mk hy218
                        clear hy218
                        obtain ⟨ji35, hji35⟩ : ∃ j_ : Int, (wrap64 ((y212.length : Int) - 1)) = j_ := ⟨_, rfl⟩
                        replace H : (if 0 ≤ (ji35) then (if (ji35) < (y212.length : Int) then (if 0 ≤ (wrap64 ((y212.length : Int) - 2)) then (if (wrap64 ((y212.length : Int) - 2)) < (y212.length : Int) then (bignat_DivMod.l0 kj2 t208 y212 t215 y218 (IntKind.u64.wrap (rd y212 (ji35))) (IntKind.u64.wrap (rd y212 (wrap64 ((y212.length : Int) - 2)))) (wrap64 ((y218.length : Int) - 1))) else (none)) else (none)) else (none)) else (none)) = some (r1, r2, r3) := by first | (rw [hji35] at H; exact H) | (simp only [hji35] at H ⊢; exact H)
                        (try rw [hji35] at A9)
                        (try rw [hji35] at A27)
                        (try rw [hji35] at A28)
                        (try rw [hji35] at A31)
                        have hji35w : (IntKind.i64.wrap ((y212.length : Int) - 1)) = ji35 := (i64_w _).trans hji35
                        by_cases c36 : 0 ≤ (ji35)
                        · rw [if_pos c36] at H
                          have c36b0 : decide (0 ≤ (ji35)) = true := decide_eq_true c36
                          clear c36
                          by_cases c37 : (ji35) < (y212.length : Int)
                          · rw [if_pos c37] at H
                            have c37b0 : decide ((ji35) < (y212.length : Int)) = true := decide_eq_true c37
                            clear c37
                            obtain ⟨ji38, hji38⟩ : ∃ j_ : Int, (wrap64 ((y212.length : Int) - 2)) = j_ := ⟨_, rfl⟩
                            replace H : (if 0 ≤ (ji38) then (if (ji38) < (y212.length : Int) then (bignat_DivMod.l0 kj2 t208 y212 t215 y218 (IntKind.u64.wrap (rd y212 (ji35))) (IntKind.u64.wrap (rd y212 (ji38))) (wrap64 ((y218.length : Int) - 1))) else (none)) else (none)) = some (r1, r2, r3) := by first | (rw [hji38] at H; exact H) | (simp only [hji38] at H ⊢; exact H)
                            (try rw [hji38] at A9)
                            (try rw [hji38] at A27)
                            (try rw [hji38] at A28)
                            (try rw [hji38] at A31)
                            have hji38w : (IntKind.i64.wrap ((y212.length : Int) - 2)) = ji38 := (i64_w _).trans hji38
                            by_cases c39 : 0 ≤ (ji38)
                            · rw [if_pos c39] at H
                              have c39b0 : decide (0 ≤ (ji38)) = true := decide_eq_true c39
                              clear c39
                              by_cases c40 : (ji38) < (y212.length : Int)
                              · rw [if_pos c40] at H
                                have c40b0 : decide ((ji38) < (y212.length : Int)) = true := decide_eq_true c40
                                clear c40
                                have H' := Aside0.mk H
                                clear H
                                try go_wp2_with (first | ((with_reducible refine gate_callee (f := 37) rfl ?_); refine goesL_ (some 34) rfl rfl Tryd.func37 (by kernel_rfl) rfl #[.slice A0 l0.length c0, .slice A1 l1.length c1] rfl (by (try simp only [List.map_toArray, List.map_cons, List.map_nil]); first | done | rfl | (simp only [List.length_drop, List.length_take]; rfl)) ?_; (with_reducible refine (bignat_Compare.calls kj2 _ _ l0 _ _ l1 t192 _ ?side1 ?side2 ?side3 ?side4 A9.out).mono ?_); (case side1 => repeat (first | exact (Kd.C_below HR0.out HB.out) | (with_reducible refine Kd.C_alloc ?_ _) | (with_reducible refine Kd.C_drewN ?_ _) | (with_reducible refine Kd.C_drew ?_))); (case side2 => exact HC0.out); (case side3 => repeat (first | exact (Kd.C_below HR1.out HB.out) | (with_reducible refine Kd.C_alloc ?_ _) | (with_reducible refine Kd.C_drewN ?_ _) | (with_reducible refine Kd.C_drew ?_))); (case side4 => exact HC1.out); rintro e w41 ⟨rfl, hb⟩; refine ⟨_, rfl, ?_⟩; have n0_ := Aside0.mk (below_step (by repeat (first | (with_reducible first | exact HB.out | apply below_alloc | apply pw_below_drewN | apply below_drew1) | exact HB.out)) hb); clear HB; have HB := n0_; clear n0_; (try clear hb); (try clear hb2); (try clear hk); (try clear hi); have p207 : 0 ≤ ((ji24) : Int) := of_decide_eq_true (by first | (with_reducible assumption) | assumption); have q207 : (ji24) < (l1.length : Int) := of_decide_eq_true (by first | (with_reducible assumption) | assumption); obtain ⟨ad207, e207, hx207_0⟩ := Kd.at_int HR1.out (ji24) p207 q207; cases e207; replace hx207_0 := (HB.out.cell (World.block_lt_of_cell? w _ hx207_0)).trans hx207_0; replace p207 := eq_true p207; replace q207 := eq_true q207) | ((with_reducible refine gate_callee (f := 79) rfl ?_); refine goesL_ (some 60) rfl rfl Tryd.func79 (by kernel_rfl) rfl #[.int .u32 (rd l1 (ji24))] rfl (by (try simp only [List.map_toArray, List.map_cons, List.map_nil]); first | done | (simp only [hji24]; rfl) | rfl | (simp only [List.length_drop, List.length_take]; rfl)) ?_; (with_reducible refine (bits_LeadingZeros32.calls (rd l1 (ji24)) t208 _ A27.out).mono ?_); rintro e w' ⟨rfl, ⟨nd, rfl⟩⟩; refine ⟨_, rfl, ?_⟩) | ((with_reducible refine gate_callee (f := 80) rfl ?_); refine goesL_ (some 63) rfl rfl Tryd.func80 (by kernel_rfl) rfl #[.slice (some ad207) l1.length c1, .int .i64 t208] rfl (by (try simp only [List.map_toArray, List.map_cons, List.map_nil]); first | done | rfl | (simp only [List.length_drop, List.length_take]; rfl)) ?_; (with_reducible refine (bignat_left.calls kj2 _ _ l1 t208 t209 _ ?side1 ?side2 A28.out).mono ?_); (case side1 => repeat (first | exact (Kd.C_below HR1.out (by repeat (first | (with_reducible first | exact HB.out | apply below_alloc | apply pw_below_drewN | apply below_drew1) | exact HB.out))) | (with_reducible refine Kd.C_alloc ?_ _) | (with_reducible refine Kd.C_drewN ?_ _) | (with_reducible refine Kd.C_drew ?_))); (case side2 => exact HC1.out); rintro e w42 ⟨v210, rfl, ho0, hb⟩; refine ⟨_, rfl, ?_⟩; have n0_ := Aside0.mk (Kd.R_lower ho0 (below_size (by repeat (first | (with_reducible first | exact HB.out | apply below_alloc | apply pw_below_drewN | apply below_drew1) | exact HB.out)))); have n1_ := Aside0.mk (below_step (by repeat (first | (with_reducible first | exact HB.out | apply below_alloc | apply pw_below_drewN | apply below_drew1) | exact HB.out)) hb); clear HB; have HO211 := n0_; have HB := n1_; clear n0_ n1_; (try clear hb); (try clear hb2); (try clear hk); (try clear hi); (try clear ho0); obtain ⟨Ao43, co43, eo43⟩ := Kd.R_slice HO211.out; subst eo43; have q44 : ((l1.length : Int) : Int) ≤ ((t209.length : Int) : Int) := of_decide_eq_true (by first | (with_reducible assumption) | assumption); obtain ⟨i044, hi044, _, hsz44, _⟩ := info_parts info63; have hcut44 := cut_to (P := Tryd.prog) 22 63 .i64 Tryd.underlying22 hi044 Ao43 t209.length co43 (l1.length : Int) (of_decide_eq_true (by first | (with_reducible assumption) | assumption)) q44 (Kd.R_reads' HO211.out).2.1; have hr44 := Kd.R_take (m := ((l1.length : Int) : Int).toNat) HO211.out (by omega); have hy44 : y212.length = ((l1.length : Int) : Int).toNat := (by rw [Ny212.out, List.length_take]; omega); rw [← Ny212.out] at hr44; rw [← hy44] at hr44 hcut44; clear hy44 hi044 hsz44 HO211; have HO214 := Aside0.mk hr44; clear hr44; replace q44 := eq_true q44) | ((with_reducible refine gate_callee (f := 80) rfl ?_); refine goesL_ (some 69) rfl rfl Tryd.func80 (by kernel_rfl) rfl #[.slice A0 l0.length c0, .int .i64 t208] rfl (by (try simp only [List.map_toArray, List.map_cons, List.map_nil]); first | done | rfl | (simp only [List.length_drop, List.length_take]; rfl)) ?_; (with_reducible refine (bignat_left.calls kj2 _ _ l0 t208 t215 _ ?side1 ?side2 A31.out).mono ?_); (case side1 => repeat (first | exact (Kd.C_below HR0.out HB.out) | (with_reducible refine Kd.C_alloc ?_ _) | (with_reducible refine Kd.C_drewN ?_ _) | (with_reducible refine Kd.C_drew ?_))); (case side2 => exact HC0.out); rintro e w45 ⟨v216, rfl, ho0, hb⟩; refine ⟨_, rfl, ?_⟩; have n0_ := Aside0.mk (Kd.R_elder' (by (with_reducible repeat (first | apply Kd.R_alloc | apply Kd.R_drewN | apply Kd.R_drew)); exact HO214.out) (Kd.R_base ho0) hb); have n1_ := Aside0.mk (Kd.R_lower (Kd.R_new' ho0 (Kd.R_lt (by (with_reducible repeat (first | apply Kd.R_alloc | apply Kd.R_drewN | apply Kd.R_drew)); exact HO214.out))) (below_size (by repeat (first | (with_reducible first | exact HB.out | apply below_alloc | apply pw_below_drewN | apply below_drew1) | exact HB.out)))); have n2_ := Aside0.mk (below_step (by repeat (first | (with_reducible first | exact HB.out | apply below_alloc | apply pw_below_drewN | apply below_drew1) | exact HB.out)) hb); clear HO214; clear HB; have HO214 := n0_; have HO217 := n1_; have HB := n2_; clear n0_ n1_ n2_; (try clear hb); (try clear hb2); (try clear hk); (try clear hi); (try clear ho0)) | ((with_reducible refine gate_dst (N := 76) rfl ?_); (try (refine gate_guard (by rfl) ?_; dsimp only)); refine Kd.R_make (Kd.int .u32) _ 63 rfl (N := 76) rfl 22 _ _ rfl ji32 rfl rfl Tryd.underlying22 (.int .u32 0) 4 info63 rfl (by decide) (by omega) 0 (ok := fun _ => True) (okp := fun _ => True) rfl (fun _ hk => hk) trivial (of_decide_eq_true (by first | (with_reducible assumption) | assumption)) (Nat.le_trans (Nat.mul_le_mul_right _ (of_decide_eq_true (by first | (with_reducible assumption) | assumption) : ji32.toNat ≤ 70368744177664)) (by omega)) (Below.refl _ _) (Nat.le_refl _) ?_; intro v219 w46 ho47 hb hg_ hnew_; clear hg_ hnew_; (first | rw [← Ny218.out] at ho47 | (simp only [Int.reduceToNat] at ho47; rw [← Ny218.out] at ho47)); have n0_ := Aside0.mk (Kd.R_elder' (by (with_reducible repeat (first | apply Kd.R_alloc | apply Kd.R_drewN | apply Kd.R_drew)); exact HO214.out) (Kd.R_base ho47) hb); have n1_ := Aside0.mk (Kd.R_elder' (by (with_reducible repeat (first | apply Kd.R_alloc | apply Kd.R_drewN | apply Kd.R_drew)); exact HO217.out) (Kd.R_base ho47) hb); have n2_ := Aside0.mk (Kd.R_lower (Kd.R_new' (Kd.R_new' ho47 (Kd.R_lt (by (with_reducible repeat (first | apply Kd.R_alloc | apply Kd.R_drewN | apply Kd.R_drew)); exact HO214.out))) (Kd.R_lt (by (with_reducible repeat (first | apply Kd.R_alloc | apply Kd.R_drewN | apply Kd.R_drew)); exact HO217.out))) (below_size (by repeat (first | (with_reducible first | exact HB.out | apply below_alloc | apply pw_below_drewN | apply below_drew1) | exact HB.out)))); have n3_ := Aside0.mk (below_step (by repeat (first | (with_reducible first | exact HB.out | apply below_alloc | apply pw_below_drewN | apply below_drew1) | exact HB.out)) hb); clear HO214; clear HO217; clear HB; have HO214 := n0_; have HO217 := n1_; have HO220 := n2_; have HB := n3_; clear n0_ n1_ n2_ n3_; clear hb ho47))
                                have n0_ := Aside0.mk (Kd.R_drew HO214.out)
                                have n1_ := Aside0.mk (Kd.R_drew HO217.out)
                                have n2_ := Aside0.mk (Kd.R_drew HO220.out)
                                have n3_ := Aside0.mk (below_drew1 HB.out)
                                clear HO214
                                clear HO217
                                clear HO220
                                clear HB
                                have HO214 := n0_
                                have HO217 := n1_
                                have HO220 := n2_
                                have HB := n3_
                                clear n0_ n1_ n2_ n3_
                                have p221 : 0 ≤ ((ji35) : Int) := of_decide_eq_true (by first | (with_reducible assumption) | assumption)
                                have q221 : (ji35) < (y212.length : Int) := of_decide_eq_true (by first | (with_reducible assumption) | assumption)
                                obtain ⟨ad221, e221, hx221_0⟩ := Kd.at_int (Kd.R_reads' HO214.out).2.2 (ji35) p221 q221
                                cases e221
                                replace p221 := eq_true p221
                                replace q221 := eq_true q221
                                have p222 : 0 ≤ ((ji38) : Int) := of_decide_eq_true (by first | (with_reducible assumption) | assumption)
                                have q222 : (ji38) < (y212.length : Int) := of_decide_eq_true (by first | (with_reducible assumption) | assumption)
                                obtain ⟨ad222, e222, hx222_0⟩ := Kd.at_int (Kd.R_reads' HO214.out).2.2 (ji38) p222 q222
                                obtain rfl : ad221 = ad222 := (by injection e222)
                                replace p222 := eq_true p222
                                replace q222 := eq_true q222
                                refine start_ (n := 16) (S := fun w' => w'.cell? (ad221.add ((ji35)).toNat) = some (.int .u32 (rd y212 (ji35))) ∧ w'.cell? (ad221.add ((ji38)).toNat) = some (.int .u32 (rd y212 (ji38)))) (ds := []) #[false, false, false, false, false, false, false, false, false, false, false, false, false, false, false, false] (by kernel_rfl) rfl rfl ⟨hx221_0, hx222_0⟩ (fun hHeld => ?_); refine with_tabW bignat_DivMod.tab12 bignat_DivMod.bits12 (fun HT_ HW_ => ?_)
                                generalize w46.drew = w48 at HO214 HO217 HO220 HB hx221_0 hx222_0 hHeld ⊢
                                refine pure_ (i := 0) (N := some 77) (v := ?_) (a' := ?_) #[true, false, false, false, false, false, false, false, false, false, false, false, false, false, false, false] rfl rfl (any_of HT_.out (by kernel_rfl)) (fun _ _ _ h => h) (Or.inl ⟨by rfl, ?_⟩) ?_ ?_
                                rotate_left
                                · intro w'
                                  go_simp
                                  with_reducible rfl
                                rotate_left
                                · simp only [Act.put, List.setIfInBounds_toArray, List.set_cons_zero, List.set_cons_succ, i64_w, i32_w]
                                  rfl
                                refine pure_ (i := 1) (N := some 78) (v := ?_) (a' := ?_) #[true, true, false, false, false, false, false, false, false, false, false, false, false, false, false, false] rfl rfl (any_of HT_.out (by kernel_rfl)) (fun _ _ _ h => h) (Or.inl ⟨by rfl, ?_⟩) ?_ ?_
                                rotate_left
                                · intro w'
                                  go_simp
                                  with_reducible rfl
                                rotate_left
                                · simp only [Act.put, List.setIfInBounds_toArray, List.set_cons_zero, List.set_cons_succ, i64_w, i32_w]
                                  rfl
                                refine pure_ (i := 2) (N := some 79) (v := ?_) (a' := ?_) #[true, true, true, false, false, false, false, false, false, false, false, false, false, false, false, false] rfl rfl (any_of HT_.out (by kernel_rfl)) (fun _ _ _ h => h) (Or.inl ⟨by rfl, ?_⟩) ?_ ?_
                                rotate_left
                                · intro w'
                                  go_simp
                                  with_reducible rfl
                                rotate_left
                                · simp only [Act.put, List.setIfInBounds_toArray, List.set_cons_zero, List.set_cons_succ, i64_w, i32_w]
                                  rfl
                                refine pure_ (i := 3) (N := some 80) (v := ?_) (a' := ?_) #[true, true, true, true, false, false, false, false, false, false, false, false, false, false, false, false] rfl rfl (any_of HT_.out (by kernel_rfl)) (fun _ _ _ h => h) (Or.inl ⟨by rfl, ?_⟩) ?_ ?_
                                rotate_left
                                · intro w'
                                  go_simp
                                  with_reducible rfl
                                rotate_left
                                · simp only [Act.put, List.setIfInBounds_toArray, List.set_cons_zero, List.set_cons_succ, i64_w, i32_w]
                                  rfl
                                refine pure_ (i := 4) (N := some 81) (v := ?_) (a' := ?_) #[true, true, true, true, true, false, false, false, false, false, false, false, false, false, false, false] rfl rfl (any_of HT_.out (by kernel_rfl)) (fun _ _ _ h => h) (Or.inl ⟨by rfl, ?_⟩) ?_ ?_
                                rotate_left
                                · intro w'
                                  go_simp
                                  with_reducible rfl
                                rotate_left
                                · simp only [Act.put, List.setIfInBounds_toArray, List.set_cons_zero, List.set_cons_succ, i64_w, i32_w]
                                  rfl
                                refine pure_ (i := 7) (N := some 84) (v := ?_) (a' := ?_) #[true, true, true, true, true, false, false, true, false, false, false, false, false, false, false, false] rfl rfl (any_of HT_.out (by kernel_rfl)) (fun _ _ _ h => h) (Or.inl ⟨by rfl, ?_⟩) ?_ ?_
                                rotate_left
                                · intro w'
                                  go_simp
                                  with_reducible rfl
                                rotate_left
                                · simp only [Act.put, List.setIfInBounds_toArray, List.set_cons_zero, List.set_cons_succ, i64_w, i32_w]
                                  rfl
                                refine pure_ (i := 8) (N := some 85) (v := ?_) (a' := ?_) #[true, true, true, true, true, false, false, true, true, false, false, false, false, false, false, false] rfl rfl (any_of HT_.out (by kernel_rfl)) (fun _ _ _ h => h) (Or.inl ⟨by rfl, ?_⟩) ?_ ?_
                                rotate_left
                                · intro w'
                                  go_simp
                                  with_reducible rfl
                                rotate_left
                                · simp only [Act.put, List.setIfInBounds_toArray, List.set_cons_zero, List.set_cons_succ, i64_w, i32_w]
                                  rfl
                                refine pure_ (i := 9) (N := some 86) (v := ?_) (a' := ?_) #[true, true, true, true, true, false, false, true, true, true, false, false, false, false, false, false] rfl rfl (any_of HT_.out (by kernel_rfl)) (fun _ _ _ h => h) (Or.inl ⟨by rfl, ?_⟩) ?_ ?_
                                rotate_left
                                · intro w'
                                  go_simp
                                  with_reducible rfl
                                rotate_left
                                · simp only [Act.put, List.setIfInBounds_toArray, List.set_cons_zero, List.set_cons_succ, i64_w, i32_w]
                                  rfl
                                refine pure_ (i := 10) (N := some 87) (v := ?_) (a' := ?_) #[true, true, true, true, true, false, false, true, true, true, true, false, false, false, false, false] rfl rfl (any_of HT_.out (by kernel_rfl)) (fun _ _ _ h => h) (Or.inl ⟨by rfl, ?_⟩) ?_ ?_
                                rotate_left
                                · intro w'
                                  go_simp
                                  with_reducible rfl
                                rotate_left
                                · simp only [Act.put, List.setIfInBounds_toArray, List.set_cons_zero, List.set_cons_succ, i64_w, i32_w]
                                  rfl
                                refine pure_ (i := 11) (N := some 88) (v := ?_) (a' := ?_) #[true, true, true, true, true, false, false, true, true, true, true, true, false, false, false, false] rfl rfl (any_of HT_.out (by kernel_rfl)) (fun _ _ _ h => h) (Or.inl ⟨by rfl, ?_⟩) ?_ ?_
                                rotate_left
                                · intro w'
                                  go_simp
                                  with_reducible rfl
                                rotate_left
                                · simp only [Act.put, List.setIfInBounds_toArray, List.set_cons_zero, List.set_cons_succ, i64_w, i32_w]
                                  rfl
                                refine take_ (i := 5) (N := some 82) (v := ?_) (a' := ?_) #[true, true, true, true, true, true, false, true, true, true, true, true, false, false, false, false] rfl rfl (take_ofW HT_.out HW_.out (by kernel_rfl)) (fun _ _ _ h => h) (Or.inl ⟨by rfl, ?_⟩) hHeld ?_ ?_
                                rotate_left
                                · rintro w' ⟨s0, s1⟩
                                  go_simp
                                  with_reducible rfl
                                rotate_left
                                · simp only [Act.put, List.setIfInBounds_toArray, List.set_cons_zero, List.set_cons_succ, i64_w, i32_w]
                                  rfl
                                refine pure_ (i := 6) (N := some 83) (v := ?_) (a' := ?_) #[true, true, true, true, true, true, true, true, true, true, true, true, false, false, false, false] rfl rfl (any_of HT_.out (by kernel_rfl)) (fun _ _ _ h => h) (Or.inl ⟨by rfl, ?_⟩) ?_ ?_
                                rotate_left
                                · intro w'
                                  go_simp
                                  with_reducible rfl
                                rotate_left
                                · simp only [Act.put, List.setIfInBounds_toArray, List.set_cons_zero, List.set_cons_succ, i64_w, i32_w]
                                  rfl
                                refine pure_ (i := 14) (N := some 13) (v := ?_) (a' := ?_) #[true, true, true, true, true, true, true, true, true, true, true, true, false, false, true, false] rfl rfl (any_of HT_.out (by kernel_rfl)) (fun _ _ _ h => h) (Or.inl ⟨by rfl, ?_⟩) ?_ ?_
                                rotate_left
                                · intro w'
                                  go_simp
                                  with_reducible rfl
                                rotate_left
                                · simp only [Act.put, List.setIfInBounds_toArray, List.set_cons_zero, List.set_cons_succ, i64_w, i32_w]
                                  rfl
                                refine take_ (i := 12) (N := some 89) (v := ?_) (a' := ?_) #[true, true, true, true, true, true, true, true, true, true, true, true, true, false, true, false] rfl rfl (take_ofW HT_.out HW_.out (by kernel_rfl)) (fun _ _ _ h => h) (Or.inl ⟨by rfl, ?_⟩) hHeld ?_ ?_
                                rotate_left
                                · rintro w' ⟨s0, s1⟩
                                  go_simp
                                  with_reducible rfl
                                rotate_left
                                · simp only [Act.put, List.setIfInBounds_toArray, List.set_cons_zero, List.set_cons_succ, i64_w, i32_w]
                                  rfl
                                refine pure_ (i := 13) (N := some 90) (v := ?_) (a' := ?_) #[true, true, true, true, true, true, true, true, true, true, true, true, true, true, true, false] rfl rfl (any_of HT_.out (by kernel_rfl)) (fun _ _ _ h => h) (Or.inl ⟨by rfl, ?_⟩) ?_ ?_
                                rotate_left
                                · intro w'
                                  go_simp
                                  with_reducible rfl
                                rotate_left
                                · simp only [Act.put, List.setIfInBounds_toArray, List.set_cons_zero, List.set_cons_succ, i64_w, i32_w]
                                  rfl
                                refine pure_ (i := 15) (N := some 14) (v := ?_) (a' := ?_) #[true, true, true, true, true, true, true, true, true, true, true, true, true, true, true, true] rfl rfl (any_of HT_.out (by kernel_rfl)) (fun _ _ _ h => h) (Or.inl ⟨by rfl, ?_⟩) ?_ ?_
                                rotate_left
                                · intro w'
                                  go_simp
                                  with_reducible rfl
                                rotate_left
                                · simp only [Act.put, List.setIfInBounds_toArray, List.set_cons_zero, List.set_cons_succ, i64_w, i32_w]
                                  rfl
                                refine done_ (done_of HT_.out (by kernel_rfl)) ?_
                                obtain ⟨Ao49, co49, eo49⟩ := Kd.R_slice HO220.out
                                subst eo49
                                try go_wp2
                                go_loopg [15] kj2 (fun kq v15 w' => ∃ (x11_2 : List Int) (x12_2 : List Int) (x15_2 : Int), v15 = .int .i64 x15_2 ∧ Aside0 (bignat_DivMod.l0 kq t208 y212 x11_2 x12_2 (IntKind.u64.wrap (rd y212 (ji35))) (IntKind.u64.wrap (rd y212 (ji38))) x15_2 = some (r1, r2, r3)) ∧ Aside0 (kq ≤ kj2) ∧ Aside0 (Kd.R (Kd.int .u32) 63 w' w.heap.size (fun k_ => some k_ ≠ (v216 : Value).ownBlock ∧ some k_ ≠ ((.slice Ao49 y218.length co49) : Value).ownBlock) (.slice (some ad221) y212.length co43) y212) ∧ Aside0 (Kd.R (Kd.int .u32) 63 w' w.heap.size (fun k_ => some k_ ≠ ((.slice (some ad221) y212.length co43) : Value).ownBlock ∧ some k_ ≠ ((.slice Ao49 y218.length co49) : Value).ownBlock) v216 x11_2) ∧ Aside0 (Kd.R (Kd.int .u32) 63 w' w.heap.size (fun k_ => some k_ ≠ ((.slice (some ad221) y212.length co43) : Value).ownBlock ∧ some k_ ≠ (v216 : Value).ownBlock) (.slice Ao49 y218.length co49) x12_2) ∧ Aside0 (Below w.heap.size w w'))
                                case atStart => exact ⟨(t215), (y218), (wrap64 ((y218.length : Int) - 1)), (by first | rfl | (simp; done) | (simp [*]; done)), H', ⟨Nat.le_refl _⟩, ⟨by (with_reducible repeat (first | apply Kd.R_alloc | apply Kd.R_drewN | apply Kd.R_drew)); exact Kd.R_mono HO214.out (fun _ hk => ⟨hk.1.2, hk.2⟩)⟩, ⟨by (with_reducible repeat (first | apply Kd.R_alloc | apply Kd.R_drewN | apply Kd.R_drew)); exact Kd.R_mono HO217.out (fun _ hk => ⟨hk.1.2, hk.2⟩)⟩, ⟨by (with_reducible repeat (first | apply Kd.R_alloc | apply Kd.R_drewN | apply Kd.R_drew)); exact Kd.R_mono HO220.out (fun _ hk => ⟨hk.1.2, hk.2⟩)⟩, ⟨by repeat (first | (with_reducible first | exact HB.out | apply below_alloc | apply pw_below_drewN | apply below_drew1) | exact HB.out)⟩⟩
                                case round =>
                                  clear H'
                                  try clear c1
                                  try clear p1
                                  try clear q1
                                  try clear hx1
                                  try clear qi1
                                  try clear c2
                                  try clear p2
                                  try clear q2
                                  try clear hx2
                                  try clear c3
                                  try clear c4
                                  try clear q4
                                  try clear c5
                                  try clear p6
                                  try clear c7
                                  try clear c8
                                  try clear c10
                                  try clear c10b0
                                  try clear c17
                                  try clear c17b0
                                  try clear c17b1
                                  try clear c18
                                  try clear c18b0
                                  try clear c18b1
                                  try clear p19
                                  try clear q19
                                  try clear hx19
                                  try clear qi19
                                  try clear p20
                                  try clear q20
                                  try clear hx20
                                  try clear p22
                                  try clear q22
                                  try clear hx22
                                  try clear c24
                                  try clear c25
                                  try clear c25b0
                                  try clear c26
                                  try clear c26b0
                                  try clear c27
                                  try clear c29
                                  try clear c29b0
                                  try clear c29b1
                                  try clear c30
                                  try clear c30b0
                                  try clear c30b1
                                  try clear c33
                                  try clear c33b0
                                  try clear c33b1
                                  try clear c34
                                  try clear c34b0
                                  try clear c34b1
                                  try clear c36
                                  try clear c36b0
                                  try clear c37
                                  try clear c37b0
                                  try clear c39
                                  try clear c39b0
                                  try clear c40
                                  try clear c40b0
                                  try clear q44
                                  try clear hx199_0
                                  try clear hx207_0
                                  try clear hx221_0
                                  try clear hx222_0
                                  try clear p199
                                  try clear p2
                                  try clear p207
                                  try clear p221
                                  try clear p222
                                  try clear q199
                                  try clear q207
                                  try clear q221
                                  try clear q222
                                  try clear q44
                                  obtain ⟨x11_2, x12_2, x15_2, rfl, HA, HK2, HO_10, HO_11, HO_12, HB⟩ := hrel
                                  have hl12_2 := (Kd.R_reads' HO_12.out).1
                                  rw [hl12_2] at HO_12
                                  (try simp only [hl12_2])
                                  (try simp only [hl12_2] at HO_10)
                                  (try simp only [hl12_2] at HO_11)
                                  cases gk with
                                  | zero => exact absurd HA.out (by simp [bignat_DivMod.l0])
                                  | succ k2 =>
                                    have H := HA.out
                                    clear HA
                                    simp only [bignat_DivMod.l0] at H
                                    by_cases c50 : x15_2 ≥ 0
                                    · rw [if_pos c50] at H
                                      have c50b0 : decide (0 ≤ x15_2) = true := decide_eq_true c50
                                      clear c50
                                      obtain ⟨ji51, hji51⟩ : ∃ j_ : Int, (wrap64 (x15_2 + (y212.length : Int))) = j_ := ⟨_, rfl⟩
                                      replace H : (if 0 ≤ (ji51) then (if (ji51) < (x11_2.length : Int) then (if 0 ≤ (wrap64 ((ji51) - 1)) then (if (wrap64 ((ji51) - 1)) < (x11_2.length : Int) then (if (IntKind.u64.wrap (rd y212 (ji35))) = 0 then (none) else (bignat_DivMod.l1 k2 t208 y212 x11_2 x12_2 (IntKind.u64.wrap (rd y212 (ji35))) (IntKind.u64.wrap (rd y212 (ji38))) x15_2 (IntKind.u64.wrap (Int.tdiv (Go.bits .or .u64 (IntKind.u64.wrap ((IntKind.u64.wrap (rd x11_2 (ji51))) * 4294967296)) (IntKind.u64.wrap (rd x11_2 (wrap64 ((ji51) - 1))))) (IntKind.u64.wrap (rd y212 (ji35))))) (Int.tmod (Go.bits .or .u64 (IntKind.u64.wrap ((IntKind.u64.wrap (rd x11_2 (ji51))) * 4294967296)) (IntKind.u64.wrap (rd x11_2 (wrap64 ((ji51) - 1))))) (IntKind.u64.wrap (rd y212 (ji35)))))) else (none)) else (none)) else (none)) else (none)) = some (r1, r2, r3) := by first | (rw [hji51] at H; exact H) | (simp only [hji51] at H ⊢; exact H)
                                      have hji51w : (IntKind.i64.wrap (x15_2 + (y212.length : Int))) = ji51 := (i64_w _).trans hji51
                                      by_cases c52 : 0 ≤ (ji51)
                                      · rw [if_pos c52] at H
                                        have c52b0 : decide (0 ≤ (ji51)) = true := decide_eq_true c52
                                        clear c52
                                        by_cases c53 : (ji51) < (x11_2.length : Int)
                                        · rw [if_pos c53] at H
                                          have c53b0 : decide ((ji51) < (x11_2.length : Int)) = true := decide_eq_true c53
                                          clear c53
                                          obtain ⟨ji54, hji54⟩ : ∃ j_ : Int, (wrap64 ((ji51) - 1)) = j_ := ⟨_, rfl⟩
                                          replace H : (if 0 ≤ (ji54) then (if (ji54) < (x11_2.length : Int) then (if (IntKind.u64.wrap (rd y212 (ji35))) = 0 then (none) else (bignat_DivMod.l1 k2 t208 y212 x11_2 x12_2 (IntKind.u64.wrap (rd y212 (ji35))) (IntKind.u64.wrap (rd y212 (ji38))) x15_2 (IntKind.u64.wrap (Int.tdiv (Go.bits .or .u64 (IntKind.u64.wrap ((IntKind.u64.wrap (rd x11_2 (ji51))) * 4294967296)) (IntKind.u64.wrap (rd x11_2 (ji54)))) (IntKind.u64.wrap (rd y212 (ji35))))) (Int.tmod (Go.bits .or .u64 (IntKind.u64.wrap ((IntKind.u64.wrap (rd x11_2 (ji51))) * 4294967296)) (IntKind.u64.wrap (rd x11_2 (ji54)))) (IntKind.u64.wrap (rd y212 (ji35)))))) else (none)) else (none)) = some (r1, r2, r3) := by first | (rw [hji54] at H; exact H) | (simp only [hji54] at H ⊢; exact H)
                                          have hji54w : (IntKind.i64.wrap ((ji51) - 1)) = ji54 := (i64_w _).trans hji54
                                          by_cases c55 : 0 ≤ (ji54)
                                          · rw [if_pos c55] at H
                                            have c55b0 : decide (0 ≤ (ji54)) = true := decide_eq_true c55
                                            clear c55
                                            by_cases c56 : (ji54) < (x11_2.length : Int)
                                            · rw [if_pos c56] at H
                                              have c56b0 : decide ((ji54) < (x11_2.length : Int)) = true := decide_eq_true c56
                                              clear c56
                                              by_cases c57 : (IntKind.u64.wrap (rd y212 (ji35))) = 0
                                              · rw [if_pos c57] at H
                                                exact absurd H (by simp)
                                              · rw [if_neg c57] at H
                                                have c57b0 : ((IntKind.u64.wrap (rd y212 (ji35))) == 0) = false := beq_eq_false_iff_ne.mpr c57
                                                have c57b1 : ((IntKind.u64.wrap (rd y212 (ji35))) != 0) = true := bne_iff_ne.mpr c57
                                                have HC58 := Aside0.mk H
                                                clear H
                                                try go_wp2
                                                have n0_ := Aside0.mk (Kd.R_drew HO_10.out)
                                                have n1_ := Aside0.mk (Kd.R_drew HO_11.out)
                                                have n2_ := Aside0.mk (Kd.R_drew HO_12.out)
                                                have n3_ := Aside0.mk (below_drew1 HB.out)
                                                clear HO_10
                                                clear HO_11
                                                clear HO_12
                                                clear HB
                                                have HO_10 := n0_
                                                have HO_11 := n1_
                                                have HO_12 := n2_
                                                have HB := n3_
                                                clear n0_ n1_ n2_ n3_
                                                obtain ⟨Ao60, co60, eo60⟩ := Kd.R_slice HO_11.out
                                                (first | subst eo60 | (injection eo60 with f1_ f2_ f3_; have f4_ := f1_.symm; have f5_ := f3_.symm; clear f1_ f2_ f3_; subst f4_; subst f5_))
                                                have p235 : 0 ≤ ((ji51) : Int) := of_decide_eq_true (by first | (with_reducible assumption) | assumption)
                                                have q235 : (ji51) < (x11_2.length : Int) := of_decide_eq_true (by first | (with_reducible assumption) | assumption)
                                                obtain ⟨ad235, e235, hx235_0⟩ := Kd.at_int (Kd.R_reads' HO_11.out).2.2 (ji51) p235 q235
                                                cases e235
                                                replace p235 := eq_true p235
                                                replace q235 := eq_true q235
                                                have p236 : 0 ≤ ((ji54) : Int) := of_decide_eq_true (by first | (with_reducible assumption) | assumption)
                                                have q236 : (ji54) < (x11_2.length : Int) := of_decide_eq_true (by first | (with_reducible assumption) | assumption)
                                                obtain ⟨ad236, e236, hx236_0⟩ := Kd.at_int (Kd.R_reads' HO_11.out).2.2 (ji54) p236 q236
                                                obtain rfl : ad235 = ad236 := (by injection e236)
                                                replace p236 := eq_true p236
                                                replace q236 := eq_true q236
                                                refine start_ (n := 20) (S := fun w' => w'.cell? (ad235.add ((ji51)).toNat) = some (.int .u32 (rd x11_2 (ji51))) ∧ w'.cell? (ad235.add ((ji54)).toNat) = some (.int .u32 (rd x11_2 (ji54)))) (ds := []) #[false, false, false, false, false, false, false, false, false, false, false, false, false, false, false, false, false, false, false, false] (by kernel_rfl) rfl rfl ⟨hx235_0, hx236_0⟩ (fun hHeld => ?_); refine with_tabW bignat_DivMod.tab16 bignat_DivMod.bits16 (fun HT_ HW_ => ?_)
                                                generalize wr.drew = w59 at HO_10 HO_11 HO_12 HB hx235_0 hx236_0 hHeld ⊢
                                                refine pure_ (i := 0) (N := some 98) (v := ?_) (a' := ?_) #[true, false, false, false, false, false, false, false, false, false, false, false, false, false, false, false, false, false, false, false] rfl rfl (any_of HT_.out (by kernel_rfl)) (fun _ _ _ h => h) (Or.inl ⟨by rfl, ?_⟩) ?_ ?_
                                                rotate_left
                                                · intro w'
                                                  go_simp
                                                  with_reducible rfl
                                                rotate_left
                                                · simp only [Act.put, List.setIfInBounds_toArray, List.set_cons_zero, List.set_cons_succ, i64_w, i32_w]
                                                  rfl
                                                refine pure_ (i := 1) (N := some 99) (v := ?_) (a' := ?_) #[true, true, false, false, false, false, false, false, false, false, false, false, false, false, false, false, false, false, false, false] rfl rfl (any_of HT_.out (by kernel_rfl)) (fun _ _ _ h => h) (Or.inl ⟨by rfl, ?_⟩) ?_ ?_
                                                rotate_left
                                                · intro w'
                                                  go_simp
                                                  with_reducible rfl
                                                rotate_left
                                                · simp only [Act.put, List.setIfInBounds_toArray, List.set_cons_zero, List.set_cons_succ, i64_w, i32_w]
                                                  rfl
                                                refine pure_ (i := 2) (N := some 100) (v := ?_) (a' := ?_) #[true, true, true, false, false, false, false, false, false, false, false, false, false, false, false, false, false, false, false, false] rfl rfl (any_of HT_.out (by kernel_rfl)) (fun _ _ _ h => h) (Or.inl ⟨by rfl, ?_⟩) ?_ ?_
                                                rotate_left
                                                · intro w'
                                                  go_simp
                                                  with_reducible rfl
                                                rotate_left
                                                · simp only [Act.put, List.setIfInBounds_toArray, List.set_cons_zero, List.set_cons_succ, i64_w, i32_w]
                                                  rfl
                                                refine pure_ (i := 3) (N := some 101) (v := ?_) (a' := ?_) #[true, true, true, true, false, false, false, false, false, false, false, false, false, false, false, false, false, false, false, false] rfl rfl (any_of HT_.out (by kernel_rfl)) (fun _ _ _ h => h) (Or.inl ⟨by rfl, ?_⟩) ?_ ?_
                                                rotate_left
                                                · intro w'
                                                  go_simp
                                                  with_reducible rfl
                                                rotate_left
                                                · simp only [Act.put, List.setIfInBounds_toArray, List.set_cons_zero, List.set_cons_succ, i64_w, i32_w]
                                                  rfl
                                                refine pure_ (i := 4) (N := some 102) (v := ?_) (a' := ?_) #[true, true, true, true, true, false, false, false, false, false, false, false, false, false, false, false, false, false, false, false] rfl rfl (any_of HT_.out (by kernel_rfl)) (fun _ _ _ h => h) (Or.inl ⟨by rfl, ?_⟩) ?_ ?_
                                                rotate_left
                                                · intro w'
                                                  go_simp
                                                  with_reducible rfl
                                                rotate_left
                                                · simp only [Act.put, List.setIfInBounds_toArray, List.set_cons_zero, List.set_cons_succ, i64_w, i32_w]
                                                  rfl
                                                refine pure_ (i := 5) (N := some 103) (v := ?_) (a' := ?_) #[true, true, true, true, true, true, false, false, false, false, false, false, false, false, false, false, false, false, false, false] rfl rfl (any_of HT_.out (by kernel_rfl)) (fun _ _ _ h => h) (Or.inl ⟨by rfl, ?_⟩) ?_ ?_
                                                rotate_left
                                                · intro w'
                                                  go_simp
                                                  with_reducible rfl
                                                rotate_left
                                                · simp only [Act.put, List.setIfInBounds_toArray, List.set_cons_zero, List.set_cons_succ, i64_w, i32_w]
                                                  rfl
                                                refine pure_ (i := 9) (N := some 107) (v := ?_) (a' := ?_) #[true, true, true, true, true, true, false, false, false, true, false, false, false, false, false, false, false, false, false, false] rfl rfl (any_of HT_.out (by kernel_rfl)) (fun _ _ _ h => h) (Or.inl ⟨by rfl, ?_⟩) ?_ ?_
                                                rotate_left
                                                · intro w'
                                                  go_simp
                                                  with_reducible rfl
                                                rotate_left
                                                · simp only [Act.put, List.setIfInBounds_toArray, List.set_cons_zero, List.set_cons_succ, i64_w, i32_w]
                                                  rfl
                                                refine pure_ (i := 10) (N := some 108) (v := ?_) (a' := ?_) #[true, true, true, true, true, true, false, false, false, true, true, false, false, false, false, false, false, false, false, false] rfl rfl (any_of HT_.out (by kernel_rfl)) (fun _ _ _ h => h) (Or.inl ⟨by rfl, ?_⟩) ?_ ?_
                                                rotate_left
                                                · intro w'
                                                  go_simp
                                                  with_reducible rfl
                                                rotate_left
                                                · simp only [Act.put, List.setIfInBounds_toArray, List.set_cons_zero, List.set_cons_succ, i64_w, i32_w]
                                                  rfl
                                                refine pure_ (i := 11) (N := some 109) (v := ?_) (a' := ?_) #[true, true, true, true, true, true, false, false, false, true, true, true, false, false, false, false, false, false, false, false] rfl rfl (any_of HT_.out (by kernel_rfl)) (fun _ _ _ h => h) (Or.inl ⟨by rfl, ?_⟩) ?_ ?_
                                                rotate_left
                                                · intro w'
                                                  go_simp
                                                  with_reducible rfl
                                                rotate_left
                                                · simp only [Act.put, List.setIfInBounds_toArray, List.set_cons_zero, List.set_cons_succ, i64_w, i32_w]
                                                  rfl
                                                refine pure_ (i := 12) (N := some 110) (v := ?_) (a' := ?_) #[true, true, true, true, true, true, false, false, false, true, true, true, true, false, false, false, false, false, false, false] rfl rfl (any_of HT_.out (by kernel_rfl)) (fun _ _ _ h => h) (Or.inl ⟨by rfl, ?_⟩) ?_ ?_
                                                rotate_left
                                                · intro w'
                                                  go_simp
                                                  with_reducible rfl
                                                rotate_left
                                                · simp only [Act.put, List.setIfInBounds_toArray, List.set_cons_zero, List.set_cons_succ, i64_w, i32_w]
                                                  rfl
                                                refine pure_ (i := 13) (N := some 111) (v := ?_) (a' := ?_) #[true, true, true, true, true, true, false, false, false, true, true, true, true, true, false, false, false, false, false, false] rfl rfl (any_of HT_.out (by kernel_rfl)) (fun _ _ _ h => h) (Or.inl ⟨by rfl, ?_⟩) ?_ ?_
                                                rotate_left
                                                · intro w'
                                                  go_simp
                                                  with_reducible rfl
                                                rotate_left
                                                · simp only [Act.put, List.setIfInBounds_toArray, List.set_cons_zero, List.set_cons_succ, i64_w, i32_w]
                                                  rfl
                                                refine pure_ (i := 14) (N := some 112) (v := ?_) (a' := ?_) #[true, true, true, true, true, true, false, false, false, true, true, true, true, true, true, false, false, false, false, false] rfl rfl (any_of HT_.out (by kernel_rfl)) (fun _ _ _ h => h) (Or.inl ⟨by rfl, ?_⟩) ?_ ?_
                                                rotate_left
                                                · intro w'
                                                  go_simp
                                                  with_reducible rfl
                                                rotate_left
                                                · simp only [Act.put, List.setIfInBounds_toArray, List.set_cons_zero, List.set_cons_succ, i64_w, i32_w]
                                                  rfl
                                                refine pure_ (i := 15) (N := some 113) (v := ?_) (a' := ?_) #[true, true, true, true, true, true, false, false, false, true, true, true, true, true, true, true, false, false, false, false] rfl rfl (any_of HT_.out (by kernel_rfl)) (fun _ _ _ h => h) (Or.inl ⟨by rfl, ?_⟩) ?_ ?_
                                                rotate_left
                                                · intro w'
                                                  go_simp
                                                  with_reducible rfl
                                                rotate_left
                                                · simp only [Act.put, List.setIfInBounds_toArray, List.set_cons_zero, List.set_cons_succ, i64_w, i32_w]
                                                  rfl
                                                refine take_ (i := 6) (N := some 104) (v := ?_) (a' := ?_) #[true, true, true, true, true, true, true, false, false, true, true, true, true, true, true, true, false, false, false, false] rfl rfl (take_ofW HT_.out HW_.out (by kernel_rfl)) (fun _ _ _ h => h) (Or.inl ⟨by rfl, ?_⟩) hHeld ?_ ?_
                                                rotate_left
                                                · rintro w' ⟨s0, s1⟩
                                                  go_simp
                                                  with_reducible rfl
                                                rotate_left
                                                · simp only [Act.put, List.setIfInBounds_toArray, List.set_cons_zero, List.set_cons_succ, i64_w, i32_w]
                                                  rfl
                                                refine pure_ (i := 7) (N := some 105) (v := ?_) (a' := ?_) #[true, true, true, true, true, true, true, true, false, true, true, true, true, true, true, true, false, false, false, false] rfl rfl (any_of HT_.out (by kernel_rfl)) (fun _ _ _ h => h) (Or.inl ⟨by rfl, ?_⟩) ?_ ?_
                                                rotate_left
                                                · intro w'
                                                  go_simp
                                                  with_reducible rfl
                                                rotate_left
                                                · simp only [Act.put, List.setIfInBounds_toArray, List.set_cons_zero, List.set_cons_succ, i64_w, i32_w]
                                                  rfl
                                                refine pure_ (i := 8) (N := some 106) (v := ?_) (a' := ?_) #[true, true, true, true, true, true, true, true, true, true, true, true, true, true, true, true, false, false, false, false] rfl rfl (any_of HT_.out (by kernel_rfl)) (fun _ _ _ h => h) (Or.inl ⟨by rfl, ?_⟩) ?_ ?_
                                                rotate_left
                                                · intro w'
                                                  go_simp
                                                  with_reducible rfl
                                                rotate_left
                                                · simp only [Act.put, List.setIfInBounds_toArray, List.set_cons_zero, List.set_cons_succ, i64_w, i32_w]
                                                  rfl
                                                refine take_ (i := 16) (N := some 114) (v := ?_) (a' := ?_) #[true, true, true, true, true, true, true, true, true, true, true, true, true, true, true, true, true, false, false, false] rfl rfl (take_ofW HT_.out HW_.out (by kernel_rfl)) (fun _ _ _ h => h) (Or.inl ⟨by rfl, ?_⟩) hHeld ?_ ?_
                                                rotate_left
                                                · rintro w' ⟨s0, s1⟩
                                                  go_simp
                                                  with_reducible rfl
                                                rotate_left
                                                · simp only [Act.put, List.setIfInBounds_toArray, List.set_cons_zero, List.set_cons_succ, i64_w, i32_w]
                                                  rfl
                                                refine pure_ (i := 17) (N := some 115) (v := ?_) (a' := ?_) #[true, true, true, true, true, true, true, true, true, true, true, true, true, true, true, true, true, true, false, false] rfl rfl (any_of HT_.out (by kernel_rfl)) (fun _ _ _ h => h) (Or.inl ⟨by rfl, ?_⟩) ?_ ?_
                                                rotate_left
                                                · intro w'
                                                  go_simp
                                                  with_reducible rfl
                                                rotate_left
                                                · simp only [Act.put, List.setIfInBounds_toArray, List.set_cons_zero, List.set_cons_succ, i64_w, i32_w]
                                                  rfl
                                                refine pure_ (i := 18) (N := some 116) (v := ?_) (a' := ?_) #[true, true, true, true, true, true, true, true, true, true, true, true, true, true, true, true, true, true, true, false] rfl rfl (any_of HT_.out (by kernel_rfl)) (fun _ _ _ h => h) (Or.inl ⟨by rfl, ?_⟩) ?_ ?_
                                                rotate_left
                                                · intro w'
                                                  go_simp
                                                  with_reducible rfl
                                                rotate_left
                                                · simp only [Act.put, List.setIfInBounds_toArray, List.set_cons_zero, List.set_cons_succ, i64_w, i32_w]
                                                  rfl
                                                refine pure_ (i := 19) (N := some 16) (v := ?_) (a' := ?_) #[true, true, true, true, true, true, true, true, true, true, true, true, true, true, true, true, true, true, true, true] rfl rfl (any_of HT_.out (by kernel_rfl)) (fun _ _ _ h => h) (Or.inl ⟨by rfl, ?_⟩) ?_ ?_
                                                rotate_left
                                                · intro w'
                                                  go_simp
                                                  with_reducible rfl
                                                rotate_left
                                                · simp only [Act.put, List.setIfInBounds_toArray, List.set_cons_zero, List.set_cons_succ, i64_w, i32_w]
                                                  rfl
                                                refine done_ (done_of HT_.out (by kernel_rfl)) ?_
                                                try go_wp2
                                                have n0_ := Aside0.mk (Kd.R_drew HO_10.out)
                                                have n1_ := Aside0.mk (Kd.R_drew HO_11.out)
                                                have n2_ := Aside0.mk (Kd.R_drew HO_12.out)
                                                have n3_ := Aside0.mk (below_drew1 HB.out)
                                                clear HO_10
                                                clear HO_11
                                                clear HO_12
                                                clear HB
                                                have HO_10 := n0_
                                                have HO_11 := n1_
                                                have HO_12 := n2_
                                                have HB := n3_
                                                clear n0_ n1_ n2_ n3_
                                                refine start_ (n := 8) (S := fun w' => True) (ds := []) #[false, false, false, false, false, false, false, false] (by kernel_rfl) rfl rfl trivial (fun hHeld => ?_); refine with_tabW bignat_DivMod.tab17 bignat_DivMod.bits17 (fun HT_ HW_ => ?_)
                                                generalize w59.drew = w61 at HO_10 HO_11 HO_12 HB hHeld ⊢
                                                refine pure_ (i := 0) (N := some 117) (v := ?_) (a' := ?_) #[true, false, false, false, false, false, false, false] rfl rfl (any_of HT_.out (by kernel_rfl)) (fun _ _ _ h => h) (Or.inl ⟨by rfl, ?_⟩) ?_ ?_
                                                rotate_left
                                                · intro w'
                                                  go_simp
                                                  with_reducible rfl
                                                rotate_left
                                                · simp only [Act.put, List.setIfInBounds_toArray, List.set_cons_zero, List.set_cons_succ, i64_w, i32_w]
                                                  rfl
                                                refine pure_ (i := 1) (N := some 118) (v := ?_) (a' := ?_) #[true, true, false, false, false, false, false, false] rfl rfl (any_of HT_.out (by kernel_rfl)) (fun _ _ _ h => h) (Or.inl ⟨by rfl, ?_⟩) ?_ ?_
                                                rotate_left
                                                · intro w'
                                                  go_simp
                                                  with_reducible rfl
                                                rotate_left
                                                · simp only [Act.put, List.setIfInBounds_toArray, List.set_cons_zero, List.set_cons_succ, i64_w, i32_w]
                                                  rfl
                                                refine pure_ (i := 2) (N := some 119) (v := ?_) (a' := ?_) #[true, true, true, false, false, false, false, false] rfl rfl (any_of HT_.out (by kernel_rfl)) (fun _ _ _ h => h) (Or.inl ⟨by rfl, ?_⟩) ?_ ?_
                                                rotate_left
                                                · intro w'
                                                  go_simp
                                                  with_reducible rfl
                                                rotate_left
                                                · simp only [Act.put, List.setIfInBounds_toArray, List.set_cons_zero, List.set_cons_succ, i64_w, i32_w]
                                                  rfl
                                                refine pure_ (i := 3) (N := some 120) (v := ?_) (a' := ?_) #[true, true, true, true, false, false, false, false] rfl rfl (any_of HT_.out (by kernel_rfl)) (fun _ _ _ h => h) (Or.inl ⟨by rfl, ?_⟩) ?_ ?_
                                                rotate_left
                                                · intro w'
                                                  go_simp
                                                  with_reducible rfl
                                                rotate_left
                                                · simp only [Act.put, List.setIfInBounds_toArray, List.set_cons_zero, List.set_cons_succ, i64_w, i32_w]
                                                  rfl
                                                refine pure_ (i := 4) (N := some 121) (v := ?_) (a' := ?_) #[true, true, true, true, true, false, false, false] rfl rfl (any_of HT_.out (by kernel_rfl)) (fun _ _ _ h => h) (Or.inl ⟨by rfl, ?_⟩) ?_ ?_
                                                rotate_left
                                                · intro w'
                                                  go_simp
                                                  with_reducible rfl
                                                rotate_left
                                                · simp only [Act.put, List.setIfInBounds_toArray, List.set_cons_zero, List.set_cons_succ, i64_w, i32_w]
                                                  rfl
                                                refine pure_ (i := 5) (N := some 122) (v := ?_) (a' := ?_) #[true, true, true, true, true, true, false, false] rfl rfl (any_of HT_.out (by kernel_rfl)) (fun _ _ _ h => h) (Or.inl ⟨by rfl, ?_⟩) ?_ ?_
                                                rotate_left
                                                · intro w'
                                                  go_simp
                                                  with_reducible rfl
                                                rotate_left
                                                · simp only [Act.put, List.setIfInBounds_toArray, List.set_cons_zero, List.set_cons_succ, i64_w, i32_w]
                                                  rfl
                                                refine pure_ (i := 6) (N := some 17) (v := ?_) (a' := ?_) #[true, true, true, true, true, true, true, false] rfl rfl (any_of HT_.out (by kernel_rfl)) (fun _ _ _ h => h) (Or.inl ⟨by rfl, ?_⟩) ?_ ?_
                                                rotate_left
                                                · intro w'
                                                  go_simp
                                                  with_reducible rfl
                                                rotate_left
                                                · simp only [Act.put, List.setIfInBounds_toArray, List.set_cons_zero, List.set_cons_succ, i64_w, i32_w]
                                                  rfl
                                                refine pure_ (i := 7) (N := some 18) (v := ?_) (a' := ?_) #[true, true, true, true, true, true, true, true] rfl rfl (any_of HT_.out (by kernel_rfl)) (fun _ _ _ h => h) (Or.inl ⟨by rfl, ?_⟩) ?_ ?_
                                                rotate_left
                                                · intro w'
                                                  go_simp
                                                  with_reducible rfl
                                                rotate_left
                                                · simp only [Act.put, List.setIfInBounds_toArray, List.set_cons_zero, List.set_cons_succ, i64_w, i32_w]
                                                  rfl
                                                refine done_ (done_of HT_.out (by kernel_rfl)) ?_
                                                go_upto_block 2 with (fail)
                                                go_cut [17] (fun v17 wc => ∃ (kq : Nat) (x17_57 : Int), v17 = .int .u64 x17_57 ∧ Aside0 (bignat_DivMod.j4 kq t208 y212 x11_2 x12_2 (IntKind.u64.wrap (rd y212 (ji35))) (IntKind.u64.wrap (rd y212 (ji38))) x15_2 x17_57 = some (r1, r2, r3)) ∧ Aside0 (kq ≤ k2) ∧ Aside0 (Kd.R (Kd.int .u32) 63 wc w.heap.size (fun k_ => some k_ ≠ ((.slice (some ad235) x11_2.length co60) : Value).ownBlock ∧ some k_ ≠ ((.slice Ao49 x12_2.length co49) : Value).ownBlock) (.slice (some ad221) y212.length co43) y212) ∧ Aside0 (Kd.R (Kd.int .u32) 63 wc w.heap.size (fun k_ => some k_ ≠ ((.slice (some ad221) y212.length co43) : Value).ownBlock ∧ some k_ ≠ ((.slice Ao49 x12_2.length co49) : Value).ownBlock) (.slice (some ad235) x11_2.length co60) x11_2) ∧ Aside0 (Kd.R (Kd.int .u32) 63 wc w.heap.size (fun k_ => some k_ ≠ ((.slice (some ad221) y212.length co43) : Value).ownBlock ∧ some k_ ≠ ((.slice (some ad235) x11_2.length co60) : Value).ownBlock) (.slice Ao49 x12_2.length co49) x12_2) ∧ Aside0 (Below w.heap.size w wc))
                                                case first =>
                                                  have H := HC58.out
                                                  clear HC58
                                                  have H' := Aside0.mk H
                                                  clear H
                                                  go_wp2
                                                  go_loopg [17, 18] k2 (fun kq v17 v18 w' => ∃ (x17_3 : Int) (x18_3 : Int), v17 = .int .u64 x17_3 ∧ v18 = .int .u64 x18_3 ∧ Aside0 (bignat_DivMod.l1 kq t208 y212 x11_2 x12_2 (IntKind.u64.wrap (rd y212 (ji35))) (IntKind.u64.wrap (rd y212 (ji38))) x15_2 x17_3 x18_3 = some (r1, r2, r3)) ∧ Aside0 (kq ≤ k2) ∧ Aside0 (Kd.R (Kd.int .u32) 63 w' w.heap.size (fun k_ => some k_ ≠ ((.slice (some ad235) x11_2.length co60) : Value).ownBlock ∧ some k_ ≠ ((.slice Ao49 x12_2.length co49) : Value).ownBlock) (.slice (some ad221) y212.length co43) y212) ∧ Aside0 (Kd.R (Kd.int .u32) 63 w' w.heap.size (fun k_ => some k_ ≠ ((.slice (some ad221) y212.length co43) : Value).ownBlock ∧ some k_ ≠ ((.slice Ao49 x12_2.length co49) : Value).ownBlock) (.slice (some ad235) x11_2.length co60) x11_2) ∧ Aside0 (Kd.R (Kd.int .u32) 63 w' w.heap.size (fun k_ => some k_ ≠ ((.slice (some ad221) y212.length co43) : Value).ownBlock ∧ some k_ ≠ ((.slice (some ad235) x11_2.length co60) : Value).ownBlock) (.slice Ao49 x12_2.length co49) x12_2) ∧ Aside0 (Below w.heap.size w w'))
                                                  case atStart => exact ⟨(IntKind.u64.wrap (Int.tdiv (Go.bits .or .u64 (IntKind.u64.wrap ((IntKind.u64.wrap (rd x11_2 (ji51))) * 4294967296)) (IntKind.u64.wrap (rd x11_2 (ji54)))) (IntKind.u64.wrap (rd y212 (ji35))))), (Int.tmod (Go.bits .or .u64 (IntKind.u64.wrap ((IntKind.u64.wrap (rd x11_2 (ji51))) * 4294967296)) (IntKind.u64.wrap (rd x11_2 (ji54)))) (IntKind.u64.wrap (rd y212 (ji35)))), (by first | rfl | (simp; done) | (simp only [← hji35, ← hji51, ← hji54] <;> (first | rfl | simp)) | (simp [*]; done)), (by first | rfl | (simp; done) | (simp only [← hji35, ← hji51, ← hji54] <;> (first | rfl | simp)) | (simp [*]; done)), H', ⟨Nat.le_refl _⟩, ⟨by (try simp only [hl12_2]); (with_reducible repeat (first | apply Kd.R_alloc | apply Kd.R_drewN | apply Kd.R_drew)); exact HO_10.out⟩, ⟨by (try simp only [hl12_2]); (with_reducible repeat (first | apply Kd.R_alloc | apply Kd.R_drewN | apply Kd.R_drew)); exact HO_11.out⟩, ⟨by (try simp only [hl12_2]); (with_reducible repeat (first | apply Kd.R_alloc | apply Kd.R_drewN | apply Kd.R_drew)); exact HO_12.out⟩, ⟨by repeat (first | (with_reducible first | exact HB.out | apply below_alloc | apply pw_below_drewN | apply below_drew1) | exact HB.out)⟩⟩
                                                  case round =>
                                                    clear H'
                                                    try clear c1
                                                    try clear p1
                                                    try clear q1
                                                    try clear hx1
                                                    try clear qi1
                                                    try clear c2
                                                    try clear p2
                                                    try clear q2
                                                    try clear hx2
                                                    try clear c3
                                                    try clear c4
                                                    try clear q4
                                                    try clear c5
                                                    try clear p6
                                                    try clear c7
                                                    try clear c8
                                                    try clear c10
                                                    try clear c10b0
                                                    try clear c17
                                                    try clear c17b0
                                                    try clear c17b1
                                                    try clear c18
                                                    try clear c18b0
                                                    try clear c18b1
                                                    try clear p19
                                                    try clear q19
                                                    try clear hx19
                                                    try clear qi19
                                                    try clear p20
                                                    try clear q20
                                                    try clear hx20
                                                    try clear p22
                                                    try clear q22
                                                    try clear hx22
                                                    try clear p23
                                                    try clear q23
                                                    try clear hx23
                                                    try clear c24
                                                    try clear c25
                                                    try clear c25b0
                                                    try clear c26
                                                    try clear c26b0
                                                    try clear c27
                                                    try clear c29
                                                    try clear c29b0
                                                    try clear c29b1
                                                    try clear c30
                                                    try clear c30b0
                                                    try clear c30b1
                                                    try clear c33
                                                    try clear c33b0
                                                    try clear c33b1
                                                    try clear c34
                                                    try clear c34b0
                                                    try clear c34b1
                                                    try clear c36
                                                    try clear c36b0
                                                    try clear c37
                                                    try clear c37b0
                                                    try clear c39
                                                    try clear c39b0
                                                    try clear c40
                                                    try clear c40b0
                                                    try clear q44
                                                    try clear c50
                                                    try clear c50b0
                                                    try clear c52
                                                    try clear c52b0
                                                    try clear c53
                                                    try clear c53b0
                                                    try clear c55
                                                    try clear c55b0
                                                    try clear c56
                                                    try clear c56b0
                                                    try clear c57
                                                    try clear c57b0
                                                    try clear c57b1
                                                    try clear hx199_0
                                                    try clear hx207_0
                                                    try clear hx221_0
                                                    try clear hx222_0
                                                    try clear hx235_0
                                                    try clear hx236_0
                                                    try clear p1
                                                    try clear p19
                                                    try clear p199
                                                    try clear p2
                                                    try clear p20
                                                    try clear p207
                                                    try clear p22
                                                    try clear p221
                                                    try clear p222
                                                    try clear p235
                                                    try clear p236
                                                    try clear p6
                                                    try clear q1
                                                    try clear q19
                                                    try clear q199
                                                    try clear q2
                                                    try clear q20
                                                    try clear q207
                                                    try clear q22
                                                    try clear q221
                                                    try clear q222
                                                    try clear q235
                                                    try clear q236
                                                    try clear q4
                                                    try clear q44
                                                    obtain ⟨x17_3, x18_3, rfl, rfl, HA, HK3, HO_10, HO_11, HO_12, HB⟩ := hrel
                                                    cases gk with
                                                    | zero => exact absurd HA.out (by simp [bignat_DivMod.l1])
                                                    | succ k3 =>
                                                      have H := HA.out
                                                      clear HA
                                                      simp only [bignat_DivMod.l1] at H
                                                      have HC62 := Aside0.mk H
                                                      clear H
                                                      go_upto_region 18 with (fail)
                                                      go_cut [142] (fun v142 wc => ∃ (kq : Nat) (x142_61 : Bool), v142 = .bool x142_61 ∧ Aside0 (bignat_DivMod.j3 kq t208 y212 x11_2 x12_2 (IntKind.u64.wrap (rd y212 (ji35))) (IntKind.u64.wrap (rd y212 (ji38))) x15_2 x17_3 x18_3 x142_61 = some (r1, r2, r3)) ∧ Aside0 (kq ≤ k3) ∧ Aside0 (Kd.R (Kd.int .u32) 63 wc w.heap.size (fun k_ => some k_ ≠ ((.slice (some ad235) x11_2.length co60) : Value).ownBlock ∧ some k_ ≠ ((.slice Ao49 x12_2.length co49) : Value).ownBlock) (.slice (some ad221) y212.length co43) y212) ∧ Aside0 (Kd.R (Kd.int .u32) 63 wc w.heap.size (fun k_ => some k_ ≠ ((.slice (some ad221) y212.length co43) : Value).ownBlock ∧ some k_ ≠ ((.slice Ao49 x12_2.length co49) : Value).ownBlock) (.slice (some ad235) x11_2.length co60) x11_2) ∧ Aside0 (Kd.R (Kd.int .u32) 63 wc w.heap.size (fun k_ => some k_ ≠ ((.slice (some ad221) y212.length co43) : Value).ownBlock ∧ some k_ ≠ ((.slice (some ad235) x11_2.length co60) : Value).ownBlock) (.slice Ao49 x12_2.length co49) x12_2) ∧ Aside0 (Below w.heap.size w wc))
                                                      case first =>
                                                        have H := HC62.out
                                                        clear HC62
                                                        by_cases c63 : x17_3 ≥ 4294967296
                                                        · rw [if_pos c63] at H
                                                          have c63b0 : decide (4294967296 ≤ x17_3) = true := decide_eq_true c63
                                                          clear c63
                                                          (first | rw [c63b0] | (simp only [i64_w, i32_w]; rw [c63b0]) | skip)
                                                          have H' := Aside0.mk H
                                                          clear H
                                                          go_wp2
                                                          go_meet
                                                          case rel => exact ⟨_, (true), (by first | rfl | (simp; done) | (simp [*]; done)), H', ⟨by have := HJ2.out; have := HK2.out; have := HK3.out; first | omega | exact Nat.le_refl _⟩, ⟨by (try simp only [hl12_2]); (with_reducible repeat (first | apply Kd.R_alloc | apply Kd.R_drewN | apply Kd.R_drew)); exact HO_10.out⟩, ⟨by (try simp only [hl12_2]); (with_reducible repeat (first | apply Kd.R_alloc | apply Kd.R_drewN | apply Kd.R_drew)); exact HO_11.out⟩, ⟨by (try simp only [hl12_2]); (with_reducible repeat (first | apply Kd.R_alloc | apply Kd.R_drewN | apply Kd.R_drew)); exact HO_12.out⟩, ⟨by repeat (first | (with_reducible first | exact HB.out | apply below_alloc | apply pw_below_drewN | apply below_drew1) | exact HB.out)⟩⟩
                                                        · rw [if_neg c63] at H
                                                          have c63b0 : decide (4294967296 ≤ x17_3) = false := decide_eq_false c63
                                                          clear c63
                                                          (first | rw [c63b0] | (simp only [i64_w, i32_w]; rw [c63b0]) | skip)
                                                          obtain ⟨ji64, hji64⟩ : ∃ j_ : Int, (wrap64 ((wrap64 (x15_2 + (y212.length : Int))) - 2)) = j_ := ⟨_, rfl⟩
                                                          replace H : (if 0 ≤ (ji64) then (if (ji64) < (x11_2.length : Int) then (bignat_DivMod.j3 k3 t208 y212 x11_2 x12_2 (IntKind.u64.wrap (rd y212 (ji35))) (IntKind.u64.wrap (rd y212 (ji38))) x15_2 x17_3 x18_3 (decide ((IntKind.u64.wrap (x17_3 * (IntKind.u64.wrap (rd y212 (ji38))))) > (Go.bits .or .u64 (IntKind.u64.wrap (x18_3 * 4294967296)) (IntKind.u64.wrap (rd x11_2 (ji64))))))) else (none)) else (none)) = some (r1, r2, r3) := by first | (rw [hji64] at H; exact H) | (simp only [hji64] at H ⊢; exact H)
                                                          have hji64w : (IntKind.i64.wrap ((wrap64 (x15_2 + (y212.length : Int))) - 2)) = ji64 := (i64_w _).trans hji64
                                                          (try (have hji64v : wrap64 (ji51 - 2) = ji64 := (by rw [← hji51]; exact hji64)))
                                                          (try (have hji64u : IntKind.i64.wrap (ji51 - 2) = ji64 := (by rw [← hji51]; exact hji64w)))
                                                          by_cases c65 : 0 ≤ (ji64)
                                                          · rw [if_pos c65] at H
                                                            have c65b0 : decide (0 ≤ (ji64)) = true := decide_eq_true c65
                                                            clear c65
                                                            by_cases c66 : (ji64) < (x11_2.length : Int)
                                                            · rw [if_pos c66] at H
                                                              have c66b0 : decide ((ji64) < (x11_2.length : Int)) = true := decide_eq_true c66
                                                              clear c66
                                                              have H' := Aside0.mk H
                                                              clear H
                                                              have p237 : 0 ≤ ((ji64) : Int) := of_decide_eq_true (by first | (with_reducible assumption) | assumption)
                                                              have q237 : (ji64) < (x11_2.length : Int) := of_decide_eq_true (by first | (with_reducible assumption) | assumption)
                                                              obtain ⟨ad237, e237, hx237_0⟩ := Kd.at_int (Kd.R_reads' HO_11.out).2.2 (ji64) p237 q237
                                                              obtain rfl : ad235 = ad237 := (by injection e237)
                                                              replace p237 := eq_true p237
                                                              replace q237 := eq_true q237
                                                              go_wp2
                                                              go_meet
                                                              case rel => exact ⟨_, (decide ((IntKind.u64.wrap (x17_3 * (IntKind.u64.wrap (rd y212 (ji38))))) > (Go.bits .or .u64 (IntKind.u64.wrap (x18_3 * 4294967296)) (IntKind.u64.wrap (rd x11_2 (ji64)))))), (by first | rfl | (simp; done) | (simp only [← hji38, ← hji64] <;> (first | rfl | simp)) | (simp [*]; done)), H', ⟨by have := HJ2.out; have := HK2.out; have := HK3.out; first | omega | exact Nat.le_refl _⟩, ⟨by (try simp only [hl12_2]); (with_reducible repeat (first | apply Kd.R_alloc | apply Kd.R_drewN | apply Kd.R_drew)); exact HO_10.out⟩, ⟨by (try simp only [hl12_2]); (with_reducible repeat (first | apply Kd.R_alloc | apply Kd.R_drewN | apply Kd.R_drew)); exact HO_11.out⟩, ⟨by (try simp only [hl12_2]); (with_reducible repeat (first | apply Kd.R_alloc | apply Kd.R_drewN | apply Kd.R_drew)); exact HO_12.out⟩, ⟨by repeat (first | (with_reducible first | exact HB.out | apply below_alloc | apply pw_below_drewN | apply below_drew1) | exact HB.out)⟩⟩
                                                            · rw [if_neg c66] at H
                                                              exact absurd H (by simp)
                                                          · rw [if_neg c65] at H
                                                            exact absurd H (by simp)
                                                      case rest =>
                                                        clear HC62
                                                        try clear c1
                                                        try clear p1
                                                        try clear q1
                                                        try clear hx1
                                                        try clear qi1
                                                        try clear c2
                                                        try clear p2
                                                        try clear q2
                                                        try clear hx2
                                                        try clear c3
                                                        try clear c4
                                                        try clear q4
                                                        try clear c5
                                                        try clear c6
                                                        try clear p6
                                                        try clear c7
                                                        try clear c8
                                                        try clear c10
                                                        try clear c10b0
                                                        try clear c17
                                                        try clear c17b0
                                                        try clear c17b1
                                                        try clear c18
                                                        try clear c18b0
                                                        try clear c18b1
                                                        try clear p19
                                                        try clear q19
                                                        try clear hx19
                                                        try clear qi19
                                                        try clear p20
                                                        try clear q20
                                                        try clear hx20
                                                        try clear p22
                                                        try clear q22
                                                        try clear hx22
                                                        try clear p23
                                                        try clear q23
                                                        try clear hx23
                                                        try clear c24
                                                        try clear c25
                                                        try clear c25b0
                                                        try clear c26
                                                        try clear c26b0
                                                        try clear c27
                                                        try clear c29
                                                        try clear c29b0
                                                        try clear c29b1
                                                        try clear c30
                                                        try clear c30b0
                                                        try clear c30b1
                                                        try clear c33
                                                        try clear c33b0
                                                        try clear c33b1
                                                        try clear c34
                                                        try clear c34b0
                                                        try clear c34b1
                                                        try clear c36
                                                        try clear c36b0
                                                        try clear c37
                                                        try clear c37b0
                                                        try clear c39
                                                        try clear c39b0
                                                        try clear c40
                                                        try clear c40b0
                                                        try clear q44
                                                        try clear c50
                                                        try clear c50b0
                                                        try clear c52
                                                        try clear c52b0
                                                        try clear c53
                                                        try clear c53b0
                                                        try clear c55
                                                        try clear c55b0
                                                        try clear c56
                                                        try clear c56b0
                                                        try clear c57
                                                        try clear c57b0
                                                        try clear c57b1
                                                        try clear c63
                                                        try clear c63b0
                                                        try clear p64
                                                        try clear c65
                                                        try clear c65b0
                                                        try clear c66
                                                        try clear c66b0
                                                        try clear hx199_0
                                                        try clear hx207_0
                                                        try clear hx221_0
                                                        try clear hx222_0
                                                        try clear hx235_0
                                                        try clear hx236_0
                                                        try clear hx237_0
                                                        try clear p1
                                                        try clear p19
                                                        try clear p199
                                                        try clear p2
                                                        try clear p20
                                                        try clear p207
                                                        try clear p22
                                                        try clear p221
                                                        try clear p222
                                                        try clear p23
                                                        try clear p235
                                                        try clear p236
                                                        try clear p237
                                                        try clear p6
                                                        try clear q1
                                                        try clear q19
                                                        try clear q199
                                                        try clear q2
                                                        try clear q20
                                                        try clear q207
                                                        try clear q22
                                                        try clear q221
                                                        try clear q222
                                                        try clear q23
                                                        try clear q235
                                                        try clear q236
                                                        try clear q237
                                                        try clear q4
                                                        try clear q44
                                                        obtain ⟨kq, x142_61, rfl, HA, HJ61, HO_10, HO_11, HO_12, HB⟩ := hcut
                                                        cases kq with
                                                        | zero => exact absurd HA.out (by simp [bignat_DivMod.j3])
                                                        | succ kj61 =>
                                                          have H := HA.out
                                                          clear HA
                                                          simp only [bignat_DivMod.j3] at H
                                                          by_cases c67 : x142_61 = true
                                                          · subst c67
                                                            have H1 : (if (IntKind.u64.wrap (x18_3 + (IntKind.u64.wrap (rd y212 (ji35))))) ≥ 4294967296 then (bignat_DivMod.j4 kj61 t208 y212 x11_2 x12_2 (IntKind.u64.wrap (rd y212 (ji35))) (IntKind.u64.wrap (rd y212 (ji38))) x15_2 (IntKind.u64.wrap (x17_3 - 1))) else (bignat_DivMod.l1 kj61 t208 y212 x11_2 x12_2 (IntKind.u64.wrap (rd y212 (ji35))) (IntKind.u64.wrap (rd y212 (ji38))) x15_2 (IntKind.u64.wrap (x17_3 - 1)) (IntKind.u64.wrap (x18_3 + (IntKind.u64.wrap (rd y212 (ji35))))))) = some (r1, r2, r3) := by rw [if_pos rfl] at H; exact H
                                                            clear H
                                                            have H := H1
                                                            clear H1
                                                            by_cases c68 : (IntKind.u64.wrap (x18_3 + (IntKind.u64.wrap (rd y212 (ji35))))) ≥ 4294967296
                                                            · rw [if_pos c68] at H
                                                              have c68b0 : decide (4294967296 ≤ (IntKind.u64.wrap (x18_3 + (IntKind.u64.wrap (rd y212 (ji35)))))) = true := decide_eq_true c68
                                                              clear c68
                                                              have H' := Aside0.mk H
                                                              clear H
                                                              go_wp2
                                                              go_meet
                                                              case rel => exact ⟨_, (IntKind.u64.wrap (x17_3 - 1)), (by first | rfl | (simp; done) | (simp [*]; done)), H', ⟨by have := HJ2.out; have := HK2.out; have := HK3.out; have := HJ61.out; first | omega | exact Nat.le_refl _⟩, ⟨by (try simp only [hl12_2]); (with_reducible repeat (first | apply Kd.R_alloc | apply Kd.R_drewN | apply Kd.R_drew)); exact HO_10.out⟩, ⟨by (try simp only [hl12_2]); (with_reducible repeat (first | apply Kd.R_alloc | apply Kd.R_drewN | apply Kd.R_drew)); exact HO_11.out⟩, ⟨by (try simp only [hl12_2]); (with_reducible repeat (first | apply Kd.R_alloc | apply Kd.R_drewN | apply Kd.R_drew)); exact HO_12.out⟩, ⟨by repeat (first | (with_reducible first | exact HB.out | apply below_alloc | apply pw_below_drewN | apply below_drew1) | exact HB.out)⟩⟩
                                                            · rw [if_neg c68] at H
                                                              have c68b0 : decide (4294967296 ≤ (IntKind.u64.wrap (x18_3 + (IntKind.u64.wrap (rd y212 (ji35)))))) = false := decide_eq_false c68
                                                              clear c68
                                                              have H' := Aside0.mk H
                                                              clear H
                                                              go_wp2
                                                              go_roundg kj61
                                                              case measure => have := HJ2.out; have := HK2.out; have := HK3.out; have := HJ61.out; omega
                                                              case rel => exact ⟨(IntKind.u64.wrap (x17_3 - 1)), (IntKind.u64.wrap (x18_3 + (IntKind.u64.wrap (rd y212 (ji35))))), (by first | rfl | (simp; done) | (simp [*]; done)), (by first | rfl | (simp; done) | (simp only [← hji35] <;> (first | rfl | simp)) | (simp [*]; done)), H', ⟨by have := HJ2.out; have := HK2.out; have := HK3.out; have := HJ61.out; omega⟩, ⟨by (try simp only [hl12_2]); (with_reducible repeat (first | apply Kd.R_alloc | apply Kd.R_drewN | apply Kd.R_drew)); exact HO_10.out⟩, ⟨by (try simp only [hl12_2]); (with_reducible repeat (first | apply Kd.R_alloc | apply Kd.R_drewN | apply Kd.R_drew)); exact HO_11.out⟩, ⟨by (try simp only [hl12_2]); (with_reducible repeat (first | apply Kd.R_alloc | apply Kd.R_drewN | apply Kd.R_drew)); exact HO_12.out⟩, ⟨by repeat (first | (with_reducible first | exact HB.out | apply below_alloc | apply pw_below_drewN | apply below_drew1) | exact HB.out)⟩⟩
                                                          · replace c67 := Bool.eq_false_iff.mpr c67
                                                            subst c67
                                                            have H1 : (bignat_DivMod.j4 kj61 t208 y212 x11_2 x12_2 (IntKind.u64.wrap (rd y212 (ji35))) (IntKind.u64.wrap (rd y212 (ji38))) x15_2 x17_3) = some (r1, r2, r3) := by rw [if_neg (show ¬ (false = true) by decide)] at H; exact H
                                                            clear H
                                                            have H := H1
                                                            clear H1
                                                            have H' := Aside0.mk H
                                                            clear H
                                                            go_wp2
                                                            go_meet
                                                            case rel => exact ⟨_, (x17_3), (by first | rfl | (simp; done) | (simp [*]; done)), H', ⟨by have := HJ2.out; have := HK2.out; have := HK3.out; have := HJ61.out; first | omega | exact Nat.le_refl _⟩, ⟨by (try simp only [hl12_2]); (with_reducible repeat (first | apply Kd.R_alloc | apply Kd.R_drewN | apply Kd.R_drew)); exact HO_10.out⟩, ⟨by (try simp only [hl12_2]); (with_reducible repeat (first | apply Kd.R_alloc | apply Kd.R_drewN | apply Kd.R_drew)); exact HO_11.out⟩, ⟨by (try simp only [hl12_2]); (with_reducible repeat (first | apply Kd.R_alloc | apply Kd.R_drewN | apply Kd.R_drew)); exact HO_12.out⟩, ⟨by repeat (first | (with_reducible first | exact HB.out | apply below_alloc | apply pw_below_drewN | apply below_drew1) | exact HB.out)⟩⟩
                                                case rest =>
                                                  clear HC58
                                                  try clear c1
                                                  try clear p1
                                                  try clear q1
                                                  try clear hx1
                                                  try clear qi1
                                                  try clear c2
                                                  try clear p2
                                                  try clear q2
                                                  try clear hx2
                                                  try clear c3
                                                  try clear c4
                                                  try clear q4
                                                  try clear c5
                                                  try clear c6
                                                  try clear p6
                                                  try clear c7
                                                  try clear c8
                                                  try clear c10
                                                  try clear c10b0
                                                  try clear c17
                                                  try clear c17b0
                                                  try clear c17b1
                                                  try clear c18
                                                  try clear c18b0
                                                  try clear c18b1
                                                  try clear p19
                                                  try clear q19
                                                  try clear hx19
                                                  try clear qi19
                                                  try clear p20
                                                  try clear q20
                                                  try clear hx20
                                                  try clear p22
                                                  try clear q22
                                                  try clear hx22
                                                  try clear p23
                                                  try clear q23
                                                  try clear hx23
                                                  try clear c24
                                                  try clear c25
                                                  try clear c25b0
                                                  try clear c26
                                                  try clear c26b0
                                                  try clear c27
                                                  try clear c29
                                                  try clear c29b0
                                                  try clear c29b1
                                                  try clear c30
                                                  try clear c30b0
                                                  try clear c30b1
                                                  try clear c33
                                                  try clear c33b0
                                                  try clear c33b1
                                                  try clear c34
                                                  try clear c34b0
                                                  try clear c34b1
                                                  try clear c36
                                                  try clear c36b0
                                                  try clear c37
                                                  try clear c37b0
                                                  try clear c39
                                                  try clear c39b0
                                                  try clear c40
                                                  try clear c40b0
                                                  try clear q44
                                                  try clear c50
                                                  try clear c50b0
                                                  try clear c52
                                                  try clear c52b0
                                                  try clear c53
                                                  try clear c53b0
                                                  try clear c55
                                                  try clear c55b0
                                                  try clear c56
                                                  try clear c56b0
                                                  try clear c57
                                                  try clear c57b0
                                                  try clear c57b1
                                                  try clear c63
                                                  try clear c63b0
                                                  try clear p64
                                                  try clear c65
                                                  try clear c65b0
                                                  try clear c66
                                                  try clear c66b0
                                                  try clear c67
                                                  try clear c68
                                                  try clear c68b0
                                                  try clear hx199_0
                                                  try clear hx207_0
                                                  try clear hx221_0
                                                  try clear hx222_0
                                                  try clear hx235_0
                                                  try clear hx236_0
                                                  try clear hx237_0
                                                  try clear p1
                                                  try clear p19
                                                  try clear p199
                                                  try clear p2
                                                  try clear p20
                                                  try clear p207
                                                  try clear p22
                                                  try clear p221
                                                  try clear p222
                                                  try clear p23
                                                  try clear p235
                                                  try clear p236
                                                  try clear p237
                                                  try clear p6
                                                  try clear p64
                                                  try clear q1
                                                  try clear q19
                                                  try clear q199
                                                  try clear q2
                                                  try clear q20
                                                  try clear q207
                                                  try clear q22
                                                  try clear q221
                                                  try clear q222
                                                  try clear q23
                                                  try clear q235
                                                  try clear q236
                                                  try clear q237
                                                  try clear q4
                                                  try clear q44
                                                  obtain ⟨kq, x17_57, rfl, HA, HJ57, HO_10, HO_11, HO_12, HB⟩ := hcut
                                                  cases kq with
                                                  | zero => exact absurd HA.out (by simp [bignat_DivMod.j4])
                                                  | succ kj57 =>
                                                    have H := HA.out
                                                    clear HA
                                                    simp only [bignat_DivMod.j4] at H
                                                    replace H := Option.bind_eq_some_iff.mp H
                                                    obtain ⟨⟨t238, t239⟩, A690, H⟩ := H
                                                    replace H : (if t238 = true then ((bignat_restore.f kj57 t239 y212 x15_2).bind fun t240 => (if 0 ≤ x15_2 then (if x15_2 < (x12_2.length : Int) then (bignat_DivMod.l0 kj57 t208 y212 t240 (x12_2.set (x15_2 : Int).toNat ((IntKind.u64.wrap (x17_57 - 1)) % 4294967296)) (IntKind.u64.wrap (rd y212 (ji35))) (IntKind.u64.wrap (rd y212 (ji38))) (wrap64 (x15_2 - 1))) else (none)) else (none))) else (if 0 ≤ x15_2 then (if x15_2 < (x12_2.length : Int) then (bignat_DivMod.l0 kj57 t208 y212 t239 (x12_2.set (x15_2 : Int).toNat ((x17_57) % 4294967296)) (IntKind.u64.wrap (rd y212 (ji35))) (IntKind.u64.wrap (rd y212 (ji38))) (wrap64 (x15_2 - 1))) else (none)) else (none))) = some (r1, r2, r3) := H
                                                    have A69 := Aside0.mk A690
                                                    clear A690
                                                    by_cases c70 : t238 = true
                                                    · subst c70
                                                      have H1 : ((bignat_restore.f kj57 t239 y212 x15_2).bind fun t240 => (if 0 ≤ x15_2 then (if x15_2 < (x12_2.length : Int) then (bignat_DivMod.l0 kj57 t208 y212 t240 (x12_2.set (x15_2 : Int).toNat ((IntKind.u64.wrap (x17_57 - 1)) % 4294967296)) (IntKind.u64.wrap (rd y212 (ji35))) (IntKind.u64.wrap (rd y212 (ji38))) (wrap64 (x15_2 - 1))) else (none)) else (none))) = some (r1, r2, r3) := by rw [if_pos rfl] at H; exact H
                                                      clear H
                                                      have H := H1
                                                      clear H1
                                                      replace H := Option.bind_eq_some_iff.mp H
                                                      obtain ⟨t240, A710, H⟩ := H
                                                      replace H : (if 0 ≤ x15_2 then (if x15_2 < (x12_2.length : Int) then (bignat_DivMod.l0 kj57 t208 y212 t240 (x12_2.set (x15_2 : Int).toNat ((IntKind.u64.wrap (x17_57 - 1)) % 4294967296)) (IntKind.u64.wrap (rd y212 (ji35))) (IntKind.u64.wrap (rd y212 (ji38))) (wrap64 (x15_2 - 1))) else (none)) else (none)) = some (r1, r2, r3) := H
                                                      have A71 := Aside0.mk A710
                                                      clear A710
                                                      by_cases c72 : 0 ≤ x15_2
                                                      · rw [if_pos c72] at H
                                                        have c72b0 : decide (0 ≤ x15_2) = true := decide_eq_true c72
                                                        clear c72
                                                        by_cases c73 : x15_2 < (x12_2.length : Int)
                                                        · rw [if_pos c73] at H
                                                          have c73b0 : decide (x15_2 < (x12_2.length : Int)) = true := decide_eq_true c73
                                                          clear c73
                                                          obtain ⟨y241, hy241⟩ : ∃ y_ : List Int, y_ = (x12_2.set (x15_2 : Int).toNat ((IntKind.u64.wrap (x17_57 - 1)) % 4294967296)) := ⟨_, rfl⟩
                                                          replace H : (bignat_DivMod.l0 kj57 t208 y212 t240 y241 (IntKind.u64.wrap (rd y212 (ji35))) (IntKind.u64.wrap (rd y212 (ji38))) (wrap64 (x15_2 - 1))) = some (r1, r2, r3) := by first | (rw [hy241]; with_reducible exact H) | (have H2_ := (Option.bind_some _ _).symm.trans H; rw [hy241]; with_reducible exact H2_) | (have H2_ := (Option.bind_some _ _).symm.trans H; with_reducible exact H2_) | with_reducible exact H | (rw [hy241]; exact H) | exact H
                                                          have Ny241 := Aside0.mk hy241
                                                          clear hy241
                                                          have H' := Aside0.mk H
                                                          clear H
                                                          go_wp2_with (first | ((with_reducible refine gate_callee (f := 81) rfl ?_); refine goesL_ (some 154) rfl rfl Tryd.func81 (by kernel_rfl) rfl #[.slice (some ad235) x11_2.length co60, .slice (some ad221) y212.length co43, .int .i64 x15_2, .int .u64 x17_57] rfl (by (try simp only [List.map_toArray, List.map_cons, List.map_nil]); first | done | rfl | (simp only [List.length_drop, List.length_take]; rfl)) ?_; (with_reducible refine (bignat_reduce.calls kj57 (fun k_ => some k_ = (.slice (some ad235) x11_2.length co60 : Value).ownBlock) (.slice (some ad235) x11_2.length co60) x11_2 _ _ y212 x15_2 x17_57 true t239 w _ ?side1 ?side2 ?side3 ?side4 A69.out).mono ?_); (case side1 => repeat (first | (with_reducible first | exact HB.out | apply below_alloc | apply pw_below_drewN | apply below_drew1) | exact HB.out)); (case side2 => exact Kd.R_tight rfl HO_11.out); (case side3 => exact Kd.C_kept_own (HO_10.out) (fun k_ hk_ hs_ => (hk_.1) hs_)); (case side4 => exact (Kd.R_reads' HO_10.out).2.1); rintro e w75 ⟨rfl, hy0, hb, hkp⟩; refine ⟨_, rfl, ?_⟩; have n0_ := Aside0.mk (Kd.R_mono (ok' := fun k_ => some k_ ≠ (.slice (some ad235) x11_2.length co60 : Value).ownBlock ∧ some k_ ≠ (.slice Ao49 x12_2.length co49 : Value).ownBlock) (Kd.R_keptB (HO_10.out) hkp (fun k_ hk_ hs_ => (hk_.1) hs_)) (fun k_ hk_ => ⟨hk_.1.1, hk_.1.2⟩)); have n1_ := Aside0.mk (Kd.R_reok rfl hy0 (fun k_ e_ => HO_11.out.1 k_ e_)); have n2_ := Aside0.mk (Kd.R_mono (ok' := fun k_ => some k_ ≠ (.slice (some ad221) y212.length co43 : Value).ownBlock ∧ some k_ ≠ (.slice (some ad235) x11_2.length co60 : Value).ownBlock) (Kd.R_keptB (HO_12.out) hkp (fun k_ hk_ hs_ => (hk_.2) hs_)) (fun k_ hk_ => ⟨hk_.1.1, hk_.1.2⟩)); have n3_ := Aside0.mk (hb); clear HO_10; clear HO_11; clear HO_12; clear HB; have HO_10 := n0_; have HO_11 := n1_; have HO_12 := n2_; have HB := n3_; clear n0_ n1_ n2_ n3_; (try clear hb); (try clear hkp); (try clear hy0)) | ((with_reducible refine gate_callee (f := 82) rfl ?_); refine goesL_ (some 160) rfl rfl Tryd.func82 (by kernel_rfl) rfl #[.slice (some ad235) x11_2.length co60, .slice (some ad221) y212.length co43, .int .i64 x15_2] rfl (by (try simp only [List.map_toArray, List.map_cons, List.map_nil]); first | done | rfl | (simp only [List.length_drop, List.length_take]; rfl)) ?_; (with_reducible refine (bignat_restore.calls kj57 (fun k_ => some k_ = (.slice (some ad235) x11_2.length co60 : Value).ownBlock) (.slice (some ad235) x11_2.length co60) t239 _ _ y212 x15_2 t240 w _ ?side1 ?side2 ?side3 ?side4 A71.out).mono ?_); (case side1 => repeat (first | (with_reducible first | exact HB.out | apply below_alloc | apply pw_below_drewN | apply below_drew1) | exact HB.out)); (case side2 => exact Kd.R_tight rfl HO_11.out); (case side3 => exact Kd.C_kept_own (HO_10.out) (fun k_ hk_ hs_ => (hk_.1) hs_)); (case side4 => exact (Kd.R_reads' HO_10.out).2.1); rintro e w76 ⟨rfl, hy0, hb, hkp⟩; refine ⟨_, rfl, ?_⟩; have n0_ := Aside0.mk (Kd.R_mono (ok' := fun k_ => some k_ ≠ (.slice (some ad235) x11_2.length co60 : Value).ownBlock ∧ some k_ ≠ (.slice Ao49 x12_2.length co49 : Value).ownBlock) (Kd.R_keptB (HO_10.out) hkp (fun k_ hk_ hs_ => (hk_.1) hs_)) (fun k_ hk_ => ⟨hk_.1.1, hk_.1.2⟩)); have n1_ := Aside0.mk (Kd.R_reok rfl hy0 (fun k_ e_ => HO_11.out.1 k_ e_)); have n2_ := Aside0.mk (Kd.R_mono (ok' := fun k_ => some k_ ≠ (.slice (some ad221) y212.length co43 : Value).ownBlock ∧ some k_ ≠ (.slice (some ad235) x11_2.length co60 : Value).ownBlock) (Kd.R_keptB (HO_12.out) hkp (fun k_ hk_ hs_ => (hk_.2) hs_)) (fun k_ hk_ => ⟨hk_.1.1, hk_.1.2⟩)); have n3_ := Aside0.mk (hb); clear HO_10; clear HO_11; clear HO_12; clear HB; have HO_10 := n0_; have HO_11 := n1_; have HO_12 := n2_; have HB := n3_; clear n0_ n1_ n2_ n3_; (try clear hb); (try clear hkp); (try clear hy0); have p74 : 0 ≤ (x15_2 : Int) := of_decide_eq_true (by first | (with_reducible assumption) | assumption); have q74 : (x15_2 : Int) < ((x12_2.length : Int) : Int) := of_decide_eq_true (by first | (with_reducible assumption) | assumption); obtain ⟨go74, co74, eo74, gb74, gl74, cl74, HG74⟩ := Kd.R_form HO_12.out (by omega); (first | cases eo74 | (injection eo74 with ea_ en_ ec_; (first | subst ea_ | (injection ea_ with ea_; subst ea_)); subst ec_; clear en_)); have GB74 := Aside0.mk gb74; have GG74 := Aside0.mk HG74; clear gb74 gl74 HG74; obtain ⟨hx74_0, hf74_0⟩ := Kd.R_celln 0 HO_12.out (x15_2 : Int) p74 q74; replace p74 := eq_true p74; replace q74 := eq_true q74; obtain ⟨hy77_, hz77_⟩ := Kd.R_celln 0 HO_12.out (x15_2 : Int) (of_decide_eq_true (by first | (with_reducible assumption) | assumption)) (of_decide_eq_true (by first | (with_reducible assumption) | assumption)); have HP77 := Kd.R_putg HO_12.out (x15_2 : Int) ((IntKind.u64.wrap (x17_57 - 1)) % 4294967296)) | ((with_reducible refine gate_store (t := 63) (p := 165) rfl ?_); refine store_event (t := 63) (p := 165) (v := ?vo_w78) (w1 := (w76.setCell ⟨go74, (x15_2 : Int).toNat, none⟩ (.int .u32 ((IntKind.u64.wrap (x17_57 - 1)) % 4294967296)))) ?hg ?ho ?hn ?hr ?_; (case ho => rfl); (case hg => rfl); (case hn => rfl); (case hr => first | (go_simp; done) | (go_simp; rfl)); intro w78 hw; have hg : w76.grownBy w78 (some go74) := (by rw [hw]; exact HP77.2); have hp_ : Kd.R (Kd.int .u32) 63 w78 w.heap.size (fun k_ => some k_ ≠ (.slice (some ad221) y212.length co43 : Value).ownBlock ∧ some k_ ≠ (.slice (some ad235) x11_2.length co60 : Value).ownBlock) (.slice (some ⟨go74, 0, none⟩) x12_2.length co49) y241 := (by rw [hw, Ny241.out]; exact HP77.1); clear HP77; have n0_ := Aside0.mk (Kd.R_after (v := (.slice (some ⟨go74, 0, none⟩) x12_2.length co49)) (v1 := (.slice (some ⟨go74, 0, none⟩) x12_2.length co49)) (ok := (fun k_ => some k_ ≠ (.slice (some ad235) x11_2.length co60 : Value).ownBlock)) (by (with_reducible repeat (first | apply Kd.R_alloc | apply Kd.R_drewN | apply Kd.R_drew)); exact HO_10.out) hg (.inl rfl)); have n1_ := Aside0.mk (Kd.R_after (v := (.slice (some ⟨go74, 0, none⟩) x12_2.length co49)) (v1 := (.slice (some ⟨go74, 0, none⟩) x12_2.length co49)) (ok := (fun k_ => some k_ ≠ (.slice (some ad221) y212.length co43 : Value).ownBlock)) (by (with_reducible repeat (first | apply Kd.R_alloc | apply Kd.R_drewN | apply Kd.R_drew)); exact HO_11.out) hg (.inl rfl)); have n2_ := Aside0.mk (hp_); have n3_ := Aside0.mk ((by rw [hw]; exact below_set (HB.out) GB74.out : Below w.heap.size w w78)); clear HO_10; clear HO_11; clear HO_12; clear HB; have HO_10 := n0_; have HO_11 := n1_; have HO_12 := n2_; have HB := n3_; clear n0_ n1_ n2_ n3_; clear hg hw hp_))
                                                          (try simp only [← hl12_2])
                                                          go_roundg kj57
                                                          case measure => have := HJ2.out; have := HK2.out; have := HJ57.out; omega
                                                          case rel => exact ⟨(t240), (y241), (wrap64 (x15_2 - 1)), (by first | rfl | (simp; done) | (simp [*]; done)), H', ⟨by have := HJ2.out; have := HK2.out; have := HJ57.out; omega⟩, ⟨by (try simp only [hl12_2]); (with_reducible repeat (first | apply Kd.R_alloc | apply Kd.R_drewN | apply Kd.R_drew)); exact HO_10.out⟩, ⟨by (try simp only [hl12_2]); (with_reducible repeat (first | apply Kd.R_alloc | apply Kd.R_drewN | apply Kd.R_drew)); exact HO_11.out⟩, ⟨by (try simp only [hl12_2]); (with_reducible repeat (first | apply Kd.R_alloc | apply Kd.R_drewN | apply Kd.R_drew)); exact HO_12.out⟩, ⟨by repeat (first | (with_reducible first | exact HB.out | apply below_alloc | apply pw_below_drewN | apply below_drew1) | exact HB.out)⟩⟩
                                                        · rw [if_neg c73] at H
                                                          exact absurd H (by simp)
                                                      · rw [if_neg c72] at H
                                                        exact absurd H (by simp)
                                                    · replace c70 := Bool.eq_false_iff.mpr c70
                                                      subst c70
                                                      have H1 : (if 0 ≤ x15_2 then (if x15_2 < (x12_2.length : Int) then (bignat_DivMod.l0 kj57 t208 y212 t239 (x12_2.set (x15_2 : Int).toNat ((x17_57) % 4294967296)) (IntKind.u64.wrap (rd y212 (ji35))) (IntKind.u64.wrap (rd y212 (ji38))) (wrap64 (x15_2 - 1))) else (none)) else (none)) = some (r1, r2, r3) := by rw [if_neg (show ¬ (false = true) by decide)] at H; exact H
                                                      clear H
                                                      have H := H1
                                                      clear H1
                                                      by_cases c79 : 0 ≤ x15_2
                                                      · rw [if_pos c79] at H
                                                        have c79b0 : decide (0 ≤ x15_2) = true := decide_eq_true c79
                                                        clear c79
                                                        by_cases c80 : x15_2 < (x12_2.length : Int)
                                                        · rw [if_pos c80] at H
                                                          have c80b0 : decide (x15_2 < (x12_2.length : Int)) = true := decide_eq_true c80
                                                          clear c80
                                                          obtain ⟨y242, hy242⟩ : ∃ y_ : List Int, y_ = (x12_2.set (x15_2 : Int).toNat ((x17_57) % 4294967296)) := ⟨_, rfl⟩
                                                          replace H : (bignat_DivMod.l0 kj57 t208 y212 t239 y242 (IntKind.u64.wrap (rd y212 (ji35))) (IntKind.u64.wrap (rd y212 (ji38))) (wrap64 (x15_2 - 1))) = some (r1, r2, r3) := by first | (rw [hy242]; with_reducible exact H) | (have H2_ := (Option.bind_some _ _).symm.trans H; rw [hy242]; with_reducible exact H2_) | (have H2_ := (Option.bind_some _ _).symm.trans H; with_reducible exact H2_) | with_reducible exact H | (rw [hy242]; exact H) | exact H
                                                          have Ny242 := Aside0.mk hy242
                                                          clear hy242
                                                          have H' := Aside0.mk H
                                                          clear H
                                                          go_wp2_with (first | ((with_reducible refine gate_callee (f := 81) rfl ?_); refine goesL_ (some 154) rfl rfl Tryd.func81 (by kernel_rfl) rfl #[.slice (some ad235) x11_2.length co60, .slice (some ad221) y212.length co43, .int .i64 x15_2, .int .u64 x17_57] rfl (by (try simp only [List.map_toArray, List.map_cons, List.map_nil]); first | done | rfl | (simp only [List.length_drop, List.length_take]; rfl)) ?_; (with_reducible refine (bignat_reduce.calls kj57 (fun k_ => some k_ = (.slice (some ad235) x11_2.length co60 : Value).ownBlock) (.slice (some ad235) x11_2.length co60) x11_2 _ _ y212 x15_2 x17_57 false t239 w _ ?side1 ?side2 ?side3 ?side4 A69.out).mono ?_); (case side1 => repeat (first | (with_reducible first | exact HB.out | apply below_alloc | apply pw_below_drewN | apply below_drew1) | exact HB.out)); (case side2 => exact Kd.R_tight rfl HO_11.out); (case side3 => exact Kd.C_kept_own (HO_10.out) (fun k_ hk_ hs_ => (hk_.1) hs_)); (case side4 => exact (Kd.R_reads' HO_10.out).2.1); rintro e w82 ⟨rfl, hy0, hb, hkp⟩; refine ⟨_, rfl, ?_⟩; have n0_ := Aside0.mk (Kd.R_mono (ok' := fun k_ => some k_ ≠ (.slice (some ad235) x11_2.length co60 : Value).ownBlock ∧ some k_ ≠ (.slice Ao49 x12_2.length co49 : Value).ownBlock) (Kd.R_keptB (HO_10.out) hkp (fun k_ hk_ hs_ => (hk_.1) hs_)) (fun k_ hk_ => ⟨hk_.1.1, hk_.1.2⟩)); have n1_ := Aside0.mk (Kd.R_reok rfl hy0 (fun k_ e_ => HO_11.out.1 k_ e_)); have n2_ := Aside0.mk (Kd.R_mono (ok' := fun k_ => some k_ ≠ (.slice (some ad221) y212.length co43 : Value).ownBlock ∧ some k_ ≠ (.slice (some ad235) x11_2.length co60 : Value).ownBlock) (Kd.R_keptB (HO_12.out) hkp (fun k_ hk_ hs_ => (hk_.2) hs_)) (fun k_ hk_ => ⟨hk_.1.1, hk_.1.2⟩)); have n3_ := Aside0.mk (hb); clear HO_10; clear HO_11; clear HO_12; clear HB; have HO_10 := n0_; have HO_11 := n1_; have HO_12 := n2_; have HB := n3_; clear n0_ n1_ n2_ n3_; (try clear hb); (try clear hkp); (try clear hy0); have p81 : 0 ≤ (x15_2 : Int) := of_decide_eq_true (by first | (with_reducible assumption) | assumption); have q81 : (x15_2 : Int) < ((x12_2.length : Int) : Int) := of_decide_eq_true (by first | (with_reducible assumption) | assumption); obtain ⟨go81, co81, eo81, gb81, gl81, cl81, HG81⟩ := Kd.R_form HO_12.out (by omega); (first | cases eo81 | (injection eo81 with ea_ en_ ec_; (first | subst ea_ | (injection ea_ with ea_; subst ea_)); subst ec_; clear en_)); have GB81 := Aside0.mk gb81; have GG81 := Aside0.mk HG81; clear gb81 gl81 HG81; obtain ⟨hx81_0, hf81_0⟩ := Kd.R_celln 0 HO_12.out (x15_2 : Int) p81 q81; replace p81 := eq_true p81; replace q81 := eq_true q81; obtain ⟨hy83_, hz83_⟩ := Kd.R_celln 0 HO_12.out (x15_2 : Int) (of_decide_eq_true (by first | (with_reducible assumption) | assumption)) (of_decide_eq_true (by first | (with_reducible assumption) | assumption)); have HP83 := Kd.R_putg HO_12.out (x15_2 : Int) ((x17_57) % 4294967296)) | ((with_reducible refine gate_store (t := 63) (p := 165) rfl ?_); refine store_event (t := 63) (p := 165) (v := ?vo_w84) (w1 := (w82.setCell ⟨go81, (x15_2 : Int).toNat, none⟩ (.int .u32 ((x17_57) % 4294967296)))) ?hg ?ho ?hn ?hr ?_; (case ho => rfl); (case hg => rfl); (case hn => rfl); (case hr => first | (go_simp; done) | (go_simp; rfl)); intro w84 hw; have hg : w82.grownBy w84 (some go81) := (by rw [hw]; exact HP83.2); have hp_ : Kd.R (Kd.int .u32) 63 w84 w.heap.size (fun k_ => some k_ ≠ (.slice (some ad221) y212.length co43 : Value).ownBlock ∧ some k_ ≠ (.slice (some ad235) x11_2.length co60 : Value).ownBlock) (.slice (some ⟨go81, 0, none⟩) x12_2.length co49) y242 := (by rw [hw, Ny242.out]; exact HP83.1); clear HP83; have n0_ := Aside0.mk (Kd.R_after (v := (.slice (some ⟨go81, 0, none⟩) x12_2.length co49)) (v1 := (.slice (some ⟨go81, 0, none⟩) x12_2.length co49)) (ok := (fun k_ => some k_ ≠ (.slice (some ad235) x11_2.length co60 : Value).ownBlock)) (by (with_reducible repeat (first | apply Kd.R_alloc | apply Kd.R_drewN | apply Kd.R_drew)); exact HO_10.out) hg (.inl rfl)); have n1_ := Aside0.mk (Kd.R_after (v := (.slice (some ⟨go81, 0, none⟩) x12_2.length co49)) (v1 := (.slice (some ⟨go81, 0, none⟩) x12_2.length co49)) (ok := (fun k_ => some k_ ≠ (.slice (some ad221) y212.length co43 : Value).ownBlock)) (by (with_reducible repeat (first | apply Kd.R_alloc | apply Kd.R_drewN | apply Kd.R_drew)); exact HO_11.out) hg (.inl rfl)); have n2_ := Aside0.mk (hp_); have n3_ := Aside0.mk ((by rw [hw]; exact below_set (HB.out) GB81.out : Below w.heap.size w w84)); clear HO_10; clear HO_11; clear HO_12; clear HB; have HO_10 := n0_; have HO_11 := n1_; have HO_12 := n2_; have HB := n3_; clear n0_ n1_ n2_ n3_; clear hg hw hp_))
                                                          (try simp only [← hl12_2])
                                                          go_roundg kj57
                                                          case measure => have := HJ2.out; have := HK2.out; have := HJ57.out; omega
                                                          case rel => exact ⟨(t239), (y242), (wrap64 (x15_2 - 1)), (by first | rfl | (simp; done) | (simp [*]; done)), H', ⟨by have := HJ2.out; have := HK2.out; have := HJ57.out; omega⟩, ⟨by (try simp only [hl12_2]); (with_reducible repeat (first | apply Kd.R_alloc | apply Kd.R_drewN | apply Kd.R_drew)); exact HO_10.out⟩, ⟨by (try simp only [hl12_2]); (with_reducible repeat (first | apply Kd.R_alloc | apply Kd.R_drewN | apply Kd.R_drew)); exact HO_11.out⟩, ⟨by (try simp only [hl12_2]); (with_reducible repeat (first | apply Kd.R_alloc | apply Kd.R_drewN | apply Kd.R_drew)); exact HO_12.out⟩, ⟨by repeat (first | (with_reducible first | exact HB.out | apply below_alloc | apply pw_below_drewN | apply below_drew1) | exact HB.out)⟩⟩
                                                        · rw [if_neg c80] at H
                                                          exact absurd H (by simp)
                                                      · rw [if_neg c79] at H
                                                        exact absurd H (by simp)
                                            · rw [if_neg c56] at H
                                              exact absurd H (by simp)
                                          · rw [if_neg c55] at H
                                            exact absurd H (by simp)
                                        · rw [if_neg c53] at H
                                          exact absurd H (by simp)
                                      · rw [if_neg c52] at H
                                        exact absurd H (by simp)
                                    · rw [if_neg c50] at H
                                      have c50b0 : decide (0 ≤ x15_2) = false := decide_eq_false c50
                                      clear c50
                                      replace H := Option.bind_eq_some_iff.mp H
                                      obtain ⟨t223, A850, H⟩ := H
                                      replace H : (if 0 ≤ (y212.length : Int) then (if (y212.length : Int) ≤ (x11_2.length : Int) then ((bignat_right.f k2 (x11_2.take ((y212.length : Int) : Int).toNat) t208).bind fun t229 => ((bignat_trimmed.f k2 t229).bind fun t232 => (some (t223, t232, 0)))) else (none)) else (none)) = some (r1, r2, r3) := H
                                      have A85 := Aside0.mk A850
                                      clear A850
                                      by_cases c86 : 0 ≤ (y212.length : Int)
                                      · rw [if_pos c86] at H
                                        have c86b0 := eq_true c86
                                        have c86b1 : decide (0 ≤ (y212.length : Int)) = true := decide_eq_true c86
                                        clear c86
                                        by_cases c87 : (y212.length : Int) ≤ (x11_2.length : Int)
                                        · rw [if_pos c87] at H
                                          have c87b0 := eq_true c87
                                          have c87b1 : decide ((y212.length : Int) ≤ (x11_2.length : Int)) = true := decide_eq_true c87
                                          clear c87
                                          obtain ⟨y226, hy226⟩ : ∃ y_ : List Int, y_ = (x11_2.take ((y212.length : Int) : Int).toNat) := ⟨_, rfl⟩
                                          replace H : ((bignat_right.f k2 y226 t208).bind fun t229 => ((bignat_trimmed.f k2 t229).bind fun t232 => (some (t223, t232, 0)))) = some (r1, r2, r3) := by first | (rw [hy226]; with_reducible exact H) | (have H2_ := (Option.bind_some _ _).symm.trans H; rw [hy226]; with_reducible exact H2_) | (have H2_ := (Option.bind_some _ _).symm.trans H; with_reducible exact H2_) | with_reducible exact H | (rw [hy226]; exact H) | exact H
                                          have Ny226 := Aside0.mk hy226
                                          clear hy226
                                          replace H := Option.bind_eq_some_iff.mp H
                                          obtain ⟨t229, A880, H⟩ := H
                                          replace H : ((bignat_trimmed.f k2 t229).bind fun t232 => (some (t223, t232, 0))) = some (r1, r2, r3) := H
                                          have A88 := Aside0.mk A880
                                          clear A880
                                          replace H := Option.bind_eq_some_iff.mp H
                                          obtain ⟨t232, A890, H⟩ := H
                                          replace H : (some (t223, t232, 0)) = some (r1, r2, r3) := H
                                          have A89 := Aside0.mk A890
                                          clear A890
                                          simp only [Option.some.injEq, Prod.mk.injEq] at H
                                          obtain ⟨rfl, rfl, rfl⟩ := H
                                          try go_wp2
                                          have n0_ := Aside0.mk (Kd.R_drew HO_10.out)
                                          have n1_ := Aside0.mk (Kd.R_drew HO_11.out)
                                          have n2_ := Aside0.mk (Kd.R_drew HO_12.out)
                                          have n3_ := Aside0.mk (below_drew1 HB.out)
                                          clear HO_10
                                          clear HO_11
                                          clear HO_12
                                          clear HB
                                          have HO_10 := n0_
                                          have HO_11 := n1_
                                          have HO_12 := n2_
                                          have HB := n3_
                                          clear n0_ n1_ n2_ n3_
                                          obtain ⟨Ao91, co91, eo91⟩ := Kd.R_slice HO_11.out
                                          (first | subst eo91 | (injection eo91 with f1_ f2_ f3_; have f4_ := f1_.symm; have f5_ := f3_.symm; clear f1_ f2_ f3_; subst f4_; subst f5_))
                                          have q92 : ((y212.length : Int) : Int) ≤ ((x11_2.length : Int) : Int) := of_decide_eq_true (by first | (with_reducible assumption) | assumption)
                                          obtain ⟨i092, hi092, _, hsz92, _⟩ := info_parts info63
                                          have hcut92 := cut_to (P := Tryd.prog) 22 63 .i64 Tryd.underlying22 hi092 Ao91 x11_2.length co91 (y212.length : Int) (of_decide_eq_true (by first | (with_reducible assumption) | assumption)) q92 (Kd.R_reads' HO_11.out).2.1
                                          have hr92 := Kd.R_take (m := ((y212.length : Int) : Int).toNat) HO_11.out (by omega)
                                          have hy92 : y226.length = ((y212.length : Int) : Int).toNat := (by rw [Ny226.out, List.length_take]; omega)
                                          rw [← Ny226.out] at hr92
                                          rw [← hy92] at hr92 hcut92
                                          clear hy92 hi092 hsz92 HO_11
                                          have HO228 := Aside0.mk hr92
                                          clear hr92
                                          replace q92 := eq_true q92
                                          refine start_ (n := 12) (S := fun w' => True) (ds := []) #[false, false, false, false, false, false, false, false, false, false, false, false] (by kernel_rfl) rfl rfl trivial (fun hHeld => ?_); refine with_tabW bignat_DivMod.tab25 bignat_DivMod.bits25 (fun HT_ HW_ => ?_)
                                          generalize wr.drew = w90 at HO_10 HO_12 HB HO228 hHeld ⊢
                                          refine pure_ (i := 0) (N := some 166) (v := ?_) (a' := ?_) #[true, false, false, false, false, false, false, false, false, false, false, false] rfl rfl (any_of HT_.out (by kernel_rfl)) (fun _ _ _ h => h) (Or.inl ⟨by rfl, ?_⟩) ?_ ?_
                                          rotate_left
                                          · intro w'
                                            go_simp
                                            with_reducible rfl
                                          rotate_left
                                          · simp only [Act.put, List.setIfInBounds_toArray, List.set_cons_zero, List.set_cons_succ, i64_w, i32_w]
                                            rfl
                                          refine pure_ (i := 2) (N := some 168) (v := ?_) (a' := ?_) #[true, false, true, false, false, false, false, false, false, false, false, false] rfl rfl (any_of HT_.out (by kernel_rfl)) (fun _ _ _ h => h) (Or.inl ⟨by rfl, ?_⟩) ?_ ?_
                                          rotate_left
                                          · intro w'
                                            go_simp
                                            with_reducible rfl
                                          rotate_left
                                          · simp only [Act.put, List.setIfInBounds_toArray, List.set_cons_zero, List.set_cons_succ, i64_w, i32_w]
                                            rfl
                                          refine pure_ (i := 3) (N := some 169) (v := ?_) (a' := ?_) #[true, false, true, true, false, false, false, false, false, false, false, false] rfl rfl (any_of HT_.out (by kernel_rfl)) (fun _ _ _ h => h) (Or.inl ⟨by rfl, ?_⟩) ?_ ?_
                                          rotate_left
                                          · intro w'
                                            go_simp
                                            with_reducible rfl
                                          rotate_left
                                          · simp only [Act.put, List.setIfInBounds_toArray, List.set_cons_zero, List.set_cons_succ, i64_w, i32_w]
                                            rfl
                                          refine pure_ (i := 4) (N := some 170) (v := ?_) (a' := ?_) #[true, false, true, true, true, false, false, false, false, false, false, false] rfl rfl (any_of HT_.out (by kernel_rfl)) (fun _ _ _ h => h) (Or.inl ⟨by rfl, ?_⟩) ?_ ?_
                                          rotate_left
                                          · intro w'
                                            go_simp
                                            with_reducible rfl
                                          rotate_left
                                          · simp only [Act.put, List.setIfInBounds_toArray, List.set_cons_zero, List.set_cons_succ, i64_w, i32_w]
                                            rfl
                                          refine pure_ (i := 5) (N := some 171) (v := ?_) (a' := ?_) #[true, false, true, true, true, true, false, false, false, false, false, false] rfl rfl (any_of HT_.out (by kernel_rfl)) (fun _ _ _ h => h) (Or.inl ⟨by rfl, ?_⟩) ?_ ?_
                                          rotate_left
                                          · intro w'
                                            go_simp
                                            with_reducible rfl
                                          rotate_left
                                          · simp only [Act.put, List.setIfInBounds_toArray, List.set_cons_zero, List.set_cons_succ, i64_w, i32_w]
                                            rfl
                                          refine pure_ (i := 6) (N := some 172) (v := ?_) (a' := ?_) #[true, false, true, true, true, true, true, false, false, false, false, false] rfl rfl (any_of HT_.out (by kernel_rfl)) (fun _ _ _ h => h) (Or.inl ⟨by rfl, ?_⟩) ?_ ?_
                                          rotate_left
                                          · intro w'
                                            go_simp
                                            with_reducible rfl
                                          rotate_left
                                          · simp only [Act.put, List.setIfInBounds_toArray, List.set_cons_zero, List.set_cons_succ, i64_w, i32_w]
                                            rfl
                                          refine one_ (i := 1) (N := some 167) #[true, true, true, true, true, true, true, false, false, false, false, false] rfl rfl (one_of HT_.out (by kernel_rfl)) (by decide) (fun K hK => ?_)
                                          refine goes_ Tryd.func76 (by kernel_rfl) rfl #[.slice Ao49 x12_2.length co49] (by rfl) rfl rfl (by (try simp only [List.map_toArray, List.map_cons, List.map_nil]); first | done | rfl | (simp only [List.length_drop, List.length_take]; rfl)) ?_
                                          with_reducible refine (bignat_trimmed.calls k2 (fun k_ => some k_ = (.slice Ao49 x12_2.length co49 : Value).ownBlock) (.slice Ao49 x12_2.length co49) x12_2 t223 w _ ?side1 ?side2 A85.out).mono ?_
                                          (case side1 => repeat (first | (with_reducible first | exact HB.out | apply below_alloc | apply pw_below_drewN | apply below_drew1) | exact HB.out))
                                          (case side2 => exact Kd.R_tight rfl HO_12.out)
                                          rintro e w93 ⟨v224, rfl, ho0, hb, hkp⟩
                                          refine ⟨_, rfl, ?_⟩
                                          have n0_ := Aside0.mk (Kd.R_mono (ok' := fun k_ => some k_ ≠ (.slice Ao91 y226.length co91 : Value).ownBlock ∧ some k_ ≠ (v224 : Value).ownBlock) (Kd.R_keptB (HO_10.out) hkp (fun k_ hk_ hs_ => (hk_.2) hs_)) (fun k_ hk_ => ⟨(fun e9_ => hk_.1.1 (e9_.trans (by cases Ao91 <;> rfl))), fun e_ => Or.elim (ho0.1 k_ e_.symm) (fun hs_ => hk_.2.1 hs_) (fun hn_ => Nat.not_le.2 hk_.2.2 hn_)⟩))
                                          have n1_ := Aside0.mk (Kd.R_mono (ok' := fun k_ => some k_ ≠ (.slice (some ad221) y212.length co43 : Value).ownBlock ∧ some k_ ≠ (v224 : Value).ownBlock) (Kd.R_keptB (HO228.out) hkp (fun k_ hk_ hs_ => (hk_.2) hs_)) (fun k_ hk_ => ⟨hk_.1.1, fun e_ => Or.elim (ho0.1 k_ e_.symm) (fun hs_ => hk_.2.1 hs_) (fun hn_ => Nat.not_le.2 hk_.2.2 hn_)⟩))
                                          have n2_ := Aside0.mk (Kd.R_mono (ok' := fun k_ => some k_ ≠ (.slice (some ad221) y212.length co43 : Value).ownBlock ∧ some k_ ≠ (.slice Ao91 y226.length co91 : Value).ownBlock) ho0 (fun k_ hk_ => ⟨Or.elim hk_ (fun hs_ => fun e_ => (((HO_10.out).1 k_ e_.symm).2) hs_) (fun hn_ => (Kd.fresh' (Kd.R_lt (by (with_reducible repeat (first | apply Kd.R_alloc | apply Kd.R_drewN | apply Kd.R_drew)); exact HO_10.out)) k_ hn_)), Or.elim hk_ (fun hs_ => fun e_ => (((HO228.out).1 k_ e_.symm).2) hs_) (fun hn_ => (Kd.fresh' (Kd.R_lt (by (with_reducible repeat (first | apply Kd.R_alloc | apply Kd.R_drewN | apply Kd.R_drew)); exact HO228.out)) k_ hn_))⟩))
                                          have n3_ := Aside0.mk (hb)
                                          clear HO_10
                                          clear HO228
                                          clear HB
                                          clear HO_12
                                          have HO_10 := n0_
                                          have HO228 := n1_
                                          have HO225 := n2_
                                          have HB := n3_
                                          clear n0_ n1_ n2_ n3_
                                          (try clear hb)
                                          (try clear hkp)
                                          (try clear ho0)
                                          refine hK.out _ _ trivial (fun hHeld => ?_)
                                          clear hK K
                                          refine norm_ (a' := ?_) ?_ ?_
                                          rotate_left
                                          · show Act.put _ (some 167) _ = _
                                            simp only [Act.put, List.setIfInBounds_toArray, List.set_cons_zero, List.set_cons_succ, i64_w, i32_w]
                                            rfl
                                          refine one_ (i := 7) (N := some 173) #[true, true, true, true, true, true, true, true, false, false, false, false] rfl rfl (one_of HT_.out (by kernel_rfl)) (by decide) (fun K hK => ?_)
                                          refine goes_ Tryd.func83 (by kernel_rfl) rfl #[.slice Ao91 y226.length co91, .int .i64 t208] (by rfl) rfl rfl (by (try simp only [List.map_toArray, List.map_cons, List.map_nil]); first | done | rfl | (simp only [List.length_drop, List.length_take]; rfl)) ?_
                                          with_reducible refine (bignat_right.calls k2 _ _ y226 t208 t229 _ ?side1 ?side2 A88.out).mono ?_
                                          (case side1 => repeat (first | exact (Kd.R_reads' HO228.out).2.2 | (with_reducible refine Kd.C_alloc ?_ _) | (with_reducible refine Kd.C_drewN ?_ _) | (with_reducible refine Kd.C_drew ?_)))
                                          (case side2 => exact (Kd.R_reads' HO228.out).2.1)
                                          rintro e w94 ⟨v230, rfl, ho0, hb⟩
                                          refine ⟨_, rfl, ?_⟩
                                          have n0_ := Aside0.mk (Kd.R_elder' (by (with_reducible repeat (first | apply Kd.R_alloc | apply Kd.R_drewN | apply Kd.R_drew)); exact HO_10.out) (Kd.R_base ho0) hb)
                                          have n1_ := Aside0.mk (Kd.R_elder' (by (with_reducible repeat (first | apply Kd.R_alloc | apply Kd.R_drewN | apply Kd.R_drew)); exact HO228.out) (Kd.R_base ho0) hb)
                                          have n2_ := Aside0.mk (Kd.R_elder' (by (with_reducible repeat (first | apply Kd.R_alloc | apply Kd.R_drewN | apply Kd.R_drew)); exact HO225.out) (Kd.R_base ho0) hb)
                                          have n3_ := Aside0.mk (Kd.R_lower (Kd.R_new' (Kd.R_new' (Kd.R_new' ho0 (Kd.R_lt (by (with_reducible repeat (first | apply Kd.R_alloc | apply Kd.R_drewN | apply Kd.R_drew)); exact HO_10.out))) (Kd.R_lt (by (with_reducible repeat (first | apply Kd.R_alloc | apply Kd.R_drewN | apply Kd.R_drew)); exact HO228.out))) (Kd.R_lt (by (with_reducible repeat (first | apply Kd.R_alloc | apply Kd.R_drewN | apply Kd.R_drew)); exact HO225.out))) (below_size (by repeat (first | (with_reducible first | exact HB.out | apply below_alloc | apply pw_below_drewN | apply below_drew1) | exact HB.out))))
                                          have n4_ := Aside0.mk (below_step (by repeat (first | (with_reducible first | exact HB.out | apply below_alloc | apply pw_below_drewN | apply below_drew1) | exact HB.out)) hb)
                                          clear HO_10
                                          clear HO228
                                          clear HO225
                                          clear HB
                                          have HO_10 := n0_
                                          have HO228 := n1_
                                          have HO225 := n2_
                                          have HO231 := n3_
                                          have HB := n4_
                                          clear n0_ n1_ n2_ n3_ n4_
                                          (try clear hb)
                                          (try clear hb2)
                                          (try clear hk)
                                          (try clear hi)
                                          (try clear ho0)
                                          obtain ⟨Ao95, co95, eo95⟩ := Kd.R_slice HO231.out
                                          (first | subst eo95 | (injection eo95 with f1_ f2_ f3_; have f4_ := f1_.symm; have f5_ := f3_.symm; clear f1_ f2_ f3_; subst f4_; subst f5_))
                                          refine hK.out _ _ trivial (fun hHeld => ?_)
                                          clear hK K
                                          refine norm_ (a' := ?_) ?_ ?_
                                          rotate_left
                                          · show Act.put _ (some 173) _ = _
                                            simp only [Act.put, List.setIfInBounds_toArray, List.set_cons_zero, List.set_cons_succ, i64_w, i32_w]
                                            rfl
                                          refine one_ (i := 8) (N := some 174) #[true, true, true, true, true, true, true, true, true, false, false, false] rfl rfl (one_of HT_.out (by kernel_rfl)) (by decide) (fun K hK => ?_)
                                          refine goes_ Tryd.func76 (by kernel_rfl) rfl #[.slice Ao95 t229.length co95] (by rfl) rfl rfl (by (try simp only [List.map_toArray, List.map_cons, List.map_nil]); first | done | rfl | (simp only [List.length_drop, List.length_take]; rfl)) ?_
                                          with_reducible refine (bignat_trimmed.calls k2 (fun k_ => some k_ = (.slice Ao95 t229.length co95 : Value).ownBlock) (.slice Ao95 t229.length co95) t229 t232 w _ ?side1 ?side2 A89.out).mono ?_
                                          (case side1 => repeat (first | (with_reducible first | exact HB.out | apply below_alloc | apply pw_below_drewN | apply below_drew1) | exact HB.out))
                                          (case side2 => exact Kd.R_tight rfl HO231.out)
                                          rintro e w96 ⟨v233, rfl, ho0, hb, hkp⟩
                                          refine ⟨_, rfl, ?_⟩
                                          have n0_ := Aside0.mk (Kd.R_mono (ok' := fun k_ => some k_ ≠ (.slice Ao91 y226.length co91 : Value).ownBlock ∧ some k_ ≠ (v224 : Value).ownBlock ∧ some k_ ≠ (v233 : Value).ownBlock) (Kd.R_keptB (HO_10.out) hkp (fun k_ hk_ hs_ => (hk_.2) hs_)) (fun k_ hk_ => ⟨hk_.1.1.1, hk_.1.1.2, fun e_ => Or.elim (ho0.1 k_ e_.symm) (fun hs_ => hk_.2.1 hs_) (fun hn_ => Nat.not_le.2 hk_.2.2 hn_)⟩))
                                          have n1_ := Aside0.mk (Kd.R_mono (ok' := fun k_ => some k_ ≠ (.slice (some ad221) y212.length co43 : Value).ownBlock ∧ some k_ ≠ (v224 : Value).ownBlock ∧ some k_ ≠ (v233 : Value).ownBlock) (Kd.R_keptB (HO228.out) hkp (fun k_ hk_ hs_ => (hk_.2) hs_)) (fun k_ hk_ => ⟨hk_.1.1.1, hk_.1.1.2, fun e_ => Or.elim (ho0.1 k_ e_.symm) (fun hs_ => hk_.2.1 hs_) (fun hn_ => Nat.not_le.2 hk_.2.2 hn_)⟩))
                                          have n2_ := Aside0.mk (Kd.R_mono (ok' := fun k_ => some k_ ≠ (.slice (some ad221) y212.length co43 : Value).ownBlock ∧ some k_ ≠ (.slice Ao91 y226.length co91 : Value).ownBlock ∧ some k_ ≠ (v233 : Value).ownBlock) (Kd.R_keptB (HO225.out) hkp (fun k_ hk_ hs_ => (hk_.2) hs_)) (fun k_ hk_ => ⟨hk_.1.1.1, hk_.1.1.2, fun e_ => Or.elim (ho0.1 k_ e_.symm) (fun hs_ => hk_.2.1 hs_) (fun hn_ => Nat.not_le.2 hk_.2.2 hn_)⟩))
                                          have n3_ := Aside0.mk (Kd.R_mono (ok' := fun k_ => some k_ ≠ (.slice (some ad221) y212.length co43 : Value).ownBlock ∧ some k_ ≠ (.slice Ao91 y226.length co91 : Value).ownBlock ∧ some k_ ≠ (v224 : Value).ownBlock) ho0 (fun k_ hk_ => ⟨Or.elim hk_ (fun hs_ => fun e_ => (((HO_10.out).1 k_ e_.symm).2) hs_) (fun hn_ => (Kd.fresh' (Kd.R_lt (by (with_reducible repeat (first | apply Kd.R_alloc | apply Kd.R_drewN | apply Kd.R_drew)); exact HO_10.out)) k_ hn_)), Or.elim hk_ (fun hs_ => fun e_ => (((HO228.out).1 k_ e_.symm).2) hs_) (fun hn_ => (Kd.fresh' (Kd.R_lt (by (with_reducible repeat (first | apply Kd.R_alloc | apply Kd.R_drewN | apply Kd.R_drew)); exact HO228.out)) k_ hn_)), Or.elim hk_ (fun hs_ => fun e_ => (((HO225.out).1 k_ e_.symm).2) hs_) (fun hn_ => (Kd.fresh' (Kd.R_lt (by (with_reducible repeat (first | apply Kd.R_alloc | apply Kd.R_drewN | apply Kd.R_drew)); exact HO225.out)) k_ hn_))⟩))
                                          have n4_ := Aside0.mk (hb)
                                          clear HO_10
                                          clear HO228
                                          clear HO225
                                          clear HB
                                          clear HO231
                                          have HO_10 := n0_
                                          have HO228 := n1_
                                          have HO225 := n2_
                                          have HO234 := n3_
                                          have HB := n4_
                                          clear n0_ n1_ n2_ n3_ n4_
                                          (try clear hb)
                                          (try clear hkp)
                                          (try clear ho0)
                                          refine hK.out _ _ trivial (fun hHeld => ?_)
                                          clear hK K
                                          refine norm_ (a' := ?_) ?_ ?_
                                          rotate_left
                                          · show Act.put _ (some 174) _ = _
                                            simp only [Act.put, List.setIfInBounds_toArray, List.set_cons_zero, List.set_cons_succ, i64_w, i32_w]
                                            rfl
                                          refine pure_ (i := 9) (N := some 4) (v := ?_) (a' := ?_) #[true, true, true, true, true, true, true, true, true, true, false, false] rfl rfl (any_of HT_.out (by kernel_rfl)) (fun _ _ _ h => h) (Or.inl ⟨by rfl, ?_⟩) ?_ ?_
                                          rotate_left
                                          · intro w'
                                            go_simp
                                            with_reducible rfl
                                          rotate_left
                                          · simp only [Act.put, List.setIfInBounds_toArray, List.set_cons_zero, List.set_cons_succ, i64_w, i32_w]
                                            rfl
                                          refine pure_ (i := 10) (N := some 5) (v := ?_) (a' := ?_) #[true, true, true, true, true, true, true, true, true, true, true, false] rfl rfl (any_of HT_.out (by kernel_rfl)) (fun _ _ _ h => h) (Or.inl ⟨by rfl, ?_⟩) ?_ ?_
                                          rotate_left
                                          · intro w'
                                            go_simp
                                            with_reducible rfl
                                          rotate_left
                                          · simp only [Act.put, List.setIfInBounds_toArray, List.set_cons_zero, List.set_cons_succ, i64_w, i32_w]
                                            rfl
                                          refine pure_ (i := 11) (N := some 6) (v := ?_) (a' := ?_) #[true, true, true, true, true, true, true, true, true, true, true, true] rfl rfl (any_of HT_.out (by kernel_rfl)) (fun _ _ _ h => h) (Or.inl ⟨by rfl, ?_⟩) ?_ ?_
                                          rotate_left
                                          · intro w'
                                            go_simp
                                            with_reducible rfl
                                          rotate_left
                                          · simp only [Act.put, List.setIfInBounds_toArray, List.set_cons_zero, List.set_cons_succ, i64_w, i32_w]
                                            rfl
                                          refine done_ (done_of HT_.out (by kernel_rfl)) ?_
                                          try go_wp2
                                          go_ret3
                                          exact ⟨_, _, by first | rfl | (simp [errW_none, errW_some] <;> rfl) | (simp only [← hji24, ← hji32, ← hji35, ← hji38]; first | rfl | (simp [errW_none, errW_some] <;> rfl)) | (simp [*, errW_none, errW_some] <;> rfl), by (with_reducible repeat (first | apply Kd.R_alloc | apply Kd.R_drewN | apply Kd.R_drew)); exact Kd.R_mono HO225.out (fun _ hk => hk.2.2), by (with_reducible repeat (first | apply Kd.R_alloc | apply Kd.R_drewN | apply Kd.R_drew)); exact Kd.R_mono HO234.out (fun _ hk => hk.2.2), by repeat (first | (with_reducible first | exact HB.out | apply below_alloc | apply pw_below_drewN | apply below_drew1) | exact HB.out)⟩
                                        · rw [if_neg c87] at H
                                          exact absurd H (by simp)
                                      · rw [if_neg c86] at H
                                        exact absurd H (by simp)
                              · rw [if_neg c40] at H
                                exact absurd H (by simp)
                            · rw [if_neg c39] at H
                              exact absurd H (by simp)
                          · rw [if_neg c37] at H
                            exact absurd H (by simp)
                        · rw [if_neg c36] at H
                          exact absurd H (by simp)
                      · rw [if_neg c34] at H
                        exact absurd H (by simp)
                    · rw [if_neg c33] at H
                      exact absurd H (by simp)
                  · rw [if_neg c30] at H
                    exact absurd H (by simp)
                · rw [if_neg c29] at H
                  exact absurd H (by simp)
              · rw [if_neg c26] at H
                exact absurd H (by simp)
            · rw [if_neg c25] at H
              exact absurd H (by simp)

end Go.Proofs.YtoakfjcejamoeaaDoor.B
