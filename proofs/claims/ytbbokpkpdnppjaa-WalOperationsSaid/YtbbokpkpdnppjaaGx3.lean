-- PRINTED by print.py (a twelfth state) out of the translation. Not trusted: Lean checks it.
import Derived.Test.YtbbokpkpdnppjaaU0
import Derived.Test.YtbbokpkpdnppjaaUA
import Derived.Test.YtbbokpkpdnppjaaGx0
import Derived.Test.YtbbokpkpdnppjaaGx1
import Derived.Test.YtbbokpkpdnppjaaGx2
namespace Go.Proofs.Ytbbokpkpdnppjaa.G
open Go.RowKit Go.Proofs.YtbbokpkpdnppjaaW.PrintWords Go.Proofs.YtbbokpkpdnppjaaW.PrintLast Go.Proofs.YtbbokpkpdnppjaaW.PrintMore
attribute [local go_sem] max2_int min2_int max_two min_two max_three min_three max_four min_four   -- for this text's walks alone
set_option linter.unusedVariables false
set_option linter.unusedSimpArgs false
/-! ### lineageref15_Scan: function 37 -/
mutual
def lineageref15_Scan.j0 : Nat → List Int → Int → Int → Int → Bool → Int → Int → Int → Int → Option (List Int × (List (S119)) × Int × Bool × Int × Int × (List (S73)) × Int × Int)
 | 0, _, _, _, _, _, _, _, _, _ => none
 | k + 1, x0, x3, x4, x201002, x201003, x201004, x201005, x201007, x201008 => if x4 > x3 then (lineageref15_Scan.j1 k x0 x201002 x201003 x4 1 x201007 x201008) else (lineageref15_Scan.j1 k x0 x201002 x201003 x201004 x201005 x201007 x201008)
def lineageref15_Scan.j1 : Nat → List Int → Int → Bool → Int → Int → Int → Int → Option (List Int × (List (S119)) × Int × Bool × Int × Int × (List (S73)) × Int × Int)
 | 0, _, _, _, _, _, _, _ => none
 | k + 1, x0, x201002, x201003, x201004, x201005, x201007, x201008 => lineageref15_Scan.l0 k x0 24 x201002 x201003 x201004 x201005 ([] : List (S73)) x201007 x201008
def lineageref15_Scan.l0 : Nat → List Int → Int → Int → Bool → Int → Int → List (S73) → Int → Int → Option (List Int × (List (S119)) × Int × Bool × Int × Int × (List (S73)) × Int × Int)
 | 0, _, _, _, _, _, _, _, _, _ => none
 | k + 1, x0, x6, x201002, x201003, x201004, x201005, x201006, x201007, x201008 => if (wrap64 (x6 + 16)) ≤ (x0.length : Int) then (if 0 ≤ x6 then (if x6 ≤ (wrap64 (x6 + 4)) then (if (wrap64 (x6 + 4)) ≤ (x0.length : Int) then ((lineageref15_value.f k ((x0.take ((wrap64 (x6 + 4)) : Int).toNat).drop (x6 : Int).toNat)).bind fun t206 => (if t206 > (IntKind.u64.wrap (wrap64 ((wrap64 ((x0.length : Int) - x6)) - 16))) then (some (([] : List Int), ([] : List (S119)), x201002, x201003, x201004, x201005, x201006, wrap64 ((wrap64 (x201004 + x6)) - 24), x201008)) else (if 0 ≤ (wrap64 (x6 + 16)) then (if (wrap64 (x6 + 16)) ≤ (wrap64 ((wrap64 (x6 + 16)) + (wrap64 (t206)))) then (if (wrap64 ((wrap64 (x6 + 16)) + (wrap64 (t206)))) ≤ (x0.length : Int) then ((lineageref15_Frame.f k (wrap64 ((wrap64 (x201004 + x6)) - 24)) ((x0.take ((wrap64 ((wrap64 (x6 + 16)) + (wrap64 (t206)))) : Int).toNat).drop ((wrap64 (x6 + 16)) : Int).toNat)).bind fun t212 => (if x6 ≤ (wrap64 ((wrap64 (x6 + 16)) + (wrap64 (t206)))) then ((lineageref13_Same.f k t212 ((x0.take ((wrap64 ((wrap64 (x6 + 16)) + (wrap64 (t206)))) : Int).toNat).drop (x6 : Int).toNat)).bind fun t220 => (if t220 = true then (if x201006.length < 4398046511104 then (lineageref15_Scan.l0 k x0 (wrap64 ((wrap64 (x6 + 16)) + (wrap64 (t206)))) x201002 x201003 x201004 x201005 (x201006 ++ [(⟨wrap64 ((wrap64 (x201004 + x6)) - 24), ((x0.take ((wrap64 ((wrap64 (x6 + 16)) + (wrap64 (t206)))) : Int).toNat).drop ((wrap64 (x6 + 16)) : Int).toNat)⟩ : S73)]) x201007 x201008) else (none)) else (some (([] : List Int), ([] : List (S119)), x201002, x201003, x201004, x201005, x201006, wrap64 ((wrap64 (x201004 + x6)) - 24), x201008)))) else (none))) else (none)) else (none)) else (none)))) else (none)) else (none)) else (none)) else (some (([] : List Int), ([] : List (S119)), x201002, x201003, x201004, x201005, x201006, wrap64 ((wrap64 (x201004 + x6)) - 24), x201008))
end
def lineageref15_Scan.f (k : Nat) (l0 : List Int) : Option (List Int × (List (S119)) × Int × Bool × Int × Int × (List (S73)) × Int × Int) := if 12 ≤ (l0.length : Int) then ((lineageref15_slot.f k (l0.take 12)).bind fun t193 => (if 12 ≤ 24 then (if 24 ≤ (l0.length : Int) then ((lineageref15_slot.f k ((l0.take 24).drop 12)).bind fun t199 => (if t193 ≥ 0 then (lineageref15_Scan.j0 k l0 t193 t199 0 false t193 0 0 0) else (lineageref15_Scan.j0 k l0 t193 t199 0 false 0 (-1) 0 0))) else (none)) else (none))) else (none)
theorem lineageref15_Scan.mono_l : ∀ k, (∀ y0 y1 y2 y3 y4 y5 y6 y7 y8, LeO (lineageref15_Scan.j0 k y0 y1 y2 y3 y4 y5 y6 y7 y8) (lineageref15_Scan.j0 (k + 1) y0 y1 y2 y3 y4 y5 y6 y7 y8)) ∧ (∀ y0 y1 y2 y3 y4 y5 y6, LeO (lineageref15_Scan.j1 k y0 y1 y2 y3 y4 y5 y6) (lineageref15_Scan.j1 (k + 1) y0 y1 y2 y3 y4 y5 y6)) ∧ (∀ y0 y1 y2 y3 y4 y5 y6 y7 y8, LeO (lineageref15_Scan.l0 k y0 y1 y2 y3 y4 y5 y6 y7 y8) (lineageref15_Scan.l0 (k + 1) y0 y1 y2 y3 y4 y5 y6 y7 y8))
 | 0 => ⟨fun _ _ _ _ _ _ _ _ _ r h => by simp [lineageref15_Scan.j0] at h, fun _ _ _ _ _ _ _ r h => by simp [lineageref15_Scan.j1] at h, fun _ _ _ _ _ _ _ _ _ r h => by simp [lineageref15_Scan.l0] at h⟩
 | k + 1 => by
  obtain ⟨ih0, ih1, ih2⟩ := lineageref15_Scan.mono_l k
  refine ⟨?_, ?_, ?_⟩
  ·intro y0 y1 y2 y3 y4 y5 y6 y7 y8
   unfold lineageref15_Scan.j0
   repeat' first
   | (with_reducible exact ih0 _ _ _ _ _ _ _ _ _)
   | (with_reducible exact ih1 _ _ _ _ _ _ _)
   | (with_reducible exact ih2 _ _ _ _ _ _ _ _ _)
   | (with_reducible exact lineageref13_Same.mono _ _ _)
   | (with_reducible exact lineageref15_Frame.mono _ _ _)
   | (with_reducible exact lineageref15_slot.mono _ _)
   | (with_reducible exact lineageref15_value.mono _ _)
   | (with_reducible exact LeO.refl _)
   | (with_reducible exact LeO.none _)
   | (with_reducible refine LeO.ite ?_ ?_)
   | (with_reducible refine LeO.bind ?_ (fun _ => ?_))
   | exact ih0 _ _ _ _ _ _ _ _ _
   | exact ih1 _ _ _ _ _ _ _
   | exact ih2 _ _ _ _ _ _ _ _ _
   | exact lineageref13_Same.mono _ _ _
   | exact lineageref15_Frame.mono _ _ _
   | exact lineageref15_slot.mono _ _
   | exact lineageref15_value.mono _ _
   | exact LeO.none _
   | refine LeO.ite ?_ ?_
   | refine LeO.bind ?_ (fun _ => ?_)
  ·intro y0 y1 y2 y3 y4 y5 y6
   unfold lineageref15_Scan.j1
   repeat' first
   | (with_reducible exact ih0 _ _ _ _ _ _ _ _ _)
   | (with_reducible exact ih1 _ _ _ _ _ _ _)
   | (with_reducible exact ih2 _ _ _ _ _ _ _ _ _)
   | (with_reducible exact lineageref13_Same.mono _ _ _)
   | (with_reducible exact lineageref15_Frame.mono _ _ _)
   | (with_reducible exact lineageref15_slot.mono _ _)
   | (with_reducible exact lineageref15_value.mono _ _)
   | (with_reducible exact LeO.refl _)
   | (with_reducible exact LeO.none _)
   | (with_reducible refine LeO.ite ?_ ?_)
   | (with_reducible refine LeO.bind ?_ (fun _ => ?_))
   | exact ih0 _ _ _ _ _ _ _ _ _
   | exact ih1 _ _ _ _ _ _ _
   | exact ih2 _ _ _ _ _ _ _ _ _
   | exact lineageref13_Same.mono _ _ _
   | exact lineageref15_Frame.mono _ _ _
   | exact lineageref15_slot.mono _ _
   | exact lineageref15_value.mono _ _
   | exact LeO.none _
   | refine LeO.ite ?_ ?_
   | refine LeO.bind ?_ (fun _ => ?_)
  ·intro y0 y1 y2 y3 y4 y5 y6 y7 y8
   unfold lineageref15_Scan.l0
   repeat' first
   | (with_reducible exact ih0 _ _ _ _ _ _ _ _ _)
   | (with_reducible exact ih1 _ _ _ _ _ _ _)
   | (with_reducible exact ih2 _ _ _ _ _ _ _ _ _)
   | (with_reducible exact lineageref13_Same.mono _ _ _)
   | (with_reducible exact lineageref15_Frame.mono _ _ _)
   | (with_reducible exact lineageref15_slot.mono _ _)
   | (with_reducible exact lineageref15_value.mono _ _)
   | (with_reducible exact LeO.refl _)
   | (with_reducible exact LeO.none _)
   | (with_reducible refine LeO.ite ?_ ?_)
   | (with_reducible refine LeO.bind ?_ (fun _ => ?_))
   | exact ih0 _ _ _ _ _ _ _ _ _
   | exact ih1 _ _ _ _ _ _ _
   | exact ih2 _ _ _ _ _ _ _ _ _
   | exact lineageref13_Same.mono _ _ _
   | exact lineageref15_Frame.mono _ _ _
   | exact lineageref15_slot.mono _ _
   | exact lineageref15_value.mono _ _
   | exact LeO.none _
   | refine LeO.ite ?_ ?_
   | refine LeO.bind ?_ (fun _ => ?_)
theorem lineageref15_Scan.mono : ∀ a0 k, LeO (lineageref15_Scan.f k a0) (lineageref15_Scan.f (k + 1) a0) := by
 intro a0 k
 obtain ⟨ih0, ih1, ih2⟩ := lineageref15_Scan.mono_l k
 unfold lineageref15_Scan.f
 repeat' first
   | (with_reducible exact ih0 _ _ _ _ _ _ _ _ _)
   | (with_reducible exact ih1 _ _ _ _ _ _ _)
   | (with_reducible exact ih2 _ _ _ _ _ _ _ _ _)
   | (with_reducible exact lineageref13_Same.mono _ _ _)
   | (with_reducible exact lineageref15_Frame.mono _ _ _)
   | (with_reducible exact lineageref15_slot.mono _ _)
   | (with_reducible exact lineageref15_value.mono _ _)
   | (with_reducible exact LeO.refl _)
   | (with_reducible exact LeO.none _)
   | (with_reducible refine LeO.ite ?_ ?_)
   | (with_reducible refine LeO.bind ?_ (fun _ => ?_))
   | exact ih0 _ _ _ _ _ _ _ _ _
   | exact ih1 _ _ _ _ _ _ _
   | exact ih2 _ _ _ _ _ _ _ _ _
   | exact lineageref13_Same.mono _ _ _
   | exact lineageref15_Frame.mono _ _ _
   | exact lineageref15_slot.mono _ _
   | exact lineageref15_value.mono _ _
   | exact LeO.none _
   | refine LeO.ite ?_ ?_
   | refine LeO.bind ?_ (fun _ => ?_)
def lineageref15_Scan.T1 : Bool × List (List Nat × List Nat) := (true, [([], []), ([0], [0]), ([1], [1]), ([], []), ([3], [3]), ([4, 2], [4]), ([2, 5, 0, 1, 2], [2]), ([5, 6, 0, 1, 2, 3, 4, 5, 6], [5])])
def lineageref15_Scan.B1 : List Nat := [0, 1, 3, 0, 8, 31, 63, 127]
theorem lineageref15_Scan.tab1 : rtab .any (opsOf Try.f37 1) = lineageref15_Scan.T1 := by kernel_rfl
theorem lineageref15_Scan.bits1 : waitsOk lineageref15_Scan.T1.2 lineageref15_Scan.B1 = true := by kernel_rfl
def lineageref15_Scan.T12 : Bool × List (List Nat × List Nat) := (true, [([], []), ([0], [0]), ([], []), ([1, 2], [1, 2]), ([3], [3]), ([], []), ([], []), ([6], [6]), ([], []), ([5, 7, 8], [5, 7, 8]), ([4, 9], [4, 9]), ([], []), ([], []), ([], []), ([11, 12, 13], [11, 12, 13]), ([10, 14, 10], [10, 14]), ([15], [15])])
def lineageref15_Scan.B12 : List Nat := [0, 1, 0, 7, 15, 0, 0, 64, 0, 480, 1023, 0, 0, 0, 14336, 32767, 65535]
theorem lineageref15_Scan.tab12 : rtab .any (opsOf Try.f37 12) = lineageref15_Scan.T12 := by kernel_rfl
theorem lineageref15_Scan.bits12 : waitsOk lineageref15_Scan.T12.2 lineageref15_Scan.B12 = true := by kernel_rfl
def lineageref15_Scan.T13 : Bool × List (List Nat × List Nat) := (true, [([], []), ([0], [0]), ([], []), ([2], [2]), ([], []), ([3, 4], [3, 4]), ([5], [5]), ([], []), ([], []), ([8], [8]), ([], []), ([7, 9, 10], [7, 9, 10]), ([6, 11], [6, 11]), ([12], [12]), ([1, 13], [1, 13]), ([0, 1, 2, 3, 4, 5, 6, 7, 8, 9, 10, 11, 12, 13, 14], []), ([15, 14, 14, 0, 1, 2, 3, 4, 5, 6, 7, 8, 9, 10, 11, 12, 13, 14], [14, 15])])
def lineageref15_Scan.B13 : List Nat := [0, 1, 0, 4, 0, 28, 60, 0, 0, 256, 0, 1920, 4092, 8188, 16383, 32767, 65535]
theorem lineageref15_Scan.tab13 : rtab .any (opsOf Try.f37 13) = lineageref15_Scan.T13 := by kernel_rfl
theorem lineageref15_Scan.bits13 : waitsOk lineageref15_Scan.T13.2 lineageref15_Scan.B13 = true := by kernel_rfl
set_option maxHeartbeats 8000000 in
set_option maxRecDepth 100000 in
theorem lineageref15_Scan.calls (k : Nat) (P0_ : Nat → Prop) (A0 : Option Addr) (c0 : Nat) (l0 : List Int) (r1 : List Int) (r2 : List (S119)) (r3 : Int) (r4 : Bool) (r5 : Int) (r6 : Int) (r7 : List (S73)) (r8 : Int) (r9 : Int) (w : World) (hs0 : Kd.V (Kd.int .u8) 5 w w.heap.size (fun k_ => P0_ k_) (.slice A0 l0.length c0) l0) (h : lineageref15_Scan.f k l0 = some (r1, r2, r3, r4, r5, r6, r7, r8, r9)) :
  Calls Try.prog 37 #[.slice A0 l0.length c0] w fun e w' => ∃ v0_ v1_ v6_ : Value, e = .returned (.agg #[v0_, v1_, .int .i64 r3, .bool r4, .int .i64 r5, .int .i64 r6, v6_, .int .i64 r8, .int .i64 r9]) ∧ Kd.R (Kd.int .u8) 5 w' w.heap.size (fun k_ => (w.heap.size ≤ k_)) v0_ r1 ∧ Kd.N k119 119 w' w.heap.size (fun k_ => (P0_ k_ ∨ w.heap.size ≤ k_) ∧ some k_ ≠ (v0_ : Value).ownBlock ∧ some k_ ≠ (v6_ : Value).ownBlock) v1_ r2 ∧ Kd.N k73 73 w' w.heap.size (fun k_ => (P0_ k_ ∨ w.heap.size ≤ k_) ∧ some k_ ≠ (v0_ : Value).ownBlock ∧ some k_ ≠ (v1_ : Value).ownBlock) v6_ r7 ∧ Below w.heap.size w w' := by
 have hu64 := Try.underlying64
 have hu73 := Try.underlying73
 have HO0 := AM (show Kd.V (Kd.int .u8) 5 w w.heap.size (fun k_ => (P0_ k_ ∨ w.heap.size ≤ k_)) (.slice A0 l0.length c0) l0 from Kd.V_mono hs0 (fun k_ hk => .inl hk))
 have HB := AM (Below.refl w.heap.size w)
 have H : (if 12 ≤ (l0.length : Int) then ((lineageref15_slot.f k (l0.take 12)).bind fun t193 => (if 12 ≤ 24 then (if 24 ≤ (l0.length : Int) then ((lineageref15_slot.f k ((l0.take 24).drop 12)).bind fun t199 => (if t193 ≥ 0 then (lineageref15_Scan.j0 k l0 t193 t199 0 false t193 0 0 0) else (lineageref15_Scan.j0 k l0 t193 t199 0 false 0 (-1) 0 0))) else (none)) else (none))) else (none)) = some (r1, r2, r3, r4, r5, r6, r7, r8, r9) := h
 clear h
 by_cases c2 : 12 ≤ (l0.length : Int)
 ·rw [if_pos c2] at H
  have c2b0 := eq_true c2
  have c2b1 : decide (12 ≤ (l0.length : Int)) = true := decide_eq_true c2
  clear c2
  obtain ⟨y188, hy188⟩ : ∃ y_ : List Int, y_ = (l0.take 12) := ⟨_, rfl⟩
  replace H : ((lineageref15_slot.f k y188).bind fun t193 => (if 12 ≤ 24 then (if 24 ≤ (l0.length : Int) then ((lineageref15_slot.f k ((l0.take 24).drop 12)).bind fun t199 => (if t193 ≥ 0 then (lineageref15_Scan.j0 k l0 t193 t199 0 false t193 0 0 0) else (lineageref15_Scan.j0 k l0 t193 t199 0 false 0 (-1) 0 0))) else (none)) else (none))) = some (r1, r2, r3, r4, r5, r6, r7, r8, r9) := by first | (rw [hy188]; with_reducible exact H) | (have H2_ := (Option.bind_some _ _).symm.trans H; rw [hy188]; with_reducible exact H2_) | (have H2_ := (Option.bind_some _ _).symm.trans H; with_reducible exact H2_) | with_reducible exact H | (rw [hy188]; exact H) | exact H
  have Ny188 := AM hy188
  clear hy188
  replace H := Option.bind_eq_some_iff.mp H
  obtain ⟨t193, A30, H⟩ := H
  replace H : (if 12 ≤ 24 then (if 24 ≤ (l0.length : Int) then ((lineageref15_slot.f k ((l0.take 24).drop 12)).bind fun t199 => (if t193 ≥ 0 then (lineageref15_Scan.j0 k l0 t193 t199 0 false t193 0 0 0) else (lineageref15_Scan.j0 k l0 t193 t199 0 false 0 (-1) 0 0))) else (none)) else (none)) = some (r1, r2, r3, r4, r5, r6, r7, r8, r9) := H
  have A3 := AM A30
  clear A30
  by_cases c4 : 12 ≤ 24
  ·rw [if_pos c4] at H
   have c4b0 := eq_true c4
   have c4b1 : decide (12 ≤ 24) = true := decide_eq_true c4
   clear c4
   by_cases c5 : 24 ≤ (l0.length : Int)
   ·rw [if_pos c5] at H
    have c5b0 := eq_true c5
    have c5b1 : decide (24 ≤ (l0.length : Int)) = true := decide_eq_true c5
    clear c5
    obtain ⟨y194, hy194⟩ : ∃ y_ : List Int, y_ = ((l0.take 24).drop 12) := ⟨_, rfl⟩
    replace H : ((lineageref15_slot.f k y194).bind fun t199 => (if t193 ≥ 0 then (lineageref15_Scan.j0 k l0 t193 t199 0 false t193 0 0 0) else (lineageref15_Scan.j0 k l0 t193 t199 0 false 0 (-1) 0 0))) = some (r1, r2, r3, r4, r5, r6, r7, r8, r9) := by first | (rw [hy194]; with_reducible exact H) | (have H2_ := (Option.bind_some _ _).symm.trans H; rw [hy194]; with_reducible exact H2_) | (have H2_ := (Option.bind_some _ _).symm.trans H; with_reducible exact H2_) | with_reducible exact H | (rw [hy194]; exact H) | exact H
    have Ny194 := AM hy194
    clear hy194
    replace H := Option.bind_eq_some_iff.mp H
    obtain ⟨t199, A60, H⟩ := H
    replace H : (if t193 ≥ 0 then (lineageref15_Scan.j0 k l0 t193 t199 0 false t193 0 0 0) else (lineageref15_Scan.j0 k l0 t193 t199 0 false 0 (-1) 0 0)) = some (r1, r2, r3, r4, r5, r6, r7, r8, r9) := H
    have A6 := AM A60
    clear A60
    have HC7 := AM H
    clear H
    go_enter Try.func37, Try.ntmps37
    try go_wp2_with (first | ((with_reducible refine gate_dst (N := 2) rfl ?_); refine box_event ?hg (N := 2) ?hd (cs := #[.slice none 0 0, .slice none 0 0, .int .i64 0, .bool false, .int .i64 0, .int .i64 0, .slice none 0 0, .int .i64 0, .int .i64 0]) (t := 64) ?hr ?_; (case hd => rfl); (case hg => rfl); (case hr => first | (go_simp; done) | (go_simp; rfl)); intro gb187 hg w8 hbox hb; have n0_ := AM (Kd.V_below (Kd.V_elderB (by (with_reducible repeat (first | apply Kd.V_alloc | apply Kd.V_drewN | apply Kd.V_drew)); exact HO0.out) gb187 (Nat.le_of_eq hg.symm)) hb); have n1_ := AM (below_step (by repeat (first | (with_reducible first | exact HB.out | apply bA | apply bN | apply bD) | exact HB.out)) hb); have n2_ := AM (hbox); have n3_ := AM ((by rw [hg]; exact (below_size (by repeat (first | (with_reducible first | exact HB.out | apply bA | apply bN | apply bD) | exact HB.out))) : w.heap.size ≤ gb187)); have n4_ := AM ((by rw [hg]; exact (below_size (by repeat (first | (with_reducible first | exact HB.out | apply bA | apply bN | apply bD) | exact HB.out))) : w.heap.size ≤ gb187)); clear HO0; clear HB; have HO0 := n0_; have HB := n1_; have BK187 := n2_; have GW187 := n3_; have GE187 := n4_; clear n0_ n1_ n2_ n3_ n4_; clear hb hbox hg))
    have n0_ := AM (Kd.V_drew HO0.out)
    have n1_ := AM (kD BK187.out)
    have n2_ := AM (bD HB.out)
    clear HO0
    clear BK187
    clear HB
    have HO0 := n0_
    have BK187 := n1_
    have HB := n2_
    clear n0_ n1_ n2_
    have q10 : (12 : Int) ≤ ((l0.length : Int) : Int) := of_decide_eq_true (by first | (with_reducible assumption) | assumption)
    obtain ⟨i010, hi010, _, hsz10, _⟩ := info_parts info5
    have hroom10 : l0.length ≤ c0 := (Kd.V_reads' HO0.out).2.1
    have hC10 : Kd.F (Kd.int .u8) _ _ A0 l0.length l0 := (Kd.V_at (base := w.heap.size) HO0.out).2.2
    have hcut10 := cut_to (P := Try.prog) 29 5 .i64 Try.underlying29 hi010 A0 l0.length c0 12 (by omega) q10 hroom10
    have hr10 := Kd.F_take (m := 12) hC10 (by omega)
    have hy10 : y188.length = (12 : Int).toNat := (by rw [Ny188.out, List.length_take]; omega)
    rw [← Ny188.out] at hr10
    rw [← hy10] at hcut10
    have HO192 := AM (show Kd.V (Kd.int .u8) 5 _ w.heap.size _ (.slice A0 y188.length c0) y188 from Kd.V_mk (by omega) hr10)
    have HC192 := AM (show y188.length ≤ c0 from by omega)
    clear hr10 hC10 hroom10 hi010 hsz10
    have KY10 := AM hy10
    clear hy10
    replace q10 := eq_true q10
    have q11 : (24 : Int) ≤ ((l0.length : Int) : Int) := of_decide_eq_true (by first | (with_reducible assumption) | assumption)
    obtain ⟨i011, hi011, _, hsz11, _⟩ := info_parts info5
    have hroom11 : l0.length ≤ c0 := (Kd.V_reads' HO0.out).2.1
    have hC11 : Kd.F (Kd.int .u8) _ _ A0 l0.length l0 := (Kd.V_at (base := w.heap.size) HO0.out).2.2
    have ql11 : (12 : Int) ≤ (24 : Int) := (by omega)
    have hcut11 := cut_mid (P := Try.prog) 29 5 .i64 .i64 Try.underlying29 hi011 1 hsz11 A0 l0.length c0 12 24 (by omega) ql11 q11 hroom11
    have hr11 := Kd.F_mid (lo := (12 : Int).toNat) (hi := (24 : Int).toNat) (c := c0) hC11 (by omega) (by omega) hroom11
    obtain ⟨A11, hA11⟩ : ∃ A1, A1 = (if c0 = (12 : Int).toNat then A0 else (A0 : Option Addr).map (·.add ((12 : Int).toNat * 1))) := ⟨_, rfl⟩
    obtain ⟨c11, hc11⟩ : ∃ c1, c1 = c0 - (12 : Int).toNat := ⟨_, rfl⟩
    have hy11 : y194.length = (24 : Int).toNat - (12 : Int).toNat := (by rw [Ny194.out, List.length_drop, List.length_take] <;> omega)
    rw [show ((l0).take (24 : Int).toNat).drop (12 : Int).toNat = y194 from Ny194.out.symm] at hr11
    replace hr11 : Kd.F (Kd.int .u8) _ _ A11 y194.length y194 := (by rw [hA11]; exact hr11)
    rw [← hy11, ← hA11, ← hc11] at hcut11
    have HO198 := AM (show Kd.V (Kd.int .u8) 5 _ w.heap.size _ (.slice A11 y194.length c11) y194 from Kd.V_mk (by rw [hy11, hc11]; exact Nat.sub_le_sub_right (Nat.le_trans (by omega) hroom11) _) hr11)
    have HC198 := AM (show y194.length ≤ c11 from by rw [hy11, hc11]; exact Nat.sub_le_sub_right (Nat.le_trans (by omega) hroom11) _)
    clear hr11 hC11 hroom11 hi011 hsz11 hc11
    have KY11 := AM hy11
    have KA11 := AM hA11
    clear hy11 hA11
    replace q11 := eq_true q11
    refine start_ (n := 8) (S := fun w' => True) (ds := []) #[false, false, false, false, false, false, false, false] (by kernel_rfl) rfl rfl trivial (fun hHeld => ?_); refine with_tabW lineageref15_Scan.tab1 lineageref15_Scan.bits1 (fun HT_ HW_ => ?_)
    generalize w8.drew = w9 at HO0 BK187 HB HO192 HO198 hHeld ⊢
    refine pu 0 (some 9) ?_ (bt 8 1) (any_of HT_.out (by kernel_rfl)) ?_ ?_ ?_ ?_
    rotate_left
    ·intro w'
     go_simp
     with_reducible rfl
    rotate_left
    ·simp only [pS]
     rfl
    refine pu 1 (some 10) ?_ (bt 8 3) (any_of HT_.out (by kernel_rfl)) ?_ ?_ ?_ ?_
    rotate_left
    ·intro w'
     go_simp
     with_reducible rfl
    rotate_left
    ·simp only [pS]
     rfl
    refine pu 3 (some 12) ?_ (bt 8 11) (any_of HT_.out (by kernel_rfl)) ?_ ?_ ?_ ?_
    rotate_left
    ·intro w'
     go_simp
     with_reducible rfl
    rotate_left
    ·simp only [pS]
     rfl
    refine pu 4 (some 13) ?_ (bt 8 27) (any_of HT_.out (by kernel_rfl)) ?_ ?_ ?_ ?_
    rotate_left
    ·intro w'
     go_simp
     with_reducible rfl
    rotate_left
    ·simp only [pS]
     rfl
    refine one_ (i := 2) (N := some 11) (bt 8 31) rfl rfl (one_of HT_.out (by kernel_rfl)) (by decide) (fun K hK => ?_)
    refine goes_ Try.func73 (by kernel_rfl) rfl #[.slice A0 y188.length c0] (by rfl) rfl rfl (by (try simp only [List.map_toArray, List.map_cons, List.map_nil]); first | done | rfl | (simp only [List.length_drop, List.length_take]; rfl)) ?_
    with_reducible refine (lineageref15_slot.calls k _ _ y188 t193 _ ?side1 ?side2 A3.out).mono ?_
    (case side1 => repeat (first | exact (Kd.V_reads' HO192.out).2.2 | (with_reducible refine Kd.C_alloc ?_ _) | (with_reducible refine Kd.C_drewN ?_ _) | (with_reducible refine Kd.C_drew ?_)))
    (case side2 => exact (Kd.V_reads' HO192.out).2.1)
    rintro e w12 ⟨rfl, hb⟩
    refine ⟨_, rfl, ?_⟩
    have n0_ := AM (Kd.V_below (by (with_reducible repeat (first | apply Kd.V_alloc | apply Kd.V_drewN | apply Kd.V_drew)); exact HO0.out) hb)
    have n1_ := AM (Kd.V_below (by (with_reducible repeat (first | apply Kd.V_alloc | apply Kd.V_drewN | apply Kd.V_drew)); exact HO192.out) hb)
    have n2_ := AM (Kd.V_below (by (with_reducible repeat (first | apply Kd.V_alloc | apply Kd.V_drewN | apply Kd.V_drew)); exact HO198.out) hb)
    have n3_ := AM (blk_below (g := gb187) (o := .cells #[.slice none 0 0, .slice none 0 0, .int .i64 0, .bool false, .int .i64 0, .int .i64 0, .slice none 0 0, .int .i64 0, .int .i64 0] 64 (0, 0)) (by (with_reducible repeat (first | refine kN ?_ _ | refine kD ?_ | refine kA ?_ _)); exact BK187.out) hb)
    have n4_ := AM (below_step (by repeat (first | (with_reducible first | exact HB.out | apply bA | apply bN | apply bD | refine bS ?_ GE187.out) | exact HB.out)) hb)
    clear HO0
    clear HO192
    clear HO198
    clear BK187
    clear HB
    have HO0 := n0_
    have HO192 := n1_
    have HO198 := n2_
    have BK187 := n3_
    have HB := n4_
    clear n0_ n1_ n2_ n3_ n4_
    (try clear hb)
    (try clear hb2)
    (try clear hk)
    (try clear hi)
    refine hK.out _ _ trivial (fun hHeld => ?_)
    clear hK K
    refine norm_ (a' := ?_) ?_ ?_
    rotate_left
    ·show Act.put _ (some 11) _ = _
     simp only [pS]
     rfl
    refine one_ (i := 5) (N := some 14) (bt 8 63) rfl rfl (one_of HT_.out (by kernel_rfl)) (by decide) (fun K hK => ?_)
    refine goes_ Try.func73 (by kernel_rfl) rfl #[.slice A11 y194.length c11] (by rfl) rfl rfl (by (try simp only [List.map_toArray, List.map_cons, List.map_nil]); first | done | rfl | (simp only [List.length_drop, List.length_take]; rfl)) ?_
    with_reducible refine (lineageref15_slot.calls k _ _ y194 t199 _ ?side1 ?side2 A6.out).mono ?_
    (case side1 => repeat (first | exact (Kd.V_reads' HO198.out).2.2 | (with_reducible refine Kd.C_alloc ?_ _) | (with_reducible refine Kd.C_drewN ?_ _) | (with_reducible refine Kd.C_drew ?_)))
    (case side2 => exact (Kd.V_reads' HO198.out).2.1)
    rintro e w13 ⟨rfl, hb⟩
    refine ⟨_, rfl, ?_⟩
    have n0_ := AM (Kd.V_below (by (with_reducible repeat (first | apply Kd.V_alloc | apply Kd.V_drewN | apply Kd.V_drew)); exact HO0.out) hb)
    have n1_ := AM (Kd.V_below (by (with_reducible repeat (first | apply Kd.V_alloc | apply Kd.V_drewN | apply Kd.V_drew)); exact HO192.out) hb)
    have n2_ := AM (Kd.V_below (by (with_reducible repeat (first | apply Kd.V_alloc | apply Kd.V_drewN | apply Kd.V_drew)); exact HO198.out) hb)
    have n3_ := AM (blk_below (g := gb187) (o := .cells #[.slice none 0 0, .slice none 0 0, .int .i64 0, .bool false, .int .i64 0, .int .i64 0, .slice none 0 0, .int .i64 0, .int .i64 0] 64 (0, 0)) (by (with_reducible repeat (first | refine kN ?_ _ | refine kD ?_ | refine kA ?_ _)); exact BK187.out) hb)
    have n4_ := AM (below_step (by repeat (first | (with_reducible first | exact HB.out | apply bA | apply bN | apply bD | refine bS ?_ GE187.out) | exact HB.out)) hb)
    clear HO0
    clear HO192
    clear HO198
    clear BK187
    clear HB
    have HO0 := n0_
    have HO192 := n1_
    have HO198 := n2_
    have BK187 := n3_
    have HB := n4_
    clear n0_ n1_ n2_ n3_ n4_
    (try clear hb)
    (try clear hb2)
    (try clear hk)
    (try clear hi)
    refine hK.out _ _ trivial (fun hHeld => ?_)
    clear hK K
    refine norm_ (a' := ?_) ?_ ?_
    rotate_left
    ·show Act.put _ (some 14) _ = _
     simp only [pS]
     rfl
    refine pu 6 (some 3) ?_ (bt 8 127) (any_of HT_.out (by kernel_rfl)) ?_ ?_ ?_ ?_
    rotate_left
    ·intro w'
     go_simp
     with_reducible rfl
    rotate_left
    ·simp only [pS]
     rfl
    refine pu 7 (some 4) ?_ (bt 8 255) (any_of HT_.out (by kernel_rfl)) ?_ ?_ ?_ ?_
    rotate_left
    ·intro w'
     go_simp
     with_reducible rfl
    rotate_left
    ·simp only [pS]
     rfl
    refine done_ (done_of HT_.out (by kernel_rfl)) ?_
    go_upto_if 17 with (first | ((with_reducible refine gate_dst (N := 5) rfl ?_); refine box_event ?hg (N := 5) ?hd (cs := #[.slice none 0 0, .slice none 0 0, .int .i64 0, .bool false, .int .i64 0, .int .i64 0, .slice none 0 0, .int .i64 0, .int .i64 0]) (t := 64) ?hr ?_; (case hd => rfl); (case hg => rfl); (case hr => first | (go_simp; done) | (go_simp; rfl)); intro gb200 hg w14 hbox hb; have n0_ := AM (Kd.V_below (Kd.V_elderB (by (with_reducible repeat (first | apply Kd.V_alloc | apply Kd.V_drewN | apply Kd.V_drew)); exact HO0.out) gb200 (Nat.le_of_eq hg.symm)) hb); have n1_ := AM (Kd.V_below (Kd.V_elderB (by (with_reducible repeat (first | apply Kd.V_alloc | apply Kd.V_drewN | apply Kd.V_drew)); exact HO192.out) gb200 (Nat.le_of_eq hg.symm)) hb); have n2_ := AM (Kd.V_below (Kd.V_elderB (by (with_reducible repeat (first | apply Kd.V_alloc | apply Kd.V_drewN | apply Kd.V_drew)); exact HO198.out) gb200 (Nat.le_of_eq hg.symm)) hb); have n3_ := AM (blk_below (g := gb187) (o := .cells #[.slice none 0 0, .slice none 0 0, .int .i64 0, .bool false, .int .i64 0, .int .i64 0, .slice none 0 0, .int .i64 0, .int .i64 0] 64 (0, 0)) (by (with_reducible repeat (first | refine kN ?_ _ | refine kD ?_ | refine kA ?_ _)); exact BK187.out) hb); have n4_ := AM (below_step (by repeat (first | (with_reducible first | exact HB.out | apply bA | apply bN | apply bD | refine bS ?_ GE187.out) | exact HB.out)) hb); have n5_ := AM (hbox); have n6_ := AM ((by rw [hg]; exact (below_size (by repeat (first | (with_reducible first | exact HB.out | apply bA | apply bN | apply bD | refine bS ?_ GE187.out) | exact HB.out))) : w.heap.size ≤ gb200)); have n7_ := AM ((by rw [hg]; exact (below_size (by repeat (first | (with_reducible first | exact HB.out | apply bA | apply bN | apply bD | refine bS ?_ GE187.out) | exact HB.out))) : w.heap.size ≤ gb200)); have n8_ := AM ((by rw [hg]; exact Nat.ne_of_lt (blk_lt (g := gb187) (o := .cells #[.slice none 0 0, .slice none 0 0, .int .i64 0, .bool false, .int .i64 0, .int .i64 0, .slice none 0 0, .int .i64 0, .int .i64 0] 64 (0, 0)) (by (with_reducible repeat (first | refine kN ?_ _ | refine kD ?_ | refine kA ?_ _)); exact BK187.out)) : gb187 ≠ gb200)); have n9_ := AM ((by rw [hg]; exact Nat.ne_of_gt (blk_lt (g := gb187) (o := .cells #[.slice none 0 0, .slice none 0 0, .int .i64 0, .bool false, .int .i64 0, .int .i64 0, .slice none 0 0, .int .i64 0, .int .i64 0] 64 (0, 0)) (by (with_reducible repeat (first | refine kN ?_ _ | refine kD ?_ | refine kA ?_ _)); exact BK187.out)) : gb200 ≠ gb187)); clear HO0; clear HO192; clear HO198; clear BK187; clear HB; have HO0 := n0_; have HO192 := n1_; have HO198 := n2_; have BK187 := n3_; have HB := n4_; have BK200 := n5_; have GW200 := n6_; have GE200 := n7_; have NB187_200 := n8_; have NB200_187 := n9_; clear n0_ n1_ n2_ n3_ n4_ n5_ n6_ n7_ n8_ n9_; clear hb hbox hg; have hnb15 := NB200_187.out; have hnc15 := NB187_200.out; have hcz16_0 : w14.cell? ⟨gb200, 0, none⟩ = some (.slice none 0 0) := (blk_cell BK200.out 0).trans rfl; have hcz16_1 : w14.cell? ⟨gb200, 1, none⟩ = some (.slice none 0 0) := (blk_cell BK200.out 1).trans rfl; have hcz16_2 : w14.cell? ⟨gb200, 2, none⟩ = some (.int .i64 0) := (blk_cell BK200.out 2).trans rfl; have hcz16_3 : w14.cell? ⟨gb200, 3, none⟩ = some (.bool false) := (blk_cell BK200.out 3).trans rfl; have hcz16_4 : w14.cell? ⟨gb200, 4, none⟩ = some (.int .i64 0) := (blk_cell BK200.out 4).trans rfl; have hcz16_5 : w14.cell? ⟨gb200, 5, none⟩ = some (.int .i64 0) := (blk_cell BK200.out 5).trans rfl; have hcz16_6 : w14.cell? ⟨gb200, 6, none⟩ = some (.slice none 0 0) := (blk_cell BK200.out 6).trans rfl; have hcz16_7 : w14.cell? ⟨gb200, 7, none⟩ = some (.int .i64 0) := (blk_cell BK200.out 7).trans rfl; have hcz16_8 : w14.cell? ⟨gb200, 8, none⟩ = some (.int .i64 0) := (blk_cell BK200.out 8).trans rfl; have hfz16_0 := blk_frozen BK200.out 0; have hfz16_1 := blk_frozen BK200.out 1; have hfz16_2 := blk_frozen BK200.out 2; have hfz16_3 := blk_frozen BK200.out 3; have hfz16_4 := blk_frozen BK200.out 4; have hfz16_5 := blk_frozen BK200.out 5; have hfz16_6 := blk_frozen BK200.out 6; have hfz16_7 := blk_frozen BK200.out 7; have hfz16_8 := blk_frozen BK200.out 8))
    (try simp only [pS])
    go_cut [] (fun wc => ∃ (kq : Nat) (x201004_6 : Int) (x201005_6 : Int), Aside0 (lineageref15_Scan.j0 kq l0 t193 t199 0 false x201004_6 x201005_6 0 0 = some (r1, r2, r3, r4, r5, r6, r7, r8, r9)) ∧ Aside0 (kq ≤ k) ∧ Aside0 (Kd.V (Kd.int .u8) 5 wc w.heap.size (fun k_ => (P0_ k_ ∨ w.heap.size ≤ k_) ∧ k_ ≠ gb187 ∧ k_ ≠ gb200) (.slice A0 l0.length c0) l0) ∧ Aside0 (wc.heap[gb187]? = some (.cells #[(.slice none 0 0), (.slice none 0 0), .int .i64 0, .bool false, .int .i64 0, .int .i64 0, (.slice none 0 0), .int .i64 0, .int .i64 0] 64 (0, 0))) ∧ Aside0 (wc.heap[gb200]? = some (.cells #[(.slice none 0 0), (.slice none 0 0), .int .i64 0, .bool false, .int .i64 x201004_6, .int .i64 x201005_6, (.slice none 0 0), .int .i64 0, .int .i64 0] 64 (0, 0))) ∧ Aside0 (Below w.heap.size w wc))
    case first =>
     have H := HC7.out
     clear HC7
     by_cases c17 : t193 ≥ 0
     ·rw [if_pos c17] at H
      have c17b0 : decide (0 ≤ t193) = true := decide_eq_true c17
      clear c17
      (first | rw [c17b0] | (simp only [i64_w, i32_w]; rw [c17b0]) | skip)
      have H' := AM H
      clear H
      have hnb18 := NB200_187.out
      have hnc18 := NB187_200.out
      have hcz19_0 : w14.cell? ⟨gb200, 0, none⟩ = some (.slice none 0 0) := (blk_cell BK200.out 0).trans rfl
      have hcz19_1 : w14.cell? ⟨gb200, 1, none⟩ = some (.slice none 0 0) := (blk_cell BK200.out 1).trans rfl
      have hcz19_2 : w14.cell? ⟨gb200, 2, none⟩ = some (.int .i64 0) := (blk_cell BK200.out 2).trans rfl
      have hcz19_3 : w14.cell? ⟨gb200, 3, none⟩ = some (.bool false) := (blk_cell BK200.out 3).trans rfl
      have hcz19_4 : w14.cell? ⟨gb200, 4, none⟩ = some (.int .i64 0) := (blk_cell BK200.out 4).trans rfl
      have hcz19_5 : w14.cell? ⟨gb200, 5, none⟩ = some (.int .i64 0) := (blk_cell BK200.out 5).trans rfl
      have hcz19_6 : w14.cell? ⟨gb200, 6, none⟩ = some (.slice none 0 0) := (blk_cell BK200.out 6).trans rfl
      have hcz19_7 : w14.cell? ⟨gb200, 7, none⟩ = some (.int .i64 0) := (blk_cell BK200.out 7).trans rfl
      have hcz19_8 : w14.cell? ⟨gb200, 8, none⟩ = some (.int .i64 0) := (blk_cell BK200.out 8).trans rfl
      have hfz19_0 := blk_frozen BK200.out 0
      have hfz19_1 := blk_frozen BK200.out 1
      have hfz19_2 := blk_frozen BK200.out 2
      have hfz19_3 := blk_frozen BK200.out 3
      have hfz19_4 := blk_frozen BK200.out 4
      have hfz19_5 := blk_frozen BK200.out 5
      have hfz19_6 := blk_frozen BK200.out 6
      have hfz19_7 := blk_frozen BK200.out 7
      have hfz19_8 := blk_frozen BK200.out 8
      go_wp2
      go_meet
      case rel => exact ⟨_, (t193), (0), H', ⟨by first | omega | exact Nat.le_refl _⟩, ⟨by (with_reducible repeat (first | apply Kd.V_alloc | apply Kd.V_drewN | apply Kd.V_drew)); exact Kd.V_mono (Kd.V_far (p := ⟨gb200, 5, none⟩) (Kd.V_far (p := ⟨gb200, 4, none⟩) (Kd.V_far (p := ⟨gb200, 8, none⟩) (Kd.V_far (p := ⟨gb200, 7, none⟩) (Kd.V_far (p := ⟨gb200, 6, none⟩) (Kd.V_far (p := ⟨gb200, 5, none⟩) (Kd.V_far (p := ⟨gb200, 4, none⟩) (Kd.V_far (p := ⟨gb200, 3, none⟩) (Kd.V_far (p := ⟨gb200, 2, none⟩) (Kd.V_far (p := ⟨gb200, 1, none⟩) (Kd.V_far (p := ⟨gb200, 0, none⟩) (Kd.V_mono HO0.out (fun k_ hk => (⟨hk, hk.2⟩ : _ ∧ k_ ≠ gb200))) (fun _ hk => hk.2) (.slice none 0 0)) (fun _ hk => hk.2) (.slice none 0 0)) (fun _ hk => hk.2) (.int .i64 0)) (fun _ hk => hk.2) (.bool false)) (fun _ hk => hk.2) (.int .i64 0)) (fun _ hk => hk.2) (.int .i64 (-1))) (fun _ hk => hk.2) (.slice none 0 0)) (fun _ hk => hk.2) (.int .i64 0)) (fun _ hk => hk.2) (.int .i64 0)) (fun _ hk => hk.2) (.int .i64 t193)) (fun _ hk => hk.2) (.int .i64 0)) (fun _ hk => ⟨hk.1.1.1, ⟨hk.1.1.2, hk.1.2⟩⟩)⟩, ⟨by (with_reducible repeat (first | refine kN ?_ _ | refine kD ?_ | refine kA ?_ _)); refine blk_far ?_ NB187_200.out _; (with_reducible repeat (first | refine kN ?_ _ | refine kD ?_ | refine kA ?_ _)); refine blk_far ?_ NB187_200.out _; (with_reducible repeat (first | refine kN ?_ _ | refine kD ?_ | refine kA ?_ _)); refine blk_far ?_ NB187_200.out _; (with_reducible repeat (first | refine kN ?_ _ | refine kD ?_ | refine kA ?_ _)); refine blk_far ?_ NB187_200.out _; (with_reducible repeat (first | refine kN ?_ _ | refine kD ?_ | refine kA ?_ _)); refine blk_far ?_ NB187_200.out _; (with_reducible repeat (first | refine kN ?_ _ | refine kD ?_ | refine kA ?_ _)); refine blk_far ?_ NB187_200.out _; (with_reducible repeat (first | refine kN ?_ _ | refine kD ?_ | refine kA ?_ _)); refine blk_far ?_ NB187_200.out _; (with_reducible repeat (first | refine kN ?_ _ | refine kD ?_ | refine kA ?_ _)); refine blk_far ?_ NB187_200.out _; (with_reducible repeat (first | refine kN ?_ _ | refine kD ?_ | refine kA ?_ _)); refine blk_far ?_ NB187_200.out _; (with_reducible repeat (first | refine kN ?_ _ | refine kD ?_ | refine kA ?_ _)); refine blk_far ?_ NB187_200.out _; (with_reducible repeat (first | refine kN ?_ _ | refine kD ?_ | refine kA ?_ _)); refine blk_far ?_ NB187_200.out _; (with_reducible repeat (first | refine kN ?_ _ | refine kD ?_ | refine kA ?_ _)); exact BK187.out⟩, ⟨by (with_reducible repeat (first | refine kN ?_ _ | refine kD ?_ | refine kA ?_ _)); refine blk_put (cs := #[.slice none 0 0, .slice none 0 0, .int .i64 0, .bool false, .int .i64 t193, .int .i64 (-1), .slice none 0 0, .int .i64 0, .int .i64 0]) ?_ 5 _ rfl; (with_reducible repeat (first | refine kN ?_ _ | refine kD ?_ | refine kA ?_ _)); refine blk_put (cs := #[.slice none 0 0, .slice none 0 0, .int .i64 0, .bool false, .int .i64 0, .int .i64 (-1), .slice none 0 0, .int .i64 0, .int .i64 0]) ?_ 4 _ rfl; (with_reducible repeat (first | refine kN ?_ _ | refine kD ?_ | refine kA ?_ _)); refine blk_put (cs := #[.slice none 0 0, .slice none 0 0, .int .i64 0, .bool false, .int .i64 0, .int .i64 (-1), .slice none 0 0, .int .i64 0, .int .i64 0]) ?_ 8 _ rfl; (with_reducible repeat (first | refine kN ?_ _ | refine kD ?_ | refine kA ?_ _)); refine blk_put (cs := #[.slice none 0 0, .slice none 0 0, .int .i64 0, .bool false, .int .i64 0, .int .i64 (-1), .slice none 0 0, .int .i64 0, .int .i64 0]) ?_ 7 _ rfl; (with_reducible repeat (first | refine kN ?_ _ | refine kD ?_ | refine kA ?_ _)); refine blk_put (cs := #[.slice none 0 0, .slice none 0 0, .int .i64 0, .bool false, .int .i64 0, .int .i64 (-1), .slice none 0 0, .int .i64 0, .int .i64 0]) ?_ 6 _ rfl; (with_reducible repeat (first | refine kN ?_ _ | refine kD ?_ | refine kA ?_ _)); refine blk_put (cs := #[.slice none 0 0, .slice none 0 0, .int .i64 0, .bool false, .int .i64 0, .int .i64 0, .slice none 0 0, .int .i64 0, .int .i64 0]) ?_ 5 _ rfl; (with_reducible repeat (first | refine kN ?_ _ | refine kD ?_ | refine kA ?_ _)); refine blk_put (cs := #[.slice none 0 0, .slice none 0 0, .int .i64 0, .bool false, .int .i64 0, .int .i64 0, .slice none 0 0, .int .i64 0, .int .i64 0]) ?_ 4 _ rfl; (with_reducible repeat (first | refine kN ?_ _ | refine kD ?_ | refine kA ?_ _)); refine blk_put (cs := #[.slice none 0 0, .slice none 0 0, .int .i64 0, .bool false, .int .i64 0, .int .i64 0, .slice none 0 0, .int .i64 0, .int .i64 0]) ?_ 3 _ rfl; (with_reducible repeat (first | refine kN ?_ _ | refine kD ?_ | refine kA ?_ _)); refine blk_put (cs := #[.slice none 0 0, .slice none 0 0, .int .i64 0, .bool false, .int .i64 0, .int .i64 0, .slice none 0 0, .int .i64 0, .int .i64 0]) ?_ 2 _ rfl; (with_reducible repeat (first | refine kN ?_ _ | refine kD ?_ | refine kA ?_ _)); refine blk_put (cs := #[.slice none 0 0, .slice none 0 0, .int .i64 0, .bool false, .int .i64 0, .int .i64 0, .slice none 0 0, .int .i64 0, .int .i64 0]) ?_ 1 _ rfl; (with_reducible repeat (first | refine kN ?_ _ | refine kD ?_ | refine kA ?_ _)); refine blk_put (cs := #[.slice none 0 0, .slice none 0 0, .int .i64 0, .bool false, .int .i64 0, .int .i64 0, .slice none 0 0, .int .i64 0, .int .i64 0]) ?_ 0 _ rfl; (with_reducible repeat (first | refine kN ?_ _ | refine kD ?_ | refine kA ?_ _)); exact BK200.out⟩, ⟨by repeat (first | (with_reducible first | exact HB.out | apply bA | apply bN | apply bD | refine bS ?_ GE187.out | refine bS ?_ GE200.out) | exact HB.out)⟩⟩
     ·rw [if_neg c17] at H
      have c17b0 : decide (0 ≤ t193) = false := decide_eq_false c17
      clear c17
      (first | rw [c17b0] | (simp only [i64_w, i32_w]; rw [c17b0]) | skip)
      have H' := AM H
      clear H
      go_wp2
      go_meet
      case rel => exact ⟨_, (0), ((-1)), H', ⟨by first | omega | exact Nat.le_refl _⟩, ⟨by (with_reducible repeat (first | apply Kd.V_alloc | apply Kd.V_drewN | apply Kd.V_drew)); exact Kd.V_mono (Kd.V_far (p := ⟨gb200, 8, none⟩) (Kd.V_far (p := ⟨gb200, 7, none⟩) (Kd.V_far (p := ⟨gb200, 6, none⟩) (Kd.V_far (p := ⟨gb200, 5, none⟩) (Kd.V_far (p := ⟨gb200, 4, none⟩) (Kd.V_far (p := ⟨gb200, 3, none⟩) (Kd.V_far (p := ⟨gb200, 2, none⟩) (Kd.V_far (p := ⟨gb200, 1, none⟩) (Kd.V_far (p := ⟨gb200, 0, none⟩) (Kd.V_mono HO0.out (fun k_ hk => (⟨hk, hk.2⟩ : _ ∧ k_ ≠ gb200))) (fun _ hk => hk.2) (.slice none 0 0)) (fun _ hk => hk.2) (.slice none 0 0)) (fun _ hk => hk.2) (.int .i64 0)) (fun _ hk => hk.2) (.bool false)) (fun _ hk => hk.2) (.int .i64 0)) (fun _ hk => hk.2) (.int .i64 (-1))) (fun _ hk => hk.2) (.slice none 0 0)) (fun _ hk => hk.2) (.int .i64 0)) (fun _ hk => hk.2) (.int .i64 0)) (fun _ hk => ⟨hk.1.1.1, ⟨hk.1.1.2, hk.1.2⟩⟩)⟩, ⟨by (with_reducible repeat (first | refine kN ?_ _ | refine kD ?_ | refine kA ?_ _)); refine blk_far ?_ NB187_200.out _; (with_reducible repeat (first | refine kN ?_ _ | refine kD ?_ | refine kA ?_ _)); refine blk_far ?_ NB187_200.out _; (with_reducible repeat (first | refine kN ?_ _ | refine kD ?_ | refine kA ?_ _)); refine blk_far ?_ NB187_200.out _; (with_reducible repeat (first | refine kN ?_ _ | refine kD ?_ | refine kA ?_ _)); refine blk_far ?_ NB187_200.out _; (with_reducible repeat (first | refine kN ?_ _ | refine kD ?_ | refine kA ?_ _)); refine blk_far ?_ NB187_200.out _; (with_reducible repeat (first | refine kN ?_ _ | refine kD ?_ | refine kA ?_ _)); refine blk_far ?_ NB187_200.out _; (with_reducible repeat (first | refine kN ?_ _ | refine kD ?_ | refine kA ?_ _)); refine blk_far ?_ NB187_200.out _; (with_reducible repeat (first | refine kN ?_ _ | refine kD ?_ | refine kA ?_ _)); refine blk_far ?_ NB187_200.out _; (with_reducible repeat (first | refine kN ?_ _ | refine kD ?_ | refine kA ?_ _)); refine blk_far ?_ NB187_200.out _; (with_reducible repeat (first | refine kN ?_ _ | refine kD ?_ | refine kA ?_ _)); exact BK187.out⟩, ⟨by (with_reducible repeat (first | refine kN ?_ _ | refine kD ?_ | refine kA ?_ _)); refine blk_put (cs := #[.slice none 0 0, .slice none 0 0, .int .i64 0, .bool false, .int .i64 0, .int .i64 (-1), .slice none 0 0, .int .i64 0, .int .i64 0]) ?_ 8 _ rfl; (with_reducible repeat (first | refine kN ?_ _ | refine kD ?_ | refine kA ?_ _)); refine blk_put (cs := #[.slice none 0 0, .slice none 0 0, .int .i64 0, .bool false, .int .i64 0, .int .i64 (-1), .slice none 0 0, .int .i64 0, .int .i64 0]) ?_ 7 _ rfl; (with_reducible repeat (first | refine kN ?_ _ | refine kD ?_ | refine kA ?_ _)); refine blk_put (cs := #[.slice none 0 0, .slice none 0 0, .int .i64 0, .bool false, .int .i64 0, .int .i64 (-1), .slice none 0 0, .int .i64 0, .int .i64 0]) ?_ 6 _ rfl; (with_reducible repeat (first | refine kN ?_ _ | refine kD ?_ | refine kA ?_ _)); refine blk_put (cs := #[.slice none 0 0, .slice none 0 0, .int .i64 0, .bool false, .int .i64 0, .int .i64 0, .slice none 0 0, .int .i64 0, .int .i64 0]) ?_ 5 _ rfl; (with_reducible repeat (first | refine kN ?_ _ | refine kD ?_ | refine kA ?_ _)); refine blk_put (cs := #[.slice none 0 0, .slice none 0 0, .int .i64 0, .bool false, .int .i64 0, .int .i64 0, .slice none 0 0, .int .i64 0, .int .i64 0]) ?_ 4 _ rfl; (with_reducible repeat (first | refine kN ?_ _ | refine kD ?_ | refine kA ?_ _)); refine blk_put (cs := #[.slice none 0 0, .slice none 0 0, .int .i64 0, .bool false, .int .i64 0, .int .i64 0, .slice none 0 0, .int .i64 0, .int .i64 0]) ?_ 3 _ rfl; (with_reducible repeat (first | refine kN ?_ _ | refine kD ?_ | refine kA ?_ _)); refine blk_put (cs := #[.slice none 0 0, .slice none 0 0, .int .i64 0, .bool false, .int .i64 0, .int .i64 0, .slice none 0 0, .int .i64 0, .int .i64 0]) ?_ 2 _ rfl; (with_reducible repeat (first | refine kN ?_ _ | refine kD ?_ | refine kA ?_ _)); refine blk_put (cs := #[.slice none 0 0, .slice none 0 0, .int .i64 0, .bool false, .int .i64 0, .int .i64 0, .slice none 0 0, .int .i64 0, .int .i64 0]) ?_ 1 _ rfl; (with_reducible repeat (first | refine kN ?_ _ | refine kD ?_ | refine kA ?_ _)); refine blk_put (cs := #[.slice none 0 0, .slice none 0 0, .int .i64 0, .bool false, .int .i64 0, .int .i64 0, .slice none 0 0, .int .i64 0, .int .i64 0]) ?_ 0 _ rfl; (with_reducible repeat (first | refine kN ?_ _ | refine kD ?_ | refine kA ?_ _)); exact BK200.out⟩, ⟨by repeat (first | (with_reducible first | exact HB.out | apply bA | apply bN | apply bD | refine bS ?_ GE187.out | refine bS ?_ GE200.out) | exact HB.out)⟩⟩
    case rest =>
     clear HC7
     try clear c1
     try clear q1
     try clear c2
     try clear c2b0
     try clear c2b1
     try clear p2
     try clear c3
     try clear c4
     try clear c4b0
     try clear c4b1
     try clear c5
     try clear c5b0
     try clear c5b1
     try clear c7
     try clear q10
     try clear c11
     try clear q11
     try clear c15
     try clear c17
     try clear c17b0
     try clear c18
     try clear hcz16_0
     try clear hcz16_1
     try clear hcz16_2
     try clear hcz16_3
     try clear hcz16_4
     try clear hcz16_5
     try clear hcz16_6
     try clear hcz16_7
     try clear hcz16_8
     try clear hcz19_0
     try clear hcz19_1
     try clear hcz19_2
     try clear hcz19_3
     try clear hcz19_4
     try clear hcz19_5
     try clear hcz19_6
     try clear hcz19_7
     try clear hcz19_8
     try clear hfz16_0
     try clear hfz16_1
     try clear hfz16_2
     try clear hfz16_3
     try clear hfz16_4
     try clear hfz16_5
     try clear hfz16_6
     try clear hfz16_7
     try clear hfz16_8
     try clear hfz19_0
     try clear hfz19_1
     try clear hfz19_2
     try clear hfz19_3
     try clear hfz19_4
     try clear hfz19_5
     try clear hfz19_6
     try clear hfz19_7
     try clear hfz19_8
     try clear q10
     try clear q11
     obtain ⟨kq, x201004_6, x201005_6, HA, HJ6, HO_0, BK187, BK200, HB⟩ := hcut
     cases kq with
     | zero => exact absurd HA.out (by simp [lineageref15_Scan.j0])
     | succ kj6 =>
      have H := HA.out
      clear HA
      simp only [lineageref15_Scan.j0] at H
      have HC20 := AM H
      clear H
      go_upto_if 23 with (fail)
      go_cut [] (fun wc => ∃ (kq : Nat) (x201004_19 : Int) (x201005_19 : Int), Aside0 (lineageref15_Scan.j1 kq l0 0 false x201004_19 x201005_19 0 0 = some (r1, r2, r3, r4, r5, r6, r7, r8, r9)) ∧ Aside0 (kq ≤ kj6) ∧ Aside0 (Kd.V (Kd.int .u8) 5 wc w.heap.size (fun k_ => (P0_ k_ ∨ w.heap.size ≤ k_) ∧ k_ ≠ gb187 ∧ k_ ≠ gb200) (.slice A0 l0.length c0) l0) ∧ Aside0 (wc.heap[gb187]? = some (.cells #[(.slice none 0 0), (.slice none 0 0), .int .i64 0, .bool false, .int .i64 0, .int .i64 0, (.slice none 0 0), .int .i64 0, .int .i64 0] 64 (0, 0))) ∧ Aside0 (wc.heap[gb200]? = some (.cells #[(.slice none 0 0), (.slice none 0 0), .int .i64 0, .bool false, .int .i64 x201004_19, .int .i64 x201005_19, (.slice none 0 0), .int .i64 0, .int .i64 0] 64 (0, 0))) ∧ Aside0 (Below w.heap.size w wc))
      case first =>
       have H := HC20.out
       clear HC20
       by_cases c21 : t199 > t193
       ·rw [if_pos c21] at H
        have c21b0 : decide (t193 < t199) = true := decide_eq_true c21
        clear c21
        (first | rw [c21b0] | (simp only [i64_w, i32_w]; rw [c21b0]) | skip)
        have H' := AM H
        clear H
        have hnb22 := NB200_187.out
        have hnc22 := NB187_200.out
        have hcz23_0 : wc.cell? ⟨gb200, 0, none⟩ = some (.slice none 0 0) := (blk_cell BK200.out 0).trans rfl
        have hcz23_1 : wc.cell? ⟨gb200, 1, none⟩ = some (.slice none 0 0) := (blk_cell BK200.out 1).trans rfl
        have hcz23_2 : wc.cell? ⟨gb200, 2, none⟩ = some (.int .i64 0) := (blk_cell BK200.out 2).trans rfl
        have hcz23_3 : wc.cell? ⟨gb200, 3, none⟩ = some (.bool false) := (blk_cell BK200.out 3).trans rfl
        have hcz23_4 : wc.cell? ⟨gb200, 4, none⟩ = some (.int .i64 x201004_6) := (blk_cell BK200.out 4).trans rfl
        have hcz23_5 : wc.cell? ⟨gb200, 5, none⟩ = some (.int .i64 x201005_6) := (blk_cell BK200.out 5).trans rfl
        have hcz23_6 : wc.cell? ⟨gb200, 6, none⟩ = some (.slice none 0 0) := (blk_cell BK200.out 6).trans rfl
        have hcz23_7 : wc.cell? ⟨gb200, 7, none⟩ = some (.int .i64 0) := (blk_cell BK200.out 7).trans rfl
        have hcz23_8 : wc.cell? ⟨gb200, 8, none⟩ = some (.int .i64 0) := (blk_cell BK200.out 8).trans rfl
        have hfz23_0 := blk_frozen BK200.out 0
        have hfz23_1 := blk_frozen BK200.out 1
        have hfz23_2 := blk_frozen BK200.out 2
        have hfz23_3 := blk_frozen BK200.out 3
        have hfz23_4 := blk_frozen BK200.out 4
        have hfz23_5 := blk_frozen BK200.out 5
        have hfz23_6 := blk_frozen BK200.out 6
        have hfz23_7 := blk_frozen BK200.out 7
        have hfz23_8 := blk_frozen BK200.out 8
        go_wp2
        go_meet
        case rel => exact ⟨_, (t199), (1), H', ⟨by have := HJ6.out; first | omega | exact Nat.le_refl _⟩, ⟨by (with_reducible repeat (first | apply Kd.V_alloc | apply Kd.V_drewN | apply Kd.V_drew)); exact Kd.V_mono (Kd.V_far (p := ⟨gb200, 5, none⟩) (Kd.V_far (p := ⟨gb200, 4, none⟩) (Kd.V_mono HO_0.out (fun k_ hk => (⟨hk, hk.2.2⟩ : _ ∧ k_ ≠ gb200))) (fun _ hk => hk.2) (.int .i64 t199)) (fun _ hk => hk.2) (.int .i64 1)) (fun _ hk => ⟨hk.1.1, ⟨hk.1.2.1, hk.1.2.2⟩⟩)⟩, ⟨by (with_reducible repeat (first | refine kN ?_ _ | refine kD ?_ | refine kA ?_ _)); refine blk_far ?_ NB187_200.out _; (with_reducible repeat (first | refine kN ?_ _ | refine kD ?_ | refine kA ?_ _)); refine blk_far ?_ NB187_200.out _; (with_reducible repeat (first | refine kN ?_ _ | refine kD ?_ | refine kA ?_ _)); exact BK187.out⟩, ⟨by (with_reducible repeat (first | refine kN ?_ _ | refine kD ?_ | refine kA ?_ _)); refine blk_put (cs := #[.slice none 0 0, .slice none 0 0, .int .i64 0, .bool false, .int .i64 t199, .int .i64 x201005_6, .slice none 0 0, .int .i64 0, .int .i64 0]) ?_ 5 _ rfl; (with_reducible repeat (first | refine kN ?_ _ | refine kD ?_ | refine kA ?_ _)); refine blk_put (cs := #[.slice none 0 0, .slice none 0 0, .int .i64 0, .bool false, .int .i64 x201004_6, .int .i64 x201005_6, .slice none 0 0, .int .i64 0, .int .i64 0]) ?_ 4 _ rfl; (with_reducible repeat (first | refine kN ?_ _ | refine kD ?_ | refine kA ?_ _)); exact BK200.out⟩, ⟨by repeat (first | (with_reducible first | exact HB.out | apply bA | apply bN | apply bD | refine bS ?_ GE187.out | refine bS ?_ GE200.out) | exact HB.out)⟩⟩
       ·rw [if_neg c21] at H
        have c21b0 : decide (t193 < t199) = false := decide_eq_false c21
        clear c21
        (first | rw [c21b0] | (simp only [i64_w, i32_w]; rw [c21b0]) | skip)
        have H' := AM H
        clear H
        go_wp2
        go_meet
        case rel => exact ⟨_, (x201004_6), (x201005_6), H', ⟨by have := HJ6.out; first | omega | exact Nat.le_refl _⟩, ⟨by (with_reducible repeat (first | apply Kd.V_alloc | apply Kd.V_drewN | apply Kd.V_drew)); exact HO_0.out⟩, ⟨by (with_reducible repeat (first | refine kN ?_ _ | refine kD ?_ | refine kA ?_ _)); exact BK187.out⟩, ⟨by (with_reducible repeat (first | refine kN ?_ _ | refine kD ?_ | refine kA ?_ _)); exact BK200.out⟩, ⟨by repeat (first | (with_reducible first | exact HB.out | apply bA | apply bN | apply bD | refine bS ?_ GE187.out | refine bS ?_ GE200.out) | exact HB.out)⟩⟩
      case rest =>
       clear HC20
       try clear c1
       try clear q1
       try clear c2
       try clear c2b0
       try clear c2b1
       try clear p2
       try clear c3
       try clear c4
       try clear c4b0
       try clear c4b1
       try clear c5
       try clear c5b0
       try clear c5b1
       try clear c7
       try clear q10
       try clear c11
       try clear q11
       try clear c15
       try clear c17
       try clear c17b0
       try clear c18
       try clear c21
       try clear c21b0
       try clear c22
       try clear hcz16_0
       try clear hcz16_1
       try clear hcz16_2
       try clear hcz16_3
       try clear hcz16_4
       try clear hcz16_5
       try clear hcz16_6
       try clear hcz16_7
       try clear hcz16_8
       try clear hcz19_0
       try clear hcz19_1
       try clear hcz19_2
       try clear hcz19_3
       try clear hcz19_4
       try clear hcz19_5
       try clear hcz19_6
       try clear hcz19_7
       try clear hcz19_8
       try clear hcz23_0
       try clear hcz23_1
       try clear hcz23_2
       try clear hcz23_3
       try clear hcz23_4
       try clear hcz23_5
       try clear hcz23_6
       try clear hcz23_7
       try clear hcz23_8
       try clear hfz16_0
       try clear hfz16_1
       try clear hfz16_2
       try clear hfz16_3
       try clear hfz16_4
       try clear hfz16_5
       try clear hfz16_6
       try clear hfz16_7
       try clear hfz16_8
       try clear hfz19_0
       try clear hfz19_1
       try clear hfz19_2
       try clear hfz19_3
       try clear hfz19_4
       try clear hfz19_5
       try clear hfz19_6
       try clear hfz19_7
       try clear hfz19_8
       try clear hfz23_0
       try clear hfz23_1
       try clear hfz23_2
       try clear hfz23_3
       try clear hfz23_4
       try clear hfz23_5
       try clear hfz23_6
       try clear hfz23_7
       try clear hfz23_8
       try clear p2
       try clear q1
       try clear q10
       try clear q11
       obtain ⟨kq, x201004_19, x201005_19, HA, HJ19, HO_0, BK187, BK200, HB⟩ := hcut
       cases kq with
       | zero => exact absurd HA.out (by simp [lineageref15_Scan.j1])
       | succ kj19 =>
        have H := HA.out
        clear HA
        simp only [lineageref15_Scan.j1] at H
        have H' := AM H
        clear H
        go_wp2
        go_loopg [6] kj19 (fun kq v6 w' => ∃ (x6_3 : Int) (x201006_3 : List (S73)) (u201006 : Value), v6 = .int .i64 x6_3 ∧ Aside0 (lineageref15_Scan.l0 kq l0 x6_3 0 false x201004_19 x201005_19 x201006_3 0 0 = some (r1, r2, r3, r4, r5, r6, r7, r8, r9)) ∧ Aside0 (kq ≤ kj19) ∧ Aside0 (Kd.V (Kd.int .u8) 5 w' w.heap.size (fun k_ => (P0_ k_ ∨ w.heap.size ≤ k_) ∧ some k_ ≠ (u201006 : Value).ownBlock ∧ k_ ≠ gb187 ∧ k_ ≠ gb200) (.slice A0 l0.length c0) l0) ∧ Aside0 (Kd.N k73 73 w' w.heap.size (fun k_ => (P0_ k_ ∨ w.heap.size ≤ k_) ∧ k_ ≠ gb187 ∧ k_ ≠ gb200) u201006 x201006_3) ∧ Aside0 (w'.heap[gb187]? = some (.cells #[(.slice none 0 0), (.slice none 0 0), .int .i64 0, .bool false, .int .i64 0, .int .i64 0, (.slice none 0 0), .int .i64 0, .int .i64 0] 64 (0, 0))) ∧ Aside0 (w'.heap[gb200]? = some (.cells #[(.slice none 0 0), (.slice none 0 0), .int .i64 0, .bool false, .int .i64 x201004_19, .int .i64 x201005_19, u201006, .int .i64 0, .int .i64 0] 64 (0, 0))) ∧ Aside0 (Below w.heap.size w w'))
        case atStart => exact ⟨(24), (([] : List (S73))), (.slice none 0 0), (by first | rfl | (simp; done) | (simp [*]; done)), H', ⟨Nat.le_refl _⟩, ⟨by (with_reducible repeat (first | apply Kd.V_alloc | apply Kd.V_drewN | apply Kd.V_drew)); exact Kd.V_mono HO_0.out (fun _ hk => ⟨hk.1, ⟨(by simp [Value.ownBlock]), ⟨hk.2.1, hk.2.2⟩⟩⟩)⟩, ⟨by first | exact Kd.S_nil _ _ _ _ _ | exact Kd.N_nil _ _ _ _ _ | exact Kd.V_nil _ _ _ _ _ | exact Kd.Q_nil _ _ _ _ _ | exact Kd.R_nil _ _ _ _ _⟩, ⟨by (with_reducible repeat (first | refine kN ?_ _ | refine kD ?_ | refine kA ?_ _)); exact BK187.out⟩, ⟨by (with_reducible repeat (first | refine kN ?_ _ | refine kD ?_ | refine kA ?_ _)); exact BK200.out⟩, ⟨by repeat (first | (with_reducible first | exact HB.out | apply bA | apply bN | apply bD | refine bS ?_ GE187.out | refine bS ?_ GE200.out) | exact HB.out)⟩⟩
        case round =>
         clear H'
         try clear c1
         try clear q1
         try clear c2
         try clear c2b0
         try clear c2b1
         try clear p2
         try clear c3
         try clear c4
         try clear c4b0
         try clear c4b1
         try clear c5
         try clear c5b0
         try clear c5b1
         try clear c7
         try clear q10
         try clear c11
         try clear q11
         try clear c15
         try clear c17
         try clear c17b0
         try clear c18
         try clear c21
         try clear c21b0
         try clear c22
         try clear hcz16_0
         try clear hcz16_1
         try clear hcz16_2
         try clear hcz16_3
         try clear hcz16_4
         try clear hcz16_5
         try clear hcz16_6
         try clear hcz16_7
         try clear hcz16_8
         try clear hcz19_0
         try clear hcz19_1
         try clear hcz19_2
         try clear hcz19_3
         try clear hcz19_4
         try clear hcz19_5
         try clear hcz19_6
         try clear hcz19_7
         try clear hcz19_8
         try clear hcz23_0
         try clear hcz23_1
         try clear hcz23_2
         try clear hcz23_3
         try clear hcz23_4
         try clear hcz23_5
         try clear hcz23_6
         try clear hcz23_7
         try clear hcz23_8
         try clear hfz16_0
         try clear hfz16_1
         try clear hfz16_2
         try clear hfz16_3
         try clear hfz16_4
         try clear hfz16_5
         try clear hfz16_6
         try clear hfz16_7
         try clear hfz16_8
         try clear hfz19_0
         try clear hfz19_1
         try clear hfz19_2
         try clear hfz19_3
         try clear hfz19_4
         try clear hfz19_5
         try clear hfz19_6
         try clear hfz19_7
         try clear hfz19_8
         try clear hfz23_0
         try clear hfz23_1
         try clear hfz23_2
         try clear hfz23_3
         try clear hfz23_4
         try clear hfz23_5
         try clear hfz23_6
         try clear hfz23_7
         try clear hfz23_8
         try clear p2
         try clear q1
         try clear q10
         try clear q11
         obtain ⟨x6_3, x201006_3, u201006, rfl, HA, HK3, HO_0, HO_201006, BK187, BK200, HB⟩ := hrel
         cases gk with
         | zero => exact absurd HA.out (by simp [lineageref15_Scan.l0])
         | succ k3 =>
          have H := HA.out
          clear HA
          simp only [lineageref15_Scan.l0] at H
          by_cases c24 : (wrap64 (x6_3 + 16)) ≤ (l0.length : Int)
          ·rw [if_pos c24] at H
           have c24b0 : decide ((wrap64 (x6_3 + 16)) ≤ (l0.length : Int)) = true := decide_eq_true c24
           clear c24
           by_cases c25 : 0 ≤ x6_3
           ·rw [if_pos c25] at H
            have c25b0 := eq_true c25
            have c25b1 : decide (0 ≤ x6_3) = true := decide_eq_true c25
            clear c25
            by_cases c26 : x6_3 ≤ (wrap64 (x6_3 + 4))
            ·rw [if_pos c26] at H
             have c26b0 := eq_true c26
             have c26b1 : decide (x6_3 ≤ (wrap64 (x6_3 + 4))) = true := decide_eq_true c26
             by_cases c27 : (wrap64 (x6_3 + 4)) ≤ (l0.length : Int)
             ·rw [if_pos c27] at H
              have c27b0 := eq_true c27
              have c27b1 : decide ((wrap64 (x6_3 + 4)) ≤ (l0.length : Int)) = true := decide_eq_true c27
              obtain ⟨y201, hy201⟩ : ∃ y_ : List Int, y_ = ((l0.take ((wrap64 (x6_3 + 4)) : Int).toNat).drop (x6_3 : Int).toNat) := ⟨_, rfl⟩
              replace H : ((lineageref15_value.f k3 y201).bind fun t206 => (if t206 > (IntKind.u64.wrap (wrap64 ((wrap64 ((l0.length : Int) - x6_3)) - 16))) then (some (([] : List Int), ([] : List (S119)), 0, false, x201004_19, x201005_19, x201006_3, wrap64 ((wrap64 (x201004_19 + x6_3)) - 24), 0)) else (if 0 ≤ (wrap64 (x6_3 + 16)) then (if (wrap64 (x6_3 + 16)) ≤ (wrap64 ((wrap64 (x6_3 + 16)) + (wrap64 (t206)))) then (if (wrap64 ((wrap64 (x6_3 + 16)) + (wrap64 (t206)))) ≤ (l0.length : Int) then ((lineageref15_Frame.f k3 (wrap64 ((wrap64 (x201004_19 + x6_3)) - 24)) ((l0.take ((wrap64 ((wrap64 (x6_3 + 16)) + (wrap64 (t206)))) : Int).toNat).drop ((wrap64 (x6_3 + 16)) : Int).toNat)).bind fun t212 => (if x6_3 ≤ (wrap64 ((wrap64 (x6_3 + 16)) + (wrap64 (t206)))) then ((lineageref13_Same.f k3 t212 ((l0.take ((wrap64 ((wrap64 (x6_3 + 16)) + (wrap64 (t206)))) : Int).toNat).drop (x6_3 : Int).toNat)).bind fun t220 => (if t220 = true then (if x201006_3.length < 4398046511104 then (lineageref15_Scan.l0 k3 l0 (wrap64 ((wrap64 (x6_3 + 16)) + (wrap64 (t206)))) 0 false x201004_19 x201005_19 (x201006_3 ++ [(⟨wrap64 ((wrap64 (x201004_19 + x6_3)) - 24), ((l0.take ((wrap64 ((wrap64 (x6_3 + 16)) + (wrap64 (t206)))) : Int).toNat).drop ((wrap64 (x6_3 + 16)) : Int).toNat)⟩ : S73)]) 0 0) else (none)) else (some (([] : List Int), ([] : List (S119)), 0, false, x201004_19, x201005_19, x201006_3, wrap64 ((wrap64 (x201004_19 + x6_3)) - 24), 0)))) else (none))) else (none)) else (none)) else (none)))) = some (r1, r2, r3, r4, r5, r6, r7, r8, r9) := by first | (rw [hy201]; with_reducible exact H) | (have H2_ := (Option.bind_some _ _).symm.trans H; rw [hy201]; with_reducible exact H2_) | (have H2_ := (Option.bind_some _ _).symm.trans H; with_reducible exact H2_) | with_reducible exact H | (rw [hy201]; exact H) | exact H
              have Ny201 := AM hy201
              clear hy201
              replace H := Option.bind_eq_some_iff.mp H
              obtain ⟨t206, A280, H⟩ := H
              replace H : (if t206 > (IntKind.u64.wrap (wrap64 ((wrap64 ((l0.length : Int) - x6_3)) - 16))) then (some (([] : List Int), ([] : List (S119)), 0, false, x201004_19, x201005_19, x201006_3, wrap64 ((wrap64 (x201004_19 + x6_3)) - 24), 0)) else (if 0 ≤ (wrap64 (x6_3 + 16)) then (if (wrap64 (x6_3 + 16)) ≤ (wrap64 ((wrap64 (x6_3 + 16)) + (wrap64 (t206)))) then (if (wrap64 ((wrap64 (x6_3 + 16)) + (wrap64 (t206)))) ≤ (l0.length : Int) then ((lineageref15_Frame.f k3 (wrap64 ((wrap64 (x201004_19 + x6_3)) - 24)) ((l0.take ((wrap64 ((wrap64 (x6_3 + 16)) + (wrap64 (t206)))) : Int).toNat).drop ((wrap64 (x6_3 + 16)) : Int).toNat)).bind fun t212 => (if x6_3 ≤ (wrap64 ((wrap64 (x6_3 + 16)) + (wrap64 (t206)))) then ((lineageref13_Same.f k3 t212 ((l0.take ((wrap64 ((wrap64 (x6_3 + 16)) + (wrap64 (t206)))) : Int).toNat).drop (x6_3 : Int).toNat)).bind fun t220 => (if t220 = true then (if x201006_3.length < 4398046511104 then (lineageref15_Scan.l0 k3 l0 (wrap64 ((wrap64 (x6_3 + 16)) + (wrap64 (t206)))) 0 false x201004_19 x201005_19 (x201006_3 ++ [(⟨wrap64 ((wrap64 (x201004_19 + x6_3)) - 24), ((l0.take ((wrap64 ((wrap64 (x6_3 + 16)) + (wrap64 (t206)))) : Int).toNat).drop ((wrap64 (x6_3 + 16)) : Int).toNat)⟩ : S73)]) 0 0) else (none)) else (some (([] : List Int), ([] : List (S119)), 0, false, x201004_19, x201005_19, x201006_3, wrap64 ((wrap64 (x201004_19 + x6_3)) - 24), 0)))) else (none))) else (none)) else (none)) else (none))) = some (r1, r2, r3, r4, r5, r6, r7, r8, r9) := H
              have A28 := AM A280
              clear A280
              by_cases c29 : t206 > (IntKind.u64.wrap (wrap64 ((wrap64 ((l0.length : Int) - x6_3)) - 16)))
              ·rw [if_pos c29] at H
               have c29b0 : decide ((IntKind.u64.wrap (wrap64 ((wrap64 ((l0.length : Int) - x6_3)) - 16))) < t206) = true := decide_eq_true c29
               clear c29
               simp only [Option.some.injEq, Prod.mk.injEq] at H
               obtain ⟨rfl, rfl, rfl, rfl, rfl, rfl, rfl, rfl, rfl⟩ := H
               have q30 : ((wrap64 (x6_3 + 4)) : Int) ≤ ((l0.length : Int) : Int) := of_decide_eq_true (by first | (with_reducible assumption) | assumption)
               obtain ⟨i030, hi030, _, hsz30, _⟩ := info_parts info5
               have hroom30 : l0.length ≤ c0 := (Kd.V_reads' HO_0.out).2.1
               have hC30 : Kd.F (Kd.int .u8) _ _ A0 l0.length l0 := (Kd.V_at (base := w.heap.size) HO_0.out).2.2
               have ql30 : (x6_3 : Int) ≤ ((wrap64 (x6_3 + 4)) : Int) := of_decide_eq_true (by first | (with_reducible assumption) | assumption)
               have q030 : (0 : Int) ≤ (x6_3 : Int) := of_decide_eq_true (by first | (with_reducible assumption) | assumption)
               have hcut30 := cut_mid (P := Try.prog) 29 5 .i64 .i64 Try.underlying29 hi030 1 hsz30 A0 l0.length c0 x6_3 (wrap64 (x6_3 + 4)) q030 ql30 q30 hroom30
               have hr30 := Kd.F_mid (lo := (x6_3 : Int).toNat) (hi := ((wrap64 (x6_3 + 4)) : Int).toNat) (c := c0) hC30 (by omega) (by omega) hroom30
               obtain ⟨A30, hA30⟩ : ∃ A1, A1 = (if c0 = (x6_3 : Int).toNat then A0 else (A0 : Option Addr).map (·.add ((x6_3 : Int).toNat * 1))) := ⟨_, rfl⟩
               obtain ⟨c30, hc30⟩ : ∃ c1, c1 = c0 - (x6_3 : Int).toNat := ⟨_, rfl⟩
               have hy30 : y201.length = ((wrap64 (x6_3 + 4)) : Int).toNat - (x6_3 : Int).toNat := (by rw [Ny201.out, List.length_drop, List.length_take] <;> omega)
               rw [show ((l0).take ((wrap64 (x6_3 + 4)) : Int).toNat).drop (x6_3 : Int).toNat = y201 from Ny201.out.symm] at hr30
               replace hr30 : Kd.F (Kd.int .u8) _ _ A30 y201.length y201 := (by rw [hA30]; exact hr30)
               rw [← hy30, ← hA30, ← hc30] at hcut30
               have HO205 := AM (show Kd.V (Kd.int .u8) 5 _ w.heap.size _ (.slice A30 y201.length c30) y201 from Kd.V_mk (by rw [hy30, hc30]; exact Nat.sub_le_sub_right (Nat.le_trans (by omega) hroom30) _) hr30)
               have HC205 := AM (show y201.length ≤ c30 from by rw [hy30, hc30]; exact Nat.sub_le_sub_right (Nat.le_trans (by omega) hroom30) _)
               clear hr30 hC30 hroom30 hi030 hsz30 hc30
               have KY30 := AM hy30
               have KA30 := AM hA30
               clear hy30 hA30
               replace q30 := eq_true q30
               go_wp2_with (first | ((with_reducible refine gate_callee (f := 74) rfl ?_); refine goesL_ (some 37) rfl rfl Try.func74 (by kernel_rfl) rfl #[.slice A30 y201.length c30] rfl (by (try simp only [List.map_toArray, List.map_cons, List.map_nil]); first | done | rfl | (simp only [List.length_drop, List.length_take]; rfl)) ?_; (with_reducible refine (lineageref15_value.calls k3 _ _ y201 t206 _ ?side1 ?side2 A28.out).mono ?_); (case side1 => repeat (first | exact (Kd.V_reads' HO205.out).2.2 | (with_reducible refine Kd.C_alloc ?_ _) | (with_reducible refine Kd.C_drewN ?_ _) | (with_reducible refine Kd.C_drew ?_))); (case side2 => exact (Kd.V_reads' HO205.out).2.1); rintro e w' ⟨rfl, ⟨nd, rfl⟩⟩; refine ⟨_, rfl, ?_⟩; (try (rw [drewN_self wr]; generalize hq_ : World.drewN wr _ = wr; have n0_ : Aside0 (Kd.V (Kd.int .u8) 5 wr w.heap.size (fun k_ => (P0_ k_ ∨ w.heap.size ≤ k_) ∧ some k_ ≠ (u201006 : Value).ownBlock ∧ k_ ≠ gb187 ∧ k_ ≠ gb200) (.slice A30 y201.length c30) y201) := ⟨by rw [← hq_]; exact (by (with_reducible repeat (first | apply Kd.V_alloc | apply Kd.V_drewN | apply Kd.V_drew)); exact HO205.out)⟩; have n1_ : Aside0 (Kd.V (Kd.int .u8) 5 wr w.heap.size (fun k_ => (P0_ k_ ∨ w.heap.size ≤ k_) ∧ some k_ ≠ (u201006 : Value).ownBlock ∧ k_ ≠ gb187 ∧ k_ ≠ gb200) (.slice A0 l0.length c0) l0) := ⟨by rw [← hq_]; exact (by (with_reducible repeat (first | apply Kd.V_alloc | apply Kd.V_drewN | apply Kd.V_drew)); exact HO_0.out)⟩; have n2_ : Aside0 (Kd.N k73 73 wr w.heap.size (fun k_ => (P0_ k_ ∨ w.heap.size ≤ k_) ∧ k_ ≠ gb187 ∧ k_ ≠ gb200) u201006 x201006_3) := ⟨by rw [← hq_]; exact (by (with_reducible repeat (first | apply Kd.N_alloc | apply Kd.N_drewN | apply Kd.N_drew)); exact HO_201006.out)⟩; have n3_ : Aside0 (wr.heap[gb187]? = some (.cells #[.slice none 0 0, .slice none 0 0, .int .i64 0, .bool false, .int .i64 0, .int .i64 0, .slice none 0 0, .int .i64 0, .int .i64 0] 64 (0, 0))) := ⟨by rw [← hq_]; exact (by (with_reducible repeat (first | refine kN ?_ _ | refine kD ?_ | refine kA ?_ _)); exact BK187.out)⟩; have n4_ : Aside0 (wr.heap[gb200]? = some (.cells #[.slice none 0 0, .slice none 0 0, .int .i64 0, .bool false, .int .i64 x201004_19, .int .i64 x201005_19, u201006, .int .i64 0, .int .i64 0] 64 (0, 0))) := ⟨by rw [← hq_]; exact (by (with_reducible repeat (first | refine kN ?_ _ | refine kD ?_ | refine kA ?_ _)); exact BK200.out)⟩; have n5_ : Aside0 (Below w.heap.size w wr) := ⟨by rw [← hq_]; exact (by repeat (first | (with_reducible first | exact HB.out | apply bA | apply bN | apply bD | refine bS ?_ GE187.out | refine bS ?_ GE200.out) | exact HB.out))⟩; clear HO205 HO_0 HO_201006 BK187 BK200 HB hq_; have HO205 := n0_; have HO_0 := n1_; have HO_201006 := n2_; have BK187 := n3_; have BK200 := n4_; have HB := n5_; clear n0_ n1_ n2_ n3_ n4_ n5_)); have hnb31 := NB200_187.out; have hnc31 := NB187_200.out; have hcz32_0 : wr.cell? ⟨gb200, 0, none⟩ = some (.slice none 0 0) := (blk_cell BK200.out 0).trans rfl; have hcz32_1 : wr.cell? ⟨gb200, 1, none⟩ = some (.slice none 0 0) := (blk_cell BK200.out 1).trans rfl; have hcz32_2 : wr.cell? ⟨gb200, 2, none⟩ = some (.int .i64 0) := (blk_cell BK200.out 2).trans rfl; have hcz32_3 : wr.cell? ⟨gb200, 3, none⟩ = some (.bool false) := (blk_cell BK200.out 3).trans rfl; have hcz32_4 : wr.cell? ⟨gb200, 4, none⟩ = some (.int .i64 x201004_19) := (blk_cell BK200.out 4).trans rfl; have hcz32_5 : wr.cell? ⟨gb200, 5, none⟩ = some (.int .i64 x201005_19) := (blk_cell BK200.out 5).trans rfl; have hcz32_6 : wr.cell? ⟨gb200, 6, none⟩ = some (u201006) := (blk_cell BK200.out 6).trans rfl; have hcz32_7 : wr.cell? ⟨gb200, 7, none⟩ = some (.int .i64 0) := (blk_cell BK200.out 7).trans rfl; have hcz32_8 : wr.cell? ⟨gb200, 8, none⟩ = some (.int .i64 0) := (blk_cell BK200.out 8).trans rfl; have hfz32_0 := blk_frozen BK200.out 0; have hfz32_1 := blk_frozen BK200.out 1; have hfz32_2 := blk_frozen BK200.out 2; have hfz32_3 := blk_frozen BK200.out 3; have hfz32_4 := blk_frozen BK200.out 4; have hfz32_5 := blk_frozen BK200.out 5; have hfz32_6 := blk_frozen BK200.out 6; have hfz32_7 := blk_frozen BK200.out 7; have hfz32_8 := blk_frozen BK200.out 8; have hcz33_0 : wr.cell? ⟨gb187, 0, none⟩ = some (.slice none 0 0) := (blk_cell BK187.out 0).trans rfl; have hcz33_1 : wr.cell? ⟨gb187, 1, none⟩ = some (.slice none 0 0) := (blk_cell BK187.out 1).trans rfl; have hcz33_2 : wr.cell? ⟨gb187, 2, none⟩ = some (.int .i64 0) := (blk_cell BK187.out 2).trans rfl; have hcz33_3 : wr.cell? ⟨gb187, 3, none⟩ = some (.bool false) := (blk_cell BK187.out 3).trans rfl; have hcz33_4 : wr.cell? ⟨gb187, 4, none⟩ = some (.int .i64 0) := (blk_cell BK187.out 4).trans rfl; have hcz33_5 : wr.cell? ⟨gb187, 5, none⟩ = some (.int .i64 0) := (blk_cell BK187.out 5).trans rfl; have hcz33_6 : wr.cell? ⟨gb187, 6, none⟩ = some (.slice none 0 0) := (blk_cell BK187.out 6).trans rfl; have hcz33_7 : wr.cell? ⟨gb187, 7, none⟩ = some (.int .i64 0) := (blk_cell BK187.out 7).trans rfl; have hcz33_8 : wr.cell? ⟨gb187, 8, none⟩ = some (.int .i64 0) := (blk_cell BK187.out 8).trans rfl; have hfz33_0 := blk_frozen BK187.out 0; have hfz33_1 := blk_frozen BK187.out 1; have hfz33_2 := blk_frozen BK187.out 2; have hfz33_3 := blk_frozen BK187.out 3; have hfz33_4 := blk_frozen BK187.out 4; have hfz33_5 := blk_frozen BK187.out 5; have hfz33_6 := blk_frozen BK187.out 6; have hfz33_7 := blk_frozen BK187.out 7; have hfz33_8 := blk_frozen BK187.out 8; obtain ⟨Ao34, co34, eo34⟩ := Kd.N_slice HO_201006.out; subst eo34))
               refine bodyPost_ret (results_cell_row rfl _ _ gb187 64 #[.slice none 0 0, .slice none 0 0, .int .i64 0, .bool false, .int .i64 x201004_19, .int .i64 x201005_19, .slice Ao34 x201006_3.length co34, .int .i64 (wrap64 ((wrap64 (x201004_19 + x6_3)) - 24)), .int .i64 0] (0, 0) _ rfl (by (with_reducible repeat (first | refine kN ?_ _ | refine kD ?_ | refine kA ?_ _)); refine blk_put (cs := #[.slice none 0 0, .slice none 0 0, .int .i64 0, .bool false, .int .i64 x201004_19, .int .i64 x201005_19, .slice Ao34 x201006_3.length co34, .int .i64 (wrap64 ((wrap64 (x201004_19 + x6_3)) - 24)), .int .i64 0]) ?_ 8 _ rfl; (with_reducible repeat (first | refine kN ?_ _ | refine kD ?_ | refine kA ?_ _)); refine blk_put (cs := #[.slice none 0 0, .slice none 0 0, .int .i64 0, .bool false, .int .i64 x201004_19, .int .i64 x201005_19, .slice Ao34 x201006_3.length co34, .int .i64 0, .int .i64 0]) ?_ 7 _ rfl; (with_reducible repeat (first | refine kN ?_ _ | refine kD ?_ | refine kA ?_ _)); refine blk_put (cs := #[.slice none 0 0, .slice none 0 0, .int .i64 0, .bool false, .int .i64 x201004_19, .int .i64 x201005_19, .slice none 0 0, .int .i64 0, .int .i64 0]) ?_ 6 _ rfl; (with_reducible repeat (first | refine kN ?_ _ | refine kD ?_ | refine kA ?_ _)); refine blk_put (cs := #[.slice none 0 0, .slice none 0 0, .int .i64 0, .bool false, .int .i64 x201004_19, .int .i64 0, .slice none 0 0, .int .i64 0, .int .i64 0]) ?_ 5 _ rfl; (with_reducible repeat (first | refine kN ?_ _ | refine kD ?_ | refine kA ?_ _)); refine blk_put (cs := #[.slice none 0 0, .slice none 0 0, .int .i64 0, .bool false, .int .i64 0, .int .i64 0, .slice none 0 0, .int .i64 0, .int .i64 0]) ?_ 4 _ rfl; (with_reducible repeat (first | refine kN ?_ _ | refine kD ?_ | refine kA ?_ _)); refine blk_put (cs := #[.slice none 0 0, .slice none 0 0, .int .i64 0, .bool false, .int .i64 0, .int .i64 0, .slice none 0 0, .int .i64 0, .int .i64 0]) ?_ 3 _ rfl; (with_reducible repeat (first | refine kN ?_ _ | refine kD ?_ | refine kA ?_ _)); refine blk_put (cs := #[.slice none 0 0, .slice none 0 0, .int .i64 0, .bool false, .int .i64 0, .int .i64 0, .slice none 0 0, .int .i64 0, .int .i64 0]) ?_ 2 _ rfl; (with_reducible repeat (first | refine kN ?_ _ | refine kD ?_ | refine kA ?_ _)); refine blk_put (cs := #[.slice none 0 0, .slice none 0 0, .int .i64 0, .bool false, .int .i64 0, .int .i64 0, .slice none 0 0, .int .i64 0, .int .i64 0]) ?_ 1 _ rfl; (with_reducible repeat (first | refine kN ?_ _ | refine kD ?_ | refine kA ?_ _)); refine blk_put (cs := #[.slice none 0 0, .slice none 0 0, .int .i64 0, .bool false, .int .i64 0, .int .i64 0, .slice none 0 0, .int .i64 0, .int .i64 0]) ?_ 0 _ rfl; (with_reducible repeat (first | refine kN ?_ _ | refine kD ?_ | refine kA ?_ _)); refine blk_far ?_ NB187_200.out _; (with_reducible repeat (first | refine kN ?_ _ | refine kD ?_ | refine kA ?_ _)); exact BK187.out) Try.underlying64 rfl (by kernel_rfl)) rfl ?_
               exact ⟨_, _, _, by first | rfl | (simp [errW_none, errW_some] <;> rfl) | (simp [*, errW_none, errW_some] <;> rfl), by first | exact Kd.R_nil _ _ _ _ _ | exact Kd.N_nil _ _ _ _ _ | exact Kd.V_nil _ _ _ _ _ | exact Kd.Q_nil _ _ _ _ _ | exact Kd.S_nil _ _ _ _ _, by first | exact Kd.S_nil _ _ _ _ _ | exact Kd.N_nil _ _ _ _ _ | exact Kd.V_nil _ _ _ _ _ | exact Kd.Q_nil _ _ _ _ _ | exact Kd.R_nil _ _ _ _ _, by (with_reducible repeat (first | apply Kd.N_alloc | apply Kd.N_drewN | apply Kd.N_drew)); exact Kd.N_mono (Kd.N_far (p := ⟨gb187, 8, none⟩) (Kd.N_far (p := ⟨gb187, 7, none⟩) (Kd.N_far (p := ⟨gb187, 6, none⟩) (Kd.N_far (p := ⟨gb187, 5, none⟩) (Kd.N_far (p := ⟨gb187, 4, none⟩) (Kd.N_far (p := ⟨gb187, 3, none⟩) (Kd.N_far (p := ⟨gb187, 2, none⟩) (Kd.N_far (p := ⟨gb187, 1, none⟩) (Kd.N_far (p := ⟨gb187, 0, none⟩) (Kd.N_far (p := ⟨gb200, 7, none⟩) (Kd.N_mono (Kd.N_mono HO_201006.out (fun k_ hk => (⟨hk, hk.2.2⟩ : _ ∧ k_ ≠ gb200))) (fun k_ hk => (⟨hk, hk.1.2.1⟩ : _ ∧ k_ ≠ gb187))) (fun _ hk => hk.1.2) (.int .i64 (wrap64 ((wrap64 (x201004_19 + x6_3)) - 24)))) (fun _ hk => hk.2) (.slice none 0 0)) (fun _ hk => hk.2) (.slice none 0 0)) (fun _ hk => hk.2) (.int .i64 0)) (fun _ hk => hk.2) (.bool false)) (fun _ hk => hk.2) (.int .i64 x201004_19)) (fun _ hk => hk.2) (.int .i64 x201005_19)) (fun _ hk => hk.2) (.slice Ao34 x201006_3.length co34)) (fun _ hk => hk.2) (.int .i64 (wrap64 ((wrap64 (x201004_19 + x6_3)) - 24)))) (fun _ hk => hk.2) (.int .i64 0)) (fun _ hk => ⟨hk.1.1.1, ⟨(by simp [Value.ownBlock]), (by simp [Value.ownBlock])⟩⟩), by repeat (first | (with_reducible first | exact HB.out | apply bA | apply bN | apply bD | refine bS ?_ GE187.out | refine bS ?_ GE200.out) | exact HB.out)⟩
              ·rw [if_neg c29] at H
               have c29b0 : decide ((IntKind.u64.wrap (wrap64 ((wrap64 ((l0.length : Int) - x6_3)) - 16))) < t206) = false := decide_eq_false c29
               clear c29
               obtain ⟨ji35, hji35⟩ : ∃ j_ : Int, (wrap64 (x6_3 + 16)) = j_ := ⟨_, rfl⟩
               replace H : (if 0 ≤ (ji35) then (if (ji35) ≤ (wrap64 ((ji35) + (wrap64 (t206)))) then (if (wrap64 ((ji35) + (wrap64 (t206)))) ≤ (l0.length : Int) then ((lineageref15_Frame.f k3 (wrap64 ((wrap64 (x201004_19 + x6_3)) - 24)) ((l0.take ((wrap64 ((ji35) + (wrap64 (t206)))) : Int).toNat).drop ((ji35) : Int).toNat)).bind fun t212 => (if x6_3 ≤ (wrap64 ((ji35) + (wrap64 (t206)))) then ((lineageref13_Same.f k3 t212 ((l0.take ((wrap64 ((ji35) + (wrap64 (t206)))) : Int).toNat).drop (x6_3 : Int).toNat)).bind fun t220 => (if t220 = true then (if x201006_3.length < 4398046511104 then (lineageref15_Scan.l0 k3 l0 (wrap64 ((ji35) + (wrap64 (t206)))) 0 false x201004_19 x201005_19 (x201006_3 ++ [(⟨wrap64 ((wrap64 (x201004_19 + x6_3)) - 24), ((l0.take ((wrap64 ((ji35) + (wrap64 (t206)))) : Int).toNat).drop ((ji35) : Int).toNat)⟩ : S73)]) 0 0) else (none)) else (some (([] : List Int), ([] : List (S119)), 0, false, x201004_19, x201005_19, x201006_3, wrap64 ((wrap64 (x201004_19 + x6_3)) - 24), 0)))) else (none))) else (none)) else (none)) else (none)) = some (r1, r2, r3, r4, r5, r6, r7, r8, r9) := by first | (rw [hji35] at H; exact H) | (simp only [hji35] at H ⊢; exact H)
               (try rw [hji35] at c24b0)
               (try rw [hji35] at A28)
               have hji35w : (IntKind.i64.wrap (x6_3 + 16)) = ji35 := (i64_w _).trans hji35
               by_cases c36 : 0 ≤ (ji35)
               ·rw [if_pos c36] at H
                have c36b0 := eq_true c36
                have c36b1 : decide (0 ≤ (ji35)) = true := decide_eq_true c36
                clear c36
                by_cases c37 : (ji35) ≤ (wrap64 ((ji35) + (wrap64 (t206))))
                ·rw [if_pos c37] at H
                 have c37b0 := eq_true c37
                 have c37b1 : decide ((ji35) ≤ (wrap64 ((ji35) + (wrap64 (t206))))) = true := decide_eq_true c37
                 by_cases c38 : (wrap64 ((ji35) + (wrap64 (t206)))) ≤ (l0.length : Int)
                 ·rw [if_pos c38] at H
                  have c38b0 := eq_true c38
                  have c38b1 : decide ((wrap64 ((ji35) + (wrap64 (t206)))) ≤ (l0.length : Int)) = true := decide_eq_true c38
                  obtain ⟨y207, hy207⟩ : ∃ y_ : List Int, y_ = ((l0.take ((wrap64 ((ji35) + (wrap64 (t206)))) : Int).toNat).drop ((ji35) : Int).toNat) := ⟨_, rfl⟩
                  replace H : ((lineageref15_Frame.f k3 (wrap64 ((wrap64 (x201004_19 + x6_3)) - 24)) y207).bind fun t212 => (if x6_3 ≤ (wrap64 ((ji35) + (wrap64 (t206)))) then ((lineageref13_Same.f k3 t212 ((l0.take ((wrap64 ((ji35) + (wrap64 (t206)))) : Int).toNat).drop (x6_3 : Int).toNat)).bind fun t220 => (if t220 = true then (if x201006_3.length < 4398046511104 then (lineageref15_Scan.l0 k3 l0 (wrap64 ((ji35) + (wrap64 (t206)))) 0 false x201004_19 x201005_19 (x201006_3 ++ [(⟨wrap64 ((wrap64 (x201004_19 + x6_3)) - 24), ((l0.take ((wrap64 ((ji35) + (wrap64 (t206)))) : Int).toNat).drop ((ji35) : Int).toNat)⟩ : S73)]) 0 0) else (none)) else (some (([] : List Int), ([] : List (S119)), 0, false, x201004_19, x201005_19, x201006_3, wrap64 ((wrap64 (x201004_19 + x6_3)) - 24), 0)))) else (none))) = some (r1, r2, r3, r4, r5, r6, r7, r8, r9) := by first | (rw [hy207]; with_reducible exact H) | (have H2_ := (Option.bind_some _ _).symm.trans H; rw [hy207]; with_reducible exact H2_) | (have H2_ := (Option.bind_some _ _).symm.trans H; with_reducible exact H2_) | with_reducible exact H | (rw [hy207]; exact H) | exact H
                  have Ny207 := AM hy207
                  clear hy207
                  replace H := Option.bind_eq_some_iff.mp H
                  obtain ⟨t212, A390, H⟩ := H
                  replace H : (if x6_3 ≤ (wrap64 ((ji35) + (wrap64 (t206)))) then ((lineageref13_Same.f k3 t212 ((l0.take ((wrap64 ((ji35) + (wrap64 (t206)))) : Int).toNat).drop (x6_3 : Int).toNat)).bind fun t220 => (if t220 = true then (if x201006_3.length < 4398046511104 then (lineageref15_Scan.l0 k3 l0 (wrap64 ((ji35) + (wrap64 (t206)))) 0 false x201004_19 x201005_19 (x201006_3 ++ [(⟨wrap64 ((wrap64 (x201004_19 + x6_3)) - 24), ((l0.take ((wrap64 ((ji35) + (wrap64 (t206)))) : Int).toNat).drop ((ji35) : Int).toNat)⟩ : S73)]) 0 0) else (none)) else (some (([] : List Int), ([] : List (S119)), 0, false, x201004_19, x201005_19, x201006_3, wrap64 ((wrap64 (x201004_19 + x6_3)) - 24), 0)))) else (none)) = some (r1, r2, r3, r4, r5, r6, r7, r8, r9) := H
                  have A39 := AM A390
                  clear A390
                  have c40b0 := eq_true (of_decide_eq_true (by first | (with_reducible assumption) | assumption) : 0 ≤ x6_3)
                  by_cases c41 : x6_3 ≤ (wrap64 ((ji35) + (wrap64 (t206))))
                  ·rw [if_pos c41] at H
                   have c41b0 := eq_true c41
                   have c41b1 : decide (x6_3 ≤ (wrap64 ((ji35) + (wrap64 (t206))))) = true := decide_eq_true c41
                   have c42b0 := eq_true (of_decide_eq_true (by first | (with_reducible assumption) | assumption) : (wrap64 ((ji35) + (wrap64 (t206)))) ≤ (l0.length : Int))
                   obtain ⟨y215, hy215⟩ : ∃ y_ : List Int, y_ = ((l0.take ((wrap64 ((ji35) + (wrap64 (t206)))) : Int).toNat).drop (x6_3 : Int).toNat) := ⟨_, rfl⟩
                   replace H : ((lineageref13_Same.f k3 t212 y215).bind fun t220 => (if t220 = true then (if x201006_3.length < 4398046511104 then (lineageref15_Scan.l0 k3 l0 (wrap64 ((ji35) + (wrap64 (t206)))) 0 false x201004_19 x201005_19 (x201006_3 ++ [(⟨wrap64 ((wrap64 (x201004_19 + x6_3)) - 24), ((l0.take ((wrap64 ((ji35) + (wrap64 (t206)))) : Int).toNat).drop ((ji35) : Int).toNat)⟩ : S73)]) 0 0) else (none)) else (some (([] : List Int), ([] : List (S119)), 0, false, x201004_19, x201005_19, x201006_3, wrap64 ((wrap64 (x201004_19 + x6_3)) - 24), 0)))) = some (r1, r2, r3, r4, r5, r6, r7, r8, r9) := by first | (rw [hy215]; with_reducible exact H) | (have H2_ := (Option.bind_some _ _).symm.trans H; rw [hy215]; with_reducible exact H2_) | (have H2_ := (Option.bind_some _ _).symm.trans H; with_reducible exact H2_) | with_reducible exact H | (rw [hy215]; exact H) | exact H
                   have Ny215 := AM hy215
                   clear hy215
                   replace H := Option.bind_eq_some_iff.mp H
                   obtain ⟨t220, A430, H⟩ := H
                   replace H : (if t220 = true then (if x201006_3.length < 4398046511104 then (lineageref15_Scan.l0 k3 l0 (wrap64 ((ji35) + (wrap64 (t206)))) 0 false x201004_19 x201005_19 (x201006_3 ++ [(⟨wrap64 ((wrap64 (x201004_19 + x6_3)) - 24), ((l0.take ((wrap64 ((ji35) + (wrap64 (t206)))) : Int).toNat).drop ((ji35) : Int).toNat)⟩ : S73)]) 0 0) else (none)) else (some (([] : List Int), ([] : List (S119)), 0, false, x201004_19, x201005_19, x201006_3, wrap64 ((wrap64 (x201004_19 + x6_3)) - 24), 0))) = some (r1, r2, r3, r4, r5, r6, r7, r8, r9) := H
                   have A43 := AM A430
                   clear A430
                   by_cases c44 : t220 = true
                   ·subst c44
                    have H1 : (if x201006_3.length < 4398046511104 then (lineageref15_Scan.l0 k3 l0 (wrap64 ((ji35) + (wrap64 (t206)))) 0 false x201004_19 x201005_19 (x201006_3 ++ [(⟨wrap64 ((wrap64 (x201004_19 + x6_3)) - 24), ((l0.take ((wrap64 ((ji35) + (wrap64 (t206)))) : Int).toNat).drop ((ji35) : Int).toNat)⟩ : S73)]) 0 0) else (none)) = some (r1, r2, r3, r4, r5, r6, r7, r8, r9) := by rw [if_pos rfl] at H; exact H
                    clear H
                    have H := H1
                    clear H1
                    have c45b0 := eq_true (of_decide_eq_true (by first | (with_reducible assumption) | assumption) : 0 ≤ (ji35))
                    have c46b0 := eq_true (of_decide_eq_true (by first | (with_reducible assumption) | assumption) : (ji35) ≤ (wrap64 ((ji35) + (wrap64 (t206)))))
                    have c47b0 := eq_true (of_decide_eq_true (by first | (with_reducible assumption) | assumption) : (wrap64 ((ji35) + (wrap64 (t206)))) ≤ (l0.length : Int))
                    obtain ⟨y221, hy221⟩ : ∃ y_ : List Int, y_ = ((l0.take ((wrap64 ((ji35) + (wrap64 (t206)))) : Int).toNat).drop ((ji35) : Int).toNat) := ⟨_, rfl⟩
                    replace H : (if x201006_3.length < 4398046511104 then (lineageref15_Scan.l0 k3 l0 (wrap64 ((ji35) + (wrap64 (t206)))) 0 false x201004_19 x201005_19 (x201006_3 ++ [(⟨wrap64 ((wrap64 (x201004_19 + x6_3)) - 24), y221⟩ : S73)]) 0 0) else (none)) = some (r1, r2, r3, r4, r5, r6, r7, r8, r9) := by first | (rw [hy221]; with_reducible exact H) | (have H2_ := (Option.bind_some _ _).symm.trans H; rw [hy221]; with_reducible exact H2_) | (have H2_ := (Option.bind_some _ _).symm.trans H; with_reducible exact H2_) | with_reducible exact H | (rw [hy221]; exact H) | exact H
                    have Ny221 := AM hy221
                    clear hy221
                    by_cases c48 : x201006_3.length < 4398046511104
                    ·rw [if_pos c48] at H
                     have LMc48 := AM c48
                     clear c48
                     obtain ⟨y226, hy226⟩ : ∃ y_ : List (S73), y_ = (x201006_3 ++ [(⟨wrap64 ((wrap64 (x201004_19 + x6_3)) - 24), y221⟩ : S73)]) := ⟨_, rfl⟩
                     replace H : (lineageref15_Scan.l0 k3 l0 (wrap64 ((ji35) + (wrap64 (t206)))) 0 false x201004_19 x201005_19 y226 0 0) = some (r1, r2, r3, r4, r5, r6, r7, r8, r9) := by first | (rw [hy226]; with_reducible exact H) | (have H2_ := (Option.bind_some _ _).symm.trans H; rw [hy226]; with_reducible exact H2_) | (have H2_ := (Option.bind_some _ _).symm.trans H; with_reducible exact H2_) | with_reducible exact H | (rw [hy226]; exact H) | exact H
                     have Ny226 := AM hy226
                     clear hy226
                     have H' := AM H
                     clear H
                     have q49 : ((wrap64 (x6_3 + 4)) : Int) ≤ ((l0.length : Int) : Int) := of_decide_eq_true (by first | (with_reducible assumption) | assumption)
                     obtain ⟨i049, hi049, _, hsz49, _⟩ := info_parts info5
                     have hroom49 : l0.length ≤ c0 := (Kd.V_reads' HO_0.out).2.1
                     have hC49 : Kd.F (Kd.int .u8) _ _ A0 l0.length l0 := (Kd.V_at (base := w.heap.size) HO_0.out).2.2
                     have ql49 : (x6_3 : Int) ≤ ((wrap64 (x6_3 + 4)) : Int) := of_decide_eq_true (by first | (with_reducible assumption) | assumption)
                     have q049 : (0 : Int) ≤ (x6_3 : Int) := of_decide_eq_true (by first | (with_reducible assumption) | assumption)
                     have hcut49 := cut_mid (P := Try.prog) 29 5 .i64 .i64 Try.underlying29 hi049 1 hsz49 A0 l0.length c0 x6_3 (wrap64 (x6_3 + 4)) q049 ql49 q49 hroom49
                     have hr49 := Kd.F_mid (lo := (x6_3 : Int).toNat) (hi := ((wrap64 (x6_3 + 4)) : Int).toNat) (c := c0) hC49 (by omega) (by omega) hroom49
                     obtain ⟨A49, hA49⟩ : ∃ A1, A1 = (if c0 = (x6_3 : Int).toNat then A0 else (A0 : Option Addr).map (·.add ((x6_3 : Int).toNat * 1))) := ⟨_, rfl⟩
                     obtain ⟨c49, hc49⟩ : ∃ c1, c1 = c0 - (x6_3 : Int).toNat := ⟨_, rfl⟩
                     have hy49 : y201.length = ((wrap64 (x6_3 + 4)) : Int).toNat - (x6_3 : Int).toNat := (by rw [Ny201.out, List.length_drop, List.length_take] <;> omega)
                     rw [show ((l0).take ((wrap64 (x6_3 + 4)) : Int).toNat).drop (x6_3 : Int).toNat = y201 from Ny201.out.symm] at hr49
                     replace hr49 : Kd.F (Kd.int .u8) _ _ A49 y201.length y201 := (by rw [hA49]; exact hr49)
                     rw [← hy49, ← hA49, ← hc49] at hcut49
                     have HO205 := AM (show Kd.V (Kd.int .u8) 5 _ w.heap.size _ (.slice A49 y201.length c49) y201 from Kd.V_mk (by rw [hy49, hc49]; exact Nat.sub_le_sub_right (Nat.le_trans (by omega) hroom49) _) hr49)
                     have HC205 := AM (show y201.length ≤ c49 from by rw [hy49, hc49]; exact Nat.sub_le_sub_right (Nat.le_trans (by omega) hroom49) _)
                     clear hr49 hC49 hroom49 hi049 hsz49 hc49
                     have KY49 := AM hy49
                     have KA49 := AM hA49
                     clear hy49 hA49
                     replace q49 := eq_true q49
                     try go_wp2_with (first | ((with_reducible refine gate_callee (f := 74) rfl ?_); refine goesL_ (some 37) rfl rfl Try.func74 (by kernel_rfl) rfl #[.slice A49 y201.length c49] rfl (by (try simp only [List.map_toArray, List.map_cons, List.map_nil]); first | done | rfl | (simp only [List.length_drop, List.length_take]; rfl)) ?_; (with_reducible refine (lineageref15_value.calls k3 _ _ y201 t206 _ ?side1 ?side2 A28.out).mono ?_); (case side1 => repeat (first | exact (Kd.V_reads' HO205.out).2.2 | (with_reducible refine Kd.C_alloc ?_ _) | (with_reducible refine Kd.C_drewN ?_ _) | (with_reducible refine Kd.C_drew ?_))); (case side2 => exact (Kd.V_reads' HO205.out).2.1); rintro e w' ⟨rfl, ⟨nd, rfl⟩⟩; refine ⟨_, rfl, ?_⟩; (try (rw [drewN_self wr]; generalize hq_ : World.drewN wr _ = wr; have n0_ : Aside0 (Kd.V (Kd.int .u8) 5 wr w.heap.size (fun k_ => (P0_ k_ ∨ w.heap.size ≤ k_) ∧ some k_ ≠ (u201006 : Value).ownBlock ∧ k_ ≠ gb187 ∧ k_ ≠ gb200) (.slice A49 y201.length c49) y201) := ⟨by rw [← hq_]; exact (by (with_reducible repeat (first | apply Kd.V_alloc | apply Kd.V_drewN | apply Kd.V_drew)); exact HO205.out)⟩; have n1_ : Aside0 (Kd.V (Kd.int .u8) 5 wr w.heap.size (fun k_ => (P0_ k_ ∨ w.heap.size ≤ k_) ∧ some k_ ≠ (u201006 : Value).ownBlock ∧ k_ ≠ gb187 ∧ k_ ≠ gb200) (.slice A0 l0.length c0) l0) := ⟨by rw [← hq_]; exact (by (with_reducible repeat (first | apply Kd.V_alloc | apply Kd.V_drewN | apply Kd.V_drew)); exact HO_0.out)⟩; have n2_ : Aside0 (Kd.N k73 73 wr w.heap.size (fun k_ => (P0_ k_ ∨ w.heap.size ≤ k_) ∧ k_ ≠ gb187 ∧ k_ ≠ gb200) u201006 x201006_3) := ⟨by rw [← hq_]; exact (by (with_reducible repeat (first | apply Kd.N_alloc | apply Kd.N_drewN | apply Kd.N_drew)); exact HO_201006.out)⟩; have n3_ : Aside0 (wr.heap[gb187]? = some (.cells #[.slice none 0 0, .slice none 0 0, .int .i64 0, .bool false, .int .i64 0, .int .i64 0, .slice none 0 0, .int .i64 0, .int .i64 0] 64 (0, 0))) := ⟨by rw [← hq_]; exact (by (with_reducible repeat (first | refine kN ?_ _ | refine kD ?_ | refine kA ?_ _)); exact BK187.out)⟩; have n4_ : Aside0 (wr.heap[gb200]? = some (.cells #[.slice none 0 0, .slice none 0 0, .int .i64 0, .bool false, .int .i64 x201004_19, .int .i64 x201005_19, u201006, .int .i64 0, .int .i64 0] 64 (0, 0))) := ⟨by rw [← hq_]; exact (by (with_reducible repeat (first | refine kN ?_ _ | refine kD ?_ | refine kA ?_ _)); exact BK200.out)⟩; have n5_ : Aside0 (Below w.heap.size w wr) := ⟨by rw [← hq_]; exact (by repeat (first | (with_reducible first | exact HB.out | apply bA | apply bN | apply bD | refine bS ?_ GE187.out | refine bS ?_ GE200.out) | exact HB.out))⟩; clear HO205 HO_0 HO_201006 BK187 BK200 HB hq_; have HO205 := n0_; have HO_0 := n1_; have HO_201006 := n2_; have BK187 := n3_; have BK200 := n4_; have HB := n5_; clear n0_ n1_ n2_ n3_ n4_ n5_))))
                     have n0_ := AM (Kd.V_drew HO_0.out)
                     have n1_ := AM (Kd.N_drew HO_201006.out)
                     have n2_ := AM (Kd.V_drew HO205.out)
                     have n3_ := AM (kD BK187.out)
                     have n4_ := AM (kD BK200.out)
                     have n5_ := AM (bD HB.out)
                     clear HO_0
                     clear HO_201006
                     clear HO205
                     clear BK187
                     clear BK200
                     clear HB
                     have HO_0 := n0_
                     have HO_201006 := n1_
                     have HO205 := n2_
                     have BK187 := n3_
                     have BK200 := n4_
                     have HB := n5_
                     clear n0_ n1_ n2_ n3_ n4_ n5_
                     have q51 : ((wrap64 ((ji35) + (wrap64 (t206)))) : Int) ≤ ((l0.length : Int) : Int) := of_decide_eq_true (by first | (with_reducible assumption) | assumption)
                     obtain ⟨i051, hi051, _, hsz51, _⟩ := info_parts info5
                     have hroom51 : l0.length ≤ c0 := (Kd.V_reads' HO_0.out).2.1
                     have hC51 : Kd.F (Kd.int .u8) _ _ A0 l0.length l0 := (Kd.V_at (base := w.heap.size) HO_0.out).2.2
                     have ql51 : ((ji35) : Int) ≤ ((wrap64 ((ji35) + (wrap64 (t206)))) : Int) := of_decide_eq_true (by first | (with_reducible assumption) | assumption)
                     have q051 : (0 : Int) ≤ ((ji35) : Int) := of_decide_eq_true (by first | (with_reducible assumption) | assumption)
                     have hcut51 := cut_mid (P := Try.prog) 29 5 .i64 .i64 Try.underlying29 hi051 1 hsz51 A0 l0.length c0 (ji35) (wrap64 ((ji35) + (wrap64 (t206)))) q051 ql51 q51 hroom51
                     have hr51 := Kd.F_mid (lo := ((ji35) : Int).toNat) (hi := ((wrap64 ((ji35) + (wrap64 (t206)))) : Int).toNat) (c := c0) hC51 (by omega) (by omega) hroom51
                     obtain ⟨A51, hA51⟩ : ∃ A1, A1 = (if c0 = ((ji35) : Int).toNat then A0 else (A0 : Option Addr).map (·.add (((ji35) : Int).toNat * 1))) := ⟨_, rfl⟩
                     obtain ⟨c51, hc51⟩ : ∃ c1, c1 = c0 - ((ji35) : Int).toNat := ⟨_, rfl⟩
                     have hy51 : y207.length = ((wrap64 ((ji35) + (wrap64 (t206)))) : Int).toNat - ((ji35) : Int).toNat := (by rw [Ny207.out, List.length_drop, List.length_take] <;> omega)
                     rw [show ((l0).take ((wrap64 ((ji35) + (wrap64 (t206)))) : Int).toNat).drop ((ji35) : Int).toNat = y207 from Ny207.out.symm] at hr51
                     replace hr51 : Kd.F (Kd.int .u8) _ _ A51 y207.length y207 := (by rw [hA51]; exact hr51)
                     rw [← hy51, ← hA51, ← hc51] at hcut51
                     have HO211 := AM (show Kd.V (Kd.int .u8) 5 _ w.heap.size _ (.slice A51 y207.length c51) y207 from Kd.V_mk (by rw [hy51, hc51]; exact Nat.sub_le_sub_right (Nat.le_trans (by omega) hroom51) _) hr51)
                     have HC211 := AM (show y207.length ≤ c51 from by rw [hy51, hc51]; exact Nat.sub_le_sub_right (Nat.le_trans (by omega) hroom51) _)
                     clear hr51 hC51 hroom51 hi051 hsz51 hc51
                     have KY51 := AM hy51
                     have KA51 := AM hA51
                     clear hy51 hA51
                     replace q51 := eq_true q51
                     have q52 : ((wrap64 ((ji35) + (wrap64 (t206)))) : Int) ≤ ((l0.length : Int) : Int) := of_decide_eq_true (by first | (with_reducible assumption) | assumption)
                     obtain ⟨i052, hi052, _, hsz52, _⟩ := info_parts info5
                     have hroom52 : l0.length ≤ c0 := (Kd.V_reads' HO_0.out).2.1
                     have hC52 : Kd.F (Kd.int .u8) _ _ A0 l0.length l0 := (Kd.V_at (base := w.heap.size) HO_0.out).2.2
                     have ql52 : (x6_3 : Int) ≤ ((wrap64 ((ji35) + (wrap64 (t206)))) : Int) := of_decide_eq_true (by first | (with_reducible assumption) | assumption)
                     have q052 : (0 : Int) ≤ (x6_3 : Int) := of_decide_eq_true (by first | (with_reducible assumption) | assumption)
                     have hcut52 := cut_mid (P := Try.prog) 29 5 .i64 .i64 Try.underlying29 hi052 1 hsz52 A0 l0.length c0 x6_3 (wrap64 ((ji35) + (wrap64 (t206)))) q052 ql52 q52 hroom52
                     have hr52 := Kd.F_mid (lo := (x6_3 : Int).toNat) (hi := ((wrap64 ((ji35) + (wrap64 (t206)))) : Int).toNat) (c := c0) hC52 (by omega) (by omega) hroom52
                     obtain ⟨A52, hA52⟩ : ∃ A1, A1 = (if c0 = (x6_3 : Int).toNat then A0 else (A0 : Option Addr).map (·.add ((x6_3 : Int).toNat * 1))) := ⟨_, rfl⟩
                     obtain ⟨c52, hc52⟩ : ∃ c1, c1 = c0 - (x6_3 : Int).toNat := ⟨_, rfl⟩
                     have hy52 : y215.length = ((wrap64 ((ji35) + (wrap64 (t206)))) : Int).toNat - (x6_3 : Int).toNat := (by rw [Ny215.out, List.length_drop, List.length_take] <;> omega)
                     rw [show ((l0).take ((wrap64 ((ji35) + (wrap64 (t206)))) : Int).toNat).drop (x6_3 : Int).toNat = y215 from Ny215.out.symm] at hr52
                     replace hr52 : Kd.F (Kd.int .u8) _ _ A52 y215.length y215 := (by rw [hA52]; exact hr52)
                     rw [← hy52, ← hA52, ← hc52] at hcut52
                     have HO219 := AM (show Kd.V (Kd.int .u8) 5 _ w.heap.size _ (.slice A52 y215.length c52) y215 from Kd.V_mk (by rw [hy52, hc52]; exact Nat.sub_le_sub_right (Nat.le_trans (by omega) hroom52) _) hr52)
                     have HC219 := AM (show y215.length ≤ c52 from by rw [hy52, hc52]; exact Nat.sub_le_sub_right (Nat.le_trans (by omega) hroom52) _)
                     clear hr52 hC52 hroom52 hi052 hsz52 hc52
                     have KY52 := AM hy52
                     have KA52 := AM hA52
                     clear hy52 hA52
                     replace q52 := eq_true q52
                     refine start_ (n := 17) (S := fun w' => w'.cell? ⟨gb200, 0, none⟩ = some (.slice none 0 0) ∧ w'.cell? ⟨gb200, 1, none⟩ = some (.slice none 0 0) ∧ w'.cell? ⟨gb200, 2, none⟩ = some (.int .i64 0) ∧ w'.cell? ⟨gb200, 3, none⟩ = some (.bool false) ∧ w'.cell? ⟨gb200, 4, none⟩ = some (.int .i64 x201004_19) ∧ w'.cell? ⟨gb200, 5, none⟩ = some (.int .i64 x201005_19) ∧ w'.cell? ⟨gb200, 6, none⟩ = some (u201006) ∧ w'.cell? ⟨gb200, 7, none⟩ = some (.int .i64 0) ∧ w'.cell? ⟨gb200, 8, none⟩ = some (.int .i64 0)) (ds := []) #[false, false, false, false, false, false, false, false, false, false, false, false, false, false, false, false, false] (by kernel_rfl) rfl rfl ⟨(blk_cell BK200.out 0).trans rfl, (blk_cell BK200.out 1).trans rfl, (blk_cell BK200.out 2).trans rfl, (blk_cell BK200.out 3).trans rfl, (blk_cell BK200.out 4).trans rfl, (blk_cell BK200.out 5).trans rfl, (blk_cell BK200.out 6).trans rfl, (blk_cell BK200.out 7).trans rfl, (blk_cell BK200.out 8).trans rfl⟩ (fun hHeld => ?_); refine with_tabW lineageref15_Scan.tab12 lineageref15_Scan.bits12 (fun HT_ HW_ => ?_)
                     generalize wr.drew = w50 at HO_0 HO_201006 HO205 BK187 BK200 HB HO211 HO219 hHeld ⊢
                     refine pu 0 (some 51) ?_ (bt 17 1) (any_of HT_.out (by kernel_rfl)) ?_ ?_ ?_ ?_
                     rotate_left
                     ·intro w'
                      go_simp
                      with_reducible rfl
                     rotate_left
                     ·simp only [pS]
                      rfl
                     refine pu 2 (some 53) ?_ (bt 17 5) (any_of HT_.out (by kernel_rfl)) ?_ ?_ ?_ ?_
                     rotate_left
                     ·intro w'
                      go_simp
                      with_reducible rfl
                     rotate_left
                     ·simp only [pS]
                      rfl
                     refine pu 5 (some 56) ?_ (bt 17 37) (any_of HT_.out (by kernel_rfl)) ?_ ?_ ?_ ?_
                     rotate_left
                     ·intro w'
                      go_simp
                      with_reducible rfl
                     rotate_left
                     ·simp only [pS]
                      rfl
                     refine pu 6 (some 57) ?_ (bt 17 101) (any_of HT_.out (by kernel_rfl)) ?_ ?_ ?_ ?_
                     rotate_left
                     ·intro w'
                      go_simp
                      with_reducible rfl
                     rotate_left
                     ·simp only [pS]
                      rfl
                     refine pu 7 (some 58) ?_ (bt 17 229) (any_of HT_.out (by kernel_rfl)) ?_ ?_ ?_ ?_
                     rotate_left
                     ·intro w'
                      go_simp
                      with_reducible rfl
                     rotate_left
                     ·simp only [pS]
                      rfl
                     refine pu 8 (some 59) ?_ (bt 17 485) (any_of HT_.out (by kernel_rfl)) ?_ ?_ ?_ ?_
                     rotate_left
                     ·intro w'
                      go_simp
                      with_reducible rfl
                     rotate_left
                     ·simp only [pS]
                      rfl
                     refine pu 9 (some 60) ?_ (bt 17 997) (any_of HT_.out (by kernel_rfl)) ?_ ?_ ?_ ?_
                     rotate_left
                     ·intro w'
                      go_simp
                      with_reducible rfl
                     rotate_left
                     ·simp only [pS]
                      rfl
                     refine pu 11 (some 62) ?_ (bt 17 3045) (any_of HT_.out (by kernel_rfl)) ?_ ?_ ?_ ?_
                     rotate_left
                     ·intro w'
                      go_simp
                      with_reducible rfl
                     rotate_left
                     ·simp only [pS]
                      rfl
                     refine pu 12 (some 63) ?_ (bt 17 7141) (any_of HT_.out (by kernel_rfl)) ?_ ?_ ?_ ?_
                     rotate_left
                     ·intro w'
                      go_simp
                      with_reducible rfl
                     rotate_left
                     ·simp only [pS]
                      rfl
                     refine pu 13 (some 64) ?_ (bt 17 15333) (any_of HT_.out (by kernel_rfl)) ?_ ?_ ?_ ?_
                     rotate_left
                     ·intro w'
                      go_simp
                      with_reducible rfl
                     rotate_left
                     ·simp only [pS]
                      rfl
                     refine pu 14 (some 65) ?_ (bt 17 31717) (any_of HT_.out (by kernel_rfl)) ?_ ?_ ?_ ?_
                     rotate_left
                     ·intro w'
                      go_simp
                      with_reducible rfl
                     rotate_left
                     ·simp only [pS]
                      rfl
                     refine tk 1 (some 52) ?_ (bt 17 31719) (take_ofW HT_.out HW_.out (by kernel_rfl)) hHeld ?_ ?_ ?_ ?_
                     rotate_left
                     ·rintro w' ⟨s0, s1, s2, s3, s4, s5, s6, s7, s8⟩
                      go_simp
                      with_reducible rfl
                     rotate_left
                     ·simp only [pS]
                      rfl
                     refine pu 3 (some 54) ?_ (bt 17 31727) (any_of HT_.out (by kernel_rfl)) ?_ ?_ ?_ ?_
                     rotate_left
                     ·intro w'
                      go_simp
                      with_reducible rfl
                     rotate_left
                     ·simp only [pS]
                      rfl
                     refine pu 4 (some 55) ?_ (bt 17 31743) (any_of HT_.out (by kernel_rfl)) ?_ ?_ ?_ ?_
                     rotate_left
                     ·intro w'
                      go_simp
                      with_reducible rfl
                     rotate_left
                     ·simp only [pS]
                      rfl
                     refine one_ (i := 10) (N := some 61) (bt 17 32767) rfl rfl (one_of HT_.out (by kernel_rfl)) (by decide) (fun K hK => ?_)
                     refine goes_ Try.func35 (by kernel_rfl) rfl #[.int .i64 (wrap64 ((wrap64 (x201004_19 + x6_3)) - 24)), .slice A51 y207.length c51] (by rfl) rfl rfl (by (try simp only [List.map_toArray, List.map_cons, List.map_nil]); first | done | rfl | (simp only [List.length_drop, List.length_take]; rfl)) ?_
                     with_reducible refine (lineageref15_Frame.calls k3 (wrap64 ((wrap64 (x201004_19 + x6_3)) - 24)) _ _ y207 t212 _ ?side1 ?side2 A39.out).mono ?_
                     (case side1 => repeat (first | exact (Kd.V_reads' HO211.out).2.2 | (with_reducible refine Kd.C_alloc ?_ _) | (with_reducible refine Kd.C_drewN ?_ _) | (with_reducible refine Kd.C_drew ?_)))
                     (case side2 => exact (Kd.V_reads' HO211.out).2.1)
                     rintro e w53 ⟨v213, rfl, ho0, hb⟩
                     refine ⟨_, rfl, ?_⟩
                     have n0_ := AM (Kd.V_elder' (by (with_reducible repeat (first | apply Kd.V_alloc | apply Kd.V_drewN | apply Kd.V_drew)); exact HO_0.out) (Kd.R_base ho0) hb)
                     have n1_ := AM (Kd.N_elder' (by (with_reducible repeat (first | apply Kd.N_alloc | apply Kd.N_drewN | apply Kd.N_drew)); exact HO_201006.out) (Kd.R_base ho0) hb)
                     have n2_ := AM (Kd.V_elder' (by (with_reducible repeat (first | apply Kd.V_alloc | apply Kd.V_drewN | apply Kd.V_drew)); exact HO205.out) (Kd.R_base ho0) hb)
                     have n3_ := AM (Kd.V_elder' (by (with_reducible repeat (first | apply Kd.V_alloc | apply Kd.V_drewN | apply Kd.V_drew)); exact HO211.out) (Kd.R_base ho0) hb)
                     have n4_ := AM (Kd.V_elder' (by (with_reducible repeat (first | apply Kd.V_alloc | apply Kd.V_drewN | apply Kd.V_drew)); exact HO219.out) (Kd.R_base ho0) hb)
                     have n5_ := AM (Kd.R_lower (Kd.R_newM (M := fun k_ => (w.heap.size ≤ k_)) ho0 (below_size (by repeat (first | (with_reducible first | exact HB.out | apply bA | apply bN | apply bD | refine bS ?_ GE187.out | refine bS ?_ GE200.out) | exact HB.out))) (fun k_ h_ => h_)) (below_size (by repeat (first | (with_reducible first | exact HB.out | apply bA | apply bN | apply bD | refine bS ?_ GE187.out | refine bS ?_ GE200.out) | exact HB.out))))
                     have n6_ := AM (blk_below (g := gb187) (o := .cells #[.slice none 0 0, .slice none 0 0, .int .i64 0, .bool false, .int .i64 0, .int .i64 0, .slice none 0 0, .int .i64 0, .int .i64 0] 64 (0, 0)) (by (with_reducible repeat (first | refine kN ?_ _ | refine kD ?_ | refine kA ?_ _)); exact BK187.out) hb)
                     have n7_ := AM (blk_below (g := gb200) (o := .cells #[.slice none 0 0, .slice none 0 0, .int .i64 0, .bool false, .int .i64 x201004_19, .int .i64 x201005_19, u201006, .int .i64 0, .int .i64 0] 64 (0, 0)) (by (with_reducible repeat (first | refine kN ?_ _ | refine kD ?_ | refine kA ?_ _)); exact BK200.out) hb)
                     have n8_ := AM (below_step (by repeat (first | (with_reducible first | exact HB.out | apply bA | apply bN | apply bD | refine bS ?_ GE187.out | refine bS ?_ GE200.out) | exact HB.out)) hb)
                     clear HO_0
                     clear HO_201006
                     clear HO205
                     clear HO211
                     clear HO219
                     clear BK187
                     clear BK200
                     clear HB
                     have HO_0 := n0_
                     have HO_201006 := n1_
                     have HO205 := n2_
                     have HO211 := n3_
                     have HO219 := n4_
                     have HO214 := n5_
                     have BK187 := n6_
                     have BK200 := n7_
                     have HB := n8_
                     clear n0_ n1_ n2_ n3_ n4_ n5_ n6_ n7_ n8_
                     (try clear hb)
                     (try clear hb2)
                     (try clear hk)
                     (try clear hi)
                     (try clear ho0)
                     obtain ⟨Ao54, co54, eo54⟩ := Kd.R_slice HO214.out
                     (first | subst eo54 | (injection eo54 with f1_ f2_ f3_; have f4_ := f1_.symm; have f5_ := f3_.symm; clear f1_ f2_ f3_; subst f4_; subst f5_))
                     refine hK.out _ _ ⟨(blk_cell BK200.out 0).trans rfl, (blk_cell BK200.out 1).trans rfl, (blk_cell BK200.out 2).trans rfl, (blk_cell BK200.out 3).trans rfl, (blk_cell BK200.out 4).trans rfl, (blk_cell BK200.out 5).trans rfl, (blk_cell BK200.out 6).trans rfl, (blk_cell BK200.out 7).trans rfl, (blk_cell BK200.out 8).trans rfl⟩ (fun hHeld => ?_)
                     clear hK K
                     refine norm_ (a' := ?_) ?_ ?_
                     rotate_left
                     ·show Act.put _ (some 61) _ = _
                      simp only [pS]
                      rfl
                     refine one_ (i := 15) (N := some 66) (bt 17 65535) rfl rfl (one_of HT_.out (by kernel_rfl)) (by decide) (fun K hK => ?_)
                     refine goes_ Try.func23 (by kernel_rfl) rfl #[.slice Ao54 t212.length co54, .slice A52 y215.length c52] (by rfl) rfl rfl (by (try simp only [List.map_toArray, List.map_cons, List.map_nil]); first | done | rfl | (simp only [List.length_drop, List.length_take]; rfl)) ?_
                     with_reducible refine (lineageref13_Same.calls k3 _ _ t212 _ _ y215 true _ ?side1 ?side2 ?side3 ?side4 A43.out).mono ?_
                     (case side1 => repeat (first | exact (Kd.R_reads' HO214.out).2.2 | (with_reducible refine Kd.C_alloc ?_ _) | (with_reducible refine Kd.C_drewN ?_ _) | (with_reducible refine Kd.C_drew ?_)))
                     (case side2 => exact (Kd.R_reads' HO214.out).2.1)
                     (case side3 => repeat (first | exact (Kd.V_reads' HO219.out).2.2 | (with_reducible refine Kd.C_alloc ?_ _) | (with_reducible refine Kd.C_drewN ?_ _) | (with_reducible refine Kd.C_drew ?_)))
                     (case side4 => exact (Kd.V_reads' HO219.out).2.1)
                     rintro e w' ⟨rfl, ⟨nd, rfl⟩⟩
                     refine ⟨_, rfl, ?_⟩
                     refine hK.out _ _ ⟨(blk_cell BK200.out 0).trans rfl, (blk_cell BK200.out 1).trans rfl, (blk_cell BK200.out 2).trans rfl, (blk_cell BK200.out 3).trans rfl, (blk_cell BK200.out 4).trans rfl, (blk_cell BK200.out 5).trans rfl, (blk_cell BK200.out 6).trans rfl, (blk_cell BK200.out 7).trans rfl, (blk_cell BK200.out 8).trans rfl⟩ (fun hHeld => ?_)
                     clear hK K
                     refine norm_ (a' := ?_) ?_ ?_
                     rotate_left
                     ·show Act.put _ (some 66) _ = _
                      simp only [pS]
                      rfl
                     refine pu 16 (some 67) ?_ (bt 17 131071) (any_of HT_.out (by kernel_rfl)) ?_ ?_ ?_ ?_
                     rotate_left
                     ·intro w'
                      go_simp
                      with_reducible rfl
                     rotate_left
                     ·simp only [pS]
                      rfl
                     refine done_ (done_of HT_.out (by kernel_rfl)) ?_
                     try go_wp2
                     (try (rw [drewN_self w53]; generalize hq_ : World.drewN w53 _ = w53; have n0_ : Aside0 (Kd.V (Kd.int .u8) 5 w53 w.heap.size (fun k_ => (P0_ k_ ∨ w.heap.size ≤ k_) ∧ some k_ ≠ (.slice Ao54 t212.length co54 : Value).ownBlock ∧ some k_ ≠ (u201006 : Value).ownBlock ∧ k_ ≠ gb187 ∧ k_ ≠ gb200) (.slice A49 y201.length c49) y201) := ⟨by rw [← hq_]; exact (by (with_reducible repeat (first | apply Kd.V_alloc | apply Kd.V_drewN | apply Kd.V_drew)); exact Kd.V_mono HO205.out (fun _ hk => ⟨hk.1.1, ⟨hk.2, ⟨hk.1.2.1, ⟨hk.1.2.2.1, hk.1.2.2.2⟩⟩⟩⟩))⟩; have n1_ : Aside0 (Kd.V (Kd.int .u8) 5 w53 w.heap.size (fun k_ => (P0_ k_ ∨ w.heap.size ≤ k_) ∧ some k_ ≠ (.slice Ao54 t212.length co54 : Value).ownBlock ∧ some k_ ≠ (u201006 : Value).ownBlock ∧ k_ ≠ gb187 ∧ k_ ≠ gb200) (.slice A51 y207.length c51) y207) := ⟨by rw [← hq_]; exact (by (with_reducible repeat (first | apply Kd.V_alloc | apply Kd.V_drewN | apply Kd.V_drew)); exact Kd.V_mono HO211.out (fun _ hk => ⟨hk.1.1, ⟨hk.2, ⟨hk.1.2.1, ⟨hk.1.2.2.1, hk.1.2.2.2⟩⟩⟩⟩))⟩; have n2_ : Aside0 (Kd.R (Kd.int .u8) 5 w53 w.heap.size (fun k_ => (w.heap.size ≤ k_)) (.slice Ao54 t212.length co54) t212) := ⟨by rw [← hq_]; exact (by (with_reducible repeat (first | apply Kd.R_alloc | apply Kd.R_drewN | apply Kd.R_drew)); exact Kd.R_mono HO214.out (fun _ hk => hk.1))⟩; have n3_ : Aside0 (Kd.V (Kd.int .u8) 5 w53 w.heap.size (fun k_ => (P0_ k_ ∨ w.heap.size ≤ k_) ∧ some k_ ≠ (.slice Ao54 t212.length co54 : Value).ownBlock ∧ some k_ ≠ (u201006 : Value).ownBlock ∧ k_ ≠ gb187 ∧ k_ ≠ gb200) (.slice A52 y215.length c52) y215) := ⟨by rw [← hq_]; exact (by (with_reducible repeat (first | apply Kd.V_alloc | apply Kd.V_drewN | apply Kd.V_drew)); exact Kd.V_mono HO219.out (fun _ hk => ⟨hk.1.1, ⟨hk.2, ⟨hk.1.2.1, ⟨hk.1.2.2.1, hk.1.2.2.2⟩⟩⟩⟩))⟩; have n4_ : Aside0 (Kd.V (Kd.int .u8) 5 w53 w.heap.size (fun k_ => (P0_ k_ ∨ w.heap.size ≤ k_) ∧ some k_ ≠ (.slice Ao54 t212.length co54 : Value).ownBlock ∧ some k_ ≠ (u201006 : Value).ownBlock ∧ k_ ≠ gb187 ∧ k_ ≠ gb200) (.slice A0 l0.length c0) l0) := ⟨by rw [← hq_]; exact (by (with_reducible repeat (first | apply Kd.V_alloc | apply Kd.V_drewN | apply Kd.V_drew)); exact Kd.V_mono HO_0.out (fun _ hk => ⟨hk.1.1, ⟨hk.2, ⟨hk.1.2.1, ⟨hk.1.2.2.1, hk.1.2.2.2⟩⟩⟩⟩))⟩; have n5_ : Aside0 (Kd.N k73 73 w53 w.heap.size (fun k_ => (P0_ k_ ∨ w.heap.size ≤ k_) ∧ some k_ ≠ (.slice Ao54 t212.length co54 : Value).ownBlock ∧ k_ ≠ gb187 ∧ k_ ≠ gb200) u201006 x201006_3) := ⟨by rw [← hq_]; exact (by (with_reducible repeat (first | apply Kd.N_alloc | apply Kd.N_drewN | apply Kd.N_drew)); exact Kd.N_mono HO_201006.out (fun _ hk => ⟨hk.1.1, ⟨hk.2, ⟨hk.1.2.1, hk.1.2.2⟩⟩⟩))⟩; have n6_ : Aside0 (w53.heap[gb187]? = some (.cells #[.slice none 0 0, .slice none 0 0, .int .i64 0, .bool false, .int .i64 0, .int .i64 0, .slice none 0 0, .int .i64 0, .int .i64 0] 64 (0, 0))) := ⟨by rw [← hq_]; exact (by (with_reducible repeat (first | refine kN ?_ _ | refine kD ?_ | refine kA ?_ _)); exact BK187.out)⟩; have n7_ : Aside0 (w53.heap[gb200]? = some (.cells #[.slice none 0 0, .slice none 0 0, .int .i64 0, .bool false, .int .i64 x201004_19, .int .i64 x201005_19, u201006, .int .i64 0, .int .i64 0] 64 (0, 0))) := ⟨by rw [← hq_]; exact (by (with_reducible repeat (first | refine kN ?_ _ | refine kD ?_ | refine kA ?_ _)); exact BK200.out)⟩; have n8_ : Aside0 (Below w.heap.size w w53) := ⟨by rw [← hq_]; exact (by repeat (first | (with_reducible first | exact HB.out | apply bA | apply bN | apply bD | refine bS ?_ GE187.out | refine bS ?_ GE200.out) | exact HB.out))⟩; clear HO205 HO211 HO214 HO219 HO_0 HO_201006 BK187 BK200 HB hq_; have HO205 := n0_; have HO211 := n1_; have HO214 := n2_; have HO219 := n3_; have HO_0 := n4_; have HO_201006 := n5_; have BK187 := n6_; have BK200 := n7_; have HB := n8_; clear n0_ n1_ n2_ n3_ n4_ n5_ n6_ n7_ n8_))
                     have n0_ := AM (Kd.V_drew HO_0.out)
                     have n1_ := AM (Kd.N_drew HO_201006.out)
                     have n2_ := AM (Kd.V_drew HO205.out)
                     have n3_ := AM (Kd.V_drew HO211.out)
                     have n4_ := AM (Kd.V_drew HO219.out)
                     have n5_ := AM (Kd.R_drew HO214.out)
                     have n6_ := AM (kD BK187.out)
                     have n7_ := AM (kD BK200.out)
                     have n8_ := AM (bD HB.out)
                     clear HO_0
                     clear HO_201006
                     clear HO205
                     clear HO211
                     clear HO219
                     clear HO214
                     clear BK187
                     clear BK200
                     clear HB
                     have HO_0 := n0_
                     have HO_201006 := n1_
                     have HO205 := n2_
                     have HO211 := n3_
                     have HO219 := n4_
                     have HO214 := n5_
                     have BK187 := n6_
                     have BK200 := n7_
                     have HB := n8_
                     clear n0_ n1_ n2_ n3_ n4_ n5_ n6_ n7_ n8_
                     have q56 : ((wrap64 ((ji35) + (wrap64 (t206)))) : Int) ≤ ((l0.length : Int) : Int) := of_decide_eq_true (by first | (with_reducible assumption) | assumption)
                     obtain ⟨i056, hi056, _, hsz56, _⟩ := info_parts info5
                     have hroom56 : l0.length ≤ c0 := (Kd.V_reads' HO_0.out).2.1
                     have hC56 : Kd.F (Kd.int .u8) _ _ A0 l0.length l0 := (Kd.V_at (base := w.heap.size) HO_0.out).2.2
                     have ql56 : ((ji35) : Int) ≤ ((wrap64 ((ji35) + (wrap64 (t206)))) : Int) := of_decide_eq_true (by first | (with_reducible assumption) | assumption)
                     have q056 : (0 : Int) ≤ ((ji35) : Int) := of_decide_eq_true (by first | (with_reducible assumption) | assumption)
                     have hcut56 := cut_mid (P := Try.prog) 29 5 .i64 .i64 Try.underlying29 hi056 1 hsz56 A0 l0.length c0 (ji35) (wrap64 ((ji35) + (wrap64 (t206)))) q056 ql56 q56 hroom56
                     have hr56 := Kd.F_mid (lo := ((ji35) : Int).toNat) (hi := ((wrap64 ((ji35) + (wrap64 (t206)))) : Int).toNat) (c := c0) hC56 (by omega) (by omega) hroom56
                     obtain ⟨A56, hA56⟩ : ∃ A1, A1 = (if c0 = ((ji35) : Int).toNat then A0 else (A0 : Option Addr).map (·.add (((ji35) : Int).toNat * 1))) := ⟨_, rfl⟩
                     obtain ⟨c56, hc56⟩ : ∃ c1, c1 = c0 - ((ji35) : Int).toNat := ⟨_, rfl⟩
                     have hy56 : y221.length = ((wrap64 ((ji35) + (wrap64 (t206)))) : Int).toNat - ((ji35) : Int).toNat := (by rw [Ny221.out, List.length_drop, List.length_take] <;> omega)
                     rw [show ((l0).take ((wrap64 ((ji35) + (wrap64 (t206)))) : Int).toNat).drop ((ji35) : Int).toNat = y221 from Ny221.out.symm] at hr56
                     replace hr56 : Kd.F (Kd.int .u8) _ _ A56 y221.length y221 := (by rw [hA56]; exact hr56)
                     rw [← hy56, ← hA56, ← hc56] at hcut56
                     have HO225 := AM (show Kd.V (Kd.int .u8) 5 _ w.heap.size _ (.slice A56 y221.length c56) y221 from Kd.V_mk (by rw [hy56, hc56]; exact Nat.sub_le_sub_right (Nat.le_trans (by omega) hroom56) _) hr56)
                     have HC225 := AM (show y221.length ≤ c56 from by rw [hy56, hc56]; exact Nat.sub_le_sub_right (Nat.le_trans (by omega) hroom56) _)
                     clear hr56 hC56 hroom56 hi056 hsz56 hc56
                     have KY56 := AM hy56
                     have KA56 := AM hA56
                     clear hy56 hA56
                     replace q56 := eq_true q56
                     refine start_ (n := 17) (S := fun w' => w'.cell? ⟨gb200, 0, none⟩ = some (.slice none 0 0) ∧ w'.cell? ⟨gb200, 1, none⟩ = some (.slice none 0 0) ∧ w'.cell? ⟨gb200, 2, none⟩ = some (.int .i64 0) ∧ w'.cell? ⟨gb200, 3, none⟩ = some (.bool false) ∧ w'.cell? ⟨gb200, 4, none⟩ = some (.int .i64 x201004_19) ∧ w'.cell? ⟨gb200, 5, none⟩ = some (.int .i64 x201005_19) ∧ w'.cell? ⟨gb200, 6, none⟩ = some (u201006) ∧ w'.cell? ⟨gb200, 7, none⟩ = some (.int .i64 0) ∧ w'.cell? ⟨gb200, 8, none⟩ = some (.int .i64 0)) (ds := [16]) #[false, false, false, false, false, false, false, false, false, false, false, false, false, false, false, false, false] (by kernel_rfl) rfl rfl ⟨(blk_cell BK200.out 0).trans rfl, (blk_cell BK200.out 1).trans rfl, (blk_cell BK200.out 2).trans rfl, (blk_cell BK200.out 3).trans rfl, (blk_cell BK200.out 4).trans rfl, (blk_cell BK200.out 5).trans rfl, (blk_cell BK200.out 6).trans rfl, (blk_cell BK200.out 7).trans rfl, (blk_cell BK200.out 8).trans rfl⟩ (fun hHeld => ?_); refine with_tabW lineageref15_Scan.tab13 lineageref15_Scan.bits13 (fun HT_ HW_ => ?_)
                     generalize w53.drew = w55 at HO_0 HO_201006 HO205 HO211 HO219 HO214 BK187 BK200 HB HO225 hHeld ⊢
                     refine pu 0 (some 68) ?_ (bt 17 1) (any_of HT_.out (by kernel_rfl)) ?_ ?_ ?_ ?_
                     rotate_left
                     ·intro w'
                      go_simp
                      with_reducible rfl
                     rotate_left
                     ·simp only [pS]
                      rfl
                     refine pu 2 (some 70) ?_ (bt 17 5) (any_of HT_.out (by kernel_rfl)) ?_ ?_ ?_ ?_
                     rotate_left
                     ·intro w'
                      go_simp
                      with_reducible rfl
                     rotate_left
                     ·simp only [pS]
                      rfl
                     refine pu 4 (some 72) ?_ (bt 17 21) (any_of HT_.out (by kernel_rfl)) ?_ ?_ ?_ ?_
                     rotate_left
                     ·intro w'
                      go_simp
                      with_reducible rfl
                     rotate_left
                     ·simp only [pS]
                      rfl
                     refine pu 7 (some 75) ?_ (bt 17 149) (any_of HT_.out (by kernel_rfl)) ?_ ?_ ?_ ?_
                     rotate_left
                     ·intro w'
                      go_simp
                      with_reducible rfl
                     rotate_left
                     ·simp only [pS]
                      rfl
                     refine pu 8 (some 76) ?_ (bt 17 405) (any_of HT_.out (by kernel_rfl)) ?_ ?_ ?_ ?_
                     rotate_left
                     ·intro w'
                      go_simp
                      with_reducible rfl
                     rotate_left
                     ·simp only [pS]
                      rfl
                     refine pu 9 (some 77) ?_ (bt 17 917) (any_of HT_.out (by kernel_rfl)) ?_ ?_ ?_ ?_
                     rotate_left
                     ·intro w'
                      go_simp
                      with_reducible rfl
                     rotate_left
                     ·simp only [pS]
                      rfl
                     refine pu 10 (some 78) ?_ (bt 17 1941) (any_of HT_.out (by kernel_rfl)) ?_ ?_ ?_ ?_
                     rotate_left
                     ·intro w'
                      go_simp
                      with_reducible rfl
                     rotate_left
                     ·simp only [pS]
                      rfl
                     refine pu 11 (some 79) ?_ (bt 17 3989) (any_of HT_.out (by kernel_rfl)) ?_ ?_ ?_ ?_
                     rotate_left
                     ·intro w'
                      go_simp
                      with_reducible rfl
                     rotate_left
                     ·simp only [pS]
                      rfl
                     refine tk 1 (some 69) ?_ (bt 17 3991) (take_ofW HT_.out HW_.out (by kernel_rfl)) hHeld ?_ ?_ ?_ ?_
                     rotate_left
                     ·rintro w' ⟨s0, s1, s2, s3, s4, s5, s6, s7, s8⟩
                      go_simp
                      with_reducible rfl
                     rotate_left
                     ·simp only [pS]
                      rfl
                     refine tk 3 (some 71) ?_ (bt 17 3999) (take_ofW HT_.out HW_.out (by kernel_rfl)) hHeld ?_ ?_ ?_ ?_
                     rotate_left
                     ·rintro w' ⟨s0, s1, s2, s3, s4, s5, s6, s7, s8⟩
                      go_simp
                      with_reducible rfl
                     rotate_left
                     ·simp only [pS]
                      rfl
                     refine pu 5 (some 73) ?_ (bt 17 4031) (any_of HT_.out (by kernel_rfl)) ?_ ?_ ?_ ?_
                     rotate_left
                     ·intro w'
                      go_simp
                      with_reducible rfl
                     rotate_left
                     ·simp only [pS]
                      rfl
                     refine pu 6 (some 74) ?_ (bt 17 4095) (any_of HT_.out (by kernel_rfl)) ?_ ?_ ?_ ?_
                     rotate_left
                     ·intro w'
                      go_simp
                      with_reducible rfl
                     rotate_left
                     ·simp only [pS]
                      rfl
                     refine pu 12 (some 80) ?_ (bt 17 8191) (any_of HT_.out (by kernel_rfl)) ?_ ?_ ?_ ?_
                     rotate_left
                     ·intro w'
                      go_simp
                      with_reducible rfl
                     rotate_left
                     ·simp only [pS]
                      rfl
                     refine one_ (i := 13) (N := some 81) (bt 17 16383) rfl rfl (one_of HT_.out (by kernel_rfl)) (by decide) (fun K hK => ?_)
                     refine value_ (w1 := ?_) (v := ?_) (by rfl) rfl ?_ ?_
                     rotate_left 2
                     ·go_simp
                      constructor
                      ·rfl
                      ·rfl
                     refine hK.out _ _ ⟨(blk_cell (kA BK200.out _) 0).trans rfl, (blk_cell (kA BK200.out _) 1).trans rfl, (blk_cell (kA BK200.out _) 2).trans rfl, (blk_cell (kA BK200.out _) 3).trans rfl, (blk_cell (kA BK200.out _) 4).trans rfl, (blk_cell (kA BK200.out _) 5).trans rfl, (blk_cell (kA BK200.out _) 6).trans rfl, (blk_cell (kA BK200.out _) 7).trans rfl, (blk_cell (kA BK200.out _) 8).trans rfl⟩ (fun hHeld => ?_)
                     clear hK K
                     refine norm_ (a' := ?_) ?_ ?_
                     rotate_left
                     ·show Act.put _ (some 81) _ = _
                      simp only [pS]
                      rfl
                     refine one_ (i := 14) (N := some 82) (bt 17 32767) rfl rfl (one_of HT_.out (by kernel_rfl)) (by decide) (fun K hK => ?_)
                     refine Kd.N_append_step k73 (w0 := w) w.heap.size (by rfl) (.tmp 69) (.tmp 81) 62 73 (.agg #[(.int .i64 0), (.slice none 0 0)]) 32 rfl Try.underlying62 info73 rfl (by decide) (by omega) u201006 x201006_3 (⟨wrap64 ((wrap64 (x201004_19 + x6_3)) - 24), y207⟩ : S73) [.int .i64 (wrap64 ((wrap64 (x201004_19 + x6_3)) - 24)), .slice A51 y207.length c51] (fun k_ => (P0_ k_ ∨ w.heap.size ≤ k_) ∧ some k_ ≠ (.slice Ao54 t212.length co54 : Value).ownBlock ∧ k_ ≠ gb187 ∧ k_ ≠ gb200) (fun k_ => ((fun k_ => (P0_ k_ ∨ w.heap.size ≤ k_) ∧ some k_ ≠ (.slice Ao54 t212.length co54 : Value).ownBlock ∧ k_ ≠ gb187 ∧ k_ ≠ gb200)) k_ ∧ some k_ ≠ (u201006 : Value).ownBlock) rfl rfl ?aP (fun _ hk => hk) ?aF ?aO ?aB ?aS ?aL ?_
                     (case aP => exact (k73_mkF _ _ (⟨wrap64 ((wrap64 (x201004_19 + x6_3)) - 24), y207⟩ : S73) (Kd.V_reads' (Kd.V_mono (ok' := (fun k_ => ((fun k_ => (P0_ k_ ∨ w.heap.size ≤ k_) ∧ some k_ ≠ (.slice Ao54 t212.length co54 : Value).ownBlock ∧ k_ ≠ gb187 ∧ k_ ≠ gb200)) k_ ∧ some k_ ≠ (u201006 : Value).ownBlock)) (HO211.out) (fun k_ hk => ⟨⟨hk.1, ⟨hk.2.1, ⟨hk.2.2.2.1, hk.2.2.2.2⟩⟩⟩, hk.2.2.1⟩))).2.1 (Kd.V_F (Kd.V_mono (ok' := (fun k_ => ((fun k_ => (P0_ k_ ∨ w.heap.size ≤ k_) ∧ some k_ ≠ (.slice Ao54 t212.length co54 : Value).ownBlock ∧ k_ ≠ gb187 ∧ k_ ≠ gb200)) k_ ∧ some k_ ≠ (u201006 : Value).ownBlock)) (HO211.out) (fun k_ hk => ⟨⟨hk.1, ⟨hk.2.1, ⟨hk.2.2.2.1, hk.2.2.2.2⟩⟩⟩, hk.2.2.1⟩)))))
                     (case aB => exact (by repeat (first | (with_reducible first | exact HB.out | apply bA | apply bN | apply bD | refine bS ?_ GE187.out | refine bS ?_ GE200.out) | exact HB.out)))
                     (case aF => exact (fun k_ hk => ⟨(.inr (Nat.le_trans (below_size (by repeat (first | (with_reducible first | exact HB.out | apply bA | apply bN | apply bD | refine bS ?_ GE187.out | refine bS ?_ GE200.out) | exact HB.out))) hk)), Kd.fresh' (Kd.R_lt (by (with_reducible repeat (first | apply Kd.R_alloc | apply Kd.R_drewN | apply Kd.R_drew)); exact HO214.out)) k_ hk, Kd.freshB (g := gb187) (o := .cells #[.slice none 0 0, .slice none 0 0, .int .i64 0, .bool false, .int .i64 0, .int .i64 0, .slice none 0 0, .int .i64 0, .int .i64 0] 64 (0, 0)) (by (with_reducible repeat (first | refine kN ?_ _ | refine kD ?_ | refine kA ?_ _)); exact BK187.out) k_ hk, Kd.freshB (g := gb200) (o := .cells #[.slice none 0 0, .slice none 0 0, .int .i64 0, .bool false, .int .i64 x201004_19, .int .i64 x201005_19, u201006, .int .i64 0, .int .i64 0] 64 (0, 0)) (by (with_reducible repeat (first | refine kN ?_ _ | refine kD ?_ | refine kA ?_ _)); exact BK200.out) k_ hk⟩))
                     (case aO => exact (by (with_reducible repeat (first | apply Kd.N_alloc | apply Kd.N_drewN | apply Kd.N_drew)); exact Kd.N_mono HO_201006.out (fun _ hk => hk)))
                     (case aS => exact (below_size (by repeat (first | (with_reducible first | exact HB.out | apply bA | apply bN | apply bD | refine bS ?_ GE187.out | refine bS ?_ GE200.out) | exact HB.out))))
                     (case aL => have := LMc48.out; omega)
                     intro v227 w57 ho hb hg hat
                     rw [show y207 = y221 from Ny207.out.trans Ny221.out.symm, ← Ny226.out] at ho
                     have n0_ := AM (Kd.V_afterv (ok := (fun k_ => (P0_ k_ ∨ w.heap.size ≤ k_) ∧ some k_ ≠ (.slice Ao54 t212.length co54 : Value).ownBlock ∧ k_ ≠ gb187 ∧ k_ ≠ gb200)) (by (with_reducible repeat (first | apply Kd.V_alloc | apply Kd.V_drewN | apply Kd.V_drew)); exact Kd.V_mono HO_0.out (fun _ hk => ⟨⟨hk.1, ⟨hk.2.1, ⟨hk.2.2.2.1, hk.2.2.2.2⟩⟩⟩, hk.2.2.1⟩)) hg hat)
                     have n1_ := AM (blk_grown (g := gb187) (o := .cells #[.slice none 0 0, .slice none 0 0, .int .i64 0, .bool false, .int .i64 0, .int .i64 0, .slice none 0 0, .int .i64 0, .int .i64 0] 64 (0, 0)) (by (with_reducible repeat (first | refine kN ?_ _ | refine kD ?_ | refine kA ?_ _)); exact BK187.out) hg (Kd.N_ne HO_201006.out BK187.out (by decide)))
                     have n2_ := AM (blk_grown (g := gb200) (o := .cells #[.slice none 0 0, .slice none 0 0, .int .i64 0, .bool false, .int .i64 x201004_19, .int .i64 x201005_19, u201006, .int .i64 0, .int .i64 0] 64 (0, 0)) (by (with_reducible repeat (first | refine kN ?_ _ | refine kD ?_ | refine kA ?_ _)); exact BK200.out) hg (Kd.N_ne HO_201006.out BK200.out (by decide)))
                     have n3_ := AM (Kd.V_afterv (ok := (fun k_ => (P0_ k_ ∨ w.heap.size ≤ k_) ∧ some k_ ≠ (.slice Ao54 t212.length co54 : Value).ownBlock ∧ k_ ≠ gb187 ∧ k_ ≠ gb200)) (by (with_reducible repeat (first | apply Kd.V_alloc | apply Kd.V_drewN | apply Kd.V_drew)); exact Kd.V_mono HO205.out (fun _ hk => ⟨⟨hk.1, ⟨hk.2.1, ⟨hk.2.2.2.1, hk.2.2.2.2⟩⟩⟩, hk.2.2.1⟩)) hg hat)
                     have n4_ := AM (Kd.V_afterv (ok := (fun k_ => (P0_ k_ ∨ w.heap.size ≤ k_) ∧ some k_ ≠ (.slice Ao54 t212.length co54 : Value).ownBlock ∧ k_ ≠ gb187 ∧ k_ ≠ gb200)) (by (with_reducible repeat (first | apply Kd.V_alloc | apply Kd.V_drewN | apply Kd.V_drew)); exact Kd.V_mono HO211.out (fun _ hk => ⟨⟨hk.1, ⟨hk.2.1, ⟨hk.2.2.2.1, hk.2.2.2.2⟩⟩⟩, hk.2.2.1⟩)) hg hat)
                     have n5_ := AM (Kd.V_afterv (ok := (fun k_ => (P0_ k_ ∨ w.heap.size ≤ k_) ∧ some k_ ≠ (.slice Ao54 t212.length co54 : Value).ownBlock ∧ k_ ≠ gb187 ∧ k_ ≠ gb200)) (by (with_reducible repeat (first | apply Kd.V_alloc | apply Kd.V_drewN | apply Kd.V_drew)); exact Kd.V_mono HO219.out (fun _ hk => ⟨⟨hk.1, ⟨hk.2.1, ⟨hk.2.2.2.1, hk.2.2.2.2⟩⟩⟩, hk.2.2.1⟩)) hg hat)
                     have n6_ := AM (Kd.R_over' (by (with_reducible repeat (first | apply Kd.R_alloc | apply Kd.R_drewN | apply Kd.R_drew)); exact HO214.out) (Kd.N_typed (by (with_reducible repeat (first | apply Kd.N_alloc | apply Kd.N_drewN | apply Kd.N_drew)); exact HO_201006.out)) (by decide) hg)
                     have n7_ := AM (Kd.V_afterv (ok := (fun k_ => (P0_ k_ ∨ w.heap.size ≤ k_) ∧ some k_ ≠ (.slice Ao54 t212.length co54 : Value).ownBlock ∧ k_ ≠ gb187 ∧ k_ ≠ gb200)) (by (with_reducible repeat (first | apply Kd.V_alloc | apply Kd.V_drewN | apply Kd.V_drew)); exact Kd.V_mono HO225.out (fun _ hk => ⟨⟨hk.1, ⟨hk.2.1, ⟨hk.2.2.2.1, hk.2.2.2.2⟩⟩⟩, hk.2.2.1⟩)) hg hat)
                     have n8_ := AM (hb)
                     have n9_ := AM (ho)
                     clear HO_0
                     clear BK187
                     clear BK200
                     clear HO205
                     clear HO211
                     clear HO219
                     clear HO214
                     clear HO225
                     clear HB
                     clear HO_201006
                     have HO_0 := n0_
                     have BK187 := n1_
                     have BK200 := n2_
                     have HO205 := n3_
                     have HO211 := n4_
                     have HO219 := n5_
                     have HO214 := n6_
                     have HO225 := n7_
                     have HB := n8_
                     have HO228 := n9_
                     clear n0_ n1_ n2_ n3_ n4_ n5_ n6_ n7_ n8_ n9_
                     clear ho hb hg hat
                     obtain ⟨Ao58, co58, eo58⟩ := Kd.N_slice HO228.out
                     (first | subst eo58 | (injection eo58 with f1_ f2_ f3_; have f4_ := f1_.symm; have f5_ := f3_.symm; clear f1_ f2_ f3_; subst f4_; subst f5_))
                     refine hK.out _ _ ⟨(blk_cell BK200.out 0).trans rfl, (blk_cell BK200.out 1).trans rfl, (blk_cell BK200.out 2).trans rfl, (blk_cell BK200.out 3).trans rfl, (blk_cell BK200.out 4).trans rfl, (blk_cell BK200.out 5).trans rfl, (blk_cell BK200.out 6).trans rfl, (blk_cell BK200.out 7).trans rfl, (blk_cell BK200.out 8).trans rfl⟩ (fun hHeld => ?_)
                     clear hK K
                     refine norm_ (a' := ?_) ?_ ?_
                     rotate_left
                     ·show Act.put _ (some 82) _ = _
                      simp only [pS]
                      rfl
                     refine pu 15 (some 83) ?_ (bt 17 65535) (any_of HT_.out (by kernel_rfl)) ?_ ?_ ?_ ?_
                     rotate_left
                     ·intro w'
                      go_simp
                      with_reducible rfl
                     rotate_left
                     ·simp only [pS]
                      rfl
                     refine last_ (i := 16) (N := none) (bt 17 131071) rfl rfl (one_of HT_.out (by kernel_rfl)) (by decide) (fun K hK => ?_)
                     have hs59 : w57.cell? ⟨gb200, 6, none⟩ = some (u201006) := (blk_cell BK200.out 6).trans rfl
                     have hfs59 := blk_frozen BK200.out 6
                     have hns59_0 := NB187_200.out
                     have hms59_0 := NB200_187.out
                     refine skip_ (w1 := ?_) (by rfl) rfl ?_ ?_
                     rotate_left
                     ·go_simp
                      rfl
                     refine hK.out _ _ ?_
                     clear hK K
                     refine done_ (done_of HT_.out (by kernel_rfl)) ?_
                     try go_wp2
                     go_roundg k3
                     case measure => have := HJ6.out; have := HJ19.out; have := HK3.out; omega
                     case rel => exact ⟨(wrap64 ((ji35) + (wrap64 (t206)))), (y226), (.slice Ao58 y226.length co58), (by first | rfl | (simp; done) | (simp only [← hji35] <;> (first | rfl | simp)) | (simp [*]; done)), H', ⟨by have := HJ6.out; have := HJ19.out; have := HK3.out; omega⟩, ⟨by (with_reducible repeat (first | apply Kd.V_alloc | apply Kd.V_drewN | apply Kd.V_drew)); exact Kd.V_mono (Kd.V_far (p := ⟨gb200, 6, none⟩) (Kd.V_mono HO_0.out (fun k_ hk => (⟨hk, hk.1.2.2.2⟩ : _ ∧ k_ ≠ gb200))) (fun _ hk => hk.2) (.slice Ao58 y226.length co58)) (fun _ hk => ⟨hk.1.1.1, ⟨hk.1.2, ⟨hk.1.1.2.2.1, hk.1.1.2.2.2⟩⟩⟩)⟩, ⟨by (with_reducible repeat (first | apply Kd.N_alloc | apply Kd.N_drewN | apply Kd.N_drew)); exact Kd.N_mono (Kd.N_far (p := ⟨gb200, 6, none⟩) (Kd.N_mono HO228.out (fun k_ hk => (⟨hk, hk.2.2.2⟩ : _ ∧ k_ ≠ gb200))) (fun _ hk => hk.2) (.slice Ao58 y226.length co58)) (fun _ hk => ⟨hk.1.1, ⟨hk.1.2.2.1, hk.1.2.2.2⟩⟩)⟩, ⟨by (with_reducible repeat (first | refine kN ?_ _ | refine kD ?_ | refine kA ?_ _)); refine blk_far ?_ NB187_200.out _; (with_reducible repeat (first | refine kN ?_ _ | refine kD ?_ | refine kA ?_ _)); exact BK187.out⟩, ⟨by (with_reducible repeat (first | refine kN ?_ _ | refine kD ?_ | refine kA ?_ _)); refine blk_put (cs := #[.slice none 0 0, .slice none 0 0, .int .i64 0, .bool false, .int .i64 x201004_19, .int .i64 x201005_19, u201006, .int .i64 0, .int .i64 0]) ?_ 6 _ rfl; (with_reducible repeat (first | refine kN ?_ _ | refine kD ?_ | refine kA ?_ _)); exact BK200.out⟩, ⟨by repeat (first | (with_reducible first | exact HB.out | apply bA | apply bN | apply bD | refine bS ?_ GE187.out | refine bS ?_ GE200.out) | exact HB.out)⟩⟩
                    ·rw [if_neg c48] at H
                     exact absurd H (by simp)
                   ·replace c44 := Bool.eq_false_iff.mpr c44
                    subst c44
                    have H1 : (some (([] : List Int), ([] : List (S119)), 0, false, x201004_19, x201005_19, x201006_3, wrap64 ((wrap64 (x201004_19 + x6_3)) - 24), 0)) = some (r1, r2, r3, r4, r5, r6, r7, r8, r9) := by rw [if_neg (show ¬ (false = true) by decide)] at H; exact H
                    clear H
                    have H := H1
                    clear H1
                    simp only [Option.some.injEq, Prod.mk.injEq] at H
                    obtain ⟨rfl, rfl, rfl, rfl, rfl, rfl, rfl, rfl, rfl⟩ := H
                    have q60 : ((wrap64 (x6_3 + 4)) : Int) ≤ ((l0.length : Int) : Int) := of_decide_eq_true (by first | (with_reducible assumption) | assumption)
                    obtain ⟨i060, hi060, _, hsz60, _⟩ := info_parts info5
                    have hroom60 : l0.length ≤ c0 := (Kd.V_reads' HO_0.out).2.1
                    have hC60 : Kd.F (Kd.int .u8) _ _ A0 l0.length l0 := (Kd.V_at (base := w.heap.size) HO_0.out).2.2
                    have ql60 : (x6_3 : Int) ≤ ((wrap64 (x6_3 + 4)) : Int) := of_decide_eq_true (by first | (with_reducible assumption) | assumption)
                    have q060 : (0 : Int) ≤ (x6_3 : Int) := of_decide_eq_true (by first | (with_reducible assumption) | assumption)
                    have hcut60 := cut_mid (P := Try.prog) 29 5 .i64 .i64 Try.underlying29 hi060 1 hsz60 A0 l0.length c0 x6_3 (wrap64 (x6_3 + 4)) q060 ql60 q60 hroom60
                    have hr60 := Kd.F_mid (lo := (x6_3 : Int).toNat) (hi := ((wrap64 (x6_3 + 4)) : Int).toNat) (c := c0) hC60 (by omega) (by omega) hroom60
                    obtain ⟨A60, hA60⟩ : ∃ A1, A1 = (if c0 = (x6_3 : Int).toNat then A0 else (A0 : Option Addr).map (·.add ((x6_3 : Int).toNat * 1))) := ⟨_, rfl⟩
                    obtain ⟨c60, hc60⟩ : ∃ c1, c1 = c0 - (x6_3 : Int).toNat := ⟨_, rfl⟩
                    have hy60 : y201.length = ((wrap64 (x6_3 + 4)) : Int).toNat - (x6_3 : Int).toNat := (by rw [Ny201.out, List.length_drop, List.length_take] <;> omega)
                    rw [show ((l0).take ((wrap64 (x6_3 + 4)) : Int).toNat).drop (x6_3 : Int).toNat = y201 from Ny201.out.symm] at hr60
                    replace hr60 : Kd.F (Kd.int .u8) _ _ A60 y201.length y201 := (by rw [hA60]; exact hr60)
                    rw [← hy60, ← hA60, ← hc60] at hcut60
                    have HO205 := AM (show Kd.V (Kd.int .u8) 5 _ w.heap.size _ (.slice A60 y201.length c60) y201 from Kd.V_mk (by rw [hy60, hc60]; exact Nat.sub_le_sub_right (Nat.le_trans (by omega) hroom60) _) hr60)
                    have HC205 := AM (show y201.length ≤ c60 from by rw [hy60, hc60]; exact Nat.sub_le_sub_right (Nat.le_trans (by omega) hroom60) _)
                    clear hr60 hC60 hroom60 hi060 hsz60 hc60
                    have KY60 := AM hy60
                    have KA60 := AM hA60
                    clear hy60 hA60
                    replace q60 := eq_true q60
                    try go_wp2_with (first | ((with_reducible refine gate_callee (f := 74) rfl ?_); refine goesL_ (some 37) rfl rfl Try.func74 (by kernel_rfl) rfl #[.slice A60 y201.length c60] rfl (by (try simp only [List.map_toArray, List.map_cons, List.map_nil]); first | done | rfl | (simp only [List.length_drop, List.length_take]; rfl)) ?_; (with_reducible refine (lineageref15_value.calls k3 _ _ y201 t206 _ ?side1 ?side2 A28.out).mono ?_); (case side1 => repeat (first | exact (Kd.V_reads' HO205.out).2.2 | (with_reducible refine Kd.C_alloc ?_ _) | (with_reducible refine Kd.C_drewN ?_ _) | (with_reducible refine Kd.C_drew ?_))); (case side2 => exact (Kd.V_reads' HO205.out).2.1); rintro e w' ⟨rfl, ⟨nd, rfl⟩⟩; refine ⟨_, rfl, ?_⟩; (try (rw [drewN_self wr]; generalize hq_ : World.drewN wr _ = wr; have n0_ : Aside0 (Kd.V (Kd.int .u8) 5 wr w.heap.size (fun k_ => (P0_ k_ ∨ w.heap.size ≤ k_) ∧ some k_ ≠ (u201006 : Value).ownBlock ∧ k_ ≠ gb187 ∧ k_ ≠ gb200) (.slice A60 y201.length c60) y201) := ⟨by rw [← hq_]; exact (by (with_reducible repeat (first | apply Kd.V_alloc | apply Kd.V_drewN | apply Kd.V_drew)); exact HO205.out)⟩; have n1_ : Aside0 (Kd.V (Kd.int .u8) 5 wr w.heap.size (fun k_ => (P0_ k_ ∨ w.heap.size ≤ k_) ∧ some k_ ≠ (u201006 : Value).ownBlock ∧ k_ ≠ gb187 ∧ k_ ≠ gb200) (.slice A0 l0.length c0) l0) := ⟨by rw [← hq_]; exact (by (with_reducible repeat (first | apply Kd.V_alloc | apply Kd.V_drewN | apply Kd.V_drew)); exact HO_0.out)⟩; have n2_ : Aside0 (Kd.N k73 73 wr w.heap.size (fun k_ => (P0_ k_ ∨ w.heap.size ≤ k_) ∧ k_ ≠ gb187 ∧ k_ ≠ gb200) u201006 x201006_3) := ⟨by rw [← hq_]; exact (by (with_reducible repeat (first | apply Kd.N_alloc | apply Kd.N_drewN | apply Kd.N_drew)); exact HO_201006.out)⟩; have n3_ : Aside0 (wr.heap[gb187]? = some (.cells #[.slice none 0 0, .slice none 0 0, .int .i64 0, .bool false, .int .i64 0, .int .i64 0, .slice none 0 0, .int .i64 0, .int .i64 0] 64 (0, 0))) := ⟨by rw [← hq_]; exact (by (with_reducible repeat (first | refine kN ?_ _ | refine kD ?_ | refine kA ?_ _)); exact BK187.out)⟩; have n4_ : Aside0 (wr.heap[gb200]? = some (.cells #[.slice none 0 0, .slice none 0 0, .int .i64 0, .bool false, .int .i64 x201004_19, .int .i64 x201005_19, u201006, .int .i64 0, .int .i64 0] 64 (0, 0))) := ⟨by rw [← hq_]; exact (by (with_reducible repeat (first | refine kN ?_ _ | refine kD ?_ | refine kA ?_ _)); exact BK200.out)⟩; have n5_ : Aside0 (Below w.heap.size w wr) := ⟨by rw [← hq_]; exact (by repeat (first | (with_reducible first | exact HB.out | apply bA | apply bN | apply bD | refine bS ?_ GE187.out | refine bS ?_ GE200.out) | exact HB.out))⟩; clear HO205 HO_0 HO_201006 BK187 BK200 HB hq_; have HO205 := n0_; have HO_0 := n1_; have HO_201006 := n2_; have BK187 := n3_; have BK200 := n4_; have HB := n5_; clear n0_ n1_ n2_ n3_ n4_ n5_))))
                    have n0_ := AM (Kd.V_drew HO_0.out)
                    have n1_ := AM (Kd.N_drew HO_201006.out)
                    have n2_ := AM (Kd.V_drew HO205.out)
                    have n3_ := AM (kD BK187.out)
                    have n4_ := AM (kD BK200.out)
                    have n5_ := AM (bD HB.out)
                    clear HO_0
                    clear HO_201006
                    clear HO205
                    clear BK187
                    clear BK200
                    clear HB
                    have HO_0 := n0_
                    have HO_201006 := n1_
                    have HO205 := n2_
                    have BK187 := n3_
                    have BK200 := n4_
                    have HB := n5_
                    clear n0_ n1_ n2_ n3_ n4_ n5_
                    have q62 : ((wrap64 ((ji35) + (wrap64 (t206)))) : Int) ≤ ((l0.length : Int) : Int) := of_decide_eq_true (by first | (with_reducible assumption) | assumption)
                    obtain ⟨i062, hi062, _, hsz62, _⟩ := info_parts info5
                    have hroom62 : l0.length ≤ c0 := (Kd.V_reads' HO_0.out).2.1
                    have hC62 : Kd.F (Kd.int .u8) _ _ A0 l0.length l0 := (Kd.V_at (base := w.heap.size) HO_0.out).2.2
                    have ql62 : ((ji35) : Int) ≤ ((wrap64 ((ji35) + (wrap64 (t206)))) : Int) := of_decide_eq_true (by first | (with_reducible assumption) | assumption)
                    have q062 : (0 : Int) ≤ ((ji35) : Int) := of_decide_eq_true (by first | (with_reducible assumption) | assumption)
                    have hcut62 := cut_mid (P := Try.prog) 29 5 .i64 .i64 Try.underlying29 hi062 1 hsz62 A0 l0.length c0 (ji35) (wrap64 ((ji35) + (wrap64 (t206)))) q062 ql62 q62 hroom62
                    have hr62 := Kd.F_mid (lo := ((ji35) : Int).toNat) (hi := ((wrap64 ((ji35) + (wrap64 (t206)))) : Int).toNat) (c := c0) hC62 (by omega) (by omega) hroom62
                    obtain ⟨A62, hA62⟩ : ∃ A1, A1 = (if c0 = ((ji35) : Int).toNat then A0 else (A0 : Option Addr).map (·.add (((ji35) : Int).toNat * 1))) := ⟨_, rfl⟩
                    obtain ⟨c62, hc62⟩ : ∃ c1, c1 = c0 - ((ji35) : Int).toNat := ⟨_, rfl⟩
                    have hy62 : y207.length = ((wrap64 ((ji35) + (wrap64 (t206)))) : Int).toNat - ((ji35) : Int).toNat := (by rw [Ny207.out, List.length_drop, List.length_take] <;> omega)
                    rw [show ((l0).take ((wrap64 ((ji35) + (wrap64 (t206)))) : Int).toNat).drop ((ji35) : Int).toNat = y207 from Ny207.out.symm] at hr62
                    replace hr62 : Kd.F (Kd.int .u8) _ _ A62 y207.length y207 := (by rw [hA62]; exact hr62)
                    rw [← hy62, ← hA62, ← hc62] at hcut62
                    have HO211 := AM (show Kd.V (Kd.int .u8) 5 _ w.heap.size _ (.slice A62 y207.length c62) y207 from Kd.V_mk (by rw [hy62, hc62]; exact Nat.sub_le_sub_right (Nat.le_trans (by omega) hroom62) _) hr62)
                    have HC211 := AM (show y207.length ≤ c62 from by rw [hy62, hc62]; exact Nat.sub_le_sub_right (Nat.le_trans (by omega) hroom62) _)
                    clear hr62 hC62 hroom62 hi062 hsz62 hc62
                    have KY62 := AM hy62
                    have KA62 := AM hA62
                    clear hy62 hA62
                    replace q62 := eq_true q62
                    have q63 : ((wrap64 ((ji35) + (wrap64 (t206)))) : Int) ≤ ((l0.length : Int) : Int) := of_decide_eq_true (by first | (with_reducible assumption) | assumption)
                    obtain ⟨i063, hi063, _, hsz63, _⟩ := info_parts info5
                    have hroom63 : l0.length ≤ c0 := (Kd.V_reads' HO_0.out).2.1
                    have hC63 : Kd.F (Kd.int .u8) _ _ A0 l0.length l0 := (Kd.V_at (base := w.heap.size) HO_0.out).2.2
                    have ql63 : (x6_3 : Int) ≤ ((wrap64 ((ji35) + (wrap64 (t206)))) : Int) := of_decide_eq_true (by first | (with_reducible assumption) | assumption)
                    have q063 : (0 : Int) ≤ (x6_3 : Int) := of_decide_eq_true (by first | (with_reducible assumption) | assumption)
                    have hcut63 := cut_mid (P := Try.prog) 29 5 .i64 .i64 Try.underlying29 hi063 1 hsz63 A0 l0.length c0 x6_3 (wrap64 ((ji35) + (wrap64 (t206)))) q063 ql63 q63 hroom63
                    have hr63 := Kd.F_mid (lo := (x6_3 : Int).toNat) (hi := ((wrap64 ((ji35) + (wrap64 (t206)))) : Int).toNat) (c := c0) hC63 (by omega) (by omega) hroom63
                    obtain ⟨A63, hA63⟩ : ∃ A1, A1 = (if c0 = (x6_3 : Int).toNat then A0 else (A0 : Option Addr).map (·.add ((x6_3 : Int).toNat * 1))) := ⟨_, rfl⟩
                    obtain ⟨c63, hc63⟩ : ∃ c1, c1 = c0 - (x6_3 : Int).toNat := ⟨_, rfl⟩
                    have hy63 : y215.length = ((wrap64 ((ji35) + (wrap64 (t206)))) : Int).toNat - (x6_3 : Int).toNat := (by rw [Ny215.out, List.length_drop, List.length_take] <;> omega)
                    rw [show ((l0).take ((wrap64 ((ji35) + (wrap64 (t206)))) : Int).toNat).drop (x6_3 : Int).toNat = y215 from Ny215.out.symm] at hr63
                    replace hr63 : Kd.F (Kd.int .u8) _ _ A63 y215.length y215 := (by rw [hA63]; exact hr63)
                    rw [← hy63, ← hA63, ← hc63] at hcut63
                    have HO219 := AM (show Kd.V (Kd.int .u8) 5 _ w.heap.size _ (.slice A63 y215.length c63) y215 from Kd.V_mk (by rw [hy63, hc63]; exact Nat.sub_le_sub_right (Nat.le_trans (by omega) hroom63) _) hr63)
                    have HC219 := AM (show y215.length ≤ c63 from by rw [hy63, hc63]; exact Nat.sub_le_sub_right (Nat.le_trans (by omega) hroom63) _)
                    clear hr63 hC63 hroom63 hi063 hsz63 hc63
                    have KY63 := AM hy63
                    have KA63 := AM hA63
                    clear hy63 hA63
                    replace q63 := eq_true q63
                    refine start_ (n := 17) (S := fun w' => w'.cell? ⟨gb200, 0, none⟩ = some (.slice none 0 0) ∧ w'.cell? ⟨gb200, 1, none⟩ = some (.slice none 0 0) ∧ w'.cell? ⟨gb200, 2, none⟩ = some (.int .i64 0) ∧ w'.cell? ⟨gb200, 3, none⟩ = some (.bool false) ∧ w'.cell? ⟨gb200, 4, none⟩ = some (.int .i64 x201004_19) ∧ w'.cell? ⟨gb200, 5, none⟩ = some (.int .i64 x201005_19) ∧ w'.cell? ⟨gb200, 6, none⟩ = some (u201006) ∧ w'.cell? ⟨gb200, 7, none⟩ = some (.int .i64 0) ∧ w'.cell? ⟨gb200, 8, none⟩ = some (.int .i64 0)) (ds := []) #[false, false, false, false, false, false, false, false, false, false, false, false, false, false, false, false, false] (by kernel_rfl) rfl rfl ⟨(blk_cell BK200.out 0).trans rfl, (blk_cell BK200.out 1).trans rfl, (blk_cell BK200.out 2).trans rfl, (blk_cell BK200.out 3).trans rfl, (blk_cell BK200.out 4).trans rfl, (blk_cell BK200.out 5).trans rfl, (blk_cell BK200.out 6).trans rfl, (blk_cell BK200.out 7).trans rfl, (blk_cell BK200.out 8).trans rfl⟩ (fun hHeld => ?_); refine with_tabW lineageref15_Scan.tab12 lineageref15_Scan.bits12 (fun HT_ HW_ => ?_)
                    generalize wr.drew = w61 at HO_0 HO_201006 HO205 BK187 BK200 HB HO211 HO219 hHeld ⊢
                    refine pu 0 (some 51) ?_ (bt 17 1) (any_of HT_.out (by kernel_rfl)) ?_ ?_ ?_ ?_
                    rotate_left
                    ·intro w'
                     go_simp
                     with_reducible rfl
                    rotate_left
                    ·simp only [pS]
                     rfl
                    refine pu 2 (some 53) ?_ (bt 17 5) (any_of HT_.out (by kernel_rfl)) ?_ ?_ ?_ ?_
                    rotate_left
                    ·intro w'
                     go_simp
                     with_reducible rfl
                    rotate_left
                    ·simp only [pS]
                     rfl
                    refine pu 5 (some 56) ?_ (bt 17 37) (any_of HT_.out (by kernel_rfl)) ?_ ?_ ?_ ?_
                    rotate_left
                    ·intro w'
                     go_simp
                     with_reducible rfl
                    rotate_left
                    ·simp only [pS]
                     rfl
                    refine pu 6 (some 57) ?_ (bt 17 101) (any_of HT_.out (by kernel_rfl)) ?_ ?_ ?_ ?_
                    rotate_left
                    ·intro w'
                     go_simp
                     with_reducible rfl
                    rotate_left
                    ·simp only [pS]
                     rfl
                    refine pu 7 (some 58) ?_ (bt 17 229) (any_of HT_.out (by kernel_rfl)) ?_ ?_ ?_ ?_
                    rotate_left
                    ·intro w'
                     go_simp
                     with_reducible rfl
                    rotate_left
                    ·simp only [pS]
                     rfl
                    refine pu 8 (some 59) ?_ (bt 17 485) (any_of HT_.out (by kernel_rfl)) ?_ ?_ ?_ ?_
                    rotate_left
                    ·intro w'
                     go_simp
                     with_reducible rfl
                    rotate_left
                    ·simp only [pS]
                     rfl
                    refine pu 9 (some 60) ?_ (bt 17 997) (any_of HT_.out (by kernel_rfl)) ?_ ?_ ?_ ?_
                    rotate_left
                    ·intro w'
                     go_simp
                     with_reducible rfl
                    rotate_left
                    ·simp only [pS]
                     rfl
                    refine pu 11 (some 62) ?_ (bt 17 3045) (any_of HT_.out (by kernel_rfl)) ?_ ?_ ?_ ?_
                    rotate_left
                    ·intro w'
                     go_simp
                     with_reducible rfl
                    rotate_left
                    ·simp only [pS]
                     rfl
                    refine pu 12 (some 63) ?_ (bt 17 7141) (any_of HT_.out (by kernel_rfl)) ?_ ?_ ?_ ?_
                    rotate_left
                    ·intro w'
                     go_simp
                     with_reducible rfl
                    rotate_left
                    ·simp only [pS]
                     rfl
                    refine pu 13 (some 64) ?_ (bt 17 15333) (any_of HT_.out (by kernel_rfl)) ?_ ?_ ?_ ?_
                    rotate_left
                    ·intro w'
                     go_simp
                     with_reducible rfl
                    rotate_left
                    ·simp only [pS]
                     rfl
                    refine pu 14 (some 65) ?_ (bt 17 31717) (any_of HT_.out (by kernel_rfl)) ?_ ?_ ?_ ?_
                    rotate_left
                    ·intro w'
                     go_simp
                     with_reducible rfl
                    rotate_left
                    ·simp only [pS]
                     rfl
                    refine tk 1 (some 52) ?_ (bt 17 31719) (take_ofW HT_.out HW_.out (by kernel_rfl)) hHeld ?_ ?_ ?_ ?_
                    rotate_left
                    ·rintro w' ⟨s0, s1, s2, s3, s4, s5, s6, s7, s8⟩
                     go_simp
                     with_reducible rfl
                    rotate_left
                    ·simp only [pS]
                     rfl
                    refine pu 3 (some 54) ?_ (bt 17 31727) (any_of HT_.out (by kernel_rfl)) ?_ ?_ ?_ ?_
                    rotate_left
                    ·intro w'
                     go_simp
                     with_reducible rfl
                    rotate_left
                    ·simp only [pS]
                     rfl
                    refine pu 4 (some 55) ?_ (bt 17 31743) (any_of HT_.out (by kernel_rfl)) ?_ ?_ ?_ ?_
                    rotate_left
                    ·intro w'
                     go_simp
                     with_reducible rfl
                    rotate_left
                    ·simp only [pS]
                     rfl
                    refine one_ (i := 10) (N := some 61) (bt 17 32767) rfl rfl (one_of HT_.out (by kernel_rfl)) (by decide) (fun K hK => ?_)
                    refine goes_ Try.func35 (by kernel_rfl) rfl #[.int .i64 (wrap64 ((wrap64 (x201004_19 + x6_3)) - 24)), .slice A62 y207.length c62] (by rfl) rfl rfl (by (try simp only [List.map_toArray, List.map_cons, List.map_nil]); first | done | rfl | (simp only [List.length_drop, List.length_take]; rfl)) ?_
                    with_reducible refine (lineageref15_Frame.calls k3 (wrap64 ((wrap64 (x201004_19 + x6_3)) - 24)) _ _ y207 t212 _ ?side1 ?side2 A39.out).mono ?_
                    (case side1 => repeat (first | exact (Kd.V_reads' HO211.out).2.2 | (with_reducible refine Kd.C_alloc ?_ _) | (with_reducible refine Kd.C_drewN ?_ _) | (with_reducible refine Kd.C_drew ?_)))
                    (case side2 => exact (Kd.V_reads' HO211.out).2.1)
                    rintro e w64 ⟨v213, rfl, ho0, hb⟩
                    refine ⟨_, rfl, ?_⟩
                    have n0_ := AM (Kd.V_elder' (by (with_reducible repeat (first | apply Kd.V_alloc | apply Kd.V_drewN | apply Kd.V_drew)); exact HO_0.out) (Kd.R_base ho0) hb)
                    have n1_ := AM (Kd.N_elder' (by (with_reducible repeat (first | apply Kd.N_alloc | apply Kd.N_drewN | apply Kd.N_drew)); exact HO_201006.out) (Kd.R_base ho0) hb)
                    have n2_ := AM (Kd.V_elder' (by (with_reducible repeat (first | apply Kd.V_alloc | apply Kd.V_drewN | apply Kd.V_drew)); exact HO205.out) (Kd.R_base ho0) hb)
                    have n3_ := AM (Kd.V_elder' (by (with_reducible repeat (first | apply Kd.V_alloc | apply Kd.V_drewN | apply Kd.V_drew)); exact HO211.out) (Kd.R_base ho0) hb)
                    have n4_ := AM (Kd.V_elder' (by (with_reducible repeat (first | apply Kd.V_alloc | apply Kd.V_drewN | apply Kd.V_drew)); exact HO219.out) (Kd.R_base ho0) hb)
                    have n5_ := AM (Kd.R_lower (Kd.R_newM (M := fun k_ => (w.heap.size ≤ k_)) ho0 (below_size (by repeat (first | (with_reducible first | exact HB.out | apply bA | apply bN | apply bD | refine bS ?_ GE187.out | refine bS ?_ GE200.out) | exact HB.out))) (fun k_ h_ => h_)) (below_size (by repeat (first | (with_reducible first | exact HB.out | apply bA | apply bN | apply bD | refine bS ?_ GE187.out | refine bS ?_ GE200.out) | exact HB.out))))
                    have n6_ := AM (blk_below (g := gb187) (o := .cells #[.slice none 0 0, .slice none 0 0, .int .i64 0, .bool false, .int .i64 0, .int .i64 0, .slice none 0 0, .int .i64 0, .int .i64 0] 64 (0, 0)) (by (with_reducible repeat (first | refine kN ?_ _ | refine kD ?_ | refine kA ?_ _)); exact BK187.out) hb)
                    have n7_ := AM (blk_below (g := gb200) (o := .cells #[.slice none 0 0, .slice none 0 0, .int .i64 0, .bool false, .int .i64 x201004_19, .int .i64 x201005_19, u201006, .int .i64 0, .int .i64 0] 64 (0, 0)) (by (with_reducible repeat (first | refine kN ?_ _ | refine kD ?_ | refine kA ?_ _)); exact BK200.out) hb)
                    have n8_ := AM (below_step (by repeat (first | (with_reducible first | exact HB.out | apply bA | apply bN | apply bD | refine bS ?_ GE187.out | refine bS ?_ GE200.out) | exact HB.out)) hb)
                    clear HO_0
                    clear HO_201006
                    clear HO205
                    clear HO211
                    clear HO219
                    clear BK187
                    clear BK200
                    clear HB
                    have HO_0 := n0_
                    have HO_201006 := n1_
                    have HO205 := n2_
                    have HO211 := n3_
                    have HO219 := n4_
                    have HO214 := n5_
                    have BK187 := n6_
                    have BK200 := n7_
                    have HB := n8_
                    clear n0_ n1_ n2_ n3_ n4_ n5_ n6_ n7_ n8_
                    (try clear hb)
                    (try clear hb2)
                    (try clear hk)
                    (try clear hi)
                    (try clear ho0)
                    obtain ⟨Ao65, co65, eo65⟩ := Kd.R_slice HO214.out
                    (first | subst eo65 | (injection eo65 with f1_ f2_ f3_; have f4_ := f1_.symm; have f5_ := f3_.symm; clear f1_ f2_ f3_; subst f4_; subst f5_))
                    refine hK.out _ _ ⟨(blk_cell BK200.out 0).trans rfl, (blk_cell BK200.out 1).trans rfl, (blk_cell BK200.out 2).trans rfl, (blk_cell BK200.out 3).trans rfl, (blk_cell BK200.out 4).trans rfl, (blk_cell BK200.out 5).trans rfl, (blk_cell BK200.out 6).trans rfl, (blk_cell BK200.out 7).trans rfl, (blk_cell BK200.out 8).trans rfl⟩ (fun hHeld => ?_)
                    clear hK K
                    refine norm_ (a' := ?_) ?_ ?_
                    rotate_left
                    ·show Act.put _ (some 61) _ = _
                     simp only [pS]
                     rfl
                    refine one_ (i := 15) (N := some 66) (bt 17 65535) rfl rfl (one_of HT_.out (by kernel_rfl)) (by decide) (fun K hK => ?_)
                    refine goes_ Try.func23 (by kernel_rfl) rfl #[.slice Ao65 t212.length co65, .slice A63 y215.length c63] (by rfl) rfl rfl (by (try simp only [List.map_toArray, List.map_cons, List.map_nil]); first | done | rfl | (simp only [List.length_drop, List.length_take]; rfl)) ?_
                    with_reducible refine (lineageref13_Same.calls k3 _ _ t212 _ _ y215 false _ ?side1 ?side2 ?side3 ?side4 A43.out).mono ?_
                    (case side1 => repeat (first | exact (Kd.R_reads' HO214.out).2.2 | (with_reducible refine Kd.C_alloc ?_ _) | (with_reducible refine Kd.C_drewN ?_ _) | (with_reducible refine Kd.C_drew ?_)))
                    (case side2 => exact (Kd.R_reads' HO214.out).2.1)
                    (case side3 => repeat (first | exact (Kd.V_reads' HO219.out).2.2 | (with_reducible refine Kd.C_alloc ?_ _) | (with_reducible refine Kd.C_drewN ?_ _) | (with_reducible refine Kd.C_drew ?_)))
                    (case side4 => exact (Kd.V_reads' HO219.out).2.1)
                    rintro e w' ⟨rfl, ⟨nd, rfl⟩⟩
                    refine ⟨_, rfl, ?_⟩
                    refine hK.out _ _ ⟨(blk_cell BK200.out 0).trans rfl, (blk_cell BK200.out 1).trans rfl, (blk_cell BK200.out 2).trans rfl, (blk_cell BK200.out 3).trans rfl, (blk_cell BK200.out 4).trans rfl, (blk_cell BK200.out 5).trans rfl, (blk_cell BK200.out 6).trans rfl, (blk_cell BK200.out 7).trans rfl, (blk_cell BK200.out 8).trans rfl⟩ (fun hHeld => ?_)
                    clear hK K
                    refine norm_ (a' := ?_) ?_ ?_
                    rotate_left
                    ·show Act.put _ (some 66) _ = _
                     simp only [pS]
                     rfl
                    refine pu 16 (some 67) ?_ (bt 17 131071) (any_of HT_.out (by kernel_rfl)) ?_ ?_ ?_ ?_
                    rotate_left
                    ·intro w'
                     go_simp
                     with_reducible rfl
                    rotate_left
                    ·simp only [pS]
                     rfl
                    refine done_ (done_of HT_.out (by kernel_rfl)) ?_
                    have hnb66 := NB200_187.out
                    have hnc66 := NB187_200.out
                    have hcz67_0 : w64.cell? ⟨gb200, 0, none⟩ = some (.slice none 0 0) := (blk_cell BK200.out 0).trans rfl
                    have hcz67_1 : w64.cell? ⟨gb200, 1, none⟩ = some (.slice none 0 0) := (blk_cell BK200.out 1).trans rfl
                    have hcz67_2 : w64.cell? ⟨gb200, 2, none⟩ = some (.int .i64 0) := (blk_cell BK200.out 2).trans rfl
                    have hcz67_3 : w64.cell? ⟨gb200, 3, none⟩ = some (.bool false) := (blk_cell BK200.out 3).trans rfl
                    have hcz67_4 : w64.cell? ⟨gb200, 4, none⟩ = some (.int .i64 x201004_19) := (blk_cell BK200.out 4).trans rfl
                    have hcz67_5 : w64.cell? ⟨gb200, 5, none⟩ = some (.int .i64 x201005_19) := (blk_cell BK200.out 5).trans rfl
                    have hcz67_6 : w64.cell? ⟨gb200, 6, none⟩ = some (u201006) := (blk_cell BK200.out 6).trans rfl
                    have hcz67_7 : w64.cell? ⟨gb200, 7, none⟩ = some (.int .i64 0) := (blk_cell BK200.out 7).trans rfl
                    have hcz67_8 : w64.cell? ⟨gb200, 8, none⟩ = some (.int .i64 0) := (blk_cell BK200.out 8).trans rfl
                    have hfz67_0 := blk_frozen BK200.out 0
                    have hfz67_1 := blk_frozen BK200.out 1
                    have hfz67_2 := blk_frozen BK200.out 2
                    have hfz67_3 := blk_frozen BK200.out 3
                    have hfz67_4 := blk_frozen BK200.out 4
                    have hfz67_5 := blk_frozen BK200.out 5
                    have hfz67_6 := blk_frozen BK200.out 6
                    have hfz67_7 := blk_frozen BK200.out 7
                    have hfz67_8 := blk_frozen BK200.out 8
                    have hcz68_0 : w64.cell? ⟨gb187, 0, none⟩ = some (.slice none 0 0) := (blk_cell BK187.out 0).trans rfl
                    have hcz68_1 : w64.cell? ⟨gb187, 1, none⟩ = some (.slice none 0 0) := (blk_cell BK187.out 1).trans rfl
                    have hcz68_2 : w64.cell? ⟨gb187, 2, none⟩ = some (.int .i64 0) := (blk_cell BK187.out 2).trans rfl
                    have hcz68_3 : w64.cell? ⟨gb187, 3, none⟩ = some (.bool false) := (blk_cell BK187.out 3).trans rfl
                    have hcz68_4 : w64.cell? ⟨gb187, 4, none⟩ = some (.int .i64 0) := (blk_cell BK187.out 4).trans rfl
                    have hcz68_5 : w64.cell? ⟨gb187, 5, none⟩ = some (.int .i64 0) := (blk_cell BK187.out 5).trans rfl
                    have hcz68_6 : w64.cell? ⟨gb187, 6, none⟩ = some (.slice none 0 0) := (blk_cell BK187.out 6).trans rfl
                    have hcz68_7 : w64.cell? ⟨gb187, 7, none⟩ = some (.int .i64 0) := (blk_cell BK187.out 7).trans rfl
                    have hcz68_8 : w64.cell? ⟨gb187, 8, none⟩ = some (.int .i64 0) := (blk_cell BK187.out 8).trans rfl
                    have hfz68_0 := blk_frozen BK187.out 0
                    have hfz68_1 := blk_frozen BK187.out 1
                    have hfz68_2 := blk_frozen BK187.out 2
                    have hfz68_3 := blk_frozen BK187.out 3
                    have hfz68_4 := blk_frozen BK187.out 4
                    have hfz68_5 := blk_frozen BK187.out 5
                    have hfz68_6 := blk_frozen BK187.out 6
                    have hfz68_7 := blk_frozen BK187.out 7
                    have hfz68_8 := blk_frozen BK187.out 8
                    obtain ⟨Ao69, co69, eo69⟩ := Kd.N_slice HO_201006.out
                    subst eo69
                    try go_wp2
                    refine bodyPost_ret (results_cell_row rfl _ _ gb187 64 #[.slice none 0 0, .slice none 0 0, .int .i64 0, .bool false, .int .i64 x201004_19, .int .i64 x201005_19, .slice Ao69 x201006_3.length co69, .int .i64 (wrap64 ((wrap64 (x201004_19 + x6_3)) - 24)), .int .i64 0] (0, 0) _ rfl (by (with_reducible repeat (first | refine kN ?_ _ | refine kD ?_ | refine kA ?_ _)); refine blk_put (cs := #[.slice none 0 0, .slice none 0 0, .int .i64 0, .bool false, .int .i64 x201004_19, .int .i64 x201005_19, .slice Ao69 x201006_3.length co69, .int .i64 (wrap64 ((wrap64 (x201004_19 + x6_3)) - 24)), .int .i64 0]) ?_ 8 _ rfl; (with_reducible repeat (first | refine kN ?_ _ | refine kD ?_ | refine kA ?_ _)); refine blk_put (cs := #[.slice none 0 0, .slice none 0 0, .int .i64 0, .bool false, .int .i64 x201004_19, .int .i64 x201005_19, .slice Ao69 x201006_3.length co69, .int .i64 0, .int .i64 0]) ?_ 7 _ rfl; (with_reducible repeat (first | refine kN ?_ _ | refine kD ?_ | refine kA ?_ _)); refine blk_put (cs := #[.slice none 0 0, .slice none 0 0, .int .i64 0, .bool false, .int .i64 x201004_19, .int .i64 x201005_19, .slice none 0 0, .int .i64 0, .int .i64 0]) ?_ 6 _ rfl; (with_reducible repeat (first | refine kN ?_ _ | refine kD ?_ | refine kA ?_ _)); refine blk_put (cs := #[.slice none 0 0, .slice none 0 0, .int .i64 0, .bool false, .int .i64 x201004_19, .int .i64 0, .slice none 0 0, .int .i64 0, .int .i64 0]) ?_ 5 _ rfl; (with_reducible repeat (first | refine kN ?_ _ | refine kD ?_ | refine kA ?_ _)); refine blk_put (cs := #[.slice none 0 0, .slice none 0 0, .int .i64 0, .bool false, .int .i64 0, .int .i64 0, .slice none 0 0, .int .i64 0, .int .i64 0]) ?_ 4 _ rfl; (with_reducible repeat (first | refine kN ?_ _ | refine kD ?_ | refine kA ?_ _)); refine blk_put (cs := #[.slice none 0 0, .slice none 0 0, .int .i64 0, .bool false, .int .i64 0, .int .i64 0, .slice none 0 0, .int .i64 0, .int .i64 0]) ?_ 3 _ rfl; (with_reducible repeat (first | refine kN ?_ _ | refine kD ?_ | refine kA ?_ _)); refine blk_put (cs := #[.slice none 0 0, .slice none 0 0, .int .i64 0, .bool false, .int .i64 0, .int .i64 0, .slice none 0 0, .int .i64 0, .int .i64 0]) ?_ 2 _ rfl; (with_reducible repeat (first | refine kN ?_ _ | refine kD ?_ | refine kA ?_ _)); refine blk_put (cs := #[.slice none 0 0, .slice none 0 0, .int .i64 0, .bool false, .int .i64 0, .int .i64 0, .slice none 0 0, .int .i64 0, .int .i64 0]) ?_ 1 _ rfl; (with_reducible repeat (first | refine kN ?_ _ | refine kD ?_ | refine kA ?_ _)); refine blk_put (cs := #[.slice none 0 0, .slice none 0 0, .int .i64 0, .bool false, .int .i64 0, .int .i64 0, .slice none 0 0, .int .i64 0, .int .i64 0]) ?_ 0 _ rfl; (with_reducible repeat (first | refine kN ?_ _ | refine kD ?_ | refine kA ?_ _)); refine blk_far ?_ NB187_200.out _; (with_reducible repeat (first | refine kN ?_ _ | refine kD ?_ | refine kA ?_ _)); exact BK187.out) Try.underlying64 rfl (by kernel_rfl)) rfl ?_
                    exact ⟨_, _, _, by first | rfl | (simp [errW_none, errW_some] <;> rfl) | (simp only [← hji35]; first | rfl | (simp [errW_none, errW_some] <;> rfl)) | (simp [*, errW_none, errW_some] <;> rfl), by first | exact Kd.R_nil _ _ _ _ _ | exact Kd.N_nil _ _ _ _ _ | exact Kd.V_nil _ _ _ _ _ | exact Kd.Q_nil _ _ _ _ _ | exact Kd.S_nil _ _ _ _ _, by first | exact Kd.S_nil _ _ _ _ _ | exact Kd.N_nil _ _ _ _ _ | exact Kd.V_nil _ _ _ _ _ | exact Kd.Q_nil _ _ _ _ _ | exact Kd.R_nil _ _ _ _ _, by (with_reducible repeat (first | apply Kd.N_alloc | apply Kd.N_drewN | apply Kd.N_drew)); exact Kd.N_mono (Kd.N_far (p := ⟨gb187, 8, none⟩) (Kd.N_far (p := ⟨gb187, 7, none⟩) (Kd.N_far (p := ⟨gb187, 6, none⟩) (Kd.N_far (p := ⟨gb187, 5, none⟩) (Kd.N_far (p := ⟨gb187, 4, none⟩) (Kd.N_far (p := ⟨gb187, 3, none⟩) (Kd.N_far (p := ⟨gb187, 2, none⟩) (Kd.N_far (p := ⟨gb187, 1, none⟩) (Kd.N_far (p := ⟨gb187, 0, none⟩) (Kd.N_far (p := ⟨gb200, 7, none⟩) (Kd.N_mono (Kd.N_mono HO_201006.out (fun k_ hk => (⟨hk, hk.1.2.2⟩ : _ ∧ k_ ≠ gb200))) (fun k_ hk => (⟨hk, hk.1.1.2.1⟩ : _ ∧ k_ ≠ gb187))) (fun _ hk => hk.1.2) (.int .i64 (wrap64 ((wrap64 (x201004_19 + x6_3)) - 24)))) (fun _ hk => hk.2) (.slice none 0 0)) (fun _ hk => hk.2) (.slice none 0 0)) (fun _ hk => hk.2) (.int .i64 0)) (fun _ hk => hk.2) (.bool false)) (fun _ hk => hk.2) (.int .i64 x201004_19)) (fun _ hk => hk.2) (.int .i64 x201005_19)) (fun _ hk => hk.2) (.slice Ao69 x201006_3.length co69)) (fun _ hk => hk.2) (.int .i64 (wrap64 ((wrap64 (x201004_19 + x6_3)) - 24)))) (fun _ hk => hk.2) (.int .i64 0)) (fun _ hk => ⟨hk.1.1.1.1, ⟨(by simp [Value.ownBlock]), (by simp [Value.ownBlock])⟩⟩), by repeat (first | (with_reducible first | exact HB.out | apply bA | apply bN | apply bD | refine bS ?_ GE187.out | refine bS ?_ GE200.out) | exact HB.out)⟩
                  ·rw [if_neg c41] at H
                   exact absurd H (by simp)
                 ·rw [if_neg c38] at H
                  exact absurd H (by simp)
                ·rw [if_neg c37] at H
                 exact absurd H (by simp)
               ·rw [if_neg c36] at H
                exact absurd H (by simp)
             ·rw [if_neg c27] at H
              exact absurd H (by simp)
            ·rw [if_neg c26] at H
             exact absurd H (by simp)
           ·rw [if_neg c25] at H
            exact absurd H (by simp)
          ·rw [if_neg c24] at H
           have c24b0 : decide ((wrap64 (x6_3 + 16)) ≤ (l0.length : Int)) = false := decide_eq_false c24
           clear c24
           simp only [Option.some.injEq, Prod.mk.injEq] at H
           obtain ⟨rfl, rfl, rfl, rfl, rfl, rfl, rfl, rfl, rfl⟩ := H
           have hnb70 := NB200_187.out
           have hnc70 := NB187_200.out
           have hcz71_0 : wr.cell? ⟨gb200, 0, none⟩ = some (.slice none 0 0) := (blk_cell BK200.out 0).trans rfl
           have hcz71_1 : wr.cell? ⟨gb200, 1, none⟩ = some (.slice none 0 0) := (blk_cell BK200.out 1).trans rfl
           have hcz71_2 : wr.cell? ⟨gb200, 2, none⟩ = some (.int .i64 0) := (blk_cell BK200.out 2).trans rfl
           have hcz71_3 : wr.cell? ⟨gb200, 3, none⟩ = some (.bool false) := (blk_cell BK200.out 3).trans rfl
           have hcz71_4 : wr.cell? ⟨gb200, 4, none⟩ = some (.int .i64 x201004_19) := (blk_cell BK200.out 4).trans rfl
           have hcz71_5 : wr.cell? ⟨gb200, 5, none⟩ = some (.int .i64 x201005_19) := (blk_cell BK200.out 5).trans rfl
           have hcz71_6 : wr.cell? ⟨gb200, 6, none⟩ = some (u201006) := (blk_cell BK200.out 6).trans rfl
           have hcz71_7 : wr.cell? ⟨gb200, 7, none⟩ = some (.int .i64 0) := (blk_cell BK200.out 7).trans rfl
           have hcz71_8 : wr.cell? ⟨gb200, 8, none⟩ = some (.int .i64 0) := (blk_cell BK200.out 8).trans rfl
           have hfz71_0 := blk_frozen BK200.out 0
           have hfz71_1 := blk_frozen BK200.out 1
           have hfz71_2 := blk_frozen BK200.out 2
           have hfz71_3 := blk_frozen BK200.out 3
           have hfz71_4 := blk_frozen BK200.out 4
           have hfz71_5 := blk_frozen BK200.out 5
           have hfz71_6 := blk_frozen BK200.out 6
           have hfz71_7 := blk_frozen BK200.out 7
           have hfz71_8 := blk_frozen BK200.out 8
           have hcz72_0 : wr.cell? ⟨gb187, 0, none⟩ = some (.slice none 0 0) := (blk_cell BK187.out 0).trans rfl
           have hcz72_1 : wr.cell? ⟨gb187, 1, none⟩ = some (.slice none 0 0) := (blk_cell BK187.out 1).trans rfl
           have hcz72_2 : wr.cell? ⟨gb187, 2, none⟩ = some (.int .i64 0) := (blk_cell BK187.out 2).trans rfl
           have hcz72_3 : wr.cell? ⟨gb187, 3, none⟩ = some (.bool false) := (blk_cell BK187.out 3).trans rfl
           have hcz72_4 : wr.cell? ⟨gb187, 4, none⟩ = some (.int .i64 0) := (blk_cell BK187.out 4).trans rfl
           have hcz72_5 : wr.cell? ⟨gb187, 5, none⟩ = some (.int .i64 0) := (blk_cell BK187.out 5).trans rfl
           have hcz72_6 : wr.cell? ⟨gb187, 6, none⟩ = some (.slice none 0 0) := (blk_cell BK187.out 6).trans rfl
           have hcz72_7 : wr.cell? ⟨gb187, 7, none⟩ = some (.int .i64 0) := (blk_cell BK187.out 7).trans rfl
           have hcz72_8 : wr.cell? ⟨gb187, 8, none⟩ = some (.int .i64 0) := (blk_cell BK187.out 8).trans rfl
           have hfz72_0 := blk_frozen BK187.out 0
           have hfz72_1 := blk_frozen BK187.out 1
           have hfz72_2 := blk_frozen BK187.out 2
           have hfz72_3 := blk_frozen BK187.out 3
           have hfz72_4 := blk_frozen BK187.out 4
           have hfz72_5 := blk_frozen BK187.out 5
           have hfz72_6 := blk_frozen BK187.out 6
           have hfz72_7 := blk_frozen BK187.out 7
           have hfz72_8 := blk_frozen BK187.out 8
           obtain ⟨Ao73, co73, eo73⟩ := Kd.N_slice HO_201006.out
           subst eo73
           go_wp2
           refine bodyPost_ret (results_cell_row rfl _ _ gb187 64 #[.slice none 0 0, .slice none 0 0, .int .i64 0, .bool false, .int .i64 x201004_19, .int .i64 x201005_19, .slice Ao73 x201006_3.length co73, .int .i64 (wrap64 ((wrap64 (x201004_19 + x6_3)) - 24)), .int .i64 0] (0, 0) _ rfl (by (with_reducible repeat (first | refine kN ?_ _ | refine kD ?_ | refine kA ?_ _)); refine blk_put (cs := #[.slice none 0 0, .slice none 0 0, .int .i64 0, .bool false, .int .i64 x201004_19, .int .i64 x201005_19, .slice Ao73 x201006_3.length co73, .int .i64 (wrap64 ((wrap64 (x201004_19 + x6_3)) - 24)), .int .i64 0]) ?_ 8 _ rfl; (with_reducible repeat (first | refine kN ?_ _ | refine kD ?_ | refine kA ?_ _)); refine blk_put (cs := #[.slice none 0 0, .slice none 0 0, .int .i64 0, .bool false, .int .i64 x201004_19, .int .i64 x201005_19, .slice Ao73 x201006_3.length co73, .int .i64 0, .int .i64 0]) ?_ 7 _ rfl; (with_reducible repeat (first | refine kN ?_ _ | refine kD ?_ | refine kA ?_ _)); refine blk_put (cs := #[.slice none 0 0, .slice none 0 0, .int .i64 0, .bool false, .int .i64 x201004_19, .int .i64 x201005_19, .slice none 0 0, .int .i64 0, .int .i64 0]) ?_ 6 _ rfl; (with_reducible repeat (first | refine kN ?_ _ | refine kD ?_ | refine kA ?_ _)); refine blk_put (cs := #[.slice none 0 0, .slice none 0 0, .int .i64 0, .bool false, .int .i64 x201004_19, .int .i64 0, .slice none 0 0, .int .i64 0, .int .i64 0]) ?_ 5 _ rfl; (with_reducible repeat (first | refine kN ?_ _ | refine kD ?_ | refine kA ?_ _)); refine blk_put (cs := #[.slice none 0 0, .slice none 0 0, .int .i64 0, .bool false, .int .i64 0, .int .i64 0, .slice none 0 0, .int .i64 0, .int .i64 0]) ?_ 4 _ rfl; (with_reducible repeat (first | refine kN ?_ _ | refine kD ?_ | refine kA ?_ _)); refine blk_put (cs := #[.slice none 0 0, .slice none 0 0, .int .i64 0, .bool false, .int .i64 0, .int .i64 0, .slice none 0 0, .int .i64 0, .int .i64 0]) ?_ 3 _ rfl; (with_reducible repeat (first | refine kN ?_ _ | refine kD ?_ | refine kA ?_ _)); refine blk_put (cs := #[.slice none 0 0, .slice none 0 0, .int .i64 0, .bool false, .int .i64 0, .int .i64 0, .slice none 0 0, .int .i64 0, .int .i64 0]) ?_ 2 _ rfl; (with_reducible repeat (first | refine kN ?_ _ | refine kD ?_ | refine kA ?_ _)); refine blk_put (cs := #[.slice none 0 0, .slice none 0 0, .int .i64 0, .bool false, .int .i64 0, .int .i64 0, .slice none 0 0, .int .i64 0, .int .i64 0]) ?_ 1 _ rfl; (with_reducible repeat (first | refine kN ?_ _ | refine kD ?_ | refine kA ?_ _)); refine blk_put (cs := #[.slice none 0 0, .slice none 0 0, .int .i64 0, .bool false, .int .i64 0, .int .i64 0, .slice none 0 0, .int .i64 0, .int .i64 0]) ?_ 0 _ rfl; (with_reducible repeat (first | refine kN ?_ _ | refine kD ?_ | refine kA ?_ _)); refine blk_far ?_ NB187_200.out _; (with_reducible repeat (first | refine kN ?_ _ | refine kD ?_ | refine kA ?_ _)); exact BK187.out) Try.underlying64 rfl (by kernel_rfl)) rfl ?_
           exact ⟨_, _, _, by first | rfl | (simp [errW_none, errW_some] <;> rfl) | (simp [*, errW_none, errW_some] <;> rfl), by first | exact Kd.R_nil _ _ _ _ _ | exact Kd.N_nil _ _ _ _ _ | exact Kd.V_nil _ _ _ _ _ | exact Kd.Q_nil _ _ _ _ _ | exact Kd.S_nil _ _ _ _ _, by first | exact Kd.S_nil _ _ _ _ _ | exact Kd.N_nil _ _ _ _ _ | exact Kd.V_nil _ _ _ _ _ | exact Kd.Q_nil _ _ _ _ _ | exact Kd.R_nil _ _ _ _ _, by (with_reducible repeat (first | apply Kd.N_alloc | apply Kd.N_drewN | apply Kd.N_drew)); exact Kd.N_mono (Kd.N_far (p := ⟨gb187, 8, none⟩) (Kd.N_far (p := ⟨gb187, 7, none⟩) (Kd.N_far (p := ⟨gb187, 6, none⟩) (Kd.N_far (p := ⟨gb187, 5, none⟩) (Kd.N_far (p := ⟨gb187, 4, none⟩) (Kd.N_far (p := ⟨gb187, 3, none⟩) (Kd.N_far (p := ⟨gb187, 2, none⟩) (Kd.N_far (p := ⟨gb187, 1, none⟩) (Kd.N_far (p := ⟨gb187, 0, none⟩) (Kd.N_far (p := ⟨gb200, 7, none⟩) (Kd.N_mono (Kd.N_mono HO_201006.out (fun k_ hk => (⟨hk, hk.2.2⟩ : _ ∧ k_ ≠ gb200))) (fun k_ hk => (⟨hk, hk.1.2.1⟩ : _ ∧ k_ ≠ gb187))) (fun _ hk => hk.1.2) (.int .i64 (wrap64 ((wrap64 (x201004_19 + x6_3)) - 24)))) (fun _ hk => hk.2) (.slice none 0 0)) (fun _ hk => hk.2) (.slice none 0 0)) (fun _ hk => hk.2) (.int .i64 0)) (fun _ hk => hk.2) (.bool false)) (fun _ hk => hk.2) (.int .i64 x201004_19)) (fun _ hk => hk.2) (.int .i64 x201005_19)) (fun _ hk => hk.2) (.slice Ao73 x201006_3.length co73)) (fun _ hk => hk.2) (.int .i64 (wrap64 ((wrap64 (x201004_19 + x6_3)) - 24)))) (fun _ hk => hk.2) (.int .i64 0)) (fun _ hk => ⟨hk.1.1.1, ⟨(by simp [Value.ownBlock]), (by simp [Value.ownBlock])⟩⟩), by repeat (first | (with_reducible first | exact HB.out | apply bA | apply bN | apply bD | refine bS ?_ GE187.out | refine bS ?_ GE200.out) | exact HB.out)⟩
   ·rw [if_neg c5] at H
    exact absurd H (by simp)
  ·rw [if_neg c4] at H
   exact absurd H (by simp)
 ·rw [if_neg c2] at H
  exact absurd H (by simp)
end Go.Proofs.Ytbbokpkpdnppjaa.G
