-- PRINTED by print.py (a twelfth state) out of the translation. Not trusted: Lean checks it.
import Derived.Test.YtbbokpkpdnppjaaU0
import Derived.Test.YtbbokpkpdnppjaaUA
import Derived.Test.YtbbokpkpdnppjaaU1
import Derived.Test.YtbbokpkpdnppjaaSx0
import Derived.Test.YtbbokpkpdnppjaaSx1
namespace Go.Proofs.Ytbbokpkpdnppjaa.S
open Go.RowKit Go.Proofs.YtbbokpkpdnppjaaW.PrintWords Go.Proofs.YtbbokpkpdnppjaaW.PrintLast Go.Proofs.YtbbokpkpdnppjaaW.PrintMore
attribute [local go_sem] max2_int min2_int max_two min_two max_three min_three max_four min_four   -- for this text's walks alone
set_option linter.unusedVariables false
set_option linter.unusedSimpArgs false
/-! ### lineageref13_Crash: function 52 -/
def lineageref13_Crash.l0 : Nat → List Int → Int → List Int → List (S119) → Int → Bool → Option (List Int × (List (S119)) × Int × Bool)
 | 0, _, _, _, _, _, _ => none
 | k + 1, x1, x5, x160000, x160001, x160002, x160003 => if x5 < (x160001.length : Int) then (if x5 < (x1.length : Int) then (if 0 ≤ x5 then (if 0 ≤ (mx 0 (mn (rd x1 x5) (((rd_T119 x160001 x5).f1).length : Int))) then (if (mx 0 (mn (rd x1 x5) (((rd_T119 x160001 x5).f1).length : Int))) ≤ (((rd_T119 x160001 x5).f1).length : Int) then ((lineageref13_put.f k x160000 ((rd_T119 x160001 x5).f0) (((rd_T119 x160001 x5).f1).take ((mx 0 (mn (rd x1 x5) (((rd_T119 x160001 x5).f1).length : Int))) : Int).toNat)).bind fun t166 => (lineageref13_Crash.l0 k x1 (wrap64 (x5 + 1)) t166 x160001 x160002 x160003)) else (none)) else (none)) else (none)) else (if 0 ≤ x5 then (if 0 ≤ (((rd_T119 x160001 x5).f1).length : Int) then ((lineageref13_put.f k x160000 ((rd_T119 x160001 x5).f0) (((rd_T119 x160001 x5).f1).take 0)).bind fun t172 => (lineageref13_Crash.l0 k x1 (wrap64 (x5 + 1)) t172 x160001 x160002 x160003)) else (none)) else (none))) else (some (x160000, ([] : List (S119)), (-1), false))
def lineageref13_Crash.f (k : Nat) (l0_0 : List Int) (l0_1 : List (S119)) (a0_2 : Int) (a0_3 : Bool) (l1 : List Int) : Option (List Int × (List (S119)) × Int × Bool) := lineageref13_Crash.l0 k l1 0 l0_0 l0_1 a0_2 a0_3
theorem lineageref13_Crash.mono_l : ∀ k, (∀ y0 y1 y2 y3 y4 y5, LeO (lineageref13_Crash.l0 k y0 y1 y2 y3 y4 y5) (lineageref13_Crash.l0 (k + 1) y0 y1 y2 y3 y4 y5))
 | 0 => fun _ _ _ _ _ _ r h => by simp [lineageref13_Crash.l0] at h
 | k + 1 => by
  have ih0 := lineageref13_Crash.mono_l k
  ·intro y0 y1 y2 y3 y4 y5
   unfold lineageref13_Crash.l0
   repeat' first
   | (with_reducible exact ih0 _ _ _ _ _ _)
   | (with_reducible exact lineageref13_put.mono _ _ _ _)
   | (with_reducible exact LeO.refl _)
   | (with_reducible exact LeO.none _)
   | (with_reducible refine LeO.ite ?_ ?_)
   | (with_reducible refine LeO.bind ?_ (fun _ => ?_))
   | exact ih0 _ _ _ _ _ _
   | exact lineageref13_put.mono _ _ _ _
   | exact LeO.none _
   | refine LeO.ite ?_ ?_
   | refine LeO.bind ?_ (fun _ => ?_)
theorem lineageref13_Crash.mono : ∀ a0 a1 a2 a3 a4 k, LeO (lineageref13_Crash.f k a0 a1 a2 a3 a4) (lineageref13_Crash.f (k + 1) a0 a1 a2 a3 a4) := by
 intro a0 a1 a2 a3 a4 k
 have ih0 := lineageref13_Crash.mono_l k
 unfold lineageref13_Crash.f
 repeat' first
   | (with_reducible exact ih0 _ _ _ _ _ _)
   | (with_reducible exact lineageref13_put.mono _ _ _ _)
   | (with_reducible exact LeO.refl _)
   | (with_reducible exact LeO.none _)
   | (with_reducible refine LeO.ite ?_ ?_)
   | (with_reducible refine LeO.bind ?_ (fun _ => ?_))
   | exact ih0 _ _ _ _ _ _
   | exact lineageref13_put.mono _ _ _ _
   | exact LeO.none _
   | refine LeO.ite ?_ ?_
   | refine LeO.bind ?_ (fun _ => ?_)
def lineageref13_Crash.T6 : Bool × List (List Nat × List Nat) := (true, [([], []), ([], []), ([0, 1], [0, 1]), ([2], [2]), ([], []), ([4], [4]), ([], []), ([5, 6], [5, 6]), ([7], [7]), ([8], [8]), ([9], [9]), ([3, 10], [3, 10]), ([11], [11]), ([12, 0, 1, 2, 3, 4, 5, 6, 7, 8, 9, 10, 11, 12], [12])])
def lineageref13_Crash.B6 : List Nat := [0, 0, 3, 7, 0, 16, 0, 112, 240, 496, 1008, 2047, 4095, 8191]
theorem lineageref13_Crash.tab6 : rtab .any (opsOf Try.f52 6) = lineageref13_Crash.T6 := by kernel_rfl
theorem lineageref13_Crash.bits6 : waitsOk lineageref13_Crash.T6.2 lineageref13_Crash.B6 = true := by kernel_rfl
def lineageref13_Crash.T7 : Bool × List (List Nat × List Nat) := (true, [([], []), ([0], [0]), ([], []), ([2], [2]), ([], []), ([3, 4], [3, 4]), ([5], [5]), ([6], [6]), ([], []), ([8], [8]), ([], []), ([9, 10], [9, 10]), ([11], [11]), ([12], [12]), ([], []), ([13, 14], [13, 14]), ([1, 7, 15], [1, 7, 15]), ([0, 1, 2, 3, 4, 5, 6, 7, 8, 9, 10, 11, 12, 13, 14, 15, 16], []), ([17, 16, 16, 0, 1, 2, 3, 4, 5, 6, 7, 8, 9, 10, 11, 12, 13, 14, 15, 16], [16, 17])])
def lineageref13_Crash.B7 : List Nat := [0, 1, 0, 4, 0, 28, 60, 124, 0, 256, 0, 1792, 3840, 7936, 0, 32512, 65535, 131071, 262143]
theorem lineageref13_Crash.tab7 : rtab .any (opsOf Try.f52 7) = lineageref13_Crash.T7 := by kernel_rfl
theorem lineageref13_Crash.bits7 : waitsOk lineageref13_Crash.T7.2 lineageref13_Crash.B7 = true := by kernel_rfl
set_option maxHeartbeats 8000000 in
set_option maxRecDepth 100000 in
theorem lineageref13_Crash.calls (k : Nat) (P0_0_ : Nat → Prop) (A0_0 : Option Addr) (c0_0 : Nat) (l0_0 : List Int) (A0_1 : Option Addr) (c0_1 : Nat) (l0_1 : List (S119)) (a0_2 : Int) (a0_3 : Bool) (A1 : Option Addr) (c1 : Nat) (l1 : List Int) (r1 : List Int) (r2 : List (S119)) (r3 : Int) (r4 : Bool) (w : World) (hs0_0 : Kd.V (Kd.int .u8) 5 w w.heap.size (fun k_ => P0_0_ k_) (.slice A0_0 l0_0.length c0_0) l0_0) (hr0_1 : Kd.C k119 w A0_1 l0_1.length l0_1) (hc0_1 : l0_1.length ≤ c0_1) (hr1 : Kd.C (Kd.int .i64) w A1 l1.length l1) (hc1 : l1.length ≤ c1) (h : lineageref13_Crash.f k l0_0 l0_1 a0_2 a0_3 l1 = some (r1, r2, r3, r4)) :
  Calls Try.prog 52 #[.agg #[.slice A0_0 l0_0.length c0_0, .slice A0_1 l0_1.length c0_1, .int .i64 a0_2, .bool a0_3], .slice A1 l1.length c1] w fun e w' => ∃ v0_ v1_ : Value, e = .returned (.agg #[v0_, v1_, .int .i64 r3, .bool r4]) ∧ Kd.V (Kd.int .u8) 5 w' w.heap.size (fun k_ => (P0_0_ k_ ∨ w.heap.size ≤ k_) ∧ some k_ ≠ (v1_ : Value).ownBlock) v0_ r1 ∧ Kd.S k119 119 w' w.heap.size (fun k_ => (w.heap.size ≤ k_)) v1_ r2 ∧ Below w.heap.size w w' := by
 have hu50 := Try.underlying50
 have HO0_0 := AM (show Kd.V (Kd.int .u8) 5 w w.heap.size (fun k_ => (P0_0_ k_ ∨ w.heap.size ≤ k_)) (.slice A0_0 l0_0.length c0_0) l0_0 from Kd.V_mono hs0_0 (fun k_ hk => .inl hk))
 have HR0_1 := AM hr0_1
 have HC0_1 := AM hc0_1
 clear hr0_1 hc0_1
 have HR1 := AM hr1
 have HC1 := AM hc1
 clear hr1 hc1
 have HB := AM (Below.refl w.heap.size w)
 have H : (lineageref13_Crash.l0 k l1 0 l0_0 l0_1 a0_2 a0_3) = some (r1, r2, r3, r4) := h
 clear h
 have H' := AM H
 clear H
 go_enter Try.func52, Try.ntmps52
 go_wp2_with (first | ((with_reducible refine gate_dst (N := 2) rfl ?_); refine box_event ?hg (N := 2) ?hd (cs := #[.slice A0_0 l0_0.length c0_0, .slice A0_1 l0_1.length c0_1, .int .i64 a0_2, .bool a0_3]) (t := 50) ?hr ?_; (case hd => rfl); (case hg => rfl); (case hr => first | (go_simp; done) | (go_simp; rfl)); intro gb159 hg w3 hbox hb; have n0_ := AM (Kd.V_below (Kd.V_elderB (by (with_reducible repeat (first | apply Kd.V_alloc | apply Kd.V_drewN | apply Kd.V_drew)); exact HO0_0.out) gb159 (Nat.le_of_eq hg.symm)) hb); have n1_ := AM (below_step (by repeat (first | (with_reducible first | exact HB.out | apply bA | apply bN | apply bD) | exact HB.out)) hb); have n2_ := AM (hbox); have n3_ := AM ((by rw [hg]; exact (below_size (by repeat (first | (with_reducible first | exact HB.out | apply bA | apply bN | apply bD) | exact HB.out))) : w.heap.size ≤ gb159)); have n4_ := AM ((by rw [hg]; exact (below_size (by repeat (first | (with_reducible first | exact HB.out | apply bA | apply bN | apply bD) | exact HB.out))) : w.heap.size ≤ gb159)); clear HO0_0; clear HB; have HO0_0 := n0_; have HB := n1_; have BK159 := n2_; have GW159 := n3_; have GE159 := n4_; clear n0_ n1_ n2_ n3_ n4_; clear hb hbox hg) | ((with_reducible refine gate_dst (N := 4) rfl ?_); refine box_event ?hg (N := 4) ?hd (cs := #[.slice none 0 0, .slice none 0 0, .int .i64 0, .bool false]) (t := 50) ?hr ?_; (case hd => rfl); (case hg => rfl); (case hr => first | (go_simp; done) | (go_simp; rfl)); intro gb160 hg w4 hbox hb; have n0_ := AM (Kd.V_below (Kd.V_elderB (by (with_reducible repeat (first | apply Kd.V_alloc | apply Kd.V_drewN | apply Kd.V_drew)); exact HO0_0.out) gb160 (Nat.le_of_eq hg.symm)) hb); have n1_ := AM (blk_below (g := gb159) (o := .cells #[.slice A0_0 l0_0.length c0_0, .slice A0_1 l0_1.length c0_1, .int .i64 a0_2, .bool a0_3] 50 (0, 0)) (by (with_reducible repeat (first | refine kN ?_ _ | refine kD ?_ | refine kA ?_ _)); exact BK159.out) hb); have n2_ := AM (below_step (by repeat (first | (with_reducible first | exact HB.out | apply bA | apply bN | apply bD | refine bS ?_ GE159.out) | exact HB.out)) hb); have n3_ := AM (hbox); have n4_ := AM ((by rw [hg]; exact (below_size (by repeat (first | (with_reducible first | exact HB.out | apply bA | apply bN | apply bD | refine bS ?_ GE159.out) | exact HB.out))) : w.heap.size ≤ gb160)); have n5_ := AM ((by rw [hg]; exact (below_size (by repeat (first | (with_reducible first | exact HB.out | apply bA | apply bN | apply bD | refine bS ?_ GE159.out) | exact HB.out))) : w.heap.size ≤ gb160)); have n6_ := AM ((by rw [hg]; exact Nat.ne_of_lt (blk_lt (g := gb159) (o := .cells #[.slice A0_0 l0_0.length c0_0, .slice A0_1 l0_1.length c0_1, .int .i64 a0_2, .bool a0_3] 50 (0, 0)) (by (with_reducible repeat (first | refine kN ?_ _ | refine kD ?_ | refine kA ?_ _)); exact BK159.out)) : gb159 ≠ gb160)); have n7_ := AM ((by rw [hg]; exact Nat.ne_of_gt (blk_lt (g := gb159) (o := .cells #[.slice A0_0 l0_0.length c0_0, .slice A0_1 l0_1.length c0_1, .int .i64 a0_2, .bool a0_3] 50 (0, 0)) (by (with_reducible repeat (first | refine kN ?_ _ | refine kD ?_ | refine kA ?_ _)); exact BK159.out)) : gb160 ≠ gb159)); clear HO0_0; clear BK159; clear HB; have HO0_0 := n0_; have BK159 := n1_; have HB := n2_; have BK160 := n3_; have GW160 := n4_; have GE160 := n5_; have NB159_160 := n6_; have NB160_159 := n7_; clear n0_ n1_ n2_ n3_ n4_ n5_ n6_ n7_; clear hb hbox hg))
 go_loopg [5] k (fun kq v5 w' => ∃ (x5_1 : Int) (x160000_1 : List Int) (u160000 : Value), v5 = .int .i64 x5_1 ∧ Aside0 (lineageref13_Crash.l0 kq l1 x5_1 x160000_1 l0_1 a0_2 a0_3 = some (r1, r2, r3, r4)) ∧ Aside0 (kq ≤ k) ∧ Aside0 (Kd.V (Kd.int .u8) 5 w' w.heap.size (fun k_ => (P0_0_ k_ ∨ w.heap.size ≤ k_) ∧ k_ ≠ gb159 ∧ k_ ≠ gb160) u160000 x160000_1) ∧ Aside0 (w'.heap[gb159]? = some (.cells #[u160000, (.slice A0_1 l0_1.length c0_1), .int .i64 a0_2, .bool a0_3] 50 (0, 0))) ∧ Aside0 (w'.heap[gb160]? = some (.cells #[(.slice none 0 0), (.slice none 0 0), .int .i64 0, .bool false] 50 (0, 0))) ∧ Aside0 (Below w.heap.size w w'))
 case atStart => exact ⟨(0), (l0_0), (.slice A0_0 l0_0.length c0_0), (by first | rfl | (simp; done) | (simp [*]; done)), H', ⟨Nat.le_refl _⟩, ⟨by (with_reducible repeat (first | apply Kd.V_alloc | apply Kd.V_drewN | apply Kd.V_drew)); exact Kd.V_mono HO0_0.out (fun _ hk => ⟨hk.1.1, ⟨hk.1.2, hk.2⟩⟩)⟩, ⟨by (with_reducible repeat (first | refine kN ?_ _ | refine kD ?_ | refine kA ?_ _)); exact BK159.out⟩, ⟨by (with_reducible repeat (first | refine kN ?_ _ | refine kD ?_ | refine kA ?_ _)); exact BK160.out⟩, ⟨by repeat (first | (with_reducible first | exact HB.out | apply bA | apply bN | apply bD | refine bS ?_ GE159.out | refine bS ?_ GE160.out) | exact HB.out)⟩⟩
 case round =>
  clear H'
  try clear c1
  try clear p2
  obtain ⟨x5_1, x160000_1, u160000, rfl, HA, HK1, HO_160000, BK159, BK160, HB⟩ := hrel
  cases gk with
  | zero => exact absurd HA.out (by simp [lineageref13_Crash.l0])
  | succ k1 =>
   have H := HA.out
   clear HA
   simp only [lineageref13_Crash.l0] at H
   by_cases c5 : x5_1 < (l0_1.length : Int)
   ·rw [if_pos c5] at H
    have c5b0 : decide (x5_1 < (l0_1.length : Int)) = true := decide_eq_true c5
    clear c5
    by_cases c6 : x5_1 < (l1.length : Int)
    ·rw [if_pos c6] at H
     have c6b0 : decide (x5_1 < (l1.length : Int)) = true := decide_eq_true c6
     clear c6
     by_cases c7 : 0 ≤ x5_1
     ·rw [if_pos c7] at H
      have c7b0 : decide (0 ≤ x5_1) = true := decide_eq_true c7
      clear c7
      obtain ⟨ji8, hji8⟩ : ∃ j_ : Int, (mn (rd l1 x5_1) (((rd_T119 l0_1 x5_1).f1).length : Int)) = j_ := ⟨_, rfl⟩
      replace H : (if 0 ≤ (mx 0 (ji8)) then (if (mx 0 (ji8)) ≤ (((rd_T119 l0_1 x5_1).f1).length : Int) then ((lineageref13_put.f k1 x160000_1 ((rd_T119 l0_1 x5_1).f0) (((rd_T119 l0_1 x5_1).f1).take ((mx 0 (ji8)) : Int).toNat)).bind fun t166 => (lineageref13_Crash.l0 k1 l1 (wrap64 (x5_1 + 1)) t166 l0_1 a0_2 a0_3)) else (none)) else (none)) = some (r1, r2, r3, r4) := by first | (rw [hji8] at H; exact H) | (simp only [hji8] at H ⊢; exact H)
      have hji8_ : (if (((rd_T119 l0_1 x5_1).f1).length : Int) < (rd l1 x5_1) then (((rd_T119 l0_1 x5_1).f1).length : Int) else (rd l1 x5_1)) = ji8 := hji8
      obtain ⟨ji9, hji9⟩ : ∃ j_ : Int, (mx 0 (ji8)) = j_ := ⟨_, rfl⟩
      replace H : (if 0 ≤ (ji9) then (if (ji9) ≤ (((rd_T119 l0_1 x5_1).f1).length : Int) then ((lineageref13_put.f k1 x160000_1 ((rd_T119 l0_1 x5_1).f0) (((rd_T119 l0_1 x5_1).f1).take ((ji9) : Int).toNat)).bind fun t166 => (lineageref13_Crash.l0 k1 l1 (wrap64 (x5_1 + 1)) t166 l0_1 a0_2 a0_3)) else (none)) else (none)) = some (r1, r2, r3, r4) := by first | (rw [hji9] at H; exact H) | (simp only [hji9] at H ⊢; exact H)
      have hji9_ : (if 0 < (ji8) then (ji8) else 0) = ji9 := hji9
      by_cases c10 : 0 ≤ (ji9)
      ·rw [if_pos c10] at H
       have c10b0 := eq_true c10
       have c10b1 : decide (0 ≤ (ji9)) = true := decide_eq_true c10
       clear c10
       by_cases c11 : (ji9) ≤ (((rd_T119 l0_1 x5_1).f1).length : Int)
       ·rw [if_pos c11] at H
        have c11b0 := eq_true c11
        have c11b1 : decide ((ji9) ≤ (((rd_T119 l0_1 x5_1).f1).length : Int)) = true := decide_eq_true c11
        clear c11
        replace H := Option.bind_eq_some_iff.mp H
        obtain ⟨t166, A120, H⟩ := H
        replace H : (lineageref13_Crash.l0 k1 l1 (wrap64 (x5_1 + 1)) t166 l0_1 a0_2 a0_3) = some (r1, r2, r3, r4) := H
        have A12 := AM A120
        clear A120
        have H' := AM H
        clear H
        have hnb13 := NB159_160.out
        have hnc13 := NB160_159.out
        have hcz14_0 : wr.cell? ⟨gb159, 0, none⟩ = some (u160000) := (blk_cell BK159.out 0).trans rfl
        have hcz14_1 : wr.cell? ⟨gb159, 1, none⟩ = some (.slice A0_1 l0_1.length c0_1) := (blk_cell BK159.out 1).trans rfl
        have hcz14_2 : wr.cell? ⟨gb159, 2, none⟩ = some (.int .i64 a0_2) := (blk_cell BK159.out 2).trans rfl
        have hcz14_3 : wr.cell? ⟨gb159, 3, none⟩ = some (.bool a0_3) := (blk_cell BK159.out 3).trans rfl
        have hfz14_0 := blk_frozen BK159.out 0
        have hfz14_1 := blk_frozen BK159.out 1
        have hfz14_2 := blk_frozen BK159.out 2
        have hfz14_3 := blk_frozen BK159.out 3
        try go_wp2
        have n0_ := AM (Kd.V_drew HO_160000.out)
        have n1_ := AM (kD BK159.out)
        have n2_ := AM (kD BK160.out)
        have n3_ := AM (bD HB.out)
        clear HO_160000
        clear BK159
        clear BK160
        clear HB
        have HO_160000 := n0_
        have BK159 := n1_
        have BK160 := n2_
        have HB := n3_
        clear n0_ n1_ n2_ n3_
        have p161 : 0 ≤ (x5_1 : Int) := of_decide_eq_true (by first | (with_reducible assumption) | assumption)
        have q161 : x5_1 < (l1.length : Int) := of_decide_eq_true (by first | (with_reducible assumption) | assumption)
        obtain ⟨ad161, e161, hx161_0⟩ := Kd.at_int HR1.out x5_1 p161 q161
        have hw161_0 := hx161_0
        cases e161
        replace hx161_0 := (HB.out.cell (World.block_lt_of_cell? w _ hx161_0)).trans hx161_0
        replace p161 := eq_true p161
        replace q161 := eq_true q161
        have p162 : 0 ≤ (x5_1 : Int) := of_decide_eq_true (by first | (with_reducible assumption) | assumption)
        have q162 : x5_1 < (l0_1.length : Int) := of_decide_eq_true (by first | (with_reducible assumption) | assumption)
        obtain ⟨ad162, A162_1, c162_1, e162, hx162_0, hx162_1, hl162_1, hi162_1⟩ := at_T119 HR0_1.out x5_1 p162 q162
        have hw162_1 := hx162_1
        have hw162_0 := hx162_0
        cases e162
        replace hx162_0 := (HB.out.cell (World.block_lt_of_cell? w _ hx162_0)).trans hx162_0
        replace hx162_1 := (HB.out.cell (World.block_lt_of_cell? w _ hx162_1)).trans hx162_1
        have HR162_1 := AM hi162_1
        have HC162_1 := AM hl162_1
        clear hi162_1 hl162_1
        replace p162 := eq_true p162
        replace q162 := eq_true q162
        refine start_ (n := 14) (S := fun w' => w'.cell? ⟨gb159, 0, none⟩ = some (u160000) ∧ w'.cell? ⟨gb159, 1, none⟩ = some (.slice (some ad162) l0_1.length c0_1) ∧ w'.cell? ⟨gb159, 2, none⟩ = some (.int .i64 a0_2) ∧ w'.cell? ⟨gb159, 3, none⟩ = some (.bool a0_3) ∧ w'.cell? (ad161.add (x5_1).toNat) = some (.int .i64 (rd l1 x5_1)) ∧ w'.cell? (ad162.add ((x5_1).toNat * 2)) = some (.int .i64 ((rd_T119 l0_1 x5_1).f0)) ∧ w'.cell? ⟨(ad162.add ((x5_1).toNat * 2)).block, (ad162.add ((x5_1).toNat * 2)).off + 1, none⟩ = some (.slice A162_1 ((rd_T119 l0_1 x5_1).f1).length c162_1)) (ds := []) #[false, false, false, false, false, false, false, false, false, false, false, false, false, false] (by kernel_rfl) rfl rfl ⟨(blk_cell BK159.out 0).trans rfl, (blk_cell BK159.out 1).trans rfl, (blk_cell BK159.out 2).trans rfl, (blk_cell BK159.out 3).trans rfl, ((HB.out.cell (World.block_lt_of_cell? w _ hw161_0)).trans hw161_0), ((HB.out.cell (World.block_lt_of_cell? w _ hw162_0)).trans hw162_0), ((HB.out.cell (World.block_lt_of_cell? w _ hw162_1)).trans hw162_1)⟩ (fun hHeld => ?_); refine with_tabW lineageref13_Crash.tab6 lineageref13_Crash.bits6 (fun HT_ HW_ => ?_)
        generalize wr.drew = w15 at HO_160000 BK159 BK160 HB HR162_1 hx161_0 hx162_0 hx162_1 hHeld ⊢
        refine pu 0 (some 18) ?_ (bt 14 1) (any_of HT_.out (by kernel_rfl)) ?_ ?_ ?_ ?_
        rotate_left
        ·intro w'
         go_simp
         with_reducible rfl
        rotate_left
        ·simp only [pS]
         rfl
        refine pu 1 (some 19) ?_ (bt 14 3) (any_of HT_.out (by kernel_rfl)) ?_ ?_ ?_ ?_
        rotate_left
        ·intro w'
         go_simp
         with_reducible rfl
        rotate_left
        ·simp only [pS]
         rfl
        refine pu 2 (some 20) ?_ (bt 14 7) (any_of HT_.out (by kernel_rfl)) ?_ ?_ ?_ ?_
        rotate_left
        ·intro w'
         go_simp
         with_reducible rfl
        rotate_left
        ·simp only [pS]
         rfl
        refine pu 4 (some 22) ?_ (bt 14 23) (any_of HT_.out (by kernel_rfl)) ?_ ?_ ?_ ?_
        rotate_left
        ·intro w'
         go_simp
         with_reducible rfl
        rotate_left
        ·simp only [pS]
         rfl
        refine pu 6 (some 24) ?_ (bt 14 87) (any_of HT_.out (by kernel_rfl)) ?_ ?_ ?_ ?_
        rotate_left
        ·intro w'
         go_simp
         with_reducible rfl
        rotate_left
        ·simp only [pS]
         rfl
        refine tk 3 (some 21) ?_ (bt 14 95) (take_ofW HT_.out HW_.out (by kernel_rfl)) hHeld ?_ ?_ ?_ ?_
        rotate_left
        ·rintro w' ⟨s0, s1, s2, s3, s4, s5, s6⟩
         go_simp
         with_reducible rfl
        rotate_left
        ·simp only [pS]
         rfl
        refine tk 5 (some 23) ?_ (bt 14 127) (take_ofW HT_.out HW_.out (by kernel_rfl)) hHeld ?_ ?_ ?_ ?_
        rotate_left
        ·rintro w' ⟨s0, s1, s2, s3, s4, s5, s6⟩
         go_simp
         with_reducible rfl
        rotate_left
        ·simp only [pS]
         rfl
        refine pu 7 (some 25) ?_ (bt 14 255) (any_of HT_.out (by kernel_rfl)) ?_ ?_ ?_ ?_
        rotate_left
        ·intro w'
         go_simp
         with_reducible rfl
        rotate_left
        ·simp only [pS]
         rfl
        refine pu 8 (some 26) ?_ (bt 14 511) (any_of HT_.out (by kernel_rfl)) ?_ ?_ ?_ ?_
        rotate_left
        ·intro w'
         go_simp
         with_reducible rfl
        rotate_left
        ·simp only [pS]
         rfl
        refine tk 9 (some 27) ?_ (bt 14 1023) (take_ofW HT_.out HW_.out (by kernel_rfl)) hHeld ?_ ?_ ?_ ?_
        rotate_left
        ·rintro w' ⟨s0, s1, s2, s3, s4, s5, s6⟩
         go_simp
         with_reducible rfl
        rotate_left
        ·simp only [pS]
         rfl
        refine pu 10 (some 28) ?_ (bt 14 2047) (any_of HT_.out (by kernel_rfl)) ?_ ?_ ?_ ?_
        rotate_left
        ·intro w'
         go_simp
         with_reducible rfl
        rotate_left
        ·simp only [pS]
         rfl
        refine pu 11 (some 29) ?_ (bt 14 4095) (any_of HT_.out (by kernel_rfl)) ?_ ?_ ?_ ?_
        rotate_left
        ·intro w'
         go_simp
         with_reducible rfl
        rotate_left
        ·simp only [pS]
         rfl
        refine pu 12 (some 30) ?_ (bt 14 8191) (any_of HT_.out (by kernel_rfl)) ?_ ?_ ?_ ?_
        rotate_left
        ·intro w'
         go_simp
         with_reducible rfl
        rotate_left
        ·simp only [pS]
         rfl
        refine pu 13 (some 6) ?_ (bt 14 16383) (any_of HT_.out (by kernel_rfl)) ?_ ?_ ?_ ?_
        rotate_left
        ·intro w'
         go_simp
         with_reducible rfl
        rotate_left
        ·simp only [pS]
         rfl
        refine done_ (done_of HT_.out (by kernel_rfl)) ?_
        try go_wp2
        have n0_ := AM (Kd.V_drew HO_160000.out)
        have n1_ := AM (kD BK159.out)
        have n2_ := AM (kD BK160.out)
        have n3_ := AM (bD HB.out)
        clear HO_160000
        clear BK159
        clear BK160
        clear HB
        have HO_160000 := n0_
        have BK159 := n1_
        have BK160 := n2_
        have HB := n3_
        clear n0_ n1_ n2_ n3_
        have p163 : 0 ≤ (x5_1 : Int) := of_decide_eq_true (by first | (with_reducible assumption) | assumption)
        have q163 : x5_1 < (l0_1.length : Int) := of_decide_eq_true (by first | (with_reducible assumption) | assumption)
        obtain ⟨ad163, A163_1, c163_1, e163, hx163_0, hx163_1, hl163_1, hi163_1⟩ := at_T119 HR0_1.out x5_1 p163 q163
        have hw163_1 := hx163_1
        have hw163_0 := hx163_0
        obtain rfl : ad162 = ad163 := (by injection e163)
        replace hx163_0 := (HB.out.cell (World.block_lt_of_cell? w _ hx163_0)).trans hx163_0
        replace hx163_1 := (HB.out.cell (World.block_lt_of_cell? w _ hx163_1)).trans hx163_1
        have HR163_1 := AM hi163_1
        have HC163_1 := AM hl163_1
        clear hi163_1 hl163_1
        replace p163 := eq_true p163
        replace q163 := eq_true q163
        have p164 : 0 ≤ (x5_1 : Int) := of_decide_eq_true (by first | (with_reducible assumption) | assumption)
        have q164 : x5_1 < (l0_1.length : Int) := of_decide_eq_true (by first | (with_reducible assumption) | assumption)
        obtain ⟨ad164, A164_1, c163_1, e164, hx164_0, hx164_1, hl164_1, hi164_1⟩ := at_T119 HR0_1.out x5_1 p164 q164
        have hw164_1 := hx164_1
        have hw164_0 := hx164_0
        obtain rfl : ad162 = ad164 := (by injection e164)
        replace hx164_0 := (HB.out.cell (World.block_lt_of_cell? w _ hx164_0)).trans hx164_0
        replace hx164_1 := (HB.out.cell (World.block_lt_of_cell? w _ hx164_1)).trans hx164_1
        have HR164_1 := AM hi164_1
        have HC163_1 := AM hl164_1
        clear hi164_1 hl164_1
        replace p164 := eq_true p164
        replace q164 := eq_true q164
        have ea_ := Option.some.inj (hx163_1.symm.trans hx164_1)
        injection ea_ with ea_ en_ ec_
        subst ea_
        subst ec_
        clear en_
        obtain ⟨i017, hi017, _, hsz17, _⟩ := info_parts info5
        obtain ⟨hcut17, hA17, hC17⟩ := print_take_of (P := Try.prog) (Value.int .u8) 0 29 5 .i64 Try.underlying29 hi017 hsz17 A163_1 c163_1 ((rd_T119 l0_1 x5_1).f1) (ji9) (of_decide_eq_true (by first | (with_reducible assumption) | assumption)) (of_decide_eq_true (by first | (with_reducible assumption) | assumption)) HC163_1.out
        have HR165 := AM (Kd.C_of_reads (h1 := fun _ => rfl) (hA17 _ (Kd.reads_of_C HR164_1.out)))
        have HC165 := AM hC17
        clear hA17 hC17 hi017 hsz17
        obtain ⟨Ao18, co18, eo18⟩ := Kd.V_slice HO_160000.out
        (first | subst eo18 | (injection eo18 with f1_ f2_ f3_; have f4_ := f1_.symm; have f5_ := f3_.symm; clear f1_ f2_ f3_; subst f4_; subst f5_))
        refine start_ (n := 19) (S := fun w' => w'.cell? ⟨gb159, 0, none⟩ = some (.slice Ao18 x160000_1.length co18) ∧ w'.cell? ⟨gb159, 1, none⟩ = some (.slice (some ad162) l0_1.length c0_1) ∧ w'.cell? ⟨gb159, 2, none⟩ = some (.int .i64 a0_2) ∧ w'.cell? ⟨gb159, 3, none⟩ = some (.bool a0_3) ∧ w'.cell? (ad162.add ((x5_1).toNat * 2)) = some (.int .i64 ((rd_T119 l0_1 x5_1).f0)) ∧ w'.cell? ⟨(ad162.add ((x5_1).toNat * 2)).block, (ad162.add ((x5_1).toNat * 2)).off + 1, none⟩ = some (.slice A163_1 ((rd_T119 l0_1 x5_1).f1).length c163_1) ∧ w'.cell? (ad162.add ((x5_1).toNat * 2)) = some (.int .i64 ((rd_T119 l0_1 x5_1).f0)) ∧ w'.cell? ⟨(ad162.add ((x5_1).toNat * 2)).block, (ad162.add ((x5_1).toNat * 2)).off + 1, none⟩ = some (.slice A163_1 ((rd_T119 l0_1 x5_1).f1).length c163_1)) (ds := [18]) #[false, false, false, false, false, false, false, false, false, false, false, false, false, false, false, false, false, false, false] (by kernel_rfl) rfl rfl ⟨(blk_cell BK159.out 0).trans rfl, (blk_cell BK159.out 1).trans rfl, (blk_cell BK159.out 2).trans rfl, (blk_cell BK159.out 3).trans rfl, ((HB.out.cell (World.block_lt_of_cell? w _ hw163_0)).trans hw163_0), ((HB.out.cell (World.block_lt_of_cell? w _ hw163_1)).trans hw163_1), ((HB.out.cell (World.block_lt_of_cell? w _ hw164_0)).trans hw164_0), ((HB.out.cell (World.block_lt_of_cell? w _ hw164_1)).trans hw164_1)⟩ (fun hHeld => ?_); refine with_tabW lineageref13_Crash.tab7 lineageref13_Crash.bits7 (fun HT_ HW_ => ?_)
        generalize w15.drew = w16 at HO_160000 BK159 BK160 HB HR163_1 HR164_1 HR165 hx163_0 hx163_1 hx164_0 hx164_1 hHeld ⊢
        refine pu 0 (some 31) ?_ (bt 19 1) (any_of HT_.out (by kernel_rfl)) ?_ ?_ ?_ ?_
        rotate_left
        ·intro w'
         go_simp
         with_reducible rfl
        rotate_left
        ·simp only [pS]
         rfl
        refine pu 2 (some 33) ?_ (bt 19 5) (any_of HT_.out (by kernel_rfl)) ?_ ?_ ?_ ?_
        rotate_left
        ·intro w'
         go_simp
         with_reducible rfl
        rotate_left
        ·simp only [pS]
         rfl
        refine pu 4 (some 35) ?_ (bt 19 21) (any_of HT_.out (by kernel_rfl)) ?_ ?_ ?_ ?_
        rotate_left
        ·intro w'
         go_simp
         with_reducible rfl
        rotate_left
        ·simp only [pS]
         rfl
        refine pu 8 (some 39) ?_ (bt 19 277) (any_of HT_.out (by kernel_rfl)) ?_ ?_ ?_ ?_
        rotate_left
        ·intro w'
         go_simp
         with_reducible rfl
        rotate_left
        ·simp only [pS]
         rfl
        refine pu 10 (some 41) ?_ (bt 19 1301) (any_of HT_.out (by kernel_rfl)) ?_ ?_ ?_ ?_
        rotate_left
        ·intro w'
         go_simp
         with_reducible rfl
        rotate_left
        ·simp only [pS]
         rfl
        refine pu 14 (some 45) ?_ (bt 19 17685) (any_of HT_.out (by kernel_rfl)) ?_ ?_ ?_ ?_
        rotate_left
        ·intro w'
         go_simp
         with_reducible rfl
        rotate_left
        ·simp only [pS]
         rfl
        refine tk 1 (some 32) ?_ (bt 19 17687) (take_ofW HT_.out HW_.out (by kernel_rfl)) hHeld ?_ ?_ ?_ ?_
        rotate_left
        ·rintro w' ⟨s0, s1, s2, s3, s4, s5, s6, s7⟩
         go_simp
         with_reducible rfl
        rotate_left
        ·simp only [pS]
         rfl
        refine tk 3 (some 34) ?_ (bt 19 17695) (take_ofW HT_.out HW_.out (by kernel_rfl)) hHeld ?_ ?_ ?_ ?_
        rotate_left
        ·rintro w' ⟨s0, s1, s2, s3, s4, s5, s6, s7⟩
         go_simp
         with_reducible rfl
        rotate_left
        ·simp only [pS]
         rfl
        refine pu 5 (some 36) ?_ (bt 19 17727) (any_of HT_.out (by kernel_rfl)) ?_ ?_ ?_ ?_
        rotate_left
        ·intro w'
         go_simp
         with_reducible rfl
        rotate_left
        ·simp only [pS]
         rfl
        refine pu 6 (some 37) ?_ (bt 19 17791) (any_of HT_.out (by kernel_rfl)) ?_ ?_ ?_ ?_
        rotate_left
        ·intro w'
         go_simp
         with_reducible rfl
        rotate_left
        ·simp only [pS]
         rfl
        refine tk 7 (some 38) ?_ (bt 19 17919) (take_ofW HT_.out HW_.out (by kernel_rfl)) hHeld ?_ ?_ ?_ ?_
        rotate_left
        ·rintro w' ⟨s0, s1, s2, s3, s4, s5, s6, s7⟩
         go_simp
         with_reducible rfl
        rotate_left
        ·simp only [pS]
         rfl
        refine tk 9 (some 40) ?_ (bt 19 18431) (take_ofW HT_.out HW_.out (by kernel_rfl)) hHeld ?_ ?_ ?_ ?_
        rotate_left
        ·rintro w' ⟨s0, s1, s2, s3, s4, s5, s6, s7⟩
         go_simp
         with_reducible rfl
        rotate_left
        ·simp only [pS]
         rfl
        refine pu 11 (some 42) ?_ (bt 19 20479) (any_of HT_.out (by kernel_rfl)) ?_ ?_ ?_ ?_
        rotate_left
        ·intro w'
         go_simp
         with_reducible rfl
        rotate_left
        ·simp only [pS]
         rfl
        refine pu 12 (some 43) ?_ (bt 19 24575) (any_of HT_.out (by kernel_rfl)) ?_ ?_ ?_ ?_
        rotate_left
        ·intro w'
         go_simp
         with_reducible rfl
        rotate_left
        ·simp only [pS]
         rfl
        refine tk 13 (some 44) ?_ (bt 19 32767) (take_ofW HT_.out HW_.out (by kernel_rfl)) hHeld ?_ ?_ ?_ ?_
        rotate_left
        ·rintro w' ⟨s0, s1, s2, s3, s4, s5, s6, s7⟩
         go_simp
         with_reducible rfl
        rotate_left
        ·simp only [pS]
         rfl
        refine pu 15 (some 46) ?_ (bt 19 65535) (any_of HT_.out (by kernel_rfl)) ?_ ?_ ?_ ?_
        rotate_left
        ·intro w'
         go_simp
         with_reducible rfl
        rotate_left
        ·simp only [pS]
         rfl
        refine one_ (i := 16) (N := some 47) (bt 19 131071) rfl rfl (one_of HT_.out (by kernel_rfl)) (by decide) (fun K hK => ?_)
        refine goes_ Try.func79 (by kernel_rfl) rfl #[.slice Ao18 x160000_1.length co18, .int .i64 ((rd_T119 l0_1 x5_1).f0), .slice A163_1 (((rd_T119 l0_1 x5_1).f1).take ((ji9) : Int).toNat).length c163_1] (by rfl) rfl rfl (by (try simp only [List.map_toArray, List.map_cons, List.map_nil]); first | done | (rw [show (((rd_T119 l0_1 x5_1).f1).take ((ji9) : Int).toNat).length = (ji9).toNat from (by rw [List.length_take]; have h_ : ((ji9) : Int) ≤ (((rd_T119 l0_1 x5_1).f1).length : Int) := of_decide_eq_true (by first | (with_reducible assumption) | assumption); omega)] <;> rfl) | (simp only [hji9]; rfl) | rfl | (simp only [List.length_drop, List.length_take]; rfl)) ?_
        with_reducible refine (lineageref13_put.calls k1 _ _ x160000_1 ((rd_T119 l0_1 x5_1).f0) _ _ (((rd_T119 l0_1 x5_1).f1).take ((ji9) : Int).toNat) t166 _ ?side1 ?side2 ?side3 ?side4 A12.out).mono ?_
        (case side1 => repeat (first | exact (Kd.V_reads' HO_160000.out).2.2 | (with_reducible refine Kd.C_alloc ?_ _) | (with_reducible refine Kd.C_drewN ?_ _) | (with_reducible refine Kd.C_drew ?_)))
        (case side2 => exact (Kd.V_reads' HO_160000.out).2.1)
        (case side3 => repeat (first | exact (Kd.C_below HR165.out HB.out) | (with_reducible refine Kd.C_alloc ?_ _) | (with_reducible refine Kd.C_drewN ?_ _) | (with_reducible refine Kd.C_drew ?_)))
        (case side4 => exact HC165.out)
        rintro e w19 ⟨v167, rfl, ho0, hb⟩
        refine ⟨_, rfl, ?_⟩
        have n0_ := AM (Kd.V_elder' (by (with_reducible repeat (first | apply Kd.V_alloc | apply Kd.V_drewN | apply Kd.V_drew)); exact HO_160000.out) (Kd.R_base ho0) hb)
        have n1_ := AM (Kd.R_lower (Kd.R_newM (M := fun k_ => (w.heap.size ≤ k_)) ho0 (below_size (by repeat (first | (with_reducible first | exact HB.out | apply bA | apply bN | apply bD | refine bS ?_ GE159.out | refine bS ?_ GE160.out) | exact HB.out))) (fun k_ h_ => h_)) (below_size (by repeat (first | (with_reducible first | exact HB.out | apply bA | apply bN | apply bD | refine bS ?_ GE159.out | refine bS ?_ GE160.out) | exact HB.out))))
        have n2_ := AM (blk_below (g := gb159) (o := .cells #[.slice Ao18 x160000_1.length co18, .slice (some ad162) l0_1.length c0_1, .int .i64 a0_2, .bool a0_3] 50 (0, 0)) (by (with_reducible repeat (first | refine kN ?_ _ | refine kD ?_ | refine kA ?_ _)); exact BK159.out) hb)
        have n3_ := AM (blk_below (g := gb160) (o := .cells #[.slice none 0 0, .slice none 0 0, .int .i64 0, .bool false] 50 (0, 0)) (by (with_reducible repeat (first | refine kN ?_ _ | refine kD ?_ | refine kA ?_ _)); exact BK160.out) hb)
        have n4_ := AM (below_step (by repeat (first | (with_reducible first | exact HB.out | apply bA | apply bN | apply bD | refine bS ?_ GE159.out | refine bS ?_ GE160.out) | exact HB.out)) hb)
        clear HO_160000
        clear BK159
        clear BK160
        clear HB
        have HO_160000 := n0_
        have HO168 := n1_
        have BK159 := n2_
        have BK160 := n3_
        have HB := n4_
        clear n0_ n1_ n2_ n3_ n4_
        (try clear hb)
        (try clear hb2)
        (try clear hk)
        (try clear hi)
        (try clear ho0)
        obtain ⟨Ao20, co20, eo20⟩ := Kd.R_slice HO168.out
        (first | subst eo20 | (injection eo20 with f1_ f2_ f3_; have f4_ := f1_.symm; have f5_ := f3_.symm; clear f1_ f2_ f3_; subst f4_; subst f5_))
        refine hK.out _ _ ⟨(blk_cell BK159.out 0).trans rfl, (blk_cell BK159.out 1).trans rfl, (blk_cell BK159.out 2).trans rfl, (blk_cell BK159.out 3).trans rfl, ((HB.out.cell (World.block_lt_of_cell? w _ hw163_0)).trans hw163_0), ((HB.out.cell (World.block_lt_of_cell? w _ hw163_1)).trans hw163_1), ((HB.out.cell (World.block_lt_of_cell? w _ hw164_0)).trans hw164_0), ((HB.out.cell (World.block_lt_of_cell? w _ hw164_1)).trans hw164_1)⟩ (fun hHeld => ?_)
        clear hK K
        refine norm_ (a' := ?_) ?_ ?_
        rotate_left
        ·show Act.put _ (some 47) _ = _
         simp only [pS]
         rfl
        refine pu 17 (some 48) ?_ (bt 19 262143) (any_of HT_.out (by kernel_rfl)) ?_ ?_ ?_ ?_
        rotate_left
        ·intro w'
         go_simp
         with_reducible rfl
        rotate_left
        ·simp only [pS]
         rfl
        refine last_ (i := 18) (N := none) (bt 19 524287) rfl rfl (one_of HT_.out (by kernel_rfl)) (by decide) (fun K hK => ?_)
        have hs21 : w19.cell? ⟨gb159, 0, none⟩ = some (.slice Ao18 x160000_1.length co18) := (blk_cell BK159.out 0).trans rfl
        have hfs21 := blk_frozen BK159.out 0
        have hns21_1 := NB160_159.out
        have hms21_1 := NB159_160.out
        refine skip_ (w1 := ?_) (by rfl) rfl ?_ ?_
        rotate_left
        ·go_simp
         rfl
        refine hK.out _ _ ?_
        clear hK K
        refine done_ (done_of HT_.out (by kernel_rfl)) ?_
        try go_wp2
        go_roundg k1
        case measure => have := HK1.out; omega
        case rel => exact ⟨(wrap64 (x5_1 + 1)), (t166), (.slice Ao20 t166.length co20), (by first | rfl | (simp; done) | (simp [*]; done)), H', ⟨by have := HK1.out; omega⟩, ⟨by (with_reducible repeat (first | apply Kd.V_alloc | apply Kd.V_drewN | apply Kd.V_drew)); exact Kd.V_mono (Kd.R_V (Kd.R_far (p := ⟨gb159, 0, none⟩) (Kd.R_types (Kd.R_types (Kd.R_types HO168.out BK159.out (by decide)) BK160.out (by decide)) BK159.out (by decide)) (fun _ hk => hk.2) (.slice Ao20 t166.length co20))) (fun k_ hk => ⟨.inr hk.1.1.1.1, ⟨hk.1.1.2, hk.1.2⟩⟩)⟩, ⟨by (with_reducible repeat (first | refine kN ?_ _ | refine kD ?_ | refine kA ?_ _)); refine blk_put (cs := #[.slice Ao18 x160000_1.length co18, .slice (some ad162) l0_1.length c0_1, .int .i64 a0_2, .bool a0_3]) ?_ 0 _ rfl; (with_reducible repeat (first | refine kN ?_ _ | refine kD ?_ | refine kA ?_ _)); exact BK159.out⟩, ⟨by (with_reducible repeat (first | refine kN ?_ _ | refine kD ?_ | refine kA ?_ _)); refine blk_far ?_ NB160_159.out _; (with_reducible repeat (first | refine kN ?_ _ | refine kD ?_ | refine kA ?_ _)); exact BK160.out⟩, ⟨by repeat (first | (with_reducible first | exact HB.out | apply bA | apply bN | apply bD | refine bS ?_ GE159.out | refine bS ?_ GE160.out) | exact HB.out)⟩⟩
       ·rw [if_neg c11] at H
        exact absurd H (by simp)
      ·rw [if_neg c10] at H
       exact absurd H (by simp)
     ·rw [if_neg c7] at H
      exact absurd H (by simp)
    ·rw [if_neg c6] at H
     have c6b0 : decide (x5_1 < (l1.length : Int)) = false := decide_eq_false c6
     clear c6
     by_cases c22 : 0 ≤ x5_1
     ·rw [if_pos c22] at H
      have c22b0 : decide (0 ≤ x5_1) = true := decide_eq_true c22
      clear c22
      by_cases c23 : 0 ≤ (((rd_T119 l0_1 x5_1).f1).length : Int)
      ·rw [if_pos c23] at H
       have c23b0 := eq_true c23
       have c23b1 : decide (0 ≤ (((rd_T119 l0_1 x5_1).f1).length : Int)) = true := decide_eq_true c23
       clear c23
       replace H := Option.bind_eq_some_iff.mp H
       obtain ⟨t172, A240, H⟩ := H
       replace H : (lineageref13_Crash.l0 k1 l1 (wrap64 (x5_1 + 1)) t172 l0_1 a0_2 a0_3) = some (r1, r2, r3, r4) := H
       have A24 := AM A240
       clear A240
       have H' := AM H
       clear H
       have hnb25 := NB159_160.out
       have hnc25 := NB160_159.out
       have hcz26_0 : wr.cell? ⟨gb159, 0, none⟩ = some (u160000) := (blk_cell BK159.out 0).trans rfl
       have hcz26_1 : wr.cell? ⟨gb159, 1, none⟩ = some (.slice A0_1 l0_1.length c0_1) := (blk_cell BK159.out 1).trans rfl
       have hcz26_2 : wr.cell? ⟨gb159, 2, none⟩ = some (.int .i64 a0_2) := (blk_cell BK159.out 2).trans rfl
       have hcz26_3 : wr.cell? ⟨gb159, 3, none⟩ = some (.bool a0_3) := (blk_cell BK159.out 3).trans rfl
       have hfz26_0 := blk_frozen BK159.out 0
       have hfz26_1 := blk_frozen BK159.out 1
       have hfz26_2 := blk_frozen BK159.out 2
       have hfz26_3 := blk_frozen BK159.out 3
       try go_wp2
       have n0_ := AM (Kd.V_drew HO_160000.out)
       have n1_ := AM (kD BK159.out)
       have n2_ := AM (kD BK160.out)
       have n3_ := AM (bD HB.out)
       clear HO_160000
       clear BK159
       clear BK160
       clear HB
       have HO_160000 := n0_
       have BK159 := n1_
       have BK160 := n2_
       have HB := n3_
       clear n0_ n1_ n2_ n3_
       have p169 : 0 ≤ (x5_1 : Int) := of_decide_eq_true (by first | (with_reducible assumption) | assumption)
       have q169 : x5_1 < (l0_1.length : Int) := of_decide_eq_true (by first | (with_reducible assumption) | assumption)
       obtain ⟨ad169, A169_1, c169_1, e169, hx169_0, hx169_1, hl169_1, hi169_1⟩ := at_T119 HR0_1.out x5_1 p169 q169
       have hw169_1 := hx169_1
       have hw169_0 := hx169_0
       cases e169
       replace hx169_0 := (HB.out.cell (World.block_lt_of_cell? w _ hx169_0)).trans hx169_0
       replace hx169_1 := (HB.out.cell (World.block_lt_of_cell? w _ hx169_1)).trans hx169_1
       have HR169_1 := AM hi169_1
       have HC169_1 := AM hl169_1
       clear hi169_1 hl169_1
       replace p169 := eq_true p169
       replace q169 := eq_true q169
       have p170 : 0 ≤ (x5_1 : Int) := of_decide_eq_true (by first | (with_reducible assumption) | assumption)
       have q170 : x5_1 < (l0_1.length : Int) := of_decide_eq_true (by first | (with_reducible assumption) | assumption)
       obtain ⟨ad170, A170_1, c169_1, e170, hx170_0, hx170_1, hl170_1, hi170_1⟩ := at_T119 HR0_1.out x5_1 p170 q170
       have hw170_1 := hx170_1
       have hw170_0 := hx170_0
       obtain rfl : ad169 = ad170 := (by injection e170)
       replace hx170_0 := (HB.out.cell (World.block_lt_of_cell? w _ hx170_0)).trans hx170_0
       replace hx170_1 := (HB.out.cell (World.block_lt_of_cell? w _ hx170_1)).trans hx170_1
       have HR170_1 := AM hi170_1
       have HC169_1 := AM hl170_1
       clear hi170_1 hl170_1
       replace p170 := eq_true p170
       replace q170 := eq_true q170
       have ea_ := Option.some.inj (hx169_1.symm.trans hx170_1)
       injection ea_ with ea_ en_ ec_
       subst ea_
       subst ec_
       clear en_
       obtain ⟨i028, hi028, _, hsz28, _⟩ := info_parts info5
       obtain ⟨hcut28, hA28, hC28⟩ := print_take_of (P := Try.prog) (Value.int .u8) 0 29 5 .i64 Try.underlying29 hi028 hsz28 A169_1 c169_1 ((rd_T119 l0_1 x5_1).f1) 0 (by omega) (of_decide_eq_true (by first | (with_reducible assumption) | assumption)) HC169_1.out
       have HR171 := AM (Kd.C_of_reads (h1 := fun _ => rfl) (hA28 _ (Kd.reads_of_C HR170_1.out)))
       have HC171 := AM hC28
       clear hA28 hC28 hi028 hsz28
       obtain ⟨Ao29, co29, eo29⟩ := Kd.V_slice HO_160000.out
       (first | subst eo29 | (injection eo29 with f1_ f2_ f3_; have f4_ := f1_.symm; have f5_ := f3_.symm; clear f1_ f2_ f3_; subst f4_; subst f5_))
       refine start_ (n := 19) (S := fun w' => w'.cell? ⟨gb159, 0, none⟩ = some (.slice Ao29 x160000_1.length co29) ∧ w'.cell? ⟨gb159, 1, none⟩ = some (.slice (some ad169) l0_1.length c0_1) ∧ w'.cell? ⟨gb159, 2, none⟩ = some (.int .i64 a0_2) ∧ w'.cell? ⟨gb159, 3, none⟩ = some (.bool a0_3) ∧ w'.cell? (ad169.add ((x5_1).toNat * 2)) = some (.int .i64 ((rd_T119 l0_1 x5_1).f0)) ∧ w'.cell? ⟨(ad169.add ((x5_1).toNat * 2)).block, (ad169.add ((x5_1).toNat * 2)).off + 1, none⟩ = some (.slice A169_1 ((rd_T119 l0_1 x5_1).f1).length c169_1) ∧ w'.cell? (ad169.add ((x5_1).toNat * 2)) = some (.int .i64 ((rd_T119 l0_1 x5_1).f0)) ∧ w'.cell? ⟨(ad169.add ((x5_1).toNat * 2)).block, (ad169.add ((x5_1).toNat * 2)).off + 1, none⟩ = some (.slice A169_1 ((rd_T119 l0_1 x5_1).f1).length c169_1)) (ds := [18]) #[false, false, false, false, false, false, false, false, false, false, false, false, false, false, false, false, false, false, false] (by kernel_rfl) rfl rfl ⟨(blk_cell BK159.out 0).trans rfl, (blk_cell BK159.out 1).trans rfl, (blk_cell BK159.out 2).trans rfl, (blk_cell BK159.out 3).trans rfl, ((HB.out.cell (World.block_lt_of_cell? w _ hw169_0)).trans hw169_0), ((HB.out.cell (World.block_lt_of_cell? w _ hw169_1)).trans hw169_1), ((HB.out.cell (World.block_lt_of_cell? w _ hw170_0)).trans hw170_0), ((HB.out.cell (World.block_lt_of_cell? w _ hw170_1)).trans hw170_1)⟩ (fun hHeld => ?_); refine with_tabW lineageref13_Crash.tab7 lineageref13_Crash.bits7 (fun HT_ HW_ => ?_)
       generalize wr.drew = w27 at HO_160000 BK159 BK160 HB HR169_1 HR170_1 HR171 hx169_0 hx169_1 hx170_0 hx170_1 hHeld ⊢
       refine pu 0 (some 31) ?_ (bt 19 1) (any_of HT_.out (by kernel_rfl)) ?_ ?_ ?_ ?_
       rotate_left
       ·intro w'
        go_simp
        with_reducible rfl
       rotate_left
       ·simp only [pS]
        rfl
       refine pu 2 (some 33) ?_ (bt 19 5) (any_of HT_.out (by kernel_rfl)) ?_ ?_ ?_ ?_
       rotate_left
       ·intro w'
        go_simp
        with_reducible rfl
       rotate_left
       ·simp only [pS]
        rfl
       refine pu 4 (some 35) ?_ (bt 19 21) (any_of HT_.out (by kernel_rfl)) ?_ ?_ ?_ ?_
       rotate_left
       ·intro w'
        go_simp
        with_reducible rfl
       rotate_left
       ·simp only [pS]
        rfl
       refine pu 8 (some 39) ?_ (bt 19 277) (any_of HT_.out (by kernel_rfl)) ?_ ?_ ?_ ?_
       rotate_left
       ·intro w'
        go_simp
        with_reducible rfl
       rotate_left
       ·simp only [pS]
        rfl
       refine pu 10 (some 41) ?_ (bt 19 1301) (any_of HT_.out (by kernel_rfl)) ?_ ?_ ?_ ?_
       rotate_left
       ·intro w'
        go_simp
        with_reducible rfl
       rotate_left
       ·simp only [pS]
        rfl
       refine pu 14 (some 45) ?_ (bt 19 17685) (any_of HT_.out (by kernel_rfl)) ?_ ?_ ?_ ?_
       rotate_left
       ·intro w'
        go_simp
        with_reducible rfl
       rotate_left
       ·simp only [pS]
        rfl
       refine tk 1 (some 32) ?_ (bt 19 17687) (take_ofW HT_.out HW_.out (by kernel_rfl)) hHeld ?_ ?_ ?_ ?_
       rotate_left
       ·rintro w' ⟨s0, s1, s2, s3, s4, s5, s6, s7⟩
        go_simp
        with_reducible rfl
       rotate_left
       ·simp only [pS]
        rfl
       refine tk 3 (some 34) ?_ (bt 19 17695) (take_ofW HT_.out HW_.out (by kernel_rfl)) hHeld ?_ ?_ ?_ ?_
       rotate_left
       ·rintro w' ⟨s0, s1, s2, s3, s4, s5, s6, s7⟩
        go_simp
        with_reducible rfl
       rotate_left
       ·simp only [pS]
        rfl
       refine pu 5 (some 36) ?_ (bt 19 17727) (any_of HT_.out (by kernel_rfl)) ?_ ?_ ?_ ?_
       rotate_left
       ·intro w'
        go_simp
        with_reducible rfl
       rotate_left
       ·simp only [pS]
        rfl
       refine pu 6 (some 37) ?_ (bt 19 17791) (any_of HT_.out (by kernel_rfl)) ?_ ?_ ?_ ?_
       rotate_left
       ·intro w'
        go_simp
        with_reducible rfl
       rotate_left
       ·simp only [pS]
        rfl
       refine tk 7 (some 38) ?_ (bt 19 17919) (take_ofW HT_.out HW_.out (by kernel_rfl)) hHeld ?_ ?_ ?_ ?_
       rotate_left
       ·rintro w' ⟨s0, s1, s2, s3, s4, s5, s6, s7⟩
        go_simp
        with_reducible rfl
       rotate_left
       ·simp only [pS]
        rfl
       refine tk 9 (some 40) ?_ (bt 19 18431) (take_ofW HT_.out HW_.out (by kernel_rfl)) hHeld ?_ ?_ ?_ ?_
       rotate_left
       ·rintro w' ⟨s0, s1, s2, s3, s4, s5, s6, s7⟩
        go_simp
        with_reducible rfl
       rotate_left
       ·simp only [pS]
        rfl
       refine pu 11 (some 42) ?_ (bt 19 20479) (any_of HT_.out (by kernel_rfl)) ?_ ?_ ?_ ?_
       rotate_left
       ·intro w'
        go_simp
        with_reducible rfl
       rotate_left
       ·simp only [pS]
        rfl
       refine pu 12 (some 43) ?_ (bt 19 24575) (any_of HT_.out (by kernel_rfl)) ?_ ?_ ?_ ?_
       rotate_left
       ·intro w'
        go_simp
        with_reducible rfl
       rotate_left
       ·simp only [pS]
        rfl
       refine tk 13 (some 44) ?_ (bt 19 32767) (take_ofW HT_.out HW_.out (by kernel_rfl)) hHeld ?_ ?_ ?_ ?_
       rotate_left
       ·rintro w' ⟨s0, s1, s2, s3, s4, s5, s6, s7⟩
        go_simp
        with_reducible rfl
       rotate_left
       ·simp only [pS]
        rfl
       refine pu 15 (some 46) ?_ (bt 19 65535) (any_of HT_.out (by kernel_rfl)) ?_ ?_ ?_ ?_
       rotate_left
       ·intro w'
        go_simp
        with_reducible rfl
       rotate_left
       ·simp only [pS]
        rfl
       refine one_ (i := 16) (N := some 47) (bt 19 131071) rfl rfl (one_of HT_.out (by kernel_rfl)) (by decide) (fun K hK => ?_)
       refine goes_ Try.func79 (by kernel_rfl) rfl #[.slice Ao29 x160000_1.length co29, .int .i64 ((rd_T119 l0_1 x5_1).f0), .slice A169_1 (((rd_T119 l0_1 x5_1).f1).take 0).length c169_1] (by rfl) rfl rfl (by (try simp only [List.map_toArray, List.map_cons, List.map_nil]); first | done | (rw [show (((rd_T119 l0_1 x5_1).f1).take 0).length = 0 from (by rw [List.length_take]; have h_ : (0 : Int) ≤ (((rd_T119 l0_1 x5_1).f1).length : Int) := of_decide_eq_true (by first | (with_reducible assumption) | assumption); omega)] <;> rfl) | rfl | (simp only [List.length_drop, List.length_take]; rfl)) ?_
       with_reducible refine (lineageref13_put.calls k1 _ _ x160000_1 ((rd_T119 l0_1 x5_1).f0) _ _ (((rd_T119 l0_1 x5_1).f1).take 0) t172 _ ?side1 ?side2 ?side3 ?side4 A24.out).mono ?_
       (case side1 => repeat (first | exact (Kd.V_reads' HO_160000.out).2.2 | (with_reducible refine Kd.C_alloc ?_ _) | (with_reducible refine Kd.C_drewN ?_ _) | (with_reducible refine Kd.C_drew ?_)))
       (case side2 => exact (Kd.V_reads' HO_160000.out).2.1)
       (case side3 => repeat (first | exact (Kd.C_below HR171.out HB.out) | (with_reducible refine Kd.C_alloc ?_ _) | (with_reducible refine Kd.C_drewN ?_ _) | (with_reducible refine Kd.C_drew ?_)))
       (case side4 => exact HC171.out)
       rintro e w30 ⟨v173, rfl, ho0, hb⟩
       refine ⟨_, rfl, ?_⟩
       have n0_ := AM (Kd.V_elder' (by (with_reducible repeat (first | apply Kd.V_alloc | apply Kd.V_drewN | apply Kd.V_drew)); exact HO_160000.out) (Kd.R_base ho0) hb)
       have n1_ := AM (Kd.R_lower (Kd.R_newM (M := fun k_ => (w.heap.size ≤ k_)) ho0 (below_size (by repeat (first | (with_reducible first | exact HB.out | apply bA | apply bN | apply bD | refine bS ?_ GE159.out | refine bS ?_ GE160.out) | exact HB.out))) (fun k_ h_ => h_)) (below_size (by repeat (first | (with_reducible first | exact HB.out | apply bA | apply bN | apply bD | refine bS ?_ GE159.out | refine bS ?_ GE160.out) | exact HB.out))))
       have n2_ := AM (blk_below (g := gb159) (o := .cells #[.slice Ao29 x160000_1.length co29, .slice (some ad169) l0_1.length c0_1, .int .i64 a0_2, .bool a0_3] 50 (0, 0)) (by (with_reducible repeat (first | refine kN ?_ _ | refine kD ?_ | refine kA ?_ _)); exact BK159.out) hb)
       have n3_ := AM (blk_below (g := gb160) (o := .cells #[.slice none 0 0, .slice none 0 0, .int .i64 0, .bool false] 50 (0, 0)) (by (with_reducible repeat (first | refine kN ?_ _ | refine kD ?_ | refine kA ?_ _)); exact BK160.out) hb)
       have n4_ := AM (below_step (by repeat (first | (with_reducible first | exact HB.out | apply bA | apply bN | apply bD | refine bS ?_ GE159.out | refine bS ?_ GE160.out) | exact HB.out)) hb)
       clear HO_160000
       clear BK159
       clear BK160
       clear HB
       have HO_160000 := n0_
       have HO174 := n1_
       have BK159 := n2_
       have BK160 := n3_
       have HB := n4_
       clear n0_ n1_ n2_ n3_ n4_
       (try clear hb)
       (try clear hb2)
       (try clear hk)
       (try clear hi)
       (try clear ho0)
       obtain ⟨Ao31, co31, eo31⟩ := Kd.R_slice HO174.out
       (first | subst eo31 | (injection eo31 with f1_ f2_ f3_; have f4_ := f1_.symm; have f5_ := f3_.symm; clear f1_ f2_ f3_; subst f4_; subst f5_))
       refine hK.out _ _ ⟨(blk_cell BK159.out 0).trans rfl, (blk_cell BK159.out 1).trans rfl, (blk_cell BK159.out 2).trans rfl, (blk_cell BK159.out 3).trans rfl, ((HB.out.cell (World.block_lt_of_cell? w _ hw169_0)).trans hw169_0), ((HB.out.cell (World.block_lt_of_cell? w _ hw169_1)).trans hw169_1), ((HB.out.cell (World.block_lt_of_cell? w _ hw170_0)).trans hw170_0), ((HB.out.cell (World.block_lt_of_cell? w _ hw170_1)).trans hw170_1)⟩ (fun hHeld => ?_)
       clear hK K
       refine norm_ (a' := ?_) ?_ ?_
       rotate_left
       ·show Act.put _ (some 47) _ = _
        simp only [pS]
        rfl
       refine pu 17 (some 48) ?_ (bt 19 262143) (any_of HT_.out (by kernel_rfl)) ?_ ?_ ?_ ?_
       rotate_left
       ·intro w'
        go_simp
        with_reducible rfl
       rotate_left
       ·simp only [pS]
        rfl
       refine last_ (i := 18) (N := none) (bt 19 524287) rfl rfl (one_of HT_.out (by kernel_rfl)) (by decide) (fun K hK => ?_)
       have hs32 : w30.cell? ⟨gb159, 0, none⟩ = some (.slice Ao29 x160000_1.length co29) := (blk_cell BK159.out 0).trans rfl
       have hfs32 := blk_frozen BK159.out 0
       have hns32_1 := NB160_159.out
       have hms32_1 := NB159_160.out
       refine skip_ (w1 := ?_) (by rfl) rfl ?_ ?_
       rotate_left
       ·go_simp
        rfl
       refine hK.out _ _ ?_
       clear hK K
       refine done_ (done_of HT_.out (by kernel_rfl)) ?_
       try go_wp2
       go_roundg k1
       case measure => have := HK1.out; omega
       case rel => exact ⟨(wrap64 (x5_1 + 1)), (t172), (.slice Ao31 t172.length co31), (by first | rfl | (simp; done) | (simp [*]; done)), H', ⟨by have := HK1.out; omega⟩, ⟨by (with_reducible repeat (first | apply Kd.V_alloc | apply Kd.V_drewN | apply Kd.V_drew)); exact Kd.V_mono (Kd.R_V (Kd.R_far (p := ⟨gb159, 0, none⟩) (Kd.R_types (Kd.R_types (Kd.R_types HO174.out BK159.out (by decide)) BK160.out (by decide)) BK159.out (by decide)) (fun _ hk => hk.2) (.slice Ao31 t172.length co31))) (fun k_ hk => ⟨.inr hk.1.1.1.1, ⟨hk.1.1.2, hk.1.2⟩⟩)⟩, ⟨by (with_reducible repeat (first | refine kN ?_ _ | refine kD ?_ | refine kA ?_ _)); refine blk_put (cs := #[.slice Ao29 x160000_1.length co29, .slice (some ad169) l0_1.length c0_1, .int .i64 a0_2, .bool a0_3]) ?_ 0 _ rfl; (with_reducible repeat (first | refine kN ?_ _ | refine kD ?_ | refine kA ?_ _)); exact BK159.out⟩, ⟨by (with_reducible repeat (first | refine kN ?_ _ | refine kD ?_ | refine kA ?_ _)); refine blk_far ?_ NB160_159.out _; (with_reducible repeat (first | refine kN ?_ _ | refine kD ?_ | refine kA ?_ _)); exact BK160.out⟩, ⟨by repeat (first | (with_reducible first | exact HB.out | apply bA | apply bN | apply bD | refine bS ?_ GE159.out | refine bS ?_ GE160.out) | exact HB.out)⟩⟩
      ·rw [if_neg c23] at H
       exact absurd H (by simp)
     ·rw [if_neg c22] at H
      exact absurd H (by simp)
   ·rw [if_neg c5] at H
    have c5b0 : decide (x5_1 < (l0_1.length : Int)) = false := decide_eq_false c5
    clear c5
    simp only [Option.some.injEq, Prod.mk.injEq] at H
    obtain ⟨rfl, rfl, rfl, rfl⟩ := H
    have hnb33 := NB159_160.out
    have hnc33 := NB160_159.out
    have hcz34_0 : wr.cell? ⟨gb159, 0, none⟩ = some (u160000) := (blk_cell BK159.out 0).trans rfl
    have hcz34_1 : wr.cell? ⟨gb159, 1, none⟩ = some (.slice A0_1 l0_1.length c0_1) := (blk_cell BK159.out 1).trans rfl
    have hcz34_2 : wr.cell? ⟨gb159, 2, none⟩ = some (.int .i64 a0_2) := (blk_cell BK159.out 2).trans rfl
    have hcz34_3 : wr.cell? ⟨gb159, 3, none⟩ = some (.bool a0_3) := (blk_cell BK159.out 3).trans rfl
    have hfz34_0 := blk_frozen BK159.out 0
    have hfz34_1 := blk_frozen BK159.out 1
    have hfz34_2 := blk_frozen BK159.out 2
    have hfz34_3 := blk_frozen BK159.out 3
    obtain ⟨Ao35, co35, eo35⟩ := Kd.V_slice HO_160000.out
    subst eo35
    have hcz36_0 : wr.cell? ⟨gb160, 0, none⟩ = some (.slice none 0 0) := (blk_cell BK160.out 0).trans rfl
    have hcz36_1 : wr.cell? ⟨gb160, 1, none⟩ = some (.slice none 0 0) := (blk_cell BK160.out 1).trans rfl
    have hcz36_2 : wr.cell? ⟨gb160, 2, none⟩ = some (.int .i64 0) := (blk_cell BK160.out 2).trans rfl
    have hcz36_3 : wr.cell? ⟨gb160, 3, none⟩ = some (.bool false) := (blk_cell BK160.out 3).trans rfl
    have hfz36_0 := blk_frozen BK160.out 0
    have hfz36_1 := blk_frozen BK160.out 1
    have hfz36_2 := blk_frozen BK160.out 2
    have hfz36_3 := blk_frozen BK160.out 3
    go_wp2
    refine bodyPost_ret (results_cell_row rfl _ _ gb160 50 #[.slice Ao35 x160000_1.length co35, .slice none 0 0, .int .i64 (-1), .bool false] (0, 0) _ rfl (by (with_reducible repeat (first | refine kN ?_ _ | refine kD ?_ | refine kA ?_ _)); refine blk_put (cs := #[.slice Ao35 x160000_1.length co35, .slice none 0 0, .int .i64 (-1), .bool false]) ?_ 3 _ rfl; (with_reducible repeat (first | refine kN ?_ _ | refine kD ?_ | refine kA ?_ _)); refine blk_put (cs := #[.slice Ao35 x160000_1.length co35, .slice none 0 0, .int .i64 0, .bool false]) ?_ 2 _ rfl; (with_reducible repeat (first | refine kN ?_ _ | refine kD ?_ | refine kA ?_ _)); refine blk_put (cs := #[.slice Ao35 x160000_1.length co35, .slice none 0 0, .int .i64 0, .bool false]) ?_ 1 _ rfl; (with_reducible repeat (first | refine kN ?_ _ | refine kD ?_ | refine kA ?_ _)); refine blk_put (cs := #[.slice none 0 0, .slice none 0 0, .int .i64 0, .bool false]) ?_ 0 _ rfl; (with_reducible repeat (first | refine kN ?_ _ | refine kD ?_ | refine kA ?_ _)); refine blk_far ?_ NB160_159.out _; (with_reducible repeat (first | refine kN ?_ _ | refine kD ?_ | refine kA ?_ _)); refine blk_far ?_ NB160_159.out _; (with_reducible repeat (first | refine kN ?_ _ | refine kD ?_ | refine kA ?_ _)); refine blk_far ?_ NB160_159.out _; (with_reducible repeat (first | refine kN ?_ _ | refine kD ?_ | refine kA ?_ _)); exact BK160.out) Try.underlying50 rfl (by kernel_rfl)) rfl ?_
    exact ⟨_, _, by first | rfl | (simp [errW_none, errW_some] <;> rfl) | (simp [*, errW_none, errW_some] <;> rfl), by (with_reducible repeat (first | apply Kd.V_alloc | apply Kd.V_drewN | apply Kd.V_drew)); exact Kd.V_mono (Kd.V_far (p := ⟨gb160, 3, none⟩) (Kd.V_far (p := ⟨gb160, 2, none⟩) (Kd.V_far (p := ⟨gb160, 1, none⟩) (Kd.V_far (p := ⟨gb160, 0, none⟩) (Kd.V_far (p := ⟨gb159, 3, none⟩) (Kd.V_far (p := ⟨gb159, 2, none⟩) (Kd.V_far (p := ⟨gb159, 1, none⟩) (Kd.V_mono (Kd.V_mono HO_160000.out (fun k_ hk => (⟨hk, hk.2.1⟩ : _ ∧ k_ ≠ gb159))) (fun k_ hk => (⟨hk, hk.1.2.2⟩ : _ ∧ k_ ≠ gb160))) (fun _ hk => hk.1.2) (.slice none 0 0)) (fun _ hk => hk.1.2) (.int .i64 (-1))) (fun _ hk => hk.1.2) (.bool false)) (fun _ hk => hk.2) (.slice Ao35 x160000_1.length co35)) (fun _ hk => hk.2) (.slice none 0 0)) (fun _ hk => hk.2) (.int .i64 (-1))) (fun _ hk => hk.2) (.bool false)) (fun _ hk => ⟨hk.1.1.1, (by simp [Value.ownBlock])⟩), by first | exact Kd.S_nil _ _ _ _ _ | exact Kd.N_nil _ _ _ _ _ | exact Kd.V_nil _ _ _ _ _ | exact Kd.Q_nil _ _ _ _ _ | exact Kd.R_nil _ _ _ _ _, by repeat (first | (with_reducible first | exact HB.out | apply bA | apply bN | apply bD | refine bS ?_ GE159.out | refine bS ?_ GE160.out) | exact HB.out)⟩
/-! ### lineageref13_burn: function 81 -/
def lineageref13_burn.f (l0_0 : List Int) (l0_1 : List (S119)) (a0_2 : Int) (a0_3 : Bool) : Option (List Int × (List (S119)) × Int × Bool × Bool) := if a0_2 = 0 then (some (l0_0, l0_1, a0_2, true, false)) else (if a0_2 > 0 then (some (l0_0, l0_1, wrap64 (a0_2 - 1), a0_3, true)) else (some (l0_0, l0_1, a0_2, a0_3, true)))
set_option maxHeartbeats 8000000 in
set_option maxRecDepth 100000 in
theorem lineageref13_burn.calls (P0_0_ : Nat → Prop) (A0_0 : Option Addr) (c0_0 : Nat) (l0_0 : List Int) (P0_1_ : Nat → Prop) (A0_1 : Option Addr) (c0_1 : Nat) (l0_1 : List (S119)) (a0_2 : Int) (a0_3 : Bool) (r1 : List Int) (r2 : List (S119)) (r3 : Int) (r4 : Bool) (r5 : Bool) (w : World) (hs0_0 : Kd.V (Kd.int .u8) 5 w w.heap.size (fun k_ => P0_0_ k_) (.slice A0_0 l0_0.length c0_0) l0_0) (hs0_1 : Kd.V k119 119 w w.heap.size (fun k_ => P0_1_ k_) (.slice A0_1 l0_1.length c0_1) l0_1) (h : lineageref13_burn.f l0_0 l0_1 a0_2 a0_3 = some (r1, r2, r3, r4, r5)) :
  Calls Try.prog 81 #[.agg #[.slice A0_0 l0_0.length c0_0, .slice A0_1 l0_1.length c0_1, .int .i64 a0_2, .bool a0_3]] w fun e w' => ∃ v0_ v1_ : Value, e = .returned (.tuple #[.agg #[v0_, v1_, .int .i64 r3, .bool r4], .bool r5]) ∧ Kd.V (Kd.int .u8) 5 w' w.heap.size (fun k_ => ((P0_0_ k_ ∨ P0_1_ k_) ∨ w.heap.size ≤ k_)) v0_ r1 ∧ Kd.V k119 119 w' w.heap.size (fun k_ => ((P0_0_ k_ ∨ P0_1_ k_) ∨ w.heap.size ≤ k_)) v1_ r2 ∧ Below w.heap.size w w' := by
 have hu50 := Try.underlying50
 have HV0 := AM hs0_0
 have HV1 := AM hs0_1
 clear hs0_0 hs0_1
 have HS := AM (BX.start w)
 unfold lineageref13_burn.f at h
 by_cases k0 : a0_2 = 0
 ·subst k0
  rw [if_pos rfl] at h
  simp only [Option.some.injEq, Prod.mk.injEq] at h
  obtain ⟨rfl, rfl, rfl, rfl, rfl⟩ := h
  replace HS := AM (HS.out.alloc 50 #[.slice A0_0 l0_0.length c0_0, .slice A0_1 l0_1.length c0_1, .int .i64 0, .bool a0_3])
  replace HS := AM (HS.out.alloc 50 #[.slice none 0 0, .slice none 0 0, .int .i64 0, .bool false])
  rw [World.size_alloc] at HS
  go_enter Try.func81, Try.ntmps81
  go_upto_region 1 with fail
  generalize (w.alloc _).alloc _ = w2 at HS ⊢
  have z02 := (blk_cell (HS.out.blk 1 rfl) 2).trans rfl
  have z03 := (blk_cell (HS.out.blk 1 rfl) 3).trans rfl
  have f03 := blk_frozen (HS.out.blk 1 rfl) 3
  go_upto_region 3 with fail
  clear z02 z03 f03
  replace HS := AM (show BX w ((w2).setCell ⟨w.heap.size, 3, none⟩ (.bool true)) [(w.heap.size + 1, 50, #[.slice none 0 0, .slice none 0 0, .int .i64 0, .bool false]), (w.heap.size, 50, #[.slice A0_0 l0_0.length c0_0, .slice A0_1 l0_1.length c0_1, .int .i64 0, .bool true])] from HS.out.puts [(3, .bool true)] 1 rfl)
  generalize (w2).setCell ⟨w.heap.size, 3, none⟩ (.bool true) = w3 at HS ⊢
  obtain ⟨z00, z01, z02, z03⟩ := bq (HS.out.blk 1 rfl)
  obtain ⟨z10, z11, z12, z13⟩ := bq (HS.out.blk 0 rfl)
  obtain ⟨f10, f11, f12, f13⟩ := fq (HS.out.blk 0 rfl)
  go_wp2_with fail
  clear z00 z01 z02 z03 z10 z11 z12 z13 f10 f11 f12 f13
  replace HS := AM (show BX w _ [(w.heap.size + 1, 50, #[.slice A0_0 l0_0.length c0_0, .slice A0_1 l0_1.length c0_1, .int .i64 0, .bool true]), (w.heap.size, 50, #[.slice A0_0 l0_0.length c0_0, .slice A0_1 l0_1.length c0_1, .int .i64 0, .bool true])] from HS.out.puts [(0, .slice A0_0 l0_0.length c0_0), (1, .slice A0_1 l0_1.length c0_1), (2, .int .i64 0), (3, .bool true)] 0 rfl)
  have hb := HS.out.1
  refine bodyPost_ret (results_ct rfl _ _ (w.heap.size + 1) 50 #[.slice A0_0 l0_0.length c0_0, .slice A0_1 l0_1.length c0_1, .int .i64 0, .bool true] (0, 0) _ rfl (HS.out.blk 0 rfl) Try.underlying50 rfl (by kernel_rfl)) rfl ?_
  exact ⟨_, _, rfl, Kd.V_mono (Kd.V_below HV0.out hb) (fun _ hk => .inl (.inl hk)), Kd.V_mono (Kd.V_below HV1.out hb) (fun _ hk => .inl (.inr hk)), hb⟩
 rw [if_neg k0] at h
 by_cases k1 : a0_2 > 0
 ·rw [if_pos k1] at h
  simp only [Option.some.injEq, Prod.mk.injEq] at h
  obtain ⟨rfl, rfl, rfl, rfl, rfl⟩ := h
  replace HS := AM (HS.out.alloc 50 #[.slice A0_0 l0_0.length c0_0, .slice A0_1 l0_1.length c0_1, .int .i64 a0_2, .bool a0_3])
  replace HS := AM (HS.out.alloc 50 #[.slice none 0 0, .slice none 0 0, .int .i64 0, .bool false])
  rw [World.size_alloc] at HS
  go_enter Try.func81, Try.ntmps81
  go_upto_region 1 with fail
  generalize (w.alloc _).alloc _ = w2 at HS ⊢
  have z02 := (blk_cell (HS.out.blk 1 rfl) 2).trans rfl
  have f02 := blk_frozen (HS.out.blk 1 rfl) 2
  go_upto_region 6 with fail
  try rw [show IntKind.i64.wrap (a0_2 - 1) = wrap64 (a0_2 - 1) from i64_w _]
  clear z02 f02
  replace HS := AM (show BX w ((w2).setCell ⟨w.heap.size, 2, none⟩ (.int .i64 (wrap64 (a0_2 - 1)))) [(w.heap.size + 1, 50, #[.slice none 0 0, .slice none 0 0, .int .i64 0, .bool false]), (w.heap.size, 50, #[.slice A0_0 l0_0.length c0_0, .slice A0_1 l0_1.length c0_1, .int .i64 (wrap64 (a0_2 - 1)), .bool a0_3])] from HS.out.puts [(2, .int .i64 (wrap64 (a0_2 - 1)))] 1 rfl)
  generalize (w2).setCell ⟨w.heap.size, 2, none⟩ (.int .i64 (wrap64 (a0_2 - 1))) = w3 at HS ⊢
  obtain ⟨z00, z01, z02, z03⟩ := bq (HS.out.blk 1 rfl)
  obtain ⟨z10, z11, z12, z13⟩ := bq (HS.out.blk 0 rfl)
  obtain ⟨f10, f11, f12, f13⟩ := fq (HS.out.blk 0 rfl)
  go_wp2_with fail
  clear z00 z01 z02 z03 z10 z11 z12 z13 f10 f11 f12 f13
  replace HS := AM (show BX w _ [(w.heap.size + 1, 50, #[.slice A0_0 l0_0.length c0_0, .slice A0_1 l0_1.length c0_1, .int .i64 (wrap64 (a0_2 - 1)), .bool a0_3]), (w.heap.size, 50, #[.slice A0_0 l0_0.length c0_0, .slice A0_1 l0_1.length c0_1, .int .i64 (wrap64 (a0_2 - 1)), .bool a0_3])] from HS.out.puts [(0, .slice A0_0 l0_0.length c0_0), (1, .slice A0_1 l0_1.length c0_1), (2, .int .i64 (wrap64 (a0_2 - 1))), (3, .bool a0_3)] 0 rfl)
  have hb := HS.out.1
  refine bodyPost_ret (results_ct rfl _ _ (w.heap.size + 1) 50 #[.slice A0_0 l0_0.length c0_0, .slice A0_1 l0_1.length c0_1, .int .i64 (wrap64 (a0_2 - 1)), .bool a0_3] (0, 0) _ rfl (HS.out.blk 0 rfl) Try.underlying50 rfl (by kernel_rfl)) rfl ?_
  exact ⟨_, _, rfl, Kd.V_mono (Kd.V_below HV0.out hb) (fun _ hk => .inl (.inl hk)), Kd.V_mono (Kd.V_below HV1.out hb) (fun _ hk => .inl (.inr hk)), hb⟩
 ·rw [if_neg k1] at h
  simp only [Option.some.injEq, Prod.mk.injEq] at h
  obtain ⟨rfl, rfl, rfl, rfl, rfl⟩ := h
  replace HS := AM (HS.out.alloc 50 #[.slice A0_0 l0_0.length c0_0, .slice A0_1 l0_1.length c0_1, .int .i64 a0_2, .bool a0_3])
  replace HS := AM (HS.out.alloc 50 #[.slice none 0 0, .slice none 0 0, .int .i64 0, .bool false])
  rw [World.size_alloc] at HS
  go_enter Try.func81, Try.ntmps81
  go_upto_region 1 with fail
  generalize (w.alloc _).alloc _ = w2 at HS ⊢
  have z02 := (blk_cell (HS.out.blk 1 rfl) 2).trans rfl
  go_upto_region 6 with fail
  clear z02
  obtain ⟨z00, z01, z02, z03⟩ := bq (HS.out.blk 1 rfl)
  obtain ⟨z10, z11, z12, z13⟩ := bq (HS.out.blk 0 rfl)
  obtain ⟨f10, f11, f12, f13⟩ := fq (HS.out.blk 0 rfl)
  go_wp2_with fail
  clear z00 z01 z02 z03 z10 z11 z12 z13 f10 f11 f12 f13
  replace HS := AM (show BX w _ [(w.heap.size + 1, 50, #[.slice A0_0 l0_0.length c0_0, .slice A0_1 l0_1.length c0_1, .int .i64 a0_2, .bool a0_3]), (w.heap.size, 50, #[.slice A0_0 l0_0.length c0_0, .slice A0_1 l0_1.length c0_1, .int .i64 a0_2, .bool a0_3])] from HS.out.puts [(0, .slice A0_0 l0_0.length c0_0), (1, .slice A0_1 l0_1.length c0_1), (2, .int .i64 a0_2), (3, .bool a0_3)] 0 rfl)
  have hb := HS.out.1
  refine bodyPost_ret (results_ct rfl _ _ (w.heap.size + 1) 50 #[.slice A0_0 l0_0.length c0_0, .slice A0_1 l0_1.length c0_1, .int .i64 a0_2, .bool a0_3] (0, 0) _ rfl (HS.out.blk 0 rfl) Try.underlying50 rfl (by kernel_rfl)) rfl ?_
  exact ⟨_, _, rfl, Kd.V_mono (Kd.V_below HV0.out hb) (fun _ hk => .inl (.inl hk)), Kd.V_mono (Kd.V_below HV1.out hb) (fun _ hk => .inl (.inr hk)), hb⟩
end Go.Proofs.Ytbbokpkpdnppjaa.S
