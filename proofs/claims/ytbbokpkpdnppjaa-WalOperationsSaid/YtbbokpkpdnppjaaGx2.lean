-- PRINTED by print.py (a twelfth state) out of the translation. Not trusted: Lean checks it.
import Derived.Test.YtbbokpkpdnppjaaUA
import Derived.Test.YtbbokpkpdnppjaaGx0
import Derived.Test.YtbbokpkpdnppjaaGx1
namespace Go.Proofs.Ytbbokpkpdnppjaa.G
open Go.RowKit Go.Proofs.YtbbokpkpdnppjaaW.PrintWords Go.Proofs.YtbbokpkpdnppjaaW.PrintLast Go.Proofs.YtbbokpkpdnppjaaW.PrintMore
attribute [local go_sem] max2_int min2_int max_two min_two max_three min_three max_four min_four   -- for this text's walks alone
set_option linter.unusedVariables false
set_option linter.unusedSimpArgs false
/-! ### lineageref04_Checksum: function 68 -/
mutual
def lineageref04_Checksum.l0 : Nat → List Int → Int → Int → Option (Int)
 | 0, _, _, _ => none
 | k + 1, x0, x3, x4 => if x4 < (x0.length : Int) then (if 0 ≤ x4 then (lineageref04_Checksum.l1 k x0 (Go.bits .xor .u32 x3 ((rd x0 x4) % 4294967296)) x4 0) else (none)) else (some (Go.bits .xor .u32 x3 4294967295))
def lineageref04_Checksum.l1 : Nat → List Int → Int → Int → Int → Option (Int)
 | 0, _, _, _, _ => none
 | k + 1, x0, x3, x4, x5 => if x5 < 8 then (if (Go.bits .and .u32 x3 1) = 1 then (lineageref04_Checksum.l1 k x0 (Go.bits .xor .u32 (x3 / 2) 2197175160) x4 (wrap64 (x5 + 1))) else (lineageref04_Checksum.l1 k x0 (x3 / 2) x4 (wrap64 (x5 + 1)))) else (lineageref04_Checksum.l0 k x0 x3 (wrap64 (x4 + 1)))
end
def lineageref04_Checksum.f (k : Nat) (l0 : List Int) : Option (Int) := lineageref04_Checksum.l0 k l0 4294967295 0
theorem lineageref04_Checksum.mono_l : ∀ k, (∀ y0 y1 y2, LeO (lineageref04_Checksum.l0 k y0 y1 y2) (lineageref04_Checksum.l0 (k + 1) y0 y1 y2)) ∧ (∀ y0 y1 y2 y3, LeO (lineageref04_Checksum.l1 k y0 y1 y2 y3) (lineageref04_Checksum.l1 (k + 1) y0 y1 y2 y3))
 | 0 => ⟨fun _ _ _ r h => by simp [lineageref04_Checksum.l0] at h, fun _ _ _ _ r h => by simp [lineageref04_Checksum.l1] at h⟩
 | k + 1 => by
  obtain ⟨ih0, ih1⟩ := lineageref04_Checksum.mono_l k
  refine ⟨?_, ?_⟩
  ·intro y0 y1 y2
   unfold lineageref04_Checksum.l0
   repeat' first
   | (with_reducible exact ih0 _ _ _)
   | (with_reducible exact ih1 _ _ _ _)
   | (with_reducible exact LeO.refl _)
   | (with_reducible exact LeO.none _)
   | (with_reducible refine LeO.ite ?_ ?_)
   | (with_reducible refine LeO.bind ?_ (fun _ => ?_))
   | exact ih0 _ _ _
   | exact ih1 _ _ _ _
   | exact LeO.none _
   | refine LeO.ite ?_ ?_
   | refine LeO.bind ?_ (fun _ => ?_)
  ·intro y0 y1 y2 y3
   unfold lineageref04_Checksum.l1
   repeat' first
   | (with_reducible exact ih0 _ _ _)
   | (with_reducible exact ih1 _ _ _ _)
   | (with_reducible exact LeO.refl _)
   | (with_reducible exact LeO.none _)
   | (with_reducible refine LeO.ite ?_ ?_)
   | (with_reducible refine LeO.bind ?_ (fun _ => ?_))
   | exact ih0 _ _ _
   | exact ih1 _ _ _ _
   | exact LeO.none _
   | refine LeO.ite ?_ ?_
   | refine LeO.bind ?_ (fun _ => ?_)
theorem lineageref04_Checksum.mono : ∀ a0 k, LeO (lineageref04_Checksum.f k a0) (lineageref04_Checksum.f (k + 1) a0) := by
 intro a0 k
 obtain ⟨ih0, ih1⟩ := lineageref04_Checksum.mono_l k
 unfold lineageref04_Checksum.f
 repeat' first
   | (with_reducible exact ih0 _ _ _)
   | (with_reducible exact ih1 _ _ _ _)
   | (with_reducible exact LeO.refl _)
   | (with_reducible exact LeO.none _)
   | (with_reducible refine LeO.ite ?_ ?_)
   | (with_reducible refine LeO.bind ?_ (fun _ => ?_))
   | exact ih0 _ _ _
   | exact ih1 _ _ _ _
   | exact LeO.none _
   | refine LeO.ite ?_ ?_
   | refine LeO.bind ?_ (fun _ => ?_)
set_option maxHeartbeats 8000000 in
set_option maxRecDepth 100000 in
theorem lineageref04_Checksum.calls (k : Nat) (A0 : Option Addr) (c0 : Nat) (l0 : List Int) (r : Int) (w : World) (hr0 : Kd.C (Kd.int .u8) w A0 l0.length l0) (hc0 : l0.length ≤ c0) (h : lineageref04_Checksum.f k l0 = some r) :
  Calls Try.prog 68 #[.slice A0 l0.length c0] w fun e w' => e = .returned (.int .u32 r) ∧ Drawn0 w w' := by
 have HR0 := AM hr0
 have HC0 := AM hc0
 clear hr0 hc0
 have H : (lineageref04_Checksum.l0 k l0 4294967295 0) = some r := h
 clear h
 have H' := AM H
 clear H
 go_enter Try.func68, Try.ntmps68
 go_wp2
 go_loopg [3, 4] k (fun kq v3 v4 w' => ∃ (x3_1 : Int) (x4_1 : Int), v3 = .int .u32 x3_1 ∧ v4 = .int .i64 x4_1 ∧ Aside0 (lineageref04_Checksum.l0 kq l0 x3_1 x4_1 = some r) ∧ Aside0 (kq ≤ k) ∧ Drawn0 w w')
 case atStart => exact ⟨(4294967295), (0), (by first | rfl | (simp; done) | (simp [*]; done)), (by first | rfl | (simp; done) | (simp [*]; done)), H', ⟨Nat.le_refl _⟩, by repeat (first | exact Drawn0.refl _ | apply Drawn0.step)⟩
 case round =>
  clear H'
  obtain ⟨x3_1, x4_1, rfl, rfl, HA, HK1, ⟨m1, rfl⟩⟩ := hrel
  cases gk with
  | zero => exact absurd HA.out (by simp [lineageref04_Checksum.l0])
  | succ k1 =>
   have H := HA.out
   clear HA
   simp only [lineageref04_Checksum.l0] at H
   by_cases c2 : x4_1 < (l0.length : Int)
   ·rw [if_pos c2] at H
    have c2b0 : decide (x4_1 < (l0.length : Int)) = true := decide_eq_true c2
    clear c2
    by_cases c3 : 0 ≤ x4_1
    ·rw [if_pos c3] at H
     have c3b0 : decide (0 ≤ x4_1) = true := decide_eq_true c3
     clear c3
     have H' := AM H
     clear H
     have p141 : 0 ≤ (x4_1 : Int) := of_decide_eq_true (by first | (with_reducible assumption) | assumption)
     have q141 : x4_1 < (l0.length : Int) := of_decide_eq_true (by first | (with_reducible assumption) | assumption)
     obtain ⟨ad141, e141, hx141_0⟩ := Kd.at_int HR0.out x4_1 p141 q141
     cases e141
     replace p141 := eq_true p141
     replace q141 := eq_true q141
     go_wp2
     go_loopg [3, 5] k1 (fun kq v3 v5 w' => ∃ (x3_2 : Int) (x5_2 : Int), v3 = .int .u32 x3_2 ∧ v5 = .int .i64 x5_2 ∧ Aside0 (lineageref04_Checksum.l1 kq l0 x3_2 x4_1 x5_2 = some r) ∧ Aside0 (kq ≤ k1) ∧ Drawn0 w w')
     case atStart => exact ⟨(Go.bits .xor .u32 x3_1 ((rd l0 x4_1) % 4294967296)), (0), (by first | rfl | (simp; done) | (simp [*]; done)), (by first | rfl | (simp; done) | (simp [*]; done)), H', ⟨Nat.le_refl _⟩, by repeat (first | exact Drawn0.refl _ | apply Drawn0.step)⟩
     case round =>
      clear H'
      try clear p1
      try clear q1
      try clear hx1
      try clear c2
      try clear c2b0
      try clear p2
      try clear c3
      try clear c3b0
      try clear hx141_0
      try clear p141
      try clear q141
      obtain ⟨x3_2, x5_2, rfl, rfl, HA, HK2, ⟨m2, rfl⟩⟩ := hrel
      cases gk with
      | zero => exact absurd HA.out (by simp [lineageref04_Checksum.l1])
      | succ k2 =>
       have H := HA.out
       clear HA
       simp only [lineageref04_Checksum.l1] at H
       by_cases c4 : x5_2 < 8
       ·rw [if_pos c4] at H
        have c4b0 : decide (x5_2 < 8) = true := decide_eq_true c4
        clear c4
        by_cases c5 : (Go.bits .and .u32 x3_2 1) = 1
        ·rw [if_pos c5] at H
         have c5b0 : ((Go.bits .and .u32 x3_2 1) == 1) = true := beq_iff_eq.mpr c5
         have c5b1 : ((Go.bits .and .u32 x3_2 1) != 1) = false := bne_eq_false_iff_eq.mpr c5
         clear c5
         have H' := AM H
         clear H
         go_wp2
         go_roundg k2
         case measure => have := HK1.out; have := HK2.out; omega
         case rel => exact ⟨(Go.bits .xor .u32 (x3_2 / 2) 2197175160), (wrap64 (x5_2 + 1)), (by first | rfl | (simp; done) | (simp [*]; done)), (by first | rfl | (simp; done) | (simp [*]; done)), H', ⟨by have := HK1.out; have := HK2.out; omega⟩, by repeat (first | exact Drawn0.refl _ | apply Drawn0.step)⟩
        ·rw [if_neg c5] at H
         have c5b0 : ((Go.bits .and .u32 x3_2 1) == 1) = false := beq_eq_false_iff_ne.mpr c5
         have c5b1 : ((Go.bits .and .u32 x3_2 1) != 1) = true := bne_iff_ne.mpr c5
         have H' := AM H
         clear H
         go_wp2
         go_roundg k2
         case measure => have := HK1.out; have := HK2.out; omega
         case rel => exact ⟨(x3_2 / 2), (wrap64 (x5_2 + 1)), (by first | rfl | (simp; done) | (simp [*]; done)), (by first | rfl | (simp; done) | (simp [*]; done)), H', ⟨by have := HK1.out; have := HK2.out; omega⟩, by repeat (first | exact Drawn0.refl _ | apply Drawn0.step)⟩
       ·rw [if_neg c4] at H
        have c4b0 : decide (x5_2 < 8) = false := decide_eq_false c4
        clear c4
        have H' := AM H
        clear H
        go_wp2
        go_roundg k2
        case measure => have := HK1.out; have := HK2.out; omega
        case rel => exact ⟨(x3_2), (wrap64 (x4_1 + 1)), (by first | rfl | (simp; done) | (simp [*]; done)), (by first | rfl | (simp; done) | (simp [*]; done)), H', ⟨by have := HK1.out; have := HK2.out; omega⟩, by repeat (first | exact Drawn0.refl _ | apply Drawn0.step)⟩
    ·rw [if_neg c3] at H
     exact absurd H (by simp)
   ·rw [if_neg c2] at H
    have c2b0 : decide (x4_1 < (l0.length : Int)) = false := decide_eq_false c2
    clear c2
    obtain rfl := Option.some.inj H
    go_wp2
    go_ret
    exact ⟨by first | rfl | (simp; done) | (simp [*]; done), by repeat (first | exact Drawn0.refl _ | apply Drawn0.step)⟩
/-! ### lineageref15_Frame: function 35 -/
def lineageref15_Frame.f (k : Nat) (a0 : Int) (l1 : List Int) : Option (List Int) := (lineageref15_number.f k (IntKind.u64.wrap ((l1.length : Int))) 4).bind fun t142 => ((lineageref15_number.f k (IntKind.u64.wrap (a0)) 8).bind fun t145 => (if t142.length + t145.length < 140737488355328 then ((some (t142 ++ t145 : List Int)).bind fun y148 => ((some (([] : List Int) : List Int)).bind fun y151 => (if y151.length + y148.length < 140737488355328 then ((some (y151 ++ y148 : List Int)).bind fun y154 => (if y154.length + l1.length < 140737488355328 then ((lineageref04_Checksum.f k (y154 ++ l1)).bind fun t160 => ((lineageref15_number.f k (IntKind.u64.wrap (t160)) 4).bind fun t161 => (if y148.length + t161.length < 140737488355328 then ((some (y148 ++ t161 : List Int)).bind fun y164 => (if y164.length + l1.length < 140737488355328 then (some (y164 ++ l1)) else (none))) else (none)))) else (none))) else (none)))) else (none)))
theorem lineageref15_Frame.mono : ∀ a0 a1 k, LeO (lineageref15_Frame.f k a0 a1) (lineageref15_Frame.f (k + 1) a0 a1) := by
 intro a0 a1 k
 unfold lineageref15_Frame.f
 repeat' first
   | (with_reducible exact lineageref04_Checksum.mono _ _)
   | (with_reducible exact lineageref15_number.mono _ _ _)
   | (with_reducible exact LeO.refl _)
   | (with_reducible exact LeO.none _)
   | (with_reducible refine LeO.ite ?_ ?_)
   | (with_reducible refine LeO.bind ?_ (fun _ => ?_))
   | exact lineageref04_Checksum.mono _ _
   | exact lineageref15_number.mono _ _ _
   | exact LeO.none _
   | refine LeO.ite ?_ ?_
   | refine LeO.bind ?_ (fun _ => ?_)
set_option maxHeartbeats 8000000 in
set_option maxRecDepth 100000 in
theorem lineageref15_Frame.calls (k : Nat) (a0 : Int) (A1 : Option Addr) (c1 : Nat) (l1 : List Int) (r : List Int) (w : World) (hr1 : Kd.C (Kd.int .u8) w A1 l1.length l1) (hc1 : l1.length ≤ c1) (h : lineageref15_Frame.f k a0 l1 = some r) :
  Calls Try.prog 35 #[.int .i64 a0, .slice A1 l1.length c1] w fun e w' => ∃ v0_ : Value, e = .returned (v0_) ∧ Kd.R (Kd.int .u8) 5 w' w.heap.size (fun _ => True) v0_ r ∧ Below w.heap.size w w' := by
 have HR1 := AM hr1
 have HC1 := AM hc1
 clear hr1 hc1
 have HB := AM (Below.refl w.heap.size w)
 have H : ((lineageref15_number.f k (IntKind.u64.wrap ((l1.length : Int))) 4).bind fun t142 => ((lineageref15_number.f k (IntKind.u64.wrap (a0)) 8).bind fun t145 => (if t142.length + t145.length < 140737488355328 then ((some (t142 ++ t145 : List Int)).bind fun y148 => ((some (([] : List Int) : List Int)).bind fun y151 => (if y151.length + y148.length < 140737488355328 then ((some (y151 ++ y148 : List Int)).bind fun y154 => (if y154.length + l1.length < 140737488355328 then ((lineageref04_Checksum.f k (y154 ++ l1)).bind fun t160 => ((lineageref15_number.f k (IntKind.u64.wrap (t160)) 4).bind fun t161 => (if y148.length + t161.length < 140737488355328 then ((some (y148 ++ t161 : List Int)).bind fun y164 => (if y164.length + l1.length < 140737488355328 then (some (y164 ++ l1)) else (none))) else (none)))) else (none))) else (none)))) else (none)))) = some r := h
 clear h
 replace H := Option.bind_eq_some_iff.mp H
 obtain ⟨t142, A30, H⟩ := H
 replace H : ((lineageref15_number.f k (IntKind.u64.wrap (a0)) 8).bind fun t145 => (if t142.length + t145.length < 140737488355328 then ((some (t142 ++ t145 : List Int)).bind fun y148 => ((some (([] : List Int) : List Int)).bind fun y151 => (if y151.length + y148.length < 140737488355328 then ((some (y151 ++ y148 : List Int)).bind fun y154 => (if y154.length + l1.length < 140737488355328 then ((lineageref04_Checksum.f k (y154 ++ l1)).bind fun t160 => ((lineageref15_number.f k (IntKind.u64.wrap (t160)) 4).bind fun t161 => (if y148.length + t161.length < 140737488355328 then ((some (y148 ++ t161 : List Int)).bind fun y164 => (if y164.length + l1.length < 140737488355328 then (some (y164 ++ l1)) else (none))) else (none)))) else (none))) else (none)))) else (none))) = some r := H
 have A3 := AM A30
 clear A30
 replace H := Option.bind_eq_some_iff.mp H
 obtain ⟨t145, A40, H⟩ := H
 replace H : (if t142.length + t145.length < 140737488355328 then ((some (t142 ++ t145 : List Int)).bind fun y148 => ((some (([] : List Int) : List Int)).bind fun y151 => (if y151.length + y148.length < 140737488355328 then ((some (y151 ++ y148 : List Int)).bind fun y154 => (if y154.length + l1.length < 140737488355328 then ((lineageref04_Checksum.f k (y154 ++ l1)).bind fun t160 => ((lineageref15_number.f k (IntKind.u64.wrap (t160)) 4).bind fun t161 => (if y148.length + t161.length < 140737488355328 then ((some (y148 ++ t161 : List Int)).bind fun y164 => (if y164.length + l1.length < 140737488355328 then (some (y164 ++ l1)) else (none))) else (none)))) else (none))) else (none)))) else (none)) = some r := H
 have A4 := AM A40
 clear A40
 by_cases c5 : t142.length + t145.length < 140737488355328
 ·rw [if_pos c5] at H
  have LMc5 := AM c5
  clear c5
  obtain ⟨y148, hy148⟩ : ∃ y_ : List Int, y_ = (t142 ++ t145) := ⟨_, rfl⟩
  replace H : ((some (([] : List Int) : List Int)).bind fun y151 => (if y151.length + y148.length < 140737488355328 then ((some (y151 ++ y148 : List Int)).bind fun y154 => (if y154.length + l1.length < 140737488355328 then ((lineageref04_Checksum.f k (y154 ++ l1)).bind fun t160 => ((lineageref15_number.f k (IntKind.u64.wrap (t160)) 4).bind fun t161 => (if y148.length + t161.length < 140737488355328 then ((some (y148 ++ t161 : List Int)).bind fun y164 => (if y164.length + l1.length < 140737488355328 then (some (y164 ++ l1)) else (none))) else (none)))) else (none))) else (none))) = some r := by first | (rw [hy148]; with_reducible exact H) | (have H2_ := (Option.bind_some _ _).symm.trans H; rw [hy148]; with_reducible exact H2_) | (have H2_ := (Option.bind_some _ _).symm.trans H; with_reducible exact H2_) | with_reducible exact H | (rw [hy148]; exact H) | exact H
  have Ny148 := AM hy148
  clear hy148
  obtain ⟨y151, hy151⟩ : ∃ y_ : List Int, y_ = (([] : List Int)) := ⟨_, rfl⟩
  replace H : (if y151.length + y148.length < 140737488355328 then ((some (y151 ++ y148 : List Int)).bind fun y154 => (if y154.length + l1.length < 140737488355328 then ((lineageref04_Checksum.f k (y154 ++ l1)).bind fun t160 => ((lineageref15_number.f k (IntKind.u64.wrap (t160)) 4).bind fun t161 => (if y148.length + t161.length < 140737488355328 then ((some (y148 ++ t161 : List Int)).bind fun y164 => (if y164.length + l1.length < 140737488355328 then (some (y164 ++ l1)) else (none))) else (none)))) else (none))) else (none)) = some r := by first | (rw [hy151]; with_reducible exact H) | (have H2_ := (Option.bind_some _ _).symm.trans H; rw [hy151]; with_reducible exact H2_) | (have H2_ := (Option.bind_some _ _).symm.trans H; with_reducible exact H2_) | with_reducible exact H | (rw [hy151]; exact H) | exact H
  have Ny151 := AM hy151
  clear hy151
  by_cases c6 : y151.length + y148.length < 140737488355328
  ·rw [if_pos c6] at H
   have LMc6 := AM c6
   clear c6
   obtain ⟨y154, hy154⟩ : ∃ y_ : List Int, y_ = (y151 ++ y148) := ⟨_, rfl⟩
   replace H : (if y154.length + l1.length < 140737488355328 then ((lineageref04_Checksum.f k (y154 ++ l1)).bind fun t160 => ((lineageref15_number.f k (IntKind.u64.wrap (t160)) 4).bind fun t161 => (if y148.length + t161.length < 140737488355328 then ((some (y148 ++ t161 : List Int)).bind fun y164 => (if y164.length + l1.length < 140737488355328 then (some (y164 ++ l1)) else (none))) else (none)))) else (none)) = some r := by first | (rw [hy154]; with_reducible exact H) | (have H2_ := (Option.bind_some _ _).symm.trans H; rw [hy154]; with_reducible exact H2_) | (have H2_ := (Option.bind_some _ _).symm.trans H; with_reducible exact H2_) | with_reducible exact H | (rw [hy154]; exact H) | exact H
   have Ny154 := AM hy154
   clear hy154
   by_cases c7 : y154.length + l1.length < 140737488355328
   ·rw [if_pos c7] at H
    have LMc7 := AM c7
    clear c7
    obtain ⟨y157, hy157⟩ : ∃ y_ : List Int, y_ = (y154 ++ l1) := ⟨_, rfl⟩
    replace H : ((lineageref04_Checksum.f k y157).bind fun t160 => ((lineageref15_number.f k (IntKind.u64.wrap (t160)) 4).bind fun t161 => (if y148.length + t161.length < 140737488355328 then ((some (y148 ++ t161 : List Int)).bind fun y164 => (if y164.length + l1.length < 140737488355328 then (some (y164 ++ l1)) else (none))) else (none)))) = some r := by first | (rw [hy157]; with_reducible exact H) | (have H2_ := (Option.bind_some _ _).symm.trans H; rw [hy157]; with_reducible exact H2_) | (have H2_ := (Option.bind_some _ _).symm.trans H; with_reducible exact H2_) | with_reducible exact H | (rw [hy157]; exact H) | exact H
    have Ny157 := AM hy157
    clear hy157
    replace H := Option.bind_eq_some_iff.mp H
    obtain ⟨t160, A80, H⟩ := H
    replace H : ((lineageref15_number.f k (IntKind.u64.wrap (t160)) 4).bind fun t161 => (if y148.length + t161.length < 140737488355328 then ((some (y148 ++ t161 : List Int)).bind fun y164 => (if y164.length + l1.length < 140737488355328 then (some (y164 ++ l1)) else (none))) else (none))) = some r := H
    have A8 := AM A80
    clear A80
    replace H := Option.bind_eq_some_iff.mp H
    obtain ⟨t161, A90, H⟩ := H
    replace H : (if y148.length + t161.length < 140737488355328 then ((some (y148 ++ t161 : List Int)).bind fun y164 => (if y164.length + l1.length < 140737488355328 then (some (y164 ++ l1)) else (none))) else (none)) = some r := H
    have A9 := AM A90
    clear A90
    by_cases c10 : y148.length + t161.length < 140737488355328
    ·rw [if_pos c10] at H
     have LMc10 := AM c10
     clear c10
     obtain ⟨y164, hy164⟩ : ∃ y_ : List Int, y_ = (y148 ++ t161) := ⟨_, rfl⟩
     replace H : (if y164.length + l1.length < 140737488355328 then (some (y164 ++ l1)) else (none)) = some r := by first | (rw [hy164]; with_reducible exact H) | (have H2_ := (Option.bind_some _ _).symm.trans H; rw [hy164]; with_reducible exact H2_) | (have H2_ := (Option.bind_some _ _).symm.trans H; with_reducible exact H2_) | with_reducible exact H | (rw [hy164]; exact H) | exact H
     have Ny164 := AM hy164
     clear hy164
     by_cases c11 : y164.length + l1.length < 140737488355328
     ·rw [if_pos c11] at H
      have LMc11 := AM c11
      clear c11
      obtain ⟨y167, hy167⟩ : ∃ y_ : List Int, y_ = (y164 ++ l1) := ⟨_, rfl⟩
      replace H : (some y167) = some r := by first | (rw [hy167]; with_reducible exact H) | (have H2_ := (Option.bind_some _ _).symm.trans H; rw [hy167]; with_reducible exact H2_) | (have H2_ := (Option.bind_some _ _).symm.trans H; with_reducible exact H2_) | with_reducible exact H | (rw [hy167]; exact H) | exact H
      have Ny167 := AM hy167
      clear hy167
      obtain rfl := Option.some.inj H
      go_enter Try.func35, Try.ntmps35
      go_wp2_with (first | ((with_reducible refine gate_callee (f := 67) rfl ?_); refine goesL_ (some 10) rfl rfl Try.func67 (by kernel_rfl) rfl #[.int .u64 (IntKind.u64.wrap ((l1.length : Int))), .int .i64 4] rfl (by (try simp only [List.map_toArray, List.map_cons, List.map_nil]); first | done | rfl | (simp only [List.length_drop, List.length_take]; rfl)) ?_; (with_reducible refine (lineageref15_number.calls k (IntKind.u64.wrap ((l1.length : Int))) 4 t142 _ A3.out).mono ?_); rintro e w12 ⟨v143, rfl, ho0, hb⟩; refine ⟨_, rfl, ?_⟩; have n0_ := AM (Kd.R_lower ho0 (below_size (by repeat (first | (with_reducible first | exact HB.out | apply bA | apply bN | apply bD) | exact HB.out)))); have n1_ := AM (below_step (by repeat (first | (with_reducible first | exact HB.out | apply bA | apply bN | apply bD) | exact HB.out)) hb); clear HB; have HO144 := n0_; have HB := n1_; clear n0_ n1_; (try clear hb); (try clear hb2); (try clear hk); (try clear hi); (try clear ho0)) | ((with_reducible refine gate_callee (f := 67) rfl ?_); refine goesL_ (some 13) rfl rfl Try.func67 (by kernel_rfl) rfl #[.int .u64 (IntKind.u64.wrap (a0)), .int .i64 8] rfl (by (try simp only [List.map_toArray, List.map_cons, List.map_nil]); first | done | rfl | (simp only [List.length_drop, List.length_take]; rfl)) ?_; (with_reducible refine (lineageref15_number.calls k (IntKind.u64.wrap (a0)) 8 t145 _ A4.out).mono ?_); rintro e w13 ⟨v146, rfl, ho0, hb⟩; refine ⟨_, rfl, ?_⟩; have n0_ := AM (Kd.R_elder' (by (with_reducible repeat (first | apply Kd.R_alloc | apply Kd.R_drewN | apply Kd.R_drew)); exact HO144.out) (Kd.R_base ho0) hb); have n1_ := AM (Kd.R_lower (Kd.R_new' ho0 (Kd.R_lt (by (with_reducible repeat (first | apply Kd.R_alloc | apply Kd.R_drewN | apply Kd.R_drew)); exact HO144.out))) (below_size (by repeat (first | (with_reducible first | exact HB.out | apply bA | apply bN | apply bD) | exact HB.out)))); have n2_ := AM (below_step (by repeat (first | (with_reducible first | exact HB.out | apply bA | apply bN | apply bD) | exact HB.out)) hb); clear HO144; clear HB; have HO144 := n0_; have HO147 := n1_; have HB := n2_; clear n0_ n1_ n2_; (try clear hb); (try clear hb2); (try clear hk); (try clear hi); (try clear ho0); obtain ⟨Ao15, co15, eo15⟩ := Kd.R_slice HO147.out; subst eo15) | ((with_reducible refine gate_builtin (b := .append) (xs := #[.tmp 10, .tmp 13]) rfl ?_); at_builtin; refine Kd.R_append_rows (Kd.int .u8) (w0 := w) w.heap.size rfl (.tmp 10) (.tmp 13) 29 5 (.int .u8 0) 1 rfl Try.underlying29 info5 rfl (by decide) (by omega) v143 t142 t145 _ _ _ (fun k_ => some k_ ≠ (.slice Ao15 t145.length co15 : Value).ownBlock) (fun _ => False) rfl rfl ?aO ?aR (fun _ _ h => h) (fun _ h => h.elim) ?aF ?aB ?aS ?aL ?_; (case aR => repeat (first | exact (Kd.R_reads' HO147.out).2.2 | (with_reducible refine Kd.C_alloc ?_ _) | (with_reducible refine Kd.C_drewN ?_ _) | (with_reducible refine Kd.C_drew ?_))); (case aB => exact (by repeat (first | (with_reducible first | exact HB.out | apply bA | apply bN | apply bD) | exact HB.out))); (case aF => exact (fun k_ hk => Kd.fresh' (Kd.R_lt (by (with_reducible repeat (first | apply Kd.R_alloc | apply Kd.R_drewN | apply Kd.R_drew)); exact HO147.out)) k_ hk)); (case aO => exact (by (with_reducible repeat (first | apply Kd.R_alloc | apply Kd.R_drewN | apply Kd.R_drew)); exact Kd.R_mono HO144.out (fun _ hk => hk.2))); (case aS => exact (below_size (by repeat (first | (with_reducible first | exact HB.out | apply bA | apply bN | apply bD) | exact HB.out)))); (case aL => have := LMc5.out; omega); intro v149 w14 ho hb hg hat; rw [← Ny148.out] at ho; have n0_ := AM (Kd.R_after (ok := (fun _ => True)) (by (with_reducible repeat (first | apply Kd.R_alloc | apply Kd.R_drewN | apply Kd.R_drew)); exact HO147.out) hg hat); have n1_ := AM (hb); have n2_ := AM (ho); clear HO147; clear HB; clear HO144; have HO147 := n0_; have HB := n1_; have HO150 := n2_; clear n0_ n1_ n2_; clear ho hb hg hat) | ((with_reducible refine gate_dst (N := 15) rfl ?_); refine Kd.R_lit (Kd.int .u8) _ 5 ?hg (N := 15) ?hd (xs := ([] : List Int)) (inner := []) (ok := fun _ => True) (okp := fun _ => True) ?hr ?hp (fun _ hk => hk) trivial (Below.refl _ _) (Nat.le_refl _) (by simp) ?_; (case hd => rfl); (case hg => rfl); (case hr => first | (go_simp; done) | (go_simp; rfl)); (case hp => exact (Reps.none _ _)); intro v152 w16 ho17 hb hg_ hnew_; clear hg_ hnew_; (first | rw [← Ny151.out] at ho17 | (simp only [Int.reduceToNat] at ho17; rw [← Ny151.out] at ho17)); have n0_ := AM (Kd.R_elder' (by (with_reducible repeat (first | apply Kd.R_alloc | apply Kd.R_drewN | apply Kd.R_drew)); exact HO147.out) (Kd.R_base ho17) hb); have n1_ := AM (Kd.R_elder' (by (with_reducible repeat (first | apply Kd.R_alloc | apply Kd.R_drewN | apply Kd.R_drew)); exact HO150.out) (Kd.R_base ho17) hb); have n2_ := AM (Kd.R_lower (Kd.R_new' (Kd.R_new' ho17 (Kd.R_lt (by (with_reducible repeat (first | apply Kd.R_alloc | apply Kd.R_drewN | apply Kd.R_drew)); exact HO147.out))) (Kd.R_lt (by (with_reducible repeat (first | apply Kd.R_alloc | apply Kd.R_drewN | apply Kd.R_drew)); exact HO150.out))) (below_size (by repeat (first | (with_reducible first | exact HB.out | apply bA | apply bN | apply bD) | exact HB.out)))); have n3_ := AM (below_step (by repeat (first | (with_reducible first | exact HB.out | apply bA | apply bN | apply bD) | exact HB.out)) hb); clear HO147; clear HO150; clear HB; have HO147 := n0_; have HO150 := n1_; have HO153 := n2_; have HB := n3_; clear n0_ n1_ n2_ n3_; clear hb ho17; obtain ⟨Ao19, co19, eo19⟩ := Kd.R_slice HO150.out; subst eo19) | ((with_reducible refine gate_builtin (b := .append) (xs := #[.tmp 15, .tmp 16]) rfl ?_); at_builtin; refine Kd.R_append_rows (Kd.int .u8) (w0 := w) w.heap.size rfl (.tmp 15) (.tmp 16) 29 5 (.int .u8 0) 1 rfl Try.underlying29 info5 rfl (by decide) (by omega) v152 y151 y148 _ _ _ (fun k_ => some k_ ≠ (.slice Ao15 t145.length co15 : Value).ownBlock ∧ some k_ ≠ (.slice Ao19 y148.length co19 : Value).ownBlock) (fun _ => False) rfl rfl ?aO ?aR (fun _ _ h => h) (fun _ h => h.elim) ?aF ?aB ?aS ?aL ?_; (case aR => repeat (first | exact (Kd.R_reads' HO150.out).2.2 | (with_reducible refine Kd.C_alloc ?_ _) | (with_reducible refine Kd.C_drewN ?_ _) | (with_reducible refine Kd.C_drew ?_))); (case aB => exact (by repeat (first | (with_reducible first | exact HB.out | apply bA | apply bN | apply bD) | exact HB.out))); (case aF => exact (fun k_ hk => ⟨Kd.fresh' (Kd.R_lt (by (with_reducible repeat (first | apply Kd.R_alloc | apply Kd.R_drewN | apply Kd.R_drew)); exact HO147.out)) k_ hk, Kd.fresh' (Kd.R_lt (by (with_reducible repeat (first | apply Kd.R_alloc | apply Kd.R_drewN | apply Kd.R_drew)); exact HO150.out)) k_ hk⟩)); (case aO => exact (by (with_reducible repeat (first | apply Kd.R_alloc | apply Kd.R_drewN | apply Kd.R_drew)); exact Kd.R_mono HO153.out (fun _ hk => ⟨hk.1.2, hk.2⟩))); (case aS => exact (below_size (by repeat (first | (with_reducible first | exact HB.out | apply bA | apply bN | apply bD) | exact HB.out)))); (case aL => have := LMc6.out; omega); intro v155 w18 ho hb hg hat; rw [← Ny154.out] at ho; have n0_ := AM (Kd.R_after (ok := (fun k_ => some k_ ≠ (.slice Ao19 y148.length co19 : Value).ownBlock)) (by (with_reducible repeat (first | apply Kd.R_alloc | apply Kd.R_drewN | apply Kd.R_drew)); exact Kd.R_mono HO147.out (fun _ hk => ⟨hk.1.2, hk.2⟩)) hg hat); have n1_ := AM (Kd.R_after (ok := (fun k_ => some k_ ≠ (.slice Ao15 t145.length co15 : Value).ownBlock)) (by (with_reducible repeat (first | apply Kd.R_alloc | apply Kd.R_drewN | apply Kd.R_drew)); exact HO150.out) hg hat); have n2_ := AM (hb); have n3_ := AM (ho); clear HO147; clear HO150; clear HB; clear HO153; have HO147 := n0_; have HO150 := n1_; have HB := n2_; have HO156 := n3_; clear n0_ n1_ n2_ n3_; clear ho hb hg hat) | ((with_reducible refine gate_builtin (b := .append) (xs := #[.tmp 17, .tmp 18]) rfl ?_); at_builtin; refine Kd.R_append_rows (Kd.int .u8) (w0 := w) w.heap.size rfl (.tmp 17) (.tmp 18) 29 5 (.int .u8 0) 1 rfl Try.underlying29 info5 rfl (by decide) (by omega) v155 y154 l1 _ _ _ (fun k_ => some k_ ≠ (.slice Ao15 t145.length co15 : Value).ownBlock ∧ some k_ ≠ (.slice Ao19 y148.length co19 : Value).ownBlock) (fun _ => False) rfl rfl ?aO ?aR (fun _ _ h => h) (fun _ h => h.elim) ?aF ?aB ?aS ?aL ?_; (case aR => repeat (first | exact (Kd.C_below HR1.out HB.out) | (with_reducible refine Kd.C_alloc ?_ _) | (with_reducible refine Kd.C_drewN ?_ _) | (with_reducible refine Kd.C_drew ?_))); (case aB => exact (by repeat (first | (with_reducible first | exact HB.out | apply bA | apply bN | apply bD) | exact HB.out))); (case aF => exact (fun k_ hk => ⟨Kd.fresh' (Kd.R_lt (by (with_reducible repeat (first | apply Kd.R_alloc | apply Kd.R_drewN | apply Kd.R_drew)); exact HO147.out)) k_ hk, Kd.fresh' (Kd.R_lt (by (with_reducible repeat (first | apply Kd.R_alloc | apply Kd.R_drewN | apply Kd.R_drew)); exact HO150.out)) k_ hk⟩)); (case aO => exact (by (with_reducible repeat (first | apply Kd.R_alloc | apply Kd.R_drewN | apply Kd.R_drew)); exact HO156.out)); (case aS => exact (below_size (by repeat (first | (with_reducible first | exact HB.out | apply bA | apply bN | apply bD) | exact HB.out)))); (case aL => have := LMc7.out; omega); intro v158 w20 ho hb hg hat; rw [← Ny157.out] at ho; have n0_ := AM (Kd.R_after (ok := (fun k_ => some k_ ≠ (.slice Ao19 y148.length co19 : Value).ownBlock)) (by (with_reducible repeat (first | apply Kd.R_alloc | apply Kd.R_drewN | apply Kd.R_drew)); exact HO147.out) hg hat); have n1_ := AM (Kd.R_after (ok := (fun k_ => some k_ ≠ (.slice Ao15 t145.length co15 : Value).ownBlock)) (by (with_reducible repeat (first | apply Kd.R_alloc | apply Kd.R_drewN | apply Kd.R_drew)); exact HO150.out) hg hat); have n2_ := AM (hb); have n3_ := AM (ho); clear HO147; clear HO150; clear HB; clear HO156; have HO147 := n0_; have HO150 := n1_; have HB := n2_; have HO159 := n3_; clear n0_ n1_ n2_ n3_; clear ho hb hg hat; obtain ⟨Ao21, co21, eo21⟩ := Kd.R_slice HO159.out; subst eo21) | ((with_reducible refine gate_callee (f := 68) rfl ?_); refine goesL_ (some 20) rfl rfl Try.func68 (by kernel_rfl) rfl #[.slice Ao21 y157.length co21] rfl (by (try simp only [List.map_toArray, List.map_cons, List.map_nil]); first | done | rfl | (simp only [List.length_drop, List.length_take]; rfl)) ?_; (with_reducible refine (lineageref04_Checksum.calls k _ _ y157 t160 _ ?side1 ?side2 A8.out).mono ?_); (case side1 => repeat (first | exact (Kd.R_reads' HO159.out).2.2 | (with_reducible refine Kd.C_alloc ?_ _) | (with_reducible refine Kd.C_drewN ?_ _) | (with_reducible refine Kd.C_drew ?_))); (case side2 => exact (Kd.R_reads' HO159.out).2.1); rintro e w' ⟨rfl, ⟨nd, rfl⟩⟩; refine ⟨_, rfl, ?_⟩) | ((with_reducible refine gate_callee (f := 67) rfl ?_); refine goesL_ (some 24) rfl rfl Try.func67 (by kernel_rfl) rfl #[.int .u64 (IntKind.u64.wrap (t160)), .int .i64 4] rfl (by (try simp only [List.map_toArray, List.map_cons, List.map_nil]); first | done | rfl | (simp only [List.length_drop, List.length_take]; rfl)) ?_; (with_reducible refine (lineageref15_number.calls k (IntKind.u64.wrap (t160)) 4 t161 _ A9.out).mono ?_); rintro e w22 ⟨v162, rfl, ho0, hb⟩; refine ⟨_, rfl, ?_⟩; have n0_ := AM (Kd.R_elder' (by (with_reducible repeat (first | apply Kd.R_alloc | apply Kd.R_drewN | apply Kd.R_drew)); exact HO147.out) (Kd.R_base ho0) hb); have n1_ := AM (Kd.R_elder' (by (with_reducible repeat (first | apply Kd.R_alloc | apply Kd.R_drewN | apply Kd.R_drew)); exact HO150.out) (Kd.R_base ho0) hb); have n2_ := AM (Kd.R_elder' (by (with_reducible repeat (first | apply Kd.R_alloc | apply Kd.R_drewN | apply Kd.R_drew)); exact HO159.out) (Kd.R_base ho0) hb); have n3_ := AM (Kd.R_lower (Kd.R_new' (Kd.R_new' (Kd.R_new' ho0 (Kd.R_lt (by (with_reducible repeat (first | apply Kd.R_alloc | apply Kd.R_drewN | apply Kd.R_drew)); exact HO147.out))) (Kd.R_lt (by (with_reducible repeat (first | apply Kd.R_alloc | apply Kd.R_drewN | apply Kd.R_drew)); exact HO150.out))) (Kd.R_lt (by (with_reducible repeat (first | apply Kd.R_alloc | apply Kd.R_drewN | apply Kd.R_drew)); exact HO159.out))) (below_size (by repeat (first | (with_reducible first | exact HB.out | apply bA | apply bN | apply bD) | exact HB.out)))); have n4_ := AM (below_step (by repeat (first | (with_reducible first | exact HB.out | apply bA | apply bN | apply bD) | exact HB.out)) hb); clear HO147; clear HO150; clear HO159; clear HB; have HO147 := n0_; have HO150 := n1_; have HO159 := n2_; have HO163 := n3_; have HB := n4_; clear n0_ n1_ n2_ n3_ n4_; (try clear hb); (try clear hb2); (try clear hk); (try clear hi); (try clear ho0); obtain ⟨Ao24, co24, eo24⟩ := Kd.R_slice HO163.out; subst eo24) | ((with_reducible refine gate_builtin (b := .append) (xs := #[.tmp 21, .tmp 24]) rfl ?_); at_builtin; refine Kd.R_append_rows (Kd.int .u8) (w0 := w) w.heap.size rfl (.tmp 21) (.tmp 24) 29 5 (.int .u8 0) 1 rfl Try.underlying29 info5 rfl (by decide) (by omega) (.slice Ao19 y148.length co19) y148 t161 _ _ _ (fun k_ => some k_ ≠ (.slice Ao15 t145.length co15 : Value).ownBlock ∧ some k_ ≠ (.slice Ao21 y157.length co21 : Value).ownBlock ∧ some k_ ≠ (.slice Ao24 t161.length co24 : Value).ownBlock) (fun _ => False) rfl rfl ?aO ?aR (fun _ _ h => h) (fun _ h => h.elim) ?aF ?aB ?aS ?aL ?_; (case aR => repeat (first | exact (Kd.R_reads' HO163.out).2.2 | (with_reducible refine Kd.C_alloc ?_ _) | (with_reducible refine Kd.C_drewN ?_ _) | (with_reducible refine Kd.C_drew ?_))); (case aB => exact (by repeat (first | (with_reducible first | exact HB.out | apply bA | apply bN | apply bD) | exact HB.out))); (case aF => exact (fun k_ hk => ⟨Kd.fresh' (Kd.R_lt (by (with_reducible repeat (first | apply Kd.R_alloc | apply Kd.R_drewN | apply Kd.R_drew)); exact HO147.out)) k_ hk, Kd.fresh' (Kd.R_lt (by (with_reducible repeat (first | apply Kd.R_alloc | apply Kd.R_drewN | apply Kd.R_drew)); exact HO159.out)) k_ hk, Kd.fresh' (Kd.R_lt (by (with_reducible repeat (first | apply Kd.R_alloc | apply Kd.R_drewN | apply Kd.R_drew)); exact HO163.out)) k_ hk⟩)); (case aO => exact (by (with_reducible repeat (first | apply Kd.R_alloc | apply Kd.R_drewN | apply Kd.R_drew)); exact Kd.R_mono HO150.out (fun _ hk => ⟨hk.1.1, ⟨hk.1.2, hk.2⟩⟩))); (case aS => exact (below_size (by repeat (first | (with_reducible first | exact HB.out | apply bA | apply bN | apply bD) | exact HB.out)))); (case aL => have := LMc10.out; omega); intro v165 w23 ho hb hg hat; rw [← Ny164.out] at ho; have n0_ := AM (Kd.R_after (ok := (fun k_ => some k_ ≠ (.slice Ao21 y157.length co21 : Value).ownBlock ∧ some k_ ≠ (.slice Ao24 t161.length co24 : Value).ownBlock)) (by (with_reducible repeat (first | apply Kd.R_alloc | apply Kd.R_drewN | apply Kd.R_drew)); exact Kd.R_mono HO147.out (fun _ hk => ⟨⟨hk.1.2, hk.2⟩, hk.1.1⟩)) hg hat); have n1_ := AM (Kd.R_after (ok := (fun k_ => some k_ ≠ (.slice Ao15 t145.length co15 : Value).ownBlock ∧ some k_ ≠ (.slice Ao24 t161.length co24 : Value).ownBlock)) (by (with_reducible repeat (first | apply Kd.R_alloc | apply Kd.R_drewN | apply Kd.R_drew)); exact Kd.R_mono HO159.out (fun _ hk => ⟨⟨hk.1.1, hk.2⟩, hk.1.2⟩)) hg hat); have n2_ := AM (Kd.R_after (ok := (fun k_ => some k_ ≠ (.slice Ao15 t145.length co15 : Value).ownBlock ∧ some k_ ≠ (.slice Ao21 y157.length co21 : Value).ownBlock)) (by (with_reducible repeat (first | apply Kd.R_alloc | apply Kd.R_drewN | apply Kd.R_drew)); exact Kd.R_mono HO163.out (fun _ hk => ⟨⟨hk.1.1.2, hk.2⟩, hk.1.2⟩)) hg hat); have n3_ := AM (hb); have n4_ := AM (ho); clear HO147; clear HO159; clear HO163; clear HB; clear HO150; have HO147 := n0_; have HO159 := n1_; have HO163 := n2_; have HB := n3_; have HO166 := n4_; clear n0_ n1_ n2_ n3_ n4_; clear ho hb hg hat) | ((with_reducible refine gate_builtin (b := .append) (xs := #[.tmp 25, .tmp 26]) rfl ?_); at_builtin; refine Kd.R_append_rows (Kd.int .u8) (w0 := w) w.heap.size rfl (.tmp 25) (.tmp 26) 29 5 (.int .u8 0) 1 rfl Try.underlying29 info5 rfl (by decide) (by omega) v165 y164 l1 _ _ _ (fun k_ => some k_ ≠ (.slice Ao15 t145.length co15 : Value).ownBlock ∧ some k_ ≠ (.slice Ao21 y157.length co21 : Value).ownBlock ∧ some k_ ≠ (.slice Ao24 t161.length co24 : Value).ownBlock) (fun _ => False) rfl rfl ?aO ?aR (fun _ _ h => h) (fun _ h => h.elim) ?aF ?aB ?aS ?aL ?_; (case aR => repeat (first | exact (Kd.C_below HR1.out HB.out) | (with_reducible refine Kd.C_alloc ?_ _) | (with_reducible refine Kd.C_drewN ?_ _) | (with_reducible refine Kd.C_drew ?_))); (case aB => exact (by repeat (first | (with_reducible first | exact HB.out | apply bA | apply bN | apply bD) | exact HB.out))); (case aF => exact (fun k_ hk => ⟨Kd.fresh' (Kd.R_lt (by (with_reducible repeat (first | apply Kd.R_alloc | apply Kd.R_drewN | apply Kd.R_drew)); exact HO147.out)) k_ hk, Kd.fresh' (Kd.R_lt (by (with_reducible repeat (first | apply Kd.R_alloc | apply Kd.R_drewN | apply Kd.R_drew)); exact HO159.out)) k_ hk, Kd.fresh' (Kd.R_lt (by (with_reducible repeat (first | apply Kd.R_alloc | apply Kd.R_drewN | apply Kd.R_drew)); exact HO163.out)) k_ hk⟩)); (case aO => exact (by (with_reducible repeat (first | apply Kd.R_alloc | apply Kd.R_drewN | apply Kd.R_drew)); exact HO166.out)); (case aS => exact (below_size (by repeat (first | (with_reducible first | exact HB.out | apply bA | apply bN | apply bD) | exact HB.out)))); (case aL => have := LMc11.out; omega); intro v168 w25 ho hb hg hat; rw [← Ny167.out] at ho; have n0_ := AM (Kd.R_after (ok := (fun k_ => some k_ ≠ (.slice Ao21 y157.length co21 : Value).ownBlock ∧ some k_ ≠ (.slice Ao24 t161.length co24 : Value).ownBlock)) (by (with_reducible repeat (first | apply Kd.R_alloc | apply Kd.R_drewN | apply Kd.R_drew)); exact HO147.out) hg hat); have n1_ := AM (Kd.R_after (ok := (fun k_ => some k_ ≠ (.slice Ao15 t145.length co15 : Value).ownBlock ∧ some k_ ≠ (.slice Ao24 t161.length co24 : Value).ownBlock)) (by (with_reducible repeat (first | apply Kd.R_alloc | apply Kd.R_drewN | apply Kd.R_drew)); exact HO159.out) hg hat); have n2_ := AM (Kd.R_after (ok := (fun k_ => some k_ ≠ (.slice Ao15 t145.length co15 : Value).ownBlock ∧ some k_ ≠ (.slice Ao21 y157.length co21 : Value).ownBlock)) (by (with_reducible repeat (first | apply Kd.R_alloc | apply Kd.R_drewN | apply Kd.R_drew)); exact HO163.out) hg hat); have n3_ := AM (hb); have n4_ := AM (ho); clear HO147; clear HO159; clear HO163; clear HB; clear HO166; have HO147 := n0_; have HO159 := n1_; have HO163 := n2_; have HB := n3_; have HO169 := n4_; clear n0_ n1_ n2_ n3_ n4_; clear ho hb hg hat))
      go_ret
      exact ⟨_, by first | rfl | (simp [errW_none, errW_some] <;> rfl) | (simp [*, errW_none, errW_some] <;> rfl), by (with_reducible repeat (first | apply Kd.R_alloc | apply Kd.R_drewN | apply Kd.R_drew)); exact Kd.R_mono HO169.out (fun _ hk => trivial), by repeat (first | (with_reducible first | exact HB.out | apply bA | apply bN | apply bD) | exact HB.out)⟩
     ·rw [if_neg c11] at H
      exact absurd H (by simp)
    ·rw [if_neg c10] at H
     exact absurd H (by simp)
   ·rw [if_neg c7] at H
    exact absurd H (by simp)
  ·rw [if_neg c6] at H
   exact absurd H (by simp)
 ·rw [if_neg c5] at H
  exact absurd H (by simp)
-- NOT PRINTED: function 10 (lineagelaw15_WalFrame)
-- NOT PRINTED: function 39 (wal_Log_Synced)
-- NOT PRINTED: function 41 (wal_Log_Records)
-- NOT PRINTED: function 44 (wal_Log_Sync)
-- NOT PRINTED: function 12 (lineagelaw15_WalMemory)
/-! ### lineageref15_value: function 74 -/
def lineageref15_value.l0 : Nat → List Int → Int → Int → Option (Int)
 | 0, _, _, _ => none
 | k + 1, x0, x3, x4 => if x4 < (x0.length : Int) then (if 0 ≤ x4 then (lineageref15_value.l0 k x0 (Go.bits .or .u64 (IntKind.u64.wrap (x3 * 256)) (IntKind.u64.wrap (rd x0 x4))) (wrap64 (x4 + 1))) else (none)) else (some x3)
def lineageref15_value.f (k : Nat) (l0 : List Int) : Option (Int) := lineageref15_value.l0 k l0 0 0
theorem lineageref15_value.mono_l : ∀ k, (∀ y0 y1 y2, LeO (lineageref15_value.l0 k y0 y1 y2) (lineageref15_value.l0 (k + 1) y0 y1 y2))
 | 0 => fun _ _ _ r h => by simp [lineageref15_value.l0] at h
 | k + 1 => by
  have ih0 := lineageref15_value.mono_l k
  ·intro y0 y1 y2
   unfold lineageref15_value.l0
   repeat' first
   | (with_reducible exact ih0 _ _ _)
   | (with_reducible exact LeO.refl _)
   | (with_reducible exact LeO.none _)
   | (with_reducible refine LeO.ite ?_ ?_)
   | (with_reducible refine LeO.bind ?_ (fun _ => ?_))
   | exact ih0 _ _ _
   | exact LeO.none _
   | refine LeO.ite ?_ ?_
   | refine LeO.bind ?_ (fun _ => ?_)
theorem lineageref15_value.mono : ∀ a0 k, LeO (lineageref15_value.f k a0) (lineageref15_value.f (k + 1) a0) := by
 intro a0 k
 have ih0 := lineageref15_value.mono_l k
 unfold lineageref15_value.f
 repeat' first
   | (with_reducible exact ih0 _ _ _)
   | (with_reducible exact LeO.refl _)
   | (with_reducible exact LeO.none _)
   | (with_reducible refine LeO.ite ?_ ?_)
   | (with_reducible refine LeO.bind ?_ (fun _ => ?_))
   | exact ih0 _ _ _
   | exact LeO.none _
   | refine LeO.ite ?_ ?_
   | refine LeO.bind ?_ (fun _ => ?_)
set_option maxHeartbeats 8000000 in
set_option maxRecDepth 100000 in
theorem lineageref15_value.calls (k : Nat) (A0 : Option Addr) (c0 : Nat) (l0 : List Int) (r : Int) (w : World) (hr0 : Kd.C (Kd.int .u8) w A0 l0.length l0) (hc0 : l0.length ≤ c0) (h : lineageref15_value.f k l0 = some r) :
  Calls Try.prog 74 #[.slice A0 l0.length c0] w fun e w' => e = .returned (.int .u64 r) ∧ Drawn0 w w' := by
 have HR0 := AM hr0
 have HC0 := AM hc0
 clear hr0 hc0
 have H : (lineageref15_value.l0 k l0 0 0) = some r := h
 clear h
 have H' := AM H
 clear H
 go_enter Try.func74, Try.ntmps74
 go_wp2
 go_loopg [3, 4] k (fun kq v3 v4 w' => ∃ (x3_1 : Int) (x4_1 : Int), v3 = .int .u64 x3_1 ∧ v4 = .int .i64 x4_1 ∧ Aside0 (lineageref15_value.l0 kq l0 x3_1 x4_1 = some r) ∧ Aside0 (kq ≤ k) ∧ Drawn0 w w')
 case atStart => exact ⟨(0), (0), (by first | rfl | (simp; done) | (simp [*]; done)), (by first | rfl | (simp; done) | (simp [*]; done)), H', ⟨Nat.le_refl _⟩, by repeat (first | exact Drawn0.refl _ | apply Drawn0.step)⟩
 case round =>
  clear H'
  obtain ⟨x3_1, x4_1, rfl, rfl, HA, HK1, ⟨m1, rfl⟩⟩ := hrel
  cases gk with
  | zero => exact absurd HA.out (by simp [lineageref15_value.l0])
  | succ k1 =>
   have H := HA.out
   clear HA
   simp only [lineageref15_value.l0] at H
   by_cases c2 : x4_1 < (l0.length : Int)
   ·rw [if_pos c2] at H
    have c2b0 : decide (x4_1 < (l0.length : Int)) = true := decide_eq_true c2
    clear c2
    by_cases c3 : 0 ≤ x4_1
    ·rw [if_pos c3] at H
     have c3b0 : decide (0 ≤ x4_1) = true := decide_eq_true c3
     clear c3
     have H' := AM H
     clear H
     have p170 : 0 ≤ (x4_1 : Int) := of_decide_eq_true (by first | (with_reducible assumption) | assumption)
     have q170 : x4_1 < (l0.length : Int) := of_decide_eq_true (by first | (with_reducible assumption) | assumption)
     obtain ⟨ad170, e170, hx170_0⟩ := Kd.at_int HR0.out x4_1 p170 q170
     cases e170
     replace p170 := eq_true p170
     replace q170 := eq_true q170
     go_wp2
     go_roundg k1
     case measure => have := HK1.out; omega
     case rel => exact ⟨(Go.bits .or .u64 (IntKind.u64.wrap (x3_1 * 256)) (IntKind.u64.wrap (rd l0 x4_1))), (wrap64 (x4_1 + 1)), (by first | rfl | (simp; done) | (simp [*]; done)), (by first | rfl | (simp; done) | (simp [*]; done)), H', ⟨by have := HK1.out; omega⟩, by repeat (first | exact Drawn0.refl _ | apply Drawn0.step)⟩
    ·rw [if_neg c3] at H
     exact absurd H (by simp)
   ·rw [if_neg c2] at H
    have c2b0 : decide (x4_1 < (l0.length : Int)) = false := decide_eq_false c2
    clear c2
    obtain rfl := Option.some.inj H
    go_wp2
    go_ret
    exact ⟨by first | rfl | (simp; done) | (simp [*]; done), by repeat (first | exact Drawn0.refl _ | apply Drawn0.step)⟩
/-! ### lineageref15_Header: function 78 -/
def lineageref15_Header.f (k : Nat) (a0 : Int) : Option (List Int) := (lineageref15_number.f k (IntKind.u64.wrap (a0)) 8).bind fun t171 => ((lineageref04_Checksum.f k t171).bind fun t174 => ((lineageref15_number.f k (IntKind.u64.wrap (t174)) 4).bind fun t175 => (if t171.length + t175.length < 140737488355328 then (some (t171 ++ t175)) else (none))))
theorem lineageref15_Header.mono : ∀ a0 k, LeO (lineageref15_Header.f k a0) (lineageref15_Header.f (k + 1) a0) := by
 intro a0 k
 unfold lineageref15_Header.f
 repeat' first
   | (with_reducible exact lineageref04_Checksum.mono _ _)
   | (with_reducible exact lineageref15_number.mono _ _ _)
   | (with_reducible exact LeO.refl _)
   | (with_reducible exact LeO.none _)
   | (with_reducible refine LeO.ite ?_ ?_)
   | (with_reducible refine LeO.bind ?_ (fun _ => ?_))
   | exact lineageref04_Checksum.mono _ _
   | exact lineageref15_number.mono _ _ _
   | exact LeO.none _
   | refine LeO.ite ?_ ?_
   | refine LeO.bind ?_ (fun _ => ?_)
set_option maxHeartbeats 8000000 in
set_option maxRecDepth 100000 in
theorem lineageref15_Header.calls (k : Nat) (a0 : Int) (r : List Int) (w : World) (h : lineageref15_Header.f k a0 = some r) :
  Calls Try.prog 78 #[.int .i64 a0] w fun e w' => ∃ v0_ : Value, e = .returned (v0_) ∧ Kd.R (Kd.int .u8) 5 w' w.heap.size (fun _ => True) v0_ r ∧ Below w.heap.size w w' := by
 have HB := AM (Below.refl w.heap.size w)
 have H : ((lineageref15_number.f k (IntKind.u64.wrap (a0)) 8).bind fun t171 => ((lineageref04_Checksum.f k t171).bind fun t174 => ((lineageref15_number.f k (IntKind.u64.wrap (t174)) 4).bind fun t175 => (if t171.length + t175.length < 140737488355328 then (some (t171 ++ t175)) else (none))))) = some r := h
 clear h
 replace H := Option.bind_eq_some_iff.mp H
 obtain ⟨t171, A20, H⟩ := H
 replace H : ((lineageref04_Checksum.f k t171).bind fun t174 => ((lineageref15_number.f k (IntKind.u64.wrap (t174)) 4).bind fun t175 => (if t171.length + t175.length < 140737488355328 then (some (t171 ++ t175)) else (none)))) = some r := H
 have A2 := AM A20
 clear A20
 replace H := Option.bind_eq_some_iff.mp H
 obtain ⟨t174, A30, H⟩ := H
 replace H : ((lineageref15_number.f k (IntKind.u64.wrap (t174)) 4).bind fun t175 => (if t171.length + t175.length < 140737488355328 then (some (t171 ++ t175)) else (none))) = some r := H
 have A3 := AM A30
 clear A30
 replace H := Option.bind_eq_some_iff.mp H
 obtain ⟨t175, A40, H⟩ := H
 replace H : (if t171.length + t175.length < 140737488355328 then (some (t171 ++ t175)) else (none)) = some r := H
 have A4 := AM A40
 clear A40
 by_cases c5 : t171.length + t175.length < 140737488355328
 ·rw [if_pos c5] at H
  have LMc5 := AM c5
  clear c5
  obtain ⟨y178, hy178⟩ : ∃ y_ : List Int, y_ = (t171 ++ t175) := ⟨_, rfl⟩
  replace H : (some y178) = some r := by first | (rw [hy178]; with_reducible exact H) | (have H2_ := (Option.bind_some _ _).symm.trans H; rw [hy178]; with_reducible exact H2_) | (have H2_ := (Option.bind_some _ _).symm.trans H; with_reducible exact H2_) | with_reducible exact H | (rw [hy178]; exact H) | exact H
  have Ny178 := AM hy178
  clear hy178
  obtain rfl := Option.some.inj H
  go_enter Try.func78, Try.ntmps78
  go_wp2_with (first | ((with_reducible refine gate_callee (f := 67) rfl ?_); refine goesL_ (some 6) rfl rfl Try.func67 (by kernel_rfl) rfl #[.int .u64 (IntKind.u64.wrap (a0)), .int .i64 8] rfl (by (try simp only [List.map_toArray, List.map_cons, List.map_nil]); first | done | rfl | (simp only [List.length_drop, List.length_take]; rfl)) ?_; (with_reducible refine (lineageref15_number.calls k (IntKind.u64.wrap (a0)) 8 t171 _ A2.out).mono ?_); rintro e w6 ⟨v172, rfl, ho0, hb⟩; refine ⟨_, rfl, ?_⟩; have n0_ := AM (Kd.R_lower ho0 (below_size (by repeat (first | (with_reducible first | exact HB.out | apply bA | apply bN | apply bD) | exact HB.out)))); have n1_ := AM (below_step (by repeat (first | (with_reducible first | exact HB.out | apply bA | apply bN | apply bD) | exact HB.out)) hb); clear HB; have HO173 := n0_; have HB := n1_; clear n0_ n1_; (try clear hb); (try clear hb2); (try clear hk); (try clear hi); (try clear ho0); obtain ⟨Ao7, co7, eo7⟩ := Kd.R_slice HO173.out; subst eo7) | ((with_reducible refine gate_callee (f := 68) rfl ?_); refine goesL_ (some 9) rfl rfl Try.func68 (by kernel_rfl) rfl #[.slice Ao7 t171.length co7] rfl (by (try simp only [List.map_toArray, List.map_cons, List.map_nil]); first | done | rfl | (simp only [List.length_drop, List.length_take]; rfl)) ?_; (with_reducible refine (lineageref04_Checksum.calls k _ _ t171 t174 _ ?side1 ?side2 A3.out).mono ?_); (case side1 => repeat (first | exact (Kd.R_reads' HO173.out).2.2 | (with_reducible refine Kd.C_alloc ?_ _) | (with_reducible refine Kd.C_drewN ?_ _) | (with_reducible refine Kd.C_drew ?_))); (case side2 => exact (Kd.R_reads' HO173.out).2.1); rintro e w' ⟨rfl, ⟨nd, rfl⟩⟩; refine ⟨_, rfl, ?_⟩) | ((with_reducible refine gate_callee (f := 67) rfl ?_); refine goesL_ (some 11) rfl rfl Try.func67 (by kernel_rfl) rfl #[.int .u64 (IntKind.u64.wrap (t174)), .int .i64 4] rfl (by (try simp only [List.map_toArray, List.map_cons, List.map_nil]); first | done | rfl | (simp only [List.length_drop, List.length_take]; rfl)) ?_; (with_reducible refine (lineageref15_number.calls k (IntKind.u64.wrap (t174)) 4 t175 _ A4.out).mono ?_); rintro e w8 ⟨v176, rfl, ho0, hb⟩; refine ⟨_, rfl, ?_⟩; have n0_ := AM (Kd.R_elder' (by (with_reducible repeat (first | apply Kd.R_alloc | apply Kd.R_drewN | apply Kd.R_drew)); exact HO173.out) (Kd.R_base ho0) hb); have n1_ := AM (Kd.R_lower (Kd.R_new' ho0 (Kd.R_lt (by (with_reducible repeat (first | apply Kd.R_alloc | apply Kd.R_drewN | apply Kd.R_drew)); exact HO173.out))) (below_size (by repeat (first | (with_reducible first | exact HB.out | apply bA | apply bN | apply bD) | exact HB.out)))); have n2_ := AM (below_step (by repeat (first | (with_reducible first | exact HB.out | apply bA | apply bN | apply bD) | exact HB.out)) hb); clear HO173; clear HB; have HO173 := n0_; have HO177 := n1_; have HB := n2_; clear n0_ n1_ n2_; (try clear hb); (try clear hb2); (try clear hk); (try clear hi); (try clear ho0); obtain ⟨Ao10, co10, eo10⟩ := Kd.R_slice HO177.out; subst eo10) | ((with_reducible refine gate_builtin (b := .append) (xs := #[.tmp 7, .tmp 11]) rfl ?_); at_builtin; refine Kd.R_append_rows (Kd.int .u8) (w0 := w) w.heap.size rfl (.tmp 7) (.tmp 11) 29 5 (.int .u8 0) 1 rfl Try.underlying29 info5 rfl (by decide) (by omega) (.slice Ao7 t171.length co7) t171 t175 _ _ _ (fun k_ => some k_ ≠ (.slice Ao10 t175.length co10 : Value).ownBlock) (fun _ => False) rfl rfl ?aO ?aR (fun _ _ h => h) (fun _ h => h.elim) ?aF ?aB ?aS ?aL ?_; (case aR => repeat (first | exact (Kd.R_reads' HO177.out).2.2 | (with_reducible refine Kd.C_alloc ?_ _) | (with_reducible refine Kd.C_drewN ?_ _) | (with_reducible refine Kd.C_drew ?_))); (case aB => exact (by repeat (first | (with_reducible first | exact HB.out | apply bA | apply bN | apply bD) | exact HB.out))); (case aF => exact (fun k_ hk => Kd.fresh' (Kd.R_lt (by (with_reducible repeat (first | apply Kd.R_alloc | apply Kd.R_drewN | apply Kd.R_drew)); exact HO177.out)) k_ hk)); (case aO => exact (by (with_reducible repeat (first | apply Kd.R_alloc | apply Kd.R_drewN | apply Kd.R_drew)); exact Kd.R_mono HO173.out (fun _ hk => hk.2))); (case aS => exact (below_size (by repeat (first | (with_reducible first | exact HB.out | apply bA | apply bN | apply bD) | exact HB.out)))); (case aL => have := LMc5.out; omega); intro v179 w9 ho hb hg hat; rw [← Ny178.out] at ho; have n0_ := AM (Kd.R_after (ok := (fun _ => True)) (by (with_reducible repeat (first | apply Kd.R_alloc | apply Kd.R_drewN | apply Kd.R_drew)); exact HO177.out) hg hat); have n1_ := AM (hb); have n2_ := AM (ho); clear HO177; clear HB; clear HO173; have HO177 := n0_; have HB := n1_; have HO180 := n2_; clear n0_ n1_ n2_; clear ho hb hg hat))
  go_ret
  exact ⟨_, by first | rfl | (simp [errW_none, errW_some] <;> rfl) | (simp [*, errW_none, errW_some] <;> rfl), by (with_reducible repeat (first | apply Kd.R_alloc | apply Kd.R_drewN | apply Kd.R_drew)); exact Kd.R_mono HO180.out (fun _ hk => trivial), by repeat (first | (with_reducible first | exact HB.out | apply bA | apply bN | apply bD) | exact HB.out)⟩
 ·rw [if_neg c5] at H
  exact absurd H (by simp)
/-! ### lineageref15_slot: function 73 -/
def lineageref15_slot.f (k : Nat) (l0 : List Int) : Option (Int) := if 8 ≤ (l0.length : Int) then ((lineageref15_value.f k (l0.take 8)).bind fun t182 => (if t182 > 4611686018427387904 then (some (-1)) else ((lineageref15_Header.f k (wrap64 (t182))).bind fun t183 => ((lineageref13_Same.f k t183 l0).bind fun t186 => (if t186 = true then (some (wrap64 (t182))) else (some (-1))))))) else (none)
theorem lineageref15_slot.mono : ∀ a0 k, LeO (lineageref15_slot.f k a0) (lineageref15_slot.f (k + 1) a0) := by
 intro a0 k
 unfold lineageref15_slot.f
 repeat' first
   | (with_reducible exact lineageref13_Same.mono _ _ _)
   | (with_reducible exact lineageref15_Header.mono _ _)
   | (with_reducible exact lineageref15_value.mono _ _)
   | (with_reducible exact LeO.refl _)
   | (with_reducible exact LeO.none _)
   | (with_reducible refine LeO.ite ?_ ?_)
   | (with_reducible refine LeO.bind ?_ (fun _ => ?_))
   | exact lineageref13_Same.mono _ _ _
   | exact lineageref15_Header.mono _ _
   | exact lineageref15_value.mono _ _
   | exact LeO.none _
   | refine LeO.ite ?_ ?_
   | refine LeO.bind ?_ (fun _ => ?_)
set_option maxHeartbeats 8000000 in
set_option maxRecDepth 100000 in
theorem lineageref15_slot.calls (k : Nat) (A0 : Option Addr) (c0 : Nat) (l0 : List Int) (r : Int) (w : World) (hr0 : Kd.C (Kd.int .u8) w A0 l0.length l0) (hc0 : l0.length ≤ c0) (h : lineageref15_slot.f k l0 = some r) :
  Calls Try.prog 73 #[.slice A0 l0.length c0] w fun e w' => e = .returned (.int .i64 r) ∧ Below w.heap.size w w' := by
 have HR0 := AM hr0
 have HC0 := AM hc0
 clear hr0 hc0
 have HB := AM (Below.refl w.heap.size w)
 have H : (if 8 ≤ (l0.length : Int) then ((lineageref15_value.f k (l0.take 8)).bind fun t182 => (if t182 > 4611686018427387904 then (some (-1)) else ((lineageref15_Header.f k (wrap64 (t182))).bind fun t183 => ((lineageref13_Same.f k t183 l0).bind fun t186 => (if t186 = true then (some (wrap64 (t182))) else (some (-1))))))) else (none)) = some r := h
 clear h
 by_cases c2 : 8 ≤ (l0.length : Int)
 ·rw [if_pos c2] at H
  have c2b0 := eq_true c2
  have c2b1 : decide (8 ≤ (l0.length : Int)) = true := decide_eq_true c2
  clear c2
  replace H := Option.bind_eq_some_iff.mp H
  obtain ⟨t182, A30, H⟩ := H
  replace H : (if t182 > 4611686018427387904 then (some (-1)) else ((lineageref15_Header.f k (wrap64 (t182))).bind fun t183 => ((lineageref13_Same.f k t183 l0).bind fun t186 => (if t186 = true then (some (wrap64 (t182))) else (some (-1)))))) = some r := H
  have A3 := AM A30
  clear A30
  by_cases c4 : t182 > 4611686018427387904
  ·rw [if_pos c4] at H
   have c4b0 : decide (4611686018427387904 < t182) = true := decide_eq_true c4
   clear c4
   obtain rfl := Option.some.inj H
   obtain ⟨i05, hi05, _, hsz5, _⟩ := info_parts info5
   obtain ⟨hcut5, hA5, hC5⟩ := print_take_of (P := Try.prog) (Value.int .u8) 0 29 5 .i64 Try.underlying29 hi05 hsz5 A0 c0 l0 8 (by omega) (of_decide_eq_true (by first | (with_reducible assumption) | assumption)) HC0.out
   have HR181 := AM (Kd.C_of_reads (h1 := fun _ => rfl) (hA5 _ (Kd.reads_of_C HR0.out)))
   have HC181 := AM hC5
   clear hA5 hC5 hi05 hsz5
   go_enter Try.func73, Try.ntmps73
   go_wp2_with (first | ((with_reducible refine gate_callee (f := 74) rfl ?_); refine goesL_ (some 6) rfl rfl Try.func74 (by kernel_rfl) rfl #[.slice A0 (l0.take 8).length c0] rfl (by (try simp only [List.map_toArray, List.map_cons, List.map_nil]); first | done | (rw [show (l0.take 8).length = 8 from (by rw [List.length_take]; have h_ : (8 : Int) ≤ (l0.length : Int) := of_decide_eq_true (by first | (with_reducible assumption) | assumption); omega)] <;> rfl) | rfl | (simp only [List.length_drop, List.length_take]; rfl)) ?_; (with_reducible refine (lineageref15_value.calls k _ _ (l0.take 8) t182 _ ?side1 ?side2 A3.out).mono ?_); (case side1 => repeat (first | exact HR181.out | (with_reducible refine Kd.C_alloc ?_ _) | (with_reducible refine Kd.C_drewN ?_ _) | (with_reducible refine Kd.C_drew ?_))); (case side2 => exact HC181.out); rintro e w' ⟨rfl, ⟨nd, rfl⟩⟩; refine ⟨_, rfl, ?_⟩))
   go_ret
   exact ⟨by first | rfl | (simp [errW_none, errW_some] <;> rfl) | (simp [*, errW_none, errW_some] <;> rfl), by repeat (first | (with_reducible first | exact HB.out | apply bA | apply bN | apply bD) | exact HB.out)⟩
  ·rw [if_neg c4] at H
   have c4b0 : decide (4611686018427387904 < t182) = false := decide_eq_false c4
   clear c4
   replace H := Option.bind_eq_some_iff.mp H
   obtain ⟨t183, A60, H⟩ := H
   replace H : ((lineageref13_Same.f k t183 l0).bind fun t186 => (if t186 = true then (some (wrap64 (t182))) else (some (-1)))) = some r := H
   have A6 := AM A60
   clear A60
   replace H := Option.bind_eq_some_iff.mp H
   obtain ⟨t186, A70, H⟩ := H
   replace H : (if t186 = true then (some (wrap64 (t182))) else (some (-1))) = some r := H
   have A7 := AM A70
   clear A70
   by_cases c8 : t186 = true
   ·subst c8
    have H1 : (some (wrap64 (t182))) = some r := by rw [if_pos rfl] at H; exact H
    clear H
    have H := H1
    clear H1
    obtain rfl := Option.some.inj H
    obtain ⟨i09, hi09, _, hsz9, _⟩ := info_parts info5
    obtain ⟨hcut9, hA9, hC9⟩ := print_take_of (P := Try.prog) (Value.int .u8) 0 29 5 .i64 Try.underlying29 hi09 hsz9 A0 c0 l0 8 (by omega) (of_decide_eq_true (by first | (with_reducible assumption) | assumption)) HC0.out
    have HR181 := AM (Kd.C_of_reads (h1 := fun _ => rfl) (hA9 _ (Kd.reads_of_C HR0.out)))
    have HC181 := AM hC9
    clear hA9 hC9 hi09 hsz9
    go_enter Try.func73, Try.ntmps73
    go_wp2_with (first | ((with_reducible refine gate_callee (f := 74) rfl ?_); refine goesL_ (some 6) rfl rfl Try.func74 (by kernel_rfl) rfl #[.slice A0 (l0.take 8).length c0] rfl (by (try simp only [List.map_toArray, List.map_cons, List.map_nil]); first | done | (rw [show (l0.take 8).length = 8 from (by rw [List.length_take]; have h_ : (8 : Int) ≤ (l0.length : Int) := of_decide_eq_true (by first | (with_reducible assumption) | assumption); omega)] <;> rfl) | rfl | (simp only [List.length_drop, List.length_take]; rfl)) ?_; (with_reducible refine (lineageref15_value.calls k _ _ (l0.take 8) t182 _ ?side1 ?side2 A3.out).mono ?_); (case side1 => repeat (first | exact HR181.out | (with_reducible refine Kd.C_alloc ?_ _) | (with_reducible refine Kd.C_drewN ?_ _) | (with_reducible refine Kd.C_drew ?_))); (case side2 => exact HC181.out); rintro e w' ⟨rfl, ⟨nd, rfl⟩⟩; refine ⟨_, rfl, ?_⟩) | (go_at_call 78; (with_reducible refine (lineageref15_Header.calls k (wrap64 (t182)) t183 _ A6.out).mono ?_); rintro e w10 ⟨v184, rfl, ho0, hb⟩; have n0_ := AM (Kd.R_lower ho0 (below_size (by repeat (first | (with_reducible first | exact HB.out | apply bA | apply bN | apply bD) | exact HB.out)))); have n1_ := AM (below_step (by repeat (first | (with_reducible first | exact HB.out | apply bA | apply bN | apply bD) | exact HB.out)) hb); clear HB; have HO185 := n0_; have HB := n1_; clear n0_ n1_; (try clear hb); (try clear hb2); (try clear hk); (try clear hi); (try clear ho0); obtain ⟨Ao11, co11, eo11⟩ := Kd.R_slice HO185.out; subst eo11) | (go_at_call 23; (with_reducible refine (lineageref13_Same.calls k _ _ t183 _ _ l0 true _ ?side1 ?side2 ?side3 ?side4 A7.out).mono ?_); (case side1 => repeat (first | exact (Kd.R_reads' HO185.out).2.2 | (with_reducible refine Kd.C_alloc ?_ _) | (with_reducible refine Kd.C_drewN ?_ _) | (with_reducible refine Kd.C_drew ?_))); (case side2 => exact (Kd.R_reads' HO185.out).2.1); (case side3 => repeat (first | exact (Kd.C_below HR0.out HB.out) | (with_reducible refine Kd.C_alloc ?_ _) | (with_reducible refine Kd.C_drewN ?_ _) | (with_reducible refine Kd.C_drew ?_))); (case side4 => exact HC0.out); rintro e w' ⟨rfl, ⟨nd, rfl⟩⟩))
    go_ret
    exact ⟨by first | rfl | (simp [errW_none, errW_some] <;> rfl) | (simp [*, errW_none, errW_some] <;> rfl), by repeat (first | (with_reducible first | exact HB.out | apply bA | apply bN | apply bD) | exact HB.out)⟩
   ·replace c8 := Bool.eq_false_iff.mpr c8
    subst c8
    have H1 : (some (-1)) = some r := by rw [if_neg (show ¬ (false = true) by decide)] at H; exact H
    clear H
    have H := H1
    clear H1
    obtain rfl := Option.some.inj H
    obtain ⟨i012, hi012, _, hsz12, _⟩ := info_parts info5
    obtain ⟨hcut12, hA12, hC12⟩ := print_take_of (P := Try.prog) (Value.int .u8) 0 29 5 .i64 Try.underlying29 hi012 hsz12 A0 c0 l0 8 (by omega) (of_decide_eq_true (by first | (with_reducible assumption) | assumption)) HC0.out
    have HR181 := AM (Kd.C_of_reads (h1 := fun _ => rfl) (hA12 _ (Kd.reads_of_C HR0.out)))
    have HC181 := AM hC12
    clear hA12 hC12 hi012 hsz12
    go_enter Try.func73, Try.ntmps73
    go_wp2_with (first | ((with_reducible refine gate_callee (f := 74) rfl ?_); refine goesL_ (some 6) rfl rfl Try.func74 (by kernel_rfl) rfl #[.slice A0 (l0.take 8).length c0] rfl (by (try simp only [List.map_toArray, List.map_cons, List.map_nil]); first | done | (rw [show (l0.take 8).length = 8 from (by rw [List.length_take]; have h_ : (8 : Int) ≤ (l0.length : Int) := of_decide_eq_true (by first | (with_reducible assumption) | assumption); omega)] <;> rfl) | rfl | (simp only [List.length_drop, List.length_take]; rfl)) ?_; (with_reducible refine (lineageref15_value.calls k _ _ (l0.take 8) t182 _ ?side1 ?side2 A3.out).mono ?_); (case side1 => repeat (first | exact HR181.out | (with_reducible refine Kd.C_alloc ?_ _) | (with_reducible refine Kd.C_drewN ?_ _) | (with_reducible refine Kd.C_drew ?_))); (case side2 => exact HC181.out); rintro e w' ⟨rfl, ⟨nd, rfl⟩⟩; refine ⟨_, rfl, ?_⟩) | (go_at_call 78; (with_reducible refine (lineageref15_Header.calls k (wrap64 (t182)) t183 _ A6.out).mono ?_); rintro e w13 ⟨v184, rfl, ho0, hb⟩; have n0_ := AM (Kd.R_lower ho0 (below_size (by repeat (first | (with_reducible first | exact HB.out | apply bA | apply bN | apply bD) | exact HB.out)))); have n1_ := AM (below_step (by repeat (first | (with_reducible first | exact HB.out | apply bA | apply bN | apply bD) | exact HB.out)) hb); clear HB; have HO185 := n0_; have HB := n1_; clear n0_ n1_; (try clear hb); (try clear hb2); (try clear hk); (try clear hi); (try clear ho0); obtain ⟨Ao14, co14, eo14⟩ := Kd.R_slice HO185.out; subst eo14) | (go_at_call 23; (with_reducible refine (lineageref13_Same.calls k _ _ t183 _ _ l0 false _ ?side1 ?side2 ?side3 ?side4 A7.out).mono ?_); (case side1 => repeat (first | exact (Kd.R_reads' HO185.out).2.2 | (with_reducible refine Kd.C_alloc ?_ _) | (with_reducible refine Kd.C_drewN ?_ _) | (with_reducible refine Kd.C_drew ?_))); (case side2 => exact (Kd.R_reads' HO185.out).2.1); (case side3 => repeat (first | exact (Kd.C_below HR0.out HB.out) | (with_reducible refine Kd.C_alloc ?_ _) | (with_reducible refine Kd.C_drewN ?_ _) | (with_reducible refine Kd.C_drew ?_))); (case side4 => exact HC0.out); rintro e w' ⟨rfl, ⟨nd, rfl⟩⟩))
    go_ret
    exact ⟨by first | rfl | (simp [errW_none, errW_some] <;> rfl) | (simp [*, errW_none, errW_some] <;> rfl), by repeat (first | (with_reducible first | exact HB.out | apply bA | apply bN | apply bD) | exact HB.out)⟩
 ·rw [if_neg c2] at H
  exact absurd H (by simp)
end Go.Proofs.Ytbbokpkpdnppjaa.G
