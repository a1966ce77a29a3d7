-- PRINTED by print.py (a twelfth state) out of the translation. Not trusted: Lean checks it.
import Derived.Test.YtnineihfjbbmpaaGreatDoorPx0
namespace Go.Proofs.YtnineihfjbbmpaaGreatDoor.P
open Go.RowKit Go.Proofs.YtnineihfjbbmpaaGreatDoorW.PrintWords Go.Proofs.YtnineihfjbbmpaaGreatDoorW.PrintLast Go.Proofs.YtnineihfjbbmpaaGreatDoorW.PrintMore
attribute [local go_sem] max2_int min2_int max_two min_two max_three min_three max_four min_four   -- for this text's walks alone
set_option linter.unusedVariables false
set_option linter.unusedSimpArgs false

/-! ### lineageref59_Decode: function 11 -/
mutual
def lineageref59_Decode.j1 : Nat → List Int → Int → Option (ByteArray × ByteArray × Int × Int)
  | 0, _, _ => none
  | k + 1, x0, x5 => if 0 ≤ x5 then (if x5 ≤ (x0.length : Int) then (if x5 > 16 then (lineageref59_Decode.j2 k x0 x5 (strOfNums (x0.take (x5 : Int).toNat)) true) else (if x5 = 0 then (lineageref59_Decode.j2 k x0 x5 (strOfNums (x0.take (x5 : Int).toNat)) (decide ((x0.length : Int) > 0))) else (lineageref59_Decode.j2 k x0 x5 (strOfNums (x0.take (x5 : Int).toNat)) false))) else (none)) else (none)
def lineageref59_Decode.j2 : Nat → List Int → Int → ByteArray → Bool → Option (ByteArray × ByteArray × Int × Int)
  | 0, _, _, _, _ => none
  | k + 1, x0, x5, x6, x43 => if x43 = true then (some ((⟨#[]⟩ : ByteArray), (⟨#[]⟩ : ByteArray), 0, 3)) else (if x5 = (x0.length : Int) then (some ((⟨#[]⟩ : ByteArray), (⟨#[]⟩ : ByteArray), 0, 9)) else (if 0 ≤ x5 then (if x5 < (x0.length : Int) then (if (rd x0 x5) = 32 then (lineageref59_Decode.l1 k x0 (wrap64 (x5 + 1)) x6 (wrap64 (x5 + 1)) 0) else (some ((⟨#[]⟩ : ByteArray), (⟨#[]⟩ : ByteArray), 0, 3))) else (none)) else (none)))
def lineageref59_Decode.l1 : Nat → List Int → Int → ByteArray → Int → Int → Option (ByteArray × ByteArray × Int × Int)
  | 0, _, _, _, _, _ => none
  | k + 1, x0, x5, x6, x7, x8 => if x5 < (x0.length : Int) then (if 0 ≤ x5 then (if (rd x0 x5) ≥ 48 then (lineageref59_Decode.j4 k x0 x5 x6 x7 x8 (decide ((rd x0 x5) ≤ 57))) else (lineageref59_Decode.j4 k x0 x5 x6 x7 x8 false)) else (none)) else (lineageref59_Decode.j4 k x0 x5 x6 x7 x8 false)
def lineageref59_Decode.j4 : Nat → List Int → Int → ByteArray → Int → Int → Bool → Option (ByteArray × ByteArray × Int × Int)
  | 0, _, _, _, _, _, _ => none
  | k + 1, x0, x5, x6, x7, x8, x76 => if x76 = true then (if x5 > x7 then (if 0 ≤ x7 then (if x7 < (x0.length : Int) then (lineageref59_Decode.j5 k x0 x5 x6 x7 x8 ((rd x0 x7) == 48)) else (none)) else (none)) else (lineageref59_Decode.j5 k x0 x5 x6 x7 x8 false)) else (if x5 = (x0.length : Int) then (some ((⟨#[]⟩ : ByteArray), (⟨#[]⟩ : ByteArray), 0, 9)) else (if x5 = x7 then (lineageref59_Decode.j6 k x0 x5 x6 x8 true) else (if 0 ≤ x5 then (if x5 < (x0.length : Int) then (lineageref59_Decode.j6 k x0 x5 x6 x8 ((rd x0 x5) != 10)) else (none)) else (none))))
def lineageref59_Decode.j5 : Nat → List Int → Int → ByteArray → Int → Int → Bool → Option (ByteArray × ByteArray × Int × Int)
  | 0, _, _, _, _, _, _ => none
  | k + 1, x0, x5, x6, x7, x8, x86 => if x86 = true then (some ((⟨#[]⟩ : ByteArray), (⟨#[]⟩ : ByteArray), 0, 3)) else (if 0 ≤ x5 then (if x5 < (x0.length : Int) then (if (wrap64 ((wrap64 (10 * x8)) + (((rd x0 x5) - 48) % 256))) > 1048576 then (some ((⟨#[]⟩ : ByteArray), (⟨#[]⟩ : ByteArray), 0, 3)) else (lineageref59_Decode.l1 k x0 (wrap64 (x5 + 1)) x6 x7 (wrap64 ((wrap64 (10 * x8)) + (((rd x0 x5) - 48) % 256))))) else (none)) else (none))
def lineageref59_Decode.j6 : Nat → List Int → Int → ByteArray → Int → Bool → Option (ByteArray × ByteArray × Int × Int)
  | 0, _, _, _, _, _ => none
  | k + 1, x0, x5, x6, x8, x116 => if x116 = true then (some ((⟨#[]⟩ : ByteArray), (⟨#[]⟩ : ByteArray), 0, 3)) else (if (wrap64 ((x0.length : Int) - (wrap64 (x5 + 1)))) < x8 then (some ((⟨#[]⟩ : ByteArray), (⟨#[]⟩ : ByteArray), 0, 9)) else (if 0 ≤ (wrap64 (x5 + 1)) then (if (wrap64 (x5 + 1)) ≤ (wrap64 ((wrap64 (x5 + 1)) + x8)) then (if (wrap64 ((wrap64 (x5 + 1)) + x8)) ≤ (x0.length : Int) then (some (x6, strOfNums ((x0.take ((wrap64 ((wrap64 (x5 + 1)) + x8)) : Int).toNat).drop ((wrap64 (x5 + 1)) : Int).toNat), wrap64 ((wrap64 (x5 + 1)) + x8), 0)) else (none)) else (none)) else (none)))
def lineageref59_Decode.l0 : Nat → List Int → Int → Option (ByteArray × ByteArray × Int × Int)
  | 0, _, _ => none
  | k + 1, x0, x5 => if x5 < (x0.length : Int) then (if 0 ≤ x5 then (if (rd x0 x5) ≥ 65 then (if (rd x0 x5) ≤ 90 then (lineageref59_Decode.l0 k x0 (wrap64 (x5 + 1))) else (lineageref59_Decode.j1 k x0 x5)) else (lineageref59_Decode.j1 k x0 x5)) else (none)) else (lineageref59_Decode.j1 k x0 x5)
end
def lineageref59_Decode.f (k : Nat) (l0 : List Int) : Option (ByteArray × ByteArray × Int × Int) := lineageref59_Decode.l0 k l0 0
theorem lineageref59_Decode.mono_l : ∀ k, (∀ y0 y1, LeO (lineageref59_Decode.j1 k y0 y1) (lineageref59_Decode.j1 (k + 1) y0 y1)) ∧ (∀ y0 y1 y2 y3, LeO (lineageref59_Decode.j2 k y0 y1 y2 y3) (lineageref59_Decode.j2 (k + 1) y0 y1 y2 y3)) ∧ (∀ y0 y1 y2 y3 y4, LeO (lineageref59_Decode.l1 k y0 y1 y2 y3 y4) (lineageref59_Decode.l1 (k + 1) y0 y1 y2 y3 y4)) ∧ (∀ y0 y1 y2 y3 y4 y5, LeO (lineageref59_Decode.j4 k y0 y1 y2 y3 y4 y5) (lineageref59_Decode.j4 (k + 1) y0 y1 y2 y3 y4 y5)) ∧ (∀ y0 y1 y2 y3 y4 y5, LeO (lineageref59_Decode.j5 k y0 y1 y2 y3 y4 y5) (lineageref59_Decode.j5 (k + 1) y0 y1 y2 y3 y4 y5)) ∧ (∀ y0 y1 y2 y3 y4, LeO (lineageref59_Decode.j6 k y0 y1 y2 y3 y4) (lineageref59_Decode.j6 (k + 1) y0 y1 y2 y3 y4)) ∧ (∀ y0 y1, LeO (lineageref59_Decode.l0 k y0 y1) (lineageref59_Decode.l0 (k + 1) y0 y1))
  | 0 => ⟨fun _ _ r h => by simp [lineageref59_Decode.j1] at h, fun _ _ _ _ r h => by simp [lineageref59_Decode.j2] at h, fun _ _ _ _ _ r h => by simp [lineageref59_Decode.l1] at h, fun _ _ _ _ _ _ r h => by simp [lineageref59_Decode.j4] at h, fun _ _ _ _ _ _ r h => by simp [lineageref59_Decode.j5] at h, fun _ _ _ _ _ r h => by simp [lineageref59_Decode.j6] at h, fun _ _ r h => by simp [lineageref59_Decode.l0] at h⟩
  | k + 1 => by
    obtain ⟨ih0, ih1, ih2, ih3, ih4, ih5, ih6⟩ := lineageref59_Decode.mono_l k
    refine ⟨?_, ?_, ?_, ?_, ?_, ?_, ?_⟩
    · intro y0 y1
      unfold lineageref59_Decode.j1
      repeat' first
      | (with_reducible exact ih0 _ _)
      | (with_reducible exact ih1 _ _ _ _)
      | (with_reducible exact ih2 _ _ _ _ _)
      | (with_reducible exact ih3 _ _ _ _ _ _)
      | (with_reducible exact ih4 _ _ _ _ _ _)
      | (with_reducible exact ih5 _ _ _ _ _)
      | (with_reducible exact ih6 _ _)
      | (with_reducible exact LeO.refl _)
      | (with_reducible exact LeO.none _)
      | (with_reducible refine LeO.ite ?_ ?_)
      | (with_reducible refine LeO.bind ?_ (fun _ => ?_))
      | exact ih0 _ _
      | exact ih1 _ _ _ _
      | exact ih2 _ _ _ _ _
      | exact ih3 _ _ _ _ _ _
      | exact ih4 _ _ _ _ _ _
      | exact ih5 _ _ _ _ _
      | exact ih6 _ _
      | exact LeO.none _
      | refine LeO.ite ?_ ?_
      | refine LeO.bind ?_ (fun _ => ?_)
    · intro y0 y1 y2 y3
      unfold lineageref59_Decode.j2
      repeat' first
      | (with_reducible exact ih0 _ _)
      | (with_reducible exact ih1 _ _ _ _)
      | (with_reducible exact ih2 _ _ _ _ _)
      | (with_reducible exact ih3 _ _ _ _ _ _)
      | (with_reducible exact ih4 _ _ _ _ _ _)
      | (with_reducible exact ih5 _ _ _ _ _)
      | (with_reducible exact ih6 _ _)
      | (with_reducible exact LeO.refl _)
      | (with_reducible exact LeO.none _)
      | (with_reducible refine LeO.ite ?_ ?_)
      | (with_reducible refine LeO.bind ?_ (fun _ => ?_))
      | exact ih0 _ _
      | exact ih1 _ _ _ _
      | exact ih2 _ _ _ _ _
      | exact ih3 _ _ _ _ _ _
      | exact ih4 _ _ _ _ _ _
      | exact ih5 _ _ _ _ _
      | exact ih6 _ _
      | exact LeO.none _
      | refine LeO.ite ?_ ?_
      | refine LeO.bind ?_ (fun _ => ?_)
    · intro y0 y1 y2 y3 y4
      unfold lineageref59_Decode.l1
      repeat' first
      | (with_reducible exact ih0 _ _)
      | (with_reducible exact ih1 _ _ _ _)
      | (with_reducible exact ih2 _ _ _ _ _)
      | (with_reducible exact ih3 _ _ _ _ _ _)
      | (with_reducible exact ih4 _ _ _ _ _ _)
      | (with_reducible exact ih5 _ _ _ _ _)
      | (with_reducible exact ih6 _ _)
      | (with_reducible exact LeO.refl _)
      | (with_reducible exact LeO.none _)
      | (with_reducible refine LeO.ite ?_ ?_)
      | (with_reducible refine LeO.bind ?_ (fun _ => ?_))
      | exact ih0 _ _
      | exact ih1 _ _ _ _
      | exact ih2 _ _ _ _ _
      | exact ih3 _ _ _ _ _ _
      | exact ih4 _ _ _ _ _ _
      | exact ih5 _ _ _ _ _
      | exact ih6 _ _
      | exact LeO.none _
      | refine LeO.ite ?_ ?_
      | refine LeO.bind ?_ (fun _ => ?_)
    · intro y0 y1 y2 y3 y4 y5
      unfold lineageref59_Decode.j4
      repeat' first
      | (with_reducible exact ih0 _ _)
      | (with_reducible exact ih1 _ _ _ _)
      | (with_reducible exact ih2 _ _ _ _ _)
      | (with_reducible exact ih3 _ _ _ _ _ _)
      | (with_reducible exact ih4 _ _ _ _ _ _)
      | (with_reducible exact ih5 _ _ _ _ _)
      | (with_reducible exact ih6 _ _)
      | (with_reducible exact LeO.refl _)
      | (with_reducible exact LeO.none _)
      | (with_reducible refine LeO.ite ?_ ?_)
      | (with_reducible refine LeO.bind ?_ (fun _ => ?_))
      | exact ih0 _ _
      | exact ih1 _ _ _ _
      | exact ih2 _ _ _ _ _
      | exact ih3 _ _ _ _ _ _
      | exact ih4 _ _ _ _ _ _
      | exact ih5 _ _ _ _ _
      | exact ih6 _ _
      | exact LeO.none _
      | refine LeO.ite ?_ ?_
      | refine LeO.bind ?_ (fun _ => ?_)
    · intro y0 y1 y2 y3 y4 y5
      unfold lineageref59_Decode.j5
      repeat' first
      | (with_reducible exact ih0 _ _)
      | (with_reducible exact ih1 _ _ _ _)
      | (with_reducible exact ih2 _ _ _ _ _)
      | (with_reducible exact ih3 _ _ _ _ _ _)
      | (with_reducible exact ih4 _ _ _ _ _ _)
      | (with_reducible exact ih5 _ _ _ _ _)
      | (with_reducible exact ih6 _ _)
      | (with_reducible exact LeO.refl _)
      | (with_reducible exact LeO.none _)
      | (with_reducible refine LeO.ite ?_ ?_)
      | (with_reducible refine LeO.bind ?_ (fun _ => ?_))
      | exact ih0 _ _
      | exact ih1 _ _ _ _
      | exact ih2 _ _ _ _ _
      | exact ih3 _ _ _ _ _ _
      | exact ih4 _ _ _ _ _ _
      | exact ih5 _ _ _ _ _
      | exact ih6 _ _
      | exact LeO.none _
      | refine LeO.ite ?_ ?_
      | refine LeO.bind ?_ (fun _ => ?_)
    · intro y0 y1 y2 y3 y4
      unfold lineageref59_Decode.j6
      repeat' first
      | (with_reducible exact ih0 _ _)
      | (with_reducible exact ih1 _ _ _ _)
      | (with_reducible exact ih2 _ _ _ _ _)
      | (with_reducible exact ih3 _ _ _ _ _ _)
      | (with_reducible exact ih4 _ _ _ _ _ _)
      | (with_reducible exact ih5 _ _ _ _ _)
      | (with_reducible exact ih6 _ _)
      | (with_reducible exact LeO.refl _)
      | (with_reducible exact LeO.none _)
      | (with_reducible refine LeO.ite ?_ ?_)
      | (with_reducible refine LeO.bind ?_ (fun _ => ?_))
      | exact ih0 _ _
      | exact ih1 _ _ _ _
      | exact ih2 _ _ _ _ _
      | exact ih3 _ _ _ _ _ _
      | exact ih4 _ _ _ _ _ _
      | exact ih5 _ _ _ _ _
      | exact ih6 _ _
      | exact LeO.none _
      | refine LeO.ite ?_ ?_
      | refine LeO.bind ?_ (fun _ => ?_)
    · intro y0 y1
      unfold lineageref59_Decode.l0
      repeat' first
      | (with_reducible exact ih0 _ _)
      | (with_reducible exact ih1 _ _ _ _)
      | (with_reducible exact ih2 _ _ _ _ _)
      | (with_reducible exact ih3 _ _ _ _ _ _)
      | (with_reducible exact ih4 _ _ _ _ _ _)
      | (with_reducible exact ih5 _ _ _ _ _)
      | (with_reducible exact ih6 _ _)
      | (with_reducible exact LeO.refl _)
      | (with_reducible exact LeO.none _)
      | (with_reducible refine LeO.ite ?_ ?_)
      | (with_reducible refine LeO.bind ?_ (fun _ => ?_))
      | exact ih0 _ _
      | exact ih1 _ _ _ _
      | exact ih2 _ _ _ _ _
      | exact ih3 _ _ _ _ _ _
      | exact ih4 _ _ _ _ _ _
      | exact ih5 _ _ _ _ _
      | exact ih6 _ _
      | exact LeO.none _
      | refine LeO.ite ?_ ?_
      | refine LeO.bind ?_ (fun _ => ?_)
theorem lineageref59_Decode.mono : ∀ a0 k, LeO (lineageref59_Decode.f k a0) (lineageref59_Decode.f (k + 1) a0) := by
  intro a0 k
  obtain ⟨ih0, ih1, ih2, ih3, ih4, ih5, ih6⟩ := lineageref59_Decode.mono_l k
  unfold lineageref59_Decode.f
  repeat' first
      | (with_reducible exact ih0 _ _)
      | (with_reducible exact ih1 _ _ _ _)
      | (with_reducible exact ih2 _ _ _ _ _)
      | (with_reducible exact ih3 _ _ _ _ _ _)
      | (with_reducible exact ih4 _ _ _ _ _ _)
      | (with_reducible exact ih5 _ _ _ _ _)
      | (with_reducible exact ih6 _ _)
      | (with_reducible exact LeO.refl _)
      | (with_reducible exact LeO.none _)
      | (with_reducible refine LeO.ite ?_ ?_)
      | (with_reducible refine LeO.bind ?_ (fun _ => ?_))
      | exact ih0 _ _
      | exact ih1 _ _ _ _
      | exact ih2 _ _ _ _ _
      | exact ih3 _ _ _ _ _ _
      | exact ih4 _ _ _ _ _ _
      | exact ih5 _ _ _ _ _
      | exact ih6 _ _
      | exact LeO.none _
      | refine LeO.ite ?_ ?_
      | refine LeO.bind ?_ (fun _ => ?_)
set_option maxHeartbeats 8000000 in
set_option maxRecDepth 100000 in
theorem lineageref59_Decode.calls (k : Nat) (A0 : Option Addr) (c0 : Nat) (l0 : List Int) (r1 : ByteArray) (r2 : ByteArray) (r3 : Int) (r4 : Int) (w : World) (hr0 : Kd.C (Kd.int .u8) w A0 l0.length l0) (hc0 : l0.length ≤ c0) (h : lineageref59_Decode.f k l0 = some (r1, r2, r3, r4)) :
    Calls Tryz.prog 11 #[.slice A0 l0.length c0] w fun e w' => e = .returned (.tuple #[.agg #[.string r1, .string r2], .int .i64 r3, .int .i64 r4]) ∧ Below w.heap.size w w' := by
  have hu23 := Tryz.underlying23
  have HR0 := Aside0.mk hr0
  have HC0 := Aside0.mk hc0
  clear hr0 hc0
  have HB := Aside0.mk (Below.refl w.heap.size w)
  have H : (lineageref59_Decode.l0 k l0 0) = some (r1, r2, r3, r4) := h
  clear h
  have HC2 := Aside0.mk H
  clear H
  go_enter Tryz.func11, Tryz.ntmps11
  go_upto_block 0 with (first | ((with_reducible refine gate_dst (N := 2) rfl ?_); (try (refine gate_guard (by rfl) ?_; dsimp only)); refine box_event ?hg (N := 2) ?hd (cs := #[.string (⟨#[]⟩ : ByteArray), .string (⟨#[]⟩ : ByteArray)]) (t := 23) ?hr ?_; (case hd => rfl); (case hg => rfl); (case hr => first | (go_simp; done) | (go_simp; rfl)); intro gb162 hg w3 hbox hb; have n0_ := Aside0.mk (below_step (by repeat (first | (with_reducible first | exact HB.out | apply below_alloc | apply pw_below_drewN | apply below_drew1) | exact HB.out)) hb); have n1_ := Aside0.mk (hbox); have n2_ := Aside0.mk ((by rw [hg]; exact (below_size (by repeat (first | (with_reducible first | exact HB.out | apply below_alloc | apply pw_below_drewN | apply below_drew1) | exact HB.out))) : w.heap.size ≤ gb162)); have n3_ := Aside0.mk ((by rw [hg]; exact (below_size (by repeat (first | (with_reducible first | exact HB.out | apply below_alloc | apply pw_below_drewN | apply below_drew1) | exact HB.out))) : w.heap.size ≤ gb162)); clear HB; have HB := n0_; have BK162 := n1_; have GW162 := n2_; have GE162 := n3_; clear n0_ n1_ n2_ n3_; clear hb hbox hg))
  (try simp only [Act.put, List.setIfInBounds_toArray, List.set_cons_zero, List.set_cons_succ])
  go_cut [5] (fun v5 wc => ∃ (kq : Nat) (x5_1 : Int), v5 = .int .i64 x5_1 ∧ Aside0 (lineageref59_Decode.j1 kq l0 x5_1 = some (r1, r2, r3, r4)) ∧ Aside0 (kq ≤ k) ∧ Aside0 (wc.heap[gb162]? = some (.cells #[.string (⟨#[]⟩ : ByteArray), .string (⟨#[]⟩ : ByteArray)] 23 (0, 0))) ∧ Aside0 (Below w.heap.size w wc))
  case first =>
    have H := HC2.out
    clear HC2
    have H' := Aside0.mk H
    clear H
    go_wp2
    go_loopg [5] k (fun kq v5 w' => ∃ (x5_1 : Int), v5 = .int .i64 x5_1 ∧ Aside0 (lineageref59_Decode.l0 kq l0 x5_1 = some (r1, r2, r3, r4)) ∧ Aside0 (kq ≤ k) ∧ Aside0 (w'.heap[gb162]? = some (.cells #[.string (⟨#[]⟩ : ByteArray), .string (⟨#[]⟩ : ByteArray)] 23 (0, 0))) ∧ Aside0 (Below w.heap.size w w'))
    case atStart => exact ⟨(0), (by first | rfl | (simp; done) | (simp [*]; done)), H', ⟨Nat.le_refl _⟩, ⟨by (with_reducible repeat (first | refine blk_drewN ?_ _ | refine blk_drew ?_ | refine blk_alloc ?_ _)); exact BK162.out⟩, ⟨by repeat (first | (with_reducible first | exact HB.out | apply below_alloc | apply pw_below_drewN | apply below_drew1 | refine below_set ?_ GE162.out) | exact HB.out)⟩⟩
    case round =>
      clear H'
      try clear c1
      try clear p2
      obtain ⟨x5_1, rfl, HA, HK1, BK162, HB⟩ := hrel
      cases gk with
      | zero => exact absurd HA.out (by simp [lineageref59_Decode.l0])
      | succ k1 =>
        have H := HA.out
        clear HA
        simp only [lineageref59_Decode.l0] at H
        by_cases c4 : x5_1 < (l0.length : Int)
        · rw [if_pos c4] at H
          have c4b0 : decide (x5_1 < (l0.length : Int)) = true := decide_eq_true c4
          clear c4
          (first | rw [c4b0] | (simp only [i64_w, i32_w]; rw [c4b0]) | skip)
          by_cases c5 : 0 ≤ x5_1
          · rw [if_pos c5] at H
            have c5b0 : decide (0 ≤ x5_1) = true := decide_eq_true c5
            clear c5
            by_cases c6 : (rd l0 x5_1) ≥ 65
            · rw [if_pos c6] at H
              have c6b0 : decide (65 ≤ (rd l0 x5_1)) = true := decide_eq_true c6
              clear c6
              by_cases c7 : (rd l0 x5_1) ≤ 90
              · rw [if_pos c7] at H
                have c7b0 : decide ((rd l0 x5_1) ≤ 90) = true := decide_eq_true c7
                clear c7
                have H' := Aside0.mk H
                clear H
                have p163 : 0 ≤ (x5_1 : Int) := of_decide_eq_true (by first | (with_reducible assumption) | assumption)
                have q163 : x5_1 < (l0.length : Int) := of_decide_eq_true (by first | (with_reducible assumption) | assumption)
                obtain ⟨ad163, e163, hx163_0⟩ := Kd.at_int HR0.out x5_1 p163 q163
                cases e163
                replace hx163_0 := (HB.out.cell (World.block_lt_of_cell? w _ hx163_0)).trans hx163_0
                replace p163 := eq_true p163
                replace q163 := eq_true q163
                have p164 : 0 ≤ (x5_1 : Int) := of_decide_eq_true (by first | (with_reducible assumption) | assumption)
                have q164 : x5_1 < (l0.length : Int) := of_decide_eq_true (by first | (with_reducible assumption) | assumption)
                obtain ⟨ad164, e164, hx164_0⟩ := Kd.at_int HR0.out x5_1 p164 q164
                obtain rfl : ad163 = ad164 := (by injection e164)
                replace hx164_0 := (HB.out.cell (World.block_lt_of_cell? w _ hx164_0)).trans hx164_0
                replace p164 := eq_true p164
                replace q164 := eq_true q164
                go_wp2
                go_roundg k1
                case measure => have := HK1.out; omega
                case rel => exact ⟨(wrap64 (x5_1 + 1)), (by first | rfl | (simp; done) | (simp [*]; done)), H', ⟨by have := HK1.out; omega⟩, ⟨by (with_reducible repeat (first | refine blk_drewN ?_ _ | refine blk_drew ?_ | refine blk_alloc ?_ _)); exact BK162.out⟩, ⟨by repeat (first | (with_reducible first | exact HB.out | apply below_alloc | apply pw_below_drewN | apply below_drew1 | refine below_set ?_ GE162.out) | exact HB.out)⟩⟩
              · rw [if_neg c7] at H
                have c7b0 : decide ((rd l0 x5_1) ≤ 90) = false := decide_eq_false c7
                clear c7
                have H' := Aside0.mk H
                clear H
                have p163 : 0 ≤ (x5_1 : Int) := of_decide_eq_true (by first | (with_reducible assumption) | assumption)
                have q163 : x5_1 < (l0.length : Int) := of_decide_eq_true (by first | (with_reducible assumption) | assumption)
                obtain ⟨ad163, e163, hx163_0⟩ := Kd.at_int HR0.out x5_1 p163 q163
                cases e163
                replace hx163_0 := (HB.out.cell (World.block_lt_of_cell? w _ hx163_0)).trans hx163_0
                replace p163 := eq_true p163
                replace q163 := eq_true q163
                have p164 : 0 ≤ (x5_1 : Int) := of_decide_eq_true (by first | (with_reducible assumption) | assumption)
                have q164 : x5_1 < (l0.length : Int) := of_decide_eq_true (by first | (with_reducible assumption) | assumption)
                obtain ⟨ad164, e164, hx164_0⟩ := Kd.at_int HR0.out x5_1 p164 q164
                obtain rfl : ad163 = ad164 := (by injection e164)
                replace hx164_0 := (HB.out.cell (World.block_lt_of_cell? w _ hx164_0)).trans hx164_0
                replace p164 := eq_true p164
                replace q164 := eq_true q164
                go_wp2
                go_meet
                case rel => exact ⟨_, (x5_1), (by first | rfl | (simp; done) | (simp [*]; done)), H', ⟨by have := HK1.out; first | omega | exact Nat.le_refl _⟩, ⟨by (with_reducible repeat (first | refine blk_drewN ?_ _ | refine blk_drew ?_ | refine blk_alloc ?_ _)); exact BK162.out⟩, ⟨by repeat (first | (with_reducible first | exact HB.out | apply below_alloc | apply pw_below_drewN | apply below_drew1 | refine below_set ?_ GE162.out) | exact HB.out)⟩⟩
            · rw [if_neg c6] at H
              have c6b0 : decide (65 ≤ (rd l0 x5_1)) = false := decide_eq_false c6
              clear c6
              have H' := Aside0.mk H
              clear H
              have p163 : 0 ≤ (x5_1 : Int) := of_decide_eq_true (by first | (with_reducible assumption) | assumption)
              have q163 : x5_1 < (l0.length : Int) := of_decide_eq_true (by first | (with_reducible assumption) | assumption)
              obtain ⟨ad163, e163, hx163_0⟩ := Kd.at_int HR0.out x5_1 p163 q163
              cases e163
              replace hx163_0 := (HB.out.cell (World.block_lt_of_cell? w _ hx163_0)).trans hx163_0
              replace p163 := eq_true p163
              replace q163 := eq_true q163
              go_wp2
              go_meet
              case rel => exact ⟨_, (x5_1), (by first | rfl | (simp; done) | (simp [*]; done)), H', ⟨by have := HK1.out; first | omega | exact Nat.le_refl _⟩, ⟨by (with_reducible repeat (first | refine blk_drewN ?_ _ | refine blk_drew ?_ | refine blk_alloc ?_ _)); exact BK162.out⟩, ⟨by repeat (first | (with_reducible first | exact HB.out | apply below_alloc | apply pw_below_drewN | apply below_drew1 | refine below_set ?_ GE162.out) | exact HB.out)⟩⟩
          · rw [if_neg c5] at H
            exact absurd H (by simp)
        · rw [if_neg c4] at H
          have c4b0 : decide (x5_1 < (l0.length : Int)) = false := decide_eq_false c4
          clear c4
          (first | rw [c4b0] | (simp only [i64_w, i32_w]; rw [c4b0]) | skip)
          have H' := Aside0.mk H
          clear H
          go_wp2
          go_meet
          case rel => exact ⟨_, (x5_1), (by first | rfl | (simp; done) | (simp [*]; done)), H', ⟨by have := HK1.out; first | omega | exact Nat.le_refl _⟩, ⟨by (with_reducible repeat (first | refine blk_drewN ?_ _ | refine blk_drew ?_ | refine blk_alloc ?_ _)); exact BK162.out⟩, ⟨by repeat (first | (with_reducible first | exact HB.out | apply below_alloc | apply pw_below_drewN | apply below_drew1 | refine below_set ?_ GE162.out) | exact HB.out)⟩⟩
  case rest =>
    clear HC2
    try clear c1
    try clear p1
    try clear q1
    try clear hx1
    try clear p2
    try clear c4
    try clear c4b0
    try clear c5
    try clear c5b0
    try clear c6
    try clear c6b0
    try clear p6
    try clear c7
    try clear c7b0
    try clear hx163_0
    try clear hx164_0
    try clear p163
    try clear p164
    try clear p2
    try clear q163
    try clear q164
    obtain ⟨kq, x5_1, rfl, HA, HJ1, BK162, HB⟩ := hcut
    cases kq with
    | zero => exact absurd HA.out (by simp [lineageref59_Decode.j1])
    | succ kj1 =>
      have H := HA.out
      clear HA
      simp only [lineageref59_Decode.j1] at H
      by_cases c8 : 0 ≤ x5_1
      · rw [if_pos c8] at H
        have c8b0 := eq_true c8
        have c8b1 : decide (0 ≤ x5_1) = true := decide_eq_true c8
        clear c8
        by_cases c9 : x5_1 ≤ (l0.length : Int)
        · rw [if_pos c9] at H
          have c9b0 := eq_true c9
          have c9b1 : decide (x5_1 ≤ (l0.length : Int)) = true := decide_eq_true c9
          clear c9
          have HC10 := Aside0.mk H
          clear H
          obtain ⟨i011, hi011, _, hsz11, _⟩ := info_parts info5
          obtain ⟨hcut11, hA11, hC11⟩ := print_take_of (P := Tryz.prog) (Value.int .u8) 0 24 5 .i64 Tryz.underlying24 hi011 hsz11 A0 c0 l0 x5_1 (of_decide_eq_true (by first | (with_reducible assumption) | assumption)) (of_decide_eq_true (by first | (with_reducible assumption) | assumption)) HC0.out
          have HR165 := Aside0.mk (Kd.C_of_reads (h1 := fun _ => rfl) (hA11 _ (Kd.reads_of_C HR0.out)))
          have HC165 := Aside0.mk hC11
          clear hA11 hC11 hi011 hsz11
          have hcv12 := Kd.C_string (P := Tryz.prog) (A := A0) (c := c0) Tryz.underlying24 Tryz.underlying5 Tryz.underlying9 (Kd.C_below HR165.out HB.out)
          rw [show (l0.take x5_1.toNat).length = x5_1.toNat from by have h1_ := of_decide_eq_true c8b1; have h2_ := of_decide_eq_true c9b1; rw [List.length_take]; omega] at hcv12
          go_upto_region 5 with (fail)
          go_cut [43] (fun v43 wc => ∃ (kq : Nat) (x43_9 : Bool), v43 = .bool x43_9 ∧ Aside0 (lineageref59_Decode.j2 kq l0 x5_1 (strOfNums (l0.take (x5_1 : Int).toNat)) x43_9 = some (r1, r2, r3, r4)) ∧ Aside0 (kq ≤ kj1) ∧ Aside0 (wc.heap[gb162]? = some (.cells #[.string (⟨#[]⟩ : ByteArray), .string (⟨#[]⟩ : ByteArray)] 23 (0, 0))) ∧ Aside0 (Below w.heap.size w wc))
          case first =>
            have H := HC10.out
            clear HC10
            by_cases c13 : x5_1 > 16
            · rw [if_pos c13] at H
              have c13b0 : decide (16 < x5_1) = true := decide_eq_true c13
              clear c13
              (first | rw [c13b0] | (simp only [i64_w, i32_w]; rw [c13b0]) | skip)
              have H' := Aside0.mk H
              clear H
              go_wp2
              go_meet
              case rel => exact ⟨_, (true), (by first | rfl | (simp; done) | (simp [*]; done)), H', ⟨by have := HJ1.out; first | omega | exact Nat.le_refl _⟩, ⟨by (with_reducible repeat (first | refine blk_drewN ?_ _ | refine blk_drew ?_ | refine blk_alloc ?_ _)); exact BK162.out⟩, ⟨by repeat (first | (with_reducible first | exact HB.out | apply below_alloc | apply pw_below_drewN | apply below_drew1 | refine below_set ?_ GE162.out) | exact HB.out)⟩⟩
            · rw [if_neg c13] at H
              have c13b0 : decide (16 < x5_1) = false := decide_eq_false c13
              clear c13
              (first | rw [c13b0] | (simp only [i64_w, i32_w]; rw [c13b0]) | skip)
              by_cases c14 : x5_1 = 0
              · rw [if_pos c14] at H
                have c14b0 : (x5_1 == 0) = true := beq_iff_eq.mpr c14
                have c14b1 : (x5_1 != 0) = false := bne_eq_false_iff_eq.mpr c14
                clear c14
                have H' := Aside0.mk H
                clear H
                go_wp2
                go_meet
                case rel => exact ⟨_, (decide ((l0.length : Int) > 0)), (by first | rfl | (simp; done) | (simp [*]; done)), H', ⟨by have := HJ1.out; first | omega | exact Nat.le_refl _⟩, ⟨by (with_reducible repeat (first | refine blk_drewN ?_ _ | refine blk_drew ?_ | refine blk_alloc ?_ _)); exact BK162.out⟩, ⟨by repeat (first | (with_reducible first | exact HB.out | apply below_alloc | apply pw_below_drewN | apply below_drew1 | refine below_set ?_ GE162.out) | exact HB.out)⟩⟩
              · rw [if_neg c14] at H
                have c14b0 : (x5_1 == 0) = false := beq_eq_false_iff_ne.mpr c14
                have c14b1 : (x5_1 != 0) = true := bne_iff_ne.mpr c14
                have H' := Aside0.mk H
                clear H
                go_wp2
                go_meet
                case rel => exact ⟨_, (false), (by first | rfl | (simp; done) | (simp [*]; done)), H', ⟨by have := HJ1.out; first | omega | exact Nat.le_refl _⟩, ⟨by (with_reducible repeat (first | refine blk_drewN ?_ _ | refine blk_drew ?_ | refine blk_alloc ?_ _)); exact BK162.out⟩, ⟨by repeat (first | (with_reducible first | exact HB.out | apply below_alloc | apply pw_below_drewN | apply below_drew1 | refine below_set ?_ GE162.out) | exact HB.out)⟩⟩
          case rest =>
            clear HC10
            try clear c1
            try clear p1
            try clear q1
            try clear hx1
            try clear hcv1
            try clear p2
            try clear c4
            try clear c4b0
            try clear c5
            try clear c5b0
            try clear c6
            try clear c6b0
            try clear p6
            try clear c7
            try clear c7b0
            try clear c8
            try clear c8b0
            try clear c8b1
            try clear c9
            try clear c9b0
            try clear c9b1
            try clear c11
            try clear hcv12
            try clear c13
            try clear c13b0
            try clear c14
            try clear c14b0
            try clear c14b1
            try clear hx163_0
            try clear hx164_0
            try clear p1
            try clear p163
            try clear p164
            try clear p2
            try clear p6
            try clear q1
            try clear q163
            try clear q164
            obtain ⟨kq, x43_9, rfl, HA, HJ9, BK162, HB⟩ := hcut
            cases kq with
            | zero => exact absurd HA.out (by simp [lineageref59_Decode.j2])
            | succ kj9 =>
              have H := HA.out
              clear HA
              simp only [lineageref59_Decode.j2] at H
              by_cases c15 : x43_9 = true
              · subst c15
                have H1 : (some ((⟨#[]⟩ : ByteArray), (⟨#[]⟩ : ByteArray), 0, 3)) = some (r1, r2, r3, r4) := by rw [if_pos rfl] at H; exact H
                clear H
                have H := H1
                clear H1
                simp only [Option.some.injEq, Prod.mk.injEq] at H
                obtain ⟨rfl, rfl, rfl, rfl⟩ := H
                have hcz16_0 : wc.cell? ⟨gb162, 0, none⟩ = some (.string (⟨#[]⟩ : ByteArray)) := (blk_cell BK162.out 0).trans rfl
                have hcz16_1 : wc.cell? ⟨gb162, 1, none⟩ = some (.string (⟨#[]⟩ : ByteArray)) := (blk_cell BK162.out 1).trans rfl
                have hfz16_0 := blk_frozen BK162.out 0
                have hfz16_1 := blk_frozen BK162.out 1
                go_wp2
                refine bodyPost_ret (results_ctt rfl _ _ gb162 23 #[.string (⟨#[]⟩ : ByteArray), .string (⟨#[]⟩ : ByteArray)] (0, 0) _ rfl (by (with_reducible repeat (first | refine blk_drewN ?_ _ | refine blk_drew ?_ | refine blk_alloc ?_ _)); refine blk_put (cs := #[.string (⟨#[]⟩ : ByteArray), .string (⟨#[]⟩ : ByteArray)]) ?_ 1 _ rfl; (with_reducible repeat (first | refine blk_drewN ?_ _ | refine blk_drew ?_ | refine blk_alloc ?_ _)); refine blk_put (cs := #[.string (⟨#[]⟩ : ByteArray), .string (⟨#[]⟩ : ByteArray)]) ?_ 0 _ rfl; (with_reducible repeat (first | refine blk_drewN ?_ _ | refine blk_drew ?_ | refine blk_alloc ?_ _)); exact BK162.out) Tryz.underlying23 rfl (by kernel_rfl)) rfl ?_
                exact ⟨by first | rfl | (simp [errW_none, errW_some] <;> rfl) | (simp [*, errW_none, errW_some] <;> rfl), by repeat (first | (with_reducible first | exact HB.out | apply below_alloc | apply pw_below_drewN | apply below_drew1 | refine below_set ?_ GE162.out) | exact HB.out)⟩
              · replace c15 := Bool.eq_false_iff.mpr c15
                subst c15
                have H1 : (if x5_1 = (l0.length : Int) then (some ((⟨#[]⟩ : ByteArray), (⟨#[]⟩ : ByteArray), 0, 9)) else (if 0 ≤ x5_1 then (if x5_1 < (l0.length : Int) then (if (rd l0 x5_1) = 32 then (lineageref59_Decode.l1 kj9 l0 (wrap64 (x5_1 + 1)) (strOfNums (l0.take (x5_1 : Int).toNat)) (wrap64 (x5_1 + 1)) 0) else (some ((⟨#[]⟩ : ByteArray), (⟨#[]⟩ : ByteArray), 0, 3))) else (none)) else (none))) = some (r1, r2, r3, r4) := by rw [if_neg (show ¬ (false = true) by decide)] at H; exact H
                clear H
                have H := H1
                clear H1
                by_cases c17 : x5_1 = (l0.length : Int)
                · rw [if_pos c17] at H
                  have c17b0 : (x5_1 == (l0.length : Int)) = true := beq_iff_eq.mpr c17
                  have c17b1 : (x5_1 != (l0.length : Int)) = false := bne_eq_false_iff_eq.mpr c17
                  clear c17
                  simp only [Option.some.injEq, Prod.mk.injEq] at H
                  obtain ⟨rfl, rfl, rfl, rfl⟩ := H
                  have hcz18_0 : wc.cell? ⟨gb162, 0, none⟩ = some (.string (⟨#[]⟩ : ByteArray)) := (blk_cell BK162.out 0).trans rfl
                  have hcz18_1 : wc.cell? ⟨gb162, 1, none⟩ = some (.string (⟨#[]⟩ : ByteArray)) := (blk_cell BK162.out 1).trans rfl
                  have hfz18_0 := blk_frozen BK162.out 0
                  have hfz18_1 := blk_frozen BK162.out 1
                  go_wp2
                  refine bodyPost_ret (results_ctt rfl _ _ gb162 23 #[.string (⟨#[]⟩ : ByteArray), .string (⟨#[]⟩ : ByteArray)] (0, 0) _ rfl (by (with_reducible repeat (first | refine blk_drewN ?_ _ | refine blk_drew ?_ | refine blk_alloc ?_ _)); refine blk_put (cs := #[.string (⟨#[]⟩ : ByteArray), .string (⟨#[]⟩ : ByteArray)]) ?_ 1 _ rfl; (with_reducible repeat (first | refine blk_drewN ?_ _ | refine blk_drew ?_ | refine blk_alloc ?_ _)); refine blk_put (cs := #[.string (⟨#[]⟩ : ByteArray), .string (⟨#[]⟩ : ByteArray)]) ?_ 0 _ rfl; (with_reducible repeat (first | refine blk_drewN ?_ _ | refine blk_drew ?_ | refine blk_alloc ?_ _)); exact BK162.out) Tryz.underlying23 rfl (by kernel_rfl)) rfl ?_
                  exact ⟨by first | rfl | (simp [errW_none, errW_some] <;> rfl) | (simp [*, errW_none, errW_some] <;> rfl), by repeat (first | (with_reducible first | exact HB.out | apply below_alloc | apply pw_below_drewN | apply below_drew1 | refine below_set ?_ GE162.out) | exact HB.out)⟩
                · rw [if_neg c17] at H
                  have c17b0 : (x5_1 == (l0.length : Int)) = false := beq_eq_false_iff_ne.mpr c17
                  have c17b1 : (x5_1 != (l0.length : Int)) = true := bne_iff_ne.mpr c17
                  by_cases c19 : 0 ≤ x5_1
                  · rw [if_pos c19] at H
                    have c19b0 : decide (0 ≤ x5_1) = true := decide_eq_true c19
                    clear c19
                    by_cases c20 : x5_1 < (l0.length : Int)
                    · rw [if_pos c20] at H
                      have c20b0 : decide (x5_1 < (l0.length : Int)) = true := decide_eq_true c20
                      clear c20
                      by_cases c21 : (rd l0 x5_1) = 32
                      · rw [if_pos c21] at H
                        have c21b0 : ((rd l0 x5_1) == 32) = true := beq_iff_eq.mpr c21
                        have c21b1 : ((rd l0 x5_1) != 32) = false := bne_eq_false_iff_eq.mpr c21
                        clear c21
                        have H' := Aside0.mk H
                        clear H
                        have p166 : 0 ≤ (x5_1 : Int) := of_decide_eq_true (by first | (with_reducible assumption) | assumption)
                        have q166 : x5_1 < (l0.length : Int) := of_decide_eq_true (by first | (with_reducible assumption) | assumption)
                        obtain ⟨ad166, e166, hx166_0⟩ := Kd.at_int HR0.out x5_1 p166 q166
                        cases e166
                        replace hx166_0 := (HB.out.cell (World.block_lt_of_cell? w _ hx166_0)).trans hx166_0
                        replace p166 := eq_true p166
                        replace q166 := eq_true q166
                        go_wp2
                        go_loopg [5, 8] kj9 (fun kq v5 v8 w' => ∃ (x5_3 : Int) (x8_3 : Int) (x163000_3 : ByteArray) (x163001_3 : ByteArray), v5 = .int .i64 x5_3 ∧ v8 = .int .i64 x8_3 ∧ Aside0 (lineageref59_Decode.l1 kq l0 x5_3 (strOfNums (l0.take (x5_1 : Int).toNat)) (wrap64 (x5_1 + 1)) x8_3 = some (r1, r2, r3, r4)) ∧ Aside0 (kq ≤ kj9) ∧ Aside0 (w'.heap[gb162]? = some (.cells #[.string x163000_3, .string x163001_3] 23 (0, 0))) ∧ Aside0 (Below w.heap.size w w'))
                        case atStart => exact ⟨(wrap64 (x5_1 + 1)), (0), ((⟨#[]⟩ : ByteArray)), ((⟨#[]⟩ : ByteArray)), (by first | rfl | (simp; done) | (simp [*]; done)), (by first | rfl | (simp; done) | (simp [*]; done)), H', ⟨Nat.le_refl _⟩, ⟨by (with_reducible repeat (first | refine blk_drewN ?_ _ | refine blk_drew ?_ | refine blk_alloc ?_ _)); exact BK162.out⟩, ⟨by repeat (first | (with_reducible first | exact HB.out | apply below_alloc | apply pw_below_drewN | apply below_drew1 | refine below_set ?_ GE162.out) | exact HB.out)⟩⟩
                        case round =>
                          clear H'
                          try clear c1
                          try clear p1
                          try clear q1
                          try clear hx1
                          try clear hcv1
                          try clear c2
                          try clear p2
                          try clear c4
                          try clear c4b0
                          try clear c5
                          try clear c5b0
                          try clear c6
                          try clear c6b0
                          try clear p6
                          try clear c7
                          try clear c7b0
                          try clear c8
                          try clear c8b0
                          try clear c8b1
                          try clear c9
                          try clear c9b0
                          try clear c9b1
                          try clear c11
                          try clear hcv12
                          try clear c13
                          try clear c13b0
                          try clear c14
                          try clear c14b0
                          try clear c14b1
                          try clear c15
                          try clear p16
                          try clear q16
                          try clear hx16
                          try clear c17
                          try clear c17b0
                          try clear c17b1
                          try clear c19
                          try clear c19b0
                          try clear c20
                          try clear c20b0
                          try clear c21
                          try clear c21b0
                          try clear c21b1
                          try clear hcz16_0
                          try clear hcz16_1
                          try clear hcz18_0
                          try clear hcz18_1
                          try clear hfz16_0
                          try clear hfz16_1
                          try clear hfz18_0
                          try clear hfz18_1
                          try clear hx163_0
                          try clear hx164_0
                          try clear hx166_0
                          try clear p1
                          try clear p163
                          try clear p164
                          try clear p166
                          try clear p2
                          try clear p6
                          try clear q1
                          try clear q163
                          try clear q164
                          try clear q166
                          obtain ⟨x5_3, x8_3, x163000_3, x163001_3, rfl, rfl, HA, HK3, BK162, HB⟩ := hrel
                          cases gk with
                          | zero => exact absurd HA.out (by simp [lineageref59_Decode.l1])
                          | succ k3 =>
                            have H := HA.out
                            clear HA
                            simp only [lineageref59_Decode.l1] at H
                            have HC22 := Aside0.mk H
                            clear H
                            go_upto_region 13 with (fail)
                            go_cut [76] (fun v76 wc => ∃ (kq : Nat) (x76_21 : Bool), v76 = .bool x76_21 ∧ Aside0 (lineageref59_Decode.j4 kq l0 x5_3 (strOfNums (l0.take (x5_1 : Int).toNat)) (wrap64 (x5_1 + 1)) x8_3 x76_21 = some (r1, r2, r3, r4)) ∧ Aside0 (kq ≤ k3) ∧ Aside0 (wc.heap[gb162]? = some (.cells #[.string x163000_3, .string x163001_3] 23 (0, 0))) ∧ Aside0 (Below w.heap.size w wc))
                            case first =>
                              have H := HC22.out
                              clear HC22
                              by_cases c23 : x5_3 < (l0.length : Int)
                              · rw [if_pos c23] at H
                                have c23b0 : decide (x5_3 < (l0.length : Int)) = true := decide_eq_true c23
                                clear c23
                                (first | rw [c23b0] | (simp only [i64_w, i32_w]; rw [c23b0]) | skip)
                                by_cases c24 : 0 ≤ x5_3
                                · rw [if_pos c24] at H
                                  have c24b0 : decide (0 ≤ x5_3) = true := decide_eq_true c24
                                  clear c24
                                  by_cases c25 : (rd l0 x5_3) ≥ 48
                                  · rw [if_pos c25] at H
                                    have c25b0 : decide (48 ≤ (rd l0 x5_3)) = true := decide_eq_true c25
                                    clear c25
                                    have H' := Aside0.mk H
                                    clear H
                                    have p167 : 0 ≤ (x5_3 : Int) := of_decide_eq_true (by first | (with_reducible assumption) | assumption)
                                    have q167 : x5_3 < (l0.length : Int) := of_decide_eq_true (by first | (with_reducible assumption) | assumption)
                                    obtain ⟨ad167, e167, hx167_0⟩ := Kd.at_int HR0.out x5_3 p167 q167
                                    obtain rfl : ad166 = ad167 := (by injection e167)
                                    replace hx167_0 := (HB.out.cell (World.block_lt_of_cell? w _ hx167_0)).trans hx167_0
                                    replace p167 := eq_true p167
                                    replace q167 := eq_true q167
                                    have p168 : 0 ≤ (x5_3 : Int) := of_decide_eq_true (by first | (with_reducible assumption) | assumption)
                                    have q168 : x5_3 < (l0.length : Int) := of_decide_eq_true (by first | (with_reducible assumption) | assumption)
                                    obtain ⟨ad168, e168, hx168_0⟩ := Kd.at_int HR0.out x5_3 p168 q168
                                    obtain rfl : ad166 = ad168 := (by injection e168)
                                    replace hx168_0 := (HB.out.cell (World.block_lt_of_cell? w _ hx168_0)).trans hx168_0
                                    replace p168 := eq_true p168
                                    replace q168 := eq_true q168
                                    go_wp2
                                    go_meet
                                    case rel => exact ⟨_, (decide ((rd l0 x5_3) ≤ 57)), (by first | rfl | (simp; done) | (simp [*]; done)), H', ⟨by have := HJ1.out; have := HJ9.out; have := HK3.out; first | omega | exact Nat.le_refl _⟩, ⟨by (with_reducible repeat (first | refine blk_drewN ?_ _ | refine blk_drew ?_ | refine blk_alloc ?_ _)); exact BK162.out⟩, ⟨by repeat (first | (with_reducible first | exact HB.out | apply below_alloc | apply pw_below_drewN | apply below_drew1 | refine below_set ?_ GE162.out) | exact HB.out)⟩⟩
                                  · rw [if_neg c25] at H
                                    have c25b0 : decide (48 ≤ (rd l0 x5_3)) = false := decide_eq_false c25
                                    clear c25
                                    have H' := Aside0.mk H
                                    clear H
                                    have p167 : 0 ≤ (x5_3 : Int) := of_decide_eq_true (by first | (with_reducible assumption) | assumption)
                                    have q167 : x5_3 < (l0.length : Int) := of_decide_eq_true (by first | (with_reducible assumption) | assumption)
                                    obtain ⟨ad167, e167, hx167_0⟩ := Kd.at_int HR0.out x5_3 p167 q167
                                    obtain rfl : ad166 = ad167 := (by injection e167)
                                    replace hx167_0 := (HB.out.cell (World.block_lt_of_cell? w _ hx167_0)).trans hx167_0
                                    replace p167 := eq_true p167
                                    replace q167 := eq_true q167
                                    go_wp2
                                    go_meet
                                    case rel => exact ⟨_, (false), (by first | rfl | (simp; done) | (simp [*]; done)), H', ⟨by have := HJ1.out; have := HJ9.out; have := HK3.out; first | omega | exact Nat.le_refl _⟩, ⟨by (with_reducible repeat (first | refine blk_drewN ?_ _ | refine blk_drew ?_ | refine blk_alloc ?_ _)); exact BK162.out⟩, ⟨by repeat (first | (with_reducible first | exact HB.out | apply below_alloc | apply pw_below_drewN | apply below_drew1 | refine below_set ?_ GE162.out) | exact HB.out)⟩⟩
                                · rw [if_neg c24] at H
                                  exact absurd H (by simp)
                              · rw [if_neg c23] at H
                                have c23b0 : decide (x5_3 < (l0.length : Int)) = false := decide_eq_false c23
                                clear c23
                                (first | rw [c23b0] | (simp only [i64_w, i32_w]; rw [c23b0]) | skip)
                                have H' := Aside0.mk H
                                clear H
                                go_wp2
                                go_meet
                                case rel => exact ⟨_, (false), (by first | rfl | (simp; done) | (simp [*]; done)), H', ⟨by have := HJ1.out; have := HJ9.out; have := HK3.out; first | omega | exact Nat.le_refl _⟩, ⟨by (with_reducible repeat (first | refine blk_drewN ?_ _ | refine blk_drew ?_ | refine blk_alloc ?_ _)); exact BK162.out⟩, ⟨by repeat (first | (with_reducible first | exact HB.out | apply below_alloc | apply pw_below_drewN | apply below_drew1 | refine below_set ?_ GE162.out) | exact HB.out)⟩⟩
                            case rest =>
                              clear HC22
                              try clear c1
                              try clear p1
                              try clear q1
                              try clear hx1
                              try clear hcv1
                              try clear c2
                              try clear p2
                              try clear c4
                              try clear c4b0
                              try clear c5
                              try clear c5b0
                              try clear c6
                              try clear c6b0
                              try clear p6
                              try clear c7
                              try clear c7b0
                              try clear c8
                              try clear c8b0
                              try clear c8b1
                              try clear c9
                              try clear c9b0
                              try clear c9b1
                              try clear c11
                              try clear hcv12
                              try clear c13
                              try clear c13b0
                              try clear c14
                              try clear c14b0
                              try clear c14b1
                              try clear c15
                              try clear p16
                              try clear q16
                              try clear hx16
                              try clear c17
                              try clear c17b0
                              try clear c17b1
                              try clear c19
                              try clear c19b0
                              try clear c20
                              try clear c20b0
                              try clear c21
                              try clear c21b0
                              try clear c21b1
                              try clear c23
                              try clear c23b0
                              try clear c24
                              try clear c24b0
                              try clear c25
                              try clear c25b0
                              try clear hcz16_0
                              try clear hcz16_1
                              try clear hcz18_0
                              try clear hcz18_1
                              try clear hfz16_0
                              try clear hfz16_1
                              try clear hfz18_0
                              try clear hfz18_1
                              try clear hx163_0
                              try clear hx164_0
                              try clear hx166_0
                              try clear hx167_0
                              try clear hx168_0
                              try clear p1
                              try clear p16
                              try clear p163
                              try clear p164
                              try clear p166
                              try clear p167
                              try clear p168
                              try clear p2
                              try clear p6
                              try clear q1
                              try clear q16
                              try clear q163
                              try clear q164
                              try clear q166
                              try clear q167
                              try clear q168
                              obtain ⟨kq, x76_21, rfl, HA, HJ21, BK162, HB⟩ := hcut
                              cases kq with
                              | zero => exact absurd HA.out (by simp [lineageref59_Decode.j4])
                              | succ kj21 =>
                                have H := HA.out
                                clear HA
                                simp only [lineageref59_Decode.j4] at H
                                by_cases c26 : x76_21 = true
                                · subst c26
                                  have H1 : (if x5_3 > (wrap64 (x5_1 + 1)) then (if 0 ≤ (wrap64 (x5_1 + 1)) then (if (wrap64 (x5_1 + 1)) < (l0.length : Int) then (lineageref59_Decode.j5 kj21 l0 x5_3 (strOfNums (l0.take (x5_1 : Int).toNat)) (wrap64 (x5_1 + 1)) x8_3 ((rd l0 (wrap64 (x5_1 + 1))) == 48)) else (none)) else (none)) else (lineageref59_Decode.j5 kj21 l0 x5_3 (strOfNums (l0.take (x5_1 : Int).toNat)) (wrap64 (x5_1 + 1)) x8_3 false)) = some (r1, r2, r3, r4) := by rw [if_pos rfl] at H; exact H
                                  clear H
                                  have H := H1
                                  clear H1
                                  have HC27 := Aside0.mk H
                                  clear H
                                  go_upto_region 14 with (fail)
                                  go_cut [86] (fun v86 wc => ∃ (kq : Nat) (x86_26 : Bool), v86 = .bool x86_26 ∧ Aside0 (lineageref59_Decode.j5 kq l0 x5_3 (strOfNums (l0.take (x5_1 : Int).toNat)) (wrap64 (x5_1 + 1)) x8_3 x86_26 = some (r1, r2, r3, r4)) ∧ Aside0 (kq ≤ kj21) ∧ Aside0 (wc.heap[gb162]? = some (.cells #[.string x163000_3, .string x163001_3] 23 (0, 0))) ∧ Aside0 (Below w.heap.size w wc))
                                  case first =>
                                    have H := HC27.out
                                    clear HC27
                                    by_cases c28 : x5_3 > (wrap64 (x5_1 + 1))
                                    · rw [if_pos c28] at H
                                      have c28b0 : decide ((wrap64 (x5_1 + 1)) < x5_3) = true := decide_eq_true c28
                                      clear c28
                                      (first | rw [c28b0] | (simp only [i64_w, i32_w]; rw [c28b0]) | skip)
                                      obtain ⟨ji29, hji29⟩ : ∃ j_ : Int, (wrap64 (x5_1 + 1)) = j_ := ⟨_, rfl⟩
                                      replace H : (if 0 ≤ (ji29) then (if (ji29) < (l0.length : Int) then (lineageref59_Decode.j5 kj21 l0 x5_3 (strOfNums (l0.take (x5_1 : Int).toNat)) (ji29) x8_3 ((rd l0 (ji29)) == 48)) else (none)) else (none)) = some (r1, r2, r3, r4) := by first | (rw [hji29] at H; exact H) | (simp only [hji29] at H ⊢; exact H)
                                      (try rw [hji29] at c28b0)
                                      have hji29w : (IntKind.i64.wrap (x5_1 + 1)) = ji29 := (i64_w _).trans hji29
                                      by_cases c30 : 0 ≤ (ji29)
                                      · rw [if_pos c30] at H
                                        have c30b0 : decide (0 ≤ (ji29)) = true := decide_eq_true c30
                                        clear c30
                                        by_cases c31 : (ji29) < (l0.length : Int)
                                        · rw [if_pos c31] at H
                                          have c31b0 : decide ((ji29) < (l0.length : Int)) = true := decide_eq_true c31
                                          clear c31
                                          have H' := Aside0.mk H
                                          clear H
                                          have p169 : 0 ≤ ((ji29) : Int) := of_decide_eq_true (by first | (with_reducible assumption) | assumption)
                                          have q169 : (ji29) < (l0.length : Int) := of_decide_eq_true (by first | (with_reducible assumption) | assumption)
                                          obtain ⟨ad169, e169, hx169_0⟩ := Kd.at_int HR0.out (ji29) p169 q169
                                          obtain rfl : ad166 = ad169 := (by injection e169)
                                          replace hx169_0 := (HB.out.cell (World.block_lt_of_cell? w _ hx169_0)).trans hx169_0
                                          replace p169 := eq_true p169
                                          replace q169 := eq_true q169
                                          go_wp2
                                          subst hji29
                                          go_meet
                                          case rel => exact ⟨_, (((rd l0 (wrap64 (x5_1 + 1))) == 48)), (by first | rfl | (simp; done) | (simp only [← hwrap64 (x5_1 + 1)] <;> (first | rfl | simp)) | (simp [*]; done)), H', ⟨by have := HJ1.out; have := HJ9.out; have := HK3.out; have := HJ21.out; first | omega | exact Nat.le_refl _⟩, ⟨by (with_reducible repeat (first | refine blk_drewN ?_ _ | refine blk_drew ?_ | refine blk_alloc ?_ _)); exact BK162.out⟩, ⟨by repeat (first | (with_reducible first | exact HB.out | apply below_alloc | apply pw_below_drewN | apply below_drew1 | refine below_set ?_ GE162.out) | exact HB.out)⟩⟩
                                        · rw [if_neg c31] at H
                                          exact absurd H (by simp)
                                      · rw [if_neg c30] at H
                                        exact absurd H (by simp)
                                    · rw [if_neg c28] at H
                                      have c28b0 : decide ((wrap64 (x5_1 + 1)) < x5_3) = false := decide_eq_false c28
                                      clear c28
                                      (first | rw [c28b0] | (simp only [i64_w, i32_w]; rw [c28b0]) | skip)
                                      have H' := Aside0.mk H
                                      clear H
                                      go_wp2
                                      go_meet
                                      case rel => exact ⟨_, (false), (by first | rfl | (simp; done) | (simp [*]; done)), H', ⟨by have := HJ1.out; have := HJ9.out; have := HK3.out; have := HJ21.out; first | omega | exact Nat.le_refl _⟩, ⟨by (with_reducible repeat (first | refine blk_drewN ?_ _ | refine blk_drew ?_ | refine blk_alloc ?_ _)); exact BK162.out⟩, ⟨by repeat (first | (with_reducible first | exact HB.out | apply below_alloc | apply pw_below_drewN | apply below_drew1 | refine below_set ?_ GE162.out) | exact HB.out)⟩⟩
                                  case rest =>
                                    clear HC27
                                    try clear c1
                                    try clear p1
                                    try clear q1
                                    try clear hx1
                                    try clear hcv1
                                    try clear c2
                                    try clear p2
                                    try clear c3
                                    try clear c4
                                    try clear c4b0
                                    try clear c5
                                    try clear c5b0
                                    try clear c6
                                    try clear c6b0
                                    try clear p6
                                    try clear c7
                                    try clear c7b0
                                    try clear c8
                                    try clear c8b0
                                    try clear c8b1
                                    try clear c9
                                    try clear c9b0
                                    try clear c9b1
                                    try clear c11
                                    try clear hcv12
                                    try clear c13
                                    try clear c13b0
                                    try clear c14
                                    try clear c14b0
                                    try clear c14b1
                                    try clear c15
                                    try clear p16
                                    try clear q16
                                    try clear hx16
                                    try clear c17
                                    try clear c17b0
                                    try clear c17b1
                                    try clear c19
                                    try clear c19b0
                                    try clear c20
                                    try clear c20b0
                                    try clear c21
                                    try clear c21b0
                                    try clear c21b1
                                    try clear c23
                                    try clear c23b0
                                    try clear c24
                                    try clear c24b0
                                    try clear c25
                                    try clear c25b0
                                    try clear c26
                                    try clear c28
                                    try clear c28b0
                                    try clear c30
                                    try clear c30b0
                                    try clear c31
                                    try clear c31b0
                                    try clear hcz16_0
                                    try clear hcz16_1
                                    try clear hcz18_0
                                    try clear hcz18_1
                                    try clear hfz16_0
                                    try clear hfz16_1
                                    try clear hfz18_0
                                    try clear hfz18_1
                                    try clear hx163_0
                                    try clear hx164_0
                                    try clear hx166_0
                                    try clear hx167_0
                                    try clear hx168_0
                                    try clear hx169_0
                                    try clear p1
                                    try clear p16
                                    try clear p163
                                    try clear p164
                                    try clear p166
                                    try clear p167
                                    try clear p168
                                    try clear p169
                                    try clear p2
                                    try clear p6
                                    try clear q1
                                    try clear q16
                                    try clear q163
                                    try clear q164
                                    try clear q166
                                    try clear q167
                                    try clear q168
                                    try clear q169
                                    obtain ⟨kq, x86_26, rfl, HA, HJ26, BK162, HB⟩ := hcut
                                    cases kq with
                                    | zero => exact absurd HA.out (by simp [lineageref59_Decode.j5])
                                    | succ kj26 =>
                                      have H := HA.out
                                      clear HA
                                      simp only [lineageref59_Decode.j5] at H
                                      by_cases c32 : x86_26 = true
                                      · subst c32
                                        have H1 : (some ((⟨#[]⟩ : ByteArray), (⟨#[]⟩ : ByteArray), 0, 3)) = some (r1, r2, r3, r4) := by rw [if_pos rfl] at H; exact H
                                        clear H
                                        have H := H1
                                        clear H1
                                        simp only [Option.some.injEq, Prod.mk.injEq] at H
                                        obtain ⟨rfl, rfl, rfl, rfl⟩ := H
                                        have hcz33_0 : wc.cell? ⟨gb162, 0, none⟩ = some (.string x163000_3) := (blk_cell BK162.out 0).trans rfl
                                        have hcz33_1 : wc.cell? ⟨gb162, 1, none⟩ = some (.string x163001_3) := (blk_cell BK162.out 1).trans rfl
                                        have hfz33_0 := blk_frozen BK162.out 0
                                        have hfz33_1 := blk_frozen BK162.out 1
                                        go_wp2
                                        refine bodyPost_ret (results_ctt rfl _ _ gb162 23 #[.string (⟨#[]⟩ : ByteArray), .string (⟨#[]⟩ : ByteArray)] (0, 0) _ rfl (by (with_reducible repeat (first | refine blk_drewN ?_ _ | refine blk_drew ?_ | refine blk_alloc ?_ _)); refine blk_put (cs := #[.string (⟨#[]⟩ : ByteArray), .string x163001_3]) ?_ 1 _ rfl; (with_reducible repeat (first | refine blk_drewN ?_ _ | refine blk_drew ?_ | refine blk_alloc ?_ _)); refine blk_put (cs := #[.string x163000_3, .string x163001_3]) ?_ 0 _ rfl; (with_reducible repeat (first | refine blk_drewN ?_ _ | refine blk_drew ?_ | refine blk_alloc ?_ _)); exact BK162.out) Tryz.underlying23 rfl (by kernel_rfl)) rfl ?_
                                        exact ⟨by first | rfl | (simp [errW_none, errW_some] <;> rfl) | (simp [*, errW_none, errW_some] <;> rfl), by repeat (first | (with_reducible first | exact HB.out | apply below_alloc | apply pw_below_drewN | apply below_drew1 | refine below_set ?_ GE162.out) | exact HB.out)⟩
                                      · replace c32 := Bool.eq_false_iff.mpr c32
                                        subst c32
                                        have H1 : (if 0 ≤ x5_3 then (if x5_3 < (l0.length : Int) then (if (wrap64 ((wrap64 (10 * x8_3)) + (((rd l0 x5_3) - 48) % 256))) > 1048576 then (some ((⟨#[]⟩ : ByteArray), (⟨#[]⟩ : ByteArray), 0, 3)) else (lineageref59_Decode.l1 kj26 l0 (wrap64 (x5_3 + 1)) (strOfNums (l0.take (x5_1 : Int).toNat)) (wrap64 (x5_1 + 1)) (wrap64 ((wrap64 (10 * x8_3)) + (((rd l0 x5_3) - 48) % 256))))) else (none)) else (none)) = some (r1, r2, r3, r4) := by rw [if_neg (show ¬ (false = true) by decide)] at H; exact H
                                        clear H
                                        have H := H1
                                        clear H1
                                        by_cases c34 : 0 ≤ x5_3
                                        · rw [if_pos c34] at H
                                          have c34b0 : decide (0 ≤ x5_3) = true := decide_eq_true c34
                                          clear c34
                                          by_cases c35 : x5_3 < (l0.length : Int)
                                          · rw [if_pos c35] at H
                                            have c35b0 : decide (x5_3 < (l0.length : Int)) = true := decide_eq_true c35
                                            clear c35
                                            by_cases c36 : (wrap64 ((wrap64 (10 * x8_3)) + (((rd l0 x5_3) - 48) % 256))) > 1048576
                                            · rw [if_pos c36] at H
                                              have c36b0 : decide (1048576 < (wrap64 ((wrap64 (10 * x8_3)) + (((rd l0 x5_3) - 48) % 256)))) = true := decide_eq_true c36
                                              clear c36
                                              simp only [Option.some.injEq, Prod.mk.injEq] at H
                                              obtain ⟨rfl, rfl, rfl, rfl⟩ := H
                                              have p170 : 0 ≤ (x5_3 : Int) := of_decide_eq_true (by first | (with_reducible assumption) | assumption)
                                              have q170 : x5_3 < (l0.length : Int) := of_decide_eq_true (by first | (with_reducible assumption) | assumption)
                                              obtain ⟨ad170, e170, hx170_0⟩ := Kd.at_int HR0.out x5_3 p170 q170
                                              obtain rfl : ad166 = ad170 := (by injection e170)
                                              replace hx170_0 := (HB.out.cell (World.block_lt_of_cell? w _ hx170_0)).trans hx170_0
                                              replace p170 := eq_true p170
                                              replace q170 := eq_true q170
                                              have hcz37_0 : wc.cell? ⟨gb162, 0, none⟩ = some (.string x163000_3) := (blk_cell BK162.out 0).trans rfl
                                              have hcz37_1 : wc.cell? ⟨gb162, 1, none⟩ = some (.string x163001_3) := (blk_cell BK162.out 1).trans rfl
                                              have hfz37_0 := blk_frozen BK162.out 0
                                              have hfz37_1 := blk_frozen BK162.out 1
                                              go_wp2
                                              refine bodyPost_ret (results_ctt rfl _ _ gb162 23 #[.string (⟨#[]⟩ : ByteArray), .string (⟨#[]⟩ : ByteArray)] (0, 0) _ rfl (by (with_reducible repeat (first | refine blk_drewN ?_ _ | refine blk_drew ?_ | refine blk_alloc ?_ _)); refine blk_put (cs := #[.string (⟨#[]⟩ : ByteArray), .string x163001_3]) ?_ 1 _ rfl; (with_reducible repeat (first | refine blk_drewN ?_ _ | refine blk_drew ?_ | refine blk_alloc ?_ _)); refine blk_put (cs := #[.string x163000_3, .string x163001_3]) ?_ 0 _ rfl; (with_reducible repeat (first | refine blk_drewN ?_ _ | refine blk_drew ?_ | refine blk_alloc ?_ _)); exact BK162.out) Tryz.underlying23 rfl (by kernel_rfl)) rfl ?_
                                              exact ⟨by first | rfl | (simp [errW_none, errW_some] <;> rfl) | (simp [*, errW_none, errW_some] <;> rfl), by repeat (first | (with_reducible first | exact HB.out | apply below_alloc | apply pw_below_drewN | apply below_drew1 | refine below_set ?_ GE162.out) | exact HB.out)⟩
                                            · rw [if_neg c36] at H
                                              have c36b0 : decide (1048576 < (wrap64 ((wrap64 (10 * x8_3)) + (((rd l0 x5_3) - 48) % 256)))) = false := decide_eq_false c36
                                              clear c36
                                              have H' := Aside0.mk H
                                              clear H
                                              have p170 : 0 ≤ (x5_3 : Int) := of_decide_eq_true (by first | (with_reducible assumption) | assumption)
                                              have q170 : x5_3 < (l0.length : Int) := of_decide_eq_true (by first | (with_reducible assumption) | assumption)
                                              obtain ⟨ad170, e170, hx170_0⟩ := Kd.at_int HR0.out x5_3 p170 q170
                                              obtain rfl : ad166 = ad170 := (by injection e170)
                                              replace hx170_0 := (HB.out.cell (World.block_lt_of_cell? w _ hx170_0)).trans hx170_0
                                              replace p170 := eq_true p170
                                              replace q170 := eq_true q170
                                              go_wp2
                                              go_roundg kj26
                                              case measure => have := HJ1.out; have := HJ9.out; have := HK3.out; have := HJ21.out; have := HJ26.out; omega
                                              case rel => exact ⟨(wrap64 (x5_3 + 1)), (wrap64 ((wrap64 (10 * x8_3)) + (((rd l0 x5_3) - 48) % 256))), (x163000_3), (x163001_3), (by first | rfl | (simp; done) | (simp [*]; done)), (by first | rfl | (simp; done) | (simp [*]; done)), H', ⟨by have := HJ1.out; have := HJ9.out; have := HK3.out; have := HJ21.out; have := HJ26.out; omega⟩, ⟨by (with_reducible repeat (first | refine blk_drewN ?_ _ | refine blk_drew ?_ | refine blk_alloc ?_ _)); exact BK162.out⟩, ⟨by repeat (first | (with_reducible first | exact HB.out | apply below_alloc | apply pw_below_drewN | apply below_drew1 | refine below_set ?_ GE162.out) | exact HB.out)⟩⟩
                                          · rw [if_neg c35] at H
                                            exact absurd H (by simp)
                                        · rw [if_neg c34] at H
                                          exact absurd H (by simp)
                                · replace c26 := Bool.eq_false_iff.mpr c26
                                  subst c26
                                  have H1 : (if x5_3 = (l0.length : Int) then (some ((⟨#[]⟩ : ByteArray), (⟨#[]⟩ : ByteArray), 0, 9)) else (if x5_3 = (wrap64 (x5_1 + 1)) then (lineageref59_Decode.j6 kj21 l0 x5_3 (strOfNums (l0.take (x5_1 : Int).toNat)) x8_3 true) else (if 0 ≤ x5_3 then (if x5_3 < (l0.length : Int) then (lineageref59_Decode.j6 kj21 l0 x5_3 (strOfNums (l0.take (x5_1 : Int).toNat)) x8_3 ((rd l0 x5_3) != 10)) else (none)) else (none)))) = some (r1, r2, r3, r4) := by rw [if_neg (show ¬ (false = true) by decide)] at H; exact H
                                  clear H
                                  have H := H1
                                  clear H1
                                  by_cases c38 : x5_3 = (l0.length : Int)
                                  · rw [if_pos c38] at H
                                    have c38b0 : (x5_3 == (l0.length : Int)) = true := beq_iff_eq.mpr c38
                                    have c38b1 : (x5_3 != (l0.length : Int)) = false := bne_eq_false_iff_eq.mpr c38
                                    clear c38
                                    simp only [Option.some.injEq, Prod.mk.injEq] at H
                                    obtain ⟨rfl, rfl, rfl, rfl⟩ := H
                                    have hcz39_0 : wc.cell? ⟨gb162, 0, none⟩ = some (.string x163000_3) := (blk_cell BK162.out 0).trans rfl
                                    have hcz39_1 : wc.cell? ⟨gb162, 1, none⟩ = some (.string x163001_3) := (blk_cell BK162.out 1).trans rfl
                                    have hfz39_0 := blk_frozen BK162.out 0
                                    have hfz39_1 := blk_frozen BK162.out 1
                                    go_wp2
                                    refine bodyPost_ret (results_ctt rfl _ _ gb162 23 #[.string (⟨#[]⟩ : ByteArray), .string (⟨#[]⟩ : ByteArray)] (0, 0) _ rfl (by (with_reducible repeat (first | refine blk_drewN ?_ _ | refine blk_drew ?_ | refine blk_alloc ?_ _)); refine blk_put (cs := #[.string (⟨#[]⟩ : ByteArray), .string x163001_3]) ?_ 1 _ rfl; (with_reducible repeat (first | refine blk_drewN ?_ _ | refine blk_drew ?_ | refine blk_alloc ?_ _)); refine blk_put (cs := #[.string x163000_3, .string x163001_3]) ?_ 0 _ rfl; (with_reducible repeat (first | refine blk_drewN ?_ _ | refine blk_drew ?_ | refine blk_alloc ?_ _)); exact BK162.out) Tryz.underlying23 rfl (by kernel_rfl)) rfl ?_
                                    exact ⟨by first | rfl | (simp [errW_none, errW_some] <;> rfl) | (simp [*, errW_none, errW_some] <;> rfl), by repeat (first | (with_reducible first | exact HB.out | apply below_alloc | apply pw_below_drewN | apply below_drew1 | refine below_set ?_ GE162.out) | exact HB.out)⟩
                                  · rw [if_neg c38] at H
                                    have c38b0 : (x5_3 == (l0.length : Int)) = false := beq_eq_false_iff_ne.mpr c38
                                    have c38b1 : (x5_3 != (l0.length : Int)) = true := bne_iff_ne.mpr c38
                                    have HC40 := Aside0.mk H
                                    clear H
                                    go_upto_region 22 with (fail)
                                    go_cut [116] (fun v116 wc => ∃ (kq : Nat) (x116_39 : Bool), v116 = .bool x116_39 ∧ Aside0 (lineageref59_Decode.j6 kq l0 x5_3 (strOfNums (l0.take (x5_1 : Int).toNat)) x8_3 x116_39 = some (r1, r2, r3, r4)) ∧ Aside0 (kq ≤ kj21) ∧ Aside0 (wc.heap[gb162]? = some (.cells #[.string x163000_3, .string x163001_3] 23 (0, 0))) ∧ Aside0 (Below w.heap.size w wc))
                                    case first =>
                                      have H := HC40.out
                                      clear HC40
                                      by_cases c41 : x5_3 = (wrap64 (x5_1 + 1))
                                      · rw [if_pos c41] at H
                                        have c41b0 : (x5_3 == (wrap64 (x5_1 + 1))) = true := beq_iff_eq.mpr c41
                                        have c41b1 : (x5_3 != (wrap64 (x5_1 + 1))) = false := bne_eq_false_iff_eq.mpr c41
                                        clear c41
                                        (first | rw [c41b0] | (simp only [i64_w, i32_w]; rw [c41b0]) | skip)
                                        have H' := Aside0.mk H
                                        clear H
                                        go_wp2
                                        go_meet
                                        case rel => exact ⟨_, (true), (by first | rfl | (simp; done) | (simp [*]; done)), H', ⟨by have := HJ1.out; have := HJ9.out; have := HK3.out; have := HJ21.out; first | omega | exact Nat.le_refl _⟩, ⟨by (with_reducible repeat (first | refine blk_drewN ?_ _ | refine blk_drew ?_ | refine blk_alloc ?_ _)); exact BK162.out⟩, ⟨by repeat (first | (with_reducible first | exact HB.out | apply below_alloc | apply pw_below_drewN | apply below_drew1 | refine below_set ?_ GE162.out) | exact HB.out)⟩⟩
                                      · rw [if_neg c41] at H
                                        have c41b0 : (x5_3 == (wrap64 (x5_1 + 1))) = false := beq_eq_false_iff_ne.mpr c41
                                        have c41b1 : (x5_3 != (wrap64 (x5_1 + 1))) = true := bne_iff_ne.mpr c41
                                        (first | rw [c41b0] | (simp only [i64_w, i32_w]; rw [c41b0]) | skip)
                                        by_cases c42 : 0 ≤ x5_3
                                        · rw [if_pos c42] at H
                                          have c42b0 : decide (0 ≤ x5_3) = true := decide_eq_true c42
                                          clear c42
                                          by_cases c43 : x5_3 < (l0.length : Int)
                                          · rw [if_pos c43] at H
                                            have c43b0 : decide (x5_3 < (l0.length : Int)) = true := decide_eq_true c43
                                            clear c43
                                            have H' := Aside0.mk H
                                            clear H
                                            have p171 : 0 ≤ (x5_3 : Int) := of_decide_eq_true (by first | (with_reducible assumption) | assumption)
                                            have q171 : x5_3 < (l0.length : Int) := of_decide_eq_true (by first | (with_reducible assumption) | assumption)
                                            obtain ⟨ad171, e171, hx171_0⟩ := Kd.at_int HR0.out x5_3 p171 q171
                                            obtain rfl : ad166 = ad171 := (by injection e171)
                                            replace hx171_0 := (HB.out.cell (World.block_lt_of_cell? w _ hx171_0)).trans hx171_0
                                            replace p171 := eq_true p171
                                            replace q171 := eq_true q171
                                            go_wp2
                                            go_meet
                                            case rel => exact ⟨_, (((rd l0 x5_3) != 10)), (by first | rfl | (simp; done) | (simp [*]; done)), H', ⟨by have := HJ1.out; have := HJ9.out; have := HK3.out; have := HJ21.out; first | omega | exact Nat.le_refl _⟩, ⟨by (with_reducible repeat (first | refine blk_drewN ?_ _ | refine blk_drew ?_ | refine blk_alloc ?_ _)); exact BK162.out⟩, ⟨by repeat (first | (with_reducible first | exact HB.out | apply below_alloc | apply pw_below_drewN | apply below_drew1 | refine below_set ?_ GE162.out) | exact HB.out)⟩⟩
                                          · rw [if_neg c43] at H
                                            exact absurd H (by simp)
                                        · rw [if_neg c42] at H
                                          exact absurd H (by simp)
                                    case rest =>
                                      clear HC40
                                      try clear c1
                                      try clear p1
                                      try clear q1
                                      try clear hx1
                                      try clear hcv1
                                      try clear c2
                                      try clear p2
                                      try clear c3
                                      try clear c4
                                      try clear c4b0
                                      try clear c5
                                      try clear c5b0
                                      try clear c6
                                      try clear c6b0
                                      try clear p6
                                      try clear c7
                                      try clear c7b0
                                      try clear c8
                                      try clear c8b0
                                      try clear c8b1
                                      try clear c9
                                      try clear c9b0
                                      try clear c9b1
                                      try clear c11
                                      try clear hcv12
                                      try clear c13
                                      try clear c13b0
                                      try clear c14
                                      try clear c14b0
                                      try clear c14b1
                                      try clear c15
                                      try clear p16
                                      try clear q16
                                      try clear hx16
                                      try clear c17
                                      try clear c17b0
                                      try clear c17b1
                                      try clear p17
                                      try clear q17
                                      try clear hx17
                                      try clear c19
                                      try clear c19b0
                                      try clear c20
                                      try clear c20b0
                                      try clear c21
                                      try clear c21b0
                                      try clear c21b1
                                      try clear c23
                                      try clear c23b0
                                      try clear c24
                                      try clear c24b0
                                      try clear c25
                                      try clear c25b0
                                      try clear c26
                                      try clear c28
                                      try clear c28b0
                                      try clear c30
                                      try clear c30b0
                                      try clear c31
                                      try clear c31b0
                                      try clear c32
                                      try clear c34
                                      try clear c34b0
                                      try clear c35
                                      try clear c35b0
                                      try clear c36
                                      try clear c36b0
                                      try clear c38
                                      try clear c38b0
                                      try clear c38b1
                                      try clear c41
                                      try clear c41b0
                                      try clear c41b1
                                      try clear c42
                                      try clear c42b0
                                      try clear c43
                                      try clear c43b0
                                      try clear hcz16_0
                                      try clear hcz16_1
                                      try clear hcz18_0
                                      try clear hcz18_1
                                      try clear hcz33_0
                                      try clear hcz33_1
                                      try clear hcz37_0
                                      try clear hcz37_1
                                      try clear hcz39_0
                                      try clear hcz39_1
                                      try clear hfz16_0
                                      try clear hfz16_1
                                      try clear hfz18_0
                                      try clear hfz18_1
                                      try clear hfz33_0
                                      try clear hfz33_1
                                      try clear hfz37_0
                                      try clear hfz37_1
                                      try clear hfz39_0
                                      try clear hfz39_1
                                      try clear hx163_0
                                      try clear hx164_0
                                      try clear hx166_0
                                      try clear hx167_0
                                      try clear hx168_0
                                      try clear hx169_0
                                      try clear hx170_0
                                      try clear hx171_0
                                      try clear p1
                                      try clear p16
                                      try clear p163
                                      try clear p164
                                      try clear p166
                                      try clear p167
                                      try clear p168
                                      try clear p169
                                      try clear p170
                                      try clear p171
                                      try clear p2
                                      try clear p6
                                      try clear q1
                                      try clear q16
                                      try clear q163
                                      try clear q164
                                      try clear q166
                                      try clear q167
                                      try clear q168
                                      try clear q169
                                      try clear q170
                                      try clear q171
                                      obtain ⟨kq, x116_39, rfl, HA, HJ39, BK162, HB⟩ := hcut
                                      cases kq with
                                      | zero => exact absurd HA.out (by simp [lineageref59_Decode.j6])
                                      | succ kj39 =>
                                        have H := HA.out
                                        clear HA
                                        simp only [lineageref59_Decode.j6] at H
                                        by_cases c44 : x116_39 = true
                                        · subst c44
                                          have H1 : (some ((⟨#[]⟩ : ByteArray), (⟨#[]⟩ : ByteArray), 0, 3)) = some (r1, r2, r3, r4) := by rw [if_pos rfl] at H; exact H
                                          clear H
                                          have H := H1
                                          clear H1
                                          simp only [Option.some.injEq, Prod.mk.injEq] at H
                                          obtain ⟨rfl, rfl, rfl, rfl⟩ := H
                                          have hcz45_0 : wc.cell? ⟨gb162, 0, none⟩ = some (.string x163000_3) := (blk_cell BK162.out 0).trans rfl
                                          have hcz45_1 : wc.cell? ⟨gb162, 1, none⟩ = some (.string x163001_3) := (blk_cell BK162.out 1).trans rfl
                                          have hfz45_0 := blk_frozen BK162.out 0
                                          have hfz45_1 := blk_frozen BK162.out 1
                                          go_wp2
                                          refine bodyPost_ret (results_ctt rfl _ _ gb162 23 #[.string (⟨#[]⟩ : ByteArray), .string (⟨#[]⟩ : ByteArray)] (0, 0) _ rfl (by (with_reducible repeat (first | refine blk_drewN ?_ _ | refine blk_drew ?_ | refine blk_alloc ?_ _)); refine blk_put (cs := #[.string (⟨#[]⟩ : ByteArray), .string x163001_3]) ?_ 1 _ rfl; (with_reducible repeat (first | refine blk_drewN ?_ _ | refine blk_drew ?_ | refine blk_alloc ?_ _)); refine blk_put (cs := #[.string x163000_3, .string x163001_3]) ?_ 0 _ rfl; (with_reducible repeat (first | refine blk_drewN ?_ _ | refine blk_drew ?_ | refine blk_alloc ?_ _)); exact BK162.out) Tryz.underlying23 rfl (by kernel_rfl)) rfl ?_
                                          exact ⟨by first | rfl | (simp [errW_none, errW_some] <;> rfl) | (simp [*, errW_none, errW_some] <;> rfl), by repeat (first | (with_reducible first | exact HB.out | apply below_alloc | apply pw_below_drewN | apply below_drew1 | refine below_set ?_ GE162.out) | exact HB.out)⟩
                                        · replace c44 := Bool.eq_false_iff.mpr c44
                                          subst c44
                                          have H1 : (if (wrap64 ((l0.length : Int) - (wrap64 (x5_3 + 1)))) < x8_3 then (some ((⟨#[]⟩ : ByteArray), (⟨#[]⟩ : ByteArray), 0, 9)) else (if 0 ≤ (wrap64 (x5_3 + 1)) then (if (wrap64 (x5_3 + 1)) ≤ (wrap64 ((wrap64 (x5_3 + 1)) + x8_3)) then (if (wrap64 ((wrap64 (x5_3 + 1)) + x8_3)) ≤ (l0.length : Int) then (some ((strOfNums (l0.take (x5_1 : Int).toNat)), strOfNums ((l0.take ((wrap64 ((wrap64 (x5_3 + 1)) + x8_3)) : Int).toNat).drop ((wrap64 (x5_3 + 1)) : Int).toNat), wrap64 ((wrap64 (x5_3 + 1)) + x8_3), 0)) else (none)) else (none)) else (none))) = some (r1, r2, r3, r4) := by rw [if_neg (show ¬ (false = true) by decide)] at H; exact H
                                          clear H
                                          have H := H1
                                          clear H1
                                          by_cases c46 : (wrap64 ((l0.length : Int) - (wrap64 (x5_3 + 1)))) < x8_3
                                          · rw [if_pos c46] at H
                                            have c46b0 : decide ((wrap64 ((l0.length : Int) - (wrap64 (x5_3 + 1)))) < x8_3) = true := decide_eq_true c46
                                            clear c46
                                            simp only [Option.some.injEq, Prod.mk.injEq] at H
                                            obtain ⟨rfl, rfl, rfl, rfl⟩ := H
                                            have hcz47_0 : wc.cell? ⟨gb162, 0, none⟩ = some (.string x163000_3) := (blk_cell BK162.out 0).trans rfl
                                            have hcz47_1 : wc.cell? ⟨gb162, 1, none⟩ = some (.string x163001_3) := (blk_cell BK162.out 1).trans rfl
                                            have hfz47_0 := blk_frozen BK162.out 0
                                            have hfz47_1 := blk_frozen BK162.out 1
                                            go_wp2
                                            refine bodyPost_ret (results_ctt rfl _ _ gb162 23 #[.string (⟨#[]⟩ : ByteArray), .string (⟨#[]⟩ : ByteArray)] (0, 0) _ rfl (by (with_reducible repeat (first | refine blk_drewN ?_ _ | refine blk_drew ?_ | refine blk_alloc ?_ _)); refine blk_put (cs := #[.string (⟨#[]⟩ : ByteArray), .string x163001_3]) ?_ 1 _ rfl; (with_reducible repeat (first | refine blk_drewN ?_ _ | refine blk_drew ?_ | refine blk_alloc ?_ _)); refine blk_put (cs := #[.string x163000_3, .string x163001_3]) ?_ 0 _ rfl; (with_reducible repeat (first | refine blk_drewN ?_ _ | refine blk_drew ?_ | refine blk_alloc ?_ _)); exact BK162.out) Tryz.underlying23 rfl (by kernel_rfl)) rfl ?_
                                            exact ⟨by first | rfl | (simp [errW_none, errW_some] <;> rfl) | (simp [*, errW_none, errW_some] <;> rfl), by repeat (first | (with_reducible first | exact HB.out | apply below_alloc | apply pw_below_drewN | apply below_drew1 | refine below_set ?_ GE162.out) | exact HB.out)⟩
                                          · rw [if_neg c46] at H
                                            have c46b0 : decide ((wrap64 ((l0.length : Int) - (wrap64 (x5_3 + 1)))) < x8_3) = false := decide_eq_false c46
                                            clear c46
                                            obtain ⟨ji48, hji48⟩ : ∃ j_ : Int, (wrap64 (x5_3 + 1)) = j_ := ⟨_, rfl⟩
                                            replace H : (if 0 ≤ (ji48) then (if (ji48) ≤ (wrap64 ((ji48) + x8_3)) then (if (wrap64 ((ji48) + x8_3)) ≤ (l0.length : Int) then (some ((strOfNums (l0.take (x5_1 : Int).toNat)), strOfNums ((l0.take ((wrap64 ((ji48) + x8_3)) : Int).toNat).drop ((ji48) : Int).toNat), wrap64 ((ji48) + x8_3), 0)) else (none)) else (none)) else (none)) = some (r1, r2, r3, r4) := by first | (rw [hji48] at H; exact H) | (simp only [hji48] at H ⊢; exact H)
                                            (try rw [hji48] at c46b0)
                                            have hji48w : (IntKind.i64.wrap (x5_3 + 1)) = ji48 := (i64_w _).trans hji48
                                            by_cases c49 : 0 ≤ (ji48)
                                            · rw [if_pos c49] at H
                                              have c49b0 := eq_true c49
                                              have c49b1 : decide (0 ≤ (ji48)) = true := decide_eq_true c49
                                              clear c49
                                              by_cases c50 : (ji48) ≤ (wrap64 ((ji48) + x8_3))
                                              · rw [if_pos c50] at H
                                                have c50b0 := eq_true c50
                                                have c50b1 : decide ((ji48) ≤ (wrap64 ((ji48) + x8_3))) = true := decide_eq_true c50
                                                by_cases c51 : (wrap64 ((ji48) + x8_3)) ≤ (l0.length : Int)
                                                · rw [if_pos c51] at H
                                                  have c51b0 := eq_true c51
                                                  have c51b1 : decide ((wrap64 ((ji48) + x8_3)) ≤ (l0.length : Int)) = true := decide_eq_true c51
                                                  simp only [Option.some.injEq, Prod.mk.injEq] at H
                                                  obtain ⟨rfl, rfl, rfl, rfl⟩ := H
                                                  obtain ⟨i052, hi052, _, hsz52, _⟩ := info_parts info5
                                                  obtain ⟨A52, hcut52, hA52, hC52⟩ := print_mid_of (P := Tryz.prog) (Value.int .u8) 0 24 5 .i64 .i64 Tryz.underlying24 hi052 hsz52 (some ad166) c0 l0 (ji48) (wrap64 ((ji48) + x8_3)) (of_decide_eq_true (by first | (with_reducible assumption) | assumption)) (by first | omega | exact of_decide_eq_true (by first | (with_reducible assumption) | assumption)) (of_decide_eq_true (by first | (with_reducible assumption) | assumption)) HC0.out
                                                  have HR172 := Aside0.mk (Kd.C_of_reads (h1 := fun _ => rfl) (hA52 _ (Kd.reads_of_C HR0.out)))
                                                  have HC172 := Aside0.mk hC52
                                                  clear hA52 hC52 hi052 hsz52
                                                  have hcv53 := Kd.C_string (P := Tryz.prog) (A := A52) (c := (c0 - (ji48).toNat)) Tryz.underlying24 Tryz.underlying5 Tryz.underlying9 (Kd.C_below HR172.out HB.out)
                                                  obtain ⟨mq53, hmq53⟩ : ∃ m_ : Nat, ((l0.take ((wrap64 ((ji48) + x8_3))).toNat).drop ((ji48)).toNat).length = m_ := ⟨_, rfl⟩
                                                  rw [hmq53] at hcut52 hcv53
                                                  clear hmq53
                                                  have hcz54_0 : wc.cell? ⟨gb162, 0, none⟩ = some (.string x163000_3) := (blk_cell BK162.out 0).trans rfl
                                                  have hcz54_1 : wc.cell? ⟨gb162, 1, none⟩ = some (.string x163001_3) := (blk_cell BK162.out 1).trans rfl
                                                  have hfz54_0 := blk_frozen BK162.out 0
                                                  have hfz54_1 := blk_frozen BK162.out 1
                                                  go_wp2
                                                  refine bodyPost_ret (results_ctt rfl _ _ gb162 23 #[.string (strOfNums (l0.take (x5_1 : Int).toNat)), .string (strOfNums ((l0.take ((wrap64 ((ji48) + x8_3)) : Int).toNat).drop ((ji48) : Int).toNat))] (0, 0) _ rfl (by (with_reducible repeat (first | refine blk_drewN ?_ _ | refine blk_drew ?_ | refine blk_alloc ?_ _)); refine blk_put (cs := #[.string (strOfNums (l0.take (x5_1 : Int).toNat)), .string x163001_3]) ?_ 1 _ rfl; (with_reducible repeat (first | refine blk_drewN ?_ _ | refine blk_drew ?_ | refine blk_alloc ?_ _)); refine blk_put (cs := #[.string x163000_3, .string x163001_3]) ?_ 0 _ rfl; (with_reducible repeat (first | refine blk_drewN ?_ _ | refine blk_drew ?_ | refine blk_alloc ?_ _)); exact BK162.out) Tryz.underlying23 rfl (by kernel_rfl)) rfl ?_
                                                  exact ⟨by first | rfl | (simp [errW_none, errW_some] <;> rfl) | (simp only [← hji48]; first | rfl | (simp [errW_none, errW_some] <;> rfl)) | (simp [*, errW_none, errW_some] <;> rfl), by repeat (first | (with_reducible first | exact HB.out | apply below_alloc | apply pw_below_drewN | apply below_drew1 | refine below_set ?_ GE162.out) | exact HB.out)⟩
                                                · rw [if_neg c51] at H
                                                  exact absurd H (by simp)
                                              · rw [if_neg c50] at H
                                                exact absurd H (by simp)
                                            · rw [if_neg c49] at H
                                              exact absurd H (by simp)
                      · rw [if_neg c21] at H
                        have c21b0 : ((rd l0 x5_1) == 32) = false := beq_eq_false_iff_ne.mpr c21
                        have c21b1 : ((rd l0 x5_1) != 32) = true := bne_iff_ne.mpr c21
                        simp only [Option.some.injEq, Prod.mk.injEq] at H
                        obtain ⟨rfl, rfl, rfl, rfl⟩ := H
                        have p166 : 0 ≤ (x5_1 : Int) := of_decide_eq_true (by first | (with_reducible assumption) | assumption)
                        have q166 : x5_1 < (l0.length : Int) := of_decide_eq_true (by first | (with_reducible assumption) | assumption)
                        obtain ⟨ad166, e166, hx166_0⟩ := Kd.at_int HR0.out x5_1 p166 q166
                        cases e166
                        replace hx166_0 := (HB.out.cell (World.block_lt_of_cell? w _ hx166_0)).trans hx166_0
                        replace p166 := eq_true p166
                        replace q166 := eq_true q166
                        have hcz55_0 : wc.cell? ⟨gb162, 0, none⟩ = some (.string (⟨#[]⟩ : ByteArray)) := (blk_cell BK162.out 0).trans rfl
                        have hcz55_1 : wc.cell? ⟨gb162, 1, none⟩ = some (.string (⟨#[]⟩ : ByteArray)) := (blk_cell BK162.out 1).trans rfl
                        have hfz55_0 := blk_frozen BK162.out 0
                        have hfz55_1 := blk_frozen BK162.out 1
                        go_wp2
                        refine bodyPost_ret (results_ctt rfl _ _ gb162 23 #[.string (⟨#[]⟩ : ByteArray), .string (⟨#[]⟩ : ByteArray)] (0, 0) _ rfl (by (with_reducible repeat (first | refine blk_drewN ?_ _ | refine blk_drew ?_ | refine blk_alloc ?_ _)); refine blk_put (cs := #[.string (⟨#[]⟩ : ByteArray), .string (⟨#[]⟩ : ByteArray)]) ?_ 1 _ rfl; (with_reducible repeat (first | refine blk_drewN ?_ _ | refine blk_drew ?_ | refine blk_alloc ?_ _)); refine blk_put (cs := #[.string (⟨#[]⟩ : ByteArray), .string (⟨#[]⟩ : ByteArray)]) ?_ 0 _ rfl; (with_reducible repeat (first | refine blk_drewN ?_ _ | refine blk_drew ?_ | refine blk_alloc ?_ _)); exact BK162.out) Tryz.underlying23 rfl (by kernel_rfl)) rfl ?_
                        exact ⟨by first | rfl | (simp [errW_none, errW_some] <;> rfl) | (simp [*, errW_none, errW_some] <;> rfl), by repeat (first | (with_reducible first | exact HB.out | apply below_alloc | apply pw_below_drewN | apply below_drew1 | refine below_set ?_ GE162.out) | exact HB.out)⟩
                    · rw [if_neg c20] at H
                      exact absurd H (by simp)
                  · rw [if_neg c19] at H
                    exact absurd H (by simp)
        · rw [if_neg c9] at H
          exact absurd H (by simp)
      · rw [if_neg c8] at H
        exact absurd H (by simp)

end Go.Proofs.YtnineihfjbbmpaaGreatDoor.P
