-- PRINTED by print.py (a twelfth state) out of the translation. Not trusted: Lean checks it.
import Derived.Test.YtnineihfjbbmpaaGreatDoorPx0
import Derived.Test.YtnineihfjbbmpaaGreatDoorPx2
namespace Go.Proofs.YtnineihfjbbmpaaGreatDoor.P
open Go.RowKit Go.Proofs.YtnineihfjbbmpaaGreatDoorW.PrintWords Go.Proofs.YtnineihfjbbmpaaGreatDoorW.PrintLast Go.Proofs.YtnineihfjbbmpaaGreatDoorW.PrintMore
attribute [local go_sem] max2_int min2_int max_two min_two max_three min_three max_four min_four   -- for this text's walks alone
set_option linter.unusedVariables false
set_option linter.unusedSimpArgs false

/-! ### protocol_head: function 22 -/
mutual
def protocol_head.j1 : Nat → List Int → Int → Option (ByteArray × Int × Int × Int)
  | 0, _, _ => none
  | k + 1, x0, x6 => if 0 ≤ x6 then (if x6 ≤ (x0.length : Int) then (if x6 > 16 then (protocol_head.j2 k x0 x6 (strOfNums (x0.take (x6 : Int).toNat)) true) else (if x6 < (x0.length : Int) then (if x6 = 0 then (protocol_head.j2 k x0 x6 (strOfNums (x0.take (x6 : Int).toNat)) true) else (protocol_head.j2 k x0 x6 (strOfNums (x0.take (x6 : Int).toNat)) ((rd x0 x6) != 32))) else (protocol_head.j2 k x0 x6 (strOfNums (x0.take (x6 : Int).toNat)) false))) else (none)) else (none)
def protocol_head.j2 : Nat → List Int → Int → ByteArray → Bool → Option (ByteArray × Int × Int × Int)
  | 0, _, _, _, _ => none
  | k + 1, x0, x6, x7, x27 => if x27 = true then (some ((⟨#[]⟩ : ByteArray), 0, 0, 3)) else (if x6 = (x0.length : Int) then (some ((⟨#[]⟩ : ByteArray), 0, 0, 9)) else (protocol_head.l1 k x0 (wrap64 (x6 + 1)) x7 0 (wrap64 (x6 + 1))))
def protocol_head.l1 : Nat → List Int → Int → ByteArray → Int → Int → Option (ByteArray × Int × Int × Int)
  | 0, _, _, _, _, _ => none
  | k + 1, x0, x6, x7, x8, x9 => if x6 < (x0.length : Int) then (if 0 ≤ x6 then (if (rd x0 x6) ≥ 48 then (protocol_head.j4 k x0 x6 x7 x8 x9 (decide ((rd x0 x6) ≤ 57))) else (protocol_head.j4 k x0 x6 x7 x8 x9 false)) else (none)) else (protocol_head.j4 k x0 x6 x7 x8 x9 false)
def protocol_head.j4 : Nat → List Int → Int → ByteArray → Int → Int → Bool → Option (ByteArray × Int × Int × Int)
  | 0, _, _, _, _, _, _ => none
  | k + 1, x0, x6, x7, x8, x9, x72 => if x72 = true then (if 0 ≤ x6 then (if x6 < (x0.length : Int) then (if (wrap64 ((wrap64 (10 * x8)) + (((rd x0 x6) - 48) % 256))) > 1048576 then (some ((⟨#[]⟩ : ByteArray), 0, 0, 3)) else (if (wrap64 (x6 + 1)) > (wrap64 (x9 + 1)) then (if 0 ≤ x9 then (if x9 < (x0.length : Int) then (if (rd x0 x9) = 48 then (some ((⟨#[]⟩ : ByteArray), 0, 0, 3)) else (protocol_head.l1 k x0 (wrap64 (x6 + 1)) x7 (wrap64 ((wrap64 (10 * x8)) + (((rd x0 x6) - 48) % 256))) x9)) else (none)) else (none)) else (protocol_head.l1 k x0 (wrap64 (x6 + 1)) x7 (wrap64 ((wrap64 (10 * x8)) + (((rd x0 x6) - 48) % 256))) x9))) else (none)) else (none)) else (if x6 = (x0.length : Int) then (some ((⟨#[]⟩ : ByteArray), 0, 0, 9)) else (if x6 = x9 then (some ((⟨#[]⟩ : ByteArray), 0, 0, 3)) else (if 0 ≤ x6 then (if x6 < (x0.length : Int) then (if (rd x0 x6) = 10 then (some (x7, x8, wrap64 (x6 + 1), 0)) else (some ((⟨#[]⟩ : ByteArray), 0, 0, 3))) else (none)) else (none))))
def protocol_head.l0 : Nat → List Int → Int → Option (ByteArray × Int × Int × Int)
  | 0, _, _ => none
  | k + 1, x0, x6 => if x6 < (x0.length : Int) then (if 0 ≤ x6 then ((protocol_upper.f (rd x0 x6)).bind fun t120 => (if t120 = true then (protocol_head.l0 k x0 (wrap64 (x6 + 1))) else (protocol_head.j1 k x0 x6))) else (none)) else (protocol_head.j1 k x0 x6)
end
def protocol_head.f (k : Nat) (l0 : List Int) : Option (ByteArray × Int × Int × Int) := protocol_head.l0 k l0 0
theorem protocol_head.mono_l : ∀ k, (∀ y0 y1, LeO (protocol_head.j1 k y0 y1) (protocol_head.j1 (k + 1) y0 y1)) ∧ (∀ y0 y1 y2 y3, LeO (protocol_head.j2 k y0 y1 y2 y3) (protocol_head.j2 (k + 1) y0 y1 y2 y3)) ∧ (∀ y0 y1 y2 y3 y4, LeO (protocol_head.l1 k y0 y1 y2 y3 y4) (protocol_head.l1 (k + 1) y0 y1 y2 y3 y4)) ∧ (∀ y0 y1 y2 y3 y4 y5, LeO (protocol_head.j4 k y0 y1 y2 y3 y4 y5) (protocol_head.j4 (k + 1) y0 y1 y2 y3 y4 y5)) ∧ (∀ y0 y1, LeO (protocol_head.l0 k y0 y1) (protocol_head.l0 (k + 1) y0 y1))
  | 0 => ⟨fun _ _ r h => by simp [protocol_head.j1] at h, fun _ _ _ _ r h => by simp [protocol_head.j2] at h, fun _ _ _ _ _ r h => by simp [protocol_head.l1] at h, fun _ _ _ _ _ _ r h => by simp [protocol_head.j4] at h, fun _ _ r h => by simp [protocol_head.l0] at h⟩
  | k + 1 => by
    obtain ⟨ih0, ih1, ih2, ih3, ih4⟩ := protocol_head.mono_l k
    refine ⟨?_, ?_, ?_, ?_, ?_⟩
    · intro y0 y1
      unfold protocol_head.j1
      repeat' first
      | (with_reducible exact ih0 _ _)
      | (with_reducible exact ih1 _ _ _ _)
      | (with_reducible exact ih2 _ _ _ _ _)
      | (with_reducible exact ih3 _ _ _ _ _ _)
      | (with_reducible exact ih4 _ _)
      | (with_reducible exact LeO.refl _)
      | (with_reducible exact LeO.none _)
      | (with_reducible refine LeO.ite ?_ ?_)
      | (with_reducible refine LeO.bind ?_ (fun _ => ?_))
      | exact ih0 _ _
      | exact ih1 _ _ _ _
      | exact ih2 _ _ _ _ _
      | exact ih3 _ _ _ _ _ _
      | exact ih4 _ _
      | exact LeO.none _
      | refine LeO.ite ?_ ?_
      | refine LeO.bind ?_ (fun _ => ?_)
    · intro y0 y1 y2 y3
      unfold protocol_head.j2
      repeat' first
      | (with_reducible exact ih0 _ _)
      | (with_reducible exact ih1 _ _ _ _)
      | (with_reducible exact ih2 _ _ _ _ _)
      | (with_reducible exact ih3 _ _ _ _ _ _)
      | (with_reducible exact ih4 _ _)
      | (with_reducible exact LeO.refl _)
      | (with_reducible exact LeO.none _)
      | (with_reducible refine LeO.ite ?_ ?_)
      | (with_reducible refine LeO.bind ?_ (fun _ => ?_))
      | exact ih0 _ _
      | exact ih1 _ _ _ _
      | exact ih2 _ _ _ _ _
      | exact ih3 _ _ _ _ _ _
      | exact ih4 _ _
      | exact LeO.none _
      | refine LeO.ite ?_ ?_
      | refine LeO.bind ?_ (fun _ => ?_)
    · intro y0 y1 y2 y3 y4
      unfold protocol_head.l1
      repeat' first
      | (with_reducible exact ih0 _ _)
      | (with_reducible exact ih1 _ _ _ _)
      | (with_reducible exact ih2 _ _ _ _ _)
      | (with_reducible exact ih3 _ _ _ _ _ _)
      | (with_reducible exact ih4 _ _)
      | (with_reducible exact LeO.refl _)
      | (with_reducible exact LeO.none _)
      | (with_reducible refine LeO.ite ?_ ?_)
      | (with_reducible refine LeO.bind ?_ (fun _ => ?_))
      | exact ih0 _ _
      | exact ih1 _ _ _ _
      | exact ih2 _ _ _ _ _
      | exact ih3 _ _ _ _ _ _
      | exact ih4 _ _
      | exact LeO.none _
      | refine LeO.ite ?_ ?_
      | refine LeO.bind ?_ (fun _ => ?_)
    · intro y0 y1 y2 y3 y4 y5
      unfold protocol_head.j4
      repeat' first
      | (with_reducible exact ih0 _ _)
      | (with_reducible exact ih1 _ _ _ _)
      | (with_reducible exact ih2 _ _ _ _ _)
      | (with_reducible exact ih3 _ _ _ _ _ _)
      | (with_reducible exact ih4 _ _)
      | (with_reducible exact LeO.refl _)
      | (with_reducible exact LeO.none _)
      | (with_reducible refine LeO.ite ?_ ?_)
      | (with_reducible refine LeO.bind ?_ (fun _ => ?_))
      | exact ih0 _ _
      | exact ih1 _ _ _ _
      | exact ih2 _ _ _ _ _
      | exact ih3 _ _ _ _ _ _
      | exact ih4 _ _
      | exact LeO.none _
      | refine LeO.ite ?_ ?_
      | refine LeO.bind ?_ (fun _ => ?_)
    · intro y0 y1
      unfold protocol_head.l0
      repeat' first
      | (with_reducible exact ih0 _ _)
      | (with_reducible exact ih1 _ _ _ _)
      | (with_reducible exact ih2 _ _ _ _ _)
      | (with_reducible exact ih3 _ _ _ _ _ _)
      | (with_reducible exact ih4 _ _)
      | (with_reducible exact LeO.refl _)
      | (with_reducible exact LeO.none _)
      | (with_reducible refine LeO.ite ?_ ?_)
      | (with_reducible refine LeO.bind ?_ (fun _ => ?_))
      | exact ih0 _ _
      | exact ih1 _ _ _ _
      | exact ih2 _ _ _ _ _
      | exact ih3 _ _ _ _ _ _
      | exact ih4 _ _
      | exact LeO.none _
      | refine LeO.ite ?_ ?_
      | refine LeO.bind ?_ (fun _ => ?_)
theorem protocol_head.mono : ∀ a0 k, LeO (protocol_head.f k a0) (protocol_head.f (k + 1) a0) := by
  intro a0 k
  obtain ⟨ih0, ih1, ih2, ih3, ih4⟩ := protocol_head.mono_l k
  unfold protocol_head.f
  repeat' first
      | (with_reducible exact ih0 _ _)
      | (with_reducible exact ih1 _ _ _ _)
      | (with_reducible exact ih2 _ _ _ _ _)
      | (with_reducible exact ih3 _ _ _ _ _ _)
      | (with_reducible exact ih4 _ _)
      | (with_reducible exact LeO.refl _)
      | (with_reducible exact LeO.none _)
      | (with_reducible refine LeO.ite ?_ ?_)
      | (with_reducible refine LeO.bind ?_ (fun _ => ?_))
      | exact ih0 _ _
      | exact ih1 _ _ _ _
      | exact ih2 _ _ _ _ _
      | exact ih3 _ _ _ _ _ _
      | exact ih4 _ _
      | exact LeO.none _
      | refine LeO.ite ?_ ?_
      | refine LeO.bind ?_ (fun _ => ?_)
set_option maxHeartbeats 8000000 in
set_option maxRecDepth 100000 in
theorem protocol_head.calls (k : Nat) (A0 : Option Addr) (c0 : Nat) (l0 : List Int) (r1 : ByteArray) (r2 : Int) (r3 : Int) (r4 : Int) (w : World) (hr0 : Kd.C (Kd.int .u8) w A0 l0.length l0) (hc0 : l0.length ≤ c0) (h : protocol_head.f k l0 = some (r1, r2, r3, r4)) :
    Calls Tryz.prog 22 #[.slice A0 l0.length c0] w fun e w' => e = .returned (.tuple #[.string r1, .int .i64 r2, .int .i64 r3, .int .i64 r4]) ∧ Drawn0 w w' := by
  have HR0 := Aside0.mk hr0
  have HC0 := Aside0.mk hc0
  clear hr0 hc0
  have H : (protocol_head.l0 k l0 0) = some (r1, r2, r3, r4) := h
  clear h
  have HC2 := Aside0.mk H
  clear H
  go_enter Tryz.func22, Tryz.ntmps22
  go_upto_block 0 with (fail)
  go_cut [6] (fun v6 wc => ∃ (kq : Nat) (x6_1 : Int), v6 = .int .i64 x6_1 ∧ Aside0 (protocol_head.j1 kq l0 x6_1 = some (r1, r2, r3, r4)) ∧ Aside0 (kq ≤ k) ∧ Drawn0 w wc)
  case first =>
    have H := HC2.out
    clear HC2
    have H' := Aside0.mk H
    clear H
    go_wp2
    go_loopg [6] k (fun kq v6 w' => ∃ (x6_1 : Int), v6 = .int .i64 x6_1 ∧ Aside0 (protocol_head.l0 kq l0 x6_1 = some (r1, r2, r3, r4)) ∧ Aside0 (kq ≤ k) ∧ Drawn0 w w')
    case atStart => exact ⟨(0), (by first | rfl | (simp; done) | (simp [*]; done)), H', ⟨Nat.le_refl _⟩, by repeat (first | exact Drawn0.refl _ | apply Drawn0.step)⟩
    case round =>
      clear H'
      try clear c2
      try clear p2
      obtain ⟨x6_1, rfl, HA, HK1, ⟨m1, rfl⟩⟩ := hrel
      cases gk with
      | zero => exact absurd HA.out (by simp [protocol_head.l0])
      | succ k1 =>
        have H := HA.out
        clear HA
        simp only [protocol_head.l0] at H
        by_cases c3 : x6_1 < (l0.length : Int)
        · rw [if_pos c3] at H
          have c3b0 : decide (x6_1 < (l0.length : Int)) = true := decide_eq_true c3
          clear c3
          (first | rw [c3b0] | (simp only [i64_w, i32_w]; rw [c3b0]) | skip)
          by_cases c4 : 0 ≤ x6_1
          · rw [if_pos c4] at H
            have c4b0 : decide (0 ≤ x6_1) = true := decide_eq_true c4
            clear c4
            replace H := Option.bind_eq_some_iff.mp H
            obtain ⟨t120, A50, H⟩ := H
            replace H : (if t120 = true then (protocol_head.l0 k1 l0 (wrap64 (x6_1 + 1))) else (protocol_head.j1 k1 l0 x6_1)) = some (r1, r2, r3, r4) := H
            have A5 := Aside0.mk A50
            clear A50
            by_cases c6 : t120 = true
            · subst c6
              have H1 : (protocol_head.l0 k1 l0 (wrap64 (x6_1 + 1))) = some (r1, r2, r3, r4) := by rw [if_pos rfl] at H; exact H
              clear H
              have H := H1
              clear H1
              have H' := Aside0.mk H
              clear H
              have p119 : 0 ≤ (x6_1 : Int) := of_decide_eq_true (by first | (with_reducible assumption) | assumption)
              have q119 : x6_1 < (l0.length : Int) := of_decide_eq_true (by first | (with_reducible assumption) | assumption)
              obtain ⟨ad119, e119, hx119_0⟩ := Kd.at_int HR0.out x6_1 p119 q119
              cases e119
              replace p119 := eq_true p119
              replace q119 := eq_true q119
              go_wp2_with (first | (go_at_call 28; (with_reducible refine (protocol_upper.calls (rd l0 x6_1) true _ A5.out).mono ?_); rintro e w' ⟨rfl, ⟨nd, rfl⟩⟩))
              go_roundg k1
              case measure => have := HK1.out; omega
              case rel => exact ⟨(wrap64 (x6_1 + 1)), (by first | rfl | (simp; done) | (simp [*]; done)), H', ⟨by have := HK1.out; omega⟩, by repeat (first | exact Drawn0.refl _ | apply Drawn0.step)⟩
            · replace c6 := Bool.eq_false_iff.mpr c6
              subst c6
              have H1 : (protocol_head.j1 k1 l0 x6_1) = some (r1, r2, r3, r4) := by rw [if_neg (show ¬ (false = true) by decide)] at H; exact H
              clear H
              have H := H1
              clear H1
              have H' := Aside0.mk H
              clear H
              have p119 : 0 ≤ (x6_1 : Int) := of_decide_eq_true (by first | (with_reducible assumption) | assumption)
              have q119 : x6_1 < (l0.length : Int) := of_decide_eq_true (by first | (with_reducible assumption) | assumption)
              obtain ⟨ad119, e119, hx119_0⟩ := Kd.at_int HR0.out x6_1 p119 q119
              cases e119
              replace p119 := eq_true p119
              replace q119 := eq_true q119
              go_wp2_with (first | (go_at_call 28; (with_reducible refine (protocol_upper.calls (rd l0 x6_1) false _ A5.out).mono ?_); rintro e w' ⟨rfl, ⟨nd, rfl⟩⟩))
              go_meet
              case rel => exact ⟨_, (x6_1), (by first | rfl | (simp; done) | (simp [*]; done)), H', ⟨by have := HK1.out; first | omega | exact Nat.le_refl _⟩, by repeat (first | exact Drawn0.refl _ | apply Drawn0.step)⟩
          · rw [if_neg c4] at H
            exact absurd H (by simp)
        · rw [if_neg c3] at H
          have c3b0 : decide (x6_1 < (l0.length : Int)) = false := decide_eq_false c3
          clear c3
          (first | rw [c3b0] | (simp only [i64_w, i32_w]; rw [c3b0]) | skip)
          have H' := Aside0.mk H
          clear H
          go_wp2
          go_meet
          case rel => exact ⟨_, (x6_1), (by first | rfl | (simp; done) | (simp [*]; done)), H', ⟨by have := HK1.out; first | omega | exact Nat.le_refl _⟩, by repeat (first | exact Drawn0.refl _ | apply Drawn0.step)⟩
  case rest =>
    clear HC2
    try clear p1
    try clear q1
    try clear hx1
    try clear c2
    try clear p2
    try clear c3
    try clear c3b0
    try clear c4
    try clear c4b0
    try clear c6
    try clear p6
    try clear hx119_0
    try clear p119
    try clear p2
    try clear q119
    obtain ⟨kq, x6_1, rfl, HA, HJ1, ⟨mc1, rfl⟩⟩ := hcut
    cases kq with
    | zero => exact absurd HA.out (by simp [protocol_head.j1])
    | succ kj1 =>
      have H := HA.out
      clear HA
      simp only [protocol_head.j1] at H
      by_cases c7 : 0 ≤ x6_1
      · rw [if_pos c7] at H
        have c7b0 := eq_true c7
        have c7b1 : decide (0 ≤ x6_1) = true := decide_eq_true c7
        clear c7
        by_cases c8 : x6_1 ≤ (l0.length : Int)
        · rw [if_pos c8] at H
          have c8b0 := eq_true c8
          have c8b1 : decide (x6_1 ≤ (l0.length : Int)) = true := decide_eq_true c8
          clear c8
          have HC9 := Aside0.mk H
          clear H
          obtain ⟨i010, hi010, _, hsz10, _⟩ := info_parts info5
          obtain ⟨hcut10, hA10, hC10⟩ := print_take_of (P := Tryz.prog) (Value.int .u8) 0 24 5 .i64 Tryz.underlying24 hi010 hsz10 A0 c0 l0 x6_1 (of_decide_eq_true (by first | (with_reducible assumption) | assumption)) (of_decide_eq_true (by first | (with_reducible assumption) | assumption)) HC0.out
          have HR121 := Aside0.mk (Kd.C_of_reads (h1 := fun _ => rfl) (hA10 _ (Kd.reads_of_C HR0.out)))
          have HC121 := Aside0.mk hC10
          clear hA10 hC10 hi010 hsz10
          have hcv11 := fun (m_ : Nat) => Kd.C_string (P := Tryz.prog) (A := A0) (c := c0) Tryz.underlying24 Tryz.underlying5 Tryz.underlying9 (Kd.C_drewN HR121.out m_)
          rw [show (l0.take x6_1.toNat).length = x6_1.toNat from by have h1_ := of_decide_eq_true c7b1; have h2_ := of_decide_eq_true c8b1; rw [List.length_take]; omega] at hcv11
          go_upto_region 5 with (fail)
          go_cut [27] (fun v27 wc => ∃ (kq : Nat) (x27_8 : Bool), v27 = .bool x27_8 ∧ Aside0 (protocol_head.j2 kq l0 x6_1 (strOfNums (l0.take (x6_1 : Int).toNat)) x27_8 = some (r1, r2, r3, r4)) ∧ Aside0 (kq ≤ kj1) ∧ Drawn0 w wc)
          case first =>
            have H := HC9.out
            clear HC9
            by_cases c12 : x6_1 > 16
            · rw [if_pos c12] at H
              have c12b0 : decide (16 < x6_1) = true := decide_eq_true c12
              clear c12
              (first | rw [c12b0] | (simp only [i64_w, i32_w]; rw [c12b0]) | skip)
              have H' := Aside0.mk H
              clear H
              go_wp2
              go_meet
              case rel => exact ⟨_, (true), (by first | rfl | (simp; done) | (simp [*]; done)), H', ⟨by have := HJ1.out; first | omega | exact Nat.le_refl _⟩, by repeat (first | exact Drawn0.refl _ | apply Drawn0.step)⟩
            · rw [if_neg c12] at H
              have c12b0 : decide (16 < x6_1) = false := decide_eq_false c12
              clear c12
              (first | rw [c12b0] | (simp only [i64_w, i32_w]; rw [c12b0]) | skip)
              by_cases c13 : x6_1 < (l0.length : Int)
              · rw [if_pos c13] at H
                have c13b0 : decide (x6_1 < (l0.length : Int)) = true := decide_eq_true c13
                clear c13
                by_cases c14 : x6_1 = 0
                · rw [if_pos c14] at H
                  have c14b0 : (x6_1 == 0) = true := beq_iff_eq.mpr c14
                  have c14b1 : (x6_1 != 0) = false := bne_eq_false_iff_eq.mpr c14
                  clear c14
                  have H' := Aside0.mk H
                  clear H
                  go_wp2
                  go_meet
                  case rel => exact ⟨_, (true), (by first | rfl | (simp; done) | (simp [*]; done)), H', ⟨by have := HJ1.out; first | omega | exact Nat.le_refl _⟩, by repeat (first | exact Drawn0.refl _ | apply Drawn0.step)⟩
                · rw [if_neg c14] at H
                  have c14b0 : (x6_1 == 0) = false := beq_eq_false_iff_ne.mpr c14
                  have c14b1 : (x6_1 != 0) = true := bne_iff_ne.mpr c14
                  have H' := Aside0.mk H
                  clear H
                  have p122 : 0 ≤ (x6_1 : Int) := of_decide_eq_true (by first | (with_reducible assumption) | assumption)
                  have q122 : x6_1 < (l0.length : Int) := of_decide_eq_true (by first | (with_reducible assumption) | assumption)
                  obtain ⟨ad122, e122, hx122_0⟩ := Kd.at_int HR0.out x6_1 p122 q122
                  cases e122
                  replace p122 := eq_true p122
                  replace q122 := eq_true q122
                  go_wp2
                  go_meet
                  case rel => exact ⟨_, (((rd l0 x6_1) != 32)), (by first | rfl | (simp; done) | (simp [*]; done)), H', ⟨by have := HJ1.out; first | omega | exact Nat.le_refl _⟩, by repeat (first | exact Drawn0.refl _ | apply Drawn0.step)⟩
              · rw [if_neg c13] at H
                have c13b0 : decide (x6_1 < (l0.length : Int)) = false := decide_eq_false c13
                clear c13
                have H' := Aside0.mk H
                clear H
                go_wp2
                go_meet
                case rel => exact ⟨_, (false), (by first | rfl | (simp; done) | (simp [*]; done)), H', ⟨by have := HJ1.out; first | omega | exact Nat.le_refl _⟩, by repeat (first | exact Drawn0.refl _ | apply Drawn0.step)⟩
          case rest =>
            clear HC9
            try clear c1
            try clear p1
            try clear q1
            try clear hx1
            try clear hcv1
            try clear c2
            try clear p2
            try clear c3
            try clear c3b0
            try clear c4
            try clear c4b0
            try clear c6
            try clear p6
            try clear c7
            try clear c7b0
            try clear c7b1
            try clear c8
            try clear c8b0
            try clear c8b1
            try clear p11
            try clear q11
            try clear hx11
            try clear hcv11
            try clear c12
            try clear c12b0
            try clear p12
            try clear q12
            try clear hx12
            try clear c13
            try clear c13b0
            try clear c14
            try clear c14b0
            try clear c14b1
            try clear hx119_0
            try clear hx122_0
            try clear p1
            try clear p119
            try clear p122
            try clear p2
            try clear p6
            try clear q1
            try clear q119
            try clear q122
            obtain ⟨kq, x27_8, rfl, HA, HJ8, ⟨mc8, rfl⟩⟩ := hcut
            cases kq with
            | zero => exact absurd HA.out (by simp [protocol_head.j2])
            | succ kj8 =>
              have H := HA.out
              clear HA
              simp only [protocol_head.j2] at H
              by_cases c15 : x27_8 = true
              · subst c15
                have H1 : (some ((⟨#[]⟩ : ByteArray), 0, 0, 3)) = some (r1, r2, r3, r4) := by rw [if_pos rfl] at H; exact H
                clear H
                have H := H1
                clear H1
                simp only [Option.some.injEq, Prod.mk.injEq] at H
                obtain ⟨rfl, rfl, rfl, rfl⟩ := H
                go_wp2
                refine bodyPost_ret (results_list (rs := [.tmp 2, .tmp 3, .tmp 4, .tmp 5]) rfl (by simp) (.tmp (.tmp (.tmp (.tmp .nil))))) rfl ?_
                exact ⟨by first | rfl | (simp; done) | (simp [*]; done), by repeat (first | exact Drawn0.refl _ | apply Drawn0.step)⟩
              · replace c15 := Bool.eq_false_iff.mpr c15
                subst c15
                have H1 : (if x6_1 = (l0.length : Int) then (some ((⟨#[]⟩ : ByteArray), 0, 0, 9)) else (protocol_head.l1 kj8 l0 (wrap64 (x6_1 + 1)) (strOfNums (l0.take (x6_1 : Int).toNat)) 0 (wrap64 (x6_1 + 1)))) = some (r1, r2, r3, r4) := by rw [if_neg (show ¬ (false = true) by decide)] at H; exact H
                clear H
                have H := H1
                clear H1
                by_cases c16 : x6_1 = (l0.length : Int)
                · rw [if_pos c16] at H
                  have c16b0 : (x6_1 == (l0.length : Int)) = true := beq_iff_eq.mpr c16
                  have c16b1 : (x6_1 != (l0.length : Int)) = false := bne_eq_false_iff_eq.mpr c16
                  clear c16
                  simp only [Option.some.injEq, Prod.mk.injEq] at H
                  obtain ⟨rfl, rfl, rfl, rfl⟩ := H
                  go_wp2
                  refine bodyPost_ret (results_list (rs := [.tmp 2, .tmp 3, .tmp 4, .tmp 5]) rfl (by simp) (.tmp (.tmp (.tmp (.tmp .nil))))) rfl ?_
                  exact ⟨by first | rfl | (simp; done) | (simp [*]; done), by repeat (first | exact Drawn0.refl _ | apply Drawn0.step)⟩
                · rw [if_neg c16] at H
                  have c16b0 : (x6_1 == (l0.length : Int)) = false := beq_eq_false_iff_ne.mpr c16
                  have c16b1 : (x6_1 != (l0.length : Int)) = true := bne_iff_ne.mpr c16
                  have H' := Aside0.mk H
                  clear H
                  go_wp2
                  go_loopg [6, 8] kj8 (fun kq v6 v8 w' => ∃ (x6_3 : Int) (x8_3 : Int), v6 = .int .i64 x6_3 ∧ v8 = .int .i64 x8_3 ∧ Aside0 (protocol_head.l1 kq l0 x6_3 (strOfNums (l0.take (x6_1 : Int).toNat)) x8_3 (wrap64 (x6_1 + 1)) = some (r1, r2, r3, r4)) ∧ Aside0 (kq ≤ kj8) ∧ Drawn0 w w')
                  case atStart => exact ⟨(wrap64 (x6_1 + 1)), (0), (by first | rfl | (simp; done) | (simp [*]; done)), (by first | rfl | (simp; done) | (simp [*]; done)), H', ⟨Nat.le_refl _⟩, by repeat (first | exact Drawn0.refl _ | apply Drawn0.step)⟩
                  case round =>
                    clear H'
                    try clear c1
                    try clear p1
                    try clear q1
                    try clear hx1
                    try clear hcv1
                    try clear c2
                    try clear p2
                    try clear c3
                    try clear c3b0
                    try clear c4
                    try clear c4b0
                    try clear c6
                    try clear p6
                    try clear c7
                    try clear c7b0
                    try clear c7b1
                    try clear c8
                    try clear c8b0
                    try clear c8b1
                    try clear p11
                    try clear q11
                    try clear hx11
                    try clear hcv11
                    try clear c12
                    try clear c12b0
                    try clear p12
                    try clear q12
                    try clear hx12
                    try clear c13
                    try clear c13b0
                    try clear c14
                    try clear c14b0
                    try clear c14b1
                    try clear c15
                    try clear c16
                    try clear c16b0
                    try clear c16b1
                    try clear hx119_0
                    try clear hx122_0
                    try clear p1
                    try clear p11
                    try clear p119
                    try clear p12
                    try clear p122
                    try clear p2
                    try clear p6
                    try clear q1
                    try clear q11
                    try clear q119
                    try clear q12
                    try clear q122
                    obtain ⟨x6_3, x8_3, rfl, rfl, HA, HK3, ⟨m3, rfl⟩⟩ := hrel
                    cases gk with
                    | zero => exact absurd HA.out (by simp [protocol_head.l1])
                    | succ k3 =>
                      have H := HA.out
                      clear HA
                      simp only [protocol_head.l1] at H
                      have HC17 := Aside0.mk H
                      clear H
                      go_upto_region 11 with (fail)
                      go_cut [72] (fun v72 wc => ∃ (kq : Nat) (x72_16 : Bool), v72 = .bool x72_16 ∧ Aside0 (protocol_head.j4 kq l0 x6_3 (strOfNums (l0.take (x6_1 : Int).toNat)) x8_3 (wrap64 (x6_1 + 1)) x72_16 = some (r1, r2, r3, r4)) ∧ Aside0 (kq ≤ k3) ∧ Drawn0 w wc)
                      case first =>
                        have H := HC17.out
                        clear HC17
                        by_cases c18 : x6_3 < (l0.length : Int)
                        · rw [if_pos c18] at H
                          have c18b0 : decide (x6_3 < (l0.length : Int)) = true := decide_eq_true c18
                          clear c18
                          (first | rw [c18b0] | (simp only [i64_w, i32_w]; rw [c18b0]) | skip)
                          by_cases c19 : 0 ≤ x6_3
                          · rw [if_pos c19] at H
                            have c19b0 : decide (0 ≤ x6_3) = true := decide_eq_true c19
                            clear c19
                            by_cases c20 : (rd l0 x6_3) ≥ 48
                            · rw [if_pos c20] at H
                              have c20b0 : decide (48 ≤ (rd l0 x6_3)) = true := decide_eq_true c20
                              clear c20
                              have H' := Aside0.mk H
                              clear H
                              have p123 : 0 ≤ (x6_3 : Int) := of_decide_eq_true (by first | (with_reducible assumption) | assumption)
                              have q123 : x6_3 < (l0.length : Int) := of_decide_eq_true (by first | (with_reducible assumption) | assumption)
                              obtain ⟨ad123, e123, hx123_0⟩ := Kd.at_int HR0.out x6_3 p123 q123
                              cases e123
                              replace p123 := eq_true p123
                              replace q123 := eq_true q123
                              have p124 : 0 ≤ (x6_3 : Int) := of_decide_eq_true (by first | (with_reducible assumption) | assumption)
                              have q124 : x6_3 < (l0.length : Int) := of_decide_eq_true (by first | (with_reducible assumption) | assumption)
                              obtain ⟨ad124, e124, hx124_0⟩ := Kd.at_int HR0.out x6_3 p124 q124
                              obtain rfl : ad123 = ad124 := (by injection e124)
                              replace p124 := eq_true p124
                              replace q124 := eq_true q124
                              go_wp2
                              go_meet
                              case rel => exact ⟨_, (decide ((rd l0 x6_3) ≤ 57)), (by first | rfl | (simp; done) | (simp [*]; done)), H', ⟨by have := HJ1.out; have := HJ8.out; have := HK3.out; first | omega | exact Nat.le_refl _⟩, by repeat (first | exact Drawn0.refl _ | apply Drawn0.step)⟩
                            · rw [if_neg c20] at H
                              have c20b0 : decide (48 ≤ (rd l0 x6_3)) = false := decide_eq_false c20
                              clear c20
                              have H' := Aside0.mk H
                              clear H
                              have p123 : 0 ≤ (x6_3 : Int) := of_decide_eq_true (by first | (with_reducible assumption) | assumption)
                              have q123 : x6_3 < (l0.length : Int) := of_decide_eq_true (by first | (with_reducible assumption) | assumption)
                              obtain ⟨ad123, e123, hx123_0⟩ := Kd.at_int HR0.out x6_3 p123 q123
                              cases e123
                              replace p123 := eq_true p123
                              replace q123 := eq_true q123
                              go_wp2
                              go_meet
                              case rel => exact ⟨_, (false), (by first | rfl | (simp; done) | (simp [*]; done)), H', ⟨by have := HJ1.out; have := HJ8.out; have := HK3.out; first | omega | exact Nat.le_refl _⟩, by repeat (first | exact Drawn0.refl _ | apply Drawn0.step)⟩
                          · rw [if_neg c19] at H
                            exact absurd H (by simp)
                        · rw [if_neg c18] at H
                          have c18b0 : decide (x6_3 < (l0.length : Int)) = false := decide_eq_false c18
                          clear c18
                          (first | rw [c18b0] | (simp only [i64_w, i32_w]; rw [c18b0]) | skip)
                          have H' := Aside0.mk H
                          clear H
                          go_wp2
                          go_meet
                          case rel => exact ⟨_, (false), (by first | rfl | (simp; done) | (simp [*]; done)), H', ⟨by have := HJ1.out; have := HJ8.out; have := HK3.out; first | omega | exact Nat.le_refl _⟩, by repeat (first | exact Drawn0.refl _ | apply Drawn0.step)⟩
                      case rest =>
                        clear HC17
                        try clear c1
                        try clear p1
                        try clear q1
                        try clear hx1
                        try clear hcv1
                        try clear c2
                        try clear p2
                        try clear c3
                        try clear c3b0
                        try clear c4
                        try clear c4b0
                        try clear c6
                        try clear p6
                        try clear c7
                        try clear c7b0
                        try clear c7b1
                        try clear c8
                        try clear c8b0
                        try clear c8b1
                        try clear p11
                        try clear q11
                        try clear hx11
                        try clear hcv11
                        try clear c12
                        try clear c12b0
                        try clear p12
                        try clear q12
                        try clear hx12
                        try clear c13
                        try clear c13b0
                        try clear c14
                        try clear c14b0
                        try clear c14b1
                        try clear c15
                        try clear c16
                        try clear c16b0
                        try clear c16b1
                        try clear c18
                        try clear c18b0
                        try clear c19
                        try clear c19b0
                        try clear c20
                        try clear c20b0
                        try clear hx119_0
                        try clear hx122_0
                        try clear hx123_0
                        try clear hx124_0
                        try clear p1
                        try clear p11
                        try clear p119
                        try clear p12
                        try clear p122
                        try clear p123
                        try clear p124
                        try clear p2
                        try clear p6
                        try clear q1
                        try clear q11
                        try clear q119
                        try clear q12
                        try clear q122
                        try clear q123
                        try clear q124
                        obtain ⟨kq, x72_16, rfl, HA, HJ16, ⟨mc16, rfl⟩⟩ := hcut
                        cases kq with
                        | zero => exact absurd HA.out (by simp [protocol_head.j4])
                        | succ kj16 =>
                          have H := HA.out
                          clear HA
                          simp only [protocol_head.j4] at H
                          by_cases c21 : x72_16 = true
                          · subst c21
                            have H1 : (if 0 ≤ x6_3 then (if x6_3 < (l0.length : Int) then (if (wrap64 ((wrap64 (10 * x8_3)) + (((rd l0 x6_3) - 48) % 256))) > 1048576 then (some ((⟨#[]⟩ : ByteArray), 0, 0, 3)) else (if (wrap64 (x6_3 + 1)) > (wrap64 ((wrap64 (x6_1 + 1)) + 1)) then (if 0 ≤ (wrap64 (x6_1 + 1)) then (if (wrap64 (x6_1 + 1)) < (l0.length : Int) then (if (rd l0 (wrap64 (x6_1 + 1))) = 48 then (some ((⟨#[]⟩ : ByteArray), 0, 0, 3)) else (protocol_head.l1 kj16 l0 (wrap64 (x6_3 + 1)) (strOfNums (l0.take (x6_1 : Int).toNat)) (wrap64 ((wrap64 (10 * x8_3)) + (((rd l0 x6_3) - 48) % 256))) (wrap64 (x6_1 + 1)))) else (none)) else (none)) else (protocol_head.l1 kj16 l0 (wrap64 (x6_3 + 1)) (strOfNums (l0.take (x6_1 : Int).toNat)) (wrap64 ((wrap64 (10 * x8_3)) + (((rd l0 x6_3) - 48) % 256))) (wrap64 (x6_1 + 1))))) else (none)) else (none)) = some (r1, r2, r3, r4) := by rw [if_pos rfl] at H; exact H
                            clear H
                            have H := H1
                            clear H1
                            by_cases c22 : 0 ≤ x6_3
                            · rw [if_pos c22] at H
                              have c22b0 : decide (0 ≤ x6_3) = true := decide_eq_true c22
                              clear c22
                              by_cases c23 : x6_3 < (l0.length : Int)
                              · rw [if_pos c23] at H
                                have c23b0 : decide (x6_3 < (l0.length : Int)) = true := decide_eq_true c23
                                clear c23
                                by_cases c24 : (wrap64 ((wrap64 (10 * x8_3)) + (((rd l0 x6_3) - 48) % 256))) > 1048576
                                · rw [if_pos c24] at H
                                  have c24b0 : decide (1048576 < (wrap64 ((wrap64 (10 * x8_3)) + (((rd l0 x6_3) - 48) % 256)))) = true := decide_eq_true c24
                                  clear c24
                                  simp only [Option.some.injEq, Prod.mk.injEq] at H
                                  obtain ⟨rfl, rfl, rfl, rfl⟩ := H
                                  have p125 : 0 ≤ (x6_3 : Int) := of_decide_eq_true (by first | (with_reducible assumption) | assumption)
                                  have q125 : x6_3 < (l0.length : Int) := of_decide_eq_true (by first | (with_reducible assumption) | assumption)
                                  obtain ⟨ad125, e125, hx125_0⟩ := Kd.at_int HR0.out x6_3 p125 q125
                                  cases e125
                                  replace p125 := eq_true p125
                                  replace q125 := eq_true q125
                                  go_wp2
                                  refine bodyPost_ret (results_list (rs := [.tmp 2, .tmp 3, .tmp 4, .tmp 5]) rfl (by simp) (.tmp (.tmp (.tmp (.tmp .nil))))) rfl ?_
                                  exact ⟨by first | rfl | (simp; done) | (simp [*]; done), by repeat (first | exact Drawn0.refl _ | apply Drawn0.step)⟩
                                · rw [if_neg c24] at H
                                  have c24b0 : decide (1048576 < (wrap64 ((wrap64 (10 * x8_3)) + (((rd l0 x6_3) - 48) % 256)))) = false := decide_eq_false c24
                                  clear c24
                                  by_cases c25 : (wrap64 (x6_3 + 1)) > (wrap64 ((wrap64 (x6_1 + 1)) + 1))
                                  · rw [if_pos c25] at H
                                    have c25b0 : decide ((wrap64 ((wrap64 (x6_1 + 1)) + 1)) < (wrap64 (x6_3 + 1))) = true := decide_eq_true c25
                                    clear c25
                                    obtain ⟨ji26, hji26⟩ : ∃ j_ : Int, (wrap64 (x6_1 + 1)) = j_ := ⟨_, rfl⟩
                                    replace H : (if 0 ≤ (ji26) then (if (ji26) < (l0.length : Int) then (if (rd l0 (ji26)) = 48 then (some ((⟨#[]⟩ : ByteArray), 0, 0, 3)) else (protocol_head.l1 kj16 l0 (wrap64 (x6_3 + 1)) (strOfNums (l0.take (x6_1 : Int).toNat)) (wrap64 ((wrap64 (10 * x8_3)) + (((rd l0 x6_3) - 48) % 256))) (ji26))) else (none)) else (none)) = some (r1, r2, r3, r4) := by first | (rw [hji26] at H; exact H) | (simp only [hji26] at H ⊢; exact H)
                                    (try rw [hji26] at c25b0)
                                    have hji26w : (IntKind.i64.wrap (x6_1 + 1)) = ji26 := (i64_w _).trans hji26
                                    by_cases c27 : 0 ≤ (ji26)
                                    · rw [if_pos c27] at H
                                      have c27b0 : decide (0 ≤ (ji26)) = true := decide_eq_true c27
                                      clear c27
                                      by_cases c28 : (ji26) < (l0.length : Int)
                                      · rw [if_pos c28] at H
                                        have c28b0 : decide ((ji26) < (l0.length : Int)) = true := decide_eq_true c28
                                        clear c28
                                        by_cases c29 : (rd l0 (ji26)) = 48
                                        · rw [if_pos c29] at H
                                          have c29b0 : ((rd l0 (ji26)) == 48) = true := beq_iff_eq.mpr c29
                                          have c29b1 : ((rd l0 (ji26)) != 48) = false := bne_eq_false_iff_eq.mpr c29
                                          clear c29
                                          simp only [Option.some.injEq, Prod.mk.injEq] at H
                                          obtain ⟨rfl, rfl, rfl, rfl⟩ := H
                                          have p125 : 0 ≤ (x6_3 : Int) := of_decide_eq_true (by first | (with_reducible assumption) | assumption)
                                          have q125 : x6_3 < (l0.length : Int) := of_decide_eq_true (by first | (with_reducible assumption) | assumption)
                                          obtain ⟨ad125, e125, hx125_0⟩ := Kd.at_int HR0.out x6_3 p125 q125
                                          cases e125
                                          replace p125 := eq_true p125
                                          replace q125 := eq_true q125
                                          have p126 : 0 ≤ ((ji26) : Int) := of_decide_eq_true (by first | (with_reducible assumption) | assumption)
                                          have q126 : (ji26) < (l0.length : Int) := of_decide_eq_true (by first | (with_reducible assumption) | assumption)
                                          obtain ⟨ad126, e126, hx126_0⟩ := Kd.at_int HR0.out (ji26) p126 q126
                                          obtain rfl : ad125 = ad126 := (by injection e126)
                                          replace p126 := eq_true p126
                                          replace q126 := eq_true q126
                                          go_wp2
                                          refine bodyPost_ret (results_list (rs := [.tmp 2, .tmp 3, .tmp 4, .tmp 5]) rfl (by simp) (.tmp (.tmp (.tmp (.tmp .nil))))) rfl ?_
                                          exact ⟨by first | rfl | (simp; done) | (simp only [← hji26] <;> (first | rfl | simp)) | (simp [*]; done), by repeat (first | exact Drawn0.refl _ | apply Drawn0.step)⟩
                                        · rw [if_neg c29] at H
                                          have c29b0 : ((rd l0 (ji26)) == 48) = false := beq_eq_false_iff_ne.mpr c29
                                          have c29b1 : ((rd l0 (ji26)) != 48) = true := bne_iff_ne.mpr c29
                                          have H' := Aside0.mk H
                                          clear H
                                          have p125 : 0 ≤ (x6_3 : Int) := of_decide_eq_true (by first | (with_reducible assumption) | assumption)
                                          have q125 : x6_3 < (l0.length : Int) := of_decide_eq_true (by first | (with_reducible assumption) | assumption)
                                          obtain ⟨ad125, e125, hx125_0⟩ := Kd.at_int HR0.out x6_3 p125 q125
                                          cases e125
                                          replace p125 := eq_true p125
                                          replace q125 := eq_true q125
                                          have p126 : 0 ≤ ((ji26) : Int) := of_decide_eq_true (by first | (with_reducible assumption) | assumption)
                                          have q126 : (ji26) < (l0.length : Int) := of_decide_eq_true (by first | (with_reducible assumption) | assumption)
                                          obtain ⟨ad126, e126, hx126_0⟩ := Kd.at_int HR0.out (ji26) p126 q126
                                          obtain rfl : ad125 = ad126 := (by injection e126)
                                          replace p126 := eq_true p126
                                          replace q126 := eq_true q126
                                          go_wp2
                                          subst hji26
                                          go_roundg kj16
                                          case measure => have := HJ1.out; have := HJ8.out; have := HK3.out; have := HJ16.out; omega
                                          case rel => exact ⟨(wrap64 (x6_3 + 1)), (wrap64 ((wrap64 (10 * x8_3)) + (((rd l0 x6_3) - 48) % 256))), (by first | rfl | (simp; done) | (simp [*]; done)), (by first | rfl | (simp; done) | (simp [*]; done)), H', ⟨by have := HJ1.out; have := HJ8.out; have := HK3.out; have := HJ16.out; omega⟩, by repeat (first | exact Drawn0.refl _ | apply Drawn0.step)⟩
                                      · rw [if_neg c28] at H
                                        exact absurd H (by simp)
                                    · rw [if_neg c27] at H
                                      exact absurd H (by simp)
                                  · rw [if_neg c25] at H
                                    have c25b0 : decide ((wrap64 ((wrap64 (x6_1 + 1)) + 1)) < (wrap64 (x6_3 + 1))) = false := decide_eq_false c25
                                    clear c25
                                    have H' := Aside0.mk H
                                    clear H
                                    have p125 : 0 ≤ (x6_3 : Int) := of_decide_eq_true (by first | (with_reducible assumption) | assumption)
                                    have q125 : x6_3 < (l0.length : Int) := of_decide_eq_true (by first | (with_reducible assumption) | assumption)
                                    obtain ⟨ad125, e125, hx125_0⟩ := Kd.at_int HR0.out x6_3 p125 q125
                                    cases e125
                                    replace p125 := eq_true p125
                                    replace q125 := eq_true q125
                                    go_wp2
                                    go_roundg kj16
                                    case measure => have := HJ1.out; have := HJ8.out; have := HK3.out; have := HJ16.out; omega
                                    case rel => exact ⟨(wrap64 (x6_3 + 1)), (wrap64 ((wrap64 (10 * x8_3)) + (((rd l0 x6_3) - 48) % 256))), (by first | rfl | (simp; done) | (simp [*]; done)), (by first | rfl | (simp; done) | (simp [*]; done)), H', ⟨by have := HJ1.out; have := HJ8.out; have := HK3.out; have := HJ16.out; omega⟩, by repeat (first | exact Drawn0.refl _ | apply Drawn0.step)⟩
                              · rw [if_neg c23] at H
                                exact absurd H (by simp)
                            · rw [if_neg c22] at H
                              exact absurd H (by simp)
                          · replace c21 := Bool.eq_false_iff.mpr c21
                            subst c21
                            have H1 : (if x6_3 = (l0.length : Int) then (some ((⟨#[]⟩ : ByteArray), 0, 0, 9)) else (if x6_3 = (wrap64 (x6_1 + 1)) then (some ((⟨#[]⟩ : ByteArray), 0, 0, 3)) else (if 0 ≤ x6_3 then (if x6_3 < (l0.length : Int) then (if (rd l0 x6_3) = 10 then (some ((strOfNums (l0.take (x6_1 : Int).toNat)), x8_3, wrap64 (x6_3 + 1), 0)) else (some ((⟨#[]⟩ : ByteArray), 0, 0, 3))) else (none)) else (none)))) = some (r1, r2, r3, r4) := by rw [if_neg (show ¬ (false = true) by decide)] at H; exact H
                            clear H
                            have H := H1
                            clear H1
                            by_cases c30 : x6_3 = (l0.length : Int)
                            · rw [if_pos c30] at H
                              have c30b0 : (x6_3 == (l0.length : Int)) = true := beq_iff_eq.mpr c30
                              have c30b1 : (x6_3 != (l0.length : Int)) = false := bne_eq_false_iff_eq.mpr c30
                              clear c30
                              simp only [Option.some.injEq, Prod.mk.injEq] at H
                              obtain ⟨rfl, rfl, rfl, rfl⟩ := H
                              go_wp2
                              refine bodyPost_ret (results_list (rs := [.tmp 2, .tmp 3, .tmp 4, .tmp 5]) rfl (by simp) (.tmp (.tmp (.tmp (.tmp .nil))))) rfl ?_
                              exact ⟨by first | rfl | (simp; done) | (simp [*]; done), by repeat (first | exact Drawn0.refl _ | apply Drawn0.step)⟩
                            · rw [if_neg c30] at H
                              have c30b0 : (x6_3 == (l0.length : Int)) = false := beq_eq_false_iff_ne.mpr c30
                              have c30b1 : (x6_3 != (l0.length : Int)) = true := bne_iff_ne.mpr c30
                              by_cases c31 : x6_3 = (wrap64 (x6_1 + 1))
                              · rw [if_pos c31] at H
                                have c31b0 : (x6_3 == (wrap64 (x6_1 + 1))) = true := beq_iff_eq.mpr c31
                                have c31b1 : (x6_3 != (wrap64 (x6_1 + 1))) = false := bne_eq_false_iff_eq.mpr c31
                                clear c31
                                simp only [Option.some.injEq, Prod.mk.injEq] at H
                                obtain ⟨rfl, rfl, rfl, rfl⟩ := H
                                go_wp2
                                refine bodyPost_ret (results_list (rs := [.tmp 2, .tmp 3, .tmp 4, .tmp 5]) rfl (by simp) (.tmp (.tmp (.tmp (.tmp .nil))))) rfl ?_
                                exact ⟨by first | rfl | (simp; done) | (simp [*]; done), by repeat (first | exact Drawn0.refl _ | apply Drawn0.step)⟩
                              · rw [if_neg c31] at H
                                have c31b0 : (x6_3 == (wrap64 (x6_1 + 1))) = false := beq_eq_false_iff_ne.mpr c31
                                have c31b1 : (x6_3 != (wrap64 (x6_1 + 1))) = true := bne_iff_ne.mpr c31
                                by_cases c32 : 0 ≤ x6_3
                                · rw [if_pos c32] at H
                                  have c32b0 : decide (0 ≤ x6_3) = true := decide_eq_true c32
                                  clear c32
                                  by_cases c33 : x6_3 < (l0.length : Int)
                                  · rw [if_pos c33] at H
                                    have c33b0 : decide (x6_3 < (l0.length : Int)) = true := decide_eq_true c33
                                    clear c33
                                    by_cases c34 : (rd l0 x6_3) = 10
                                    · rw [if_pos c34] at H
                                      have c34b0 : ((rd l0 x6_3) == 10) = true := beq_iff_eq.mpr c34
                                      have c34b1 : ((rd l0 x6_3) != 10) = false := bne_eq_false_iff_eq.mpr c34
                                      clear c34
                                      simp only [Option.some.injEq, Prod.mk.injEq] at H
                                      obtain ⟨rfl, rfl, rfl, rfl⟩ := H
                                      have p127 : 0 ≤ (x6_3 : Int) := of_decide_eq_true (by first | (with_reducible assumption) | assumption)
                                      have q127 : x6_3 < (l0.length : Int) := of_decide_eq_true (by first | (with_reducible assumption) | assumption)
                                      obtain ⟨ad127, e127, hx127_0⟩ := Kd.at_int HR0.out x6_3 p127 q127
                                      cases e127
                                      replace p127 := eq_true p127
                                      replace q127 := eq_true q127
                                      go_wp2
                                      refine bodyPost_ret (results_list (rs := [.tmp 2, .tmp 3, .tmp 4, .tmp 5]) rfl (by simp) (.tmp (.tmp (.tmp (.tmp .nil))))) rfl ?_
                                      exact ⟨by first | rfl | (simp; done) | (simp [*]; done), by repeat (first | exact Drawn0.refl _ | apply Drawn0.step)⟩
                                    · rw [if_neg c34] at H
                                      have c34b0 : ((rd l0 x6_3) == 10) = false := beq_eq_false_iff_ne.mpr c34
                                      have c34b1 : ((rd l0 x6_3) != 10) = true := bne_iff_ne.mpr c34
                                      simp only [Option.some.injEq, Prod.mk.injEq] at H
                                      obtain ⟨rfl, rfl, rfl, rfl⟩ := H
                                      have p127 : 0 ≤ (x6_3 : Int) := of_decide_eq_true (by first | (with_reducible assumption) | assumption)
                                      have q127 : x6_3 < (l0.length : Int) := of_decide_eq_true (by first | (with_reducible assumption) | assumption)
                                      obtain ⟨ad127, e127, hx127_0⟩ := Kd.at_int HR0.out x6_3 p127 q127
                                      cases e127
                                      replace p127 := eq_true p127
                                      replace q127 := eq_true q127
                                      go_wp2
                                      refine bodyPost_ret (results_list (rs := [.tmp 2, .tmp 3, .tmp 4, .tmp 5]) rfl (by simp) (.tmp (.tmp (.tmp (.tmp .nil))))) rfl ?_
                                      exact ⟨by first | rfl | (simp; done) | (simp [*]; done), by repeat (first | exact Drawn0.refl _ | apply Drawn0.step)⟩
                                  · rw [if_neg c33] at H
                                    exact absurd H (by simp)
                                · rw [if_neg c32] at H
                                  exact absurd H (by simp)
        · rw [if_neg c8] at H
          exact absurd H (by simp)
      · rw [if_neg c7] at H
        exact absurd H (by simp)

end Go.Proofs.YtnineihfjbbmpaaGreatDoor.P
