-- PRINTED by print.py (a twelfth state) out of the translation. Not trusted: Lean checks it.
import Derived.Test.YtnineihfjbbmpaaGreatDoorPx0
import Derived.Test.YtnineihfjbbmpaaGreatDoorPx2
import Derived.Test.YtnineihfjbbmpaaGreatDoorPx3
namespace Go.Proofs.YtnineihfjbbmpaaGreatDoor.P
open Go.RowKit Go.Proofs.YtnineihfjbbmpaaGreatDoorW.PrintWords Go.Proofs.YtnineihfjbbmpaaGreatDoorW.PrintLast Go.Proofs.YtnineihfjbbmpaaGreatDoorW.PrintMore
attribute [local go_sem] max2_int min2_int max_two min_two max_three min_three max_four min_four   -- for this text's walks alone
set_option linter.unusedVariables false
set_option linter.unusedSimpArgs false

/-! ### protocol_Decode: function 10 -/
def protocol_Decode.j0 : Nat → List Int → ByteArray → Int → Int → Int → Bool → Option (ByteArray × ByteArray × Int × Int)
  | 0, _, _, _, _, _, _ => none
  | k + 1, x0, x5, x6, x7, x8, x25 => if x25 = true then (if 9 = 0 then (if 0 ≤ x7 then (if x7 ≤ (wrap64 (x7 + x6)) then (if (wrap64 (x7 + x6)) ≤ (x0.length : Int) then (some (x5, strOfNums ((x0.take ((wrap64 (x7 + x6)) : Int).toNat).drop (x7 : Int).toNat), wrap64 (x7 + x6), 0)) else (none)) else (none)) else (none)) else (some ((⟨#[]⟩ : ByteArray), (⟨#[]⟩ : ByteArray), 0, 9))) else (if x8 = 0 then (if 0 ≤ x7 then (if x7 ≤ (wrap64 (x7 + x6)) then (if (wrap64 (x7 + x6)) ≤ (x0.length : Int) then (some (x5, strOfNums ((x0.take ((wrap64 (x7 + x6)) : Int).toNat).drop (x7 : Int).toNat), wrap64 (x7 + x6), 0)) else (none)) else (none)) else (none)) else (some ((⟨#[]⟩ : ByteArray), (⟨#[]⟩ : ByteArray), 0, x8)))
def protocol_Decode.f (k : Nat) (l0 : List Int) : Option (ByteArray × ByteArray × Int × Int) := (protocol_head.f k l0).bind fun bt129 => (if bt129.2.2.2 = 0 then (protocol_Decode.j0 k l0 bt129.1 bt129.2.1 bt129.2.2.1 bt129.2.2.2 (decide ((wrap64 ((l0.length : Int) - bt129.2.2.1)) < bt129.2.1))) else (protocol_Decode.j0 k l0 bt129.1 bt129.2.1 bt129.2.2.1 bt129.2.2.2 false))
theorem protocol_Decode.mono_l : ∀ k, (∀ y0 y1 y2 y3 y4 y5, LeO (protocol_Decode.j0 k y0 y1 y2 y3 y4 y5) (protocol_Decode.j0 (k + 1) y0 y1 y2 y3 y4 y5))
  | 0 => fun _ _ _ _ _ _ r h => by simp [protocol_Decode.j0] at h
  | k + 1 => by
    have ih0 := protocol_Decode.mono_l k
    · intro y0 y1 y2 y3 y4 y5
      unfold protocol_Decode.j0
      repeat' first
      | (with_reducible exact ih0 _ _ _ _ _ _)
      | (with_reducible exact protocol_head.mono _ _)
      | (with_reducible exact LeO.refl _)
      | (with_reducible exact LeO.none _)
      | (with_reducible refine LeO.ite ?_ ?_)
      | (with_reducible refine LeO.bind ?_ (fun _ => ?_))
      | exact ih0 _ _ _ _ _ _
      | exact protocol_head.mono _ _
      | exact LeO.none _
      | refine LeO.ite ?_ ?_
      | refine LeO.bind ?_ (fun _ => ?_)
theorem protocol_Decode.mono : ∀ a0 k, LeO (protocol_Decode.f k a0) (protocol_Decode.f (k + 1) a0) := by
  intro a0 k
  have ih0 := protocol_Decode.mono_l k
  unfold protocol_Decode.f
  repeat' first
      | (with_reducible exact ih0 _ _ _ _ _ _)
      | (with_reducible exact protocol_head.mono _ _)
      | (with_reducible exact LeO.refl _)
      | (with_reducible exact LeO.none _)
      | (with_reducible refine LeO.ite ?_ ?_)
      | (with_reducible refine LeO.bind ?_ (fun _ => ?_))
      | exact ih0 _ _ _ _ _ _
      | exact protocol_head.mono _ _
      | exact LeO.none _
      | refine LeO.ite ?_ ?_
      | refine LeO.bind ?_ (fun _ => ?_)
set_option maxHeartbeats 8000000 in
set_option maxRecDepth 100000 in
theorem protocol_Decode.calls (k : Nat) (A0 : Option Addr) (c0 : Nat) (l0 : List Int) (r1 : ByteArray) (r2 : ByteArray) (r3 : Int) (r4 : Int) (w : World) (hr0 : Kd.C (Kd.int .u8) w A0 l0.length l0) (hc0 : l0.length ≤ c0) (h : protocol_Decode.f k l0 = some (r1, r2, r3, r4)) :
    Calls Tryz.prog 10 #[.slice A0 l0.length c0] w fun e w' => e = .returned (.tuple #[.agg #[.string r1, .string r2], .int .i64 r3, .int .i64 r4]) ∧ Below w.heap.size w w' := by
  have hu23 := Tryz.underlying23
  have HR0 := Aside0.mk hr0
  have HC0 := Aside0.mk hc0
  clear hr0 hc0
  have HB := Aside0.mk (Below.refl w.heap.size w)
  have H : ((protocol_head.f k l0).bind fun bt129 => (if bt129.2.2.2 = 0 then (protocol_Decode.j0 k l0 bt129.1 bt129.2.1 bt129.2.2.1 bt129.2.2.2 (decide ((wrap64 ((l0.length : Int) - bt129.2.2.1)) < bt129.2.1))) else (protocol_Decode.j0 k l0 bt129.1 bt129.2.1 bt129.2.2.1 bt129.2.2.2 false))) = some (r1, r2, r3, r4) := h
  clear h
  replace H := Option.bind_eq_some_iff.mp H
  obtain ⟨⟨t129, t130, t131, t132⟩, A20, H⟩ := H
  replace H : (if t132 = 0 then (protocol_Decode.j0 k l0 t129 t130 t131 t132 (decide ((wrap64 ((l0.length : Int) - t131)) < t130))) else (protocol_Decode.j0 k l0 t129 t130 t131 t132 false)) = some (r1, r2, r3, r4) := H
  have A2 := Aside0.mk A20
  clear A20
  have HC3 := Aside0.mk H
  clear H
  go_enter Tryz.func10, Tryz.ntmps10
  go_upto_region 2 with (first | ((with_reducible refine gate_dst (N := 2) rfl ?_); (try (refine gate_guard (by rfl) ?_; dsimp only)); refine box_event ?hg (N := 2) ?hd (cs := #[.string (⟨#[]⟩ : ByteArray), .string (⟨#[]⟩ : ByteArray)]) (t := 23) ?hr ?_; (case hd => rfl); (case hg => rfl); (case hr => first | (go_simp; done) | (go_simp; rfl)); intro gb128 hg w4 hbox hb; have n0_ := Aside0.mk (below_step (by repeat (first | (with_reducible first | exact HB.out | apply below_alloc | apply pw_below_drewN | apply below_drew1) | exact HB.out)) hb); have n1_ := Aside0.mk (hbox); have n2_ := Aside0.mk ((by rw [hg]; exact (below_size (by repeat (first | (with_reducible first | exact HB.out | apply below_alloc | apply pw_below_drewN | apply below_drew1) | exact HB.out))) : w.heap.size ≤ gb128)); have n3_ := Aside0.mk ((by rw [hg]; exact (below_size (by repeat (first | (with_reducible first | exact HB.out | apply below_alloc | apply pw_below_drewN | apply below_drew1) | exact HB.out))) : w.heap.size ≤ gb128)); clear HB; have HB := n0_; have BK128 := n1_; have GW128 := n2_; have GE128 := n3_; clear n0_ n1_ n2_ n3_; clear hb hbox hg) | ((with_reducible refine gate_callee (f := 22) rfl ?_); refine goesL_ (some 11) rfl rfl Tryz.func22 (by kernel_rfl) rfl #[.slice A0 l0.length c0] rfl (by (try simp only [List.map_toArray, List.map_cons, List.map_nil]); first | done | rfl | (simp only [List.length_drop, List.length_take]; rfl)) ?_; (with_reducible refine (protocol_head.calls k _ _ l0 t129 t130 t131 t132 _ ?side1 ?side2 A2.out).mono ?_); (case side1 => repeat (first | exact (Kd.C_below HR0.out HB.out) | (with_reducible refine Kd.C_alloc ?_ _) | (with_reducible refine Kd.C_drewN ?_ _) | (with_reducible refine Kd.C_drew ?_))); (case side2 => exact HC0.out); rintro e w' ⟨rfl, ⟨nd, rfl⟩⟩; refine ⟨_, rfl, ?_⟩))
  (try simp only [Act.put, List.setIfInBounds_toArray, List.set_cons_zero, List.set_cons_succ])
  go_cut [25] (fun v25 wc => ∃ (kq : Nat) (x25_2 : Bool), v25 = .bool x25_2 ∧ Aside0 (protocol_Decode.j0 kq l0 t129 t130 t131 t132 x25_2 = some (r1, r2, r3, r4)) ∧ Aside0 (kq ≤ k) ∧ Aside0 (wc.heap[gb128]? = some (.cells #[.string (⟨#[]⟩ : ByteArray), .string (⟨#[]⟩ : ByteArray)] 23 (0, 0))) ∧ Aside0 (Below w.heap.size w wc))
  case first =>
    have H := HC3.out
    clear HC3
    by_cases c5 : t132 = 0
    · rw [if_pos c5] at H
      have c5b0 : (t132 == 0) = true := beq_iff_eq.mpr c5
      have c5b1 : (t132 != 0) = false := bne_eq_false_iff_eq.mpr c5
      clear c5
      (first | rw [c5b0] | (simp only [i64_w, i32_w]; rw [c5b0]) | skip)
      have H' := Aside0.mk H
      clear H
      go_wp2
      go_meet
      case rel => exact ⟨_, (decide ((wrap64 ((l0.length : Int) - t131)) < t130)), (by first | rfl | (simp; done) | (simp [*]; done)), H', ⟨by first | omega | exact Nat.le_refl _⟩, ⟨by (with_reducible repeat (first | refine blk_drewN ?_ _ | refine blk_drew ?_ | refine blk_alloc ?_ _)); exact BK128.out⟩, ⟨by repeat (first | (with_reducible first | exact HB.out | apply below_alloc | apply pw_below_drewN | apply below_drew1 | refine below_set ?_ GE128.out) | exact HB.out)⟩⟩
    · rw [if_neg c5] at H
      have c5b0 : (t132 == 0) = false := beq_eq_false_iff_ne.mpr c5
      have c5b1 : (t132 != 0) = true := bne_iff_ne.mpr c5
      (first | rw [c5b0] | (simp only [i64_w, i32_w]; rw [c5b0]) | skip)
      have H' := Aside0.mk H
      clear H
      go_wp2
      go_meet
      case rel => exact ⟨_, (false), (by first | rfl | (simp; done) | (simp [*]; done)), H', ⟨by first | omega | exact Nat.le_refl _⟩, ⟨by (with_reducible repeat (first | refine blk_drewN ?_ _ | refine blk_drew ?_ | refine blk_alloc ?_ _)); exact BK128.out⟩, ⟨by repeat (first | (with_reducible first | exact HB.out | apply below_alloc | apply pw_below_drewN | apply below_drew1 | refine below_set ?_ GE128.out) | exact HB.out)⟩⟩
  case rest =>
    clear HC3
    try clear c1
    try clear c2
    try clear p2
    try clear c5
    try clear c5b0
    try clear c5b1
    obtain ⟨kq, x25_2, rfl, HA, HJ2, BK128, HB⟩ := hcut
    cases kq with
    | zero => exact absurd HA.out (by simp [protocol_Decode.j0])
    | succ kj2 =>
      have H := HA.out
      clear HA
      simp only [protocol_Decode.j0] at H
      by_cases c6 : x25_2 = true
      · subst c6
        have H1 : (if 9 = 0 then (if 0 ≤ t131 then (if t131 ≤ (wrap64 (t131 + t130)) then (if (wrap64 (t131 + t130)) ≤ (l0.length : Int) then (some (t129, strOfNums ((l0.take ((wrap64 (t131 + t130)) : Int).toNat).drop (t131 : Int).toNat), wrap64 (t131 + t130), 0)) else (none)) else (none)) else (none)) else (some ((⟨#[]⟩ : ByteArray), (⟨#[]⟩ : ByteArray), 0, 9))) = some (r1, r2, r3, r4) := by rw [if_pos rfl] at H; exact H
        clear H
        have H := H1
        clear H1
        by_cases c7 : 9 = 0
        · exact absurd c7 (by decide)
        · rw [if_neg c7] at H
          have c7b0 : (9 == 0) = false := beq_eq_false_iff_ne.mpr c7
          have c7b1 : (9 != 0) = true := bne_iff_ne.mpr c7
          simp only [Option.some.injEq, Prod.mk.injEq] at H
          obtain ⟨rfl, rfl, rfl, rfl⟩ := H
          have hcz14_0 : wc.cell? ⟨gb128, 0, none⟩ = some (.string (⟨#[]⟩ : ByteArray)) := (blk_cell BK128.out 0).trans rfl
          have hcz14_1 : wc.cell? ⟨gb128, 1, none⟩ = some (.string (⟨#[]⟩ : ByteArray)) := (blk_cell BK128.out 1).trans rfl
          have hfz14_0 := blk_frozen BK128.out 0
          have hfz14_1 := blk_frozen BK128.out 1
          go_wp2
          refine bodyPost_ret (results_ctt rfl _ _ gb128 23 #[.string (⟨#[]⟩ : ByteArray), .string (⟨#[]⟩ : ByteArray)] (0, 0) _ rfl (by (with_reducible repeat (first | refine blk_drewN ?_ _ | refine blk_drew ?_ | refine blk_alloc ?_ _)); refine blk_put (cs := #[.string (⟨#[]⟩ : ByteArray), .string (⟨#[]⟩ : ByteArray)]) ?_ 1 _ rfl; (with_reducible repeat (first | refine blk_drewN ?_ _ | refine blk_drew ?_ | refine blk_alloc ?_ _)); refine blk_put (cs := #[.string (⟨#[]⟩ : ByteArray), .string (⟨#[]⟩ : ByteArray)]) ?_ 0 _ rfl; (with_reducible repeat (first | refine blk_drewN ?_ _ | refine blk_drew ?_ | refine blk_alloc ?_ _)); exact BK128.out) Tryz.underlying23 rfl (by kernel_rfl)) rfl ?_
          exact ⟨by first | rfl | (simp [errW_none, errW_some] <;> rfl) | (simp [*, errW_none, errW_some] <;> rfl), by repeat (first | (with_reducible first | exact HB.out | apply below_alloc | apply pw_below_drewN | apply below_drew1 | refine below_set ?_ GE128.out) | exact HB.out)⟩
      · replace c6 := Bool.eq_false_iff.mpr c6
        subst c6
        have H1 : (if t132 = 0 then (if 0 ≤ t131 then (if t131 ≤ (wrap64 (t131 + t130)) then (if (wrap64 (t131 + t130)) ≤ (l0.length : Int) then (some (t129, strOfNums ((l0.take ((wrap64 (t131 + t130)) : Int).toNat).drop (t131 : Int).toNat), wrap64 (t131 + t130), 0)) else (none)) else (none)) else (none)) else (some ((⟨#[]⟩ : ByteArray), (⟨#[]⟩ : ByteArray), 0, t132))) = some (r1, r2, r3, r4) := by rw [if_neg (show ¬ (false = true) by decide)] at H; exact H
        clear H
        have H := H1
        clear H1
        by_cases c15 : t132 = 0
        · rw [if_pos c15] at H
          have c15b0 : (t132 == 0) = true := beq_iff_eq.mpr c15
          have c15b1 : (t132 != 0) = false := bne_eq_false_iff_eq.mpr c15
          clear c15
          by_cases c16 : 0 ≤ t131
          · rw [if_pos c16] at H
            have c16b0 := eq_true c16
            have c16b1 : decide (0 ≤ t131) = true := decide_eq_true c16
            clear c16
            by_cases c17 : t131 ≤ (wrap64 (t131 + t130))
            · rw [if_pos c17] at H
              have c17b0 := eq_true c17
              have c17b1 : decide (t131 ≤ (wrap64 (t131 + t130))) = true := decide_eq_true c17
              by_cases c18 : (wrap64 (t131 + t130)) ≤ (l0.length : Int)
              · rw [if_pos c18] at H
                have c18b0 := eq_true c18
                have c18b1 : decide ((wrap64 (t131 + t130)) ≤ (l0.length : Int)) = true := decide_eq_true c18
                simp only [Option.some.injEq, Prod.mk.injEq] at H
                obtain ⟨rfl, rfl, rfl, rfl⟩ := H
                obtain ⟨i019, hi019, _, hsz19, _⟩ := info_parts info5
                obtain ⟨A19, hcut19, hA19, hC19⟩ := print_mid_of (P := Tryz.prog) (Value.int .u8) 0 24 5 .i64 .i64 Tryz.underlying24 hi019 hsz19 A0 c0 l0 t131 (wrap64 (t131 + t130)) (of_decide_eq_true (by first | (with_reducible assumption) | assumption)) (by first | omega | exact of_decide_eq_true (by first | (with_reducible assumption) | assumption)) (of_decide_eq_true (by first | (with_reducible assumption) | assumption)) HC0.out
                have HR134 := Aside0.mk (Kd.C_of_reads (h1 := fun _ => rfl) (hA19 _ (Kd.reads_of_C HR0.out)))
                have HC134 := Aside0.mk hC19
                clear hA19 hC19 hi019 hsz19
                have hcv20 := Kd.C_string (P := Tryz.prog) (A := A19) (c := (c0 - t131.toNat)) Tryz.underlying24 Tryz.underlying5 Tryz.underlying9 (Kd.C_below HR134.out HB.out)
                obtain ⟨mq20, hmq20⟩ : ∃ m_ : Nat, ((l0.take ((wrap64 (t131 + t130))).toNat).drop (t131).toNat).length = m_ := ⟨_, rfl⟩
                rw [hmq20] at hcut19 hcv20
                clear hmq20
                have hcz21_0 : wc.cell? ⟨gb128, 0, none⟩ = some (.string (⟨#[]⟩ : ByteArray)) := (blk_cell BK128.out 0).trans rfl
                have hcz21_1 : wc.cell? ⟨gb128, 1, none⟩ = some (.string (⟨#[]⟩ : ByteArray)) := (blk_cell BK128.out 1).trans rfl
                have hfz21_0 := blk_frozen BK128.out 0
                have hfz21_1 := blk_frozen BK128.out 1
                go_wp2
                refine bodyPost_ret (results_ctt rfl _ _ gb128 23 #[.string t129, .string (strOfNums ((l0.take ((wrap64 (t131 + t130)) : Int).toNat).drop (t131 : Int).toNat))] (0, 0) _ rfl (by (with_reducible repeat (first | refine blk_drewN ?_ _ | refine blk_drew ?_ | refine blk_alloc ?_ _)); refine blk_put (cs := #[.string t129, .string (⟨#[]⟩ : ByteArray)]) ?_ 1 _ rfl; (with_reducible repeat (first | refine blk_drewN ?_ _ | refine blk_drew ?_ | refine blk_alloc ?_ _)); refine blk_put (cs := #[.string (⟨#[]⟩ : ByteArray), .string (⟨#[]⟩ : ByteArray)]) ?_ 0 _ rfl; (with_reducible repeat (first | refine blk_drewN ?_ _ | refine blk_drew ?_ | refine blk_alloc ?_ _)); exact BK128.out) Tryz.underlying23 rfl (by kernel_rfl)) rfl ?_
                exact ⟨by first | rfl | (simp [errW_none, errW_some] <;> rfl) | (simp [*, errW_none, errW_some] <;> rfl), by repeat (first | (with_reducible first | exact HB.out | apply below_alloc | apply pw_below_drewN | apply below_drew1 | refine below_set ?_ GE128.out) | exact HB.out)⟩
              · rw [if_neg c18] at H
                exact absurd H (by simp)
            · rw [if_neg c17] at H
              exact absurd H (by simp)
          · rw [if_neg c16] at H
            exact absurd H (by simp)
        · rw [if_neg c15] at H
          have c15b0 : (t132 == 0) = false := beq_eq_false_iff_ne.mpr c15
          have c15b1 : (t132 != 0) = true := bne_iff_ne.mpr c15
          simp only [Option.some.injEq, Prod.mk.injEq] at H
          obtain ⟨rfl, rfl, rfl, rfl⟩ := H
          have hcz22_0 : wc.cell? ⟨gb128, 0, none⟩ = some (.string (⟨#[]⟩ : ByteArray)) := (blk_cell BK128.out 0).trans rfl
          have hcz22_1 : wc.cell? ⟨gb128, 1, none⟩ = some (.string (⟨#[]⟩ : ByteArray)) := (blk_cell BK128.out 1).trans rfl
          have hfz22_0 := blk_frozen BK128.out 0
          have hfz22_1 := blk_frozen BK128.out 1
          go_wp2
          refine bodyPost_ret (results_ctt rfl _ _ gb128 23 #[.string (⟨#[]⟩ : ByteArray), .string (⟨#[]⟩ : ByteArray)] (0, 0) _ rfl (by (with_reducible repeat (first | refine blk_drewN ?_ _ | refine blk_drew ?_ | refine blk_alloc ?_ _)); refine blk_put (cs := #[.string (⟨#[]⟩ : ByteArray), .string (⟨#[]⟩ : ByteArray)]) ?_ 1 _ rfl; (with_reducible repeat (first | refine blk_drewN ?_ _ | refine blk_drew ?_ | refine blk_alloc ?_ _)); refine blk_put (cs := #[.string (⟨#[]⟩ : ByteArray), .string (⟨#[]⟩ : ByteArray)]) ?_ 0 _ rfl; (with_reducible repeat (first | refine blk_drewN ?_ _ | refine blk_drew ?_ | refine blk_alloc ?_ _)); exact BK128.out) Tryz.underlying23 rfl (by kernel_rfl)) rfl ?_
          exact ⟨by first | rfl | (simp [errW_none, errW_some] <;> rfl) | (simp [*, errW_none, errW_some] <;> rfl), by repeat (first | (with_reducible first | exact HB.out | apply below_alloc | apply pw_below_drewN | apply below_drew1 | refine below_set ?_ GE128.out) | exact HB.out)⟩

-- NOT PRINTED: function 13 (protocol_Stream_Feed)

/-! ### protocol_Stream_Pending: function 16 -/
def protocol_Stream_Pending.f (s0_0 : List Int) (s0_1 : Bool) : Option (Int × Bool) := some ((s0_0.length : Int), s0_1)
set_option maxHeartbeats 8000000 in
set_option maxRecDepth 100000 in
theorem protocol_Stream_Pending.calls (g : Nat) (s0_0 : List Int) (s0_1 : Bool) (r1 : Int) (r2 : Bool) (w0 w : World) (hI : IsS55 w0 w g s0_0 s0_1) (hB : Below w0.heap.size w0 w) (h : protocol_Stream_Pending.f s0_0 s0_1 = some (r1, r2)) :
    Calls Tryz.prog 16 #[.pointer (some ⟨g, 0, none⟩)] w fun e w' => e = .returned (.int .i64 r1) ∧ IsS55 w0 w' g s0_0 r2 ∧ Below w0.heap.size w0 w' ∧ KeepBut w w' g none := by
  have HI0 := Aside0.mk hI
  have HK := Aside0.mk (KeepBut.refl w g none)
  have HL := Aside0.mk hB.size
  clear hI
  have HW0 := Aside0.mk hB.size
  have HB := Aside0.mk hB
  clear hB
  have H : (some ((s0_0.length : Int), s0_1)) = some (r1, r2) := h
  clear h
  simp only [Option.some.injEq, Prod.mk.injEq] at H
  obtain ⟨rfl, rfl⟩ := H
  obtain ⟨ASz2_0, cSz2_0, HGz2, hgz2, HSz2_0⟩ := HI0.out
  have hcz2_0 := cellS55_0 HGz2
  have hcz2_1 := cellS55_1 HGz2
  have hfz2_1 := blk_frozen HGz2 1
  clear HGz2 hgz2
  go_enter Tryz.func16, Tryz.ntmps16
  go_wp2
  go_ret
  exact ⟨by first | rfl | (simp [errW_none, errW_some] <;> rfl) | (simp [*, errW_none, errW_some] <;> rfl), by repeat (first | (with_reducible first | exact HI0.out | apply IsS55.alloc | apply IsS55.drewN | apply IsS55.drew | apply IsS55.set_1) | exact HI0.out), by repeat (first | (with_reducible first | exact HB.out | apply below_alloc | apply pw_below_drewN | apply below_drew1 | refine below_set ?_ (IsS55.ge HI0.out)) | exact HB.out), by repeat (first | (with_reducible first | exact HK.out | apply KeepBut.set_ | apply keep_drewN | apply keep_drew | apply keep_alloc) | exact HK.out)⟩

-- NOT PRINTED: function 61 (abi_NoEscape)

-- NOT PRINTED: function 40 (strings_Builder_copyCheck)

-- NOT PRINTED: function 30 (strings_Builder_WriteString)

-- NOT PRINTED: function 31 (strings_Builder_String)

-- NOT PRINTED: function 133 (bytealg_IndexByteString)

-- NOT PRINTED: function 115 (stringslite_IndexByte)

-- NOT PRINTED: function 116 (bytealg_IndexString)

-- NOT PRINTED: function 81 (stringslite_Index)

-- NOT PRINTED: function 59 (strings_Index)

-- NOT PRINTED: function 78 (utf8_RuneCountInString)

-- NOT PRINTED: function 79 (bytealg_CountString)

-- NOT PRINTED: function 57 (strings_Count)

-- NOT PRINTED: function 114 (bytealg_MakeNoZero)

-- NOT PRINTED: function 80 (strings_Builder_grow)

-- NOT PRINTED: function 58 (strings_Builder_Grow)

-- NOT PRINTED: function 82 (utf8_decodeRuneInStringSlow)

-- NOT PRINTED: function 60 (utf8_DecodeRuneInString)

-- NOT PRINTED: function 39 (strings_Replace)

-- NOT PRINTED: function 29 (strings_ReplaceAll)

-- NOT PRINTED: function 23 (protocol_escaped)

-- NOT PRINTED: function 62 (api_Column_62)

-- NOT PRINTED: function 42 (api_Column_42)

-- NOT PRINTED: function 43 (api_FormalSum)

-- NOT PRINTED: function 88 (annotation_nesting)

-- NOT PRINTED: function 89 (annotation_Size)

-- NOT PRINTED: function 122 (api_Term_122)

-- NOT PRINTED: function 90 (api_Term_90)

-- NOT PRINTED: function 66 (annotation_within)

-- NOT PRINTED: function 94 (api_Factor)

-- NOT PRINTED: function 135 (bytealg_abigen_runtime_cmpstring)

-- NOT PRINTED: function 121 (bytealg_CompareString)

-- NOT PRINTED: function 65 (value_Compare)

-- NOT PRINTED: function 96 (api_Annotation_96)

-- NOT PRINTED: function 124 (api_Term_124)

-- NOT PRINTED: function 97 (annotation_Compare)

-- NOT PRINTED: function 98 (api_Weighted_98)

-- NOT PRINTED: function 99 (annotation_compareItems)

-- NOT PRINTED: function 69 (annotation_compareAtoms)

-- NOT PRINTED: function 95 (annotation_compareFactors)

-- NOT PRINTED: function 67 (annotation_compareLists)

-- NOT PRINTED: function 68 (annotation_idempotent)

-- NOT PRINTED: function 126 (api_Annotation_126)

-- NOT PRINTED: function 100 (api_Annotation_100)

-- NOT PRINTED: function 103 (annotation_Equal)

-- NOT PRINTED: function 104 (annotation_isConstant)

-- NOT PRINTED: function 105 (annotation_isUnit)

-- NOT PRINTED: function 106 (annotation_hasConstant)

-- NOT PRINTED: function 128 (api_Weighted_128)

-- NOT PRINTED: function 107 (api_Weighted_107)

-- NOT PRINTED: function 109 (api_Weighted_109)

-- NOT PRINTED: function 110 (annotation_fitting)

-- NOT PRINTED: function 70 (annotation_validAtom)

-- NOT PRINTED: function 50 (annotation_Valid)

-- NOT PRINTED: function 36 (aggregate_Name)

-- NOT PRINTED: function 83 (grouping_before)

-- NOT PRINTED: function 63 (grouping_validSum)

-- NOT PRINTED: function 45 (grouping_validRow)

-- NOT PRINTED: function 64 (api_Value)

-- NOT PRINTED: function 46 (value_CompareRows)

-- NOT PRINTED: function 32 (grouping_Valid)

-- NOT PRINTED: function 49 (strconv_FormatInt_49)

-- NOT PRINTED: function 34 (value_Format)

-- NOT PRINTED: function 72 (strings_Join)

-- NOT PRINTED: function 130 (rowset_Format)

-- NOT PRINTED: function 111 (annotation_formatAtom)

-- NOT PRINTED: function 71 (annotation_formatFactors)

-- NOT PRINTED: function 51 (annotation_text)

-- NOT PRINTED: function 35 (annotation_Format)

-- NOT PRINTED: function 24 (grouping_Format)

-- NOT PRINTED: function 17 (protocol_Answer)

-- NOT PRINTED: function 6 (lineagelaw59_awake)

end Go.Proofs.YtnineihfjbbmpaaGreatDoor.P
