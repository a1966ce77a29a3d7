/- The walk of DiskTorn. -/
import Derived.Test.YtbbokpkpdnppjaaC6
namespace Go.Proofs.Ytbbokpkpdnppjaa
open Go.RowKit Go.Proofs.YtbbokpkpdnppjaaW.PrintWords Go.Proofs.YtbbokpkpdnppjaaW.PrintLast Go.Proofs.YtbbokpkpdnppjaaW.PrintMore
set_option linter.unusedVariables false
set_option linter.unusedSimpArgs false

theorem info3 : (Try.prog.info? 3).map (fun i => (i.zero, i.size, i.bytes)) = some (some (.int .i64 0), 1, 8) := by kernel_rfl
def fill (k : Nat) : List Int := List.replicate k 64 ++ List.replicate (20 - k) 0
theorem fill_len (k : Nat) (hk : k ≤ 20) : (fill k).length = 20 := by simp [fill]; omega
theorem fill_at (k j : Nat) (hk : k ≤ 20) : (fill k)[j]? = if j < k then some 64 else if j < 20 then some 0 else none := by
  simp only [fill, List.getElem?_append, List.length_replicate, List.getElem?_replicate]
  by_cases h1 : j < k
  · rw [if_pos h1, if_pos h1, if_pos h1]
  · rw [if_neg h1, if_neg h1]
    by_cases h2 : j < 20
    · rw [if_pos h2, if_pos (by omega)]
    · rw [if_neg h2, if_neg (by omega)]
theorem fill_get (k : Nat) (hk : k < 20) : (nums .i64 (fill k)).toArray[k]? = some (.int .i64 0) := by
  simp only [List.getElem?_toArray, nums, List.getElem?_map, fill_at k k (by omega), if_neg (Nat.lt_irrefl k), if_pos hk]
  rfl
theorem fill_set (k : Nat) (hk : k < 20) : (nums .i64 (fill k)).toArray.setIfInBounds k (.int .i64 64) = (nums .i64 (fill (k + 1))).toArray := by
  rw [List.setIfInBounds_toArray]
  congr 1
  apply List.ext_getElem?
  intro j
  rw [List.getElem?_set]
  simp only [nums, List.getElem?_map, fill_at _ _ (Nat.le_of_lt hk), fill_at _ _ (Nat.succ_le_of_lt hk), List.length_map, fill_len _ (Nat.le_of_lt hk)]
  by_cases hj : k = j
  · subst hj; rw [if_pos rfl, if_pos hk, if_pos (by omega)]; rfl
  · rw [if_neg hj]
    by_cases h1 : j < k
    · rw [if_pos h1, if_pos (by omega)]
    · rw [if_neg h1, if_neg (show ¬ j < k + 1 by omega)]

theorem blk_C {w : World} {g e : Nat} {k : IntKind} {xs : List Int} {fr : Nat × Nat} (h : w.heap[g]? = some (.cells (nums k xs).toArray e fr)) (hm : xs.length ≤ 9223372036854775807) : Kd.C (Kd.int k) w (some ⟨g, 0, none⟩) xs.length xs := by
  refine ⟨rfl, hm, fun h0 => ⟨_, rfl, fun j x hj => ⟨[.int k x], rfl, rfl, fun i u hu => ?_⟩⟩⟩
  match i, hu with
  | 0, hu =>
    have hu' : Value.int k x = u := by simpa using hu
    subst hu'
    have e1 : (Kd.int k).sz = 1 := rfl
    rw [e1, Nat.mul_one, Nat.add_zero, add_plain, cell_of_row _ _ j _ e fr h]
    simp [nums, hj]
theorem fill_all : fill 20 = List.replicate 20 64 := by simp [fill]

set_option maxRecDepth 100000 in
set_option maxHeartbeats 8000000 in
theorem DiskTorn_calls (size : Int) (A0 : Option Addr) (c0 : Nat) (data : List Int) (A1 : Option Addr) (c1 : Nat) (l : List P.S44) (A2 : Option Addr) (c2 : Nat) (ss : List Int) (w : World) (hC0 : Kd.C (Kd.int .u8) w A0 data.length data) (hc0 : data.length ≤ c0) (hC1 : Kd.C P.k44 w A1 l.length l) (hc1 : l.length ≤ c1) (hC2 : Kd.C (Kd.int .i64) w A2 ss.length ss) :
    Calls Try.prog 4 #[.int .i64 size, .slice A0 data.length c0, .slice A1 l.length c1, .slice A2 ss.length c2] w fun e w' => e = .returned (.bool true) ∧ Below w.heap.size w w' := by
  have HC0 := Aside0.mk hC0
  have HC1 := Aside0.mk hC1
  have HC2 := Aside0.mk hC2
  clear hC0 hC1 hC2
  go_enter Try.func4, Try.ntmps4
  go_wp2_with fail
  refine (awake13 _).mono ?_
  rintro e w1 ⟨rfl, hb⟩
  have HB1 := Aside0.mk hb
  clear hb
  go_wp2_with fail
  refine (few_calls size A1 c1 l w1 (Kd.C_below HC1.out HB1.out) hc1).mono ?_
  rintro e w2 ⟨r, rfl, hr, hb⟩
  have HB2 := Aside0.mk (below_step HB1.out hb)
  clear hb
  cases r with
  | false =>
    go_wp2_with fail
    go_ret
    exact ⟨rfl, HB2.out⟩
  | true =>
    have F := Aside0.mk (hr rfl)
    clear hr
    by_cases hds : size < data.length
    · go_wp2_with fail
      go_ret
      exact ⟨rfl, HB2.out⟩
    by_cases h20 : 20 < ss.length
    · go_wp2_with fail
      go_ret
      exact ⟨rfl, HB2.out⟩
    obtain ⟨m, rfl⟩ := Int.eq_ofNat_of_zero_le (show 0 ≤ size by have := F.out.1; omega)
    have N := Aside0.mk (show 1 ≤ m ∧ m ≤ 64 ∧ l.length ≤ 20 ∧ (∀ x ∈ l, x.f3.length ≤ 64) ∧ data.length ≤ m from ⟨by have := F.out.1; omega, by have := F.out.2.1; omega, F.out.2.2.1, fun x hx => (F.out.2.2.2 x hx).1, by omega⟩)
    have CW := Aside0.mk (show (wrD m data l).Calm m by have := (wrD_take m data l l.length N.out.1 N.out.2.1 N.out.2.2.2.2 N.out.2.2.1).1; rwa [List.take_length] at this)
    have hm64 : m ≤ 64 := N.out.2.1
    have X := Aside0.mk (torn_all (m := m) (data := data) (l := l) N.out.1 N.out.2.1 N.out.2.2.2.2 N.out.2.2.1 N.out.2.2.2.1)
    have Y := Aside0.mk (torn_none (m := m) (data := data) (l := l) N.out.1 N.out.2.1 N.out.2.2.2.2 N.out.2.2.1 N.out.2.2.2.1)
    have Z := Aside0.mk (torn_some (m := m) (data := data) (l := l) N.out.1 N.out.2.1 N.out.2.2.2.2 N.out.2.2.1 N.out.2.2.2.1 ss)
    go_wp2_with fail
    refine (written_calls (w0 := w) (W := w2) (Q := fun _ => False) (L := []) m A0 c0 data A1 c1 l (Sts.start HB2.out) N.out.1 N.out.2.1 N.out.2.2.2.2 N.out.2.2.1 N.out.2.2.2.1 HC0.out hc0 HC1.out hc1).mono ?_
    rintro e w3 ⟨ga, rfl, hs, _⟩
    have S3 := Aside0.mk hs
    clear hs
    go_wp2_with fail
    refine (written_calls m A0 c0 data A1 c1 l S3.out N.out.1 N.out.2.1 N.out.2.2.2.2 N.out.2.2.1 N.out.2.2.2.1 HC0.out hc0 HC1.out hc1).mono ?_
    rintro e w4 ⟨gb, rfl, hs, _⟩
    have S4 := Aside0.mk hs
    clear hs
    go_wp2_with fail
    refine (written_calls m A0 c0 data A1 c1 l S4.out N.out.1 N.out.2.1 N.out.2.2.2.2 N.out.2.2.1 N.out.2.2.2.1 HC0.out hc0 HC1.out hc1).mono ?_
    rintro e w5 ⟨gc, rfl, hs, _⟩
    have S5 := Aside0.mk hs
    clear hs S3 S4
    go_wp2_with fail
    refine (S5.out.read 2 rfl CW.out.ok 0 m).mono ?_
    rw [read_all CW.out]
    rintro e w6 ⟨v, rfl, hR, hB⟩
    have S6b := Aside0.mk hB
    have R6 := Aside0.mk hR
    obtain ⟨A6, c6, rfl, hc6, _⟩ := Kd.R_reads hR
    clear hR hB
    have hl6 : (wrD m data l).now.length = m := now_length CW.out
    have hmk : ∀ W : World, (Instr.makeSlice 34 (.int .i64 20) (.int .i64 20)).run Try.prog W = .ok (.slice (some ⟨W.heap.size, 0, none⟩) 20 20) (W.alloc (.cells (nums .i64 (fill 0)).toArray 3)) := fun W =>
      (print_make (P := Try.prog) 34 3 .i64 8 Try.underlying34 info3 (by omega) 20 (by omega) W).trans (by rw [show madeCells #[.int .i64 0] 20 = (nums .i64 (fill 0)).toArray from by kernel_rfl])
    go_wp2_with fail
    go_loopw [15] (fun v wr => ∃ k : Nat, k ≤ 20 ∧ v = .int .i64 (k : Int) ∧ Aside0 (Below w6.heap.size w6 wr) ∧ Aside0 (wr.heap[w6.heap.size]? = some (.cells (nums .i64 (fill k)).toArray 3 (0, 0)))) (fun v _ => 20 - (intOf v).toNat)
    case atStart => exact ⟨0, Nat.zero_le _, rfl, ⟨below_alloc (Below.refl _ _) _⟩, ⟨heap_alloc_new w6 _⟩⟩
    case round =>
      obtain ⟨k, hk, rfl, HB, HK⟩ := hrel
      by_cases hlt : k < 20
      · have hlt' : ((k : Int) < 20) := by omega
        have hz := (blk_cell HK.out k).trans (fill_get k hlt)
        have hf := blk_frozen HK.out k
        go_wp2_with fail
        go_roundw
        case rel => exact ⟨k + 1, hlt, by go_num, ⟨by first | exact below_set HB.out (Nat.le_refl _) | exact (Below.trans HB.out (below_set (Below.refl _ _) (Nat.le_refl _)))⟩, ⟨by rw [blk_set HK.out, fill_set k hlt]⟩⟩
        case measure => simp [intOf]; omega
      · obtain rfl : k = 20 := by omega
        go_wp2_with fail
        have HB5 := Aside0.mk (below_step S6b.out HB.out)
        have S7 := Aside0.mk (S5.out.fence HB5.out)
        have R7 := Aside0.mk (Kd.R_below R6.out HB.out)
        have HCA := Aside0.mk (show Kd.C (Kd.int .i64) wr (some ⟨w6.heap.size, 0, none⟩) (List.replicate 20 (64 : Int)).length (List.replicate 20 64) by have := blk_C HK.out (by rw [fill_all]; simp); rwa [fill_all] at this)
        have hlt6 : w6.heap.size < wr.heap.size := blk_lt HK.out
        have hle6 : w5.heap.size ≤ w6.heap.size := S6b.out.size
        have HCR := S7.out.crash 2 rfl CW.out.ok (some ⟨w6.heap.size, 0, none⟩) 20 (List.replicate 20 64) HCA.out (fun a ha _ => .inr (by injection ha with ha; subst ha; exact .inr ⟨hle6, hlt6⟩))
        rw [List.length_replicate] at HCR
        refine HCR.mono ?_
        clear HCR
        rintro e w8 ⟨rfl, hs, hk⟩
        have S8 := Aside0.mk (show Sts w w8 _ [(gc, wrD m data l), (gb, wrD m data l), (ga, (wrD m data l).crashed (List.replicate 20 64))] from hs)
        have R8 := Aside0.mk (R_kept (w1 := w8) R7.out (fun j h1 h2 => hk j (.inr ⟨h1, h2⟩)))
        have L8 := Aside0.mk hk
        clear hs hk
        go_wp2_with fail
        refine (S8.out.crash_nil 1 rfl CW.out.ok).mono ?_
        rintro e w9 ⟨rfl, hs, hk⟩
        have S9 := Aside0.mk (show Sts w w9 _ [(gc, wrD m data l), (gb, (wrD m data l).crashed []), (ga, (wrD m data l).crashed (List.replicate 20 64))] from hs)
        have L9 := Aside0.mk (L8.out.trans hk)
        clear hs hk
        go_wp2_with fail
        refine (S9.out.crash_arg 0 rfl CW.out.ok A2 c2 ss HC2.out).mono ?_
        rintro e w10 ⟨rfl, hs, hk⟩
        have S10 := Aside0.mk (show Sts w w10 _ [(gc, (wrD m data l).crashed ss), (gb, (wrD m data l).crashed []), (ga, (wrD m data l).crashed (List.replicate 20 64))] from hs)
        have L10 := Aside0.mk (L9.out.trans hk)
        have R10 := Aside0.mk (R_kept (w1 := w10) R7.out (fun j h1 h2 => L10.out j (.inr ⟨h1, h2⟩)))
        clear hs hk S8 S9 R8 L8 L9
        go_wp2_with fail
        refine (S10.out.read 2 rfl (CW.out.crashed _).ok 0 m).mono ?_
        rw [read_all (CW.out.crashed _), X.out]
        rintro e w11 ⟨v, rfl, hR, hB⟩
        have S11 := Aside0.mk (S10.out.step hB)
        have R11 := Aside0.mk (Kd.R_below R10.out hB)
        have RX := Aside0.mk hR
        obtain ⟨Ax, cx, rfl, hcx, _⟩ := Kd.R_reads hR
        clear hR hB
        rw [hl6] at hcx
        go_wp2_with fail
        refine (S11.out.read 1 rfl (CW.out.crashed _).ok 0 m).mono ?_
        rw [read_all (CW.out.crashed _)]
        rintro e w12 ⟨v, rfl, hR, hB⟩
        have S12 := Aside0.mk (S11.out.step hB)
        have R12 := Aside0.mk (Kd.R_below R11.out hB)
        have RX2 := Aside0.mk (Kd.R_below RX.out hB)
        obtain ⟨Ay, cy, rfl, hcy, hCy⟩ := Kd.R_reads hR
        have CY := Aside0.mk hCy
        have hly : ((wrD m data l).crashed []).now.length = m := now_length (CW.out.crashed _)
        clear hR hB hCy
        go_wp2_with fail
        refine (S12.out.read 0 rfl (CW.out.crashed _).ok 0 m).mono ?_
        rw [read_all (CW.out.crashed _)]
        rintro e w13 ⟨v, rfl, hR, hB⟩
        have HB13 := Aside0.mk (below_step S12.out.bel hB)
        have R13 := Aside0.mk (Kd.R_below R12.out hB)
        have RX3 := Aside0.mk (Kd.R_below RX2.out hB)
        have CY3 := Aside0.mk (Kd.C_below CY.out hB)
        obtain ⟨Az, cz, rfl, hcz, hCz⟩ := Kd.R_reads hR
        have CZ := Aside0.mk hCz
        have hlz : ((wrD m data l).crashed ss).now.length = m := now_length (CW.out.crashed _)
        clear hR hB hCz
        go_wp2_with fail
        have C13 := Aside0.mk (show Kd.C (Kd.int .u8) w13 A6 (wrD m data l).now.length (wrD m data l).now by
          obtain ⟨_, _, e, _, h⟩ := Kd.R_reads R13.out
          injection e with e1 e2 e3
          subst e1
          exact h)
        have CX13 := Aside0.mk (show Kd.C (Kd.int .u8) w13 Ax (wrD m data l).now.length (wrD m data l).now by
          obtain ⟨_, _, e, _, h⟩ := Kd.R_reads RX3.out
          injection e with e1 e2 e3
          subst e1
          exact h)
        have HSM := Same_calls A6 c6 Ax cx (wrD m data l).now w13 C13.out hc6 CX13.out (by rw [hl6]; exact hcx)
        rw [hl6] at HSM
        refine HSM.mono ?_
        clear HSM
        rintro e wz ⟨rfl, hb⟩
        have HBZ := Aside0.mk (below_step HB13.out hb)
        have CYZ := Aside0.mk (Kd.C_below CY3.out hb)
        have CZZ := Aside0.mk (Kd.C_below CZ.out hb)
        have HLZ := Aside0.mk (Kd.C_below HC1.out (below_step HB13.out hb))
        have HDZ := Aside0.mk (Kd.C_below HC0.out (below_step HB13.out hb))
        clear hb
        rw [hly] at hcy CYZ
        rw [hlz] at hcz CZZ
        go_wp2_with fail
        go_loopw [22] (fun v wr => ∃ i : Nat, i ≤ m ∧ v = .int .i64 (i : Int) ∧ Aside0 (Below wz.heap.size wz wr)) (fun v _ => m - (intOf v).toNat)
        case atStart => exact ⟨0, Nat.zero_le _, rfl, ⟨Below.refl _ _⟩⟩
        case round =>
          obtain ⟨i, hi, rfl, HB⟩ := hrel
          by_cases hlt : i < m
          · have hlt' : ((i : Int) < (m : Int)) := by omega
            obtain ⟨ady, eay, hy⟩ := Kd.at_int CYZ.out (i : Int) (by omega) (by omega)
            subst eay
            replace hy := (HB.out.cell (World.block_lt_of_cell? _ _ hy)).trans hy
            rw [show rd ((wrD m data l).crashed []).now (i : Int) = data.getD i 0 from Y.out i] at hy
            obtain ⟨adz, eaz, hzc0⟩ := Kd.at_int CZZ.out (i : Int) (by omega) (by omega)
            subst eaz
            replace hzc0 := (HB.out.cell (World.block_lt_of_cell? _ _ hzc0)).trans hzc0
            have hZ := Z.out i hlt
            obtain ⟨Zi, hZi⟩ : ∃ b, ((wrD m data l).crashed ss).now.getD i 0 = b := ⟨_, rfl⟩
            rw [show rd ((wrD m data l).crashed ss).now (i : Int) = Zi from hZi] at hzc0
            rw [hZi] at hZ
            simp only [Int.toNat_natCast] at hy hzc0
            by_cases hdl : i < data.length
            · have hdl' : ((i : Int) < (data.length : Int)) := by omega
              obtain ⟨add, ead, hd0⟩ := Kd.at_int HDZ.out (i : Int) (by omega) (by omega)
              subst ead
              replace hd0 := (HB.out.cell (World.block_lt_of_cell? _ _ hd0)).trans hd0
              obtain ⟨Di, hDi⟩ : ∃ b, data.getD i 0 = b := ⟨_, rfl⟩
              rw [show rd data (i : Int) = Di from hDi] at hd0
              rw [hDi] at hy hZ
              simp only [Int.toNat_natCast] at hd0
              have hold : Di = Di := rfl
              by_cases hz : Zi = Di
              · have hzb : (Zi == Di) = true := beq_iff_eq.mpr hz
                have hzc : (Zi != Di) = false := bne_eq_false_iff_eq.mpr hz
                go_wp2_with fail
                go_roundw
                case rel => exact ⟨i + 1, hlt, by go_num, ⟨by repeat (first | (with_reducible first | exact HB.out | apply below_alloc | apply pw_below_drewN | apply below_drew1) | exact HB.out)⟩⟩
                case measure => simp [intOf]; omega
              · have hzb : (Zi == Di) = false := beq_eq_false_iff_ne.mpr hz
                have hzc : (Zi != Di) = true := bne_iff_ne.mpr hz
                obtain ⟨kk, hkk⟩ := hZ.resolve_left (by first | exact hz | (rw [hold]; exact hz))
                have HKK := Aside0.mk hkk
                clear hkk
                go_wp2_with fail
                refine (P.lineagelaw13_wrote.calls kk A1 c1 l (m : Int) (i : Int) Zi true wr (Kd.C_below HLZ.out HB.out) hc1 HKK.out).mono ?_
                rintro e w15 ⟨rfl, hb⟩
                have HB15 := Aside0.mk (below_step HB.out hb)
                clear hb
                go_wp2_with fail
                go_roundw
                case rel => exact ⟨i + 1, hlt, by go_num, ⟨by repeat (first | (with_reducible first | exact HB15.out | apply below_alloc | apply pw_below_drewN | apply below_drew1) | exact HB15.out)⟩⟩
                case measure => simp [intOf]; omega
            · have hdl' : ¬ ((i : Int) < (data.length : Int)) := by omega
              have hold : data.getD i 0 = 0 := by simp [List.getD_eq_getElem?_getD, List.getElem?_eq_none (Nat.le_of_not_lt hdl)]
              rw [hold] at hy hZ
              clear hold
              have hold : (0 : Int) = 0 := rfl
              by_cases hz : Zi = 0
              · have hzb : (Zi == 0) = true := beq_iff_eq.mpr hz
                have hzc : (Zi != 0) = false := bne_eq_false_iff_eq.mpr hz
                go_wp2_with fail
                go_roundw
                case rel => exact ⟨i + 1, hlt, by go_num, ⟨by repeat (first | (with_reducible first | exact HB.out | apply below_alloc | apply pw_below_drewN | apply below_drew1) | exact HB.out)⟩⟩
                case measure => simp [intOf]; omega
              · have hzb : (Zi == 0) = false := beq_eq_false_iff_ne.mpr hz
                have hzc : (Zi != 0) = true := bne_iff_ne.mpr hz
                obtain ⟨kk, hkk⟩ := hZ.resolve_left (by first | exact hz | (rw [hold]; exact hz))
                have HKK := Aside0.mk hkk
                clear hkk
                go_wp2_with fail
                refine (P.lineagelaw13_wrote.calls kk A1 c1 l (m : Int) (i : Int) Zi true wr (Kd.C_below HLZ.out HB.out) hc1 HKK.out).mono ?_
                rintro e w15 ⟨rfl, hb⟩
                have HB15 := Aside0.mk (below_step HB.out hb)
                clear hb
                go_wp2_with fail
                go_roundw
                case rel => exact ⟨i + 1, hlt, by go_num, ⟨by repeat (first | (with_reducible first | exact HB15.out | apply below_alloc | apply pw_below_drewN | apply below_drew1) | exact HB15.out)⟩⟩
                case measure => simp [intOf]; omega
          · obtain rfl : i = m := by omega
            go_wp2_with fail
            go_ret
            exact ⟨rfl, below_step HBZ.out HB.out⟩
end Go.Proofs.Ytbbokpkpdnppjaa
