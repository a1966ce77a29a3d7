/- What is read of a written disk, byte by byte. -/
import Derived.Test.YtbbokpkpdnppjaaC4
namespace Go.Proofs.Ytbbokpkpdnppjaa
open Go.RowKit Go.Proofs.YtbbokpkpdnppjaaW.PrintWords Go.Proofs.YtbbokpkpdnppjaaW.PrintLast Go.Proofs.YtbbokpkpdnppjaaW.PrintMore
set_option linter.unusedVariables false
set_option linter.unusedSimpArgs false

/-- A write that lies inside a disk of m bytes and covers the i-th. -/
def hit (m : Int) (x : P.S44) (i : Int) : Prop := 0 ≤ x.f1 ∧ x.f1 ≤ m ∧ (x.f3.length : Int) ≤ m - x.f1 ∧ x.f1 ≤ i ∧ i - x.f1 < x.f3.length
instance (m : Int) (x : P.S44) (i : Int) : Decidable (hit m x i) := by unfold hit; infer_instance
def want1 (m i v : Int) (x : P.S44) : Int := if hit m x i then rd x.f3 (i - x.f1) else v
theorem now_wrote (D : Dk) (at_ : Int) (l : List Int) : (D.wrote at_ l).now = putAt D.now at_.toNat l := by simp [Dk.now, Dk.wrote, layAll, List.foldl_append]
theorem getD_put (dur b : List Int) (at_ : Nat) (h : at_ + b.length ≤ dur.length) (i : Nat) : (putAt dur at_ b).getD i 0 = if at_ ≤ i ∧ i < at_ + b.length then b.getD (i - at_) 0 else dur.getD i 0 := by
  simp only [List.getD_eq_getElem?_getD, putAt_get dur at_ b h i]
  split <;> rfl
theorem put1_now {D : Dk} {m : Nat} (h : D.Calm m) (x : P.S44) (i : Nat) : (put1 D x).now.getD i 0 = want1 m i (D.now.getD i 0) x := by
  have hl := h.len
  have hnl := now_length h
  unfold want1 put1
  cases hi : insd D.dur.length x.f1 x.f3.length with
  | true =>
    rw [write_good h.failed h.cnt _ _ hi, now_wrote]
    simp only [insd, Bool.and_eq_true, decide_eq_true_eq] at hi
    rw [getD_put _ _ _ (by omega)]
    by_cases hh : hit m x i
    · rw [if_pos hh, if_pos (by unfold hit at hh; omega)]
      unfold hit at hh
      simp only [rd]
      rw [show ((i : Int) - x.f1).toNat = i - x.f1.toNat by omega]
    · rw [if_neg hh, if_neg (by unfold hit at hh; omega)]
  | false =>
    have e : D.write x.f1 x.f3 = (D, 2) := by simp [Dk.write, h.failed, hi]
    rw [e, if_neg]
    simp only [insd, Bool.and_eq_false_iff, decide_eq_false_iff_not] at hi
    unfold hit
    omega
theorem wr0_now (m : Nat) (data : List Int) (hd : data.length ≤ m) (i : Nat) : (wr0 m data).now.getD i 0 = data.getD i 0 := by
  have e : (wr0 m data).now = putAt (List.replicate m 0) 0 data := by simp [wr0, Dk.now, Dk.synced, Dk.wrote, Dk.fresh, layAll]
  rw [e, getD_put _ _ _ (by simpa using hd)]
  by_cases h : i < data.length
  · rw [if_pos (by omega)]; simp
  · rw [if_neg (by omega)]
    simp only [List.getD_eq_getElem?_getD, List.getElem?_eq_none (Nat.le_of_not_lt h), List.getElem?_replicate, Option.getD_none]
    split <;> rfl
theorem wrD_now (m : Nat) (data : List Int) (l : List P.S44) (h1 : 1 ≤ m) (h2 : m ≤ 64) (hd : data.length ≤ m) (hl : l.length ≤ 20) (i : Nat) (k : Nat) (hk : k ≤ l.length) :
    (wrD m data (l.take k)).now.getD i 0 = (l.take k).foldl (want1 m i) (data.getD i 0) := by
  induction k with
  | zero => simpa [wrD] using wr0_now m data hd i
  | succ k ih =>
    have hc := (wrD_take m data l k h1 h2 hd hl).1
    have e2 : l.take (k + 1) = l.take k ++ [l[k]] := by rw [List.take_add_one, List.getElem?_eq_getElem (by omega)]; rfl
    rw [e2, List.foldl_append, ← ih (by omega)]
    have e3 : wrD m data (l.take k ++ [l[k]]) = put1 (wrD m data (l.take k)) l[k] := by rw [wrD, wrD, List.foldl_append]; rfl
    rw [e3, put1_now hc]
    rfl

theorem want1_hit {m i v : Int} {x : P.S44} (h : hit m x i) : want1 m i v x = rd x.f3 (i - x.f1) := if_pos h
theorem want1_miss {m i v : Int} {x : P.S44} (h : ¬ hit m x i) : want1 m i v x = v := if_neg h
theorem fold_step (m i v : Int) (l : List P.S44) (k : Nat) (hk : k < l.length) : (l.take (k + 1)).foldl (want1 m i) v = want1 m i ((l.take k).foldl (want1 m i) v) (P.rd_T44 l (k : Int)) := by
  have e2 : l.take (k + 1) = l.take k ++ [l[k]] := by rw [List.take_add_one, List.getElem?_eq_getElem (by omega)]; rfl
  rw [e2, List.foldl_append, rd_T44_get l k hk]
  rfl

set_option maxRecDepth 100000 in
set_option maxHeartbeats 8000000 in
theorem DiskReads_calls (size at_ n : Int) (A1 : Option Addr) (c1 : Nat) (l : List P.S44) (w : World) (hC1 : Kd.C P.k44 w A1 l.length l) (hc1 : l.length ≤ c1) (hs64 : size ≤ 9223372036854775807) :
    Calls Try.prog 6 #[.int .i64 size, .slice A1 l.length c1, .int .i64 at_, .int .i64 n] w fun e w' => e = .returned (.bool true) ∧ Below w.heap.size w w' := by
  have HC1 := Aside0.mk hC1
  clear hC1
  go_enter Try.func6, Try.ntmps6
  go_wp2_with fail
  refine (awake13 _).mono ?_
  rintro e w1 ⟨rfl, hb⟩
  have HB1 := Aside0.mk hb
  clear hb
  go_wp2_with fail
  refine (few_calls size A1 c1 l w1 (Kd.C_below HC1.out HB1.out) hc1).mono ?_
  rintro e w2 ⟨r, rfl, hr, hb⟩
  have HB2 := Aside0.mk (below_step HB1.out hb)
  clear hb
  cases r with
  | false =>
    go_wp2_with fail
    go_ret
    exact ⟨rfl, HB2.out⟩
  | true =>
    have F := Aside0.mk (hr rfl)
    clear hr
    by_cases ha : at_ < 0
    · go_wp2_with fail
      go_ret
      exact ⟨rfl, HB2.out⟩
    by_cases hn : n < 0
    · go_wp2_with fail
      go_ret
      exact ⟨rfl, HB2.out⟩
    by_cases hat : size < at_
    · go_wp2_with fail
      go_ret
      exact ⟨rfl, HB2.out⟩
    have hsw := IntWalk.i64_in (size - at_) (by have := F.out.1; omega)
    by_cases hnn : size - at_ < n
    · go_wp2_with fail
      go_ret
      exact ⟨rfl, HB2.out⟩
    obtain ⟨m, rfl⟩ := Int.eq_ofNat_of_zero_le (show 0 ≤ size by have := F.out.1; omega)
    obtain ⟨a, rfl⟩ := Int.eq_ofNat_of_zero_le (show 0 ≤ at_ by omega)
    obtain ⟨q, rfl⟩ := Int.eq_ofNat_of_zero_le (show 0 ≤ n by omega)
    have N := Aside0.mk (show 1 ≤ m ∧ m ≤ 64 ∧ l.length ≤ 20 ∧ (∀ x ∈ l, x.f3.length ≤ 64) from ⟨by have := F.out.1; omega, by have := F.out.2.1; omega, F.out.2.2.1, fun x hx => (F.out.2.2.2 x hx).1⟩)
    have CW := Aside0.mk (show (wrD m [] l).Calm m by have := (wrD_take m [] l l.length N.out.1 N.out.2.1 (by simp) N.out.2.2.1).1; rwa [List.take_length] at this)
    have hm64 : m ≤ 64 := N.out.2.1
    have haq := IntWalk.i64_in ((a : Int) + (q : Int)) (by omega)
    have R1 := Aside0.mk (show (wrD m [] l).read (a : Int) (q : Int) = (((wrD m [] l).now.drop a).take q, 0) by
      have e : insd (wrD m [] l).dur.length (a : Int) (q : Int) = true := by have := CW.out.len; simp [insd]; omega
      simp [Dk.read, CW.out.failed, e])
    go_wp2_with fail
    refine (written_calls (w0 := w) (W := w2) (Q := fun _ => False) (L := []) m none 0 [] A1 c1 l (Sts.start HB2.out) N.out.1 N.out.2.1 (by simp) N.out.2.2.1 N.out.2.2.2 (Kd.C_nil _ _) (Nat.le_refl _) HC1.out hc1).mono ?_
    rintro e w3 ⟨g, rfl, hs, _⟩
    have S3 := Aside0.mk hs
    clear hs
    go_wp2_with fail
    refine (S3.out.read 0 rfl CW.out.ok 0 m).mono ?_
    rw [read_all CW.out]
    rintro e w4 ⟨v, rfl, hR, hB⟩
    have S4 := Aside0.mk (S3.out.step hB)
    obtain ⟨A5, c5, rfl, hc5, hC5⟩ := Kd.R_reads hR
    have HC5 := Aside0.mk hC5
    clear hR hB hC5
    have hl5 : (wrD m [] l).now.length = m := now_length CW.out
    go_wp2_with fail
    refine (S4.out.read 0 rfl CW.out.ok a q).mono ?_
    rw [R1.out]
    rintro e w5 ⟨v, rfl, hR, hB⟩
    have HB5 := Aside0.mk (below_step S4.out.bel hB)
    have HD5 := Aside0.mk (Kd.C_below HC5.out hB)
    obtain ⟨A6, c6, rfl, hc6, hC6⟩ := Kd.R_reads hR
    have HC6 := Aside0.mk hC6
    clear hR hB hC6
    have hq6 : (((wrD m [] l).now.drop a).take q).length = q := by simp [hl5]; omega
    rw [hq6] at hc6 HC6 ⊢
    rw [hl5] at hc5 HD5
    obtain ⟨A7, hcut, hA7⟩ := cut_mid A5 m c5 a (a + q) (by omega) (by omega) ((a : Int) + (q : Int)) (by omega)
    rw [show a + q - a = q by omega] at hcut
    go_wp2_with fail
    have HC7 := Aside0.mk (C_cut HD5.out a (a + q) (by omega) (by omega) A7 (fun h => hA7 (by omega)))
    have e7 : ((wrD m [] l).now.take (a + q)).drop a = ((wrD m [] l).now.drop a).take q := by rw [List.drop_take]; congr 1; omega
    rw [e7, show a + q - a = q by omega] at HC7
    refine (by have := Same_calls A7 (c5 - a) A6 c6 (((wrD m [] l).now.drop a).take q) w5 (by rw [hq6]; exact HC7.out) (by omega) (by rw [hq6]; exact HC6.out) (by omega); rwa [hq6] at this : Calls Try.prog 23 #[.slice A7 q (c5 - a), .slice A6 q c6] w5 fun e w' => e = .returned (.bool true) ∧ Below w5.heap.size w5 w').mono ?_
    rintro e wz ⟨rfl, hb⟩
    have HBZ := Aside0.mk (below_step HB5.out hb)
    have HDZ := Aside0.mk (Kd.C_below HD5.out hb)
    have HLZ := Aside0.mk (Kd.C_below HC1.out (below_step HB5.out hb))
    clear hb hcut hA7 hsw haq hc6 HC6 HC7 S3 S4 HB5 HD5 HC5 HB1 HB2 R1
    have HNOW := Aside0.mk (fun (i : Nat) => wrD_now m [] l N.out.1 N.out.2.1 (by simp) N.out.2.2.1 i l.length (Nat.le_refl _))
    have hl20 : l.length ≤ 20 := N.out.2.2.1
    go_wp2_with fail
    go_loopw [14] (fun i wr => ∃ k : Nat, k ≤ m ∧ i = .int .i64 (k : Int) ∧ Aside0 (Below wz.heap.size wz wr)) (fun i _ => m - (intOf i).toNat)
    case atStart => exact ⟨0, Nat.zero_le _, rfl, ⟨Below.refl _ _⟩⟩
    case round =>
      obtain ⟨i, hi, rfl, HB⟩ := hrel
      by_cases hlt : i < m
      · have hlt' : ((i : Int) < (m : Int)) := by omega
        go_wp2_with fail
        go_loopw [15, 16] (fun v u wr => ∃ k : Nat, k ≤ l.length ∧ v = .int .u8 ((l.take k).foldl (want1 m i) 0) ∧ u = .int .i64 (k : Int) ∧ Aside0 (Below wz.heap.size wz wr)) (fun _ u _ => l.length - (intOf u).toNat)
        case atStart => exact ⟨0, Nat.zero_le _, by simp, rfl, HB⟩
        case round =>
          obtain ⟨k, hk, rfl, rfl, HB⟩ := hrel
          by_cases hk2 : k < l.length
          · have hk2' : ((k : Int) < (l.length : Int)) := by omega
            obtain ⟨ad, A3, c3, A4, c4, ead, z0, z1, z2, z3, z4, lz3, gz3, lz4, gz4⟩ := P.at_T44 HLZ.out (k : Int) (by omega) (by omega)
            subst ead
            replace z0 := (HB.out.cell (World.block_lt_of_cell? _ _ z0)).trans z0
            replace z1 := (HB.out.cell (World.block_lt_of_cell? _ _ z1)).trans z1
            replace z2 := (HB.out.cell (World.block_lt_of_cell? _ _ z2)).trans z2
            replace z3 := (HB.out.cell (World.block_lt_of_cell? _ _ z3)).trans z3
            replace z4 := (HB.out.cell (World.block_lt_of_cell? _ _ z4)).trans z4
            simp only [Int.toNat_natCast] at z0 z1 z2 z3 z4
            have G3 := Aside0.mk gz3
            clear gz3 gz4
            by_cases q0 : 0 ≤ (P.rd_T44 l (k : Int)).f1
            · have qb0 : decide (0 ≤ (P.rd_T44 l (k : Int)).f1) = true := decide_eq_true q0
              by_cases q1 : (P.rd_T44 l (k : Int)).f1 ≤ (m : Int)
              · have qb1 : decide ((P.rd_T44 l (k : Int)).f1 ≤ (m : Int)) = true := decide_eq_true q1
                have hw1 := IntWalk.i64_in ((m : Int) - (P.rd_T44 l (k : Int)).f1) (by omega)
                by_cases q2 : ((P.rd_T44 l (k : Int)).f3.length : Int) ≤ (m : Int) - (P.rd_T44 l (k : Int)).f1
                · have qb2 : decide (((P.rd_T44 l (k : Int)).f3.length : Int) ≤ (m : Int) - (P.rd_T44 l (k : Int)).f1) = true := decide_eq_true q2
                  by_cases q3 : (P.rd_T44 l (k : Int)).f1 ≤ (i : Int)
                  · have qb3 : decide ((P.rd_T44 l (k : Int)).f1 ≤ (i : Int)) = true := decide_eq_true q3
                    have hw2 := IntWalk.i64_in ((i : Int) - (P.rd_T44 l (k : Int)).f1) (by omega)
                    by_cases q4 : (i : Int) - (P.rd_T44 l (k : Int)).f1 < ((P.rd_T44 l (k : Int)).f3.length : Int)
                    · have qb4 : decide ((i : Int) - (P.rd_T44 l (k : Int)).f1 < ((P.rd_T44 l (k : Int)).f3.length : Int)) = true := decide_eq_true q4
                      have hj0 : 0 ≤ (i : Int) - (P.rd_T44 l (k : Int)).f1 := by omega
                      have hj1 : (i : Int) - (P.rd_T44 l (k : Int)).f1 < ((P.rd_T44 l (k : Int)).f3.length : Int) := q4
                      have hh : hit m (P.rd_T44 l (k : Int)) i := ⟨q0, q1, q2, q3, q4⟩
                      have HH := Aside0.mk hh
                      clear hh
                      go_wp2_with (first | ((with_reducible refine gate_dst (N := 17) rfl ?_); (try (refine gate_guard (by rfl) ?_; dsimp only)); refine box_event ?hg (N := 17) ?hd (cs := #[.int .i64 0, .int .i64 0, .int .i64 0, .slice none 0 0, .slice none 0 0]) (t := 44) ?hr ?_; (case hd => rfl); (case hg => rfl); (case hr => first | (go_simp; done) | (go_simp; rfl)); intro gb hg wb hbox hb; have n0_ := Aside0.mk (below_step (by repeat (first | (with_reducible first | exact HB.out | apply below_alloc | apply pw_below_drewN | apply below_drew1) | exact HB.out)) hb); have n1_ := Aside0.mk hbox; have n2_ := Aside0.mk ((by rw [hg]; exact (below_size (by repeat (first | (with_reducible first | exact HB.out | apply below_alloc | apply pw_below_drewN | apply below_drew1) | exact HB.out)))) : wz.heap.size ≤ gb); clear HB; have HB := n0_; have BK := n1_; have GW := n2_; clear n0_ n1_ n2_; clear hb hbox hg; have hcz0 : wb.cell? ⟨gb, 0, none⟩ = some (.int .i64 0) := (blk_cell BK.out 0).trans rfl; have hcz1 : wb.cell? ⟨gb, 1, none⟩ = some (.int .i64 0) := (blk_cell BK.out 1).trans rfl; have hcz2 : wb.cell? ⟨gb, 2, none⟩ = some (.int .i64 0) := (blk_cell BK.out 2).trans rfl; have hcz3 : wb.cell? ⟨gb, 3, none⟩ = some (.slice none 0 0) := (blk_cell BK.out 3).trans rfl; have hcz4 : wb.cell? ⟨gb, 4, none⟩ = some (.slice none 0 0) := (blk_cell BK.out 4).trans rfl; have hfz0 := blk_frozen BK.out 0; have hfz1 := blk_frozen BK.out 1; have hfz2 := blk_frozen BK.out 2; have hfz3 := blk_frozen BK.out 3; have hfz4 := blk_frozen BK.out 4; obtain ⟨adh, eh, hxh⟩ := Kd.at_int G3.out ((i : Int) - (P.rd_T44 l (k : Int)).f1) hj0 hj1; cases eh; have hnh : adh.block ≠ gb := Nat.ne_of_lt (Nat.lt_of_lt_of_le (by have := World.block_lt_of_cell? _ _ hxh; first | rwa [add_block] at this | exact this) GW.out); replace hxh := (HB.out.cell (World.block_lt_of_cell? wz _ hxh)).trans hxh; replace hxh := (cell_far (p := ⟨gb, 0, none⟩) (by first | (rw [add_block]; exact hnh) | (show (Addr.add _ _).block ≠ _; rw [add_block]; exact hnh) | exact hnh) (.int .i64 ((P.rd_T44 l (k : Int)).f0))).trans hxh; replace hxh := (cell_far (p := ⟨gb, 1, none⟩) (by first | (rw [add_block]; exact hnh) | (show (Addr.add _ _).block ≠ _; rw [add_block]; exact hnh) | exact hnh) (.int .i64 ((P.rd_T44 l (k : Int)).f1))).trans hxh; replace hxh := (cell_far (p := ⟨gb, 2, none⟩) (by first | (rw [add_block]; exact hnh) | (show (Addr.add _ _).block ≠ _; rw [add_block]; exact hnh) | exact hnh) (.int .i64 ((P.rd_T44 l (k : Int)).f2))).trans hxh; replace hxh := (cell_far (p := ⟨gb, 3, none⟩) (by first | (rw [add_block]; exact hnh) | (show (Addr.add _ _).block ≠ _; rw [add_block]; exact hnh) | exact hnh) (.slice (some adh) ((P.rd_T44 l (k : Int)).f3).length c3)).trans hxh; replace hxh := (cell_far (p := ⟨gb, 4, none⟩) (by first | (rw [add_block]; exact hnh) | (show (Addr.add _ _).block ≠ _; rw [add_block]; exact hnh) | exact hnh) (.slice A4 ((P.rd_T44 l (k : Int)).f4).length c4)).trans hxh))
                      go_roundw
                      case rel => exact ⟨k + 1, hk2, by rw [fold_step _ _ _ l k hk2, want1_hit HH.out], by go_num, ⟨by repeat (first | (with_reducible first | exact HB.out | apply below_alloc | apply pw_below_drewN | apply below_drew1 | refine below_set ?_ GW.out) | exact HB.out)⟩⟩
                      case measure => simp [intOf]; omega
                    · have qb4 : decide ((i : Int) - (P.rd_T44 l (k : Int)).f1 < ((P.rd_T44 l (k : Int)).f3.length : Int)) = false := decide_eq_false q4
                      have HH := Aside0.mk (show ¬ hit m (P.rd_T44 l (k : Int)) i from fun h => q4 h.2.2.2.2)
                      go_wp2_with (first | ((with_reducible refine gate_dst (N := 17) rfl ?_); (try (refine gate_guard (by rfl) ?_; dsimp only)); refine box_event ?hg (N := 17) ?hd (cs := #[.int .i64 0, .int .i64 0, .int .i64 0, .slice none 0 0, .slice none 0 0]) (t := 44) ?hr ?_; (case hd => rfl); (case hg => rfl); (case hr => first | (go_simp; done) | (go_simp; rfl)); intro gb hg wb hbox hb; have n0_ := Aside0.mk (below_step (by repeat (first | (with_reducible first | exact HB.out | apply below_alloc | apply pw_below_drewN | apply below_drew1) | exact HB.out)) hb); have n1_ := Aside0.mk hbox; have n2_ := Aside0.mk ((by rw [hg]; exact (below_size (by repeat (first | (with_reducible first | exact HB.out | apply below_alloc | apply pw_below_drewN | apply below_drew1) | exact HB.out)))) : wz.heap.size ≤ gb); clear HB; have HB := n0_; have BK := n1_; have GW := n2_; clear n0_ n1_ n2_; clear hb hbox hg; have hcz0 : wb.cell? ⟨gb, 0, none⟩ = some (.int .i64 0) := (blk_cell BK.out 0).trans rfl; have hcz1 : wb.cell? ⟨gb, 1, none⟩ = some (.int .i64 0) := (blk_cell BK.out 1).trans rfl; have hcz2 : wb.cell? ⟨gb, 2, none⟩ = some (.int .i64 0) := (blk_cell BK.out 2).trans rfl; have hcz3 : wb.cell? ⟨gb, 3, none⟩ = some (.slice none 0 0) := (blk_cell BK.out 3).trans rfl; have hcz4 : wb.cell? ⟨gb, 4, none⟩ = some (.slice none 0 0) := (blk_cell BK.out 4).trans rfl; have hfz0 := blk_frozen BK.out 0; have hfz1 := blk_frozen BK.out 1; have hfz2 := blk_frozen BK.out 2; have hfz3 := blk_frozen BK.out 3; have hfz4 := blk_frozen BK.out 4))
                      go_roundw
                      case rel => exact ⟨k + 1, hk2, by rw [fold_step _ _ _ l k hk2, want1_miss HH.out], by go_num, ⟨by repeat (first | (with_reducible first | exact HB.out | apply below_alloc | apply pw_below_drewN | apply below_drew1 | refine below_set ?_ GW.out) | exact HB.out)⟩⟩
                      case measure => simp [intOf]; omega
                  · have qb3 : decide ((P.rd_T44 l (k : Int)).f1 ≤ (i : Int)) = false := decide_eq_false q3
                    have HH := Aside0.mk (show ¬ hit m (P.rd_T44 l (k : Int)) i from fun h => q3 h.2.2.2.1)
                    go_wp2_with (first | ((with_reducible refine gate_dst (N := 17) rfl ?_); (try (refine gate_guard (by rfl) ?_; dsimp only)); refine box_event ?hg (N := 17) ?hd (cs := #[.int .i64 0, .int .i64 0, .int .i64 0, .slice none 0 0, .slice none 0 0]) (t := 44) ?hr ?_; (case hd => rfl); (case hg => rfl); (case hr => first | (go_simp; done) | (go_simp; rfl)); intro gb hg wb hbox hb; have n0_ := Aside0.mk (below_step (by repeat (first | (with_reducible first | exact HB.out | apply below_alloc | apply pw_below_drewN | apply below_drew1) | exact HB.out)) hb); have n1_ := Aside0.mk hbox; have n2_ := Aside0.mk ((by rw [hg]; exact (below_size (by repeat (first | (with_reducible first | exact HB.out | apply below_alloc | apply pw_below_drewN | apply below_drew1) | exact HB.out)))) : wz.heap.size ≤ gb); clear HB; have HB := n0_; have BK := n1_; have GW := n2_; clear n0_ n1_ n2_; clear hb hbox hg; have hcz0 : wb.cell? ⟨gb, 0, none⟩ = some (.int .i64 0) := (blk_cell BK.out 0).trans rfl; have hcz1 : wb.cell? ⟨gb, 1, none⟩ = some (.int .i64 0) := (blk_cell BK.out 1).trans rfl; have hcz2 : wb.cell? ⟨gb, 2, none⟩ = some (.int .i64 0) := (blk_cell BK.out 2).trans rfl; have hcz3 : wb.cell? ⟨gb, 3, none⟩ = some (.slice none 0 0) := (blk_cell BK.out 3).trans rfl; have hcz4 : wb.cell? ⟨gb, 4, none⟩ = some (.slice none 0 0) := (blk_cell BK.out 4).trans rfl; have hfz0 := blk_frozen BK.out 0; have hfz1 := blk_frozen BK.out 1; have hfz2 := blk_frozen BK.out 2; have hfz3 := blk_frozen BK.out 3; have hfz4 := blk_frozen BK.out 4))
                    go_roundw
                    case rel => exact ⟨k + 1, hk2, by rw [fold_step _ _ _ l k hk2, want1_miss HH.out], by go_num, ⟨by repeat (first | (with_reducible first | exact HB.out | apply below_alloc | apply pw_below_drewN | apply below_drew1 | refine below_set ?_ GW.out) | exact HB.out)⟩⟩
                    case measure => simp [intOf]; omega
                · have qb2 : decide (((P.rd_T44 l (k : Int)).f3.length : Int) ≤ (m : Int) - (P.rd_T44 l (k : Int)).f1) = false := decide_eq_false q2
                  have HH := Aside0.mk (show ¬ hit m (P.rd_T44 l (k : Int)) i from fun h => q2 h.2.2.1)
                  go_wp2_with (first | ((with_reducible refine gate_dst (N := 17) rfl ?_); (try (refine gate_guard (by rfl) ?_; dsimp only)); refine box_event ?hg (N := 17) ?hd (cs := #[.int .i64 0, .int .i64 0, .int .i64 0, .slice none 0 0, .slice none 0 0]) (t := 44) ?hr ?_; (case hd => rfl); (case hg => rfl); (case hr => first | (go_simp; done) | (go_simp; rfl)); intro gb hg wb hbox hb; have n0_ := Aside0.mk (below_step (by repeat (first | (with_reducible first | exact HB.out | apply below_alloc | apply pw_below_drewN | apply below_drew1) | exact HB.out)) hb); have n1_ := Aside0.mk hbox; have n2_ := Aside0.mk ((by rw [hg]; exact (below_size (by repeat (first | (with_reducible first | exact HB.out | apply below_alloc | apply pw_below_drewN | apply below_drew1) | exact HB.out)))) : wz.heap.size ≤ gb); clear HB; have HB := n0_; have BK := n1_; have GW := n2_; clear n0_ n1_ n2_; clear hb hbox hg; have hcz0 : wb.cell? ⟨gb, 0, none⟩ = some (.int .i64 0) := (blk_cell BK.out 0).trans rfl; have hcz1 : wb.cell? ⟨gb, 1, none⟩ = some (.int .i64 0) := (blk_cell BK.out 1).trans rfl; have hcz2 : wb.cell? ⟨gb, 2, none⟩ = some (.int .i64 0) := (blk_cell BK.out 2).trans rfl; have hcz3 : wb.cell? ⟨gb, 3, none⟩ = some (.slice none 0 0) := (blk_cell BK.out 3).trans rfl; have hcz4 : wb.cell? ⟨gb, 4, none⟩ = some (.slice none 0 0) := (blk_cell BK.out 4).trans rfl; have hfz0 := blk_frozen BK.out 0; have hfz1 := blk_frozen BK.out 1; have hfz2 := blk_frozen BK.out 2; have hfz3 := blk_frozen BK.out 3; have hfz4 := blk_frozen BK.out 4))
                  go_roundw
                  case rel => exact ⟨k + 1, hk2, by rw [fold_step _ _ _ l k hk2, want1_miss HH.out], by go_num, ⟨by repeat (first | (with_reducible first | exact HB.out | apply below_alloc | apply pw_below_drewN | apply below_drew1 | refine below_set ?_ GW.out) | exact HB.out)⟩⟩
                  case measure => simp [intOf]; omega
              · have qb1 : decide ((P.rd_T44 l (k : Int)).f1 ≤ (m : Int)) = false := decide_eq_false q1
                have HH := Aside0.mk (show ¬ hit m (P.rd_T44 l (k : Int)) i from fun h => q1 h.2.1)
                go_wp2_with (first | ((with_reducible refine gate_dst (N := 17) rfl ?_); (try (refine gate_guard (by rfl) ?_; dsimp only)); refine box_event ?hg (N := 17) ?hd (cs := #[.int .i64 0, .int .i64 0, .int .i64 0, .slice none 0 0, .slice none 0 0]) (t := 44) ?hr ?_; (case hd => rfl); (case hg => rfl); (case hr => first | (go_simp; done) | (go_simp; rfl)); intro gb hg wb hbox hb; have n0_ := Aside0.mk (below_step (by repeat (first | (with_reducible first | exact HB.out | apply below_alloc | apply pw_below_drewN | apply below_drew1) | exact HB.out)) hb); have n1_ := Aside0.mk hbox; have n2_ := Aside0.mk ((by rw [hg]; exact (below_size (by repeat (first | (with_reducible first | exact HB.out | apply below_alloc | apply pw_below_drewN | apply below_drew1) | exact HB.out)))) : wz.heap.size ≤ gb); clear HB; have HB := n0_; have BK := n1_; have GW := n2_; clear n0_ n1_ n2_; clear hb hbox hg; have hcz0 : wb.cell? ⟨gb, 0, none⟩ = some (.int .i64 0) := (blk_cell BK.out 0).trans rfl; have hcz1 : wb.cell? ⟨gb, 1, none⟩ = some (.int .i64 0) := (blk_cell BK.out 1).trans rfl; have hcz2 : wb.cell? ⟨gb, 2, none⟩ = some (.int .i64 0) := (blk_cell BK.out 2).trans rfl; have hcz3 : wb.cell? ⟨gb, 3, none⟩ = some (.slice none 0 0) := (blk_cell BK.out 3).trans rfl; have hcz4 : wb.cell? ⟨gb, 4, none⟩ = some (.slice none 0 0) := (blk_cell BK.out 4).trans rfl; have hfz0 := blk_frozen BK.out 0; have hfz1 := blk_frozen BK.out 1; have hfz2 := blk_frozen BK.out 2; have hfz3 := blk_frozen BK.out 3; have hfz4 := blk_frozen BK.out 4))
                go_roundw
                case rel => exact ⟨k + 1, hk2, by rw [fold_step _ _ _ l k hk2, want1_miss HH.out], by go_num, ⟨by repeat (first | (with_reducible first | exact HB.out | apply below_alloc | apply pw_below_drewN | apply below_drew1 | refine below_set ?_ GW.out) | exact HB.out)⟩⟩
                case measure => simp [intOf]; omega
            · have qb0 : decide (0 ≤ (P.rd_T44 l (k : Int)).f1) = false := decide_eq_false q0
              have HH := Aside0.mk (show ¬ hit m (P.rd_T44 l (k : Int)) i from fun h => q0 h.1)
              go_wp2_with (first | ((with_reducible refine gate_dst (N := 17) rfl ?_); (try (refine gate_guard (by rfl) ?_; dsimp only)); refine box_event ?hg (N := 17) ?hd (cs := #[.int .i64 0, .int .i64 0, .int .i64 0, .slice none 0 0, .slice none 0 0]) (t := 44) ?hr ?_; (case hd => rfl); (case hg => rfl); (case hr => first | (go_simp; done) | (go_simp; rfl)); intro gb hg wb hbox hb; have n0_ := Aside0.mk (below_step (by repeat (first | (with_reducible first | exact HB.out | apply below_alloc | apply pw_below_drewN | apply below_drew1) | exact HB.out)) hb); have n1_ := Aside0.mk hbox; have n2_ := Aside0.mk ((by rw [hg]; exact (below_size (by repeat (first | (with_reducible first | exact HB.out | apply below_alloc | apply pw_below_drewN | apply below_drew1) | exact HB.out)))) : wz.heap.size ≤ gb); clear HB; have HB := n0_; have BK := n1_; have GW := n2_; clear n0_ n1_ n2_; clear hb hbox hg; have hcz0 : wb.cell? ⟨gb, 0, none⟩ = some (.int .i64 0) := (blk_cell BK.out 0).trans rfl; have hcz1 : wb.cell? ⟨gb, 1, none⟩ = some (.int .i64 0) := (blk_cell BK.out 1).trans rfl; have hcz2 : wb.cell? ⟨gb, 2, none⟩ = some (.int .i64 0) := (blk_cell BK.out 2).trans rfl; have hcz3 : wb.cell? ⟨gb, 3, none⟩ = some (.slice none 0 0) := (blk_cell BK.out 3).trans rfl; have hcz4 : wb.cell? ⟨gb, 4, none⟩ = some (.slice none 0 0) := (blk_cell BK.out 4).trans rfl; have hfz0 := blk_frozen BK.out 0; have hfz1 := blk_frozen BK.out 1; have hfz2 := blk_frozen BK.out 2; have hfz3 := blk_frozen BK.out 3; have hfz4 := blk_frozen BK.out 4))
              go_roundw
              case rel => exact ⟨k + 1, hk2, by rw [fold_step _ _ _ l k hk2, want1_miss HH.out], by go_num, ⟨by repeat (first | (with_reducible first | exact HB.out | apply below_alloc | apply pw_below_drewN | apply below_drew1 | refine below_set ?_ GW.out) | exact HB.out)⟩⟩
              case measure => simp [intOf]; omega
          · obtain rfl : k = l.length := by omega
            obtain ⟨ad, ead, hcell⟩ := Kd.at_int HDZ.out (i : Int) (by omega) (by omega)
            subst ead
            replace hcell := (HB.out.cell (World.block_lt_of_cell? _ _ hcell)).trans hcell
            rw [show rd (wrD m [] l).now (i : Int) = (l.take l.length).foldl (want1 m i) 0 by have := HNOW.out i; rw [List.take_length] at this ⊢; simpa [rd] using this] at hcell
            simp only [Int.toNat_natCast] at hcell
            go_wp2_with fail
            go_roundw
            case rel => exact ⟨i + 1, hlt, by go_num, ⟨by repeat (first | (with_reducible first | exact HB.out | apply below_alloc | apply pw_below_drewN | apply below_drew1) | exact HB.out)⟩⟩
            case measure => simp [intOf]; omega
      · obtain rfl : i = m := by omega
        go_wp2_with fail
        go_ret
        exact ⟨rfl, below_step HBZ.out HB.out⟩
end Go.Proofs.Ytbbokpkpdnppjaa
