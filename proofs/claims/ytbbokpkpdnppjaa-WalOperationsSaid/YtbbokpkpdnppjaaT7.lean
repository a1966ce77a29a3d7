/- A part of the proof of WalOperations. -/
import Derived.Test.YtbbokpkpdnppjaaU0
import Derived.Test.YtbbokpkpdnppjaaUA
import Derived.Test.YtbbokpkpdnppjaaT4
namespace Go.Proofs.Ytbbokpkpdnppjaa
open Go.RowKit Go.Proofs.YtbbokpkpdnppjaaW.PrintWords Go.Proofs.YtbbokpkpdnppjaaW.PrintLast Go.Proofs.YtbbokpkpdnppjaaW.PrintMore
set_option linter.unusedVariables false
set_option linter.unusedSimpArgs false
/-! ### The reference opens -/
theorem RefV.start {w : World} {ok : Nat → Prop} {v : Value} {D : Dk} (h : RefV w ok v D) : ∃ A0 c0 A1 c1, v = .agg #[.slice A0 D.dur.length c0, .slice A1 D.pend.length c1, .int .i64 D.cnt, .bool D.failed] ∧ RS w w ok [] A0 c0 A1 c1 D none 0 [] := by
 obtain ⟨A0, c0, A1, c1, rfl, _, _⟩ := h.form
 rw [List.length_map] at *
 obtain ⟨v0, v1, e, g0, g1⟩ := h
 refine ⟨A0, c0, A1, c1, rfl, Below.refl _ _, fun i b t cs hi => by simp at hi, fun i j x y hi => by simp at hi, fun k => ok k ∧ k < w.heap.size, ⟨v0, v1, e, Kd.V_bound g0, Kd.V_bound g1⟩, Kd.N_V (base' := 0) (Kd.N_nil G.k73 73 w 0 _), fun k hk => ⟨.inl hk.1, hk.2, fun i b t cs hi => by simp at hi⟩⟩
def BV (w wk : World) (ok : Nat → Prop) (bs : List (Nat × TypeId × Array Value)) (A : Option Addr) (c : Nat) (b : List Int) : Prop := ∃ okb, Kd.V (Kd.int .u8) 5 wk wk.heap.size okb (.slice A b.length c) b ∧ ∀ k, okb k → (ok k ∨ w.heap.size ≤ k) ∧ k < wk.heap.size ∧ ∀ (i b : Nat) (t : TypeId) (cs : Array Value), bs[i]? = some (b, t, cs) → k ≠ b
theorem RS.contents {w wk : World} {ok : Nat → Prop} {bs : List (Nat × TypeId × Array Value)} {A0 A1 A6 : Option Addr} {c0 c1 c6 : Nat} {D : Dk} {rs : List G.S73} (h : RS w wk ok bs A0 c0 A1 c1 D A6 c6 rs) (hok : D.Ok) :
  Calls Try.prog 76 #[.agg #[.slice A0 D.dur.length c0, .slice A1 D.pend.length c1, .int .i64 D.cnt, .bool D.failed]] wk fun e w' => ∃ A c, e = .returned (.slice A D.now.length c) ∧ BV w w' ok bs A c D.now ∧ RS w w' ok bs A0 c0 A1 c1 D A6 c6 rs ∧ Below wk.heap.size wk w' := by
 have h0 := h
 obtain ⟨h1, h2, h3, okk, h4, h5, h6⟩ := h
 obtain ⟨B0, d0, B1, d1, e, g0, g1⟩ := h4.form
 rw [List.length_map] at e
 injection e with e
 have e' := congrArg Array.toList e
 simp only [List.cons.injEq, Value.slice.injEq, true_and, and_true] at e'
 obtain ⟨⟨rfl, rfl⟩, rfl, rfl⟩ := e'
 obtain ⟨_, hl1, hC1⟩ := Kd.V_reads' g1
 have hc := S.lineageref13_Contents.calls 5000000 okk A0 c0 D.dur A1 c1 (D.pend.map toS) D.cnt D.failed D.now wk g0 hC1 hl1 (contents_f D hok 5000000 (by omega))
 rw [List.length_map] at hc
 refine hc.mono ?_
 rintro e w' ⟨v0, rfl, hv, hb⟩
 obtain ⟨A, c, rfl⟩ := Kd.V_slice hv
 refine ⟨A, c, rfl, ⟨_, Kd.V_map (Kd.V_bound hv) (fun _ hf => hf), fun k hk => ?_⟩, h0.below hb, hb⟩
 obtain ⟨hk, hlt⟩ := hk
 rcases hk with hk | hk
 ·exact ⟨(h6 k hk).1, hlt, (h6 k hk).2.2⟩
 ·exact ⟨.inr (Nat.le_trans h1.size hk), hlt, fun i b t cs hi => by have := blk_lt (h2 i b t cs hi).2; omega⟩
theorem RS.scan {w wk : World} {ok : Nat → Prop} {bs : List (Nat × TypeId × Array Value)} {A0 A1 A6 : Option Addr} {c0 c1 c6 : Nat} {D : Dk} {rs0 : List G.S73} (h : RS w wk ok bs A0 c0 A1 c1 D A6 c6 rs0) {A : Option Addr} {c : Nat} {b : List Int} (hV : BV w wk ok bs A c b)
  (hB : Bytes b) (h24 : 24 ≤ b.length) (hm : b.length ≤ 4194304) {ba sl : Int} (hbs : basesN b 2 = (sl, ba)) {at_ : Nat} {rs : List G.S73} (hp : Path b ba at_ rs) (hn : frameAt b ba at_ = none) :
  Calls Try.prog 37 #[.slice A b.length c] wk fun e w' => ∃ Az cz Ay cy A8 c8, e = .returned (.agg #[.slice Az 0 cz, .slice Ay 0 cy, .int .i64 0, .bool false, .int .i64 ba, .int .i64 sl, .slice A8 rs.length c8, .int .i64 (ba + at_ - 24), .int .i64 0]) ∧ RS w w' ok bs A0 c0 A1 c1 D A8 c8 rs ∧ Below wk.heap.size wk w' := by
 obtain ⟨okb, hv, hob⟩ := hV
 have h2 := h.2.1
 have h1 := h.1
 refine (G.lineageref15_Scan.calls 60000000 okb A c b _ _ _ _ _ _ _ _ _ wk hv (scan_f b hB h24 hm ba sl hbs hp hn 60000000 (Nat.le_refl _))).mono ?_
 rintro e w' ⟨v0, v1, v6, rfl, hN0, hN1, hN6, hb⟩
 obtain ⟨Az, cz, rfl⟩ := Kd.R_slice hN0
 obtain ⟨Ay, cy, rfl⟩ := Kd.N_slice hN1
 obtain ⟨A8, c8, rfl⟩ := Kd.N_slice hN6
 refine ⟨Az, cz, Ay, cy, A8, c8, rfl, (h.below hb).newrecs (Kd.N_V (base' := 0) (Kd.N_bound hN6)) (fun k hk => ?_), hb⟩
 obtain ⟨⟨hk, _⟩, hlt⟩ := hk
 rcases hk with hk | hk
 ·exact ⟨(hob k hk).1, hlt, (hob k hk).2.2⟩
 ·exact ⟨.inr (Nat.le_trans h1.size hk), hlt, fun i b t cs hi => by have := blk_lt (h2 i b t cs hi).2; omega⟩
def staleB (b : List Int) (a i : Nat) : Bool := ((b.take i).drop a).any (fun x => x != 0)
theorem staleB_start (b : List Int) (a : Nat) : staleB b a a = false := by
 unfold staleB
 rw [List.drop_of_length_le (by rw [List.length_take]; omega)]
 rfl
theorem staleB_succ (b : List Int) (a i : Nat) (ha : a ≤ i) (hi : i < b.length) : staleB b a (i + 1) = (staleB b a i || (rd b (i : Int) != 0)) := by
 have e : rd b (i : Int) = b[i] := by simp [rd, List.getD_eq_getElem?_getD, hi]
 unfold staleB
 rw [e, List.take_add_one, List.getElem?_eq_getElem hi, List.drop_append_of_le_length (by rw [List.length_take]; omega), List.any_append]
 simp
theorem staleB_all (b : List Int) (a : Nat) : staleB b a b.length = true ↔ ∃ x ∈ b.drop a, x ≠ 0 := by
 unfold staleB
 rw [List.take_length]
 simp
theorem still_write {D : Dk} (hs : Still D) (a : Nat) (ha : a ≤ D.dur.length) : (D.write (a : Int) (List.replicate (D.dur.length - a) 0)).2 = 0 ∧ (D.write (a : Int) (List.replicate (D.dur.length - a) 0)).1.sync.2 = 0 ∧ (D.write (a : Int) (List.replicate (D.dur.length - a) 0)).1.sync.1.pend.length = 0 := by
 obtain ⟨h1, h2, h3⟩ := hs
 obtain ⟨e1, ⟨f1, f2⟩, _, _⟩ := Dk.Calm.write (D := D) ⟨h3, h2⟩ a (List.replicate (D.dur.length - a) 0) (by rw [List.length_replicate]; omega)
 rw [e1]
 refine ⟨rfl, ?_, ?_⟩ <;> simp [Dk.sync, f1, f2, Dk.synced]
set_option maxRecDepth 100000 in
set_option maxHeartbeats 8000000 in
theorem refOpen_calls {w : World} {ok : Nat → Prop} {v : Value} {D : Dk} (h : RefV w ok v D) (hok : D.Ok) (hs : Still D) (h24 : 24 ≤ D.dur.length) (hB : Bytes D.dur) {sl ba : Int} (hbs : basesN D.dur 2 = (sl, ba)) {at_ : Nat} {rs : List G.S73} (hP : Path D.dur ba at_ rs) (hn : frameAt D.dur ba at_ = none) :
  Calls Try.prog 46 #[v] w fun e w' => ∃ v', e = .returned (.tuple #[v', .int .i64 0]) ∧ RefL w' (New ok w w') v' ⟨sl, ba, ba + (at_ : Int) - 24, ba + (at_ : Int) - 24, rs⟩ (eraseD D D.dur at_).1 ∧ Below w.heap.size w w' := by
 obtain ⟨A0, c0, A1, c1, rfl, HS⟩ := h.start
 rw [hs.failed] at *
 replace HS := AM HS
 have hu64 := Try.underlying64
 have hu50 := Try.underlying50
 have hbig := hok.big
 have hrg := basesN_range D.dur hB (by omega)
 rw [hbs] at hrg
 have hle := hP.le (by omega)
 have HP := AM hP
 have HN := AM hn
 have HB := AM hB
 have HBS := AM hbs
 have HOK := AM hok
 have HST := AM hs
 have HSF := AM hs.failed
 have HNOW := AM (show D.now = D.dur by unfold Dk.now; rw [hs.pend]; rfl)
 have HP0 := AM (show D.pend.length = 0 by rw [hs.pend]; rfl)
 have h24' : ¬ ((D.dur.length : Int) < 24) := by omega
 clear h hP hn hB hbs hok hs
 replace HS := AM (HS.out.alloc 50 #[.slice A0 D.dur.length c0, .slice A1 D.pend.length c1, .int .i64 D.cnt, .bool false])
 replace HS := AM (HS.out.alloc 64 #[.slice none 0 0, .slice none 0 0, .int .i64 0, .bool false, .int .i64 0, .int .i64 0, .slice none 0 0, .int .i64 0, .int .i64 0])
 rw [World.size_alloc] at HS
 go_enter Try.func46, Try.ntmps46
 go_upto_region 1 with fail
 generalize (w.alloc _).alloc _ = w2 at HS ⊢
 obtain ⟨z00, z01, z02, z03⟩ := bq (HS.out.blk 1 rfl)
 go_wp2_with fail
 have hct := HS.out.contents HOK.out
 rw [HSF.out, HNOW.out] at hct
 refine hct.mono ?_
 clear hct
 rintro e w3 ⟨Ab, cb, rfl, hbv, hs3, hb3⟩
 have HBV := AM hbv
 replace HS := AM hs3
 clear hbv hs3 hb3 h24'
 clear z00 z01 z02 z03
 go_wp2_with fail
 refine (HS.out.scan HBV.out HB.out (by omega) (by omega) HBS.out HP.out HN.out).mono ?_
 rintro e w4 ⟨Az, cz, Ay, cy, A6, c6, rfl, hs4, hb4⟩
 have HC4 := AM (Kd.C_below (Kd.V_reads' HBV.out.choose_spec.1).2.2 hb4)
 replace HS := AM hs4
 clear hs4 hb4 HBV
 replace HS := AM (HS.out.alloc 64 #[.slice Az 0 cz, .slice Ay 0 cy, .int .i64 0, .bool false, .int .i64 ba, .int .i64 sl, .slice A6 rs.length c6, .int .i64 (ba + (at_ : Int) - 24), .int .i64 0])
 replace HC4 := AM (Kd.C_below HC4.out (below_alloc (Below.refl _ _) (.cells #[.slice Az 0 cz, .slice Ay 0 cy, .int .i64 0, .bool false, .int .i64 ba, .int .i64 sl, .slice A6 rs.length c6, .int .i64 (ba + (at_ : Int) - 24), .int .i64 0] 64) : Below w4.heap.size w4 _))
 obtain ⟨b5, he5⟩ : ∃ b5, b5 = w4.heap.size := ⟨_, rfl⟩
 rw [← he5] at HS
 go_upto_region 7 with fail
 rw [← he5]
 generalize w4.alloc _ = w5 at HS HC4 ⊢
 clear he5
 have e1 : wrap64 (24 + (ba + (at_ : Int) - 24)) = ba + (at_ : Int) := by rw [w64 (by omega) (by omega)]; omega
 have e2 : wrap64 (ba + (at_ : Int) - ba) = (at_ : Int) := by rw [w64 (by omega) (by omega)]; omega
 have e24 : IntKind.i64.wrap 24 = 24 := by decide
 have z24 := (blk_cell (HS.out.blk 0 rfl) 4).trans rfl
 have z27 := (blk_cell (HS.out.blk 0 rfl) 7).trans rfl
 go_upto_region 9 with fail
 try rw [e1]
 try rw [e2]
 try rw [show 24 + (ba + (at_ : Int) - 24) - ba = (at_ : Int) by omega]
 clear e1 e2 e24
 clear z24 z27
 go_wp2_with fail
 go_loopw [7, 8] (fun v7 v8 wr => ∃ i : Nat, at_ ≤ i ∧ i ≤ D.dur.length ∧ v7 = .bool (staleB D.dur at_ i) ∧ v8 = .int .i64 (i : Int) ∧ Aside0 (Below w5.heap.size w5 wr)) (fun _ v8 _ => D.dur.length - (intOf v8).toNat)
 case atStart => exact ⟨at_, Nat.le_refl _, hle.1, by rw [staleB_start], rfl, ⟨Below.refl _ _⟩⟩
 case round =>
  obtain ⟨i, hia, hi, rfl, rfl, HBR⟩ := hrel
  by_cases hlt : i < D.dur.length
  ·have hlt' : ((i : Int) < (D.dur.length : Int)) := by omega
   obtain ⟨ad1, ea1, hx1⟩ := Kd.at_int HC4.out (i : Int) (by omega) (by omega)
   subst ea1
   replace hx1 := (HBR.out.cell (World.block_lt_of_cell? _ _ hx1)).trans hx1
   simp only [Int.toNat_natCast] at hx1
   have ES := AM (staleB_succ D.dur at_ i hia hlt)
   generalize staleB D.dur at_ i = s at ES ⊢
   generalize rd D.dur (i : Int) = X at hx1 ES
   cases s with
   | true =>
    go_wp2_with fail
    go_roundw
    case rel => exact ⟨i + 1, by omega, hlt, by rw [ES.out]; rfl, by go_num, HBR⟩
    case measure => simp [intOf]; omega
   | false =>
    go_wp2_with fail
    go_roundw
    case rel => exact ⟨i + 1, by omega, hlt, by rw [ES.out]; simp, by go_num, HBR⟩
    case measure => simp [intOf]; omega
  ·obtain rfl : i = D.dur.length := by omega
   have hlt' : ¬ ((D.dur.length : Int) < (D.dur.length : Int)) := by omega
   replace HS := AM (HS.out.below HBR.out)
   clear HC4 HBR hlt hlt' hia hi
   by_cases hst : staleB D.dur at_ D.dur.length = true
   rotate_left
   ·have HL := AM (show eraseD D D.dur at_ = (D, 0) by rw [eraseD, if_neg (fun h => hst ((staleB_all _ _).2 h))])
    have hst' : staleB D.dur at_ D.dur.length = false := by simpa using hst
    rw [hst']
    clear hst hst'
    go_upto_region 21 with fail
    generalize hwR : wr = w6 at HS ⊢
    clear hwR
    obtain ⟨z00, z01, z02, z03⟩ := bq (HS.out.blk 2 rfl)
    obtain ⟨z20, z21, z22, z23⟩ := bq (HS.out.blk 0 rfl)
    obtain ⟨f20, f21, f22, f23⟩ := fq (HS.out.blk 0 rfl)
    go_upto_region 22 with fail
    clear z00 z01 z02 z03 z20 z21 z22 z23 f20 f21 f22 f23
    replace HS := AM (show RS w _ ok [(b5, 64, #[.slice A0 D.dur.length c0, .slice A1 D.pend.length c1, .int .i64 D.cnt, .bool false, .int .i64 ba, .int .i64 sl, .slice A6 rs.length c6, .int .i64 (ba + (at_ : Int) - 24), .int .i64 0]), (w.heap.size + 1, 64, #[.slice none 0 0, .slice none 0 0, .int .i64 0, .bool false, .int .i64 0, .int .i64 0, .slice none 0 0, .int .i64 0, .int .i64 0]), (w.heap.size, 50, #[.slice A0 D.dur.length c0, .slice A1 D.pend.length c1, .int .i64 D.cnt, .bool false])] _ _ _ _ _ _ _ _ from HS.out.puts [(0, .slice A0 D.dur.length c0), (1, .slice A1 D.pend.length c1), (2, .int .i64 D.cnt), (3, .bool false)] 0 rfl)
    replace HS := AM (show RS w (((((w6).setCell ⟨b5, 0, none⟩ (.slice A0 D.dur.length c0)).setCell ⟨b5, 1, none⟩ (.slice A1 D.pend.length c1)).setCell ⟨b5, 2, none⟩ (.int .i64 D.cnt)).setCell ⟨b5, 3, none⟩ (.bool false)) ok _ _ _ _ _ _ _ _ _ from HS.out)
    generalize ((((w6).setCell ⟨b5, 0, none⟩ (.slice A0 D.dur.length c0)).setCell ⟨b5, 1, none⟩ (.slice A1 D.pend.length c1)).setCell ⟨b5, 2, none⟩ (.int .i64 D.cnt)).setCell ⟨b5, 3, none⟩ (.bool false) = w7 at HS ⊢
    have z24 := (blk_cell (HS.out.blk 0 rfl) 4).trans rfl
    have z28 := (blk_cell (HS.out.blk 0 rfl) 8).trans rfl
    have f28 := blk_frozen (HS.out.blk 0 rfl) 8
    go_upto_region 23 with fail
    clear z24 z28 f28
    replace HS := AM (show RS w _ ok [(b5, 64, #[.slice A0 D.dur.length c0, .slice A1 D.pend.length c1, .int .i64 D.cnt, .bool false, .int .i64 ba, .int .i64 sl, .slice A6 rs.length c6, .int .i64 (ba + (at_ : Int) - 24), .int .i64 ba]), (w.heap.size + 1, 64, #[.slice none 0 0, .slice none 0 0, .int .i64 0, .bool false, .int .i64 0, .int .i64 0, .slice none 0 0, .int .i64 0, .int .i64 0]), (w.heap.size, 50, #[.slice A0 D.dur.length c0, .slice A1 D.pend.length c1, .int .i64 D.cnt, .bool false])] _ _ _ _ _ _ _ _ from HS.out.puts [(8, .int .i64 ba)] 0 rfl)
    replace HS := AM (show RS w ((w7).setCell ⟨b5, 8, none⟩ (.int .i64 ba)) ok _ _ _ _ _ _ _ _ _ from HS.out)
    generalize (w7).setCell ⟨b5, 8, none⟩ (.int .i64 ba) = w8 at HS ⊢
    have z01 := (blk_cell (HS.out.blk 2 rfl) 1).trans rfl
    have z27 := (blk_cell (HS.out.blk 0 rfl) 7).trans rfl
    have z28 := (blk_cell (HS.out.blk 0 rfl) 8).trans rfl
    have f28 := blk_frozen (HS.out.blk 0 rfl) 8
    rw [HP0.out] at z01
    go_upto_region 25 with fail
    clear z01 z27 z28 f28
    replace HS := AM (show RS w _ ok [(b5, 64, #[.slice A0 D.dur.length c0, .slice A1 D.pend.length c1, .int .i64 D.cnt, .bool false, .int .i64 ba, .int .i64 sl, .slice A6 rs.length c6, .int .i64 (ba + (at_ : Int) - 24), .int .i64 (ba + (at_ : Int) - 24)]), (w.heap.size + 1, 64, #[.slice none 0 0, .slice none 0 0, .int .i64 0, .bool false, .int .i64 0, .int .i64 0, .slice none 0 0, .int .i64 0, .int .i64 0]), (w.heap.size, 50, #[.slice A0 D.dur.length c0, .slice A1 D.pend.length c1, .int .i64 D.cnt, .bool false])] _ _ _ _ _ _ _ _ from HS.out.puts [(8, .int .i64 (ba + (at_ : Int) - 24))] 0 rfl)
    replace HS := AM (show RS w ((w8).setCell ⟨b5, 8, none⟩ (.int .i64 (ba + (at_ : Int) - 24))) ok _ _ _ _ _ _ _ _ _ from HS.out)
    generalize (w8).setCell ⟨b5, 8, none⟩ (.int .i64 (ba + (at_ : Int) - 24)) = w9 at HS ⊢
    obtain ⟨z20, z21, z22, z23, z24, z25, z26, z27, z28⟩ := bn (HS.out.blk 0 rfl)
    obtain ⟨z10, z11, z12, z13, z14, z15, z16, z17, z18⟩ := bn (HS.out.blk 1 rfl)
    obtain ⟨f10, f11, f12, f13, f14, f15, f16, f17, f18⟩ := fn (HS.out.blk 1 rfl)
    go_wp2_with fail
    clear z20 z21 z22 z23 z24 z25 z26 z27 z28 z10 z11 z12 z13 z14 z15 z16 z17 z18 f10 f11 f12 f13 f14 f15 f16 f17 f18
    replace HS := AM (show RS w _ ok [(b5, 64, #[.slice A0 D.dur.length c0, .slice A1 D.pend.length c1, .int .i64 D.cnt, .bool false, .int .i64 ba, .int .i64 sl, .slice A6 rs.length c6, .int .i64 (ba + (at_ : Int) - 24), .int .i64 (ba + (at_ : Int) - 24)]), (w.heap.size + 1, 64, #[.slice A0 D.dur.length c0, .slice A1 D.pend.length c1, .int .i64 D.cnt, .bool false, .int .i64 ba, .int .i64 sl, .slice A6 rs.length c6, .int .i64 (ba + (at_ : Int) - 24), .int .i64 (ba + (at_ : Int) - 24)]), (w.heap.size, 50, #[.slice A0 D.dur.length c0, .slice A1 D.pend.length c1, .int .i64 D.cnt, .bool false])] _ _ _ _ _ _ _ _ from HS.out.puts [(0, .slice A0 D.dur.length c0), (1, .slice A1 D.pend.length c1), (2, .int .i64 D.cnt), (3, .bool false), (4, .int .i64 ba), (5, .int .i64 sl), (6, .slice A6 rs.length c6), (7, .int .i64 (ba + (at_ : Int) - 24)), (8, .int .i64 (ba + (at_ : Int) - 24))] 1 rfl)
    refine bodyPost_ret (results_ct rfl _ _ (w.heap.size + 1) 64 #[.slice A0 D.dur.length c0, .slice A1 D.pend.length c1, .int .i64 D.cnt, .bool false, .int .i64 ba, .int .i64 sl, .slice A6 rs.length c6, .int .i64 (ba + (at_ : Int) - 24), .int .i64 (ba + (at_ : Int) - 24)] (0, 0) _ rfl (HS.out.blk 1 rfl) Try.underlying64 rfl (by kernel_rfl)) rfl ?_
    have hd := HS.out.done ⟨sl, ba, (ba + (at_ : Int) - 24), (ba + (at_ : Int) - 24), rs⟩ rfl
    rw [HSF.out] at hd
    rw [HL.out]
    exact ⟨_, rfl, hd⟩
   obtain ⟨hw2, hs2, hq0⟩ := still_write HST.out at_ hle.1
   have hokw := HOK.out.write (by rw [HP0.out]; omega) (at_ : Int) (List.replicate (D.dur.length - at_) (0 : Int))
   have hE0 : eraseD D D.dur at_ = (D.write (at_ : Int) (List.replicate (D.dur.length - at_) (0 : Int))).1.sync := by rw [eraseD, if_pos ((staleB_all _ _).1 hst), if_pos hw2]
   obtain ⟨P1, hP1⟩ : ∃ P, D.write (at_ : Int) (List.replicate (D.dur.length - at_) (0 : Int)) = P := ⟨_, rfl⟩
   obtain ⟨S1, hS1⟩ : ∃ P, P1.1.sync = P := ⟨_, rfl⟩
   rw [hP1] at hw2 hs2 hq0 hokw hE0
   rw [hS1] at hs2 hq0 hE0
   have HP1 := AM hP1
   have HS1 := AM hS1
   have HL := AM hE0
   have HW2 := AM hw2
   have HS2 := AM hs2
   have HQ0 := AM hq0
   have HOK1 := AM hokw
   rw [hst]
   clear hst hw2 hs2 hq0 hokw hE0 hP1 hS1
   go_upto_region 14 with fail
   generalize hwR : wr = w6 at HS ⊢
   clear hwR
   have hmk : (D.dur.length : Int) - (at_ : Int) = ((D.dur.length - at_ : Nat) : Int) := by omega
   have HMK := AM (show wrap64 ((D.dur.length : Int) - (at_ : Int)) = ((D.dur.length - at_ : Nat) : Int) by rw [w64 (by omega) (by omega)]; exact hmk)
   clear hmk
   refine start_ (n := 14) (S := fun w' => w'.cell? ⟨w.heap.size, 0, none⟩ = some (.slice A0 D.dur.length c0) ∧ w'.cell? ⟨w.heap.size, 1, none⟩ = some (.slice A1 D.pend.length c1) ∧ w'.cell? ⟨w.heap.size, 2, none⟩ = some (.int .i64 D.cnt) ∧ w'.cell? ⟨w.heap.size, 3, none⟩ = some (.bool false)) (ds := []) #[false, false, false, false, false, false, false, false, false, false, false, false, false, false] (by kernel_rfl) rfl rfl ⟨(blk_cell (HS.out.blk 2 rfl) 0).trans rfl, (blk_cell (HS.out.blk 2 rfl) 1).trans rfl, (blk_cell (HS.out.blk 2 rfl) 2).trans rfl, (blk_cell (HS.out.blk 2 rfl) 3).trans rfl⟩ (fun hHeld => ?_)
   clear hHeld
   replace HS := AM (HS.out.below (below_drew (Below.refl _ _)))
   generalize w6.drew = w7 at HS ⊢
   have hHeld : w7.cell? ⟨w.heap.size, 0, none⟩ = some (.slice A0 D.dur.length c0) ∧ w7.cell? ⟨w.heap.size, 1, none⟩ = some (.slice A1 D.pend.length c1) ∧ w7.cell? ⟨w.heap.size, 2, none⟩ = some (.int .i64 D.cnt) ∧ w7.cell? ⟨w.heap.size, 3, none⟩ = some (.bool false) := ⟨(blk_cell (HS.out.blk 2 rfl) 0).trans rfl, (blk_cell (HS.out.blk 2 rfl) 1).trans rfl, (blk_cell (HS.out.blk 2 rfl) 2).trans rfl, (blk_cell (HS.out.blk 2 rfl) 3).trans rfl⟩
   refine tk 0 (some 50) ?_ (bt 14 1) (by kernel_rfl) hHeld ?_ ?_ ?_ ?_
   rotate_left
   ·rintro w' ⟨s0, s1, s2, s3⟩
    go_simp
    with_reducible rfl
   rotate_left
   ·simp only [pS]
    rfl
   refine pu 1 (some 51) ?_ (bt 14 3) (by kernel_rfl) ?_ ?_ ?_ ?_
   rotate_left
   ·intro w'
    go_simp
    with_reducible rfl
   rotate_left
   ·simp only [pS]
    rfl
   refine pu 2 (some 52) ?_ (bt 14 7) (by kernel_rfl) ?_ ?_ ?_ ?_
   rotate_left
   ·intro w'
    go_simp
    with_reducible rfl
   rotate_left
   ·simp only [pS]
    rfl
   refine pu 3 (some 53) ?_ (bt 14 15) (by kernel_rfl) ?_ ?_ ?_ ?_
   rotate_left
   ·intro w'
    go_simp
    with_reducible rfl
   rotate_left
   ·simp only [pS]
    rfl
   refine pu 4 (some 54) ?_ (bt 14 31) (by kernel_rfl) ?_ ?_ ?_ ?_
   rotate_left
   ·intro w'
    go_simp
    with_reducible rfl
   rotate_left
   ·simp only [pS]
    rfl
   refine pu 5 (some 55) ?_ (bt 14 63) (by kernel_rfl) ?_ ?_ ?_ ?_
   rotate_left
   ·intro w'
    go_simp
    with_reducible rfl
   rotate_left
   ·simp only [pS]
    rfl
   rw [HMK.out]
   refine join_ (σ := Option Addr × Nat × Option Addr × Nat × Option Addr × Nat × Nat) 2 (bt 14 4095) (fun ⟨Az1, cz1, B0, d0, B1, d1, bx⟩ => [(56, .slice Az1 (List.replicate (D.dur.length - at_) (0 : Int)).length cz1), (57, .tuple #[.agg #[.slice B0 P1.1.dur.length d0, .slice B1 P1.1.pend.length d1, .int .i64 P1.1.cnt, .bool P1.1.failed], .int .i64 0]), (49, .tuple #[.agg #[.slice B0 P1.1.dur.length d0, .slice B1 P1.1.pend.length d1, .int .i64 P1.1.cnt, .bool P1.1.failed], .int .i64 0]), (58, .agg #[.slice B0 P1.1.dur.length d0, .slice B1 P1.1.pend.length d1, .int .i64 P1.1.cnt, .bool P1.1.failed]), (59, .int .i64 0), (9, .pointer (some ⟨bx, 0, none⟩))]) (fun ⟨Az1, cz1, B0, d0, B1, d1, bx⟩ w' => RS w w' ok [(bx, 50, #[.slice none 0 0, .slice none 0 0, .int .i64 0, .bool false]), (b5, 64, #[.slice Az 0 cz, .slice Ay 0 cy, .int .i64 0, .bool false, .int .i64 ba, .int .i64 sl, .slice A6 rs.length c6, .int .i64 (ba + (at_ : Int) - 24), .int .i64 0]), (w.heap.size + 1, 64, #[.slice none 0 0, .slice none 0 0, .int .i64 0, .bool false, .int .i64 0, .int .i64 0, .slice none 0 0, .int .i64 0, .int .i64 0]), (w.heap.size, 50, #[.slice A0 D.dur.length c0, .slice A1 D.pend.length c1, .int .i64 D.cnt, .bool false])] B0 d0 B1 d1 P1.1 A6 c6 rs) ?_ ?_
   rotate_left
   ·intro hJ
    refine two_ (i := 6) (j := 11) (Ni := some 56) (Nj := some 9) (bt 14 127) (bt 14 2111) rfl rfl rfl rfl (by kernel_rfl) (by decide) (by decide) (fun K hK => ?_) (fun K hK => ?_)
    ·refine Kd.R_make_step (Kd.int .u8) (w0 := w7) w7.heap.size 5 (by rfl) (N := 56) rfl 29 (.tmp 55) (.tmp 55) rfl (((D.dur.length - at_ : Nat) : Int)) rfl rfl Try.underlying29 (.int .u8 0) 1 info5 rfl (by decide) (by omega) 0 (ok := fun k => w7.heap.size ≤ k) (okp := fun _ => False) rfl (fun _ h => h.elim) (Nat.le_refl _) (by omega) (by simp; omega) (Below.refl _ _) (Nat.le_refl _) ?_
     intro v1 w7_1 hr hb _ _
     obtain ⟨Az1, cz1, rfl⟩ := Kd.R_slice hr
     have HZ := AM (Kd.R_reads' hr).2.2
     have hcz := (Kd.R_reads' hr).2.1
     rw [Int.toNat_natCast] at HZ hcz ⊢
     replace HS := AM (HS.out.below hb)
     clear hr hb
     clear hHeld
     refine hK.out _ _ ⟨(blk_cell (HS.out.blk 2 rfl) 0).trans rfl, (blk_cell (HS.out.blk 2 rfl) 1).trans rfl, (blk_cell (HS.out.blk 2 rfl) 2).trans rfl, (blk_cell (HS.out.blk 2 rfl) 3).trans rfl⟩ (fun hHeld => ?_)
     clear hK K
     refine norm_ (a' := ?_) ?_ ?_
     rotate_left
     ·show Act.put _ (some 56) _ = _
      simp only [pS]
      rfl
     refine two_ (i := 7) (j := 11) (Ni := some 57) (Nj := some 9) (bt 14 255) (bt 14 2175) rfl rfl rfl rfl (by kernel_rfl) (by decide) (by decide) (fun K hK => ?_) (fun K hK => ?_)
     ·refine goes_ Try.func61 (by kernel_rfl) rfl #[.agg #[.slice A0 D.dur.length c0, .slice A1 D.pend.length c1, .int .i64 D.cnt, .bool false], .int .i64 (at_ : Int), .slice Az1 (List.replicate (D.dur.length - at_) (0 : Int)).length cz1] (by rfl) rfl rfl (by (try simp only [List.map_toArray, List.map_cons, List.map_nil]); first | done | rfl) ?_
      have hput := HS.out.write HOK.out (at_ : Int) Az1 cz1 (List.replicate (D.dur.length - at_) (0 : Int)) HZ.out hcz (by rw [List.length_replicate]; omega)
      rw [HP1.out, HW2.out, HSF.out] at hput
      refine hput.mono ?_
      clear hput
      rintro e w7_2 ⟨B0, d0, B1, d1, rfl, hS⟩
      replace HS := AM hS
      clear hS
      refine ⟨_, rfl, ?_⟩
      clear hHeld
      refine hK.out _ _ ⟨(blk_cell (HS.out.blk 2 rfl) 0).trans rfl, (blk_cell (HS.out.blk 2 rfl) 1).trans rfl, (blk_cell (HS.out.blk 2 rfl) 2).trans rfl, (blk_cell (HS.out.blk 2 rfl) 3).trans rfl⟩ (fun hHeld => ?_)
      clear hK K
      refine norm_ (a' := ?_) ?_ ?_
      rotate_left
      ·show Act.put _ (some 57) _ = _
       simp only [pS]
       rfl
      refine pu 8 (some 49) ?_ (bt 14 511) (by kernel_rfl) ?_ ?_ ?_ ?_
      rotate_left
      ·intro w'
       go_simp
       with_reducible rfl
      rotate_left
      ·simp only [pS]
       rfl
      refine pu 9 (some 58) ?_ (bt 14 1023) (by kernel_rfl) ?_ ?_ ?_ ?_
      rotate_left
      ·intro w'
       go_simp
       with_reducible rfl
      rotate_left
      ·simp only [pS]
       rfl
      refine pu 10 (some 59) ?_ (bt 14 2047) (by kernel_rfl) ?_ ?_ ?_ ?_
      rotate_left
      ·intro w'
       go_simp
       with_reducible rfl
      rotate_left
      ·simp only [pS]
       rfl
      refine one_ (i := 11) (N := some 9) (bt 14 4095) rfl rfl (by kernel_rfl) (by decide) (fun K hK => ?_)
      refine value_ (w1 := w7_2.alloc (.cells #[.slice none 0 0, .slice none 0 0, .int .i64 0, .bool false] 50)) (v := .pointer (some ⟨w7_2.heap.size, 0, none⟩)) (by rfl) rfl (by go_simp; try rfl) ?_
      replace HS := AM (HS.out.alloc 50 #[.slice none 0 0, .slice none 0 0, .int .i64 0, .bool false])
      obtain ⟨bx, he_⟩ : ∃ b, b = w7_2.heap.size := ⟨_, rfl⟩
      rw [← he_] at HS ⊢
      generalize w7_2.alloc _ = w7_3 at HS ⊢
      clear he_
      clear hHeld
      refine hK.out _ _ ⟨(blk_cell (HS.out.blk 3 rfl) 0).trans rfl, (blk_cell (HS.out.blk 3 rfl) 1).trans rfl, (blk_cell (HS.out.blk 3 rfl) 2).trans rfl, (blk_cell (HS.out.blk 3 rfl) 3).trans rfl⟩ (fun hHeld => ?_)
      clear hK K
      refine norm_ (a' := ?_) ?_ ?_
      rotate_left
      ·show Act.put _ (some 9) _ = _
       simp only [pS]
       rfl
      exact norm_ (by simp only [putAll, pS]) (hJ ⟨Az1, cz1, B0, d0, B1, d1, bx⟩ _ HS.out)
     ·refine value_ (w1 := w7_1.alloc (.cells #[.slice none 0 0, .slice none 0 0, .int .i64 0, .bool false] 50)) (v := .pointer (some ⟨w7_1.heap.size, 0, none⟩)) (by rfl) rfl (by go_simp; try rfl) ?_
      replace HS := AM (HS.out.alloc 50 #[.slice none 0 0, .slice none 0 0, .int .i64 0, .bool false])
      replace HZ := AM (Kd.C_below HZ.out (below_alloc (Below.refl _ _) (.cells #[.slice none 0 0, .slice none 0 0, .int .i64 0, .bool false] 50) : Below w7_1.heap.size w7_1 _))
      obtain ⟨bx, he_⟩ : ∃ b, b = w7_1.heap.size := ⟨_, rfl⟩
      rw [← he_] at HS ⊢
      generalize w7_1.alloc _ = w7_4 at HS HZ ⊢
      clear he_
      clear hHeld
      refine hK.out _ _ ⟨(blk_cell (HS.out.blk 3 rfl) 0).trans rfl, (blk_cell (HS.out.blk 3 rfl) 1).trans rfl, (blk_cell (HS.out.blk 3 rfl) 2).trans rfl, (blk_cell (HS.out.blk 3 rfl) 3).trans rfl⟩ (fun hHeld => ?_)
      clear hK K
      refine norm_ (a' := ?_) ?_ ?_
      rotate_left
      ·show Act.put _ (some 9) _ = _
       simp only [pS]
       rfl
      refine one_ (i := 7) (N := some 57) (bt 14 2303) rfl rfl (by kernel_rfl) (by decide) (fun K hK => ?_)
      refine goes_ Try.func61 (by kernel_rfl) rfl #[.agg #[.slice A0 D.dur.length c0, .slice A1 D.pend.length c1, .int .i64 D.cnt, .bool false], .int .i64 (at_ : Int), .slice Az1 (List.replicate (D.dur.length - at_) (0 : Int)).length cz1] (by rfl) rfl rfl (by (try simp only [List.map_toArray, List.map_cons, List.map_nil]); first | done | rfl) ?_
      have hput := HS.out.write HOK.out (at_ : Int) Az1 cz1 (List.replicate (D.dur.length - at_) (0 : Int)) HZ.out hcz (by rw [List.length_replicate]; omega)
      rw [HP1.out, HW2.out, HSF.out] at hput
      refine hput.mono ?_
      clear hput
      rintro e w7_5 ⟨B0, d0, B1, d1, rfl, hS⟩
      replace HS := AM hS
      clear hS
      refine ⟨_, rfl, ?_⟩
      clear hHeld
      refine hK.out _ _ ⟨(blk_cell (HS.out.blk 3 rfl) 0).trans rfl, (blk_cell (HS.out.blk 3 rfl) 1).trans rfl, (blk_cell (HS.out.blk 3 rfl) 2).trans rfl, (blk_cell (HS.out.blk 3 rfl) 3).trans rfl⟩ (fun hHeld => ?_)
      clear hK K
      refine norm_ (a' := ?_) ?_ ?_
      rotate_left
      ·show Act.put _ (some 57) _ = _
       simp only [pS]
       rfl
      refine pu 8 (some 49) ?_ (bt 14 2559) (by kernel_rfl) ?_ ?_ ?_ ?_
      rotate_left
      ·intro w'
       go_simp
       with_reducible rfl
      rotate_left
      ·simp only [pS]
       rfl
      refine pu 9 (some 58) ?_ (bt 14 3071) (by kernel_rfl) ?_ ?_ ?_ ?_
      rotate_left
      ·intro w'
       go_simp
       with_reducible rfl
      rotate_left
      ·simp only [pS]
       rfl
      refine pu 10 (some 59) ?_ (bt 14 4095) (by kernel_rfl) ?_ ?_ ?_ ?_
      rotate_left
      ·intro w'
       go_simp
       with_reducible rfl
      rotate_left
      ·simp only [pS]
       rfl
      exact norm_ (by simp only [putAll, pS]) (hJ ⟨Az1, cz1, B0, d0, B1, d1, bx⟩ _ HS.out)
    ·refine value_ (w1 := w7.alloc (.cells #[.slice none 0 0, .slice none 0 0, .int .i64 0, .bool false] 50)) (v := .pointer (some ⟨w7.heap.size, 0, none⟩)) (by rfl) rfl (by go_simp; try rfl) ?_
     replace HS := AM (HS.out.alloc 50 #[.slice none 0 0, .slice none 0 0, .int .i64 0, .bool false])
     obtain ⟨bx, he_⟩ : ∃ b, b = w7.heap.size := ⟨_, rfl⟩
     rw [← he_] at HS ⊢
     generalize w7.alloc _ = w7_6 at HS ⊢
     clear he_
     clear hHeld
     refine hK.out _ _ ⟨(blk_cell (HS.out.blk 3 rfl) 0).trans rfl, (blk_cell (HS.out.blk 3 rfl) 1).trans rfl, (blk_cell (HS.out.blk 3 rfl) 2).trans rfl, (blk_cell (HS.out.blk 3 rfl) 3).trans rfl⟩ (fun hHeld => ?_)
     clear hK K
     refine norm_ (a' := ?_) ?_ ?_
     rotate_left
     ·show Act.put _ (some 9) _ = _
      simp only [pS]
      rfl
     refine one_ (i := 6) (N := some 56) (bt 14 2175) rfl rfl (by kernel_rfl) (by decide) (fun K hK => ?_)
     refine Kd.R_make_step (Kd.int .u8) (w0 := w7_6) w7_6.heap.size 5 (by rfl) (N := 56) rfl 29 (.tmp 55) (.tmp 55) rfl (((D.dur.length - at_ : Nat) : Int)) rfl rfl Try.underlying29 (.int .u8 0) 1 info5 rfl (by decide) (by omega) 0 (ok := fun k => w7_6.heap.size ≤ k) (okp := fun _ => False) rfl (fun _ h => h.elim) (Nat.le_refl _) (by omega) (by simp; omega) (Below.refl _ _) (Nat.le_refl _) ?_
     intro v1 w7_7 hr hb _ _
     obtain ⟨Az1, cz1, rfl⟩ := Kd.R_slice hr
     have HZ := AM (Kd.R_reads' hr).2.2
     have hcz := (Kd.R_reads' hr).2.1
     rw [Int.toNat_natCast] at HZ hcz ⊢
     replace HS := AM (HS.out.below hb)
     clear hr hb
     clear hHeld
     refine hK.out _ _ ⟨(blk_cell (HS.out.blk 3 rfl) 0).trans rfl, (blk_cell (HS.out.blk 3 rfl) 1).trans rfl, (blk_cell (HS.out.blk 3 rfl) 2).trans rfl, (blk_cell (HS.out.blk 3 rfl) 3).trans rfl⟩ (fun hHeld => ?_)
     clear hK K
     refine norm_ (a' := ?_) ?_ ?_
     rotate_left
     ·show Act.put _ (some 56) _ = _
      simp only [pS]
      rfl
     refine one_ (i := 7) (N := some 57) (bt 14 2303) rfl rfl (by kernel_rfl) (by decide) (fun K hK => ?_)
     refine goes_ Try.func61 (by kernel_rfl) rfl #[.agg #[.slice A0 D.dur.length c0, .slice A1 D.pend.length c1, .int .i64 D.cnt, .bool false], .int .i64 (at_ : Int), .slice Az1 (List.replicate (D.dur.length - at_) (0 : Int)).length cz1] (by rfl) rfl rfl (by (try simp only [List.map_toArray, List.map_cons, List.map_nil]); first | done | rfl) ?_
     have hput := HS.out.write HOK.out (at_ : Int) Az1 cz1 (List.replicate (D.dur.length - at_) (0 : Int)) HZ.out hcz (by rw [List.length_replicate]; omega)
     rw [HP1.out, HW2.out, HSF.out] at hput
     refine hput.mono ?_
     clear hput
     rintro e w7_8 ⟨B0, d0, B1, d1, rfl, hS⟩
     replace HS := AM hS
     clear hS
     refine ⟨_, rfl, ?_⟩
     clear hHeld
     refine hK.out _ _ ⟨(blk_cell (HS.out.blk 3 rfl) 0).trans rfl, (blk_cell (HS.out.blk 3 rfl) 1).trans rfl, (blk_cell (HS.out.blk 3 rfl) 2).trans rfl, (blk_cell (HS.out.blk 3 rfl) 3).trans rfl⟩ (fun hHeld => ?_)
     clear hK K
     refine norm_ (a' := ?_) ?_ ?_
     rotate_left
     ·show Act.put _ (some 57) _ = _
      simp only [pS]
      rfl
     refine pu 8 (some 49) ?_ (bt 14 2559) (by kernel_rfl) ?_ ?_ ?_ ?_
     rotate_left
     ·intro w'
      go_simp
      with_reducible rfl
     rotate_left
     ·simp only [pS]
      rfl
     refine pu 9 (some 58) ?_ (bt 14 3071) (by kernel_rfl) ?_ ?_ ?_ ?_
     rotate_left
     ·intro w'
      go_simp
      with_reducible rfl
     rotate_left
     ·simp only [pS]
      rfl
     refine pu 10 (some 59) ?_ (bt 14 4095) (by kernel_rfl) ?_ ?_ ?_ ?_
     rotate_left
     ·intro w'
      go_simp
      with_reducible rfl
     rotate_left
     ·simp only [pS]
      rfl
     exact norm_ (by simp only [putAll, pS]) (hJ ⟨Az1, cz1, B0, d0, B1, d1, bx⟩ _ HS.out)
   rintro ⟨Az1, cz1, B0, d0, B1, d1, bx⟩ wj hS
   replace HS := AM (show RS w wj ok [(bx, 50, #[.slice none 0 0, .slice none 0 0, .int .i64 0, .bool false]), (b5, 64, #[.slice Az 0 cz, .slice Ay 0 cy, .int .i64 0, .bool false, .int .i64 ba, .int .i64 sl, .slice A6 rs.length c6, .int .i64 (ba + (at_ : Int) - 24), .int .i64 0]), (w.heap.size + 1, 64, #[.slice none 0 0, .slice none 0 0, .int .i64 0, .bool false, .int .i64 0, .int .i64 0, .slice none 0 0, .int .i64 0, .int .i64 0]), (w.heap.size, 50, #[.slice A0 D.dur.length c0, .slice A1 D.pend.length c1, .int .i64 D.cnt, .bool false])] B0 d0 B1 d1 P1.1 A6 c6 rs from hS)
   clear hS
   refine norm_ (a' := ?_) ?_ ?_
   rotate_left
   ·simp only [putAll, pS]
    rfl
   clear hHeld
   refine one_ (i := 12) (N := none) (bt 14 8191) rfl rfl (by kernel_rfl) (by decide) (fun K hK => ?_)
   obtain ⟨z30, z31, z32, z33⟩ := bq (HS.out.blk 0 rfl)
   obtain ⟨f30, f31, f32, f33⟩ := fq (HS.out.blk 0 rfl)
   refine skip_ (w1 := ?_) (by rfl) rfl ?_ ?_
   rotate_left
   ·go_simp
    first | rfl | exact ⟨rfl, rfl⟩
   clear z30 z31 z32 z33 f30 f31 f32 f33
   replace HS := AM (show RS w _ ok [(bx, 50, #[.slice B0 P1.1.dur.length d0, .slice B1 P1.1.pend.length d1, .int .i64 P1.1.cnt, .bool P1.1.failed]), (b5, 64, #[.slice Az 0 cz, .slice Ay 0 cy, .int .i64 0, .bool false, .int .i64 ba, .int .i64 sl, .slice A6 rs.length c6, .int .i64 (ba + (at_ : Int) - 24), .int .i64 0]), (w.heap.size + 1, 64, #[.slice none 0 0, .slice none 0 0, .int .i64 0, .bool false, .int .i64 0, .int .i64 0, .slice none 0 0, .int .i64 0, .int .i64 0]), (w.heap.size, 50, #[.slice A0 D.dur.length c0, .slice A1 D.pend.length c1, .int .i64 D.cnt, .bool false])] _ _ _ _ _ _ _ _ from HS.out.puts [(0, .slice B0 P1.1.dur.length d0), (1, .slice B1 P1.1.pend.length d1), (2, .int .i64 P1.1.cnt), (3, .bool P1.1.failed)] 0 rfl)
   replace HS := AM (show RS w (((((wj).setCell ⟨bx, 0, none⟩ (.slice B0 P1.1.dur.length d0)).setCell ⟨bx, 1, none⟩ (.slice B1 P1.1.pend.length d1)).setCell ⟨bx, 2, none⟩ (.int .i64 P1.1.cnt)).setCell ⟨bx, 3, none⟩ (.bool P1.1.failed)) ok _ _ _ _ _ _ _ _ _ from HS.out)
   generalize ((((wj).setCell ⟨bx, 0, none⟩ (.slice B0 P1.1.dur.length d0)).setCell ⟨bx, 1, none⟩ (.slice B1 P1.1.pend.length d1)).setCell ⟨bx, 2, none⟩ (.int .i64 P1.1.cnt)).setCell ⟨bx, 3, none⟩ (.bool P1.1.failed) = w8 at HS ⊢
   refine hK.out _ _ ⟨(blk_cell (HS.out.blk 3 rfl) 0).trans rfl, (blk_cell (HS.out.blk 3 rfl) 1).trans rfl, (blk_cell (HS.out.blk 3 rfl) 2).trans rfl, (blk_cell (HS.out.blk 3 rfl) 3).trans rfl⟩ (fun hHeld => ?_)
   clear hK K
   refine pu 13 (some 10) ?_ (bt 14 16383) (by kernel_rfl) ?_ ?_ ?_ ?_
   rotate_left
   ·intro w'
    go_simp
    with_reducible rfl
   rotate_left
   ·simp only [pS]
    rfl
   refine done_ (by kernel_rfl) ?_
   clear hHeld
   obtain ⟨z30, z31, z32, z33⟩ := bq (HS.out.blk 0 rfl)
   go_wp2_with fail
   have hsy := HS.out.sync HOK1.out
   rw [HS1.out, HS2.out] at hsy
   refine hsy.mono ?_
   clear hsy
   rintro e w9 ⟨E0, e0, E1, e1, rfl, hS⟩
   replace HS := AM hS
   clear hS
   clear z30 z31 z32 z33
   replace HS := AM (HS.out.alloc 50 #[.slice E0 S1.1.dur.length e0, .slice E1 S1.1.pend.length e1, .int .i64 S1.1.cnt, .bool S1.1.failed])
   go_upto_region 20 with fail
   generalize w9.alloc _ = w10 at HS ⊢
   obtain ⟨z40, z41, z42, z43⟩ := bq (HS.out.blk 0 rfl)
   obtain ⟨z00, z01, z02, z03⟩ := bq (HS.out.blk 4 rfl)
   obtain ⟨f00, f01, f02, f03⟩ := fq (HS.out.blk 4 rfl)
   go_upto_region 21 with fail
   clear z40 z41 z42 z43 z00 z01 z02 z03 f00 f01 f02 f03
   replace HS := AM (show RS w _ ok [(w9.heap.size, 50, #[.slice E0 S1.1.dur.length e0, .slice E1 S1.1.pend.length e1, .int .i64 S1.1.cnt, .bool S1.1.failed]), (bx, 50, #[.slice B0 P1.1.dur.length d0, .slice B1 P1.1.pend.length d1, .int .i64 P1.1.cnt, .bool P1.1.failed]), (b5, 64, #[.slice Az 0 cz, .slice Ay 0 cy, .int .i64 0, .bool false, .int .i64 ba, .int .i64 sl, .slice A6 rs.length c6, .int .i64 (ba + (at_ : Int) - 24), .int .i64 0]), (w.heap.size + 1, 64, #[.slice none 0 0, .slice none 0 0, .int .i64 0, .bool false, .int .i64 0, .int .i64 0, .slice none 0 0, .int .i64 0, .int .i64 0]), (w.heap.size, 50, #[.slice E0 S1.1.dur.length e0, .slice E1 S1.1.pend.length e1, .int .i64 S1.1.cnt, .bool S1.1.failed])] _ _ _ _ _ _ _ _ from HS.out.puts [(0, .slice E0 S1.1.dur.length e0), (1, .slice E1 S1.1.pend.length e1), (2, .int .i64 S1.1.cnt), (3, .bool S1.1.failed)] 4 rfl)
   replace HS := AM (show RS w (((((w10).setCell ⟨w.heap.size, 0, none⟩ (.slice E0 S1.1.dur.length e0)).setCell ⟨w.heap.size, 1, none⟩ (.slice E1 S1.1.pend.length e1)).setCell ⟨w.heap.size, 2, none⟩ (.int .i64 S1.1.cnt)).setCell ⟨w.heap.size, 3, none⟩ (.bool S1.1.failed)) ok _ _ _ _ _ _ _ _ _ from HS.out)
   generalize ((((w10).setCell ⟨w.heap.size, 0, none⟩ (.slice E0 S1.1.dur.length e0)).setCell ⟨w.heap.size, 1, none⟩ (.slice E1 S1.1.pend.length e1)).setCell ⟨w.heap.size, 2, none⟩ (.int .i64 S1.1.cnt)).setCell ⟨w.heap.size, 3, none⟩ (.bool S1.1.failed) = w11 at HS ⊢
   obtain ⟨z00, z01, z02, z03⟩ := bq (HS.out.blk 4 rfl)
   obtain ⟨z20, z21, z22, z23⟩ := bq (HS.out.blk 2 rfl)
   obtain ⟨f20, f21, f22, f23⟩ := fq (HS.out.blk 2 rfl)
   go_upto_region 22 with fail
   clear z00 z01 z02 z03 z20 z21 z22 z23 f20 f21 f22 f23
   replace HS := AM (show RS w _ ok [(w9.heap.size, 50, #[.slice E0 S1.1.dur.length e0, .slice E1 S1.1.pend.length e1, .int .i64 S1.1.cnt, .bool S1.1.failed]), (bx, 50, #[.slice B0 P1.1.dur.length d0, .slice B1 P1.1.pend.length d1, .int .i64 P1.1.cnt, .bool P1.1.failed]), (b5, 64, #[.slice E0 S1.1.dur.length e0, .slice E1 S1.1.pend.length e1, .int .i64 S1.1.cnt, .bool S1.1.failed, .int .i64 ba, .int .i64 sl, .slice A6 rs.length c6, .int .i64 (ba + (at_ : Int) - 24), .int .i64 0]), (w.heap.size + 1, 64, #[.slice none 0 0, .slice none 0 0, .int .i64 0, .bool false, .int .i64 0, .int .i64 0, .slice none 0 0, .int .i64 0, .int .i64 0]), (w.heap.size, 50, #[.slice E0 S1.1.dur.length e0, .slice E1 S1.1.pend.length e1, .int .i64 S1.1.cnt, .bool S1.1.failed])] _ _ _ _ _ _ _ _ from HS.out.puts [(0, .slice E0 S1.1.dur.length e0), (1, .slice E1 S1.1.pend.length e1), (2, .int .i64 S1.1.cnt), (3, .bool S1.1.failed)] 2 rfl)
   replace HS := AM (show RS w (((((w11).setCell ⟨b5, 0, none⟩ (.slice E0 S1.1.dur.length e0)).setCell ⟨b5, 1, none⟩ (.slice E1 S1.1.pend.length e1)).setCell ⟨b5, 2, none⟩ (.int .i64 S1.1.cnt)).setCell ⟨b5, 3, none⟩ (.bool S1.1.failed)) ok _ _ _ _ _ _ _ _ _ from HS.out)
   generalize ((((w11).setCell ⟨b5, 0, none⟩ (.slice E0 S1.1.dur.length e0)).setCell ⟨b5, 1, none⟩ (.slice E1 S1.1.pend.length e1)).setCell ⟨b5, 2, none⟩ (.int .i64 S1.1.cnt)).setCell ⟨b5, 3, none⟩ (.bool S1.1.failed) = w12 at HS ⊢
   have z24 := (blk_cell (HS.out.blk 2 rfl) 4).trans rfl
   have z28 := (blk_cell (HS.out.blk 2 rfl) 8).trans rfl
   have f28 := blk_frozen (HS.out.blk 2 rfl) 8
   go_upto_region 23 with fail
   clear z24 z28 f28
   replace HS := AM (show RS w _ ok [(w9.heap.size, 50, #[.slice E0 S1.1.dur.length e0, .slice E1 S1.1.pend.length e1, .int .i64 S1.1.cnt, .bool S1.1.failed]), (bx, 50, #[.slice B0 P1.1.dur.length d0, .slice B1 P1.1.pend.length d1, .int .i64 P1.1.cnt, .bool P1.1.failed]), (b5, 64, #[.slice E0 S1.1.dur.length e0, .slice E1 S1.1.pend.length e1, .int .i64 S1.1.cnt, .bool S1.1.failed, .int .i64 ba, .int .i64 sl, .slice A6 rs.length c6, .int .i64 (ba + (at_ : Int) - 24), .int .i64 ba]), (w.heap.size + 1, 64, #[.slice none 0 0, .slice none 0 0, .int .i64 0, .bool false, .int .i64 0, .int .i64 0, .slice none 0 0, .int .i64 0, .int .i64 0]), (w.heap.size, 50, #[.slice E0 S1.1.dur.length e0, .slice E1 S1.1.pend.length e1, .int .i64 S1.1.cnt, .bool S1.1.failed])] _ _ _ _ _ _ _ _ from HS.out.puts [(8, .int .i64 ba)] 2 rfl)
   replace HS := AM (show RS w ((w12).setCell ⟨b5, 8, none⟩ (.int .i64 ba)) ok _ _ _ _ _ _ _ _ _ from HS.out)
   generalize (w12).setCell ⟨b5, 8, none⟩ (.int .i64 ba) = w13 at HS ⊢
   have z01 := (blk_cell (HS.out.blk 4 rfl) 1).trans rfl
   have z27 := (blk_cell (HS.out.blk 2 rfl) 7).trans rfl
   have z28 := (blk_cell (HS.out.blk 2 rfl) 8).trans rfl
   have f28 := blk_frozen (HS.out.blk 2 rfl) 8
   rw [HQ0.out] at z01
   go_upto_region 25 with fail
   clear z01 z27 z28 f28
   replace HS := AM (show RS w _ ok [(w9.heap.size, 50, #[.slice E0 S1.1.dur.length e0, .slice E1 S1.1.pend.length e1, .int .i64 S1.1.cnt, .bool S1.1.failed]), (bx, 50, #[.slice B0 P1.1.dur.length d0, .slice B1 P1.1.pend.length d1, .int .i64 P1.1.cnt, .bool P1.1.failed]), (b5, 64, #[.slice E0 S1.1.dur.length e0, .slice E1 S1.1.pend.length e1, .int .i64 S1.1.cnt, .bool S1.1.failed, .int .i64 ba, .int .i64 sl, .slice A6 rs.length c6, .int .i64 (ba + (at_ : Int) - 24), .int .i64 (ba + (at_ : Int) - 24)]), (w.heap.size + 1, 64, #[.slice none 0 0, .slice none 0 0, .int .i64 0, .bool false, .int .i64 0, .int .i64 0, .slice none 0 0, .int .i64 0, .int .i64 0]), (w.heap.size, 50, #[.slice E0 S1.1.dur.length e0, .slice E1 S1.1.pend.length e1, .int .i64 S1.1.cnt, .bool S1.1.failed])] _ _ _ _ _ _ _ _ from HS.out.puts [(8, .int .i64 (ba + (at_ : Int) - 24))] 2 rfl)
   replace HS := AM (show RS w ((w13).setCell ⟨b5, 8, none⟩ (.int .i64 (ba + (at_ : Int) - 24))) ok _ _ _ _ _ _ _ _ _ from HS.out)
   generalize (w13).setCell ⟨b5, 8, none⟩ (.int .i64 (ba + (at_ : Int) - 24)) = w14 at HS ⊢
   obtain ⟨z20, z21, z22, z23, z24, z25, z26, z27, z28⟩ := bn (HS.out.blk 2 rfl)
   obtain ⟨z10, z11, z12, z13, z14, z15, z16, z17, z18⟩ := bn (HS.out.blk 3 rfl)
   obtain ⟨f10, f11, f12, f13, f14, f15, f16, f17, f18⟩ := fn (HS.out.blk 3 rfl)
   go_wp2_with fail
   clear z20 z21 z22 z23 z24 z25 z26 z27 z28 z10 z11 z12 z13 z14 z15 z16 z17 z18 f10 f11 f12 f13 f14 f15 f16 f17 f18
   replace HS := AM (show RS w _ ok [(w9.heap.size, 50, #[.slice E0 S1.1.dur.length e0, .slice E1 S1.1.pend.length e1, .int .i64 S1.1.cnt, .bool S1.1.failed]), (bx, 50, #[.slice B0 P1.1.dur.length d0, .slice B1 P1.1.pend.length d1, .int .i64 P1.1.cnt, .bool P1.1.failed]), (b5, 64, #[.slice E0 S1.1.dur.length e0, .slice E1 S1.1.pend.length e1, .int .i64 S1.1.cnt, .bool S1.1.failed, .int .i64 ba, .int .i64 sl, .slice A6 rs.length c6, .int .i64 (ba + (at_ : Int) - 24), .int .i64 (ba + (at_ : Int) - 24)]), (w.heap.size + 1, 64, #[.slice E0 S1.1.dur.length e0, .slice E1 S1.1.pend.length e1, .int .i64 S1.1.cnt, .bool S1.1.failed, .int .i64 ba, .int .i64 sl, .slice A6 rs.length c6, .int .i64 (ba + (at_ : Int) - 24), .int .i64 (ba + (at_ : Int) - 24)]), (w.heap.size, 50, #[.slice E0 S1.1.dur.length e0, .slice E1 S1.1.pend.length e1, .int .i64 S1.1.cnt, .bool S1.1.failed])] _ _ _ _ _ _ _ _ from HS.out.puts [(0, .slice E0 S1.1.dur.length e0), (1, .slice E1 S1.1.pend.length e1), (2, .int .i64 S1.1.cnt), (3, .bool S1.1.failed), (4, .int .i64 ba), (5, .int .i64 sl), (6, .slice A6 rs.length c6), (7, .int .i64 (ba + (at_ : Int) - 24)), (8, .int .i64 (ba + (at_ : Int) - 24))] 3 rfl)
   refine bodyPost_ret (results_ct rfl _ _ (w.heap.size + 1) 64 #[.slice E0 S1.1.dur.length e0, .slice E1 S1.1.pend.length e1, .int .i64 S1.1.cnt, .bool S1.1.failed, .int .i64 ba, .int .i64 sl, .slice A6 rs.length c6, .int .i64 (ba + (at_ : Int) - 24), .int .i64 (ba + (at_ : Int) - 24)] (0, 0) _ rfl (HS.out.blk 3 rfl) Try.underlying64 rfl (by kernel_rfl)) rfl ?_
   have hd := HS.out.done ⟨sl, ba, (ba + (at_ : Int) - 24), (ba + (at_ : Int) - 24), rs⟩ rfl
   rw [HL.out]
   exact ⟨_, rfl, hd⟩
end Go.Proofs.Ytbbokpkpdnppjaa
