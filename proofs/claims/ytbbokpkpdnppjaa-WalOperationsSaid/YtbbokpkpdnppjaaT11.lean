/- A part of the proof of WalOperations. -/
import Derived.Test.YtbbokpkpdnppjaaUA
import Derived.Test.YtbbokpkpdnppjaaT10
namespace Go.Proofs.Ytbbokpkpdnppjaa
open Go.RowKit Go.Proofs.YtbbokpkpdnppjaaW.PrintWords Go.Proofs.YtbbokpkpdnppjaaW.PrintLast Go.Proofs.YtbbokpkpdnppjaaW.PrintMore
set_option linter.unusedVariables false
set_option linter.unusedSimpArgs false
theorem LW.init {w W4 W5 W6 : World} {Q rok : Nat → Prop} {g gd : Nat} {L L' : Lg} {D D' : Dk} {v : Value} (h : LogS w W4 Q rok g gd L D) (hr : ∀ k, rok k → w.heap.size ≤ k) (h5 : Below W4.heap.size W4 W5) (h6 : Below W5.heap.size W5 W6) (hv : RefL W6 (New (New (fun _ => False) W4 W5) W5 W6) v L' D') :
  ∃ A0 c0 A1 c1 A6 c6, v = .agg #[.slice A0 D'.dur.length c0, .slice A1 D'.pend.length c1, .int .i64 D'.cnt, .bool D'.failed, .int .i64 L'.base, .int .i64 L'.slot, .slice A6 L'.recs.length c6, .int .i64 L'.end_, .int .i64 L'.synced] ∧ LW w W6 [] g gd A0 c0 A1 c1 A6 c6 L' D' L D := by
 obtain ⟨A0, c0, A1, c1, A6, c6, rfl⟩ := hv.form
 have hro : ∀ k, rok k → k < W4.heap.size := fun k hk => h.lt k (h.2.choose_spec.2.2.1 k hk).1
 have hgl : g < W4.heap.size := h.lt g h.2.choose_spec.2.2.2.1
 have h45 := h5.size
 have h56 := h6.size
 refine ⟨A0, c0, A1, c1, A6, c6, rfl, LW.start ((h.fenced h5).fenced h6) hr hv (fun k hk => ?_)⟩
 rcases hk with (hk | hk) | hk
 ·exact hk.elim
 ·exact ⟨by omega, .inr ⟨.inl (.inr hk), fun hx => by have := hro k hx; omega, by omega⟩⟩
 ·exact ⟨hk.2, .inr ⟨.inr hk, fun hx => by have := hro k hx; omega, by omega⟩⟩
set_option maxRecDepth 100000 in
set_option maxHeartbeats 8000000 in
theorem WalOperations_calls (size : Int) (hsz : 0 ≤ size ∧ size < 256) (AX : Option Addr) (cX : Nat) (l : List G.S79) (w : World) (hC1 : Kd.C G.k79 w AX l.length l) (hc1 : l.length ≤ cX) (hwf : ∀ x ∈ l, x.f2 ≤ 9223372036854775807 ∧ Bytes x.f1) :
  Calls Try.prog 13 #[.int .u8 size, .slice AX l.length cX] w fun e w' => e = .returned (.bool true) ∧ Below w.heap.size w w' := by
 have HC1 := AM hC1
 have HWF := AM hwf
 have hu64 := Try.underlying64
 have hu50 := Try.underlying50
 have hu79 := Try.underlying79
 clear hC1 hwf
 obtain ⟨sz, rfl⟩ := Int.eq_ofNat_of_zero_le hsz.1
 go_enter Try.func13, Try.ntmps13
 go_wp2_with fail
 refine (awake15 w).mono ?_
 rintro e w1 ⟨rfl, hb⟩
 have HB1 := AM hb
 clear hb
 go_wp2_with fail
 refine (few15_calls AX cX l w1 (Kd.C_below HC1.out HB1.out) hc1).mono ?_
 rintro e w2 ⟨r, rfl, hr, hb⟩
 have HB2 := AM (below_step HB1.out hb)
 clear hb HB1
 cases r with
 | false =>
  go_wp2_with fail
  refine (awake15 w2).mono ?_
  rintro e w3 ⟨rfl, hb⟩
  have HB3 := AM (below_step HB2.out hb)
  clear hb
  go_wp2_with fail
  go_ret
  exact ⟨rfl, HB3.out⟩
 | true =>
  have F := AM (hr rfl)
  clear hr
  obtain ⟨n, hn⟩ : ∃ n : Nat, 24 + sz % 137 = n := ⟨_, rfl⟩
  have hn1 : 24 ≤ n ∧ n ≤ 160 := by omega
  have HN := AM hn1
  have hnI : (24 : Int) + (sz : Int) % 137 = (n : Int) := by omega
  have HNI := AM hnI
  clear hn hn1 hnI
  go_upto_region 4 with fail
  rw [HNI.out]
  clear hsz
  go_wp2_with fail
  refine ((Sts.none_ HB2.out (P := fun _ => False) (fun k hk => hk.elim)).new n (by have := HN.out; omega) (by have := HN.out; omega)).mono ?_
  rintro e w3 ⟨gd, rfl, hs, _⟩
  have S3 := AM hs
  clear hs HB2 HNI
  have OK0 := AM (Dk.fresh_ok n (by have := HN.out; omega) (by have := HN.out; omega))
  have H24 := AM (show 24 ≤ (Dk.fresh n).dur.length by show 24 ≤ (List.replicate n (0 : Int)).length; rw [List.length_replicate]; exact HN.out.1)
  go_wp2_with fail
  refine (open_still S3.out OK0.out (still_fresh n) H24.out (BD.fresh n).1).mono ?_
  rintro e w4 ⟨g, at_, rs, sl, ba, rfl, hbs, hP, hnn, Q, rok, _, hr, hl, _, _⟩
  have HO := AM (And.intro hbs (And.intro hP hnn))
  have HR := AM hr
  have HL := AM hl
  have HZ3 := AM S3.out.bel.size
  clear hbs hP hnn hr hl S3
  go_wp2_with fail
  refine (ref_new (ok := fun _ => False) n w4 (by have := HN.out; omega)).mono ?_
  rintro e w5 ⟨v, rfl, hv, hb⟩
  have HV := AM hv
  have HB5 := AM hb
  clear hv hb
  go_wp2_with fail
  refine (refOpen_calls HV.out OK0.out (still_fresh n) H24.out (BD.fresh n).1 HO.out.1 HO.out.2.1 HO.out.2.2).mono ?_
  rintro e w6 ⟨v6, rfl, hv, hb⟩
  obtain ⟨A0, c0, A1, c1, A6, c6, rfl, hS⟩ := LW.init HL.out (fun k hk => Nat.le_trans HZ3.out (HR.out k hk)) HB5.out hb hv
  have HS := AM hS
  have INV := AM (Inv.opened OK0.out (still_fresh n) (by show (List.replicate n (0 : Int)).length = n; rw [List.length_replicate]) HN.out.1 HN.out.2 (BD.fresh n) HO.out.1 HO.out.2.1 0)
  clear hv hb hS HL HR HV HB5 HZ3 HO OK0 H24
  replace HS := AM (HS.out.alloc 64 #[.slice A0 (eraseD (Dk.fresh n) (Dk.fresh n).dur at_).1.dur.length c0, .slice A1 (eraseD (Dk.fresh n) (Dk.fresh n).dur at_).1.pend.length c1, .int .i64 (eraseD (Dk.fresh n) (Dk.fresh n).dur at_).1.cnt, .bool (eraseD (Dk.fresh n) (Dk.fresh n).dur at_).1.failed, .int .i64 ba, .int .i64 sl, .slice A6 rs.length c6, .int .i64 (ba + (at_ : Int) - 24), .int .i64 (ba + (at_ : Int) - 24)])
  obtain ⟨b9, he9⟩ : ∃ b9, b9 = w6.heap.size := ⟨_, rfl⟩
  rw [← he9] at HS
  go_upto_region 9 with fail
  rw [← he9]
  generalize w6.alloc _ = w7 at HS ⊢
  clear he9
  go_wp2_with fail
  have LK0 := AM (show LoopW n w w7 b9 g gd 0 from ⟨A0, c0, A1, c1, A6, c6, _, _, INV.out, HS.out⟩)
  clear HS INV
  go_loopw [8, 71] (fun v8 v71 wr => ∃ k g' : Nat, k ≤ l.length ∧ v8 = .pointer (some ⟨g', 0, none⟩) ∧ v71 = .int .i64 (k : Int) ∧ Aside0 (LoopW n w wr b9 g' gd k)) (fun _ v71 _ => l.length - (intOf v71).toNat)
  case atStart => exact ⟨0, g, Nat.zero_le _, rfl, rfl, LK0⟩
  case round =>
   obtain ⟨k, g', hk, rfl, rfl, LK⟩ := hrel
   have hl16 := F.out.1
   by_cases hlt : k < l.length
   rotate_left
   ·obtain rfl : k = l.length := by omega
    have hlt' : ¬ ((l.length : Int) < (l.length : Int)) := by omega
    go_wp2_with fail
    go_ret
    obtain ⟨_, _, _, _, _, _, _, _, _, hs⟩ := LK.out
    exact ⟨rfl, hs.bel⟩
   have hlt' : ((k : Int) < (l.length : Int)) := by omega
   obtain ⟨B0, d0, B1, d1, B6, d6, L, D, hinv, hS⟩ := LK.out
   have INV := AM hinv
   have HS := AM hS
   clear hinv hS LK
   have HX := AM (show (G.rd_T79 l (k : Int)).f1.length ≤ 60 ∧ (G.rd_T79 l (k : Int)).f3.length ≤ 40 ∧ (G.rd_T79 l (k : Int)).f2 ≤ 9223372036854775807 ∧ Bytes (G.rd_T79 l (k : Int)).f1 by rw [rd79_get l k hlt]; exact ⟨(F.out.2 _ (List.getElem_mem hlt)).1, (F.out.2 _ (List.getElem_mem hlt)).2, (HWF.out _ (List.getElem_mem hlt)).1, (HWF.out _ (List.getElem_mem hlt)).2⟩)
   obtain ⟨ad, X1, x1, X3, x3, ead, y0, y1, y2, y3, l1, g1, l3, g3⟩ := G.at_T79 HC1.out (k : Int) (by omega) (by omega)
   subst ead
   have HG1 := AM g1
   have HG3 := AM g3
   clear g1 g3
   replace y0 := (HS.out.bel.cell (World.block_lt_of_cell? _ _ y0)).trans y0
   replace y1 := (HS.out.bel.cell (World.block_lt_of_cell? _ _ y1)).trans y1
   replace y2 := (HS.out.bel.cell (World.block_lt_of_cell? _ _ y2)).trans y2
   replace y3 := (HS.out.bel.cell (World.block_lt_of_cell? _ _ y3)).trans y3
   simp only [Int.toNat_natCast] at y0 y1 y2 y3
   generalize G.rd_T79 l (k : Int) = x at y0 y1 y2 y3 l1 l3 HG1 HG3 HX
   obtain ⟨f0, data, N, ss⟩ := x
   dsimp only at y0 y1 y2 y3 l1 l3 HG1 HG3 HX
   replace HS := AM (HS.out.alloc 79 #[.int .u8 f0, .slice X1 data.length x1, .int .i64 N, .slice X3 ss.length x3])
   obtain ⟨b12, he12⟩ : ∃ b12, b12 = wr.heap.size := ⟨_, rfl⟩
   rw [← he12] at HS
   go_upto_region 14 with fail
   rw [← he12]
   generalize wr.alloc _ = u1 at HS ⊢
   clear he12 y0 y1 y2 y3
   have z10 := (blk_cell (HS.out.blk 0 rfl) 0).trans rfl
   by_cases k0 : f0 = 0
   ·subst k0
    have hap := HS.out.append INV.out HN.out.2 (by omega) X1 x1 data HG1.out l1 HX.out.1
    have INVA := AM (INV.out.append HN.out.2 (by omega) data HX.out.1 HX.out.2.2.2)
    obtain ⟨PA, hPA⟩ : ∃ P, appendL L D L.pos data = P := ⟨_, rfl⟩
    have HPA := AM hPA
    rw [hPA] at INVA hap
    have HAP := AM hap
    clear hPA hap
    clear z10
    have z10 := (blk_cell (HS.out.blk 0 rfl) 0).trans rfl
    have z11 := (blk_cell (HS.out.blk 0 rfl) 1).trans rfl
    go_wp2_with fail
    refine (HAP.out).mono ?_
    rintro e u2 ⟨rfl, hS⟩
    replace HS := AM hS
    clear hS
    clear z10 z11
    obtain ⟨z00, z01, z02, z03, z04, z05, z06, z07, z08⟩ := bn (HS.out.blk 1 rfl)
    have z11 := (blk_cell (HS.out.blk 0 rfl) 1).trans rfl
    go_wp2_with fail
    have hrf := HS.out.refAppend INV.out HN.out.2 (by omega) X1 x1 data HG1.out l1 HX.out.1
    rw [HPA.out] at hrf
    refine hrf.mono ?_
    clear hrf
    rintro e u3 ⟨E0, e0, E1, e1, E6, e6, rfl, hS⟩
    replace HS := AM hS
    clear hS
    clear z00 z01 z02 z03 z04 z05 z06 z07 z08 z11
    replace HS := AM (HS.out.alloc 64 #[.slice E0 PA.2.1.dur.length e0, .slice E1 PA.2.1.pend.length e1, .int .i64 PA.2.1.cnt, .bool PA.2.1.failed, .int .i64 PA.1.base, .int .i64 PA.1.slot, .slice E6 PA.1.recs.length e6, .int .i64 PA.1.end_, .int .i64 PA.1.synced])
    obtain ⟨b15, he15⟩ : ∃ b15, b15 = u3.heap.size := ⟨_, rfl⟩
    rw [← he15] at HS
    go_upto_region 18 with fail
    rw [← he15]
    generalize u3.alloc _ = u4 at HS ⊢
    clear he15
    obtain ⟨z20, z21, z22, z23, z24, z25, z26, z27, z28⟩ := bn (HS.out.blk 0 rfl)
    obtain ⟨z00, z01, z02, z03, z04, z05, z06, z07, z08⟩ := bn (HS.out.blk 2 rfl)
    obtain ⟨f00, f01, f02, f03, f04, f05, f06, f07, f08⟩ := fn (HS.out.blk 2 rfl)
    go_upto_region 19 with fail
    clear z20 z21 z22 z23 z24 z25 z26 z27 z28 z00 z01 z02 z03 z04 z05 z06 z07 z08 f00 f01 f02 f03 f04 f05 f06 f07 f08
    replace HS := AM (show LW w ((((((((((u4).setCell ⟨b9, 0, none⟩ (.slice E0 PA.2.1.dur.length e0)).setCell ⟨b9, 1, none⟩ (.slice E1 PA.2.1.pend.length e1)).setCell ⟨b9, 2, none⟩ (.int .i64 PA.2.1.cnt)).setCell ⟨b9, 3, none⟩ (.bool PA.2.1.failed)).setCell ⟨b9, 4, none⟩ (.int .i64 PA.1.base)).setCell ⟨b9, 5, none⟩ (.int .i64 PA.1.slot)).setCell ⟨b9, 6, none⟩ (.slice E6 PA.1.recs.length e6)).setCell ⟨b9, 7, none⟩ (.int .i64 PA.1.end_)).setCell ⟨b9, 8, none⟩ (.int .i64 PA.1.synced)) [(b15, 64, #[.slice E0 PA.2.1.dur.length e0, .slice E1 PA.2.1.pend.length e1, .int .i64 PA.2.1.cnt, .bool PA.2.1.failed, .int .i64 PA.1.base, .int .i64 PA.1.slot, .slice E6 PA.1.recs.length e6, .int .i64 PA.1.end_, .int .i64 PA.1.synced]), (b12, 79, #[.int .u8 0, .slice X1 data.length x1, .int .i64 N, .slice X3 ss.length x3]), (b9, 64, #[.slice E0 PA.2.1.dur.length e0, .slice E1 PA.2.1.pend.length e1, .int .i64 PA.2.1.cnt, .bool PA.2.1.failed, .int .i64 PA.1.base, .int .i64 PA.1.slot, .slice E6 PA.1.recs.length e6, .int .i64 PA.1.end_, .int .i64 PA.1.synced])] _ gd _ _ _ _ _ _ _ _ _ _ from HS.out.puts [(0, .slice E0 PA.2.1.dur.length e0), (1, .slice E1 PA.2.1.pend.length e1), (2, .int .i64 PA.2.1.cnt), (3, .bool PA.2.1.failed), (4, .int .i64 PA.1.base), (5, .int .i64 PA.1.slot), (6, .slice E6 PA.1.recs.length e6), (7, .int .i64 PA.1.end_), (8, .int .i64 PA.1.synced)] 2 rfl)
    generalize (((((((((u4).setCell ⟨b9, 0, none⟩ (.slice E0 PA.2.1.dur.length e0)).setCell ⟨b9, 1, none⟩ (.slice E1 PA.2.1.pend.length e1)).setCell ⟨b9, 2, none⟩ (.int .i64 PA.2.1.cnt)).setCell ⟨b9, 3, none⟩ (.bool PA.2.1.failed)).setCell ⟨b9, 4, none⟩ (.int .i64 PA.1.base)).setCell ⟨b9, 5, none⟩ (.int .i64 PA.1.slot)).setCell ⟨b9, 6, none⟩ (.slice E6 PA.1.recs.length e6)).setCell ⟨b9, 7, none⟩ (.int .i64 PA.1.end_)).setCell ⟨b9, 8, none⟩ (.int .i64 PA.1.synced) = u5 at HS ⊢
    obtain ⟨z00, z01, z02, z03, z04, z05, z06, z07, z08⟩ := bn (HS.out.blk 2 rfl)
    go_wp2_with fail
    have INVn := AM (show Inv n (k + 1) _ _ from INVA.out)
    refine (HS.out.even INVn.out.ok (by have h1 := INVn.out.few; have h2 := INVn.out.fit; have h3 := HN.out.2; omega) INVn.out.data).mono ?_
    rintro e uz ⟨rfl, hb⟩
    replace HS := AM (HS.out.below hb)
    clear hb
    clear z00 z01 z02 z03 z04 z05 z06 z07 z08
    go_wp2_with fail
    go_roundw
    case rel => exact ⟨k + 1, g', hlt, rfl, by go_num, ⟨⟨_, _, _, _, _, _, _, _, INVn.out, HS.out.tail.tail⟩⟩⟩
    case measure => simp [intOf]; omega
   by_cases k1 : f0 = 1
   ·subst k1
    clear z10
    have z10 := (blk_cell (HS.out.blk 0 rfl) 0).trans rfl
    go_wp2_with fail
    refine (HS.out.sync INV.out.ok).mono ?_
    rintro e u2 ⟨rfl, hS⟩
    replace HS := AM hS
    clear hS
    clear z10
    obtain ⟨z00, z01, z02, z03, z04, z05, z06, z07, z08⟩ := bn (HS.out.blk 1 rfl)
    go_wp2_with fail
    refine (HS.out.refSync INV.out.ok).mono ?_
    rintro e u3 ⟨E0, e0, E1, e1, E6, e6, rfl, hS⟩
    replace HS := AM hS
    clear hS
    clear z00 z01 z02 z03 z04 z05 z06 z07 z08
    replace HS := AM (HS.out.alloc 64 #[.slice E0 D.sync.1.dur.length e0, .slice E1 D.sync.1.pend.length e1, .int .i64 D.sync.1.cnt, .bool D.sync.1.failed, .int .i64 (syncL L D).base, .int .i64 (syncL L D).slot, .slice E6 (syncL L D).recs.length e6, .int .i64 (syncL L D).end_, .int .i64 (syncL L D).synced])
    obtain ⟨b15, he15⟩ : ∃ b15, b15 = u3.heap.size := ⟨_, rfl⟩
    rw [← he15] at HS
    go_upto_region 24 with fail
    rw [← he15]
    generalize u3.alloc _ = u4 at HS ⊢
    clear he15
    obtain ⟨z20, z21, z22, z23, z24, z25, z26, z27, z28⟩ := bn (HS.out.blk 0 rfl)
    obtain ⟨z00, z01, z02, z03, z04, z05, z06, z07, z08⟩ := bn (HS.out.blk 2 rfl)
    obtain ⟨f00, f01, f02, f03, f04, f05, f06, f07, f08⟩ := fn (HS.out.blk 2 rfl)
    go_upto_region 25 with fail
    clear z20 z21 z22 z23 z24 z25 z26 z27 z28 z00 z01 z02 z03 z04 z05 z06 z07 z08 f00 f01 f02 f03 f04 f05 f06 f07 f08
    replace HS := AM (show LW w ((((((((((u4).setCell ⟨b9, 0, none⟩ (.slice E0 D.sync.1.dur.length e0)).setCell ⟨b9, 1, none⟩ (.slice E1 D.sync.1.pend.length e1)).setCell ⟨b9, 2, none⟩ (.int .i64 D.sync.1.cnt)).setCell ⟨b9, 3, none⟩ (.bool D.sync.1.failed)).setCell ⟨b9, 4, none⟩ (.int .i64 (syncL L D).base)).setCell ⟨b9, 5, none⟩ (.int .i64 (syncL L D).slot)).setCell ⟨b9, 6, none⟩ (.slice E6 (syncL L D).recs.length e6)).setCell ⟨b9, 7, none⟩ (.int .i64 (syncL L D).end_)).setCell ⟨b9, 8, none⟩ (.int .i64 (syncL L D).synced)) [(b15, 64, #[.slice E0 D.sync.1.dur.length e0, .slice E1 D.sync.1.pend.length e1, .int .i64 D.sync.1.cnt, .bool D.sync.1.failed, .int .i64 (syncL L D).base, .int .i64 (syncL L D).slot, .slice E6 (syncL L D).recs.length e6, .int .i64 (syncL L D).end_, .int .i64 (syncL L D).synced]), (b12, 79, #[.int .u8 1, .slice X1 data.length x1, .int .i64 N, .slice X3 ss.length x3]), (b9, 64, #[.slice E0 D.sync.1.dur.length e0, .slice E1 D.sync.1.pend.length e1, .int .i64 D.sync.1.cnt, .bool D.sync.1.failed, .int .i64 (syncL L D).base, .int .i64 (syncL L D).slot, .slice E6 (syncL L D).recs.length e6, .int .i64 (syncL L D).end_, .int .i64 (syncL L D).synced])] _ gd _ _ _ _ _ _ _ _ _ _ from HS.out.puts [(0, .slice E0 D.sync.1.dur.length e0), (1, .slice E1 D.sync.1.pend.length e1), (2, .int .i64 D.sync.1.cnt), (3, .bool D.sync.1.failed), (4, .int .i64 (syncL L D).base), (5, .int .i64 (syncL L D).slot), (6, .slice E6 (syncL L D).recs.length e6), (7, .int .i64 (syncL L D).end_), (8, .int .i64 (syncL L D).synced)] 2 rfl)
    generalize (((((((((u4).setCell ⟨b9, 0, none⟩ (.slice E0 D.sync.1.dur.length e0)).setCell ⟨b9, 1, none⟩ (.slice E1 D.sync.1.pend.length e1)).setCell ⟨b9, 2, none⟩ (.int .i64 D.sync.1.cnt)).setCell ⟨b9, 3, none⟩ (.bool D.sync.1.failed)).setCell ⟨b9, 4, none⟩ (.int .i64 (syncL L D).base)).setCell ⟨b9, 5, none⟩ (.int .i64 (syncL L D).slot)).setCell ⟨b9, 6, none⟩ (.slice E6 (syncL L D).recs.length e6)).setCell ⟨b9, 7, none⟩ (.int .i64 (syncL L D).end_)).setCell ⟨b9, 8, none⟩ (.int .i64 (syncL L D).synced) = u5 at HS ⊢
    obtain ⟨z00, z01, z02, z03, z04, z05, z06, z07, z08⟩ := bn (HS.out.blk 2 rfl)
    go_wp2_with fail
    have INVn := AM (show Inv n (k + 1) _ _ from INV.out.syncL)
    refine (HS.out.even INVn.out.ok (by have h1 := INVn.out.few; have h2 := INVn.out.fit; have h3 := HN.out.2; omega) INVn.out.data).mono ?_
    rintro e uz ⟨rfl, hb⟩
    replace HS := AM (HS.out.below hb)
    clear hb
    clear z00 z01 z02 z03 z04 z05 z06 z07 z08
    go_wp2_with fail
    go_roundw
    case rel => exact ⟨k + 1, g', hlt, rfl, by go_num, ⟨⟨_, _, _, _, _, _, _, _, INVn.out, HS.out.tail.tail⟩⟩⟩
    case measure => simp [intOf]; omega
   by_cases k2 : f0 = 2
   ·subst k2
    have hap := HS.out.reset INV.out HN.out.2 (by omega)
    have INVA := AM (INV.out.resetL HN.out.2 HN.out.1 (by omega))
    obtain ⟨PA, hPA⟩ : ∃ P, resetL L D = P := ⟨_, rfl⟩
    have HPA := AM hPA
    rw [hPA] at INVA hap
    have HAP := AM hap
    clear hPA hap
    clear z10
    have z10 := (blk_cell (HS.out.blk 0 rfl) 0).trans rfl
    go_wp2_with fail
    refine (HAP.out).mono ?_
    rintro e u2 ⟨rfl, hS⟩
    replace HS := AM hS
    clear hS
    clear z10
    obtain ⟨z00, z01, z02, z03, z04, z05, z06, z07, z08⟩ := bn (HS.out.blk 1 rfl)
    go_wp2_with fail
    have hrf := HS.out.refReset INV.out HN.out.2 (by omega)
    rw [HPA.out] at hrf
    refine hrf.mono ?_
    clear hrf
    rintro e u3 ⟨E0, e0, E1, e1, E6, e6, rfl, hS⟩
    replace HS := AM hS
    clear hS
    clear z00 z01 z02 z03 z04 z05 z06 z07 z08
    replace HS := AM (HS.out.alloc 64 #[.slice E0 PA.2.1.dur.length e0, .slice E1 PA.2.1.pend.length e1, .int .i64 PA.2.1.cnt, .bool PA.2.1.failed, .int .i64 PA.1.base, .int .i64 PA.1.slot, .slice E6 PA.1.recs.length e6, .int .i64 PA.1.end_, .int .i64 PA.1.synced])
    obtain ⟨b15, he15⟩ : ∃ b15, b15 = u3.heap.size := ⟨_, rfl⟩
    rw [← he15] at HS
    go_upto_region 30 with fail
    rw [← he15]
    generalize u3.alloc _ = u4 at HS ⊢
    clear he15
    obtain ⟨z20, z21, z22, z23, z24, z25, z26, z27, z28⟩ := bn (HS.out.blk 0 rfl)
    obtain ⟨z00, z01, z02, z03, z04, z05, z06, z07, z08⟩ := bn (HS.out.blk 2 rfl)
    obtain ⟨f00, f01, f02, f03, f04, f05, f06, f07, f08⟩ := fn (HS.out.blk 2 rfl)
    go_upto_region 31 with fail
    clear z20 z21 z22 z23 z24 z25 z26 z27 z28 z00 z01 z02 z03 z04 z05 z06 z07 z08 f00 f01 f02 f03 f04 f05 f06 f07 f08
    replace HS := AM (show LW w ((((((((((u4).setCell ⟨b9, 0, none⟩ (.slice E0 PA.2.1.dur.length e0)).setCell ⟨b9, 1, none⟩ (.slice E1 PA.2.1.pend.length e1)).setCell ⟨b9, 2, none⟩ (.int .i64 PA.2.1.cnt)).setCell ⟨b9, 3, none⟩ (.bool PA.2.1.failed)).setCell ⟨b9, 4, none⟩ (.int .i64 PA.1.base)).setCell ⟨b9, 5, none⟩ (.int .i64 PA.1.slot)).setCell ⟨b9, 6, none⟩ (.slice E6 PA.1.recs.length e6)).setCell ⟨b9, 7, none⟩ (.int .i64 PA.1.end_)).setCell ⟨b9, 8, none⟩ (.int .i64 PA.1.synced)) [(b15, 64, #[.slice E0 PA.2.1.dur.length e0, .slice E1 PA.2.1.pend.length e1, .int .i64 PA.2.1.cnt, .bool PA.2.1.failed, .int .i64 PA.1.base, .int .i64 PA.1.slot, .slice E6 PA.1.recs.length e6, .int .i64 PA.1.end_, .int .i64 PA.1.synced]), (b12, 79, #[.int .u8 2, .slice X1 data.length x1, .int .i64 N, .slice X3 ss.length x3]), (b9, 64, #[.slice E0 PA.2.1.dur.length e0, .slice E1 PA.2.1.pend.length e1, .int .i64 PA.2.1.cnt, .bool PA.2.1.failed, .int .i64 PA.1.base, .int .i64 PA.1.slot, .slice E6 PA.1.recs.length e6, .int .i64 PA.1.end_, .int .i64 PA.1.synced])] _ gd _ _ _ _ _ _ _ _ _ _ from HS.out.puts [(0, .slice E0 PA.2.1.dur.length e0), (1, .slice E1 PA.2.1.pend.length e1), (2, .int .i64 PA.2.1.cnt), (3, .bool PA.2.1.failed), (4, .int .i64 PA.1.base), (5, .int .i64 PA.1.slot), (6, .slice E6 PA.1.recs.length e6), (7, .int .i64 PA.1.end_), (8, .int .i64 PA.1.synced)] 2 rfl)
    generalize (((((((((u4).setCell ⟨b9, 0, none⟩ (.slice E0 PA.2.1.dur.length e0)).setCell ⟨b9, 1, none⟩ (.slice E1 PA.2.1.pend.length e1)).setCell ⟨b9, 2, none⟩ (.int .i64 PA.2.1.cnt)).setCell ⟨b9, 3, none⟩ (.bool PA.2.1.failed)).setCell ⟨b9, 4, none⟩ (.int .i64 PA.1.base)).setCell ⟨b9, 5, none⟩ (.int .i64 PA.1.slot)).setCell ⟨b9, 6, none⟩ (.slice E6 PA.1.recs.length e6)).setCell ⟨b9, 7, none⟩ (.int .i64 PA.1.end_)).setCell ⟨b9, 8, none⟩ (.int .i64 PA.1.synced) = u5 at HS ⊢
    obtain ⟨z00, z01, z02, z03, z04, z05, z06, z07, z08⟩ := bn (HS.out.blk 2 rfl)
    go_wp2_with fail
    have INVn := AM (show Inv n (k + 1) _ _ from INVA.out)
    refine (HS.out.even INVn.out.ok (by have h1 := INVn.out.few; have h2 := INVn.out.fit; have h3 := HN.out.2; omega) INVn.out.data).mono ?_
    rintro e uz ⟨rfl, hb⟩
    replace HS := AM (HS.out.below hb)
    clear hb
    clear z00 z01 z02 z03 z04 z05 z06 z07 z08
    go_wp2_with fail
    go_roundw
    case rel => exact ⟨k + 1, g', hlt, rfl, by go_num, ⟨⟨_, _, _, _, _, _, _, _, INVn.out, HS.out.tail.tail⟩⟩⟩
    case measure => simp [intOf]; omega
   by_cases k3 : f0 = 3
   ·subst k3
    clear z10
    have z10 := (blk_cell (HS.out.blk 0 rfl) 0).trans rfl
    have z12 := (blk_cell (HS.out.blk 0 rfl) 2).trans rfl
    go_wp2_with fail
    refine (HS.out.failAfter N).mono ?_
    rintro e u2 ⟨rfl, hS⟩
    replace HS := AM hS
    clear hS
    clear z10 z12
    obtain ⟨z00, z01, z02, z03⟩ := bq (HS.out.blk 1 rfl)
    have z12 := (blk_cell (HS.out.blk 0 rfl) 2).trans rfl
    go_wp2_with fail
    refine (HS.out.refFailAfter N).mono ?_
    rintro e u3 ⟨E0, e0, E1, e1, rfl, hS⟩
    replace HS := AM hS
    clear hS
    clear z00 z01 z02 z03 z12
    obtain ⟨z00, z01, z02, z03⟩ := bq (HS.out.blk 1 rfl)
    obtain ⟨f00, f01, f02, f03⟩ := fq (HS.out.blk 1 rfl)
    go_upto_region 43 with fail
    clear z00 z01 z02 z03 f00 f01 f02 f03
    replace HS := AM (show LW w (((((u3).setCell ⟨b9, 0, none⟩ (.slice E0 (D.after N).dur.length e0)).setCell ⟨b9, 1, none⟩ (.slice E1 (D.after N).pend.length e1)).setCell ⟨b9, 2, none⟩ (.int .i64 (D.after N).cnt)).setCell ⟨b9, 3, none⟩ (.bool (D.after N).failed)) [(b12, 79, #[.int .u8 3, .slice X1 data.length x1, .int .i64 N, .slice X3 ss.length x3]), (b9, 64, #[.slice E0 (D.after N).dur.length e0, .slice E1 (D.after N).pend.length e1, .int .i64 (D.after N).cnt, .bool (D.after N).failed, .int .i64 L.base, .int .i64 L.slot, .slice B6 L.recs.length d6, .int .i64 L.end_, .int .i64 L.synced])] _ gd _ _ _ _ _ _ _ _ _ _ from HS.out.puts [(0, .slice E0 (D.after N).dur.length e0), (1, .slice E1 (D.after N).pend.length e1), (2, .int .i64 (D.after N).cnt), (3, .bool (D.after N).failed)] 1 rfl)
    generalize ((((u3).setCell ⟨b9, 0, none⟩ (.slice E0 (D.after N).dur.length e0)).setCell ⟨b9, 1, none⟩ (.slice E1 (D.after N).pend.length e1)).setCell ⟨b9, 2, none⟩ (.int .i64 (D.after N).cnt)).setCell ⟨b9, 3, none⟩ (.bool (D.after N).failed) = u5 at HS ⊢
    obtain ⟨z00, z01, z02, z03, z04, z05, z06, z07, z08⟩ := bn (HS.out.blk 1 rfl)
    go_wp2_with fail
    have INVn := AM (show Inv n (k + 1) _ _ from INV.out.after N HX.out.2.2.1)
    refine (HS.out.even INVn.out.ok (by have h1 := INVn.out.few; have h2 := INVn.out.fit; have h3 := HN.out.2; omega) INVn.out.data).mono ?_
    rintro e uz ⟨rfl, hb⟩
    replace HS := AM (HS.out.below hb)
    clear hb
    clear z00 z01 z02 z03 z04 z05 z06 z07 z08
    go_wp2_with fail
    go_roundw
    case rel => exact ⟨k + 1, g', hlt, rfl, by go_num, ⟨⟨_, _, _, _, _, _, _, _, INVn.out, HS.out.tail⟩⟩⟩
    case measure => simp [intOf]; omega
   by_cases k4 : f0 = 4
   ·subst k4
    have OKC := AM (INV.out.ok.crashed ss)
    have DLC := AM (show (D.crashed ss).dur.length = n from (tearAll_length _ _ (INV.out.ok.zip ss)).trans INV.out.dur)
    have BDC := AM (INV.out.bytes.crashed ss)
    have H24 := AM (show 24 ≤ (D.crashed ss).dur.length by rw [DLC.out]; exact HN.out.1)
    clear z10
    have z10 := (blk_cell (HS.out.blk 0 rfl) 0).trans rfl
    have z13 := (blk_cell (HS.out.blk 0 rfl) 3).trans rfl
    go_wp2_with fail
    refine (HS.out.crash INV.out.ok X3 x3 ss HG3.out).mono ?_
    rintro e u2 ⟨rfl, hS⟩
    replace HS := AM hS
    clear hS
    clear z10 z13
    go_wp2_with fail
    refine (HS.out.reopen OKC.out (still_crashed D ss) H24.out BDC.out.1).mono ?_
    rintro e u3 ⟨g2, at2, rs2, sl2, ba2, rfl, hO, hS⟩
    have HO := AM hO
    replace HS := AM hS
    clear hS hO
    obtain ⟨z00, z01, z02, z03⟩ := bq (HS.out.blk 1 rfl)
    have z13 := (blk_cell (HS.out.blk 0 rfl) 3).trans rfl
    go_wp2_with fail
    refine (HS.out.refCrash INV.out.ok X3 x3 ss HG3.out l3).mono ?_
    rintro e u4 ⟨E0, e0, E1, e1, rfl, hS⟩
    replace HS := AM hS
    clear hS
    clear z00 z01 z02 z03 z13
    go_wp2_with fail
    refine (HS.out.refOpen OKC.out (still_crashed D ss) H24.out BDC.out.1 HO.out).mono ?_
    rintro e u5 ⟨G0, h0, G1, h1, G6, h6, rfl, hS⟩
    replace HS := AM hS
    clear hS
    have INVo := AM (Inv.opened OKC.out (still_crashed D ss) DLC.out HN.out.1 HN.out.2 BDC.out HO.out.1 HO.out.2.1 (k + 1))
    replace HS := AM (HS.out.alloc 64 #[.slice G0 (eraseD (D.crashed ss) (D.crashed ss).dur at2).1.dur.length h0, .slice G1 (eraseD (D.crashed ss) (D.crashed ss).dur at2).1.pend.length h1, .int .i64 (eraseD (D.crashed ss) (D.crashed ss).dur at2).1.cnt, .bool (eraseD (D.crashed ss) (D.crashed ss).dur at2).1.failed, .int .i64 ba2, .int .i64 sl2, .slice G6 rs2.length h6, .int .i64 (ba2 + (at2 : Int) - 24), .int .i64 (ba2 + (at2 : Int) - 24)])
    obtain ⟨b26, he26⟩ : ∃ b26, b26 = u5.heap.size := ⟨_, rfl⟩
    rw [← he26] at HS
    go_upto_region 40 with fail
    rw [← he26]
    generalize u5.alloc _ = u6 at HS ⊢
    clear he26
    go_upto_region 42 with fail
    refine start_ (n := 4) (S := fun w' => w'.cell? ⟨b26, 0, none⟩ = some (.slice G0 (eraseD (D.crashed ss) (D.crashed ss).dur at2).1.dur.length h0) ∧ w'.cell? ⟨b26, 1, none⟩ = some (.slice G1 (eraseD (D.crashed ss) (D.crashed ss).dur at2).1.pend.length h1) ∧ w'.cell? ⟨b26, 2, none⟩ = some (.int .i64 (eraseD (D.crashed ss) (D.crashed ss).dur at2).1.cnt) ∧ w'.cell? ⟨b26, 3, none⟩ = some (.bool (eraseD (D.crashed ss) (D.crashed ss).dur at2).1.failed) ∧ w'.cell? ⟨b26, 4, none⟩ = some (.int .i64 ba2) ∧ w'.cell? ⟨b26, 5, none⟩ = some (.int .i64 sl2) ∧ w'.cell? ⟨b26, 6, none⟩ = some (.slice G6 rs2.length h6) ∧ w'.cell? ⟨b26, 7, none⟩ = some (.int .i64 (ba2 + (at2 : Int) - 24)) ∧ w'.cell? ⟨b26, 8, none⟩ = some (.int .i64 (ba2 + (at2 : Int) - 24))) (ds := []) #[false, false, false, false] (by kernel_rfl) rfl rfl ⟨(blk_cell (HS.out.blk 0 rfl) 0).trans rfl, (blk_cell (HS.out.blk 0 rfl) 1).trans rfl, (blk_cell (HS.out.blk 0 rfl) 2).trans rfl, (blk_cell (HS.out.blk 0 rfl) 3).trans rfl, (blk_cell (HS.out.blk 0 rfl) 4).trans rfl, (blk_cell (HS.out.blk 0 rfl) 5).trans rfl, (blk_cell (HS.out.blk 0 rfl) 6).trans rfl, (blk_cell (HS.out.blk 0 rfl) 7).trans rfl, (blk_cell (HS.out.blk 0 rfl) 8).trans rfl⟩ (fun hHeld => ?_)
    clear hHeld
    replace HS := AM (HS.out.below (below_drew (Below.refl _ _)))
    generalize u6.drew = u7 at HS ⊢
    have hHeld : u7.cell? ⟨b26, 0, none⟩ = some (.slice G0 (eraseD (D.crashed ss) (D.crashed ss).dur at2).1.dur.length h0) ∧ u7.cell? ⟨b26, 1, none⟩ = some (.slice G1 (eraseD (D.crashed ss) (D.crashed ss).dur at2).1.pend.length h1) ∧ u7.cell? ⟨b26, 2, none⟩ = some (.int .i64 (eraseD (D.crashed ss) (D.crashed ss).dur at2).1.cnt) ∧ u7.cell? ⟨b26, 3, none⟩ = some (.bool (eraseD (D.crashed ss) (D.crashed ss).dur at2).1.failed) ∧ u7.cell? ⟨b26, 4, none⟩ = some (.int .i64 ba2) ∧ u7.cell? ⟨b26, 5, none⟩ = some (.int .i64 sl2) ∧ u7.cell? ⟨b26, 6, none⟩ = some (.slice G6 rs2.length h6) ∧ u7.cell? ⟨b26, 7, none⟩ = some (.int .i64 (ba2 + (at2 : Int) - 24)) ∧ u7.cell? ⟨b26, 8, none⟩ = some (.int .i64 (ba2 + (at2 : Int) - 24)) := ⟨(blk_cell (HS.out.blk 0 rfl) 0).trans rfl, (blk_cell (HS.out.blk 0 rfl) 1).trans rfl, (blk_cell (HS.out.blk 0 rfl) 2).trans rfl, (blk_cell (HS.out.blk 0 rfl) 3).trans rfl, (blk_cell (HS.out.blk 0 rfl) 4).trans rfl, (blk_cell (HS.out.blk 0 rfl) 5).trans rfl, (blk_cell (HS.out.blk 0 rfl) 6).trans rfl, (blk_cell (HS.out.blk 0 rfl) 7).trans rfl, (blk_cell (HS.out.blk 0 rfl) 8).trans rfl⟩
    refine pure_ (i := 0) (N := some 171) (v := ?_) (a' := ?_) #[true, false, false, false] rfl rfl (by kernel_rfl) (fun _ _ _ h => h) (Or.inl ⟨by rfl, ?_⟩) ?_ ?_
    rotate_left
    ·intro w'
     go_simp
     with_reducible rfl
    rotate_left
    ·simp only [pS]
     rfl
    refine take_ (i := 1) (N := some 172) (v := ?_) (a' := ?_) #[true, true, false, false] rfl rfl (by kernel_rfl) (fun _ _ _ h => h) (Or.inl ⟨by rfl, ?_⟩) hHeld ?_ ?_
    rotate_left
    ·rintro w' ⟨s0, s1, s2, s3, s4, s5, s6, s7, s8⟩
     go_simp
     with_reducible rfl
    rotate_left
    ·simp only [pS]
     rfl
    refine pure_ (i := 2) (N := some 8) (v := ?_) (a' := ?_) #[true, true, true, false] rfl rfl (by kernel_rfl) (fun _ _ _ h => h) (Or.inl ⟨by rfl, ?_⟩) ?_ ?_
    rotate_left
    ·intro w'
     go_simp
     with_reducible rfl
    rotate_left
    ·simp only [pS]
     rfl
    refine one_ (i := 3) (N := none) #[true, true, true, true] rfl rfl (by kernel_rfl) (by decide) (fun K hK => ?_)
    obtain ⟨z00, z01, z02, z03, z04, z05, z06, z07, z08⟩ := bn (HS.out.blk 2 rfl)
    obtain ⟨f00, f01, f02, f03, f04, f05, f06, f07, f08⟩ := fn (HS.out.blk 2 rfl)
    refine skip_ (w1 := ?_) (by rfl) rfl ?_ ?_
    rotate_left
    ·go_simp
     first | rfl | exact ⟨rfl, rfl⟩
    clear z00 z01 z02 z03 z04 z05 z06 z07 z08 f00 f01 f02 f03 f04 f05 f06 f07 f08
    replace HS := AM (show LW w ((((((((((u7).setCell ⟨b9, 0, none⟩ (.slice G0 (eraseD (D.crashed ss) (D.crashed ss).dur at2).1.dur.length h0)).setCell ⟨b9, 1, none⟩ (.slice G1 (eraseD (D.crashed ss) (D.crashed ss).dur at2).1.pend.length h1)).setCell ⟨b9, 2, none⟩ (.int .i64 (eraseD (D.crashed ss) (D.crashed ss).dur at2).1.cnt)).setCell ⟨b9, 3, none⟩ (.bool (eraseD (D.crashed ss) (D.crashed ss).dur at2).1.failed)).setCell ⟨b9, 4, none⟩ (.int .i64 ba2)).setCell ⟨b9, 5, none⟩ (.int .i64 sl2)).setCell ⟨b9, 6, none⟩ (.slice G6 rs2.length h6)).setCell ⟨b9, 7, none⟩ (.int .i64 (ba2 + (at2 : Int) - 24))).setCell ⟨b9, 8, none⟩ (.int .i64 (ba2 + (at2 : Int) - 24))) [(b26, 64, #[.slice G0 (eraseD (D.crashed ss) (D.crashed ss).dur at2).1.dur.length h0, .slice G1 (eraseD (D.crashed ss) (D.crashed ss).dur at2).1.pend.length h1, .int .i64 (eraseD (D.crashed ss) (D.crashed ss).dur at2).1.cnt, .bool (eraseD (D.crashed ss) (D.crashed ss).dur at2).1.failed, .int .i64 ba2, .int .i64 sl2, .slice G6 rs2.length h6, .int .i64 (ba2 + (at2 : Int) - 24), .int .i64 (ba2 + (at2 : Int) - 24)]), (b12, 79, #[.int .u8 4, .slice X1 data.length x1, .int .i64 N, .slice X3 ss.length x3]), (b9, 64, #[.slice G0 (eraseD (D.crashed ss) (D.crashed ss).dur at2).1.dur.length h0, .slice G1 (eraseD (D.crashed ss) (D.crashed ss).dur at2).1.pend.length h1, .int .i64 (eraseD (D.crashed ss) (D.crashed ss).dur at2).1.cnt, .bool (eraseD (D.crashed ss) (D.crashed ss).dur at2).1.failed, .int .i64 ba2, .int .i64 sl2, .slice G6 rs2.length h6, .int .i64 (ba2 + (at2 : Int) - 24), .int .i64 (ba2 + (at2 : Int) - 24)])] _ gd _ _ _ _ _ _ _ _ _ _ from HS.out.puts [(0, .slice G0 (eraseD (D.crashed ss) (D.crashed ss).dur at2).1.dur.length h0), (1, .slice G1 (eraseD (D.crashed ss) (D.crashed ss).dur at2).1.pend.length h1), (2, .int .i64 (eraseD (D.crashed ss) (D.crashed ss).dur at2).1.cnt), (3, .bool (eraseD (D.crashed ss) (D.crashed ss).dur at2).1.failed), (4, .int .i64 ba2), (5, .int .i64 sl2), (6, .slice G6 rs2.length h6), (7, .int .i64 (ba2 + (at2 : Int) - 24)), (8, .int .i64 (ba2 + (at2 : Int) - 24))] 2 rfl)
    generalize (((((((((u7).setCell ⟨b9, 0, none⟩ (.slice G0 (eraseD (D.crashed ss) (D.crashed ss).dur at2).1.dur.length h0)).setCell ⟨b9, 1, none⟩ (.slice G1 (eraseD (D.crashed ss) (D.crashed ss).dur at2).1.pend.length h1)).setCell ⟨b9, 2, none⟩ (.int .i64 (eraseD (D.crashed ss) (D.crashed ss).dur at2).1.cnt)).setCell ⟨b9, 3, none⟩ (.bool (eraseD (D.crashed ss) (D.crashed ss).dur at2).1.failed)).setCell ⟨b9, 4, none⟩ (.int .i64 ba2)).setCell ⟨b9, 5, none⟩ (.int .i64 sl2)).setCell ⟨b9, 6, none⟩ (.slice G6 rs2.length h6)).setCell ⟨b9, 7, none⟩ (.int .i64 (ba2 + (at2 : Int) - 24))).setCell ⟨b9, 8, none⟩ (.int .i64 (ba2 + (at2 : Int) - 24)) = u8 at HS ⊢
    refine hK.out _ _ ⟨(blk_cell (HS.out.blk 0 rfl) 0).trans rfl, (blk_cell (HS.out.blk 0 rfl) 1).trans rfl, (blk_cell (HS.out.blk 0 rfl) 2).trans rfl, (blk_cell (HS.out.blk 0 rfl) 3).trans rfl, (blk_cell (HS.out.blk 0 rfl) 4).trans rfl, (blk_cell (HS.out.blk 0 rfl) 5).trans rfl, (blk_cell (HS.out.blk 0 rfl) 6).trans rfl, (blk_cell (HS.out.blk 0 rfl) 7).trans rfl, (blk_cell (HS.out.blk 0 rfl) 8).trans rfl⟩ (fun hHeld => ?_)
    clear hK K
    refine done_ (by kernel_rfl) ?_
    clear hHeld
    obtain ⟨z00, z01, z02, z03, z04, z05, z06, z07, z08⟩ := bn (HS.out.blk 2 rfl)
    go_wp2_with fail
    have INVn := AM (show Inv n (k + 1) _ _ from INVo.out)
    refine (HS.out.even INVn.out.ok (by have h1 := INVn.out.few; have h2 := INVn.out.fit; have h3 := HN.out.2; omega) INVn.out.data).mono ?_
    rintro e uz ⟨rfl, hb⟩
    replace HS := AM (HS.out.below hb)
    clear hb
    clear z00 z01 z02 z03 z04 z05 z06 z07 z08
    go_wp2_with fail
    go_roundw
    case rel => exact ⟨k + 1, g2, hlt, rfl, by go_num, ⟨⟨_, _, _, _, _, _, _, _, INVn.out, HS.out.tail.tail⟩⟩⟩
    case measure => simp [intOf]; omega
   skip
   clear z10
   obtain ⟨z00, z01, z02, z03, z04, z05, z06, z07, z08⟩ := bn (HS.out.blk 1 rfl)
   have z10 := (blk_cell (HS.out.blk 0 rfl) 0).trans rfl
   go_wp2_with fail
   have INVn := AM (show Inv n (k + 1) _ _ from INV.out.more)
   refine (HS.out.even INVn.out.ok (by have h1 := INVn.out.few; have h2 := INVn.out.fit; have h3 := HN.out.2; omega) INVn.out.data).mono ?_
   rintro e uz ⟨rfl, hb⟩
   replace HS := AM (HS.out.below hb)
   clear hb
   clear z00 z01 z02 z03 z04 z05 z06 z07 z08 z10
   go_wp2_with fail
   go_roundw
   case rel => exact ⟨k + 1, g', hlt, rfl, by go_num, ⟨⟨_, _, _, _, _, _, _, _, INVn.out, HS.out.tail⟩⟩⟩
   case measure => simp [intOf]; omega
end Go.Proofs.Ytbbokpkpdnppjaa
