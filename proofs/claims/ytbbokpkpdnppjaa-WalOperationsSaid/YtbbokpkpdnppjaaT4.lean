/- A part of the proof of WalOperations. -/
import Derived.Test.YtbbokpkpdnppjaaUA
import Derived.Test.YtbbokpkpdnppjaaT3
import Derived.Test.YtbbokpkpdnppjaaT2
namespace Go.Proofs.Ytbbokpkpdnppjaa
open Go.RowKit Go.Proofs.YtbbokpkpdnppjaaW.PrintWords Go.Proofs.YtbbokpkpdnppjaaW.PrintLast Go.Proofs.YtbbokpkpdnppjaaW.PrintMore
set_option linter.unusedVariables false
set_option linter.unusedSimpArgs false
section
variable {w wk : World} {ok : Nat → Prop} {bs : List (Nat × TypeId × Array Value)} {A0 A1 A6 : Option Addr} {c0 c1 c6 : Nat} {D : Dk} {rs : List G.S73}
theorem RS.puts (vs : List (Nat × Value)) : ∀ {wk : World} {bs : List (Nat × TypeId × Array Value)} (h : RS w wk ok bs A0 c0 A1 c1 D A6 c6 rs) (i : Nat) {b : Nat} {t : TypeId} {cs : List Value} (hi : bs[i]? = some (b, t, cs.toArray)), RS w (vs.foldl (fun W p => W.setCell ⟨b, p.1, none⟩ p.2) wk) ok (bs.set i (b, t, (vs.foldl (fun c p => c.set p.1 p.2) cs).toArray)) A0 c0 A1 c1 D A6 c6 rs := by
 induction vs with
 | nil =>
  intro wk bs h i b t cs hi
  have e : bs.set i (b, t, cs.toArray) = bs := by
   apply List.ext_getElem?
   intro j
   rw [List.getElem?_set]
   by_cases hj : i = j
   ·subst hj
    rw [if_pos rfl, if_pos (List.getElem?_eq_some_iff.1 hi).1, hi]
   ·rw [if_neg hj]
  show RS w wk ok (bs.set i (b, t, cs.toArray)) A0 c0 A1 c1 D A6 c6 rs
  rw [e]
  exact h
 | cons p vs ih =>
  intro wk bs h i b t cs hi
  have hl := (List.getElem?_eq_some_iff.1 hi).1
  have h1 := h.put i hi p.1 p.2
  rw [List.setIfInBounds_toArray] at h1
  have h2 := ih h1 i (b := b) (t := t) (cs := cs.set p.1 p.2) (by rw [List.getElem?_set, if_pos rfl, if_pos hl])
  rw [List.set_set] at h2
  exact h2
theorem RS.recsV (h : RS w wk ok bs A0 c0 A1 c1 D A6 c6 rs) : ∃ okk, Kd.V G.k73 73 wk wk.heap.size okk (.slice A6 rs.length c6) rs ∧ ∀ k, okk k → (ok k ∨ w.heap.size ≤ k) ∧ k < wk.heap.size ∧ ∀ (i b : Nat) (t : TypeId) (cs : Array Value), bs[i]? = some (b, t, cs) → k ≠ b := by
 obtain ⟨_, _, _, okk, _, h5, h6⟩ := h
 exact ⟨okk, h5, h6⟩
theorem RS.newrecs (h : RS w wk ok bs A0 c0 A1 c1 D A6 c6 rs) {okn : Nat → Prop} {base : Nat} {A8 : Option Addr} {c8 : Nat} {rs' : List G.S73} (hv : Kd.V G.k73 73 wk base okn (.slice A8 rs'.length c8) rs') (hok : ∀ k, okn k → (ok k ∨ w.heap.size ≤ k) ∧ k < wk.heap.size ∧ ∀ (i b : Nat) (t : TypeId) (cs : Array Value), bs[i]? = some (b, t, cs) → k ≠ b) : RS w wk ok bs A0 c0 A1 c1 D A8 c8 rs' := by
 obtain ⟨h1, h2, h3, okk, h4, h5, h6⟩ := h
 exact ⟨h1, h2, h3, fun k => okk k ∨ okn k, h4.mono (fun k hk => .inl hk), Kd.V_mono hv (fun k hk => .inr hk), fun k hk => hk.elim (h6 k) (hok k)⟩
end
set_option maxRecDepth 100000 in
set_option maxHeartbeats 8000000 in
theorem refSync_calls {w : World} {ok : Nat → Prop} {v : Value} {L : Lg} {D : Dk} (h : RefL w ok v L D) (hok : D.Ok) :
  Calls Try.prog 48 #[v] w fun e w' => ∃ v', e = .returned (.tuple #[v', .int .i64 D.sync.2]) ∧ RefL w' (New ok w w') v' (syncL L D) D.sync.1 ∧ Below w.heap.size w w' := by
 obtain ⟨A0, c0, A1, c1, A6, c6, rfl, HS⟩ := h.start
 replace HS := AM HS
 have hu64 := Try.underlying64
 have hu50 := Try.underlying50
 clear h
 replace HS := AM (HS.out.alloc 64 #[.slice A0 D.dur.length c0, .slice A1 D.pend.length c1, .int .i64 D.cnt, .bool D.failed, .int .i64 L.base, .int .i64 L.slot, .slice A6 L.recs.length c6, .int .i64 L.end_, .int .i64 L.synced])
 replace HS := AM (HS.out.alloc 64 #[.slice none 0 0, .slice none 0 0, .int .i64 0, .bool false, .int .i64 0, .int .i64 0, .slice none 0 0, .int .i64 0, .int .i64 0])
 rw [World.size_alloc] at HS
 go_enter Try.func48, Try.ntmps48
 go_wp2_with fail
 generalize (w.alloc _).alloc _ = w2 at HS ⊢
 refine (HS.out.sync hok).mono ?_
 rintro e w3 ⟨B0, d0, B1, d1, rfl, hS⟩
 replace HS := AM hS
 clear hS
 replace HS := AM (HS.out.alloc 50 #[.slice B0 D.sync.1.dur.length d0, .slice B1 D.sync.1.pend.length d1, .int .i64 D.sync.1.cnt, .bool D.sync.1.failed])
 go_upto_region 2 with fail
 generalize w3.alloc _ = w4 at HS ⊢
 obtain ⟨z20, z21, z22, z23⟩ := bq (HS.out.blk 0 rfl)
 obtain ⟨z00, z01, z02, z03⟩ := bq (HS.out.blk 2 rfl)
 obtain ⟨f00, f01, f02, f03⟩ := fq (HS.out.blk 2 rfl)
 go_upto_region 3 with fail
 clear z20 z21 z22 z23 z00 z01 z02 z03 f00 f01 f02 f03
 replace HS := AM (show RS w _ ok [(w3.heap.size, 50, #[.slice B0 D.sync.1.dur.length d0, .slice B1 D.sync.1.pend.length d1, .int .i64 D.sync.1.cnt, .bool D.sync.1.failed]), (w.heap.size + 1, 64, #[.slice none 0 0, .slice none 0 0, .int .i64 0, .bool false, .int .i64 0, .int .i64 0, .slice none 0 0, .int .i64 0, .int .i64 0]), (w.heap.size, 64, #[.slice B0 D.sync.1.dur.length d0, .slice B1 D.sync.1.pend.length d1, .int .i64 D.sync.1.cnt, .bool D.sync.1.failed, .int .i64 L.base, .int .i64 L.slot, .slice A6 L.recs.length c6, .int .i64 L.end_, .int .i64 L.synced])] _ _ _ _ _ _ _ _ from HS.out.puts [(0, .slice B0 D.sync.1.dur.length d0), (1, .slice B1 D.sync.1.pend.length d1), (2, .int .i64 D.sync.1.cnt), (3, .bool D.sync.1.failed)] 2 rfl)
 replace HS := AM (show RS w (((((w4).setCell ⟨w.heap.size, 0, none⟩ (.slice B0 D.sync.1.dur.length d0)).setCell ⟨w.heap.size, 1, none⟩ (.slice B1 D.sync.1.pend.length d1)).setCell ⟨w.heap.size, 2, none⟩ (.int .i64 D.sync.1.cnt)).setCell ⟨w.heap.size, 3, none⟩ (.bool D.sync.1.failed)) ok _ _ _ _ _ _ _ _ _ from HS.out)
 generalize ((((w4).setCell ⟨w.heap.size, 0, none⟩ (.slice B0 D.sync.1.dur.length d0)).setCell ⟨w.heap.size, 1, none⟩ (.slice B1 D.sync.1.pend.length d1)).setCell ⟨w.heap.size, 2, none⟩ (.int .i64 D.sync.1.cnt)).setCell ⟨w.heap.size, 3, none⟩ (.bool D.sync.1.failed) = w5 at HS ⊢
 by_cases h0 : D.sync.2 = 0
 ·have HL := AM (show syncL L D = ⟨L.slot, L.base, L.end_, L.end_, L.recs⟩ by rw [syncL, if_pos h0])
  have z07 := (blk_cell (HS.out.blk 2 rfl) 7).trans rfl
  have z08 := (blk_cell (HS.out.blk 2 rfl) 8).trans rfl
  have f08 := blk_frozen (HS.out.blk 2 rfl) 8
  go_upto_region 5 with fail
  clear z07 z08 f08
  replace HS := AM (show RS w _ ok [(w3.heap.size, 50, #[.slice B0 D.sync.1.dur.length d0, .slice B1 D.sync.1.pend.length d1, .int .i64 D.sync.1.cnt, .bool D.sync.1.failed]), (w.heap.size + 1, 64, #[.slice none 0 0, .slice none 0 0, .int .i64 0, .bool false, .int .i64 0, .int .i64 0, .slice none 0 0, .int .i64 0, .int .i64 0]), (w.heap.size, 64, #[.slice B0 D.sync.1.dur.length d0, .slice B1 D.sync.1.pend.length d1, .int .i64 D.sync.1.cnt, .bool D.sync.1.failed, .int .i64 L.base, .int .i64 L.slot, .slice A6 L.recs.length c6, .int .i64 L.end_, .int .i64 L.end_])] _ _ _ _ _ _ _ _ from HS.out.puts [(8, .int .i64 L.end_)] 2 rfl)
  replace HS := AM (show RS w ((w5).setCell ⟨w.heap.size, 8, none⟩ (.int .i64 L.end_)) ok _ _ _ _ _ _ _ _ _ from HS.out)
  generalize (w5).setCell ⟨w.heap.size, 8, none⟩ (.int .i64 L.end_) = w6 at HS ⊢
  obtain ⟨z00, z01, z02, z03, z04, z05, z06, z07, z08⟩ := bn (HS.out.blk 2 rfl)
  obtain ⟨z10, z11, z12, z13, z14, z15, z16, z17, z18⟩ := bn (HS.out.blk 1 rfl)
  obtain ⟨f10, f11, f12, f13, f14, f15, f16, f17, f18⟩ := fn (HS.out.blk 1 rfl)
  go_wp2_with fail
  clear z00 z01 z02 z03 z04 z05 z06 z07 z08 z10 z11 z12 z13 z14 z15 z16 z17 z18 f10 f11 f12 f13 f14 f15 f16 f17 f18
  replace HS := AM (show RS w _ ok [(w3.heap.size, 50, #[.slice B0 D.sync.1.dur.length d0, .slice B1 D.sync.1.pend.length d1, .int .i64 D.sync.1.cnt, .bool D.sync.1.failed]), (w.heap.size + 1, 64, #[.slice B0 D.sync.1.dur.length d0, .slice B1 D.sync.1.pend.length d1, .int .i64 D.sync.1.cnt, .bool D.sync.1.failed, .int .i64 L.base, .int .i64 L.slot, .slice A6 L.recs.length c6, .int .i64 L.end_, .int .i64 L.end_]), (w.heap.size, 64, #[.slice B0 D.sync.1.dur.length d0, .slice B1 D.sync.1.pend.length d1, .int .i64 D.sync.1.cnt, .bool D.sync.1.failed, .int .i64 L.base, .int .i64 L.slot, .slice A6 L.recs.length c6, .int .i64 L.end_, .int .i64 L.end_])] _ _ _ _ _ _ _ _ from HS.out.puts [(0, .slice B0 D.sync.1.dur.length d0), (1, .slice B1 D.sync.1.pend.length d1), (2, .int .i64 D.sync.1.cnt), (3, .bool D.sync.1.failed), (4, .int .i64 L.base), (5, .int .i64 L.slot), (6, .slice A6 L.recs.length c6), (7, .int .i64 L.end_), (8, .int .i64 L.end_)] 1 rfl)
  refine bodyPost_ret (results_ct rfl _ _ (w.heap.size + 1) 64 #[.slice B0 D.sync.1.dur.length d0, .slice B1 D.sync.1.pend.length d1, .int .i64 D.sync.1.cnt, .bool D.sync.1.failed, .int .i64 L.base, .int .i64 L.slot, .slice A6 L.recs.length c6, .int .i64 L.end_, .int .i64 L.end_] (0, 0) _ rfl (HS.out.blk 1 rfl) Try.underlying64 rfl (by kernel_rfl)) rfl ?_
  rw [HL.out]
  exact ⟨_, rfl, HS.out.done ⟨L.slot, L.base, L.end_, L.end_, L.recs⟩ rfl⟩
 ·have HL := AM (show syncL L D = L by rw [syncL, if_neg h0])
  obtain ⟨z00, z01, z02, z03, z04, z05, z06, z07, z08⟩ := bn (HS.out.blk 2 rfl)
  obtain ⟨z10, z11, z12, z13, z14, z15, z16, z17, z18⟩ := bn (HS.out.blk 1 rfl)
  obtain ⟨f10, f11, f12, f13, f14, f15, f16, f17, f18⟩ := fn (HS.out.blk 1 rfl)
  go_wp2_with fail
  clear z00 z01 z02 z03 z04 z05 z06 z07 z08 z10 z11 z12 z13 z14 z15 z16 z17 z18 f10 f11 f12 f13 f14 f15 f16 f17 f18
  replace HS := AM (show RS w _ ok [(w3.heap.size, 50, #[.slice B0 D.sync.1.dur.length d0, .slice B1 D.sync.1.pend.length d1, .int .i64 D.sync.1.cnt, .bool D.sync.1.failed]), (w.heap.size + 1, 64, #[.slice B0 D.sync.1.dur.length d0, .slice B1 D.sync.1.pend.length d1, .int .i64 D.sync.1.cnt, .bool D.sync.1.failed, .int .i64 L.base, .int .i64 L.slot, .slice A6 L.recs.length c6, .int .i64 L.end_, .int .i64 L.synced]), (w.heap.size, 64, #[.slice B0 D.sync.1.dur.length d0, .slice B1 D.sync.1.pend.length d1, .int .i64 D.sync.1.cnt, .bool D.sync.1.failed, .int .i64 L.base, .int .i64 L.slot, .slice A6 L.recs.length c6, .int .i64 L.end_, .int .i64 L.synced])] _ _ _ _ _ _ _ _ from HS.out.puts [(0, .slice B0 D.sync.1.dur.length d0), (1, .slice B1 D.sync.1.pend.length d1), (2, .int .i64 D.sync.1.cnt), (3, .bool D.sync.1.failed), (4, .int .i64 L.base), (5, .int .i64 L.slot), (6, .slice A6 L.recs.length c6), (7, .int .i64 L.end_), (8, .int .i64 L.synced)] 1 rfl)
  refine bodyPost_ret (results_ct rfl _ _ (w.heap.size + 1) 64 #[.slice B0 D.sync.1.dur.length d0, .slice B1 D.sync.1.pend.length d1, .int .i64 D.sync.1.cnt, .bool D.sync.1.failed, .int .i64 L.base, .int .i64 L.slot, .slice A6 L.recs.length c6, .int .i64 L.end_, .int .i64 L.synced] (0, 0) _ rfl (HS.out.blk 1 rfl) Try.underlying64 rfl (by kernel_rfl)) rfl ?_
  rw [HL.out]
  exact ⟨_, rfl, HS.out.done L rfl⟩
end Go.Proofs.Ytbbokpkpdnppjaa
