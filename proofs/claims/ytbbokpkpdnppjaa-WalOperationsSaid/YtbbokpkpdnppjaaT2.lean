/- A part of the proof of WalOperations. -/
import Derived.Test.YtbbokpkpdnppjaaU0
import Derived.Test.YtbbokpkpdnppjaaUA
import Derived.Test.YtbbokpkpdnppjaaT1
namespace Go.Proofs.Ytbbokpkpdnppjaa
open Go.RowKit Go.Proofs.YtbbokpkpdnppjaaW.PrintWords Go.Proofs.YtbbokpkpdnppjaaW.PrintLast Go.Proofs.YtbbokpkpdnppjaaW.PrintMore
set_option linter.unusedVariables false
set_option linter.unusedSimpArgs false
/-! ### Resetting: the walk -/
theorem slot_to (L : Lg) : (L.slot = 0 ∧ L.side = 1 ∧ 12 * L.side = 12) ∨ (¬ L.slot = 0 ∧ L.side = 0 ∧ 12 * L.side = 0) := by
 unfold Lg.side
 by_cases h : L.slot = 0
 ·rw [if_pos h]; exact .inl ⟨h, rfl, rfl⟩
 ·rw [if_neg h]; exact .inr ⟨h, rfl, rfl⟩
theorem Calls.args_eq {P : Program} {n : Nat} {a b : Array Value} {w : World} {Q : Ending → World → Prop} (e : a = b) (h : Calls P n a w Q) : Calls P n b w Q := e ▸ h
theorem LogS.keep {w0 W : World} {Q rok : Nat → Prop} {g gd : Nat} {L : Lg} {D : Dk} (h : LogS w0 W Q rok g gd L D) {Q1 : Nat → Prop} {W1 : World} {D1 : Dk} (hq : ∀ k, Q k → Q1 k) (hs : Sts w0 W1 Q1 [(gd, D1)]) (hk : ∀ k, Q k → W1.heap[k]? = W.heap[k]?) : LogPost w0 W Q rok g gd L D1 W1 := by
 obtain ⟨_, v, hg, hN, hro, hQg, hwg⟩ := h
 exact ⟨Q1, rok, hq, fun _ h => .inl h, ⟨hs, v, (hk g hQg).trans hg, Kd.N_step hN (fun k h _ => hk k (hro k h).1), fun k h => ⟨hq k (hro k h).1, (hro k h).2⟩, hq g hQg, hwg⟩, fun k h => hk k h.1⟩
theorem LogS.fresh {w0 W : World} {Q rok : Nat → Prop} {g gd : Nat} {L : Lg} {D : Dk} (h : LogS w0 W Q rok g gd L D) {Q1 : Nat → Prop} {W1 : World} {D1 : Dk} (hq : ∀ k, Q k → Q1 k) (hs : Sts w0 W1 Q1 [(gd, D1)]) (hk : ∀ k, Q k → W1.heap[k]? = W.heap[k]?) (x y z : Int) (v5 : Value)
  (hg : W1.heap[g]? = some (.cells #[.pointer (some ⟨gd, 0, none⟩), .int .i64 x, .int .i64 y, .int .i64 L.end_, .int .i64 z, v5] 108 (0, 0))) (sl : Int) :
  LogPost w0 W Q rok g gd ⟨sl, L.end_, L.end_, L.end_, []⟩ D1 ((((W1.setCell ⟨g, 1, none⟩ (.int .i64 sl)).setCell ⟨g, 2, none⟩ (.int .i64 L.end_)).setCell ⟨g, 4, none⟩ (.int .i64 L.end_)).setCell ⟨g, 5, none⟩ (.slice none 0 0)) := by
 obtain ⟨_, v, _, hN, hro, hQg, hwg⟩ := h
 have g1 := blk_put hg 1 (.int .i64 sl) rfl
 have g2 := blk_put g1 2 (.int .i64 L.end_) rfl
 have g3 := blk_put g2 4 (.int .i64 L.end_) rfl
 have g4 := blk_put g3 5 (.slice none 0 0) rfl
 refine ⟨Q1, fun _ => False, hq, fun _ h => h.elim, ⟨(((hs.poke g (hq g hQg) hwg 1 _).poke g (hq g hQg) hwg 2 _).poke g (hq g hQg) hwg 4 _).poke g (hq g hQg) hwg 5 _, _, g4, Kd.N_nil _ _ _ _ _, fun _ h => h.elim, hq g hQg, hwg⟩, fun k h => ?_⟩
 rw [Below.heap_setCell _ ⟨g, 5, none⟩ _ k h.2.2, Below.heap_setCell _ ⟨g, 4, none⟩ _ k h.2.2, Below.heap_setCell _ ⟨g, 2, none⟩ _ k h.2.2, Below.heap_setCell _ ⟨g, 1, none⟩ _ k h.2.2]
 exact hk k h.1
set_option maxRecDepth 100000 in
set_option maxHeartbeats 8000000 in
theorem Reset_calls {w0 W : World} {Q rok : Nat → Prop} {g gd : Nat} {L : Lg} {D : Dk} (h : LogS w0 W Q rok g gd L D) (hok : D.Ok) (hpn : D.pend.length < 900) (hb0 : 0 ≤ L.base) (hb1 : L.base ≤ L.end_) (hb2 : L.end_ - L.base ≤ 4194304) (hb3 : L.end_ ≤ 9000000000000000000) :
  Calls Try.prog 49 #[.pointer (some ⟨g, 0, none⟩)] W fun e W' => e = .returned (.int .i64 (resetL L D).2.2) ∧ LogPost w0 W Q rok g gd (resetL L D).1 (resetL L D).2.1 W' := by
 have H0 := AM h
 obtain ⟨hs, v, hg, hN, hro, hQg, hwg⟩ := h
 obtain ⟨Av, cv, rfl⟩ := Kd.N_slice hN
 have hrl : ((L.recs.length : Int) = 0 ↔ L.recs.length = 0) := by omega
 generalize hnv : L.recs.length = nv at hg hrl
 have S := AM hs
 have G := AM hg
 have KP := AM (KeepP.refl Q W)
 clear hs hg hN hro
 have F0 := (blk_cell G.out 0).trans rfl
 have F1 := (blk_cell G.out 1).trans rfl
 have F2 := (blk_cell G.out 2).trans rfl
 have F3 := (blk_cell G.out 3).trans rfl
 have F4 := (blk_cell G.out 4).trans rfl
 have F5 := (blk_cell G.out 5).trans rfl
 have f0 := blk_frozen G.out 0
 have f1 := blk_frozen G.out 1
 have f2 := blk_frozen G.out 2
 have f3 := blk_frozen G.out 3
 have f4 := blk_frozen G.out 4
 have f5 := blk_frozen G.out 5
 by_cases hn : nv = 0
 ·have HR := AM (show resetL L D = (L, D, 0) by rw [resetL, if_pos (by rw [hnv]; exact hn)])
  have hn' : (nv : Int) = 0 := by omega
  go_enter Try.func49, Try.ntmps49
  go_wp2_with fail
  go_ret
  rw [HR.out]
  exact ⟨rfl, H0.out.keep (fun _ h => h) S.out KP.out⟩
 have hn' : ¬ (nv : Int) = 0 := by omega
 have HR := AM (show resetL L D = reset1 L L.side D by rw [resetL, if_neg (by rw [hnv]; exact hn)])
 have HE := AM (show wrap64 (L.end_ - L.base) = L.end_ - L.base from w64 (by omega) (by omega))
 have hok1 : (D.write (12 * L.side) (header L.end_)).1.Ok := hok.write (by omega) _ _
 have hok2 := hok1.sync
 have hok3 : ((D.write (12 * L.side) (header L.end_)).1.sync.1.write 24 (List.replicate (L.end_ - L.base).toNat 0)).1.Ok := hok2.write (by have h1 := write_pend D (12 * L.side) (header L.end_); have h2 := sync_pend (D.write (12 * L.side) (header L.end_)).1; omega) _ _
 clear hrl
 go_enter Try.func49, Try.ntmps49
 have hw12 : wrap64 12 = 12 := w64 (by omega) (by omega)
 have hw0 : wrap64 0 = 0 := w64 (by omega) (by omega)
 rcases slot_to L with ⟨hsl, hsd, hto⟩ | ⟨hsl, hsd, hto⟩
 all_goals
  have HSD := AM hsd
  have HTO := AM hto
  clear hsd hto
  go_wp2_with fail
  refine start_ (n := 13) (S := fun w' => w'.cell? ⟨g, 0, none⟩ = some (.pointer (some ⟨gd, 0, none⟩)) ∧ w'.cell? ⟨g, 3, none⟩ = some (.int .i64 L.end_) ∧ w'.cell? ⟨g, 2, none⟩ = some (.int .i64 L.base)) (ds := []) #[false, false, false, false, false, false, false, false, false, false, false, false, false] (by kernel_rfl) rfl rfl ⟨F0, F3, F2⟩ (fun hHeld => ?_)
  have hbd : Below W.heap.size W W.drew := below_drew (Below.refl _ _)
  have hG_ : W.drew.heap[g]? = some (.cells #[.pointer (some ⟨gd, 0, none⟩), .int .i64 L.slot, .int .i64 L.base, .int .i64 L.end_, .int .i64 L.synced, .slice Av nv cv] 108 (0, 0)) := G.out
  have hS_ := S.out.step hbd
  have hK_ : KeepP Q W W.drew := KP.out
  clear hHeld hbd
  clear F0 F1 F2 F3 F4 F5 f0 f1 f2 f3 f4 f5
  clear G S KP
  generalize W.drew = W1 at hG_ hS_ hK_ ⊢
  have G := AM hG_
  have S := AM hS_
  have KP := AM hK_
  clear hG_ hS_ hK_
  have F0 := (blk_cell G.out 0).trans rfl
  have F1 := (blk_cell G.out 1).trans rfl
  have F2 := (blk_cell G.out 2).trans rfl
  have F3 := (blk_cell G.out 3).trans rfl
  have F4 := (blk_cell G.out 4).trans rfl
  have F5 := (blk_cell G.out 5).trans rfl
  have f0 := blk_frozen G.out 0
  have f1 := blk_frozen G.out 1
  have f2 := blk_frozen G.out 2
  have f3 := blk_frozen G.out 3
  have f4 := blk_frozen G.out 4
  have f5 := blk_frozen G.out 5
  have hHeld : W1.cell? ⟨g, 0, none⟩ = some (.pointer (some ⟨gd, 0, none⟩)) ∧ W1.cell? ⟨g, 3, none⟩ = some (.int .i64 L.end_) ∧ W1.cell? ⟨g, 2, none⟩ = some (.int .i64 L.base) := ⟨F0, F3, F2⟩
  refine pu 0 (some 19) ?_ (bt 13 1) (by kernel_rfl) ?_ ?_ ?_ ?_
  rotate_left
  ·intro w'
   go_simp
   with_reducible rfl
  rotate_left
  ·simp only [pS]
   rfl
  refine pu 1 (some 20) ?_ (bt 13 3) (by kernel_rfl) ?_ ?_ ?_ ?_
  rotate_left
  ·intro w'
   go_simp
   with_reducible rfl
  rotate_left
  ·simp only [pS]
   rfl
  refine pu 2 (some 21) ?_ (bt 13 7) (by kernel_rfl) ?_ ?_ ?_ ?_
  rotate_left
  ·intro w'
   go_simp
   with_reducible rfl
  rotate_left
  ·simp only [pS]
   rfl
  refine tk 3 (some 22) ?_ (bt 13 15) (by kernel_rfl) hHeld ?_ ?_ ?_ ?_
  rotate_left
  ·rintro w' ⟨s0, s1, s2⟩
   go_simp
   with_reducible rfl
  rotate_left
  ·simp only [pS]
   rfl
  refine pu 4 (some 23) ?_ (bt 13 31) (by kernel_rfl) ?_ ?_ ?_ ?_
  rotate_left
  ·intro w'
   go_simp
   with_reducible rfl
  rotate_left
  ·simp only [pS]
   rfl
  refine pu 5 (some 24) ?_ (bt 13 63) (by kernel_rfl) ?_ ?_ ?_ ?_
  rotate_left
  ·intro w'
   go_simp
   with_reducible rfl
  rotate_left
  ·simp only [pS]
   rfl
  refine pu 6 (some 25) ?_ (bt 13 127) (by kernel_rfl) ?_ ?_ ?_ ?_
  rotate_left
  ·intro w'
   go_simp
   with_reducible rfl
  rotate_left
  ·simp only [pS]
   rfl
  refine pu 7 (some 26) ?_ (bt 13 255) (by kernel_rfl) ?_ ?_ ?_ ?_
  rotate_left
  ·intro w'
   go_simp
   with_reducible rfl
  rotate_left
  ·simp only [pS]
   rfl
  refine pu 8 (some 27) ?_ (bt 13 511) (by kernel_rfl) ?_ ?_ ?_ ?_
  rotate_left
  ·intro w'
   go_simp
   with_reducible rfl
  rotate_left
  ·simp only [pS]
   rfl
  refine tk 9 (some 28) ?_ (bt 13 1023) (by kernel_rfl) hHeld ?_ ?_ ?_ ?_
  rotate_left
  ·rintro w' ⟨s0, s1, s2⟩
   go_simp
   with_reducible rfl
  rotate_left
  ·simp only [pS]
   rfl
  refine one_ (i := 10) (N := some 29) (bt 13 2047) rfl rfl (by kernel_rfl) (by decide) (fun K hK => ?_)
  refine goes_ Try.func77 (by kernel_rfl) rfl #[.int .i64 L.end_] (by rfl) rfl rfl (by (try simp only [List.map_toArray, List.map_cons, List.map_nil]); first | done | rfl) ?_
  refine (header_calls L.end_ W1).mono ?_
  rintro e W2 ⟨vf, rfl, hr, hb⟩
  obtain ⟨Af, cf, rfl⟩ := Kd.R_slice hr
  have RF := AM hr
  have hlen := header_length L.end_
  have hAf : ∀ a0, Af = some a0 → W1.heap.size ≤ a0.block ∧ a0.block < W2.heap.size := fun a0 e0 => by subst e0; exact ⟨Kd.R_base RF.out _ rfl, Kd.R_lt RF.out _ rfl⟩
  obtain ⟨Q1, QS, QF, S2⟩ : ∃ Q1 : Nat → Prop, (∀ k, Q k → Q1 k) ∧ (∀ a0, Af = some a0 → Q1 a0.block) ∧ Sts w0 W2 Q1 [(gd, D)] := ⟨_, fun k h => .inl h, fun a0 e0 => .inr (hAf a0 e0), S.out.fenced hb⟩
  have hG_ := (hb.block g (blk_lt G.out)).trans G.out
  have hK_ : KeepP Q W W2 := fun k h => (S.out.keepP hb k h).trans (KP.out k h)
  clear F0 F1 F2 F3 F4 F5 f0 f1 f2 f3 f4 f5
  clear G KP S
  have G := AM hG_
  have KP := AM hK_
  have S := AM S2
  clear hG_ hK_ S2 hb hr
  have F0 := (blk_cell G.out 0).trans rfl
  have F1 := (blk_cell G.out 1).trans rfl
  have F2 := (blk_cell G.out 2).trans rfl
  have F3 := (blk_cell G.out 3).trans rfl
  have F4 := (blk_cell G.out 4).trans rfl
  have F5 := (blk_cell G.out 5).trans rfl
  have f0 := blk_frozen G.out 0
  have f1 := blk_frozen G.out 1
  have f2 := blk_frozen G.out 2
  have f3 := blk_frozen G.out 3
  have f4 := blk_frozen G.out 4
  have f5 := blk_frozen G.out 5
  rw [hlen]
  refine ⟨_, rfl, ?_⟩
  refine hK.out _ _ ⟨F0, F3, F2⟩ (fun hHeld => ?_)
  clear hK K
  refine norm_ (a' := ?_) ?_ ?_
  rotate_left
  ·show Act.put _ (some 29) _ = _
   simp only [pS]
   rfl
  refine one_ (i := 11) (N := some 30) (bt 13 4095) rfl rfl (by kernel_rfl) (by decide) (fun K hK => ?_)
  refine goes_ Try.func19 (by kernel_rfl) rfl #[.pointer (some ⟨gd, 0, none⟩), .int .i64 _, .slice Af 12 cf] (by rfl) rfl rfl (by (try simp only [List.map_toArray, List.map_cons, List.map_nil]); first | done | rfl) ?_
  have hcf := Kd.R_reads' RF.out
  rw [hlen] at hcf
  have hwr := S.out.write 0 rfl hok (12 * L.side) Af cf (header L.end_) (by rw [hlen]; exact hcf.2.2) (fun a0 e0 _ => .inr (QF a0 e0)) (by rw [hlen]; exact hcf.2.1) (by rw [hlen]; omega)
  rw [hlen] at hwr
  refine (Calls.args_eq (by rw [HTO.out]; first | rw [hw12] | rw [hw0]) hwr).mono ?_
  clear hwr
  rintro e W3 ⟨rfl, hs, hk⟩
  have hG_ := (hk g (QS g hQg)).trans G.out
  have hK_ : KeepP Q W W3 := fun k h => (hk k (QS k h)).trans (KP.out k h)
  clear S KP G
  clear F0 F1 F2 F3 F4 F5 f0 f1 f2 f3 f4 f5
  have S := AM (show Sts w0 W3 _ [(gd, (D.write (12 * L.side) (header L.end_)).1)] from hs)
  have KP := AM hK_
  have G := AM hG_
  clear hs hk hG_ hK_
  have F0 := (blk_cell G.out 0).trans rfl
  have F1 := (blk_cell G.out 1).trans rfl
  have F2 := (blk_cell G.out 2).trans rfl
  have F3 := (blk_cell G.out 3).trans rfl
  have F4 := (blk_cell G.out 4).trans rfl
  have F5 := (blk_cell G.out 5).trans rfl
  have f0 := blk_frozen G.out 0
  have f1 := blk_frozen G.out 1
  have f2 := blk_frozen G.out 2
  have f3 := blk_frozen G.out 3
  have f4 := blk_frozen G.out 4
  have f5 := blk_frozen G.out 5
  refine ⟨_, rfl, ?_⟩
  refine hK.out _ _ ⟨F0, F3, F2⟩ (fun hHeld => ?_)
  clear hK K
  refine norm_ (a' := ?_) ?_ ?_
  rotate_left
  ·show Act.put _ (some 30) _ = _
   simp only [pS]
   rfl
  refine pu 12 (some 4) ?_ (bt 13 8191) (by kernel_rfl) ?_ ?_ ?_ ?_
  rotate_left
  ·intro w'
   go_simp
   with_reducible rfl
  rotate_left
  ·simp only [pS]
   rfl
  refine done_ (by kernel_rfl) ?_
  by_cases h1 : (D.write (12 * L.side) (header L.end_)).2 = 0
  rotate_left
  ·go_wp2_with fail
   go_ret
   rw [HR.out, reset1, if_neg h1]
   exact ⟨rfl, H0.out.keep QS S.out KP.out⟩
  go_wp2_with fail
  refine (S.out.sync 0 rfl hok1).mono ?_
  rintro e W4 ⟨rfl, hs, hk⟩
  have hG_ := (hk g (QS g hQg)).trans G.out
  have hK_ : KeepP Q W W4 := fun k h => (hk k (QS k h)).trans (KP.out k h)
  clear S KP G
  clear F0 F1 F2 F3 F4 F5 f0 f1 f2 f3 f4 f5
  have S := AM (show Sts w0 W4 _ [(gd, (D.write (12 * L.side) (header L.end_)).1.sync.1)] from hs)
  have KP := AM hK_
  have G := AM hG_
  clear hs hk hG_ hK_
  have F0 := (blk_cell G.out 0).trans rfl
  have F1 := (blk_cell G.out 1).trans rfl
  have F2 := (blk_cell G.out 2).trans rfl
  have F3 := (blk_cell G.out 3).trans rfl
  have F4 := (blk_cell G.out 4).trans rfl
  have F5 := (blk_cell G.out 5).trans rfl
  have f0 := blk_frozen G.out 0
  have f1 := blk_frozen G.out 1
  have f2 := blk_frozen G.out 2
  have f3 := blk_frozen G.out 3
  have f4 := blk_frozen G.out 4
  have f5 := blk_frozen G.out 5
  by_cases h2 : (D.write (12 * L.side) (header L.end_)).1.sync.2 = 0
  rotate_left
  ·go_wp2_with fail
   go_ret
   rw [HR.out, reset1, if_pos h1, reset2, if_neg h2]
   exact ⟨rfl, H0.out.keep QS S.out KP.out⟩
  go_wp2_with fail
  refine start_ (n := 16) (S := fun w' => w'.cell? ⟨g, 0, none⟩ = some (.pointer (some ⟨gd, 0, none⟩)) ∧ w'.cell? ⟨g, 3, none⟩ = some (.int .i64 L.end_) ∧ w'.cell? ⟨g, 2, none⟩ = some (.int .i64 L.base)) (ds := []) #[false, false, false, false, false, false, false, false, false, false, false, false, false, false, false, false] (by kernel_rfl) rfl rfl ⟨F0, F3, F2⟩ (fun hHeld => ?_)
  have hbd : Below W4.heap.size W4 W4.drew := below_drew (Below.refl _ _)
  have hG_ : W4.drew.heap[g]? = some (.cells #[.pointer (some ⟨gd, 0, none⟩), .int .i64 L.slot, .int .i64 L.base, .int .i64 L.end_, .int .i64 L.synced, .slice Av nv cv] 108 (0, 0)) := G.out
  have hS_ := S.out.step hbd
  have hK_ : KeepP Q W W4.drew := KP.out
  clear hHeld hbd
  clear F0 F1 F2 F3 F4 F5 f0 f1 f2 f3 f4 f5
  clear G S KP
  generalize W4.drew = W5 at hG_ hS_ hK_ ⊢
  have G := AM hG_
  have S := AM hS_
  have KP := AM hK_
  clear hG_ hS_ hK_
  have F0 := (blk_cell G.out 0).trans rfl
  have F1 := (blk_cell G.out 1).trans rfl
  have F2 := (blk_cell G.out 2).trans rfl
  have F3 := (blk_cell G.out 3).trans rfl
  have F4 := (blk_cell G.out 4).trans rfl
  have F5 := (blk_cell G.out 5).trans rfl
  have f0 := blk_frozen G.out 0
  have f1 := blk_frozen G.out 1
  have f2 := blk_frozen G.out 2
  have f3 := blk_frozen G.out 3
  have f4 := blk_frozen G.out 4
  have f5 := blk_frozen G.out 5
  have hHeld : W5.cell? ⟨g, 0, none⟩ = some (.pointer (some ⟨gd, 0, none⟩)) ∧ W5.cell? ⟨g, 3, none⟩ = some (.int .i64 L.end_) ∧ W5.cell? ⟨g, 2, none⟩ = some (.int .i64 L.base) := ⟨F0, F3, F2⟩
  refine pu 0 (some 42) ?_ (bt 16 1) (by kernel_rfl) ?_ ?_ ?_ ?_
  rotate_left
  ·intro w'
   go_simp
   with_reducible rfl
  rotate_left
  ·simp only [pS]
   rfl
  refine pu 1 (some 43) ?_ (bt 16 3) (by kernel_rfl) ?_ ?_ ?_ ?_
  rotate_left
  ·intro w'
   go_simp
   with_reducible rfl
  rotate_left
  ·simp only [pS]
   rfl
  refine pu 2 (some 44) ?_ (bt 16 7) (by kernel_rfl) ?_ ?_ ?_ ?_
  rotate_left
  ·intro w'
   go_simp
   with_reducible rfl
  rotate_left
  ·simp only [pS]
   rfl
  refine tk 3 (some 45) ?_ (bt 16 15) (by kernel_rfl) hHeld ?_ ?_ ?_ ?_
  rotate_left
  ·rintro w' ⟨s0, s1, s2⟩
   go_simp
   with_reducible rfl
  rotate_left
  ·simp only [pS]
   rfl
  refine pu 4 (some 46) ?_ (bt 16 31) (by kernel_rfl) ?_ ?_ ?_ ?_
  rotate_left
  ·intro w'
   go_simp
   with_reducible rfl
  rotate_left
  ·simp only [pS]
   rfl
  refine pu 5 (some 47) ?_ (bt 16 63) (by kernel_rfl) ?_ ?_ ?_ ?_
  rotate_left
  ·intro w'
   go_simp
   with_reducible rfl
  rotate_left
  ·simp only [pS]
   rfl
  refine pu 6 (some 48) ?_ (bt 16 127) (by kernel_rfl) ?_ ?_ ?_ ?_
  rotate_left
  ·intro w'
   go_simp
   with_reducible rfl
  rotate_left
  ·simp only [pS]
   rfl
  refine tk 7 (some 49) ?_ (bt 16 255) (by kernel_rfl) hHeld ?_ ?_ ?_ ?_
  rotate_left
  ·rintro w' ⟨s0, s1, s2⟩
   go_simp
   with_reducible rfl
  rotate_left
  ·simp only [pS]
   rfl
  refine pu 8 (some 50) ?_ (bt 16 511) (by kernel_rfl) ?_ ?_ ?_ ?_
  rotate_left
  ·intro w'
   go_simp
   with_reducible rfl
  rotate_left
  ·simp only [pS]
   rfl
  refine pu 9 (some 51) ?_ (bt 16 1023) (by kernel_rfl) ?_ ?_ ?_ ?_
  rotate_left
  ·intro w'
   go_simp
   with_reducible rfl
  rotate_left
  ·simp only [pS]
   rfl
  refine pu 10 (some 52) ?_ (bt 16 2047) (by kernel_rfl) ?_ ?_ ?_ ?_
  rotate_left
  ·intro w'
   go_simp
   with_reducible rfl
  rotate_left
  ·simp only [pS]
   rfl
  refine tk 11 (some 53) ?_ (bt 16 4095) (by kernel_rfl) hHeld ?_ ?_ ?_ ?_
  rotate_left
  ·rintro w' ⟨s0, s1, s2⟩
   go_simp
   with_reducible rfl
  rotate_left
  ·simp only [pS]
   rfl
  refine pu 12 (some 54) ?_ (bt 16 8191) (by kernel_rfl) ?_ ?_ ?_ ?_
  rotate_left
  ·intro w'
   go_simp
   with_reducible rfl
  rotate_left
  ·simp only [pS]
   rfl
  refine one_ (i := 13) (N := some 55) (bt 16 16383) rfl rfl (by kernel_rfl) (by decide) (fun K hK => ?_)
  rw [HE.out]
  refine Kd.R_make_step (Kd.int .u8) (w0 := W5) W5.heap.size 5 (by rfl) (N := 55) rfl 29 (.tmp 54) (.tmp 54) rfl (L.end_ - L.base) rfl rfl Try.underlying29 (.int .u8 0) 1 info5 rfl (by decide) (by omega) 0 (ok := fun k => W5.heap.size ≤ k) (okp := fun _ => False) rfl (fun _ h => h.elim) (Nat.le_refl _) (by omega) (by simp; omega) (Below.refl _ _) (Nat.le_refl _) ?_
  intro v1 W6 hr hb _ _
  obtain ⟨Az, cz, rfl⟩ := Kd.R_slice hr
  have RZ := AM hr
  have hzl : (List.replicate (L.end_ - L.base).toNat (0 : Int)).length = (L.end_ - L.base).toNat := List.length_replicate
  have hAz : ∀ a0, Az = some a0 → W5.heap.size ≤ a0.block ∧ a0.block < W6.heap.size := fun a0 e0 => by subst e0; exact ⟨Kd.R_base RZ.out _ rfl, Kd.R_lt RZ.out _ rfl⟩
  obtain ⟨Q2, QS2, QF2, S2⟩ : ∃ Q2 : Nat → Prop, (∀ k, Q k → Q2 k) ∧ (∀ a0, Az = some a0 → Q2 a0.block) ∧ Sts w0 W6 Q2 [(gd, (D.write (12 * L.side) (header L.end_)).1.sync.1)] := ⟨_, fun k h => .inl (QS k h), fun a0 e0 => .inr (hAz a0 e0), S.out.fenced hb⟩
  have hG_ := (hb.block g (blk_lt G.out)).trans G.out
  have hK_ : KeepP Q W W6 := fun k h => (S.out.keepP hb k (QS k h)).trans (KP.out k h)
  clear F0 F1 F2 F3 F4 F5 f0 f1 f2 f3 f4 f5
  clear G KP S QS QF
  have G := AM hG_
  have KP := AM hK_
  have S := AM S2
  have QS := QS2
  clear hG_ hK_ S2 QS2 hb hr
  have F0 := (blk_cell G.out 0).trans rfl
  have F1 := (blk_cell G.out 1).trans rfl
  have F2 := (blk_cell G.out 2).trans rfl
  have F3 := (blk_cell G.out 3).trans rfl
  have F4 := (blk_cell G.out 4).trans rfl
  have F5 := (blk_cell G.out 5).trans rfl
  have f0 := blk_frozen G.out 0
  have f1 := blk_frozen G.out 1
  have f2 := blk_frozen G.out 2
  have f3 := blk_frozen G.out 3
  have f4 := blk_frozen G.out 4
  have f5 := blk_frozen G.out 5
  rw [hzl]
  refine hK.out _ _ ⟨F0, F3, F2⟩ (fun hHeld => ?_)
  clear hK K
  refine norm_ (a' := ?_) ?_ ?_
  rotate_left
  ·show Act.put _ (some 55) _ = _
   simp only [pS]
   rfl
  refine one_ (i := 14) (N := some 56) (bt 16 32767) rfl rfl (by kernel_rfl) (by decide) (fun K hK => ?_)
  refine goes_ Try.func19 (by kernel_rfl) rfl #[.pointer (some ⟨gd, 0, none⟩), .int .i64 24, .slice Az (L.end_ - L.base).toNat cz] (by rfl) rfl rfl (by (try simp only [List.map_toArray, List.map_cons, List.map_nil]); first | done | rfl) ?_
  have hcf := Kd.R_reads' RZ.out
  rw [hzl] at hcf
  have hwr := S.out.write 0 rfl hok2 24 Az cz (List.replicate (L.end_ - L.base).toNat 0) (by rw [hzl]; exact hcf.2.2) (fun a0 e0 _ => .inr (QF2 a0 e0)) (by rw [hzl]; exact hcf.2.1) (by rw [hzl]; omega)
  rw [hzl] at hwr
  refine hwr.mono ?_
  clear hwr
  rintro e W7 ⟨rfl, hs, hk⟩
  have hG_ := (hk g (QS g hQg)).trans G.out
  have hK_ : KeepP Q W W7 := fun k h => (hk k (QS k h)).trans (KP.out k h)
  clear S KP G
  clear F0 F1 F2 F3 F4 F5 f0 f1 f2 f3 f4 f5
  have S := AM (show Sts w0 W7 _ [(gd, ((D.write (12 * L.side) (header L.end_)).1.sync.1.write 24 (List.replicate (L.end_ - L.base).toNat 0)).1)] from hs)
  have KP := AM hK_
  have G := AM hG_
  clear hs hk hG_ hK_
  have F0 := (blk_cell G.out 0).trans rfl
  have F1 := (blk_cell G.out 1).trans rfl
  have F2 := (blk_cell G.out 2).trans rfl
  have F3 := (blk_cell G.out 3).trans rfl
  have F4 := (blk_cell G.out 4).trans rfl
  have F5 := (blk_cell G.out 5).trans rfl
  have f0 := blk_frozen G.out 0
  have f1 := blk_frozen G.out 1
  have f2 := blk_frozen G.out 2
  have f3 := blk_frozen G.out 3
  have f4 := blk_frozen G.out 4
  have f5 := blk_frozen G.out 5
  refine ⟨_, rfl, ?_⟩
  refine hK.out _ _ ⟨F0, F3, F2⟩ (fun hHeld => ?_)
  clear hK K
  refine norm_ (a' := ?_) ?_ ?_
  rotate_left
  ·show Act.put _ (some 56) _ = _
   simp only [pS]
   rfl
  refine pu 15 (some 6) ?_ (bt 16 65535) (by kernel_rfl) ?_ ?_ ?_ ?_
  rotate_left
  ·intro w'
   go_simp
   with_reducible rfl
  rotate_left
  ·simp only [pS]
   rfl
  refine done_ (by kernel_rfl) ?_
  by_cases h3 : ((D.write (12 * L.side) (header L.end_)).1.sync.1.write 24 (List.replicate (L.end_ - L.base).toNat 0)).2 = 0
  rotate_left
  ·go_wp2_with fail
   go_ret
   rw [HR.out, reset1, if_pos h1, reset2, if_pos h2, reset3, if_neg h3]
   exact ⟨rfl, H0.out.keep QS S.out KP.out⟩
  go_wp2_with fail
  refine (S.out.sync 0 rfl hok3).mono ?_
  rintro e W8 ⟨rfl, hs, hk⟩
  have hG_ := (hk g (QS g hQg)).trans G.out
  have hK_ : KeepP Q W W8 := fun k h => (hk k (QS k h)).trans (KP.out k h)
  clear S KP G
  clear F0 F1 F2 F3 F4 F5 f0 f1 f2 f3 f4 f5
  have S := AM (show Sts w0 W8 _ [(gd, ((D.write (12 * L.side) (header L.end_)).1.sync.1.write 24 (List.replicate (L.end_ - L.base).toNat 0)).1.sync.1)] from hs)
  have KP := AM hK_
  have G := AM hG_
  clear hs hk hG_ hK_
  have F0 := (blk_cell G.out 0).trans rfl
  have F1 := (blk_cell G.out 1).trans rfl
  have F2 := (blk_cell G.out 2).trans rfl
  have F3 := (blk_cell G.out 3).trans rfl
  have F4 := (blk_cell G.out 4).trans rfl
  have F5 := (blk_cell G.out 5).trans rfl
  have f0 := blk_frozen G.out 0
  have f1 := blk_frozen G.out 1
  have f2 := blk_frozen G.out 2
  have f3 := blk_frozen G.out 3
  have f4 := blk_frozen G.out 4
  have f5 := blk_frozen G.out 5
  by_cases h4 : ((D.write (12 * L.side) (header L.end_)).1.sync.1.write 24 (List.replicate (L.end_ - L.base).toNat 0)).1.sync.2 = 0
  rotate_left
  ·go_wp2_with fail
   go_ret
   rw [HR.out, reset1, if_pos h1, reset2, if_pos h2, reset3, if_pos h3, reset4, if_neg h4]
   exact ⟨rfl, H0.out.keep QS S.out KP.out⟩
  go_wp2_with fail
  refine start_ (n := 25) (S := fun w' => w'.cell? ⟨g, 3, none⟩ = some (.int .i64 L.end_)) (ds := []) #[false, false, false, false, false, false, false, false, false, false, false, false, false, false, false, false, false, false, false, false, false, false, false, false, false] (by kernel_rfl) rfl rfl F3 (fun hHeld => ?_)
  have hbd : Below W8.heap.size W8 W8.drew := below_drew (Below.refl _ _)
  have hG_ : W8.drew.heap[g]? = some (.cells #[.pointer (some ⟨gd, 0, none⟩), .int .i64 L.slot, .int .i64 L.base, .int .i64 L.end_, .int .i64 L.synced, .slice Av nv cv] 108 (0, 0)) := G.out
  have hS_ := S.out.step hbd
  have hK_ : KeepP Q W W8.drew := KP.out
  clear hHeld hbd
  clear F0 F1 F2 F3 F4 F5 f0 f1 f2 f3 f4 f5
  clear G S KP
  generalize W8.drew = W9 at hG_ hS_ hK_ ⊢
  have G := AM hG_
  have GB := AM hG_
  have S := AM hS_
  have KP := AM hK_
  clear hG_ hS_ hK_
  have F0 := (blk_cell G.out 0).trans rfl
  have F1 := (blk_cell G.out 1).trans rfl
  have F2 := (blk_cell G.out 2).trans rfl
  have F3 := (blk_cell G.out 3).trans rfl
  have F4 := (blk_cell G.out 4).trans rfl
  have F5 := (blk_cell G.out 5).trans rfl
  have f0 := blk_frozen G.out 0
  have f1 := blk_frozen G.out 1
  have f2 := blk_frozen G.out 2
  have f3 := blk_frozen G.out 3
  have f4 := blk_frozen G.out 4
  have f5 := blk_frozen G.out 5
  have hHeld : W9.cell? ⟨g, 3, none⟩ = some (.int .i64 L.end_) := F3
  refine pu 0 (some 68) ?_ (bt 25 1) (by kernel_rfl) ?_ ?_ ?_ ?_
  rotate_left
  ·intro w'
   go_simp
   with_reducible rfl
  rotate_left
  ·simp only [pS]
   rfl
  refine pu 1 (some 69) ?_ (bt 25 3) (by kernel_rfl) ?_ ?_ ?_ ?_
  rotate_left
  ·intro w'
   go_simp
   with_reducible rfl
  rotate_left
  ·simp only [pS]
   rfl
  refine pu 2 (some 70) ?_ (bt 25 7) (by kernel_rfl) ?_ ?_ ?_ ?_
  rotate_left
  ·intro w'
   go_simp
   with_reducible rfl
  rotate_left
  ·simp only [pS]
   rfl
  refine pu 3 (some 71) ?_ (bt 25 15) (by kernel_rfl) ?_ ?_ ?_ ?_
  rotate_left
  ·intro w'
   go_simp
   with_reducible rfl
  rotate_left
  ·simp only [pS]
   rfl
  refine pu 4 (some 72) ?_ (bt 25 31) (by kernel_rfl) ?_ ?_ ?_ ?_
  rotate_left
  ·intro w'
   go_simp
   with_reducible rfl
  rotate_left
  ·simp only [pS]
   rfl
  refine pu 5 (some 73) ?_ (bt 25 63) (by kernel_rfl) ?_ ?_ ?_ ?_
  rotate_left
  ·intro w'
   go_simp
   with_reducible rfl
  rotate_left
  ·simp only [pS]
   rfl
  refine pu 6 (some 74) ?_ (bt 25 127) (by kernel_rfl) ?_ ?_ ?_ ?_
  rotate_left
  ·intro w'
   go_simp
   with_reducible rfl
  rotate_left
  ·simp only [pS]
   rfl
  refine pu 7 (some 75) ?_ (bt 25 255) (by kernel_rfl) ?_ ?_ ?_ ?_
  rotate_left
  ·intro w'
   go_simp
   with_reducible rfl
  rotate_left
  ·simp only [pS]
   rfl
  refine tk 8 (some 76) ?_ (bt 25 511) (by kernel_rfl) hHeld ?_ ?_ ?_ ?_
  rotate_left
  ·intro w' s0
   go_simp
   with_reducible rfl
  rotate_left
  ·simp only [pS]
   rfl
  refine pu 9 (some 77) ?_ (bt 25 1023) (by kernel_rfl) ?_ ?_ ?_ ?_
  rotate_left
  ·intro w'
   go_simp
   with_reducible rfl
  rotate_left
  ·simp only [pS]
   rfl
  refine pu 10 (some 78) ?_ (bt 25 2047) (by kernel_rfl) ?_ ?_ ?_ ?_
  rotate_left
  ·intro w'
   go_simp
   with_reducible rfl
  rotate_left
  ·simp only [pS]
   rfl
  refine pu 11 (some 79) ?_ (bt 25 4095) (by kernel_rfl) ?_ ?_ ?_ ?_
  rotate_left
  ·intro w'
   go_simp
   with_reducible rfl
  rotate_left
  ·simp only [pS]
   rfl
  refine tk 12 (some 80) ?_ (bt 25 8191) (by kernel_rfl) hHeld ?_ ?_ ?_ ?_
  rotate_left
  ·intro w' s0
   go_simp
   with_reducible rfl
  rotate_left
  ·simp only [pS]
   rfl
  refine pu 13 (some 81) ?_ (bt 25 16383) (by kernel_rfl) ?_ ?_ ?_ ?_
  rotate_left
  ·intro w'
   go_simp
   with_reducible rfl
  rotate_left
  ·simp only [pS]
   rfl
  refine pu 14 (some 82) ?_ (bt 25 32767) (by kernel_rfl) ?_ ?_ ?_ ?_
  rotate_left
  ·intro w'
   go_simp
   with_reducible rfl
  rotate_left
  ·simp only [pS]
   rfl
  refine one_ (i := 15) (N := none) (bt 25 65535) rfl rfl (by kernel_rfl) (by decide) (fun K hK => ?_)
  refine skip_ (w1 := ?_) (by rfl) rfl ?_ ?_
  rotate_left
  ·go_simp
   first | rfl | exact ⟨rfl, rfl⟩
  have hG_ := blk_put (cs := #[.pointer (some ⟨gd, 0, none⟩), .int .i64 L.slot, .int .i64 L.base, .int .i64 L.end_, .int .i64 L.synced, .slice Av nv cv]) G.out 1 (.int .i64 L.side) (cs' := #[.pointer (some ⟨gd, 0, none⟩), .int .i64 L.side, .int .i64 L.base, .int .i64 L.end_, .int .i64 L.synced, .slice Av nv cv]) rfl
  rw [HSD.out] at hG_
  clear F0 F1 F2 F3 F4 F5 f0 f1 f2 f3 f4 f5
  clear G
  have G := AM hG_
  clear hG_
  have F0 := (blk_cell G.out 0).trans rfl
  have F1 := (blk_cell G.out 1).trans rfl
  have F2 := (blk_cell G.out 2).trans rfl
  have F3 := (blk_cell G.out 3).trans rfl
  have F4 := (blk_cell G.out 4).trans rfl
  have F5 := (blk_cell G.out 5).trans rfl
  have f0 := blk_frozen G.out 0
  have f1 := blk_frozen G.out 1
  have f2 := blk_frozen G.out 2
  have f3 := blk_frozen G.out 3
  have f4 := blk_frozen G.out 4
  have f5 := blk_frozen G.out 5
  refine hK.out _ _ F3 (fun hHeld => ?_)
  clear hK K
  refine pu 16 (some 83) ?_ (bt 25 131071) (by kernel_rfl) ?_ ?_ ?_ ?_
  rotate_left
  ·intro w'
   go_simp
   with_reducible rfl
  rotate_left
  ·simp only [pS]
   rfl
  refine pu 17 (some 84) ?_ (bt 25 262143) (by kernel_rfl) ?_ ?_ ?_ ?_
  rotate_left
  ·intro w'
   go_simp
   with_reducible rfl
  rotate_left
  ·simp only [pS]
   rfl
  refine one_ (i := 18) (N := none) (bt 25 524287) rfl rfl (by kernel_rfl) (by decide) (fun K hK => ?_)
  refine skip_ (w1 := ?_) (by rfl) rfl ?_ ?_
  rotate_left
  ·go_simp
   first | rfl | exact ⟨rfl, rfl⟩
  have hG_ := blk_put (cs := #[.pointer (some ⟨gd, 0, none⟩), .int .i64 _, .int .i64 L.base, .int .i64 L.end_, .int .i64 L.synced, .slice Av nv cv]) G.out 2 (.int .i64 L.end_) (cs' := #[.pointer (some ⟨gd, 0, none⟩), .int .i64 _, .int .i64 L.end_, .int .i64 L.end_, .int .i64 L.synced, .slice Av nv cv]) rfl
  clear F0 F1 F2 F3 F4 F5 f0 f1 f2 f3 f4 f5
  clear G
  have G := AM hG_
  clear hG_
  have F0 := (blk_cell G.out 0).trans rfl
  have F1 := (blk_cell G.out 1).trans rfl
  have F2 := (blk_cell G.out 2).trans rfl
  have F3 := (blk_cell G.out 3).trans rfl
  have F4 := (blk_cell G.out 4).trans rfl
  have F5 := (blk_cell G.out 5).trans rfl
  have f0 := blk_frozen G.out 0
  have f1 := blk_frozen G.out 1
  have f2 := blk_frozen G.out 2
  have f3 := blk_frozen G.out 3
  have f4 := blk_frozen G.out 4
  have f5 := blk_frozen G.out 5
  refine hK.out _ _ F3 (fun hHeld => ?_)
  clear hK K
  refine pu 19 (some 85) ?_ (bt 25 1048575) (by kernel_rfl) ?_ ?_ ?_ ?_
  rotate_left
  ·intro w'
   go_simp
   with_reducible rfl
  rotate_left
  ·simp only [pS]
   rfl
  refine pu 20 (some 86) ?_ (bt 25 2097151) (by kernel_rfl) ?_ ?_ ?_ ?_
  rotate_left
  ·intro w'
   go_simp
   with_reducible rfl
  rotate_left
  ·simp only [pS]
   rfl
  refine one_ (i := 21) (N := none) (bt 25 4194303) rfl rfl (by kernel_rfl) (by decide) (fun K hK => ?_)
  refine skip_ (w1 := ?_) (by rfl) rfl ?_ ?_
  rotate_left
  ·go_simp
   first | rfl | exact ⟨rfl, rfl⟩
  have hG_ := blk_put (cs := #[.pointer (some ⟨gd, 0, none⟩), .int .i64 _, .int .i64 L.end_, .int .i64 L.end_, .int .i64 L.synced, .slice Av nv cv]) G.out 4 (.int .i64 L.end_) (cs' := #[.pointer (some ⟨gd, 0, none⟩), .int .i64 _, .int .i64 L.end_, .int .i64 L.end_, .int .i64 L.end_, .slice Av nv cv]) rfl
  clear F0 F1 F2 F3 F4 F5 f0 f1 f2 f3 f4 f5
  clear G
  have G := AM hG_
  clear hG_
  have F0 := (blk_cell G.out 0).trans rfl
  have F1 := (blk_cell G.out 1).trans rfl
  have F2 := (blk_cell G.out 2).trans rfl
  have F3 := (blk_cell G.out 3).trans rfl
  have F4 := (blk_cell G.out 4).trans rfl
  have F5 := (blk_cell G.out 5).trans rfl
  have f0 := blk_frozen G.out 0
  have f1 := blk_frozen G.out 1
  have f2 := blk_frozen G.out 2
  have f3 := blk_frozen G.out 3
  have f4 := blk_frozen G.out 4
  have f5 := blk_frozen G.out 5
  refine hK.out _ _ F3 (fun hHeld => ?_)
  clear hK K
  refine pu 22 (some 87) ?_ (bt 25 8388607) (by kernel_rfl) ?_ ?_ ?_ ?_
  rotate_left
  ·intro w'
   go_simp
   with_reducible rfl
  rotate_left
  ·simp only [pS]
   rfl
  refine pu 23 (some 88) ?_ (bt 25 16777215) (by kernel_rfl) ?_ ?_ ?_ ?_
  rotate_left
  ·intro w'
   go_simp
   with_reducible rfl
  rotate_left
  ·simp only [pS]
   rfl
  refine one_ (i := 24) (N := none) (bt 25 33554431) rfl rfl (by kernel_rfl) (by decide) (fun K hK => ?_)
  refine skip_ (w1 := ?_) (by rfl) rfl ?_ ?_
  rotate_left
  ·go_simp
   first | rfl | exact ⟨rfl, rfl⟩
  have hG_ := blk_put (cs := #[.pointer (some ⟨gd, 0, none⟩), .int .i64 _, .int .i64 L.end_, .int .i64 L.end_, .int .i64 L.end_, .slice Av nv cv]) G.out 5 (.slice none 0 0) (cs' := #[.pointer (some ⟨gd, 0, none⟩), .int .i64 _, .int .i64 L.end_, .int .i64 L.end_, .int .i64 L.end_, .slice none 0 0]) rfl
  clear F0 F1 F2 F3 F4 F5 f0 f1 f2 f3 f4 f5
  clear G
  have G := AM hG_
  clear hG_
  have F0 := (blk_cell G.out 0).trans rfl
  have F1 := (blk_cell G.out 1).trans rfl
  have F2 := (blk_cell G.out 2).trans rfl
  have F3 := (blk_cell G.out 3).trans rfl
  have F4 := (blk_cell G.out 4).trans rfl
  have F5 := (blk_cell G.out 5).trans rfl
  have f0 := blk_frozen G.out 0
  have f1 := blk_frozen G.out 1
  have f2 := blk_frozen G.out 2
  have f3 := blk_frozen G.out 3
  have f4 := blk_frozen G.out 4
  have f5 := blk_frozen G.out 5
  refine hK.out _ _ F3 (fun hHeld => ?_)
  clear hK K
  refine done_ (by kernel_rfl) ?_
  go_wp2_with fail
  go_ret
  rw [HR.out, reset1, if_pos h1, reset2, if_pos h2, reset3, if_pos h3, reset4, if_pos h4]
  have hf := H0.out.fresh QS S.out KP.out _ _ _ _ GB.out L.side
  rw [HSD.out] at hf ⊢
  exact ⟨rfl, hf⟩
end Go.Proofs.Ytbbokpkpdnppjaa
