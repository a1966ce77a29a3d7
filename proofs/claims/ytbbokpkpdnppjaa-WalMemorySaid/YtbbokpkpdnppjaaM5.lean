/- The walk of WalMemory. -/
import Derived.Test.YtbbokpkpdnppjaaM4
namespace Go.Proofs.Ytbbokpkpdnppjaa
open Go.RowKit Go.Proofs.YtbbokpkpdnppjaaW.PrintWords Go.Proofs.YtbbokpkpdnppjaaW.PrintLast Go.Proofs.YtbbokpkpdnppjaaW.PrintMore
set_option linter.unusedVariables false
set_option linter.unusedSimpArgs false

section
variable {w0 W W1 : World} {Q rok : Nat → Prop} {g gd : Nat} {L : Lg} {D D' : Dk}
/-- A block of Q's, none of the log's, has been written. -/
theorem LogS.poke (h : LogS w0 W Q rok g gd L D) (b : Nat) (hb : Q b) (hw : w0.heap.size ≤ b) (hg : b ≠ g) (hr : ∀ k, rok k → k ≠ b) (j : Nat) (u : Value) : LogS w0 (W.setCell ⟨b, j, none⟩ u) Q rok g gd L D := by
  obtain ⟨hs, v, h1, h2, h3, h4, h5⟩ := h
  exact ⟨hs.poke b hb hw j u, v, (Below.heap_setCell W ⟨b, j, none⟩ u g (Ne.symm hg)).trans h1, Kd.N_far h2 (p := ⟨b, j, none⟩) hr u, h3, h4, h5⟩
theorem LogS.bound (h : LogS w0 W Q rok g gd L D) : LogS w0 W Q (fun k => rok k ∧ k < W.heap.size) g gd L D := by
  obtain ⟨hs, v, h1, h2, h3, h4, h5⟩ := h
  exact ⟨hs, v, h1, Kd.N_bound h2, fun k hk => h3 k hk.1, h4, h5⟩
/-- The disk alone has been turned. -/
theorem LogS.disk (h : LogS w0 W Q rok g gd L D) (hs : Sts w0 W1 Q [(gd, D')]) (hk : KeepP Q W W1) : LogS w0 W1 Q rok g gd L D' := by
  obtain ⟨_, v, h1, h2, h3, h4, h5⟩ := h
  exact ⟨hs, v, (hk g h4).trans h1, Kd.N_step h2 (fun k hr _ => hk k (h3 k hr).1), h3, h4, h5⟩
/-- A list of one record, in memory. -/
theorem one_rec {w : World} {base : Nat} {ok : Nat → Prop} {v : Value} {r : G.S73} (h : Kd.R G.k73 73 w base ok v [r]) (h0 : 0 < r.f1.length) : ∃ (ba ca b1 c1 : Nat) (cs : Array Value), v = .slice (some ⟨ba, 0, none⟩) 1 ca ∧ w.cell? ⟨ba, 1, none⟩ = some (.slice (some ⟨b1, 0, none⟩) r.f1.length c1) ∧ r.f1.length ≤ c1 ∧ Kd.C (Kd.int .u8) w (some ⟨b1, 0, none⟩) r.f1.length r.f1 ∧
    w.heap[b1]? = some (.cells cs 5 (0, 0)) ∧ ok ba ∧ ok b1 ∧ ba ≠ b1 ∧ ba < w.heap.size ∧ b1 < w.heap.size ∧ base ≤ ba ∧ base ≤ b1 := by
  obtain ⟨ba, ca, rfl, hb, hl, cs0, hcs0⟩ := Kd.R_form h (by simp)
  obtain ⟨c, hcl, hM, hcc⟩ := Kd.R_get h r 0 (by omega) (by simp)
  obtain ⟨v1, rfl, hR⟩ := G.k73_openM hM
  have hR' : Kd.R (Kd.int .u8) 5 w base (fun k => ok k ∧ some k ≠ (Value.slice (some ⟨ba, 0, none⟩) 1 ca).ownBlock) v1 r.f1 := hR
  obtain ⟨b1, c1, rfl, hb1, hl1, cs, hcs⟩ := Kd.R_form hR' h0
  have ho := hR'.1 b1 rfl
  refine ⟨ba, ca, b1, c1, cs, rfl, hcc 1 _ rfl, (Kd.R_reads' hR').2.1, (Kd.R_reads' hR').2.2, hcs, h.1 ba rfl, ho.1, fun e => ho.2 (by rw [e]; rfl), hl, hl1, hb, hb1⟩
end
theorem u8_bump (l : List Int) (h : 0 < l.length) : rd l 0 = l[0] := by
  have := rd_get l 0 h
  simpa using this

set_option maxRecDepth 100000 in
set_option maxHeartbeats 8000000 in
theorem WalMemory_calls (A : Option Addr) (c : Nat) (data : List Int) (w : World) (hC : Kd.C (Kd.int .u8) w A data.length data) (hc : data.length ≤ c) :
    Calls Try.prog 12 #[.slice A data.length c] w fun e w' => e = .returned (.bool true) ∧ Below w.heap.size w w' := by
  have HC := Aside0.mk hC
  clear hC
  go_enter Try.func12, Try.ntmps12
  go_wp2_with fail
  refine (awake15 w).mono ?_
  rintro e w1 ⟨rfl, hb⟩
  have HB1 := Aside0.mk hb
  clear hb
  by_cases h1 : data.length < 1
  · have ht : (data.length : Int) < 1 := by omega
    have ht2 : ¬ ((data.length : Int) > 40) := by omega
    go_wp2_with fail
    refine (awake15 w1).mono ?_
    rintro e w2 ⟨rfl, hb⟩
    have HB2 := Aside0.mk (below_step HB1.out hb)
    clear hb
    go_wp2_with fail
    go_ret
    exact ⟨rfl, HB2.out⟩
  have ht : ¬ ((data.length : Int) < 1) := by omega
  by_cases h40 : data.length > 40
  · have ht2 : ((data.length : Int) > 40) := by omega
    go_wp2_with fail
    refine (awake15 w1).mono ?_
    rintro e w2 ⟨rfl, hb⟩
    have HB2 := Aside0.mk (below_step HB1.out hb)
    clear hb
    go_wp2_with fail
    go_ret
    exact ⟨rfl, HB2.out⟩
  have ht2 : ¬ ((data.length : Int) > 40) := by omega
  go_wp2_with fail
  refine ((Sts.none_ HB1.out (P := fun _ => False) (fun k hk => hk.elim)).new 200 (by omega) (by omega)).mono ?_
  rintro e w2 ⟨gd, rfl, hs, _⟩
  have S2 := Aside0.mk hs
  clear hs
  go_wp2_with fail
  refine (open0_calls 200 (by omega) (by omega) S2.out).mono ?_
  rintro e w3 ⟨g, rfl, Q3, _, hl, _, _⟩
  have L3 := Aside0.mk hl
  clear hl
  go_wp2_with (first
      | ((with_reducible refine gate_dst (N := 39) rfl ?_); refine Kd.R_lit (Kd.int .u8) (w0 := w3) w3.heap.size 5 ?hg (N := 39) ?hd (xs := ([] : List Int)) (inner := []) (ok := fun k => w3.heap.size ≤ k) (okp := fun k => w3.heap.size ≤ k) ?hr ?hp (fun _ hk => hk) (Nat.le_refl _) (Below.refl _ _) (Nat.le_refl _) (by simp) ?_; (case hd => rfl); (case hg => rfl); (case hr => first | (go_simp; done) | (go_simp; rfl)); (case hp => exact (Reps.none _ _)); intro v1 W1 ho1 hb1 hg1 hnew1; have HO1 := Aside0.mk ho1; have HX1 := Aside0.mk hb1; clear ho1 hb1 hg1 hnew1)
      | ((with_reducible refine gate_builtin (b := .append) (xs := #[.tmp 39, .tmp 40]) rfl ?_); at_builtin; refine Kd.R_append_rows (Kd.int .u8) (w0 := w3) w3.heap.size rfl (.tmp 39) (.tmp 40) 29 5 (.int .u8 0) 1 rfl Try.underlying29 info5 rfl (by decide) (by omega) v1 [] data _ _ _ (fun k => w3.heap.size ≤ k) (fun _ => False) rfl rfl HO1.out (Kd.C_below HC.out (below_step L3.out.bel HX1.out)) (fun _ _ h => h) (fun _ h => h.elim) (fun k hk => Nat.le_trans HX1.out.size hk) HX1.out HX1.out.size (by simp; omega) ?_; intro v2 W2 ho2 hb2 hg2 hat2; have HO2 := Aside0.mk ho2; have HX2 := Aside0.mk hb2; clear ho2 hb2 hg2 hat2))
  have hO := HO2.out
  rw [List.nil_append] at hO
  obtain ⟨bx, cx, rfl, hbx, hbl, cs, hcs⟩ := Kd.R_form hO (by omega)
  have L4 := Aside0.mk (L3.out.fenced HX2.out)
  have hww := L3.out.bel.size
  have hCx := (Kd.R_reads' hO).2.2
  have hcx := (Kd.R_reads' hO).2.1
  have HCX := Aside0.mk hCx
  have HCS := Aside0.mk hcs
  have hQx : (fun k => Q3 k ∨ (w3.heap.size ≤ k ∧ k < W2.heap.size)) bx := .inr ⟨hbx, hbl⟩
  have hgx : bx ≠ g := by
    obtain ⟨_, v, hg, _⟩ := L3.out
    have := blk_lt hg
    omega
  have OK0 := Aside0.mk (Dk.fresh_ok 200 (by omega) (by omega))
  have C1 := Aside0.mk ((fresh_calm 200).write 24 (frame 0 data) (by rw [frame_length]; simp [Dk.fresh]; omega))
  have hE1 : appendL ⟨-1, 0, 0, 0, []⟩ (Dk.fresh 200) 24 data = (⟨-1, 0, wrap64 (0 + (16 + (data.length : Int))), 0, [⟨0, data⟩]⟩, (Dk.fresh 200).burnt.wrote ((24 : Nat) : Int) (frame 0 data), 0, 0) := by
    rw [appendL, if_pos (by simp [Dk.fresh]; omega), C1.out.1, if_pos rfl]
    rfl
  have hap := Append_calls L4.out OK0.out 24 (by show wrap64 (wrap64 (24 + 0) - 0) = ((24 : Nat) : Int); unfold wrap64; omega) (by simp [Dk.fresh]) (some ⟨bx, 0, none⟩) cx data hCx (fun a0 e0 _ => .inr (by cases e0; exact hQx)) hcx (by omega) (by decide)
  rw [hE1] at hap
  refine hap.mono ?_
  clear hap hCx hcs hO HO2 HO1
  rintro e w5 ⟨rfl, Q5, rok5, hQ5, hrok5, hl, hk5⟩
  have OK1 := Aside0.mk (show ((Dk.fresh 200).burnt.wrote ((24 : Nat) : Int) (frame 0 data)).Ok from by have := OK0.out.write (by decide) ((24 : Nat) : Int) (frame 0 data); rwa [C1.out.1] at this)
  generalize hD1 : (Dk.fresh 200).burnt.wrote ((24 : Nat) : Int) (frame 0 data) = D1 at hl OK1 C1
  generalize hen : wrap64 (0 + (16 + (data.length : Int))) = en at hl
  have L5 := Aside0.mk hl
  have hk5' : w5.heap[bx]? = W2.heap[bx]? := hk5 bx ⟨hQx, fun h => h, hgx⟩
  have HCX5 := Aside0.mk (C_int_step HCX.out (fun a0 e0 _ => by cases e0; exact hk5'))
  have hcs5 := hk5'.trans HCS.out
  have hr5 : ∀ k, rok5 k → k ≠ bx := fun k hk e => by
    rcases hrok5 k hk with h | h
    · exact h
    · omega
  have hQ5x := hQ5 bx hQx
  clear hl hk5 hk5'
  obtain ⟨ad, e, hx0⟩ := Kd.at_int HCX5.out 0 (by omega) (by omega)
  injection e with e
  subst e
  replace hx0 : w5.cell? ⟨bx, 0, none⟩ = some (.int .u8 (rd data 0)) := hx0
  have hf0 := blk_frozen hcs5 0
  clear hcs5
  go_wp2_with fail
  have hl6 := L5.out.poke bx hQ5x (by omega) hgx hr5 0 (.int .u8 ((rd data 0 + 1) % 256))
  generalize w5.setCell ⟨bx, 0, none⟩ (.int .u8 ((rd data 0 + 1) % 256)) = w6 at hl6 ⊢
  have L6 := Aside0.mk hl6.bound
  clear hl6 hx0 hf0 HCX5
  refine (Records_calls L6.out (by simp) (by simp; omega)).mono ?_
  rintro e w7 ⟨v7, rfl, hr, hb⟩
  obtain ⟨ba, ca, b1, c1, cs1, rfl, y1, hc1, hC1, hcs1, oba, ob1, hne, lba, lb1, _, _⟩ := one_rec hr (show 0 < data.length by omega)
  replace y1 : w7.cell? ⟨ba, 1, none⟩ = some (.slice (some ⟨b1, 0, none⟩) data.length c1) := y1
  replace hC1 : Kd.C (Kd.int .u8) w7 (some ⟨b1, 0, none⟩) data.length data := hC1
  replace hc1 : data.length ≤ c1 := hc1
  have L7 := Aside0.mk (L6.out.fenced hb)
  have HC1 := Aside0.mk hC1
  have HCS1 := Aside0.mk hcs1
  have hw6 := L6.out.bel.size
  have hbs := hb.size
  have hg6 : g < w6.heap.size := by
    obtain ⟨_, v, hg, _⟩ := L6.out
    exact blk_lt hg
  clear hr hb hC1 hcs1
  go_wp2_with fail
  refine (SameG_calls (some ⟨b1, 0, none⟩) c1 data A c data w7 HC1.out hc1 (Kd.C_below HC.out L7.out.bel) hc).mono ?_
  rintro e w8 ⟨rfl, hb⟩
  rw [decide_eq_true rfl]
  have L8 := Aside0.mk (L7.out.step hb)
  have HC8 := Aside0.mk (Kd.C_below HC1.out hb)
  have hcs8 := (hb.block b1 lb1).trans HCS1.out
  have y8 := (hb.cell (p := ⟨ba, 1, none⟩) (World.block_lt_of_cell? _ _ y1)).trans y1
  have hQ8 : (fun k => Q5 k ∨ (w6.heap.size ≤ k ∧ k < w7.heap.size)) b1 := .inr ⟨ob1, lb1⟩
  clear y1 hb
  obtain ⟨ad, e, z0⟩ := Kd.at_int HC8.out 0 (by omega) (by omega)
  injection e with e
  subst e
  replace z0 : w8.cell? ⟨b1, 0, none⟩ = some (.int .u8 (rd data 0)) := z0
  have hf0 := blk_frozen hcs8 0
  clear hcs8
  go_wp2_with fail
  have hl9 := L8.out.poke b1 hQ8 (by omega) (by omega) (fun k hk e => by have := hk.2; omega) 0 (.int .u8 ((rd data 0 + 1) % 256))
  generalize w8.setCell ⟨b1, 0, none⟩ (.int .u8 ((rd data 0 + 1) % 256)) = w9 at hl9 ⊢
  have L9 := Aside0.mk hl9.bound
  clear hl9 z0 hf0 y8
  refine (Records_calls L9.out (by simp) (by simp; omega)).mono ?_
  rintro e w10 ⟨v10, rfl, hr, hb⟩
  obtain ⟨bb, cb, b2, c2, cs2, rfl, y1, hc2, hC2, hcs2, obb, ob2, hne2, lbb, lb2, _, _⟩ := one_rec hr (show 0 < data.length by omega)
  replace y1 : w10.cell? ⟨bb, 1, none⟩ = some (.slice (some ⟨b2, 0, none⟩) data.length c2) := y1
  replace hC2 : Kd.C (Kd.int .u8) w10 (some ⟨b2, 0, none⟩) data.length data := hC2
  replace hc2 : data.length ≤ c2 := hc2
  have L10 := Aside0.mk (L9.out.fenced hb)
  have hQbb := (show (fun k => (Q5 k ∨ (w6.heap.size ≤ k ∧ k < w7.heap.size)) ∨ (w9.heap.size ≤ k ∧ k < w10.heap.size)) bb from .inr ⟨obb, lbb⟩)
  have hQb2 := (show (fun k => (Q5 k ∨ (w6.heap.size ≤ k ∧ k < w7.heap.size)) ∨ (w9.heap.size ≤ k ∧ k < w10.heap.size)) b2 from .inr ⟨ob2, lb2⟩)
  have HC10 := Aside0.mk hC2
  have Y10 := Aside0.mk y1
  clear hr hb hC2 hcs2 y1
  go_wp2_with fail
  refine (L10.out.1.failAfter 0 rfl 0).mono ?_
  rintro e w11 ⟨rfl, hs, hk⟩
  have L11 := Aside0.mk (L10.out.disk (show Sts w w11 _ [(gd, D1.after 0)] from hs) hk)
  have HC11 := Aside0.mk (C_int_step HC10.out (fun a0 e0 _ => by cases e0; exact hk b2 hQb2))
  have Y11 := Aside0.mk (show w11.cell? ⟨bb, 1, none⟩ = _ from (by simp only [World.cell?, hk bb hQbb] : w11.cell? ⟨bb, 1, none⟩ = w10.cell? ⟨bb, 1, none⟩).trans Y10.out)
  have OK2 := Aside0.mk (OK1.out.after 0 (by decide))
  clear hs hk
  go_wp2_with fail
  have hsy : (D1.after 0).sync = ({ D1.after 0 with failed := true }, 11) := by
    unfold Dk.sync
    rw [if_pos (.inr rfl)]
  have hls := LogSync_calls L11.out OK2.out
  rw [hsy] at hls
  refine hls.mono ?_
  clear hls
  rintro e w12 ⟨rfl, Q12, rok12, _, _, hl, hk⟩
  have hsl : syncL ⟨-1, 0, en, 0, [⟨0, data⟩]⟩ (D1.after 0) = ⟨-1, 0, en, 0, [⟨0, data⟩]⟩ := by rw [syncL, hsy, if_neg (show ¬ ((11 : Int) = 0) from by decide)]
  rw [hsl] at hl
  have L12 := Aside0.mk hl
  have hnr : ∀ k, w9.heap.size ≤ k → ¬ ((((rok5 k ∧ k < w6.heap.size)) ∧ k < w9.heap.size)) := fun k hk h => by have := h.2; omega
  have hg9 : g < w9.heap.size := by
    obtain ⟨_, v, hg, _⟩ := L9.out
    exact blk_lt hg
  have HC12 := Aside0.mk (C_int_step HC11.out (fun a0 e0 _ => by cases e0; exact hk b2 ⟨hQb2, hnr b2 ob2, by omega⟩))
  have y12 := (show w12.cell? ⟨bb, 1, none⟩ = _ from (by simp only [World.cell?, hk bb ⟨hQbb, hnr bb obb, by omega⟩] : w12.cell? ⟨bb, 1, none⟩ = w11.cell? ⟨bb, 1, none⟩).trans Y11.out)
  clear hl hk
  go_wp2_with fail
  refine (openFailed_calls L12.out.1 rfl).mono ?_
  rintro e w' ⟨rfl, rfl⟩
  go_wp2_with fail
  refine (SameG_calls (some ⟨b2, 0, none⟩) c2 data A c data w12 HC12.out hc2 (Kd.C_below HC.out L12.out.bel) hc).mono ?_
  rintro e w13 ⟨rfl, hb⟩
  rw [decide_eq_true rfl]
  have L13 := Aside0.mk (L12.out.step hb)
  clear hb
  go_wp2_with fail
  refine (Synced_calls L13.out).mono ?_
  rintro e w' ⟨rfl, rfl⟩
  go_wp2_with fail
  go_ret
  exact ⟨rfl, L13.out.bel⟩
end Go.Proofs.Ytbbokpkpdnppjaa
