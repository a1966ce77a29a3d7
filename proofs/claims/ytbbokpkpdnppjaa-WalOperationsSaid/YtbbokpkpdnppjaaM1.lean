/- The log: appending. -/
import Derived.Test.YtbbokpkpdnppjaaU0
import Derived.Test.YtbbokpkpdnppjaaUA
import Derived.Test.YtbbokpkpdnppjaaL9
namespace Go.Proofs.Ytbbokpkpdnppjaa
open Go.RowKit Go.Proofs.YtbbokpkpdnppjaaW.PrintWords Go.Proofs.YtbbokpkpdnppjaaW.PrintLast Go.Proofs.YtbbokpkpdnppjaaW.PrintMore
set_option linter.unusedVariables false
set_option linter.unusedSimpArgs false
def appendL (L : Lg) (D : Dk) (a : Nat) (data : List Int) : Lg × Dk × Int × Int :=
  if a + 16 + data.length ≤ D.dur.length then
    (if (D.write (a : Int) (frame L.end_ data)).2 = 0 then (⟨L.slot, L.base, wrap64 (L.end_ + (16 + (data.length : Int))), L.synced, L.recs ++ [⟨L.end_, data⟩]⟩, (D.write (a : Int) (frame L.end_ data)).1, L.end_, 0)
     else (L, (D.write (a : Int) (frame L.end_ data)).1, 0, (D.write (a : Int) (frame L.end_ data)).2))
  else (L, D, 0, 6)
def LogPost (w0 W : World) (Q rok : Nat → Prop) (g gd : Nat) (L : Lg) (D : Dk) (W' : World) : Prop := ∃ Q' rok', (∀ k, Q k → Q' k) ∧ (∀ k, rok' k → rok k ∨ W.heap.size ≤ k) ∧ LogS w0 W' Q' rok' g gd L D ∧ KeepP (fun k => Q k ∧ ¬ rok k ∧ k ≠ g) W W'
theorem LogS.step {w0 W W1 : World} {Q rok : Nat → Prop} {g gd : Nat} {L : Lg} {D : Dk} (h : LogS w0 W Q rok g gd L D) (hb : Below W.heap.size W W1) : LogS w0 W1 Q rok g gd L D := by
  obtain ⟨hs, v, h1, h2, h3, h4, h5⟩ := h
  exact ⟨hs.step hb, v, (hb.block g (blk_lt h1)).trans h1, Kd.N_below h2 hb, h3, h4, h5⟩
theorem C_int_step {k : IntKind} {w w1 : World} {A : Option Addr} {n : Nat} {l : List Int} (h : Kd.C (Kd.int k) w A n l) (hm : ∀ a0, A = some a0 → 0 < n → w1.heap[a0.block]? = w.heap[a0.block]?) : Kd.C (Kd.int k) w1 A n l := by
  obtain ⟨h1, h2, h3⟩ := h
  refine ⟨h1, h2, fun h0 => ?_⟩
  obtain ⟨ad, e, hh⟩ := h3 h0
  refine ⟨ad, e, fun j p hj => ?_⟩
  obtain ⟨cs, hl, hk, hc⟩ := hh j p hj
  refine ⟨cs, hl, hk, fun i u hu => ?_⟩
  rw [← hc i u hu]
  have := hm ad e h0
  have hb : ∀ x, (ad.add x).block = ad.block := fun x => by unfold Addr.add; split <;> rfl
  unfold World.cell?
  rw [hb, this]
theorem Sts.grownMore {w0 W W1 : World} {P : Nat → Prop} {L : List (Nat × Dk)} {row : Option Nat} (h : Sts w0 W P L) (hg : W.grownBy W1 row) (hr : ∀ b, row = some b → P b ∧ w0.heap.size ≤ b) : Sts w0 W1 (fun k => P k ∨ (W.heap.size ≤ k ∧ k < W1.heap.size)) L := by
  obtain ⟨xs, h⟩ := h
  refine ⟨xs, h.map, fun i x hx => ?_, h.two, h.bel.grown hg h.bel.size (fun k e => (hr k e).2), fun k hk => hk.elim (fun hk => Nat.lt_of_lt_of_le (h.lt k hk) hg.size) (fun hk => hk.2)⟩
  obtain ⟨⟨v0, v1, h1⟩, h2, h3⟩ := h.one i x hx
  refine ⟨⟨v0, v1, h1.step (fun k hk hlt => hg.block k hlt (fun e => ?_))⟩, fun k hk => ⟨(h2 k hk).1, fun hp => ?_⟩, fun k hk hp => ?_⟩
  · have hb := (hr k e.symm).1
    exact hk.elim (fun hp => (h2 k hp).2 hb) (fun hs => h3 k hs hb)
  · rcases hp with hp | hp
    · exact (h2 k hk).2 hp
    · have := h1.plt k hk; omega
  · rcases hp with hp | hp
    · exact h3 k hk hp
    · have := h1.slt k hk; omega
set_option maxRecDepth 100000 in
set_option maxHeartbeats 8000000 in
theorem Append_calls {w0 W : World} {Q rok : Nat → Prop} {g gd : Nat} {L : Lg} {D : Dk} (h : LogS w0 W Q rok g gd L D) (hok : D.Ok) (a : Nat) (ha : wrap64 (wrap64 (24 + L.end_) - L.base) = (a : Int)) (ha2 : a ≤ D.dur.length) (A : Option Addr) (c : Nat) (data : List Int) (hC : Kd.C (Kd.int .u8) W A data.length data) (hA : ∀ a0, A = some a0 → 0 < data.length → a0.block < w0.heap.size ∨ Q a0.block) (hc : data.length ≤ c) (hd : data.length ≤ 4194304) (hrl : L.recs.length ≤ 4194304) :
    Calls Try.prog 43 #[.pointer (some ⟨g, 0, none⟩), .slice A data.length c] W fun e W' => e = .returned (.tuple #[.int .i64 (appendL L D a data).2.2.1, .int .i64 (appendL L D a data).2.2.2]) ∧ LogPost w0 W Q rok g gd (appendL L D a data).1 (appendL L D a data).2.1 W' := by
  obtain ⟨hs, v, hg, hN, hro, hQg, hwg⟩ := h
  obtain ⟨Av, cv, rfl⟩ := Kd.N_slice hN
  generalize hnv : L.recs.length = nv at hg hN hrl
  have S0 := AM hs
  have G0 := AM hg
  have N0 := AM hN
  have HRO := AM hro
  have HC := AM hC
  have hbig := hok.big
  clear hs hg hN hro hC
  have F0 := (blk_cell G0.out 0).trans rfl
  have F1 := (blk_cell G0.out 1).trans rfl
  have F2 := (blk_cell G0.out 2).trans rfl
  have F3 := (blk_cell G0.out 3).trans rfl
  have F4 := (blk_cell G0.out 4).trans rfl
  have F5 := (blk_cell G0.out 5).trans rfl
  have f0 := blk_frozen G0.out 0
  have f1 := blk_frozen G0.out 1
  have f2 := blk_frozen G0.out 2
  have f3 := blk_frozen G0.out 3
  have f4 := blk_frozen G0.out 4
  have f5 := blk_frozen G0.out 5
  go_enter Try.func43, Try.ntmps43
  go_wp2_with fail
  refine (S0.out.size 0 rfl).mono ?_
  rintro e W' ⟨rfl, rfl⟩
  go_wp2_with fail
  refine (at_calls g _ _ _ _ L.base L.end_ W G0.out).mono ?_
  rintro e Wb ⟨rfl, hb⟩
  rw [ha]
  have Sb := AM (S0.out.step hb)
  have Bb := AM hb
  have Gb := AM ((hb.block g (blk_lt G0.out)).trans G0.out)
  clear F0 F1 F2 F3 F4 F5 f0 f1 f2 f3 f4 f5
  have F0 := (blk_cell Gb.out 0).trans rfl
  have F1 := (blk_cell Gb.out 1).trans rfl
  have F2 := (blk_cell Gb.out 2).trans rfl
  have F3 := (blk_cell Gb.out 3).trans rfl
  have F4 := (blk_cell Gb.out 4).trans rfl
  have F5 := (blk_cell Gb.out 5).trans rfl
  have f0 := blk_frozen Gb.out 0
  have f1 := blk_frozen Gb.out 1
  have f2 := blk_frozen Gb.out 2
  have f3 := blk_frozen Gb.out 3
  have f4 := blk_frozen Gb.out 4
  have f5 := blk_frozen Gb.out 5
  clear hb
  by_cases hfit : D.dur.length < a + 16 + data.length
  · have hE : appendL L D a data = (L, D, 0, 6) := by rw [appendL, if_neg (by omega)]
    have ht : (data.length : Int) > (D.dur.length : Int) - (a : Int) - 16 := by omega
    go_wp2_with fail
    go_ret2
    exact ⟨by rw [hE]; rfl, Q, rok, fun _ h => h, fun _ h => .inl h, by rw [hE]; exact ⟨Sb.out, _, Gb.out, Kd.N_below N0.out Bb.out, HRO.out, hQg, hwg⟩, fun k hk => Bb.out.block k (S0.out.lt k hk.1)⟩
  have ht : ¬ ((data.length : Int) > (D.dur.length : Int) - (a : Int) - 16) := by omega
  go_wp2_with fail
  refine start_ (n := 14) (S := fun w' => w'.cell? ⟨g, 0, none⟩ = some (.pointer (some ⟨gd, 0, none⟩)) ∧ w'.cell? ⟨g, 3, none⟩ = some (.int .i64 L.end_)) (ds := []) #[false, false, false, false, false, false, false, false, false, false, false, false, false, false] (by kernel_rfl) rfl rfl ⟨F0, F3⟩ (fun hHeld => ?_)
  have hbd : Below Wb.heap.size Wb Wb.drew := below_drew (Below.refl _ _)
  have hGc : Wb.drew.heap[g]? = some (.cells #[.pointer (some ⟨gd, 0, none⟩), .int .i64 L.slot, .int .i64 L.base, .int .i64 L.end_, .int .i64 L.synced, .slice Av nv cv] 108 (0, 0)) := Gb.out
  have Sc := AM (Sb.out.step hbd)
  have Bc := AM (below_step Bb.out hbd)
  clear hHeld hbd
  clear F0 F1 F2 F3 F4 F5 f0 f1 f2 f3 f4 f5
  generalize Wb.drew = Wc at hGc Sc Bc ⊢
  have Gc := AM hGc
  clear hGc
  have F0 := (blk_cell Gc.out 0).trans rfl
  have F1 := (blk_cell Gc.out 1).trans rfl
  have F2 := (blk_cell Gc.out 2).trans rfl
  have F3 := (blk_cell Gc.out 3).trans rfl
  have F4 := (blk_cell Gc.out 4).trans rfl
  have F5 := (blk_cell Gc.out 5).trans rfl
  have f0 := blk_frozen Gc.out 0
  have f1 := blk_frozen Gc.out 1
  have f2 := blk_frozen Gc.out 2
  have f3 := blk_frozen Gc.out 3
  have f4 := blk_frozen Gc.out 4
  have f5 := blk_frozen Gc.out 5
  have hHeld : Wc.cell? ⟨g, 0, none⟩ = some (.pointer (some ⟨gd, 0, none⟩)) ∧ Wc.cell? ⟨g, 3, none⟩ = some (.int .i64 L.end_) := ⟨F0, F3⟩
  refine pu 0 (some 20) ?_ (bt 14 1) (by kernel_rfl) ?_ ?_ ?_ ?_
  rotate_left
  · intro w'
    go_simp
    with_reducible rfl
  rotate_left
  · simp only [pS]
    rfl
  refine pu 1 (some 21) ?_ (bt 14 3) (by kernel_rfl) ?_ ?_ ?_ ?_
  rotate_left
  · intro w'
    go_simp
    with_reducible rfl
  rotate_left
  · simp only [pS]
    rfl
  refine pu 2 (some 22) ?_ (bt 14 7) (by kernel_rfl) ?_ ?_ ?_ ?_
  rotate_left
  · intro w'
    go_simp
    with_reducible rfl
  rotate_left
  · simp only [pS]
    rfl
  refine tk 3 (some 23) ?_ (bt 14 15) (by kernel_rfl) hHeld ?_ ?_ ?_ ?_
  rotate_left
  · rintro w' ⟨s0, s1⟩
    go_simp
    with_reducible rfl
  rotate_left
  · simp only [pS]
    rfl
  refine pu 4 (some 24) ?_ (bt 14 31) (by kernel_rfl) ?_ ?_ ?_ ?_
  rotate_left
  · intro w'
    go_simp
    with_reducible rfl
  rotate_left
  · simp only [pS]
    rfl
  refine pu 6 (some 26) ?_ (bt 14 95) (by kernel_rfl) ?_ ?_ ?_ ?_
  rotate_left
  · intro w'
    go_simp
    with_reducible rfl
  rotate_left
  · simp only [pS]
    rfl
  refine pu 7 (some 27) ?_ (bt 14 223) (by kernel_rfl) ?_ ?_ ?_ ?_
  rotate_left
  · intro w'
    go_simp
    with_reducible rfl
  rotate_left
  · simp only [pS]
    rfl
  refine pu 8 (some 28) ?_ (bt 14 479) (by kernel_rfl) ?_ ?_ ?_ ?_
  rotate_left
  · intro w'
    go_simp
    with_reducible rfl
  rotate_left
  · simp only [pS]
    rfl
  refine tk 9 (some 29) ?_ (bt 14 991) (by kernel_rfl) hHeld ?_ ?_ ?_ ?_
  rotate_left
  · rintro w' ⟨s0, s1⟩
    go_simp
    with_reducible rfl
  rotate_left
  · simp only [pS]
    rfl
  refine pu 10 (some 30) ?_ (bt 14 2015) (by kernel_rfl) ?_ ?_ ?_ ?_
  rotate_left
  · intro w'
    go_simp
    with_reducible rfl
  rotate_left
  · simp only [pS]
    rfl
  refine one_ (i := 5) (N := some 25) (bt 14 2047) rfl rfl (by kernel_rfl) (by decide) (fun K hK => ?_)
  refine goes_ Try.func72 (by kernel_rfl) rfl #[.pointer (some ⟨g, 0, none⟩)] (by rfl) rfl rfl (by (try simp only [List.map_toArray, List.map_cons, List.map_nil]); first | done | rfl) ?_
  refine (at_calls g _ _ _ _ L.base L.end_ Wc Gc.out).mono ?_
  rintro e We ⟨rfl, hb⟩
  rw [ha]
  have Ge := AM ((hb.block g (blk_lt Gc.out)).trans Gc.out)
  clear F0 F1 F2 F3 F4 F5 f0 f1 f2 f3 f4 f5
  have F0 := (blk_cell Ge.out 0).trans rfl
  have F1 := (blk_cell Ge.out 1).trans rfl
  have F2 := (blk_cell Ge.out 2).trans rfl
  have F3 := (blk_cell Ge.out 3).trans rfl
  have F4 := (blk_cell Ge.out 4).trans rfl
  have F5 := (blk_cell Ge.out 5).trans rfl
  have f0 := blk_frozen Ge.out 0
  have f1 := blk_frozen Ge.out 1
  have f2 := blk_frozen Ge.out 2
  have f3 := blk_frozen Ge.out 3
  have f4 := blk_frozen Ge.out 4
  have f5 := blk_frozen Ge.out 5
  have Se := AM (Sc.out.step hb)
  have Be := AM (below_step Bc.out hb)
  clear hb
  refine ⟨_, rfl, ?_⟩
  refine hK.out _ _ ⟨F0, F3⟩ (fun hHeld => ?_)
  clear hK K
  refine norm_ (a' := ?_) ?_ ?_
  rotate_left
  · show Act.put _ (some 25) _ = _
    simp only [pS]
    rfl
  refine one_ (i := 11) (N := some 31) (bt 14 4095) rfl rfl (by kernel_rfl) (by decide) (fun K hK => ?_)
  refine goes_ Try.func34 (by kernel_rfl) rfl #[.int .i64 L.end_, .slice A data.length c] (by rfl) rfl rfl (by (try simp only [List.map_toArray, List.map_cons, List.map_nil]); first | done | rfl) ?_
  refine (Frame_calls L.end_ A c data We (Kd.C_below HC.out Be.out) hc (by omega)).mono ?_
  rintro e Wf ⟨vf, rfl, hr, hb⟩
  obtain ⟨Af, cf, rfl⟩ := Kd.R_slice hr
  have RF := AM hr
  have Gf := AM ((hb.block g (blk_lt Ge.out)).trans Ge.out)
  clear F0 F1 F2 F3 F4 F5 f0 f1 f2 f3 f4 f5
  have F0 := (blk_cell Gf.out 0).trans rfl
  have F1 := (blk_cell Gf.out 1).trans rfl
  have F2 := (blk_cell Gf.out 2).trans rfl
  have F3 := (blk_cell Gf.out 3).trans rfl
  have F4 := (blk_cell Gf.out 4).trans rfl
  have F5 := (blk_cell Gf.out 5).trans rfl
  have f0 := blk_frozen Gf.out 0
  have f1 := blk_frozen Gf.out 1
  have f2 := blk_frozen Gf.out 2
  have f3 := blk_frozen Gf.out 3
  have f4 := blk_frozen Gf.out 4
  have f5 := blk_frozen Gf.out 5
  have Sf := AM (Se.out.fenced hb)
  have Bf := AM (below_step Be.out hb)
  have KFf := AM (Se.out.keepP hb)
  have BFf := AM hb
  have hAf : ∀ a0, Af = some a0 → We.heap.size ≤ a0.block ∧ a0.block < Wf.heap.size := fun a0 e0 => by subst e0; exact ⟨Kd.R_base RF.out _ rfl, Kd.R_lt RF.out _ rfl⟩
  have hne : We.heap.size < Wf.heap.size := by
      obtain ⟨ad, e, _⟩ := (Kd.R_reads' RF.out).2.2.2.2 (by rw [frame_length]; omega)
      have := hAf ad e
      omega
  rw [frame_length] at RF ⊢
  clear hb hr
  refine ⟨_, rfl, ?_⟩
  refine hK.out _ _ ⟨F0, F3⟩ (fun hHeld => ?_)
  clear hK K
  refine norm_ (a' := ?_) ?_ ?_
  rotate_left
  · show Act.put _ (some 31) _ = _
    simp only [pS]
    rfl
  refine one_ (i := 12) (N := some 32) (bt 14 8191) rfl rfl (by kernel_rfl) (by decide) (fun K hK => ?_)
  refine goes_ Try.func19 (by kernel_rfl) rfl #[.pointer (some ⟨gd, 0, none⟩), .int .i64 (a : Int), .slice Af (16 + data.length) cf] (by rfl) rfl rfl (by (try simp only [List.map_toArray, List.map_cons, List.map_nil]); first | done | rfl) ?_
  have hcf := (Kd.R_reads' RF.out)
  have hwr := Sf.out.write 0 rfl hok (a : Int) Af cf (frame L.end_ data) (by have := hcf.2.2; rwa [frame_length] at this ⊢) (fun a0 e0 _ => .inr (.inr (hAf a0 e0))) (by rw [frame_length]; exact hcf.2.1) (by rw [frame_length]; omega)
  rw [frame_length] at hwr
  refine hwr.mono ?_
  clear hwr
  rintro e Wg ⟨rfl, hs, hk⟩
  have Sg := AM (show Sts w0 Wg _ [(gd, (D.write (a : Int) (frame L.end_ data)).1)] from hs)
  have Kg := AM hk
  have Cg0 := AM (Kd.C_below HC.out Bf.out)
  have Gg := AM ((hk g (.inl hQg)).trans Gf.out)
  clear F0 F1 F2 F3 F4 F5 f0 f1 f2 f3 f4 f5
  have F0 := (blk_cell Gg.out 0).trans rfl
  have F1 := (blk_cell Gg.out 1).trans rfl
  have F2 := (blk_cell Gg.out 2).trans rfl
  have F3 := (blk_cell Gg.out 3).trans rfl
  have F4 := (blk_cell Gg.out 4).trans rfl
  have F5 := (blk_cell Gg.out 5).trans rfl
  have f0 := blk_frozen Gg.out 0
  have f1 := blk_frozen Gg.out 1
  have f2 := blk_frozen Gg.out 2
  have f3 := blk_frozen Gg.out 3
  have f4 := blk_frozen Gg.out 4
  have f5 := blk_frozen Gg.out 5
  clear hs hk
  refine ⟨_, rfl, ?_⟩
  refine hK.out _ _ ⟨F0, F3⟩ (fun hHeld => ?_)
  clear hK K
  refine norm_ (a' := ?_) ?_ ?_
  rotate_left
  · show Act.put _ (some 32) _ = _
    simp only [pS]
    rfl
  refine pu 13 (some 6) ?_ (bt 14 16383) (by kernel_rfl) ?_ ?_ ?_ ?_
  rotate_left
  · intro w'
    go_simp
    with_reducible rfl
  rotate_left
  · simp only [pS]
    rfl
  refine done_ (by kernel_rfl) ?_
  have Ng := AM (Kd.N_step (Kd.N_below (Kd.N_below N0.out Be.out) (show Below We.heap.size We Wf from BFf.out)) (w1 := Wg) (fun k hk _ => Kg.out k (.inl (HRO.out k hk).1)))
  have KPg := AM (show ∀ k, Q k → Wg.heap[k]? = W.heap[k]? from fun k hk => (Kg.out k (.inl hk)).trans (Bf.out.block k (S0.out.lt k hk)))
  have hszg : W.heap.size ≤ Wg.heap.size := by
    have h1 := Sg.out.lt (Wf.heap.size - 1) (.inr ⟨by omega, by omega⟩)
    have h2 := Be.out.size
    omega
  by_cases h0 : (D.write (a : Int) (frame L.end_ data)).2 = 0
  · have hE : appendL L D a data = (⟨L.slot, L.base, wrap64 (L.end_ + (16 + (data.length : Int))), L.synced, L.recs ++ [⟨L.end_, data⟩]⟩, (D.write (a : Int) (frame L.end_ data)).1, L.end_, 0) := by rw [appendL, if_pos (by omega), if_pos h0]
    have HE := AM hE
    have Cg := AM (show Kd.C (Kd.int .u8) Wg A data.length data from C_int_step HC.out (fun a0 e0 h0 => (hA a0 e0 h0).elim (fun h => (Sg.out.bel.block _ h).trans (S0.out.bel.block _ h).symm) (fun h => KPg.out _ h)))
    clear hE
    go_wp2_with fail
    refine start_ (n := 14) (S := fun w' => w'.cell? ⟨g, 5, none⟩ = some (.slice Av nv cv)) (ds := [13]) #[false, false, false, false, false, false, false, false, false, false, false, false, false, false] (by kernel_rfl) rfl rfl F5 (fun hHeld => ?_)
    have hbd : Below Wg.heap.size Wg Wg.drew := below_drew (Below.refl _ _)
    have hGh : Wg.drew.heap[g]? = some (.cells #[.pointer (some ⟨gd, 0, none⟩), .int .i64 L.slot, .int .i64 L.base, .int .i64 L.end_, .int .i64 L.synced, .slice Av nv cv] 108 (0, 0)) := Gg.out
    have Sh := AM (Sg.out.step hbd)
    have Nh := AM (Kd.N_below Ng.out hbd)
    have Ch := AM (Kd.C_below Cg.out hbd)
    have hsz : W.heap.size ≤ Wg.drew.heap.size := hszg
    have KPh := AM (show ∀ k, Q k → Wg.drew.heap[k]? = W.heap[k]? from KPg.out)
    clear hHeld hbd hszg
    clear F0 F1 F2 F3 F4 F5 f0 f1 f2 f3 f4 f5
    generalize Wg.drew = Wh at hGh Sh Nh Ch hsz KPh ⊢
    have Gh := AM hGh
    clear hGh
    have F0 := (blk_cell Gh.out 0).trans rfl
    have F1 := (blk_cell Gh.out 1).trans rfl
    have F2 := (blk_cell Gh.out 2).trans rfl
    have F3 := (blk_cell Gh.out 3).trans rfl
    have F4 := (blk_cell Gh.out 4).trans rfl
    have F5 := (blk_cell Gh.out 5).trans rfl
    have f0 := blk_frozen Gh.out 0
    have f1 := blk_frozen Gh.out 1
    have f2 := blk_frozen Gh.out 2
    have f3 := blk_frozen Gh.out 3
    have f4 := blk_frozen Gh.out 4
    have f5 := blk_frozen Gh.out 5
    have hHeld : Wh.cell? ⟨g, 5, none⟩ = some (.slice Av nv cv) := F5
    refine pu 0 (some 40) ?_ (bt 14 1) (by kernel_rfl) ?_ ?_ ?_ ?_
    rotate_left
    · intro w'
      go_simp
      with_reducible rfl
    rotate_left
    · simp only [pS]
      rfl
    refine pu 1 (some 41) ?_ (bt 14 3) (by kernel_rfl) ?_ ?_ ?_ ?_
    rotate_left
    · intro w'
      go_simp
      with_reducible rfl
    rotate_left
    · simp only [pS]
      rfl
    refine pu 2 (some 42) ?_ (bt 14 7) (by kernel_rfl) ?_ ?_ ?_ ?_
    rotate_left
    · intro w'
      go_simp
      with_reducible rfl
    rotate_left
    · simp only [pS]
      rfl
    refine pu 3 (some 43) ?_ (bt 14 15) (by kernel_rfl) ?_ ?_ ?_ ?_
    rotate_left
    · intro w'
      go_simp
      with_reducible rfl
    rotate_left
    · simp only [pS]
      rfl
    refine tk 4 (some 44) ?_ (bt 14 31) (by kernel_rfl) hHeld ?_ ?_ ?_ ?_
    rotate_left
    · intro w' s0
      go_simp
      with_reducible rfl
    rotate_left
    · simp only [pS]
      rfl
    refine pu 5 (some 45) ?_ (bt 14 63) (by kernel_rfl) ?_ ?_ ?_ ?_
    rotate_left
    · intro w'
      go_simp
      with_reducible rfl
    rotate_left
    · simp only [pS]
      rfl
    refine pu 6 (some 46) ?_ (bt 14 127) (by kernel_rfl) ?_ ?_ ?_ ?_
    rotate_left
    · intro w'
      go_simp
      with_reducible rfl
    rotate_left
    · simp only [pS]
      rfl
    refine one_ (i := 7) (N := some 47) (bt 14 255) rfl rfl (by kernel_rfl) (by decide) (fun K hK => ?_)
    refine goes_ Try.func75 (by kernel_rfl) rfl #[.slice A data.length c] (by rfl) rfl rfl (by (try simp only [List.map_toArray, List.map_cons, List.map_nil]); first | done | rfl) ?_
    refine (clone75_calls A c data Wh Ch.out hc (by omega)).mono ?_
    rintro e Wi ⟨vc, rfl, hr, hb⟩
    obtain ⟨Ac, cc, rfl⟩ := Kd.R_slice hr
    have RC := AM hr
    have Gi := AM ((hb.block g (blk_lt Gh.out)).trans Gh.out)
    clear F0 F1 F2 F3 F4 F5 f0 f1 f2 f3 f4 f5
    have F0 := (blk_cell Gi.out 0).trans rfl
    have F1 := (blk_cell Gi.out 1).trans rfl
    have F2 := (blk_cell Gi.out 2).trans rfl
    have F3 := (blk_cell Gi.out 3).trans rfl
    have F4 := (blk_cell Gi.out 4).trans rfl
    have F5 := (blk_cell Gi.out 5).trans rfl
    have f0 := blk_frozen Gi.out 0
    have f1 := blk_frozen Gi.out 1
    have f2 := blk_frozen Gi.out 2
    have f3 := blk_frozen Gi.out 3
    have f4 := blk_frozen Gi.out 4
    have f5 := blk_frozen Gi.out 5
    have Si := AM (Sh.out.fenced hb)
    have Bi := AM hb
    have Ni := AM (Kd.N_below Nh.out hb)
    clear hb hr
    refine ⟨_, rfl, ?_⟩
    refine hK.out _ _ F5 (fun hHeld => ?_)
    clear hK K
    refine norm_ (a' := ?_) ?_ ?_
    rotate_left
    · show Act.put _ (some 47) _ = _
      simp only [pS]
      rfl
    refine pu 8 (some 48) ?_ (bt 14 511) (by kernel_rfl) ?_ ?_ ?_ ?_
    rotate_left
    · intro w'
      go_simp
      with_reducible rfl
    rotate_left
    · simp only [pS]
      rfl
    refine one_ (i := 9) (N := some 49) (bt 14 1023) rfl rfl (by kernel_rfl) (by decide) (fun K hK => ?_)
    refine value_ (w1 := Wi.alloc (.cells #[.int .i64 L.end_, .slice Ac data.length cc] 73)) (v := .slice (some ⟨Wi.heap.size, 0, none⟩) 1 1) (by rfl) rfl (by go_simp; try rfl) ?_
    have hal : Below Wi.heap.size Wi (Wi.alloc (.cells #[.int .i64 L.end_, .slice Ac data.length cc] 73)) := below_alloc (Below.refl _ _) _
    have F5 := (hal.cell (p := ⟨g, 5, none⟩) (World.block_lt_of_cell? _ _ F5)).trans F5
    clear hal
    refine hK.out _ _ F5 (fun hHeld => ?_)
    clear hK K
    refine norm_ (a' := ?_) ?_ ?_
    rotate_left
    · show Act.put _ (some 49) _ = _
      simp only [pS]
      rfl
    refine one_ (i := 10) (N := some 50) (bt 14 2047) rfl rfl (by kernel_rfl) (by decide) (fun K hK => ?_)
    refine Kd.N_append_step G.k73 (w0 := w0) (W := Wi) w0.heap.size (by rfl) (.tmp 44) (.tmp 49) 62 73 (.agg #[.int .i64 0, .slice none 0 0]) 32 rfl Try.underlying62 G.info73 rfl (by decide) (by omega) (.slice Av nv cv) L.recs ⟨L.end_, data⟩ [.int .i64 L.end_, .slice Ac data.length cc] (fun k => rok k ∨ Wh.heap.size ≤ k) (fun k => (Value.slice Ac data.length cc).ownBlock = some k) rfl rfl (G.k73_mkF Wi _ ⟨L.end_, data⟩ (Kd.R_reads' RC.out).2.1 (Kd.R_F (R_own_ok RC.out))) (fun k hk => ⟨.inr (Kd.R_base RC.out k hk), fun e => by have h1 := Kd.R_base RC.out k hk; have h2 := Kd.N_lt Nh.out k e.symm; omega⟩) (fun k hk => .inr (Nat.le_trans Bi.out.size hk)) (Kd.N_mono Ni.out (fun k hk => .inl hk)) Si.out.bel Si.out.bel.size (by omega) ?_
    intro v1 Wj hn _ hg _
    obtain ⟨A1, c1, rfl⟩ := Kd.N_slice hn
    rw [List.length_append, hnv, List.length_singleton] at hn ⊢
    have Nj := AM hn
    have hown : ∀ b, (Value.slice Av nv cv).ownBlock = some b → Q b ∧ rok b ∧ b ≠ g ∧ w0.heap.size ≤ b := fun b hb => ⟨(HRO.out b (Ni.out.1 b hb)).1, Ni.out.1 b hb, (HRO.out b (Ni.out.1 b hb)).2, Kd.N_base Ni.out b hb⟩
    have Sj := AM (Si.out.grownMore hg (fun b hb => ⟨.inl (.inl (hown b hb).1), (hown b hb).2.2.2⟩))
    have Gj := AM ((hg.block g (blk_lt Gi.out) (fun e => (hown g e.symm).2.2.1 rfl)).trans Gi.out)
    have KPj := AM (show ∀ k, Q k → ¬ rok k → Wj.heap[k]? = W.heap[k]? from fun k hk hr => by rw [hg.block k (Nat.lt_of_lt_of_le (Sh.out.lt k (.inl hk)) Bi.out.size) (fun e => hr (hown k e.symm).2.1), Bi.out.block k (Sh.out.lt k (.inl hk)), KPh.out k hk])
    have hszj := hg.size
    clear hn hg
    clear F0 F1 F2 F3 F4 F5 f0 f1 f2 f3 f4 f5
    have F0 := (blk_cell Gj.out 0).trans rfl
    have F1 := (blk_cell Gj.out 1).trans rfl
    have F2 := (blk_cell Gj.out 2).trans rfl
    have F3 := (blk_cell Gj.out 3).trans rfl
    have F4 := (blk_cell Gj.out 4).trans rfl
    have F5 := (blk_cell Gj.out 5).trans rfl
    have f0 := blk_frozen Gj.out 0
    have f1 := blk_frozen Gj.out 1
    have f2 := blk_frozen Gj.out 2
    have f3 := blk_frozen Gj.out 3
    have f4 := blk_frozen Gj.out 4
    have f5 := blk_frozen Gj.out 5
    refine hK.out _ _ F5 (fun hHeld => ?_)
    clear hK K
    refine norm_ (a' := ?_) ?_ ?_
    rotate_left
    · show Act.put _ (some 50) _ = _
      simp only [pS]
      rfl
    refine pu 11 (some 51) ?_ (bt 14 4095) (by kernel_rfl) ?_ ?_ ?_ ?_
    rotate_left
    · intro w'
      go_simp
      with_reducible rfl
    rotate_left
    · simp only [pS]
      rfl
    refine pu 12 (some 52) ?_ (bt 14 8191) (by kernel_rfl) ?_ ?_ ?_ ?_
    rotate_left
    · intro w'
      go_simp
      with_reducible rfl
    rotate_left
    · simp only [pS]
      rfl
    refine last_ (i := 13) (N := none) (bt 14 16383) rfl rfl (by kernel_rfl) (by decide) (fun K hK => ?_)
    refine skip_ (w1 := ?_) (by rfl) rfl ?_ ?_
    rotate_left
    · go_simp
      first | rfl | exact ⟨rfl, rfl⟩
    have hGk := blk_put (cs := #[.pointer (some ⟨gd, 0, none⟩), .int .i64 L.slot, .int .i64 L.base, .int .i64 L.end_, .int .i64 L.synced, .slice Av nv cv]) Gj.out 5 (.slice A1 (nv + 1) c1) (cs' := #[.pointer (some ⟨gd, 0, none⟩), .int .i64 L.slot, .int .i64 L.base, .int .i64 L.end_, .int .i64 L.synced, .slice A1 (nv + 1) c1]) rfl
    have hSk := Sj.out.poke g (.inl (.inl (.inl hQg))) hwg 5 (.slice A1 (nv + 1) c1)
    have hNk := Kd.N_far (Kd.N_bound Nj.out) (p := ⟨g, 5, none⟩) (fun k hk e => hk.1.elim (fun h1 => (HRO.out k h1).2 e) (fun h1 => by have h3 := blk_lt Gh.out; have h4 : k = g := e; omega)) (.slice A1 (nv + 1) c1)
    have hKk : ∀ k, Q k → ¬ rok k → k ≠ g → (Wj.setCell ⟨g, 5, none⟩ (.slice A1 (nv + 1) c1)).heap[k]? = W.heap[k]? := fun k hk hr hkg => (Below.heap_setCell Wj ⟨g, 5, none⟩ _ k hkg).trans (KPj.out k hk hr)
    have hzk : (Wj.setCell ⟨g, 5, none⟩ (.slice A1 (nv + 1) c1)).heap.size = Wj.heap.size := World.size_setCell _ _ _
    clear F0 F1 F2 F3 F4 F5 f0 f1 f2 f3 f4 f5
    generalize Wj.setCell ⟨g, 5, none⟩ (.slice A1 (nv + 1) c1) = Wk at hGk hSk hNk hKk hzk ⊢
    have Gk := AM hGk
    have Sk := AM hSk
    have Nk := AM hNk
    have Kk := AM hKk
    clear hGk hSk hNk hKk
    have F0 := (blk_cell Gk.out 0).trans rfl
    have F1 := (blk_cell Gk.out 1).trans rfl
    have F2 := (blk_cell Gk.out 2).trans rfl
    have F3 := (blk_cell Gk.out 3).trans rfl
    have F4 := (blk_cell Gk.out 4).trans rfl
    have F5 := (blk_cell Gk.out 5).trans rfl
    have f0 := blk_frozen Gk.out 0
    have f1 := blk_frozen Gk.out 1
    have f2 := blk_frozen Gk.out 2
    have f3 := blk_frozen Gk.out 3
    have f4 := blk_frozen Gk.out 4
    have f5 := blk_frozen Gk.out 5
    refine hK.out _ _ ?_
    clear hK K
    refine done_ (by kernel_rfl) ?_
    go_wp2_with fail
    go_ret2
    rw [HE.out]
    refine ⟨rfl, (fun k => (((Q k ∨ (We.heap.size ≤ k ∧ k < Wf.heap.size)) ∨ (Wh.heap.size ≤ k ∧ k < Wi.heap.size)) ∨ (Wi.heap.size ≤ k ∧ k < Wj.heap.size))), (fun k => (rok k ∨ Wh.heap.size ≤ k) ∧ k < Wj.heap.size), fun k h => .inl (.inl (.inl h)), fun k hk => hk.1.imp id (fun h => Nat.le_trans hsz h), ⟨Sk.out.poke g (.inl (.inl (.inl hQg))) hwg 3 _, .slice A1 (nv + 1) c1, blk_put (cs := #[.pointer (some ⟨gd, 0, none⟩), .int .i64 L.slot, .int .i64 L.base, .int .i64 L.end_, .int .i64 L.synced, .slice A1 (nv + 1) c1]) Gk.out 3 _ (cs' := #[.pointer (some ⟨gd, 0, none⟩), .int .i64 L.slot, .int .i64 L.base, .int .i64 (wrap64 (L.end_ + (16 + (data.length : Int)))), .int .i64 L.synced, .slice A1 (nv + 1) c1]) rfl, Kd.N_far Nk.out (p := ⟨g, 3, none⟩) (fun k hk e => hk.1.elim (fun h1 => (HRO.out k h1).2 e) (fun h1 => by have h3 := blk_lt Gh.out; have h4 : k = g := e; omega)) _, fun k hk => ?_, .inl (.inl (.inl hQg)), hwg⟩, fun k hk => (Below.heap_setCell Wk ⟨g, 3, none⟩ _ k hk.2.2).trans (Kk.out k hk.1 hk.2.1 hk.2.2)⟩
    have h3 := blk_lt Gh.out
    rcases hk.1 with h1 | h1
    · exact ⟨.inl (.inl (.inl (HRO.out k h1).1)), (HRO.out k h1).2⟩
    · refine ⟨?_, by omega⟩
      by_cases h4 : k < Wi.heap.size
      · exact .inl (.inr ⟨h1, h4⟩)
      · exact .inr ⟨by omega, hk.2⟩
  · have hE : appendL L D a data = (L, (D.write (a : Int) (frame L.end_ data)).1, 0, (D.write (a : Int) (frame L.end_ data)).2) := by rw [appendL, if_pos (by omega), if_neg h0]
    go_wp2_with fail
    go_ret2
    exact ⟨by rw [hE]; rfl, fun k => Q k ∨ (We.heap.size ≤ k ∧ k < Wf.heap.size), rok, fun _ h => .inl h, fun _ h => .inl h, by rw [hE]; exact ⟨Sg.out, _, Gg.out, Ng.out, fun k hk => ⟨.inl (HRO.out k hk).1, (HRO.out k hk).2⟩, .inl hQg, hwg⟩, fun k hk => KPg.out k hk.1⟩
end Go.Proofs.Ytbbokpkpdnppjaa
