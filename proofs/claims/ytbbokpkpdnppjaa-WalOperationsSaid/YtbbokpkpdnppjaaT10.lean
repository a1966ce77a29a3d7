/- Texts of one proof. -/
import Derived.Test.YtbbokpkpdnppjaaU0
import Derived.Test.YtbbokpkpdnppjaaUA
import Derived.Test.YtbbokpkpdnppjaaT8
import Derived.Test.YtbbokpkpdnppjaaT7
import Derived.Test.YtbbokpkpdnppjaaT6
import Derived.Test.YtbbokpkpdnppjaaT5
namespace Go.Proofs.Ytbbokpkpdnppjaa
open Go.RowKit Go.Proofs.YtbbokpkpdnppjaaW.PrintWords Go.Proofs.YtbbokpkpdnppjaaW.PrintLast Go.Proofs.YtbbokpkpdnppjaaW.PrintMore
set_option linter.unusedVariables false
set_option linter.unusedSimpArgs false
/-! ### even: the log and its disk are in the specification's state -/
def EV (w0 W wk : World) (bs : List (Nat × TypeId × Array Value)) (g gd : Nat) (A0 : Option Addr) (c0 : Nat) (A1 : Option Addr) (c1 : Nat) (A6 : Option Addr) (c6 : Nat) (L : Lg) (D : Dk) : Prop := LW w0 wk bs g gd A0 c0 A1 c1 A6 c6 L D L D ∧ Below W.heap.size W wk
theorem ref_contents {w : World} {ok : Nat → Prop} {v : Value} {D : Dk} (h : RefV w ok v D) (hok : D.Ok) : Calls Try.prog 76 #[v] w fun e w' => ∃ A c, e = .returned (.slice A D.now.length c) ∧ D.now.length ≤ c ∧ Kd.C (Kd.int .u8) w' A D.now.length D.now ∧ Below w.heap.size w w' := by
 obtain ⟨A0, c0, A1, c1, rfl, h0, h1⟩ := h.form
 obtain ⟨_, hl1, hC1⟩ := Kd.V_reads' h1
 refine (S.lineageref13_Contents.calls 5000000 ok A0 c0 D.dur A1 c1 (D.pend.map toS) D.cnt D.failed D.now w h0 hC1 hl1 (contents_f D hok 5000000 (by omega))).mono ?_
 rintro e w' ⟨v0, rfl, hv, hb⟩
 obtain ⟨A, c, rfl⟩ := Kd.V_slice hv
 obtain ⟨_, hl, hC⟩ := Kd.V_reads' hv
 exact ⟨A, c, rfl, hl, hC, hb⟩
section
variable {w0 W wk w1 : World} {bs : List (Nat × TypeId × Array Value)} {g gd : Nat} {A0 A1 A6 : Option Addr} {c0 c1 c6 : Nat} {L : Lg} {D : Dk}
theorem EV.below (h : EV w0 W wk bs g gd A0 c0 A1 c1 A6 c6 L D) (hb : Below wk.heap.size wk w1) : EV w0 W w1 bs g gd A0 c0 A1 c1 A6 c6 L D := ⟨h.1.below hb, below_step h.2 hb⟩
theorem EV.blk (h : EV w0 W wk bs g gd A0 c0 A1 c1 A6 c6 L D) (i : Nat) {b : Nat} {t : TypeId} {cs : Array Value} (hi : bs[i]? = some (b, t, cs)) : wk.heap[b]? = some (.cells cs t (0, 0)) := h.1.blk i hi
theorem EV.alloc (h : EV w0 W wk bs g gd A0 c0 A1 c1 A6 c6 L D) (t : TypeId) (cs : Array Value) : EV w0 W (wk.alloc (.cells cs t)) ((wk.heap.size, t, cs) :: bs) g gd A0 c0 A1 c1 A6 c6 L D := ⟨h.1.alloc t cs, below_step h.2 (below_alloc (Below.refl _ _) _)⟩
theorem EV.failed (h : EV w0 W wk bs g gd A0 c0 A1 c1 A6 c6 L D) : Calls Try.prog 28 #[.pointer (some ⟨gd, 0, none⟩)] wk fun e w' => e = .returned (.bool D.failed) ∧ wk = w' := by
 obtain ⟨Q, rok, hl, _⟩ := h.1.getLog
 exact hl.1.failed 0 rfl
theorem EV.pending (h : EV w0 W wk bs g gd A0 c0 A1 c1 A6 c6 L D) : Calls Try.prog 26 #[.pointer (some ⟨gd, 0, none⟩)] wk fun e w' => e = .returned (.int .i64 D.pend.length) ∧ wk = w' := by
 obtain ⟨Q, rok, hl, _⟩ := h.1.getLog
 exact hl.1.pending 0 rfl
theorem EV.end_ (h : EV w0 W wk bs g gd A0 c0 A1 c1 A6 c6 L D) : Calls Try.prog 38 #[.pointer (some ⟨g, 0, none⟩)] wk fun e w' => e = .returned (.int .i64 L.end_) ∧ wk = w' := by
 obtain ⟨Q, rok, hl, _⟩ := h.1.getLog
 exact End_calls hl
theorem EV.synced (h : EV w0 W wk bs g gd A0 c0 A1 c1 A6 c6 L D) : Calls Try.prog 39 #[.pointer (some ⟨g, 0, none⟩)] wk fun e w' => e = .returned (.int .i64 L.synced) ∧ wk = w' := by
 obtain ⟨Q, rok, hl, _⟩ := h.1.getLog
 exact Synced_calls hl
theorem EV.contents (h : EV w0 W wk bs g gd A0 c0 A1 c1 A6 c6 L D) (hok : D.Ok) (hf : D.failed = false) : Calls Try.prog 42 #[.pointer (some ⟨gd, 0, none⟩)] wk fun e w' => ∃ A c, e = .returned (.slice A D.now.length c) ∧ D.now.length ≤ c ∧ Kd.C (Kd.int .u8) w' A D.now.length D.now ∧ Below wk.heap.size wk w' := by
 obtain ⟨Q, rok, hl, _⟩ := h.1.getLog
 have hn : D.now.length = D.dur.length := layAll_length _ _ hok.fit
 have hrd : D.read 0 (D.now.length : Int) = (D.now, 0) := by
  unfold Dk.read
  rw [if_neg (by rw [hf]; simp), if_neg (by rw [hn]; simp [insd])]
  simp
 refine (contents_calls hl.1 hok D.now hn hrd).mono ?_
 rintro e w' ⟨v, rfl, hr, hb⟩
 obtain ⟨A, c, rfl⟩ := Kd.R_slice hr
 exact ⟨A, c, rfl, (Kd.R_reads' hr).2.1, (Kd.R_reads' hr).2.2, hb⟩
theorem EV.refContents (h : EV w0 W wk bs g gd A0 c0 A1 c1 A6 c6 L D) (hok : D.Ok) : Calls Try.prog 76 #[.agg #[.slice A0 D.dur.length c0, .slice A1 D.pend.length c1, .int .i64 D.cnt, .bool D.failed]] wk fun e w' => ∃ A c, e = .returned (.slice A D.now.length c) ∧ D.now.length ≤ c ∧ Kd.C (Kd.int .u8) w' A D.now.length D.now ∧ Below wk.heap.size wk w' := by
 obtain ⟨okk, hv, _⟩ := h.1.getRef
 exact ref_contents hv.part.1 hok
theorem EV.records (h : EV w0 W wk bs g gd A0 c0 A1 c1 A6 c6 L D) (hrl : L.recs.length ≤ 4194304) (hdl : ∀ r ∈ L.recs, r.f1.length ≤ 4194304) : Calls Try.prog 41 #[.pointer (some ⟨g, 0, none⟩)] wk fun e w' => ∃ A c, e = .returned (.slice A L.recs.length c) ∧ L.recs.length ≤ c ∧ Kd.C G.k73 w' A L.recs.length L.recs ∧ Below wk.heap.size wk w' := by
 obtain ⟨Q, rok, hl, _⟩ := h.1.getLog
 refine (Records_calls hl hrl hdl).mono ?_
 rintro e w' ⟨v, rfl, hr, hb⟩
 obtain ⟨A, c, rfl⟩ := Kd.R_slice hr
 exact ⟨A, c, rfl, (Kd.R_reads' hr).2.1, (Kd.R_reads' hr).2.2, hb⟩
theorem EV.same (h : EV w0 W wk bs g gd A0 c0 A1 c1 A6 c6 L D) (hrl : L.recs.length ≤ 4194304) (hdl : ∀ r ∈ L.recs, r.f1.length ≤ 4194304) {A : Option Addr} {c : Nat} (hc : L.recs.length ≤ c) (hC : Kd.C G.k73 wk A L.recs.length L.recs) :
  Calls Try.prog 40 #[.slice A L.recs.length c, .slice A6 L.recs.length c6] wk fun e w' => e = .returned (.bool true) ∧ Below wk.heap.size wk w' := by
 obtain ⟨okk, hv, _⟩ := h.1.getRef
 have h6 := Kd.V_reads' hv.part.2
 exact (G.lineageref15_Same.calls (5000000 + L.recs.length + 1) A c L.recs A6 c6 L.recs true wk hC hc h6.2.2 h6.2.1 (same73_f L.recs hrl hdl)).mono (fun e w' h => ⟨h.1, h.2.below⟩)
end
set_option maxRecDepth 100000 in
set_option maxHeartbeats 8000000 in
theorem LW.even {w0 W : World} {bs : List (Nat × TypeId × Array Value)} {g gd : Nat} {A0 A1 A6 : Option Addr} {c0 c1 c6 : Nat} {L : Lg} {D : Dk} (h : LW w0 W bs g gd A0 c0 A1 c1 A6 c6 L D L D) (hok : D.Ok) (hrl : L.recs.length ≤ 4194304) (hdl : ∀ r ∈ L.recs, r.f1.length ≤ 4194304) :
  Calls Try.prog 53 #[.pointer (some ⟨gd, 0, none⟩), .pointer (some ⟨g, 0, none⟩), .agg #[.slice A0 D.dur.length c0, .slice A1 D.pend.length c1, .int .i64 D.cnt, .bool D.failed, .int .i64 L.base, .int .i64 L.slot, .slice A6 L.recs.length c6, .int .i64 L.end_, .int .i64 L.synced]] W fun e w' => e = .returned (.bool true) ∧ Below W.heap.size W w' := by
 have HS := AM (show EV w0 W W bs g gd A0 c0 A1 c1 A6 c6 L D from ⟨h, Below.refl _ _⟩)
 have HOK := AM hok
 have HRL := AM hrl
 have HDL := AM hdl
 clear h hok hrl hdl
 have hu64 := Try.underlying64
 have hu50 := Try.underlying50
 cases hf : D.failed with
 | true =>
  have HF := AM hf
  clear hf
  replace HS := AM (HS.out.alloc 64 #[.slice A0 D.dur.length c0, .slice A1 D.pend.length c1, .int .i64 D.cnt, .bool true, .int .i64 L.base, .int .i64 L.slot, .slice A6 L.recs.length c6, .int .i64 L.end_, .int .i64 L.synced])
  go_enter Try.func53, Try.ntmps53
  go_upto_region 1 with fail
  generalize W.alloc _ = w2 at HS ⊢
  refine start_ (n := 29) (S := fun w' => w'.cell? ⟨W.heap.size, 0, none⟩ = some (.slice A0 D.dur.length c0) ∧ w'.cell? ⟨W.heap.size, 1, none⟩ = some (.slice A1 D.pend.length c1) ∧ w'.cell? ⟨W.heap.size, 2, none⟩ = some (.int .i64 D.cnt) ∧ w'.cell? ⟨W.heap.size, 3, none⟩ = some (.bool true)) (ds := []) #[false, false, false, false, false, false, false, false, false, false, false, false, false, false, false, false, false, false, false, false, false, false, false, false, false, false, false, false, false] (by kernel_rfl) rfl rfl ⟨(blk_cell (HS.out.blk 0 rfl) 0).trans rfl, (blk_cell (HS.out.blk 0 rfl) 1).trans rfl, (blk_cell (HS.out.blk 0 rfl) 2).trans rfl, (blk_cell (HS.out.blk 0 rfl) 3).trans rfl⟩ (fun hHeld => ?_)
  clear hHeld
  replace HS := AM (HS.out.below (below_drew (Below.refl _ _)))
  generalize w2.drew = w3 at HS ⊢
  have hHeld : w3.cell? ⟨W.heap.size, 0, none⟩ = some (.slice A0 D.dur.length c0) ∧ w3.cell? ⟨W.heap.size, 1, none⟩ = some (.slice A1 D.pend.length c1) ∧ w3.cell? ⟨W.heap.size, 2, none⟩ = some (.int .i64 D.cnt) ∧ w3.cell? ⟨W.heap.size, 3, none⟩ = some (.bool true) := ⟨(blk_cell (HS.out.blk 0 rfl) 0).trans rfl, (blk_cell (HS.out.blk 0 rfl) 1).trans rfl, (blk_cell (HS.out.blk 0 rfl) 2).trans rfl, (blk_cell (HS.out.blk 0 rfl) 3).trans rfl⟩
  refine pu 0 (some 7) ?_ (bt 29 1) (by kernel_rfl) ?_ ?_ ?_ ?_
  rotate_left
  ·intro w'
   go_simp
   with_reducible rfl
  rotate_left
  ·simp only [pS]
   rfl
  refine pu 2 (some 9) ?_ (bt 29 5) (by kernel_rfl) ?_ ?_ ?_ ?_
  rotate_left
  ·intro w'
   go_simp
   with_reducible rfl
  rotate_left
  ·simp only [pS]
   rfl
  refine pu 3 (some 10) ?_ (bt 29 13) (by kernel_rfl) ?_ ?_ ?_ ?_
  rotate_left
  ·intro w'
   go_simp
   with_reducible rfl
  rotate_left
  ·simp only [pS]
   rfl
  refine tk 4 (some 11) ?_ (bt 29 29) (by kernel_rfl) hHeld ?_ ?_ ?_ ?_
  rotate_left
  ·rintro w' ⟨s0, s1, s2, s3⟩
   go_simp
   with_reducible rfl
  rotate_left
  ·simp only [pS]
   rfl
  refine one_ (i := 1) (N := some 8) (bt 29 31) rfl rfl (by kernel_rfl) (by decide) (fun K hK => ?_)
  refine goes_ Try.func28 (by kernel_rfl) rfl #[.pointer (some ⟨gd, 0, none⟩)] (by rfl) rfl rfl (by (try simp only [List.map_toArray, List.map_cons, List.map_nil]); first | done | rfl) ?_
  have hcl := HS.out.failed
  rw [HF.out] at hcl
  refine hcl.mono ?_
  clear hcl
  rintro e w3_1 ⟨rfl, rfl⟩
  refine ⟨_, rfl, ?_⟩
  clear hHeld
  refine hK.out _ _ ⟨(blk_cell (HS.out.blk 0 rfl) 0).trans rfl, (blk_cell (HS.out.blk 0 rfl) 1).trans rfl, (blk_cell (HS.out.blk 0 rfl) 2).trans rfl, (blk_cell (HS.out.blk 0 rfl) 3).trans rfl⟩ (fun hHeld => ?_)
  clear hK K
  refine norm_ (a' := ?_) ?_ ?_
  rotate_left
  ·show Act.put _ (some 8) _ = _
   simp only [pS]
   rfl
  refine pu 5 (some 12) ?_ (bt 29 63) (by kernel_rfl) ?_ ?_ ?_ ?_
  rotate_left
  ·intro w'
   go_simp
   with_reducible rfl
  rotate_left
  ·simp only [pS]
   rfl
  refine pu 6 (some 13) ?_ (bt 29 127) (by kernel_rfl) ?_ ?_ ?_ ?_
  rotate_left
  ·intro w'
   go_simp
   with_reducible rfl
  rotate_left
  ·simp only [pS]
   rfl
  refine pu 7 (some 14) ?_ (bt 29 255) (by kernel_rfl) ?_ ?_ ?_ ?_
  rotate_left
  ·intro w'
   go_simp
   with_reducible rfl
  rotate_left
  ·simp only [pS]
   rfl
  refine pu 9 (some 16) ?_ (bt 29 767) (by kernel_rfl) ?_ ?_ ?_ ?_
  rotate_left
  ·intro w'
   go_simp
   with_reducible rfl
  rotate_left
  ·simp only [pS]
   rfl
  refine pu 10 (some 17) ?_ (bt 29 1791) (by kernel_rfl) ?_ ?_ ?_ ?_
  rotate_left
  ·intro w'
   go_simp
   with_reducible rfl
  rotate_left
  ·simp only [pS]
   rfl
  refine tk 11 (some 18) ?_ (bt 29 3839) (by kernel_rfl) hHeld ?_ ?_ ?_ ?_
  rotate_left
  ·rintro w' ⟨s0, s1, s2, s3⟩
   go_simp
   with_reducible rfl
  rotate_left
  ·simp only [pS]
   rfl
  refine pu 12 (some 19) ?_ (bt 29 7935) (by kernel_rfl) ?_ ?_ ?_ ?_
  rotate_left
  ·intro w'
   go_simp
   with_reducible rfl
  rotate_left
  ·simp only [pS]
   rfl
  refine one_ (i := 8) (N := some 15) (bt 29 8191) rfl rfl (by kernel_rfl) (by decide) (fun K hK => ?_)
  refine goes_ Try.func26 (by kernel_rfl) rfl #[.pointer (some ⟨gd, 0, none⟩)] (by rfl) rfl rfl (by (try simp only [List.map_toArray, List.map_cons, List.map_nil]); first | done | rfl) ?_
  refine HS.out.pending.mono ?_
  rintro e w3_2 ⟨rfl, rfl⟩
  refine ⟨_, rfl, ?_⟩
  clear hHeld
  refine hK.out _ _ ⟨(blk_cell (HS.out.blk 0 rfl) 0).trans rfl, (blk_cell (HS.out.blk 0 rfl) 1).trans rfl, (blk_cell (HS.out.blk 0 rfl) 2).trans rfl, (blk_cell (HS.out.blk 0 rfl) 3).trans rfl⟩ (fun hHeld => ?_)
  clear hK K
  refine norm_ (a' := ?_) ?_ ?_
  rotate_left
  ·show Act.put _ (some 15) _ = _
   simp only [pS]
   rfl
  refine pu 13 (some 20) ?_ (bt 29 16383) (by kernel_rfl) ?_ ?_ ?_ ?_
  rotate_left
  ·intro w'
   go_simp
   with_reducible rfl
  rotate_left
  ·simp only [pS]
   rfl
  refine pu 14 (some 21) ?_ (bt 29 32767) (by kernel_rfl) ?_ ?_ ?_ ?_
  rotate_left
  ·intro w'
   go_simp
   with_reducible rfl
  rotate_left
  ·simp only [pS]
   rfl
  refine pu 15 (some 22) ?_ (bt 29 65535) (by kernel_rfl) ?_ ?_ ?_ ?_
  rotate_left
  ·intro w'
   go_simp
   with_reducible rfl
  rotate_left
  ·simp only [pS]
   rfl
  refine pu 16 (some 23) ?_ (bt 29 131071) (by kernel_rfl) ?_ ?_ ?_ ?_
  rotate_left
  ·intro w'
   go_simp
   with_reducible rfl
  rotate_left
  ·simp only [pS]
   rfl
  refine one_ (i := 17) (N := some 24) (bt 29 262143) rfl rfl (by kernel_rfl) (by decide) (fun K hK => ?_)
  refine goes_ Try.func28 (by kernel_rfl) rfl #[.pointer (some ⟨gd, 0, none⟩)] (by rfl) rfl rfl (by (try simp only [List.map_toArray, List.map_cons, List.map_nil]); first | done | rfl) ?_
  have hcl := HS.out.failed
  rw [HF.out] at hcl
  refine hcl.mono ?_
  clear hcl
  rintro e w3_3 ⟨rfl, rfl⟩
  refine ⟨_, rfl, ?_⟩
  clear hHeld
  refine hK.out _ _ ⟨(blk_cell (HS.out.blk 0 rfl) 0).trans rfl, (blk_cell (HS.out.blk 0 rfl) 1).trans rfl, (blk_cell (HS.out.blk 0 rfl) 2).trans rfl, (blk_cell (HS.out.blk 0 rfl) 3).trans rfl⟩ (fun hHeld => ?_)
  clear hK K
  refine norm_ (a' := ?_) ?_ ?_
  rotate_left
  ·show Act.put _ (some 24) _ = _
   simp only [pS]
   rfl
  refine pu 18 (some 25) ?_ (bt 29 524287) (by kernel_rfl) ?_ ?_ ?_ ?_
  rotate_left
  ·intro w'
   go_simp
   with_reducible rfl
  rotate_left
  ·simp only [pS]
   rfl
  refine pu 19 (some 26) ?_ (bt 29 1048575) (by kernel_rfl) ?_ ?_ ?_ ?_
  rotate_left
  ·intro w'
   go_simp
   with_reducible rfl
  rotate_left
  ·simp only [pS]
   rfl
  refine pure_ (i := 20) (N := some 27) (v := undef) (a' := ?_) (bt 29 2097151) rfl rfl (by kernel_rfl) (fun _ _ _ h => h) (Or.inr ⟨by rfl, rfl⟩) ?_ ?_
  rotate_left
  ·simp only [pS]
   rfl
  refine pure_ (i := 22) (N := some 29) (v := undef) (a' := ?_) (bt 29 6291455) rfl rfl (by kernel_rfl) (fun _ _ _ h => h) (Or.inr ⟨by rfl, rfl⟩) ?_ ?_
  rotate_left
  ·simp only [pS]
   rfl
  refine pure_ (i := 23) (N := some 30) (v := undef) (a' := ?_) (bt 29 14680063) rfl rfl (by kernel_rfl) (fun _ _ _ h => h) (Or.inr ⟨by rfl, rfl⟩) ?_ ?_
  rotate_left
  ·simp only [pS]
   rfl
  refine one_ (i := 21) (N := some 28) (bt 29 16777215) rfl rfl (by kernel_rfl) (by decide) (fun K hK => ?_)
  refine off_ (by rfl) ?_
  clear hHeld
  refine hK.out _ _ ⟨(blk_cell (HS.out.blk 0 rfl) 0).trans rfl, (blk_cell (HS.out.blk 0 rfl) 1).trans rfl, (blk_cell (HS.out.blk 0 rfl) 2).trans rfl, (blk_cell (HS.out.blk 0 rfl) 3).trans rfl⟩ (fun hHeld => ?_)
  clear hK K
  refine norm_ (a' := ?_) ?_ ?_
  rotate_left
  ·show Act.put _ (some 28) _ = _
   simp only [pS]
   rfl
  refine one_ (i := 24) (N := some 31) (bt 29 33554431) rfl rfl (by kernel_rfl) (by decide) (fun K hK => ?_)
  refine off_ (by rfl) ?_
  clear hHeld
  refine hK.out _ _ ⟨(blk_cell (HS.out.blk 0 rfl) 0).trans rfl, (blk_cell (HS.out.blk 0 rfl) 1).trans rfl, (blk_cell (HS.out.blk 0 rfl) 2).trans rfl, (blk_cell (HS.out.blk 0 rfl) 3).trans rfl⟩ (fun hHeld => ?_)
  clear hK K
  refine norm_ (a' := ?_) ?_ ?_
  rotate_left
  ·show Act.put _ (some 31) _ = _
   simp only [pS]
   rfl
  refine one_ (i := 25) (N := some 32) (bt 29 67108863) rfl rfl (by kernel_rfl) (by decide) (fun K hK => ?_)
  refine off_ (by rfl) ?_
  clear hHeld
  refine hK.out _ _ ⟨(blk_cell (HS.out.blk 0 rfl) 0).trans rfl, (blk_cell (HS.out.blk 0 rfl) 1).trans rfl, (blk_cell (HS.out.blk 0 rfl) 2).trans rfl, (blk_cell (HS.out.blk 0 rfl) 3).trans rfl⟩ (fun hHeld => ?_)
  clear hK K
  refine norm_ (a' := ?_) ?_ ?_
  rotate_left
  ·show Act.put _ (some 32) _ = _
   simp only [pS]
   rfl
  refine pure_ (i := 26) (N := some 33) (v := undef) (a' := ?_) (bt 29 134217727) rfl rfl (by kernel_rfl) (fun _ _ _ h => h) (Or.inr ⟨by rfl, rfl⟩) ?_ ?_
  rotate_left
  ·simp only [pS]
   rfl
  refine pu 27 (some 34) ?_ (bt 29 268435455) (by kernel_rfl) ?_ ?_ ?_ ?_
  rotate_left
  ·intro w'
   go_simp
   with_reducible rfl
  rotate_left
  ·simp only [pS]
   rfl
  refine pu 28 (some 35) ?_ (bt 29 536870911) (by kernel_rfl) ?_ ?_ ?_ ?_
  rotate_left
  ·intro w'
   go_simp
   with_reducible rfl
  rotate_left
  ·simp only [pS]
   rfl
  refine done_ (by kernel_rfl) ?_
  clear hHeld
  go_upto_region 3 with fail
  refine start_ (n := 20) (S := fun w' => w'.cell? ⟨W.heap.size, 6, none⟩ = some (.slice A6 L.recs.length c6) ∧ w'.cell? ⟨W.heap.size, 7, none⟩ = some (.int .i64 L.end_) ∧ w'.cell? ⟨W.heap.size, 8, none⟩ = some (.int .i64 L.synced)) (ds := []) #[false, false, false, false, false, false, false, false, false, false, false, false, false, false, false, false, false, false, false, false] (by kernel_rfl) rfl rfl ⟨(blk_cell (HS.out.blk 0 rfl) 6).trans rfl, (blk_cell (HS.out.blk 0 rfl) 7).trans rfl, (blk_cell (HS.out.blk 0 rfl) 8).trans rfl⟩ (fun hHeld => ?_)
  clear hHeld
  replace HS := AM (HS.out.below (below_drew (Below.refl _ _)))
  generalize World.drew _ = w5 at HS ⊢
  have hHeld : w5.cell? ⟨W.heap.size, 6, none⟩ = some (.slice A6 L.recs.length c6) ∧ w5.cell? ⟨W.heap.size, 7, none⟩ = some (.int .i64 L.end_) ∧ w5.cell? ⟨W.heap.size, 8, none⟩ = some (.int .i64 L.synced) := ⟨(blk_cell (HS.out.blk 0 rfl) 6).trans rfl, (blk_cell (HS.out.blk 0 rfl) 7).trans rfl, (blk_cell (HS.out.blk 0 rfl) 8).trans rfl⟩
  refine pu 0 (some 36) ?_ (bt 20 1) (by kernel_rfl) ?_ ?_ ?_ ?_
  rotate_left
  ·intro w'
   go_simp
   with_reducible rfl
  rotate_left
  ·simp only [pS]
   rfl
  refine pu 2 (some 38) ?_ (bt 20 5) (by kernel_rfl) ?_ ?_ ?_ ?_
  rotate_left
  ·intro w'
   go_simp
   with_reducible rfl
  rotate_left
  ·simp only [pS]
   rfl
  refine tk 3 (some 39) ?_ (bt 20 13) (by kernel_rfl) hHeld ?_ ?_ ?_ ?_
  rotate_left
  ·rintro w' ⟨s0, s1, s2⟩
   go_simp
   with_reducible rfl
  rotate_left
  ·simp only [pS]
   rfl
  refine one_ (i := 1) (N := some 37) (bt 20 15) rfl rfl (by kernel_rfl) (by decide) (fun K hK => ?_)
  refine goes_ Try.func38 (by kernel_rfl) rfl #[.pointer (some ⟨g, 0, none⟩)] (by rfl) rfl rfl (by (try simp only [List.map_toArray, List.map_cons, List.map_nil]); first | done | rfl) ?_
  refine HS.out.end_.mono ?_
  rintro e w5_1 ⟨rfl, rfl⟩
  refine ⟨_, rfl, ?_⟩
  clear hHeld
  refine hK.out _ _ ⟨(blk_cell (HS.out.blk 0 rfl) 6).trans rfl, (blk_cell (HS.out.blk 0 rfl) 7).trans rfl, (blk_cell (HS.out.blk 0 rfl) 8).trans rfl⟩ (fun hHeld => ?_)
  clear hK K
  refine norm_ (a' := ?_) ?_ ?_
  rotate_left
  ·show Act.put _ (some 37) _ = _
   simp only [pS]
   rfl
  refine pu 4 (some 40) ?_ (bt 20 31) (by kernel_rfl) ?_ ?_ ?_ ?_
  rotate_left
  ·intro w'
   go_simp
   with_reducible rfl
  rotate_left
  ·simp only [pS]
   rfl
  refine pu 5 (some 41) ?_ (bt 20 63) (by kernel_rfl) ?_ ?_ ?_ ?_
  rotate_left
  ·intro w'
   go_simp
   with_reducible rfl
  rotate_left
  ·simp only [pS]
   rfl
  refine pu 6 (some 42) ?_ (bt 20 127) (by kernel_rfl) ?_ ?_ ?_ ?_
  rotate_left
  ·intro w'
   go_simp
   with_reducible rfl
  rotate_left
  ·simp only [pS]
   rfl
  refine pu 8 (some 44) ?_ (bt 20 383) (by kernel_rfl) ?_ ?_ ?_ ?_
  rotate_left
  ·intro w'
   go_simp
   with_reducible rfl
  rotate_left
  ·simp only [pS]
   rfl
  refine tk 9 (some 45) ?_ (bt 20 895) (by kernel_rfl) hHeld ?_ ?_ ?_ ?_
  rotate_left
  ·rintro w' ⟨s0, s1, s2⟩
   go_simp
   with_reducible rfl
  rotate_left
  ·simp only [pS]
   rfl
  refine one_ (i := 7) (N := some 43) (bt 20 1023) rfl rfl (by kernel_rfl) (by decide) (fun K hK => ?_)
  refine goes_ Try.func39 (by kernel_rfl) rfl #[.pointer (some ⟨g, 0, none⟩)] (by rfl) rfl rfl (by (try simp only [List.map_toArray, List.map_cons, List.map_nil]); first | done | rfl) ?_
  refine HS.out.synced.mono ?_
  rintro e w5_2 ⟨rfl, rfl⟩
  refine ⟨_, rfl, ?_⟩
  clear hHeld
  refine hK.out _ _ ⟨(blk_cell (HS.out.blk 0 rfl) 6).trans rfl, (blk_cell (HS.out.blk 0 rfl) 7).trans rfl, (blk_cell (HS.out.blk 0 rfl) 8).trans rfl⟩ (fun hHeld => ?_)
  clear hK K
  refine norm_ (a' := ?_) ?_ ?_
  rotate_left
  ·show Act.put _ (some 43) _ = _
   simp only [pS]
   rfl
  refine pu 10 (some 46) ?_ (bt 20 2047) (by kernel_rfl) ?_ ?_ ?_ ?_
  rotate_left
  ·intro w'
   go_simp
   with_reducible rfl
  rotate_left
  ·simp only [pS]
   rfl
  refine pu 11 (some 47) ?_ (bt 20 4095) (by kernel_rfl) ?_ ?_ ?_ ?_
  rotate_left
  ·intro w'
   go_simp
   with_reducible rfl
  rotate_left
  ·simp only [pS]
   rfl
  refine pu 12 (some 48) ?_ (bt 20 8191) (by kernel_rfl) ?_ ?_ ?_ ?_
  rotate_left
  ·intro w'
   go_simp
   with_reducible rfl
  rotate_left
  ·simp only [pS]
   rfl
  refine pu 13 (some 49) ?_ (bt 20 16383) (by kernel_rfl) ?_ ?_ ?_ ?_
  rotate_left
  ·intro w'
   go_simp
   with_reducible rfl
  rotate_left
  ·simp only [pS]
   rfl
  refine pu 15 (some 51) ?_ (bt 20 49151) (by kernel_rfl) ?_ ?_ ?_ ?_
  rotate_left
  ·intro w'
   go_simp
   with_reducible rfl
  rotate_left
  ·simp only [pS]
   rfl
  refine tk 16 (some 52) ?_ (bt 20 114687) (by kernel_rfl) hHeld ?_ ?_ ?_ ?_
  rotate_left
  ·rintro w' ⟨s0, s1, s2⟩
   go_simp
   with_reducible rfl
  rotate_left
  ·simp only [pS]
   rfl
  refine one_ (i := 14) (N := some 50) (bt 20 131071) rfl rfl (by kernel_rfl) (by decide) (fun K hK => ?_)
  refine goes_ Try.func41 (by kernel_rfl) rfl #[.pointer (some ⟨g, 0, none⟩)] (by rfl) rfl rfl (by (try simp only [List.map_toArray, List.map_cons, List.map_nil]); first | done | rfl) ?_
  refine (HS.out.records HRL.out HDL.out).mono ?_
  rintro e w5_3 ⟨B, b, rfl, hbl, hC, hb⟩
  have HB_ := AM hC
  replace HS := AM (HS.out.below hb)
  clear hC hb
  refine ⟨_, rfl, ?_⟩
  clear hHeld
  refine hK.out _ _ ⟨(blk_cell (HS.out.blk 0 rfl) 6).trans rfl, (blk_cell (HS.out.blk 0 rfl) 7).trans rfl, (blk_cell (HS.out.blk 0 rfl) 8).trans rfl⟩ (fun hHeld => ?_)
  clear hK K
  refine norm_ (a' := ?_) ?_ ?_
  rotate_left
  ·show Act.put _ (some 50) _ = _
   simp only [pS]
   rfl
  refine one_ (i := 17) (N := some 53) (bt 20 262143) rfl rfl (by kernel_rfl) (by decide) (fun K hK => ?_)
  refine goes_ Try.func40 (by kernel_rfl) rfl #[.slice B L.recs.length b, .slice A6 L.recs.length c6] (by rfl) rfl rfl (by (try simp only [List.map_toArray, List.map_cons, List.map_nil]); first | done | rfl) ?_
  refine (HS.out.same HRL.out HDL.out hbl HB_.out).mono ?_
  rintro e w5_4 ⟨rfl, hb⟩
  replace HS := AM (HS.out.below hb)
  clear hb HB_
  refine ⟨_, rfl, ?_⟩
  clear hHeld
  refine hK.out _ _ ⟨(blk_cell (HS.out.blk 0 rfl) 6).trans rfl, (blk_cell (HS.out.blk 0 rfl) 7).trans rfl, (blk_cell (HS.out.blk 0 rfl) 8).trans rfl⟩ (fun hHeld => ?_)
  clear hK K
  refine norm_ (a' := ?_) ?_ ?_
  rotate_left
  ·show Act.put _ (some 53) _ = _
   simp only [pS]
   rfl
  refine pu 18 (some 54) ?_ (bt 20 524287) (by kernel_rfl) ?_ ?_ ?_ ?_
  rotate_left
  ·intro w'
   go_simp
   with_reducible rfl
  rotate_left
  ·simp only [pS]
   rfl
  refine pu 19 (some 6) ?_ (bt 20 1048575) (by kernel_rfl) ?_ ?_ ?_ ?_
  rotate_left
  ·intro w'
   go_simp
   with_reducible rfl
  rotate_left
  ·simp only [pS]
   rfl
  refine done_ (by kernel_rfl) ?_
  clear hHeld
  go_wp2_with fail
  go_ret
  exact ⟨rfl, HS.out.2⟩
 | false =>
  have HF := AM hf
  clear hf
  replace HS := AM (HS.out.alloc 64 #[.slice A0 D.dur.length c0, .slice A1 D.pend.length c1, .int .i64 D.cnt, .bool false, .int .i64 L.base, .int .i64 L.slot, .slice A6 L.recs.length c6, .int .i64 L.end_, .int .i64 L.synced])
  go_enter Try.func53, Try.ntmps53
  go_upto_region 1 with fail
  generalize W.alloc _ = w2 at HS ⊢
  refine start_ (n := 29) (S := fun w' => w'.cell? ⟨W.heap.size, 0, none⟩ = some (.slice A0 D.dur.length c0) ∧ w'.cell? ⟨W.heap.size, 1, none⟩ = some (.slice A1 D.pend.length c1) ∧ w'.cell? ⟨W.heap.size, 2, none⟩ = some (.int .i64 D.cnt) ∧ w'.cell? ⟨W.heap.size, 3, none⟩ = some (.bool false)) (ds := []) #[false, false, false, false, false, false, false, false, false, false, false, false, false, false, false, false, false, false, false, false, false, false, false, false, false, false, false, false, false] (by kernel_rfl) rfl rfl ⟨(blk_cell (HS.out.blk 0 rfl) 0).trans rfl, (blk_cell (HS.out.blk 0 rfl) 1).trans rfl, (blk_cell (HS.out.blk 0 rfl) 2).trans rfl, (blk_cell (HS.out.blk 0 rfl) 3).trans rfl⟩ (fun hHeld => ?_)
  clear hHeld
  replace HS := AM (HS.out.below (below_drew (Below.refl _ _)))
  generalize w2.drew = w3 at HS ⊢
  have hHeld : w3.cell? ⟨W.heap.size, 0, none⟩ = some (.slice A0 D.dur.length c0) ∧ w3.cell? ⟨W.heap.size, 1, none⟩ = some (.slice A1 D.pend.length c1) ∧ w3.cell? ⟨W.heap.size, 2, none⟩ = some (.int .i64 D.cnt) ∧ w3.cell? ⟨W.heap.size, 3, none⟩ = some (.bool false) := ⟨(blk_cell (HS.out.blk 0 rfl) 0).trans rfl, (blk_cell (HS.out.blk 0 rfl) 1).trans rfl, (blk_cell (HS.out.blk 0 rfl) 2).trans rfl, (blk_cell (HS.out.blk 0 rfl) 3).trans rfl⟩
  refine pu 0 (some 7) ?_ (bt 29 1) (by kernel_rfl) ?_ ?_ ?_ ?_
  rotate_left
  ·intro w'
   go_simp
   with_reducible rfl
  rotate_left
  ·simp only [pS]
   rfl
  refine pu 2 (some 9) ?_ (bt 29 5) (by kernel_rfl) ?_ ?_ ?_ ?_
  rotate_left
  ·intro w'
   go_simp
   with_reducible rfl
  rotate_left
  ·simp only [pS]
   rfl
  refine pu 3 (some 10) ?_ (bt 29 13) (by kernel_rfl) ?_ ?_ ?_ ?_
  rotate_left
  ·intro w'
   go_simp
   with_reducible rfl
  rotate_left
  ·simp only [pS]
   rfl
  refine tk 4 (some 11) ?_ (bt 29 29) (by kernel_rfl) hHeld ?_ ?_ ?_ ?_
  rotate_left
  ·rintro w' ⟨s0, s1, s2, s3⟩
   go_simp
   with_reducible rfl
  rotate_left
  ·simp only [pS]
   rfl
  refine one_ (i := 1) (N := some 8) (bt 29 31) rfl rfl (by kernel_rfl) (by decide) (fun K hK => ?_)
  refine goes_ Try.func28 (by kernel_rfl) rfl #[.pointer (some ⟨gd, 0, none⟩)] (by rfl) rfl rfl (by (try simp only [List.map_toArray, List.map_cons, List.map_nil]); first | done | rfl) ?_
  have hcl := HS.out.failed
  rw [HF.out] at hcl
  refine hcl.mono ?_
  clear hcl
  rintro e w3_1 ⟨rfl, rfl⟩
  refine ⟨_, rfl, ?_⟩
  clear hHeld
  refine hK.out _ _ ⟨(blk_cell (HS.out.blk 0 rfl) 0).trans rfl, (blk_cell (HS.out.blk 0 rfl) 1).trans rfl, (blk_cell (HS.out.blk 0 rfl) 2).trans rfl, (blk_cell (HS.out.blk 0 rfl) 3).trans rfl⟩ (fun hHeld => ?_)
  clear hK K
  refine norm_ (a' := ?_) ?_ ?_
  rotate_left
  ·show Act.put _ (some 8) _ = _
   simp only [pS]
   rfl
  refine pu 5 (some 12) ?_ (bt 29 63) (by kernel_rfl) ?_ ?_ ?_ ?_
  rotate_left
  ·intro w'
   go_simp
   with_reducible rfl
  rotate_left
  ·simp only [pS]
   rfl
  refine pu 6 (some 13) ?_ (bt 29 127) (by kernel_rfl) ?_ ?_ ?_ ?_
  rotate_left
  ·intro w'
   go_simp
   with_reducible rfl
  rotate_left
  ·simp only [pS]
   rfl
  refine pu 7 (some 14) ?_ (bt 29 255) (by kernel_rfl) ?_ ?_ ?_ ?_
  rotate_left
  ·intro w'
   go_simp
   with_reducible rfl
  rotate_left
  ·simp only [pS]
   rfl
  refine pu 9 (some 16) ?_ (bt 29 767) (by kernel_rfl) ?_ ?_ ?_ ?_
  rotate_left
  ·intro w'
   go_simp
   with_reducible rfl
  rotate_left
  ·simp only [pS]
   rfl
  refine pu 10 (some 17) ?_ (bt 29 1791) (by kernel_rfl) ?_ ?_ ?_ ?_
  rotate_left
  ·intro w'
   go_simp
   with_reducible rfl
  rotate_left
  ·simp only [pS]
   rfl
  refine tk 11 (some 18) ?_ (bt 29 3839) (by kernel_rfl) hHeld ?_ ?_ ?_ ?_
  rotate_left
  ·rintro w' ⟨s0, s1, s2, s3⟩
   go_simp
   with_reducible rfl
  rotate_left
  ·simp only [pS]
   rfl
  refine pu 12 (some 19) ?_ (bt 29 7935) (by kernel_rfl) ?_ ?_ ?_ ?_
  rotate_left
  ·intro w'
   go_simp
   with_reducible rfl
  rotate_left
  ·simp only [pS]
   rfl
  refine one_ (i := 8) (N := some 15) (bt 29 8191) rfl rfl (by kernel_rfl) (by decide) (fun K hK => ?_)
  refine goes_ Try.func26 (by kernel_rfl) rfl #[.pointer (some ⟨gd, 0, none⟩)] (by rfl) rfl rfl (by (try simp only [List.map_toArray, List.map_cons, List.map_nil]); first | done | rfl) ?_
  refine HS.out.pending.mono ?_
  rintro e w3_2 ⟨rfl, rfl⟩
  refine ⟨_, rfl, ?_⟩
  clear hHeld
  refine hK.out _ _ ⟨(blk_cell (HS.out.blk 0 rfl) 0).trans rfl, (blk_cell (HS.out.blk 0 rfl) 1).trans rfl, (blk_cell (HS.out.blk 0 rfl) 2).trans rfl, (blk_cell (HS.out.blk 0 rfl) 3).trans rfl⟩ (fun hHeld => ?_)
  clear hK K
  refine norm_ (a' := ?_) ?_ ?_
  rotate_left
  ·show Act.put _ (some 15) _ = _
   simp only [pS]
   rfl
  refine pu 13 (some 20) ?_ (bt 29 16383) (by kernel_rfl) ?_ ?_ ?_ ?_
  rotate_left
  ·intro w'
   go_simp
   with_reducible rfl
  rotate_left
  ·simp only [pS]
   rfl
  refine pu 14 (some 21) ?_ (bt 29 32767) (by kernel_rfl) ?_ ?_ ?_ ?_
  rotate_left
  ·intro w'
   go_simp
   with_reducible rfl
  rotate_left
  ·simp only [pS]
   rfl
  refine pu 15 (some 22) ?_ (bt 29 65535) (by kernel_rfl) ?_ ?_ ?_ ?_
  rotate_left
  ·intro w'
   go_simp
   with_reducible rfl
  rotate_left
  ·simp only [pS]
   rfl
  refine pu 16 (some 23) ?_ (bt 29 131071) (by kernel_rfl) ?_ ?_ ?_ ?_
  rotate_left
  ·intro w'
   go_simp
   with_reducible rfl
  rotate_left
  ·simp only [pS]
   rfl
  refine one_ (i := 17) (N := some 24) (bt 29 262143) rfl rfl (by kernel_rfl) (by decide) (fun K hK => ?_)
  refine goes_ Try.func28 (by kernel_rfl) rfl #[.pointer (some ⟨gd, 0, none⟩)] (by rfl) rfl rfl (by (try simp only [List.map_toArray, List.map_cons, List.map_nil]); first | done | rfl) ?_
  have hcl := HS.out.failed
  rw [HF.out] at hcl
  refine hcl.mono ?_
  clear hcl
  rintro e w3_3 ⟨rfl, rfl⟩
  refine ⟨_, rfl, ?_⟩
  clear hHeld
  refine hK.out _ _ ⟨(blk_cell (HS.out.blk 0 rfl) 0).trans rfl, (blk_cell (HS.out.blk 0 rfl) 1).trans rfl, (blk_cell (HS.out.blk 0 rfl) 2).trans rfl, (blk_cell (HS.out.blk 0 rfl) 3).trans rfl⟩ (fun hHeld => ?_)
  clear hK K
  refine norm_ (a' := ?_) ?_ ?_
  rotate_left
  ·show Act.put _ (some 24) _ = _
   simp only [pS]
   rfl
  refine pu 18 (some 25) ?_ (bt 29 524287) (by kernel_rfl) ?_ ?_ ?_ ?_
  rotate_left
  ·intro w'
   go_simp
   with_reducible rfl
  rotate_left
  ·simp only [pS]
   rfl
  refine pu 19 (some 26) ?_ (bt 29 1048575) (by kernel_rfl) ?_ ?_ ?_ ?_
  rotate_left
  ·intro w'
   go_simp
   with_reducible rfl
  rotate_left
  ·simp only [pS]
   rfl
  refine pu 20 (some 27) ?_ (bt 29 2097151) (by kernel_rfl) ?_ ?_ ?_ ?_
  rotate_left
  ·intro w'
   go_simp
   with_reducible rfl
  rotate_left
  ·simp only [pS]
   rfl
  refine pu 22 (some 29) ?_ (bt 29 6291455) (by kernel_rfl) ?_ ?_ ?_ ?_
  rotate_left
  ·intro w'
   go_simp
   with_reducible rfl
  rotate_left
  ·simp only [pS]
   rfl
  refine tk 23 (some 30) ?_ (bt 29 14680063) (by kernel_rfl) hHeld ?_ ?_ ?_ ?_
  rotate_left
  ·rintro w' ⟨s0, s1, s2, s3⟩
   go_simp
   with_reducible rfl
  rotate_left
  ·simp only [pS]
   rfl
  refine one_ (i := 21) (N := some 28) (bt 29 16777215) rfl rfl (by kernel_rfl) (by decide) (fun K hK => ?_)
  refine goes_ Try.func42 (by kernel_rfl) rfl #[.pointer (some ⟨gd, 0, none⟩)] (by rfl) rfl rfl (by (try simp only [List.map_toArray, List.map_cons, List.map_nil]); first | done | rfl) ?_
  refine (HS.out.contents HOK.out HF.out).mono ?_
  rintro e w3_4 ⟨B, b, rfl, hb, hC, hb⟩
  have HB_ := AM hC
  replace HS := AM (HS.out.below hb)
  clear hC hb
  refine ⟨_, rfl, ?_⟩
  clear hHeld
  refine hK.out _ _ ⟨(blk_cell (HS.out.blk 0 rfl) 0).trans rfl, (blk_cell (HS.out.blk 0 rfl) 1).trans rfl, (blk_cell (HS.out.blk 0 rfl) 2).trans rfl, (blk_cell (HS.out.blk 0 rfl) 3).trans rfl⟩ (fun hHeld => ?_)
  clear hK K
  refine norm_ (a' := ?_) ?_ ?_
  rotate_left
  ·show Act.put _ (some 28) _ = _
   simp only [pS]
   rfl
  refine one_ (i := 24) (N := some 31) (bt 29 33554431) rfl rfl (by kernel_rfl) (by decide) (fun K hK => ?_)
  refine goes_ Try.func76 (by kernel_rfl) rfl #[.agg #[.slice A0 D.dur.length c0, .slice A1 D.pend.length c1, .int .i64 D.cnt, .bool false]] (by rfl) rfl rfl (by (try simp only [List.map_toArray, List.map_cons, List.map_nil]); first | done | rfl) ?_
  have hcl := HS.out.refContents HOK.out
  rw [HF.out] at hcl
  refine hcl.mono ?_
  clear hcl
  rintro e w3_5 ⟨E, e_, rfl, he_, hC, hb⟩
  have HE_ := AM hC
  replace HS := AM (HS.out.below hb)
  replace HB_ := AM (Kd.C_below HB_.out hb)
  clear hC hb
  refine ⟨_, rfl, ?_⟩
  clear hHeld
  refine hK.out _ _ ⟨(blk_cell (HS.out.blk 0 rfl) 0).trans rfl, (blk_cell (HS.out.blk 0 rfl) 1).trans rfl, (blk_cell (HS.out.blk 0 rfl) 2).trans rfl, (blk_cell (HS.out.blk 0 rfl) 3).trans rfl⟩ (fun hHeld => ?_)
  clear hK K
  refine norm_ (a' := ?_) ?_ ?_
  rotate_left
  ·show Act.put _ (some 31) _ = _
   simp only [pS]
   rfl
  refine one_ (i := 25) (N := some 32) (bt 29 67108863) rfl rfl (by kernel_rfl) (by decide) (fun K hK => ?_)
  refine goes_ Try.func23 (by kernel_rfl) rfl #[.slice B D.now.length b, .slice E D.now.length e_] (by rfl) rfl rfl (by (try simp only [List.map_toArray, List.map_cons, List.map_nil]); first | done | rfl) ?_
  have hcl := SameG_calls B b D.now E e_ D.now _ HB_.out hb HE_.out he_
  rw [decide_eq_true (rfl : D.now = D.now)] at hcl
  refine hcl.mono ?_
  clear hcl
  rintro e w3_6 ⟨rfl, hb'⟩
  replace HS := AM (HS.out.below hb')
  clear hb' HB_ HE_
  refine ⟨_, rfl, ?_⟩
  clear hHeld
  refine hK.out _ _ ⟨(blk_cell (HS.out.blk 0 rfl) 0).trans rfl, (blk_cell (HS.out.blk 0 rfl) 1).trans rfl, (blk_cell (HS.out.blk 0 rfl) 2).trans rfl, (blk_cell (HS.out.blk 0 rfl) 3).trans rfl⟩ (fun hHeld => ?_)
  clear hK K
  refine norm_ (a' := ?_) ?_ ?_
  rotate_left
  ·show Act.put _ (some 32) _ = _
   simp only [pS]
   rfl
  refine pu 26 (some 33) ?_ (bt 29 134217727) (by kernel_rfl) ?_ ?_ ?_ ?_
  rotate_left
  ·intro w'
   go_simp
   with_reducible rfl
  rotate_left
  ·simp only [pS]
   rfl
  refine pu 27 (some 34) ?_ (bt 29 268435455) (by kernel_rfl) ?_ ?_ ?_ ?_
  rotate_left
  ·intro w'
   go_simp
   with_reducible rfl
  rotate_left
  ·simp only [pS]
   rfl
  refine pu 28 (some 35) ?_ (bt 29 536870911) (by kernel_rfl) ?_ ?_ ?_ ?_
  rotate_left
  ·intro w'
   go_simp
   with_reducible rfl
  rotate_left
  ·simp only [pS]
   rfl
  refine done_ (by kernel_rfl) ?_
  clear hHeld
  go_upto_region 3 with fail
  refine start_ (n := 20) (S := fun w' => w'.cell? ⟨W.heap.size, 6, none⟩ = some (.slice A6 L.recs.length c6) ∧ w'.cell? ⟨W.heap.size, 7, none⟩ = some (.int .i64 L.end_) ∧ w'.cell? ⟨W.heap.size, 8, none⟩ = some (.int .i64 L.synced)) (ds := []) #[false, false, false, false, false, false, false, false, false, false, false, false, false, false, false, false, false, false, false, false] (by kernel_rfl) rfl rfl ⟨(blk_cell (HS.out.blk 0 rfl) 6).trans rfl, (blk_cell (HS.out.blk 0 rfl) 7).trans rfl, (blk_cell (HS.out.blk 0 rfl) 8).trans rfl⟩ (fun hHeld => ?_)
  clear hHeld
  replace HS := AM (HS.out.below (below_drew (Below.refl _ _)))
  generalize World.drew _ = w5 at HS ⊢
  have hHeld : w5.cell? ⟨W.heap.size, 6, none⟩ = some (.slice A6 L.recs.length c6) ∧ w5.cell? ⟨W.heap.size, 7, none⟩ = some (.int .i64 L.end_) ∧ w5.cell? ⟨W.heap.size, 8, none⟩ = some (.int .i64 L.synced) := ⟨(blk_cell (HS.out.blk 0 rfl) 6).trans rfl, (blk_cell (HS.out.blk 0 rfl) 7).trans rfl, (blk_cell (HS.out.blk 0 rfl) 8).trans rfl⟩
  refine pu 0 (some 36) ?_ (bt 20 1) (by kernel_rfl) ?_ ?_ ?_ ?_
  rotate_left
  ·intro w'
   go_simp
   with_reducible rfl
  rotate_left
  ·simp only [pS]
   rfl
  refine pu 2 (some 38) ?_ (bt 20 5) (by kernel_rfl) ?_ ?_ ?_ ?_
  rotate_left
  ·intro w'
   go_simp
   with_reducible rfl
  rotate_left
  ·simp only [pS]
   rfl
  refine tk 3 (some 39) ?_ (bt 20 13) (by kernel_rfl) hHeld ?_ ?_ ?_ ?_
  rotate_left
  ·rintro w' ⟨s0, s1, s2⟩
   go_simp
   with_reducible rfl
  rotate_left
  ·simp only [pS]
   rfl
  refine one_ (i := 1) (N := some 37) (bt 20 15) rfl rfl (by kernel_rfl) (by decide) (fun K hK => ?_)
  refine goes_ Try.func38 (by kernel_rfl) rfl #[.pointer (some ⟨g, 0, none⟩)] (by rfl) rfl rfl (by (try simp only [List.map_toArray, List.map_cons, List.map_nil]); first | done | rfl) ?_
  refine HS.out.end_.mono ?_
  rintro e w5_1 ⟨rfl, rfl⟩
  refine ⟨_, rfl, ?_⟩
  clear hHeld
  refine hK.out _ _ ⟨(blk_cell (HS.out.blk 0 rfl) 6).trans rfl, (blk_cell (HS.out.blk 0 rfl) 7).trans rfl, (blk_cell (HS.out.blk 0 rfl) 8).trans rfl⟩ (fun hHeld => ?_)
  clear hK K
  refine norm_ (a' := ?_) ?_ ?_
  rotate_left
  ·show Act.put _ (some 37) _ = _
   simp only [pS]
   rfl
  refine pu 4 (some 40) ?_ (bt 20 31) (by kernel_rfl) ?_ ?_ ?_ ?_
  rotate_left
  ·intro w'
   go_simp
   with_reducible rfl
  rotate_left
  ·simp only [pS]
   rfl
  refine pu 5 (some 41) ?_ (bt 20 63) (by kernel_rfl) ?_ ?_ ?_ ?_
  rotate_left
  ·intro w'
   go_simp
   with_reducible rfl
  rotate_left
  ·simp only [pS]
   rfl
  refine pu 6 (some 42) ?_ (bt 20 127) (by kernel_rfl) ?_ ?_ ?_ ?_
  rotate_left
  ·intro w'
   go_simp
   with_reducible rfl
  rotate_left
  ·simp only [pS]
   rfl
  refine pu 8 (some 44) ?_ (bt 20 383) (by kernel_rfl) ?_ ?_ ?_ ?_
  rotate_left
  ·intro w'
   go_simp
   with_reducible rfl
  rotate_left
  ·simp only [pS]
   rfl
  refine tk 9 (some 45) ?_ (bt 20 895) (by kernel_rfl) hHeld ?_ ?_ ?_ ?_
  rotate_left
  ·rintro w' ⟨s0, s1, s2⟩
   go_simp
   with_reducible rfl
  rotate_left
  ·simp only [pS]
   rfl
  refine one_ (i := 7) (N := some 43) (bt 20 1023) rfl rfl (by kernel_rfl) (by decide) (fun K hK => ?_)
  refine goes_ Try.func39 (by kernel_rfl) rfl #[.pointer (some ⟨g, 0, none⟩)] (by rfl) rfl rfl (by (try simp only [List.map_toArray, List.map_cons, List.map_nil]); first | done | rfl) ?_
  refine HS.out.synced.mono ?_
  rintro e w5_2 ⟨rfl, rfl⟩
  refine ⟨_, rfl, ?_⟩
  clear hHeld
  refine hK.out _ _ ⟨(blk_cell (HS.out.blk 0 rfl) 6).trans rfl, (blk_cell (HS.out.blk 0 rfl) 7).trans rfl, (blk_cell (HS.out.blk 0 rfl) 8).trans rfl⟩ (fun hHeld => ?_)
  clear hK K
  refine norm_ (a' := ?_) ?_ ?_
  rotate_left
  ·show Act.put _ (some 43) _ = _
   simp only [pS]
   rfl
  refine pu 10 (some 46) ?_ (bt 20 2047) (by kernel_rfl) ?_ ?_ ?_ ?_
  rotate_left
  ·intro w'
   go_simp
   with_reducible rfl
  rotate_left
  ·simp only [pS]
   rfl
  refine pu 11 (some 47) ?_ (bt 20 4095) (by kernel_rfl) ?_ ?_ ?_ ?_
  rotate_left
  ·intro w'
   go_simp
   with_reducible rfl
  rotate_left
  ·simp only [pS]
   rfl
  refine pu 12 (some 48) ?_ (bt 20 8191) (by kernel_rfl) ?_ ?_ ?_ ?_
  rotate_left
  ·intro w'
   go_simp
   with_reducible rfl
  rotate_left
  ·simp only [pS]
   rfl
  refine pu 13 (some 49) ?_ (bt 20 16383) (by kernel_rfl) ?_ ?_ ?_ ?_
  rotate_left
  ·intro w'
   go_simp
   with_reducible rfl
  rotate_left
  ·simp only [pS]
   rfl
  refine pu 15 (some 51) ?_ (bt 20 49151) (by kernel_rfl) ?_ ?_ ?_ ?_
  rotate_left
  ·intro w'
   go_simp
   with_reducible rfl
  rotate_left
  ·simp only [pS]
   rfl
  refine tk 16 (some 52) ?_ (bt 20 114687) (by kernel_rfl) hHeld ?_ ?_ ?_ ?_
  rotate_left
  ·rintro w' ⟨s0, s1, s2⟩
   go_simp
   with_reducible rfl
  rotate_left
  ·simp only [pS]
   rfl
  refine one_ (i := 14) (N := some 50) (bt 20 131071) rfl rfl (by kernel_rfl) (by decide) (fun K hK => ?_)
  refine goes_ Try.func41 (by kernel_rfl) rfl #[.pointer (some ⟨g, 0, none⟩)] (by rfl) rfl rfl (by (try simp only [List.map_toArray, List.map_cons, List.map_nil]); first | done | rfl) ?_
  refine (HS.out.records HRL.out HDL.out).mono ?_
  rintro e w5_3 ⟨B, b, rfl, hbl, hC, hb⟩
  have HB_ := AM hC
  replace HS := AM (HS.out.below hb)
  clear hC hb
  refine ⟨_, rfl, ?_⟩
  clear hHeld
  refine hK.out _ _ ⟨(blk_cell (HS.out.blk 0 rfl) 6).trans rfl, (blk_cell (HS.out.blk 0 rfl) 7).trans rfl, (blk_cell (HS.out.blk 0 rfl) 8).trans rfl⟩ (fun hHeld => ?_)
  clear hK K
  refine norm_ (a' := ?_) ?_ ?_
  rotate_left
  ·show Act.put _ (some 50) _ = _
   simp only [pS]
   rfl
  refine one_ (i := 17) (N := some 53) (bt 20 262143) rfl rfl (by kernel_rfl) (by decide) (fun K hK => ?_)
  refine goes_ Try.func40 (by kernel_rfl) rfl #[.slice B L.recs.length b, .slice A6 L.recs.length c6] (by rfl) rfl rfl (by (try simp only [List.map_toArray, List.map_cons, List.map_nil]); first | done | rfl) ?_
  refine (HS.out.same HRL.out HDL.out hbl HB_.out).mono ?_
  rintro e w5_4 ⟨rfl, hb⟩
  replace HS := AM (HS.out.below hb)
  clear hb HB_
  refine ⟨_, rfl, ?_⟩
  clear hHeld
  refine hK.out _ _ ⟨(blk_cell (HS.out.blk 0 rfl) 6).trans rfl, (blk_cell (HS.out.blk 0 rfl) 7).trans rfl, (blk_cell (HS.out.blk 0 rfl) 8).trans rfl⟩ (fun hHeld => ?_)
  clear hK K
  refine norm_ (a' := ?_) ?_ ?_
  rotate_left
  ·show Act.put _ (some 53) _ = _
   simp only [pS]
   rfl
  refine pu 18 (some 54) ?_ (bt 20 524287) (by kernel_rfl) ?_ ?_ ?_ ?_
  rotate_left
  ·intro w'
   go_simp
   with_reducible rfl
  rotate_left
  ·simp only [pS]
   rfl
  refine pu 19 (some 6) ?_ (bt 20 1048575) (by kernel_rfl) ?_ ?_ ?_ ?_
  rotate_left
  ·intro w'
   go_simp
   with_reducible rfl
  rotate_left
  ·simp only [pS]
   rfl
  refine done_ (by kernel_rfl) ?_
  clear hHeld
  go_wp2_with fail
  go_ret
  exact ⟨rfl, HS.out.2⟩
end Go.Proofs.Ytbbokpkpdnppjaa
namespace Go.Proofs.Ytbbokpkpdnppjaa
open Go.RowKit Go.Proofs.YtbbokpkpdnppjaaW.PrintWords Go.Proofs.YtbbokpkpdnppjaaW.PrintLast Go.Proofs.YtbbokpkpdnppjaaW.PrintMore
set_option linter.unusedVariables false
set_option linter.unusedSimpArgs false
/-! ### few, opening a disk that nothing troubles, the calls of a round -/
theorem rd79_get (l : List G.S79) (i : Nat) (h : i < l.length) : G.rd_T79 l (i : Int) = l[i] := by simp [G.rd_T79, List.getD_eq_getElem?_getD, h]
def FewP (l : List G.S79) (w : World) (e : Ending) (w' : World) : Prop := ∃ r, e = .returned (.bool r) ∧ (r = true → l.length ≤ 16 ∧ ∀ x ∈ l, x.f1.length ≤ 60 ∧ x.f3.length ≤ 40) ∧ Below w.heap.size w w'
theorem FewP.mk {l : List G.S79} {w w' : World} {e : Ending} (r : Bool) (he : e = .returned (.bool r)) (h1 : r = true → l.length ≤ 16 ∧ ∀ x ∈ l, x.f1.length ≤ 60 ∧ x.f3.length ≤ 40) (h2 : Below w.heap.size w w') : FewP l w e w' := ⟨r, he, h1, h2⟩
set_option maxRecDepth 100000 in
set_option maxHeartbeats 8000000 in
theorem few15_calls (A : Option Addr) (c : Nat) (l : List G.S79) (w : World) (hC : Kd.C G.k79 w A l.length l) (hc : l.length ≤ c) :
  Calls Try.prog 45 #[.slice A l.length c, .int .i64 16] w (FewP l w) := by
 have HC := Aside0.mk hC
 have hll := hC.2.1
 clear hC
 go_enter Try.func45, Try.ntmps45
 go_wp2_with fail
 go_loopw [5] (fun v wr => ∃ i : Nat, i ≤ l.length ∧ v = .int .i64 (i : Int) ∧ Aside0 (∀ j, j < i → (G.rd_T79 l (j : Int)).f1.length ≤ 60 ∧ (G.rd_T79 l (j : Int)).f3.length ≤ 40) ∧ Aside0 (Below w.heap.size w wr)) (fun v _ => l.length - (intOf v).toNat)
 case atStart => exact ⟨0, Nat.zero_le _, rfl, ⟨fun j hj => absurd hj (Nat.not_lt_zero j)⟩, ⟨Below.refl _ _⟩⟩
 case round =>
  obtain ⟨i, hi, rfl, HJ, HBR⟩ := hrel
  by_cases hlt : i < l.length
  ·have hlt' : ((i : Int) < (l.length : Int)) := by omega
   obtain ⟨ad, A1, c1, A3, c3, ead, y0, y1, y2, y3, _, _, _, _⟩ := G.at_T79 HC.out (i : Int) (by omega) (by omega)
   subst ead
   replace y1 := (HBR.out.cell (World.block_lt_of_cell? _ _ y1)).trans y1
   replace y3 := (HBR.out.cell (World.block_lt_of_cell? _ _ y3)).trans y3
   clear y0 y2
   simp only [Int.toNat_natCast] at y1 y3
   have HX := Aside0.mk (show ((G.rd_T79 l (i : Int)).f1.length ≤ 60 ∧ (G.rd_T79 l (i : Int)).f3.length ≤ 40) → ∀ j, j < i + 1 → (G.rd_T79 l (j : Int)).f1.length ≤ 60 ∧ (G.rd_T79 l (j : Int)).f3.length ≤ 40 from fun h j hj => by
    by_cases hji : j < i
    ·exact HJ.out j hji
    ·obtain rfl : j = i := by omega
     exact h)
   generalize (G.rd_T79 l (i : Int)).f1 = x1 at y1 HX
   generalize (G.rd_T79 l (i : Int)).f3 = x3 at y3 HX
   by_cases k1 : (x1.length : Int) > 60
   ·go_wp2_with fail
    go_ret
    exact FewP.mk false rfl (fun h => by cases h) HBR.out
   ·by_cases k3 : (x3.length : Int) > 40
    ·go_wp2_with fail
     go_ret
     exact FewP.mk false rfl (fun h => by cases h) HBR.out
    ·go_wp2_with fail
     go_roundw
     case rel => exact ⟨i + 1, hlt, by go_num, ⟨HX.out ⟨by omega, by omega⟩⟩, HBR⟩
     case measure => simp [intOf]; omega
  ·obtain rfl : i = l.length := by omega
   go_wp2_with fail
   go_ret
   refine FewP.mk _ rfl (fun h => ⟨by have h := of_decide_eq_true h; omega, fun x hx => ?_⟩) HBR.out
   obtain ⟨j, hj, rfl⟩ := List.getElem_of_mem hx
   have := HJ.out j hj
   rwa [rd79_get l j hj] at this
theorem open_still {w0 W : World} {Q : Nat → Prop} {gd : Nat} {D : Dk} (h : Sts w0 W Q [(gd, D)]) (hok : D.Ok) (hs : Still D) (h24 : 24 ≤ D.dur.length) (hB : Bytes D.dur) :
  Calls Try.prog 36 #[.pointer (some ⟨gd, 0, none⟩)] W fun e W' => ∃ (g at_ : Nat) (rs : List G.S73) (sl ba : Int), e = .returned (.tuple #[.pointer (some ⟨g, 0, none⟩), .int .i64 0]) ∧ basesN D.dur 2 = (sl, ba) ∧ Path D.dur ba at_ rs ∧ frameAt D.dur ba at_ = none ∧ ∃ Q' rok : Nat → Prop, (∀ k, Q k → Q' k) ∧ (∀ k, rok k → W.heap.size ≤ k) ∧ LogS w0 W' Q' rok g gd ⟨sl, ba, ba + (at_ : Int) - 24, ba + (at_ : Int) - 24, rs⟩ (eraseD D D.dur at_).1 ∧ W.heap.size ≤ g ∧ KeepP Q W W' := by
 obtain ⟨sl, ba, hbs⟩ : ∃ sl ba, basesN D.dur 2 = (sl, ba) := ⟨_, _, rfl⟩
 have hrg := basesN_range D.dur hB h24
 rw [hbs] at hrg
 have hrd : D.read 0 (D.dur.length : Int) = (D.dur, 0) := by
  unfold Dk.read
  rw [if_neg (by rw [hs.failed]; simp), if_neg (by simp [insd])]
  simp [Dk.now, hs.pend, layAll]
 refine (open_calls h hok hs.failed (by rw [hs.pend]; decide) D.dur rfl hrd h24 hB sl ba hbs hrg.1 hrg.2 (fun a _ h2 => by
  have := erase_full D D.dur rfl hs.pend hs.cnt hs.failed a h2
  exact ⟨this.1, by rw [this.2.2.1]; rfl⟩)).mono ?_
 rintro e W' ⟨g, at_, rs, rfl, hP, hn, Q', rok, hq, hr, hl, hg, hk⟩
 exact ⟨g, at_, rs, sl, ba, rfl, hbs, hP, hn, Q', rok, hq, hr, hl, hg, hk⟩
def LoopW (n : Nat) (w wr : World) (b g gd k : Nat) : Prop := ∃ A0 c0 A1 c1 A6 c6 L D, Inv n k L D ∧ LW w wr [(b, 64, #[.slice A0 D.dur.length c0, .slice A1 D.pend.length c1, .int .i64 D.cnt, .bool D.failed, .int .i64 L.base, .int .i64 L.slot, .slice A6 L.recs.length c6, .int .i64 L.end_, .int .i64 L.synced])] g gd A0 c0 A1 c1 A6 c6 L D L D
section
variable {w0 W : World} {bs : List (Nat × TypeId × Array Value)} {g gd n k : Nat} {A0 A1 A6 : Option Addr} {c0 c1 c6 : Nat} {Lr L : Lg} {Dr D : Dk}
theorem LW.append (h : LW w0 W bs g gd A0 c0 A1 c1 A6 c6 Lr Dr L D) (hi : Inv n k L D) (hn : n ≤ 160) (hk : k ≤ 100) (A : Option Addr) (c : Nat) (data : List Int) (hC : Kd.C (Kd.int .u8) w0 A data.length data) (hc : data.length ≤ c) (hd : data.length ≤ 60) :
  Calls Try.prog 43 #[.pointer (some ⟨g, 0, none⟩), .slice A data.length c] W fun e w' => e = .returned (.tuple #[.int .i64 (appendL L D L.pos data).2.2.1, .int .i64 (appendL L D L.pos data).2.2.2]) ∧ LW w0 w' bs g gd A0 c0 A1 c1 A6 c6 Lr Dr (appendL L D L.pos data).1 (appendL L D L.pos data).2.1 := by
 have hB := h.bel
 obtain ⟨Q, rok, hl, hp, _, _⟩ := h.getLog
 obtain ⟨h1, h2, _⟩ := hi.pos_eq hn hk
 have h3 := hi.few
 have h4 := hi.fit
 refine (Append_calls hl hi.ok L.pos h1 h2 A c data (Kd.C_below hC hB) (fun a ha h0 => .inl (Sts.arg_block hC a ha h0)) hc (by omega) (by omega)).mono ?_
 rintro e w' ⟨rfl, hq⟩
 exact ⟨rfl, hp _ _ _ hq⟩
theorem LW.refAppend (h : LW w0 W bs g gd A0 c0 A1 c1 A6 c6 Lr Dr L D) (hi : Inv n k Lr Dr) (hn : n ≤ 160) (hk : k ≤ 100) (A : Option Addr) (c : Nat) (data : List Int) (hC : Kd.C (Kd.int .u8) w0 A data.length data) (hc : data.length ≤ c) (hd : data.length ≤ 60) :
  Calls Try.prog 47 #[.agg #[.slice A0 Dr.dur.length c0, .slice A1 Dr.pend.length c1, .int .i64 Dr.cnt, .bool Dr.failed, .int .i64 Lr.base, .int .i64 Lr.slot, .slice A6 Lr.recs.length c6, .int .i64 Lr.end_, .int .i64 Lr.synced], .slice A data.length c] W fun e w' => ∃ B0 d0 B1 d1 B6 d6, e = .returned (.tuple #[.agg #[.slice B0 (appendL Lr Dr Lr.pos data).2.1.dur.length d0, .slice B1 (appendL Lr Dr Lr.pos data).2.1.pend.length d1, .int .i64 (appendL Lr Dr Lr.pos data).2.1.cnt, .bool (appendL Lr Dr Lr.pos data).2.1.failed, .int .i64 (appendL Lr Dr Lr.pos data).1.base, .int .i64 (appendL Lr Dr Lr.pos data).1.slot, .slice B6 (appendL Lr Dr Lr.pos data).1.recs.length d6, .int .i64 (appendL Lr Dr Lr.pos data).1.end_, .int .i64 (appendL Lr Dr Lr.pos data).1.synced], .int .i64 (appendL Lr Dr Lr.pos data).2.2.1, .int .i64 (appendL Lr Dr Lr.pos data).2.2.2]) ∧
   LW w0 w' bs g gd B0 d0 B1 d1 B6 d6 (appendL Lr Dr Lr.pos data).1 (appendL Lr Dr Lr.pos data).2.1 L D := by
 have hB := h.bel
 obtain ⟨okk, hv, hko, hp⟩ := h.getRef
 obtain ⟨h1, h2, _⟩ := hi.pos_eq hn hk
 have h3 := hi.few
 have h4 := hi.fit
 have h5 := hi.pend
 refine (refAppend_calls hv hi.ok (by omega) h1 h2 (by omega) A c data (Kd.C_below hC hB) hc hd (Kd.F_mono (Kd.F_below (Kd.C_F (Kd.heap_int .u8) hC) hB) hko)).mono ?_
 rintro e w' ⟨v', rfl, hr, hb⟩
 obtain ⟨B0, d0, B1, d1, B6, d6, rfl, hl⟩ := hp _ _ _ _ hr hb
 exact ⟨B0, d0, B1, d1, B6, d6, rfl, hl⟩
theorem LW.sync (h : LW w0 W bs g gd A0 c0 A1 c1 A6 c6 Lr Dr L D) (hok : D.Ok) : Calls Try.prog 44 #[.pointer (some ⟨g, 0, none⟩)] W fun e w' => e = .returned (.int .i64 D.sync.2) ∧ LW w0 w' bs g gd A0 c0 A1 c1 A6 c6 Lr Dr (syncL L D) D.sync.1 := by
 obtain ⟨Q, rok, hl, hp, _, _⟩ := h.getLog
 refine (LogSync_calls hl hok).mono ?_
 rintro e w' ⟨rfl, hq⟩
 exact ⟨rfl, hp _ _ _ hq⟩
theorem LW.refSync (h : LW w0 W bs g gd A0 c0 A1 c1 A6 c6 Lr Dr L D) (hok : Dr.Ok) :
  Calls Try.prog 48 #[.agg #[.slice A0 Dr.dur.length c0, .slice A1 Dr.pend.length c1, .int .i64 Dr.cnt, .bool Dr.failed, .int .i64 Lr.base, .int .i64 Lr.slot, .slice A6 Lr.recs.length c6, .int .i64 Lr.end_, .int .i64 Lr.synced]] W fun e w' => ∃ B0 d0 B1 d1 B6 d6, e = .returned (.tuple #[.agg #[.slice B0 Dr.sync.1.dur.length d0, .slice B1 Dr.sync.1.pend.length d1, .int .i64 Dr.sync.1.cnt, .bool Dr.sync.1.failed, .int .i64 (syncL Lr Dr).base, .int .i64 (syncL Lr Dr).slot, .slice B6 (syncL Lr Dr).recs.length d6, .int .i64 (syncL Lr Dr).end_, .int .i64 (syncL Lr Dr).synced], .int .i64 Dr.sync.2]) ∧
   LW w0 w' bs g gd B0 d0 B1 d1 B6 d6 (syncL Lr Dr) Dr.sync.1 L D := by
 obtain ⟨okk, hv, hko, hp⟩ := h.getRef
 refine (refSync_calls hv hok).mono ?_
 rintro e w' ⟨v', rfl, hr, hb⟩
 obtain ⟨B0, d0, B1, d1, B6, d6, rfl, hl⟩ := hp _ _ _ _ hr hb
 exact ⟨B0, d0, B1, d1, B6, d6, rfl, hl⟩
theorem LW.reset (h : LW w0 W bs g gd A0 c0 A1 c1 A6 c6 Lr Dr L D) (hi : Inv n k L D) (hn : n ≤ 160) (hk : k ≤ 90) : Calls Try.prog 49 #[.pointer (some ⟨g, 0, none⟩)] W fun e w' => e = .returned (.int .i64 (resetL L D).2.2) ∧ LW w0 w' bs g gd A0 c0 A1 c1 A6 c6 Lr Dr (resetL L D).1 (resetL L D).2.1 := by
 obtain ⟨Q, rok, hl, hp, _, _⟩ := h.getLog
 have h1 := hi.pend
 have h2 := hi.fit
 have h3 := hi.b2
 refine (Reset_calls hl hi.ok (by omega) hi.b0 hi.b1 (by omega) (by omega)).mono ?_
 rintro e w' ⟨rfl, hq⟩
 exact ⟨rfl, hp _ _ _ hq⟩
theorem LW.refReset (h : LW w0 W bs g gd A0 c0 A1 c1 A6 c6 Lr Dr L D) (hi : Inv n k Lr Dr) (hn : n ≤ 160) (hk : k ≤ 90) :
  Calls Try.prog 50 #[.agg #[.slice A0 Dr.dur.length c0, .slice A1 Dr.pend.length c1, .int .i64 Dr.cnt, .bool Dr.failed, .int .i64 Lr.base, .int .i64 Lr.slot, .slice A6 Lr.recs.length c6, .int .i64 Lr.end_, .int .i64 Lr.synced]] W fun e w' => ∃ B0 d0 B1 d1 B6 d6, e = .returned (.tuple #[.agg #[.slice B0 (resetL Lr Dr).2.1.dur.length d0, .slice B1 (resetL Lr Dr).2.1.pend.length d1, .int .i64 (resetL Lr Dr).2.1.cnt, .bool (resetL Lr Dr).2.1.failed, .int .i64 (resetL Lr Dr).1.base, .int .i64 (resetL Lr Dr).1.slot, .slice B6 (resetL Lr Dr).1.recs.length d6, .int .i64 (resetL Lr Dr).1.end_, .int .i64 (resetL Lr Dr).1.synced], .int .i64 (resetL Lr Dr).2.2]) ∧
   LW w0 w' bs g gd B0 d0 B1 d1 B6 d6 (resetL Lr Dr).1 (resetL Lr Dr).2.1 L D := by
 obtain ⟨okk, hv, hko, hp⟩ := h.getRef
 have h1 := hi.pend
 have h2 := hi.fit
 have h3 := hi.b2
 refine (refReset_calls hv hi.ok (by omega) hi.b0 hi.b1 (by omega) (by omega)).mono ?_
 rintro e w' ⟨v', rfl, hr, hb⟩
 obtain ⟨B0, d0, B1, d1, B6, d6, rfl, hl⟩ := hp _ _ _ _ hr hb
 exact ⟨B0, d0, B1, d1, B6, d6, rfl, hl⟩
theorem LW.failAfter (h : LW w0 W bs g gd A0 c0 A1 c1 A6 c6 Lr Dr L D) (x : Int) : Calls Try.prog 27 #[.pointer (some ⟨gd, 0, none⟩), .int .i64 x] W fun e w' => e = .returned (.tuple #[]) ∧ LW w0 w' bs g gd A0 c0 A1 c1 A6 c6 Lr Dr L (D.after x) := by
 obtain ⟨Q, rok, hl, _, hp, _⟩ := h.getLog
 refine (hl.1.failAfter 0 rfl x).mono ?_
 rintro e w' ⟨rfl, hs, hk⟩
 exact ⟨rfl, hp _ _ hs hk⟩
theorem LW.refFailAfter (h : LW w0 W bs g gd A0 c0 A1 c1 A6 c6 Lr Dr L D) (x : Int) :
  Calls Try.prog 51 #[.agg #[.slice A0 Dr.dur.length c0, .slice A1 Dr.pend.length c1, .int .i64 Dr.cnt, .bool Dr.failed], .int .i64 x] W fun e w' => ∃ B0 d0 B1 d1, e = .returned (.agg #[.slice B0 (Dr.after x).dur.length d0, .slice B1 (Dr.after x).pend.length d1, .int .i64 (Dr.after x).cnt, .bool (Dr.after x).failed]) ∧ LW w0 w' bs g gd B0 d0 B1 d1 A6 c6 Lr (Dr.after x) L D := by
 obtain ⟨okk, hv, hko, hp⟩ := h.getRef
 refine (ref_failAfter hv.part.1 x).mono ?_
 rintro e w' ⟨v', rfl, hr, hb⟩
 obtain ⟨C0, e0, C1, e1, rfl, hr2⟩ := hv.redisk hr hb
 obtain ⟨B0, d0, B1, d1, B6, d6, he, hl⟩ := hp _ _ _ _ hr2 hb
 injection he with he
 have he' := congrArg Array.toList he
 simp only [List.cons.injEq, Value.slice.injEq, true_and, and_true] at he'
 obtain ⟨⟨rfl, rfl⟩, ⟨rfl, rfl⟩, rfl, rfl⟩ := he'
 exact ⟨C0, e0, C1, e1, rfl, hl⟩
theorem LW.crash (h : LW w0 W bs g gd A0 c0 A1 c1 A6 c6 Lr Dr L D) (hok : D.Ok) (A : Option Addr) (c : Nat) (ss : List Int) (hC : Kd.C (Kd.int .i64) w0 A ss.length ss) : Calls Try.prog 22 #[.pointer (some ⟨gd, 0, none⟩), .slice A ss.length c] W fun e w' => e = .returned (.tuple #[]) ∧ LW w0 w' bs g gd A0 c0 A1 c1 A6 c6 Lr Dr L (D.crashed ss) := by
 obtain ⟨Q, rok, hl, _, hp, _⟩ := h.getLog
 refine (hl.1.crash_arg 0 rfl hok A c ss hC).mono ?_
 rintro e w' ⟨rfl, hs, hk⟩
 exact ⟨rfl, hp _ _ hs hk⟩
theorem LW.reopen (h : LW w0 W bs g gd A0 c0 A1 c1 A6 c6 Lr Dr L D) (hok : D.Ok) (hs : Still D) (h24 : 24 ≤ D.dur.length) (hB : Bytes D.dur) :
  Calls Try.prog 36 #[.pointer (some ⟨gd, 0, none⟩)] W fun e w' => ∃ (g' at_ : Nat) (rs : List G.S73) (sl ba : Int), e = .returned (.tuple #[.pointer (some ⟨g', 0, none⟩), .int .i64 0]) ∧ (basesN D.dur 2 = (sl, ba) ∧ Path D.dur ba at_ rs ∧ frameAt D.dur ba at_ = none) ∧ LW w0 w' bs g' gd A0 c0 A1 c1 A6 c6 Lr Dr ⟨sl, ba, ba + (at_ : Int) - 24, ba + (at_ : Int) - 24, rs⟩ (eraseD D D.dur at_).1 := by
 obtain ⟨Q, rok, hl, _, _, hp⟩ := h.getLog
 refine (open_still hl.1 hok hs h24 hB).mono ?_
 rintro e w' ⟨g', at_, rs, sl, ba, rfl, hbs, hP, hn, Q', rok', hq, hr, hl', hg, hk⟩
 exact ⟨g', at_, rs, sl, ba, rfl, ⟨hbs, hP, hn⟩, hp _ _ _ _ _ _ hq hr hl' hg hk⟩
theorem LW.refCrash (h : LW w0 W bs g gd A0 c0 A1 c1 A6 c6 Lr Dr L D) (hok : Dr.Ok) (A : Option Addr) (c : Nat) (ss : List Int) (hC : Kd.C (Kd.int .i64) w0 A ss.length ss) (hc : ss.length ≤ c) :
  Calls Try.prog 52 #[.agg #[.slice A0 Dr.dur.length c0, .slice A1 Dr.pend.length c1, .int .i64 Dr.cnt, .bool Dr.failed], .slice A ss.length c] W fun e w' => ∃ B0 d0 B1 d1, e = .returned (.agg #[.slice B0 (Dr.crashed ss).dur.length d0, .slice B1 (Dr.crashed ss).pend.length d1, .int .i64 (Dr.crashed ss).cnt, .bool (Dr.crashed ss).failed]) ∧ LW w0 w' bs g gd B0 d0 B1 d1 A6 c6 Lr (Dr.crashed ss) L D := by
 have hB := h.bel
 obtain ⟨okk, hv, hko, hp⟩ := h.getRef
 refine (ref_crash hv.part.1 hok A c ss (Kd.C_below hC hB) hc).mono ?_
 rintro e w' ⟨v', rfl, hr, hb⟩
 obtain ⟨C0, e0, C1, e1, rfl, hr2⟩ := hv.redisk hr hb
 obtain ⟨B0, d0, B1, d1, B6, d6, he, hl⟩ := hp _ _ _ _ hr2 hb
 injection he with he
 have he' := congrArg Array.toList he
 simp only [List.cons.injEq, Value.slice.injEq, true_and, and_true] at he'
 obtain ⟨⟨rfl, rfl⟩, ⟨rfl, rfl⟩, rfl, rfl⟩ := he'
 exact ⟨C0, e0, C1, e1, rfl, hl⟩
theorem LW.refOpen (h : LW w0 W bs g gd A0 c0 A1 c1 A6 c6 Lr Dr L D) (hok : Dr.Ok) (hs : Still Dr) (h24 : 24 ≤ Dr.dur.length) (hB : Bytes Dr.dur) {sl ba : Int} {at_ : Nat} {rs : List G.S73} (ho : basesN Dr.dur 2 = (sl, ba) ∧ Path Dr.dur ba at_ rs ∧ frameAt Dr.dur ba at_ = none) :
  Calls Try.prog 46 #[.agg #[.slice A0 Dr.dur.length c0, .slice A1 Dr.pend.length c1, .int .i64 Dr.cnt, .bool Dr.failed]] W fun e w' => ∃ B0 d0 B1 d1 B6 d6, e = .returned (.tuple #[.agg #[.slice B0 (eraseD Dr Dr.dur at_).1.dur.length d0, .slice B1 (eraseD Dr Dr.dur at_).1.pend.length d1, .int .i64 (eraseD Dr Dr.dur at_).1.cnt, .bool (eraseD Dr Dr.dur at_).1.failed, .int .i64 ba, .int .i64 sl, .slice B6 rs.length d6, .int .i64 (ba + (at_ : Int) - 24), .int .i64 (ba + (at_ : Int) - 24)], .int .i64 0]) ∧
   LW w0 w' bs g gd B0 d0 B1 d1 B6 d6 ⟨sl, ba, ba + (at_ : Int) - 24, ba + (at_ : Int) - 24, rs⟩ (eraseD Dr Dr.dur at_).1 L D := by
 obtain ⟨okk, hv, hko, hp⟩ := h.getRef
 refine (refOpen_calls hv.part.1 hok hs h24 hB ho.1 ho.2.1 ho.2.2).mono ?_
 rintro e w' ⟨v', rfl, hr, hb⟩
 obtain ⟨B0, d0, B1, d1, B6, d6, rfl, hl⟩ := hp _ _ _ _ hr hb
 exact ⟨B0, d0, B1, d1, B6, d6, rfl, hl⟩
end
end Go.Proofs.Ytbbokpkpdnppjaa
