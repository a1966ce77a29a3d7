/- The log: its ends; the chapter's example; the walk of WalFrame. -/
import Derived.Test.YtbbokpkpdnppjaaM1
import Derived.Test.YtbbokpkpdnppjaaGx2
namespace Go.Proofs.Ytbbokpkpdnppjaa
open Go.RowKit Go.Proofs.YtbbokpkpdnppjaaW.PrintWords Go.Proofs.YtbbokpkpdnppjaaW.PrintLast Go.Proofs.YtbbokpkpdnppjaaW.PrintMore
set_option linter.unusedVariables false
set_option linter.unusedSimpArgs false

theorem LogS.fenced {w0 W W1 : World} {Q rok : Nat → Prop} {g gd : Nat} {L : Lg} {D : Dk} (h : LogS w0 W Q rok g gd L D) (hb : Below W.heap.size W W1) : LogS w0 W1 (fun k => Q k ∨ (W.heap.size ≤ k ∧ k < W1.heap.size)) rok g gd L D := by
  obtain ⟨hs, v, h1, h2, h3, h4, h5⟩ := h
  exact ⟨hs.fenced hb, v, (hb.block g (blk_lt h1)).trans h1, Kd.N_below h2 hb, fun k hk => ⟨.inl (h3 k hk).1, (h3 k hk).2⟩, .inl h4, h5⟩
theorem LogS.bel {w0 W : World} {Q rok : Nat → Prop} {g gd : Nat} {L : Lg} {D : Dk} (h : LogS w0 W Q rok g gd L D) : Below w0.heap.size w0 W := h.1.bel
set_option maxRecDepth 100000 in
set_option maxHeartbeats 8000000 in
theorem End_calls {w0 W : World} {Q rok : Nat → Prop} {g gd : Nat} {L : Lg} {D : Dk} (h : LogS w0 W Q rok g gd L D) : Calls Try.prog 38 #[.pointer (some ⟨g, 0, none⟩)] W fun e w' => e = .returned (.int .i64 L.end_) ∧ W = w' := by
  obtain ⟨_, v, h1, _⟩ := h
  have F3 := (blk_cell h1 3).trans rfl
  clear h1
  go_enter Try.func38, Try.ntmps38
  go_wp2_with fail
  go_ret
  exact ⟨rfl, rfl⟩
set_option maxRecDepth 100000 in
set_option maxHeartbeats 8000000 in
theorem Synced_calls {w0 W : World} {Q rok : Nat → Prop} {g gd : Nat} {L : Lg} {D : Dk} (h : LogS w0 W Q rok g gd L D) : Calls Try.prog 39 #[.pointer (some ⟨g, 0, none⟩)] W fun e w' => e = .returned (.int .i64 L.synced) ∧ W = w' := by
  obtain ⟨_, v, h1, _⟩ := h
  have F4 := (blk_cell h1 4).trans rfl
  clear h1
  go_enter Try.func39, Try.ntmps39
  go_wp2_with fail
  go_ret
  exact ⟨rfl, rfl⟩
/-- A disk that fails at no call. -/
def Dk.Calm (D : Dk) : Prop := D.failed = false ∧ D.cnt = -1
theorem Dk.Calm.write {D : Dk} (h : D.Calm) (a : Nat) (l : List Int) (ha : a + l.length ≤ D.dur.length) : D.write (a : Int) l = (D.burnt.wrote (a : Int) l, 0) ∧ (D.burnt.wrote (a : Int) l).Calm ∧ (D.burnt.wrote (a : Int) l).dur = D.dur ∧ (D.burnt.wrote (a : Int) l).pend = D.pend ++ [⟨(a : Int), l⟩] := by
  obtain ⟨h1, h2⟩ := h
  refine ⟨?_, ⟨h1, by simp [Dk.wrote, Dk.burnt, h2]⟩, rfl, rfl⟩
  unfold Dk.write
  rw [if_neg (by simp [h1]), if_neg (by simp [insd]; omega), if_neg (by omega)]
theorem fresh_calm (m : Nat) : (Dk.fresh m).Calm := ⟨rfl, rfl⟩
set_option maxRecDepth 100000 in
set_option maxHeartbeats 8000000 in
theorem awake15 (w : World) : Calls Try.prog 33 #[] w fun e w' => e = .returned (.bool true) ∧ Below w.heap.size w w' := by
  have kc := fun (w : World) (C : Array Value) (n c : Nat) => Lib.run_convert_bytes_const (P := Try.prog) w 29 5 C n c Try.underlying29 Try.underlying5
  go_enter Try.func33, Try.ntmps33
  go_wp2_with fail
  refine ((Sts.none_ (Below.refl w.heap.size w) (P := fun _ => False) (fun k hk => hk.elim)).new 100 (by omega) (by omega)).mono ?_
  rintro e w1 ⟨gd, rfl, hs, _⟩
  have S1 := Aside0.mk hs
  clear hs
  go_wp2_with fail
  refine (open0_calls 100 (by omega) (by omega) S1.out).mono ?_
  rintro e w2 ⟨g, rfl, Q2, _, hl, _, _⟩
  have L2 := Aside0.mk hl
  clear hl
  go_wp2_with fail
  have hal : Below w2.heap.size w2 (w2.alloc (.cells #[.int .u8 97, .int .u8 98] 5 (2, 3))) := below_alloc (Below.refl _ _) _
  have hcx := St.lit_C w2 .u8 5 #[.int .u8 97, .int .u8 98] (2, 3) [97, 98] rfl (by decide)
  have hsz : w2.heap.size < (w2.alloc (.cells #[.int .u8 97, .int .u8 98] 5 (2, 3))).heap.size := by simp
  generalize (w2.alloc (.cells #[.int .u8 97, .int .u8 98] 5 (2, 3))) = w3 at hal hcx hsz ⊢
  have L3 := Aside0.mk (L2.out.fenced hal)
  have OK0 := Aside0.mk (Dk.fresh_ok 100 (by omega) (by omega))
  have C1 := Aside0.mk ((fresh_calm 100).write 24 (frame 0 [97, 98]) (by rw [frame_length]; decide))
  have hE1 : appendL ⟨-1, 0, 0, 0, []⟩ (Dk.fresh 100) 24 [97, 98] = (⟨-1, 0, 18, 0, [⟨0, [97, 98]⟩]⟩, (Dk.fresh 100).burnt.wrote ((24 : Nat) : Int) (frame 0 [97, 98]), 0, 0) := by
    rw [appendL, if_pos (by simp [Dk.fresh]), C1.out.1, if_pos rfl]
    show ((⟨-1, 0, wrap64 (0 + (16 + ((2 : Nat) : Int))), 0, _⟩ : Lg), _, (0 : Int), (0 : Int)) = _
    rw [show wrap64 (0 + (16 + ((2 : Nat) : Int))) = 18 from by unfold wrap64; omega]
    rfl
  have hap := Append_calls L3.out OK0.out 24 (by show wrap64 (wrap64 (24 + 0) - 0) = ((24 : Nat) : Int); unfold wrap64; omega) (by simp [Dk.fresh]) (some ⟨w2.heap.size, 0, none⟩) 2 [97, 98] hcx (fun a0 e0 _ => .inr (by cases e0; exact .inr ⟨Nat.le_refl _, hsz⟩)) (by decide) (by decide) (by decide)
  rw [hE1] at hap
  refine hap.mono ?_
  clear hap hcx hsz hal
  rintro e w4 ⟨rfl, Q4, rok4, _, _, hl, _⟩
  have OK1 := Aside0.mk (show ((Dk.fresh 100).burnt.wrote ((24 : Nat) : Int) (frame 0 [97, 98])).Ok from by have := OK0.out.write (by decide) ((24 : Nat) : Int) (frame 0 [97, 98]); rwa [C1.out.1] at this)
  generalize hD1 : (Dk.fresh 100).burnt.wrote ((24 : Nat) : Int) (frame 0 [97, 98]) = D1 at hl OK1 C1
  have hd1 : D1.dur.length = 100 := by rw [C1.out.2.2.1]; simp [Dk.fresh]
  have L4 := Aside0.mk hl
  clear hl
  go_wp2_with fail
  have hal : Below w4.heap.size w4 (w4.alloc (.cells #[.int .u8 99] 5 (1, 2))) := below_alloc (Below.refl _ _) _
  have hcx := St.lit_C w4 .u8 5 #[.int .u8 99] (1, 2) [99] rfl (by decide)
  have hsz : w4.heap.size < (w4.alloc (.cells #[.int .u8 99] 5 (1, 2))).heap.size := by simp
  generalize (w4.alloc (.cells #[.int .u8 99] 5 (1, 2))) = w5 at hal hcx hsz ⊢
  have L5 := Aside0.mk (L4.out.fenced hal)
  have C2 := Aside0.mk (C1.out.2.1.write 42 (frame 18 [99]) (by rw [frame_length, hd1]; decide))
  have hE2 : appendL ⟨-1, 0, 18, 0, [⟨0, [97, 98]⟩]⟩ D1 42 [99] = (⟨-1, 0, 35, 0, [⟨0, [97, 98]⟩, ⟨18, [99]⟩]⟩, D1.burnt.wrote ((42 : Nat) : Int) (frame 18 [99]), 18, 0) := by
    rw [appendL, if_pos (by rw [hd1]; decide), C2.out.1, if_pos rfl]
    show ((⟨-1, 0, wrap64 (18 + (16 + ((1 : Nat) : Int))), 0, _⟩ : Lg), _, (18 : Int), (0 : Int)) = _
    rw [show wrap64 (18 + (16 + ((1 : Nat) : Int))) = 35 from by unfold wrap64; omega]
    rfl
  have hap := Append_calls L5.out OK1.out 42 (by show wrap64 (wrap64 (24 + 18) - 0) = ((42 : Nat) : Int); unfold wrap64; omega) (by rw [hd1]; decide) (some ⟨w4.heap.size, 0, none⟩) 1 [99] hcx (fun a0 e0 _ => .inr (by cases e0; exact .inr ⟨Nat.le_refl _, hsz⟩)) (by decide) (by decide) (by decide)
  rw [hE2] at hap
  refine hap.mono ?_
  clear hap hcx hsz hal
  rintro e w6 ⟨rfl, Q6, rok6, _, _, hl, _⟩
  have L6 := Aside0.mk hl
  clear hl
  go_wp2_with fail
  have hal : Below w6.heap.size w6 (w6.alloc (.cells #[.int .u8 97, .int .u8 98] 5 (2, 3))) := below_alloc (Below.refl _ _) _
  have hcx := St.lit_C w6 .u8 5 #[.int .u8 97, .int .u8 98] (2, 3) [97, 98] rfl (by decide)
  generalize (w6.alloc (.cells #[.int .u8 97, .int .u8 98] 5 (2, 3))) = w7 at hal hcx ⊢
  have L7 := Aside0.mk (L6.out.step hal)
  refine (Frame_calls 0 (some ⟨w6.heap.size, 0, none⟩) 2 [97, 98] w7 hcx (by decide) (by decide)).mono ?_
  clear hal hcx
  rintro e w8 ⟨v8, rfl, hr, hb⟩
  obtain ⟨b8, c8, e8, _⟩ := Kd.N_form (Kd.R_N hr) (by rw [frame_length]; decide)
  subst e8
  have L8 := Aside0.mk (L7.out.step hb)
  have hC8 := (Kd.R_reads' hr).2.2
  rw [frame_length] at hC8 ⊢
  obtain ⟨ad, e, h3⟩ := Kd.at_int hC8 3 (by omega) (by decide)
  injection e with e
  subst e
  obtain ⟨ad', e', h16⟩ := Kd.at_int hC8 16 (by omega) (by decide)
  injection e' with e'
  subst e'
  rw [show rd (frame 0 [97, 98]) 3 = 2 from by decide +kernel] at h3
  rw [show rd (frame 0 [97, 98]) 16 = 97 from by decide +kernel] at h16
  replace h3 : w8.cell? ⟨b8, 3, none⟩ = some (.int .u8 2) := h3
  replace h16 : w8.cell? ⟨b8, 16, none⟩ = some (.int .u8 97) := h16
  clear hr hb hC8
  go_wp2_with fail
  refine (End_calls L8.out).mono ?_
  rintro e w9 ⟨rfl, rfl⟩
  go_wp2_with fail
  go_ret
  exact ⟨rfl, L8.out.bel⟩
end Go.Proofs.Ytbbokpkpdnppjaa
