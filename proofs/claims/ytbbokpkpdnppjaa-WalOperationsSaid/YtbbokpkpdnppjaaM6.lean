/- The log: its ends; the chapter's example; the walk of WalFrame. The reference's frame is the program's; the walk of WalFrame. The log: syncing, the records, a failed disk. Walks in a round of a range over a function: a region without a defer statement goes there as anywhere. -/
import Derived.Test.YtbbokpkpdnppjaaU0
import Derived.Test.YtbbokpkpdnppjaaUA
import Derived.Test.YtbbokpkpdnppjaaM1
import Derived.Test.YtbbokpkpdnppjaaGx2
namespace Go.Proofs.Ytbbokpkpdnppjaa
open Go.RowKit Go.Proofs.YtbbokpkpdnppjaaW.PrintWords Go.Proofs.YtbbokpkpdnppjaaW.PrintLast Go.Proofs.YtbbokpkpdnppjaaW.PrintMore
set_option linter.unusedVariables false
set_option linter.unusedSimpArgs false
theorem LogS.fenced {w0 W W1 : World} {Q rok : Nat → Prop} {g gd : Nat} {L : Lg} {D : Dk} (h : LogS w0 W Q rok g gd L D) (hb : Below W.heap.size W W1) : LogS w0 W1 (fun k => Q k ∨ (W.heap.size ≤ k ∧ k < W1.heap.size)) rok g gd L D := by
 obtain ⟨hs, v, h1, h2, h3, h4, h5⟩ := h
 exact ⟨hs.fenced hb, v, (hb.block g (blk_lt h1)).trans h1, Kd.N_below h2 hb, fun k hk => ⟨.inl (h3 k hk).1, (h3 k hk).2⟩, .inl h4, h5⟩
theorem LogS.bel {w0 W : World} {Q rok : Nat → Prop} {g gd : Nat} {L : Lg} {D : Dk} (h : LogS w0 W Q rok g gd L D) : Below w0.heap.size w0 W := h.1.bel
set_option maxRecDepth 100000 in
set_option maxHeartbeats 8000000 in
theorem End_calls {w0 W : World} {Q rok : Nat → Prop} {g gd : Nat} {L : Lg} {D : Dk} (h : LogS w0 W Q rok g gd L D) : Calls Try.prog 38 #[.pointer (some ⟨g, 0, none⟩)] W fun e w' => e = .returned (.int .i64 L.end_) ∧ W = w' := by
 obtain ⟨_, v, h1, _⟩ := h
 have F3 := (blk_cell h1 3).trans rfl
 clear h1
 go_enter Try.func38, Try.ntmps38
 go_wp2_with fail
 go_ret
 exact ⟨rfl, rfl⟩
set_option maxRecDepth 100000 in
set_option maxHeartbeats 8000000 in
theorem Synced_calls {w0 W : World} {Q rok : Nat → Prop} {g gd : Nat} {L : Lg} {D : Dk} (h : LogS w0 W Q rok g gd L D) : Calls Try.prog 39 #[.pointer (some ⟨g, 0, none⟩)] W fun e w' => e = .returned (.int .i64 L.synced) ∧ W = w' := by
 obtain ⟨_, v, h1, _⟩ := h
 have F4 := (blk_cell h1 4).trans rfl
 clear h1
 go_enter Try.func39, Try.ntmps39
 go_wp2_with fail
 go_ret
 exact ⟨rfl, rfl⟩
def Dk.Calm (D : Dk) : Prop := D.failed = false ∧ D.cnt = -1
theorem Dk.Calm.write {D : Dk} (h : D.Calm) (a : Nat) (l : List Int) (ha : a + l.length ≤ D.dur.length) : D.write (a : Int) l = (D.burnt.wrote (a : Int) l, 0) ∧ (D.burnt.wrote (a : Int) l).Calm ∧ (D.burnt.wrote (a : Int) l).dur = D.dur ∧ (D.burnt.wrote (a : Int) l).pend = D.pend ++ [⟨(a : Int), l⟩] := by
 obtain ⟨h1, h2⟩ := h
 refine ⟨?_, ⟨h1, by simp [Dk.wrote, Dk.burnt, h2]⟩, rfl, rfl⟩
 unfold Dk.write
 rw [if_neg (by simp [h1]), if_neg (by simp [insd]; omega), if_neg (by omega)]
theorem fresh_calm (m : Nat) : (Dk.fresh m).Calm := ⟨rfl, rfl⟩
set_option maxRecDepth 100000 in
set_option maxHeartbeats 8000000 in
theorem awake15 (w : World) : Calls Try.prog 33 #[] w fun e w' => e = .returned (.bool true) ∧ Below w.heap.size w w' := by
 have kc := fun (w : World) (C : Array Value) (n c : Nat) => Lib.run_convert_bytes_const (P := Try.prog) w 29 5 C n c Try.underlying29 Try.underlying5
 go_enter Try.func33, Try.ntmps33
 go_wp2_with fail
 refine ((Sts.none_ (Below.refl w.heap.size w) (P := fun _ => False) (fun k hk => hk.elim)).new 100 (by omega) (by omega)).mono ?_
 rintro e w1 ⟨gd, rfl, hs, _⟩
 have S1 := AM hs
 clear hs
 go_wp2_with fail
 refine (open0_calls 100 (by omega) (by omega) S1.out).mono ?_
 rintro e w2 ⟨g, rfl, Q2, _, hl, _, _⟩
 have L2 := AM hl
 clear hl
 go_wp2_with fail
 have hal : Below w2.heap.size w2 (w2.alloc (.cells #[.int .u8 97, .int .u8 98] 5 (2, 3))) := below_alloc (Below.refl _ _) _
 have hcx := St.lit_C w2 .u8 5 #[.int .u8 97, .int .u8 98] (2, 3) [97, 98] rfl (by decide)
 have hsz : w2.heap.size < (w2.alloc (.cells #[.int .u8 97, .int .u8 98] 5 (2, 3))).heap.size := by simp
 generalize (w2.alloc (.cells #[.int .u8 97, .int .u8 98] 5 (2, 3))) = w3 at hal hcx hsz ⊢
 have L3 := AM (L2.out.fenced hal)
 have OK0 := AM (Dk.fresh_ok 100 (by omega) (by omega))
 have C1 := AM ((fresh_calm 100).write 24 (frame 0 [97, 98]) (by rw [frame_length]; decide))
 have hE1 : appendL ⟨-1, 0, 0, 0, []⟩ (Dk.fresh 100) 24 [97, 98] = (⟨-1, 0, 18, 0, [⟨0, [97, 98]⟩]⟩, (Dk.fresh 100).burnt.wrote ((24 : Nat) : Int) (frame 0 [97, 98]), 0, 0) := by
  rw [appendL, if_pos (by simp [Dk.fresh]), C1.out.1, if_pos rfl]
  show ((⟨-1, 0, wrap64 (0 + (16 + ((2 : Nat) : Int))), 0, _⟩ : Lg), _, (0 : Int), (0 : Int)) = _
  rw [show wrap64 (0 + (16 + ((2 : Nat) : Int))) = 18 from by unfold wrap64; omega]
  rfl
 have hap := Append_calls L3.out OK0.out 24 (by show wrap64 (wrap64 (24 + 0) - 0) = ((24 : Nat) : Int); unfold wrap64; omega) (by simp [Dk.fresh]) (some ⟨w2.heap.size, 0, none⟩) 2 [97, 98] hcx (fun a0 e0 _ => .inr (by cases e0; exact .inr ⟨Nat.le_refl _, hsz⟩)) (by decide) (by decide) (by decide)
 rw [hE1] at hap
 refine hap.mono ?_
 clear hap hcx hsz hal
 rintro e w4 ⟨rfl, Q4, rok4, _, _, hl, _⟩
 have OK1 := AM (show ((Dk.fresh 100).burnt.wrote ((24 : Nat) : Int) (frame 0 [97, 98])).Ok from by have := OK0.out.write (by decide) ((24 : Nat) : Int) (frame 0 [97, 98]); rwa [C1.out.1] at this)
 generalize hD1 : (Dk.fresh 100).burnt.wrote ((24 : Nat) : Int) (frame 0 [97, 98]) = D1 at hl OK1 C1
 have hd1 : D1.dur.length = 100 := by rw [C1.out.2.2.1]; simp [Dk.fresh]
 have L4 := AM hl
 clear hl
 go_wp2_with fail
 have hal : Below w4.heap.size w4 (w4.alloc (.cells #[.int .u8 99] 5 (1, 2))) := below_alloc (Below.refl _ _) _
 have hcx := St.lit_C w4 .u8 5 #[.int .u8 99] (1, 2) [99] rfl (by decide)
 have hsz : w4.heap.size < (w4.alloc (.cells #[.int .u8 99] 5 (1, 2))).heap.size := by simp
 generalize (w4.alloc (.cells #[.int .u8 99] 5 (1, 2))) = w5 at hal hcx hsz ⊢
 have L5 := AM (L4.out.fenced hal)
 have C2 := AM (C1.out.2.1.write 42 (frame 18 [99]) (by rw [frame_length, hd1]; decide))
 have hE2 : appendL ⟨-1, 0, 18, 0, [⟨0, [97, 98]⟩]⟩ D1 42 [99] = (⟨-1, 0, 35, 0, [⟨0, [97, 98]⟩, ⟨18, [99]⟩]⟩, D1.burnt.wrote ((42 : Nat) : Int) (frame 18 [99]), 18, 0) := by
  rw [appendL, if_pos (by rw [hd1]; decide), C2.out.1, if_pos rfl]
  show ((⟨-1, 0, wrap64 (18 + (16 + ((1 : Nat) : Int))), 0, _⟩ : Lg), _, (18 : Int), (0 : Int)) = _
  rw [show wrap64 (18 + (16 + ((1 : Nat) : Int))) = 35 from by unfold wrap64; omega]
  rfl
 have hap := Append_calls L5.out OK1.out 42 (by show wrap64 (wrap64 (24 + 18) - 0) = ((42 : Nat) : Int); unfold wrap64; omega) (by rw [hd1]; decide) (some ⟨w4.heap.size, 0, none⟩) 1 [99] hcx (fun a0 e0 _ => .inr (by cases e0; exact .inr ⟨Nat.le_refl _, hsz⟩)) (by decide) (by decide) (by decide)
 rw [hE2] at hap
 refine hap.mono ?_
 clear hap hcx hsz hal
 rintro e w6 ⟨rfl, Q6, rok6, _, _, hl, _⟩
 have L6 := AM hl
 clear hl
 go_wp2_with fail
 have hal : Below w6.heap.size w6 (w6.alloc (.cells #[.int .u8 97, .int .u8 98] 5 (2, 3))) := below_alloc (Below.refl _ _) _
 have hcx := St.lit_C w6 .u8 5 #[.int .u8 97, .int .u8 98] (2, 3) [97, 98] rfl (by decide)
 generalize (w6.alloc (.cells #[.int .u8 97, .int .u8 98] 5 (2, 3))) = w7 at hal hcx ⊢
 have L7 := AM (L6.out.step hal)
 refine (Frame_calls 0 (some ⟨w6.heap.size, 0, none⟩) 2 [97, 98] w7 hcx (by decide) (by decide)).mono ?_
 clear hal hcx
 rintro e w8 ⟨v8, rfl, hr, hb⟩
 obtain ⟨b8, c8, e8, _⟩ := Kd.N_form (Kd.R_N hr) (by rw [frame_length]; decide)
 subst e8
 have L8 := AM (L7.out.step hb)
 have hC8 := (Kd.R_reads' hr).2.2
 rw [frame_length] at hC8 ⊢
 obtain ⟨ad, e, h3⟩ := Kd.at_int hC8 3 (by omega) (by decide)
 injection e with e
 subst e
 obtain ⟨ad', e', h16⟩ := Kd.at_int hC8 16 (by omega) (by decide)
 injection e' with e'
 subst e'
 rw [show rd (frame 0 [97, 98]) 3 = 2 from by decide +kernel] at h3
 rw [show rd (frame 0 [97, 98]) 16 = 97 from by decide +kernel] at h16
 replace h3 : w8.cell? ⟨b8, 3, none⟩ = some (.int .u8 2) := h3
 replace h16 : w8.cell? ⟨b8, 16, none⟩ = some (.int .u8 97) := h16
 clear hr hb hC8
 go_wp2_with fail
 refine (End_calls L8.out).mono ?_
 rintro e w9 ⟨rfl, rfl⟩
 go_wp2_with fail
 go_ret
 exact ⟨rfl, L8.out.bel⟩
end Go.Proofs.Ytbbokpkpdnppjaa
namespace Go.Proofs.Ytbbokpkpdnppjaa
open Go.RowKit Go.Proofs.YtbbokpkpdnppjaaW.PrintWords Go.Proofs.YtbbokpkpdnppjaaW.PrintLast Go.Proofs.YtbbokpkpdnppjaaW.PrintMore
set_option linter.unusedVariables false
set_option linter.unusedSimpArgs false
theorem number_l0 (n : Int) : ∀ (k fuel : Nat) (x : List Int), k ≤ 8 → k < fuel → x.length + k ≤ 140737488355328 → G.lineageref15_number.l0 fuel n x ((k : Int) - 1) = some (x ++ beBytes n k) := by
 intro k
 induction k with
 | zero =>
  intro fuel x _ hf _
  obtain ⟨f, rfl⟩ : ∃ f, fuel = f + 1 := ⟨fuel - 1, by omega⟩
  unfold G.lineageref15_number.l0
  rw [if_neg (by omega)]
  simp [beBytes]
 | succ k ih =>
  intro fuel x h8 hf hl
  obtain ⟨f, rfl⟩ : ∃ f, fuel = f + 1 := ⟨fuel - 1, by omega⟩
  unfold G.lineageref15_number.l0
  have e1 : ((k + 1 : Nat) : Int) - 1 = (k : Int) := by omega
  have e2 : wrap64 (8 * (k : Int)) = 8 * (k : Int) := by unfold wrap64; omega
  have e3 : wrap64 ((k : Int) - 1) = (k : Int) - 1 := by unfold wrap64; omega
  rw [e1, if_pos (by omega), e2, if_pos (by omega), if_pos (by omega), e3, ih f _ (by omega) (by omega) (by simp; omega)]
  simp [beBytes]
theorem number_f (fuel : Nat) (n : Int) (k : Nat) (h8 : k ≤ 8) (hf : k < fuel) : G.lineageref15_number.f fuel n (k : Int) = some (beBytes n k) := by
 unfold G.lineageref15_number.f
 rw [show wrap64 ((k : Int) - 1) = (k : Int) - 1 from by unfold wrap64; omega, number_l0 n k fuel [] h8 hf (by simp; omega)]
 simp
theorem crc_l1 (x : List Int) (i : Int) : ∀ (n f : Nat) (c : Int) (j : Int), j = 8 - (n : Int) → n ≤ 8 → G.lineageref04_Checksum.l1 (f + n + 1) x c i j = G.lineageref04_Checksum.l0 f x (crcBits n c) (wrap64 (i + 1)) := by
 intro n
 induction n with
 | zero =>
  intro f c j hj _
  unfold G.lineageref04_Checksum.l1
  rw [if_neg (by omega)]
  rfl
 | succ n ih =>
  intro f c j hj h8
  rw [show f + (n + 1) + 1 = (f + n + 1) + 1 from by omega]
  unfold G.lineageref04_Checksum.l1
  have hw : wrap64 (j + 1) = j + 1 := by unfold wrap64; omega
  rw [if_pos (by omega), hw]
  by_cases hb : Go.bits .and .u32 c 1 = 1
  ·rw [if_pos hb, ih f _ (j + 1) (by omega) (by omega)]
   simp [crcBits, crcBit, hb]
  ·rw [if_neg hb, ih f _ (j + 1) (by omega) (by omega)]
   simp [crcBits, crcBit, hb]
theorem crc_l0 (x : List Int) (hx : x.length ≤ 9223372036854775807) : ∀ (n i f : Nat) (c : Int), n + i = x.length → G.lineageref04_Checksum.l0 (f + 10 * n + 1) x c (i : Int) = some (Go.bits .xor .u32 (crcFold c (x.drop i)) 4294967295) := by
 intro n
 induction n with
 | zero =>
  intro i f c hi
  unfold G.lineageref04_Checksum.l0
  rw [if_neg (by omega), List.drop_eq_nil_of_le (by omega)]
  rfl
 | succ n ih =>
  intro i f c hi
  have h0 : i < x.length := by omega
  rw [show f + 10 * (n + 1) + 1 = (f + 10 * n + 1 + 8 + 1) + 1 from by omega]
  unfold G.lineageref04_Checksum.l0
  rw [if_pos (by omega), if_pos (by omega), crc_l1 x (i : Int) 8 (f + 10 * n + 1) _ 0 (by omega) (by omega), show wrap64 ((i : Int) + 1) = ((i + 1 : Nat) : Int) from by unfold wrap64; omega, ih (i + 1) f _ (by omega), List.drop_eq_getElem_cons h0, rd_get x i h0]
  rfl
theorem crc_f (x : List Int) (fuel : Nat) (hx : x.length ≤ 9223372036854775807) (hf : 10 * x.length < fuel) : G.lineageref04_Checksum.f fuel x = some (crc x) := by
 obtain ⟨f, rfl⟩ : ∃ f, fuel = f + 10 * x.length + 1 := ⟨fuel - 10 * x.length - 1, by omega⟩
 unfold G.lineageref04_Checksum.f
 exact crc_l0 x hx x.length 0 f 4294967295 (by omega)
theorem wrap_u64_nat (n : Nat) (h : n < 18446744073709551616) : IntKind.u64.wrap (n : Int) = (n : Int) := by rw [IntKind.wrap_u64]; omega
theorem ref_frame_f (lsn : Int) (data : List Int) (fuel : Nat) (hl : data.length ≤ 4194304) (hf : 10 * (12 + data.length) + 10 < fuel) : G.lineageref15_Frame.f fuel lsn data = some (frame lsn data) := by
 unfold G.lineageref15_Frame.f
 have h4 := fun n => number_f fuel n 4 (by omega) (by omega)
 have h8 := fun n => number_f fuel n 8 (by omega) (by omega)
 simp only [Int.cast_ofNat_Int] at h4 h8
 rw [wrap_u64_nat _ (by omega), h4, Option.bind_some, h8, Option.bind_some, if_pos (by rw [beBytes_length, beBytes_length]; decide), Option.bind_some, Option.bind_some,
  show beBytes (data.length : Int) 4 ++ beBytes (IntKind.u64.wrap lsn) 8 = fhead lsn data from rfl, if_pos (by rw [fhead_length]; decide), List.nil_append, Option.bind_some, if_pos (by rw [fhead_length]; omega),
  crc_f _ fuel (by rw [List.length_append, fhead_length]; omega) (by rw [List.length_append, fhead_length]; omega), Option.bind_some, h4, Option.bind_some, if_pos (by rw [fhead_length, beBytes_length]; decide), Option.bind_some, if_pos (by rw [List.length_append, fhead_length, beBytes_length]; omega)]
 rfl
theorem same_l0 (l0 l1 : List Int) (he : l0.length = l1.length) (hm : l0.length ≤ 9223372036854775807) : ∀ (n j f : Nat), n + j = l0.length → G.lineageref13_Same.l0 (f + n + 1) l0 l1 (j : Int) = some (decide (l0.drop j = l1.drop j)) := by
 intro n
 induction n with
 | zero =>
  intro j f hj
  unfold G.lineageref13_Same.l0
  rw [if_neg (by omega), List.drop_eq_nil_of_le (by omega), List.drop_eq_nil_of_le (by omega)]
  simp
 | succ n ih =>
  intro j f hj
  have h0 : j < l0.length := by omega
  have h1 : j < l1.length := by omega
  rw [show f + (n + 1) + 1 = (f + n + 1) + 1 from by omega]
  unfold G.lineageref13_Same.l0
  rw [if_pos (by omega), if_pos (by omega), if_pos (by omega), rd_get l0 j h0, rd_get l1 j h1, List.drop_eq_getElem_cons h0, List.drop_eq_getElem_cons h1]
  by_cases h : l0[j] = l1[j]
  ·rw [if_pos h, show wrap64 ((j : Int) + 1) = ((j + 1 : Nat) : Int) from by unfold wrap64; omega, ih (j + 1) f (by omega)]
   exact congrArg some (decide_eq_decide.2 ⟨fun e => by rw [h, e], fun e => by injection e⟩)
  ·rw [if_neg h]
   exact congrArg some (decide_eq_false (fun e => by injection e with e1; exact h e1)).symm
theorem same_f (l0 l1 : List Int) (hm : l0.length ≤ 9223372036854775807) (fuel : Nat) (hf : l0.length < fuel) : G.lineageref13_Same.f fuel l0 l1 = some (decide (l0 = l1)) := by
 unfold G.lineageref13_Same.f
 by_cases h : l0.length = l1.length
 ·obtain ⟨f, rfl⟩ : ∃ f, fuel = f + l0.length + 1 := ⟨fuel - l0.length - 1, by omega⟩
  rw [if_pos (by omega)]
  have := same_l0 l0 l1 h hm l0.length 0 f (by omega)
  simpa using this
 ·rw [if_neg (by omega)]
  exact congrArg some (decide_eq_false (fun e => h (by rw [e]))).symm
theorem SameG_calls (A0 : Option Addr) (c0 : Nat) (l0 : List Int) (A1 : Option Addr) (c1 : Nat) (l1 : List Int) (w : World) (hr0 : Kd.C (Kd.int .u8) w A0 l0.length l0) (hc0 : l0.length ≤ c0) (hr1 : Kd.C (Kd.int .u8) w A1 l1.length l1) (hc1 : l1.length ≤ c1) :
  Calls Try.prog 23 #[.slice A0 l0.length c0, .slice A1 l1.length c1] w fun e w' => e = .returned (.bool (decide (l0 = l1))) ∧ Below w.heap.size w w' :=
 (G.lineageref13_Same.calls (l0.length + 1) A0 c0 l0 A1 c1 l1 _ w hr0 hc0 hr1 hc1 (same_f l0 l1 hr0.2.1 _ (by omega))).mono (fun e w' h => ⟨h.1, h.2.below⟩)
theorem ref_frame_calls (lsn : Int) (A : Option Addr) (c : Nat) (data : List Int) (w : World) (hC : Kd.C (Kd.int .u8) w A data.length data) (hc : data.length ≤ c) (hl : data.length ≤ 4194304) :
  Calls Try.prog 35 #[.int .i64 lsn, .slice A data.length c] w fun e w' => ∃ v, e = .returned v ∧ Kd.R (Kd.int .u8) 5 w' w.heap.size (fun _ => True) v (frame lsn data) ∧ Below w.heap.size w w' :=
 G.lineageref15_Frame.calls (10 * (12 + data.length) + 11) lsn A c data _ w hC hc (ref_frame_f lsn data _ hl (by omega))
end Go.Proofs.Ytbbokpkpdnppjaa
namespace Go.Proofs.Ytbbokpkpdnppjaa
open Go.RowKit Go.Proofs.YtbbokpkpdnppjaaW.PrintWords Go.Proofs.YtbbokpkpdnppjaaW.PrintLast Go.Proofs.YtbbokpkpdnppjaaW.PrintMore
set_option linter.unusedVariables false
set_option linter.unusedSimpArgs false
def syncL (L : Lg) (D : Dk) : Lg := if D.sync.2 = 0 then ⟨L.slot, L.base, L.end_, L.end_, L.recs⟩ else L
set_option maxRecDepth 100000 in
set_option maxHeartbeats 8000000 in
theorem LogSync_calls {w0 W : World} {Q rok : Nat → Prop} {g gd : Nat} {L : Lg} {D : Dk} (h : LogS w0 W Q rok g gd L D) (hok : D.Ok) :
  Calls Try.prog 44 #[.pointer (some ⟨g, 0, none⟩)] W fun e W' => e = .returned (.int .i64 D.sync.2) ∧ LogPost w0 W Q rok g gd (syncL L D) D.sync.1 W' := by
 obtain ⟨hs, v, hg, hN, hro, hQg, hwg⟩ := h
 obtain ⟨Av, cv, rfl⟩ := Kd.N_slice hN
 generalize hnv : L.recs.length = nv at hg hN
 have S0 := AM hs
 have G0 := AM hg
 have N0 := AM hN
 have HRO := AM hro
 clear hs hg hN hro
 have F0 := (blk_cell G0.out 0).trans rfl
 go_enter Try.func44, Try.ntmps44
 go_wp2_with fail
 refine (S0.out.sync 0 rfl hok).mono ?_
 rintro e W1 ⟨rfl, hs, hk⟩
 have S1 := AM (show Sts w0 W1 Q [(gd, D.sync.1)] from hs)
 have K1 := AM hk
 have G1 := AM ((hk g hQg).trans G0.out)
 have N1 := AM (Kd.N_step N0.out (w1 := W1) (fun k h _ => hk k (HRO.out k h).1))
 clear hs hk F0
 have F3 := (blk_cell G1.out 3).trans rfl
 have F4 := (blk_cell G1.out 4).trans rfl
 have f4 := blk_frozen G1.out 4
 by_cases h0 : D.sync.2 = 0
 ·have hL : syncL L D = ⟨L.slot, L.base, L.end_, L.end_, L.recs⟩ := by rw [syncL, if_pos h0]
  go_wp2_with fail
  go_ret
  refine ⟨by rw [h0]; rfl, Q, rok, fun _ h => h, fun _ h => .inl h, ?_, fun k hk => (Below.heap_setCell W1 ⟨g, 4, none⟩ _ k hk.2.2).trans (K1.out k hk.1)⟩
  rw [hL]
  exact ⟨S1.out.poke g hQg hwg 4 _, .slice Av nv cv, blk_put (cs := #[.pointer (some ⟨gd, 0, none⟩), .int .i64 L.slot, .int .i64 L.base, .int .i64 L.end_, .int .i64 L.synced, .slice Av nv cv]) G1.out 4 _ rfl, Kd.N_far N1.out (p := ⟨g, 4, none⟩) (fun k hk => (HRO.out k hk).2) _, HRO.out, hQg, hwg⟩
 ·have hL : syncL L D = L := by rw [syncL, if_neg h0]
  go_wp2_with fail
  go_ret
  refine ⟨rfl, Q, rok, fun _ h => h, fun _ h => .inl h, ?_, fun k hk => K1.out k hk.1⟩
  rw [hL]
  exact ⟨S1.out, .slice Av nv cv, G1.out, N1.out, HRO.out, hQg, hwg⟩
set_option maxRecDepth 100000 in
set_option maxHeartbeats 8000000 in
theorem Records_calls {w0 W : World} {Q rok : Nat → Prop} {g gd : Nat} {L : Lg} {D : Dk} (h : LogS w0 W Q rok g gd L D) (hrl : L.recs.length ≤ 4194304) (hdl : ∀ r ∈ L.recs, r.f1.length ≤ 4194304) :
  Calls Try.prog 41 #[.pointer (some ⟨g, 0, none⟩)] W fun e W' => ∃ v, e = .returned v ∧ Kd.R G.k73 73 W' W.heap.size (fun k => W.heap.size ≤ k) v L.recs ∧ Below W.heap.size W W' := by
 obtain ⟨hs, v, hg, hN, hro, hQg, hwg⟩ := h
 obtain ⟨Av, cv, rfl⟩ := Kd.N_slice hN
 have G0 := AM hg
 have N0 := AM hN
 have HDL := AM hdl
 clear hs hg hN hro hdl
 have F5 := (blk_cell G0.out 5).trans rfl
 go_enter Try.func41, Try.ntmps41
 go_wp2_with fail
 clear F5
 go_loopw [3, 11] (fun vo vi wr => ∃ (k nu cu : Nat) (Au : Option Addr), k ≤ L.recs.length ∧ vi = .int .i64 (k : Int) ∧ vo = .slice Au nu cu ∧ Aside0 (Kd.R G.k73 73 wr W.heap.size (fun k => W.heap.size ≤ k) (.slice Au nu cu) (L.recs.take k)) ∧ Aside0 (Below W.heap.size W wr)) (fun _ vi _ => L.recs.length - (intOf vi).toNat)
 case atStart => exact ⟨0, 0, 0, none, Nat.zero_le _, rfl, rfl, AM (Kd.R_nil _ _ _ _ _), AM (Below.refl _ _)⟩
 case round =>
  obtain ⟨k, nu, cu, Au, hk, rfl, rfl, NO, BB⟩ := hrel
  by_cases hlt : k < L.recs.length
  ·have hlt' : ((k : Int) < (L.recs.length : Int)) := by omega
   have hNr := Kd.N_below N0.out BB.out
   obtain ⟨ad, A1, c1, ead, y0, y1, hc1, hC1⟩ := G.at_T73 (Kd.N_reads' hNr).2.2 (k : Int) (by omega) (by omega)
   subst ead
   simp only [Int.toNat_natCast] at y0 y1
   have HC1 := AM hC1
   have HD := AM (show (G.rd_T73 L.recs (k : Int)).f1.length ≤ 4194304 from by
    have e : G.rd_T73 L.recs (k : Int) = L.recs[k] := by simp [G.rd_T73, List.getD_eq_getElem?_getD, hlt]
    rw [e]; exact HDL.out _ (List.getElem_mem hlt))
   clear hNr hC1
   go_wp2_with fail
   have hal : Below wr.heap.size wr (wr.alloc (.cells #[.int .i64 (G.rd_T73 L.recs (k : Int)).f0, .slice A1 (G.rd_T73 L.recs (k : Int)).f1.length c1] 73)) := below_alloc (Below.refl _ _) _
   have hxb : (wr.alloc (.cells #[.int .i64 (G.rd_T73 L.recs (k : Int)).f0, .slice A1 (G.rd_T73 L.recs (k : Int)).f1.length c1] 73)).heap[wr.heap.size]? = some (.cells #[.int .i64 (G.rd_T73 L.recs (k : Int)).f0, .slice A1 (G.rd_T73 L.recs (k : Int)).f1.length c1] 73 (0, 0)) := heap_alloc_new wr _
   generalize (wr.alloc (.cells #[.int .i64 (G.rd_T73 L.recs (k : Int)).f0, .slice A1 (G.rd_T73 L.recs (k : Int)).f1.length c1] 73)) = Wb at hal hxb ⊢
   have NOB := AM (Kd.R_below NO.out hal)
   have BBB := AM (below_step BB.out hal)
   have HCB := AM (Kd.C_below HC1.out hal)
   have HOX := AM (show some wr.heap.size ≠ (Value.slice Au nu cu).ownBlock from fun e => by have := Kd.R_lt NO.out _ e.symm; omega)
   generalize wr.heap.size = bx at hxb HOX ⊢
   have XB := AM hxb
   clear y0 y1 hal
   have y0 := (blk_cell hxb 0).trans rfl
   have y1 := (blk_cell hxb 1).trans rfl
   clear hxb
   refine start_ (n := 10) (S := fun w' => w'.cell? ⟨bx, 0, none⟩ = some (.int .i64 (G.rd_T73 L.recs (k : Int)).f0) ∧ w'.cell? ⟨bx, 1, none⟩ = some (.slice A1 (G.rd_T73 L.recs (k : Int)).f1.length c1)) (ds := []) #[false, false, false, false, false, false, false, false, false, false] (by kernel_rfl) rfl rfl ⟨y0, y1⟩ (fun hHeld => ?_)
   have hbd : Below Wb.heap.size Wb Wb.drew := below_drew (Below.refl _ _)
   have hX2 : Wb.drew.heap[bx]? = some (.cells #[.int .i64 (G.rd_T73 L.recs (k : Int)).f0, .slice A1 (G.rd_T73 L.recs (k : Int)).f1.length c1] 73 (0, 0)) := XB.out
   have NO2 := AM (Kd.R_below NOB.out hbd)
   have HC2 := AM (Kd.C_below HCB.out hbd)
   have BB2 := AM (below_step BBB.out hbd)
   clear hHeld hbd y0 y1
   generalize Wb.drew = W2 at hX2 NO2 HC2 BB2 ⊢
   have X2 := AM hX2
   have y0 := (blk_cell hX2 0).trans rfl
   have y1 := (blk_cell hX2 1).trans rfl
   clear hX2
   have hHeld : W2.cell? ⟨bx, 0, none⟩ = some (.int .i64 (G.rd_T73 L.recs (k : Int)).f0) ∧ W2.cell? ⟨bx, 1, none⟩ = some (.slice A1 (G.rd_T73 L.recs (k : Int)).f1.length c1) := ⟨y0, y1⟩
   refine pu 0 (some 15) ?_ (bt 10 1) (by kernel_rfl) ?_ ?_ ?_ ?_
   rotate_left
   ·intro w'
    go_simp
    with_reducible rfl
   rotate_left
   ·simp only [pS]
    rfl
   refine pu 1 (some 16) ?_ (bt 10 3) (by kernel_rfl) ?_ ?_ ?_ ?_
   rotate_left
   ·intro w'
    go_simp
    with_reducible rfl
   rotate_left
   ·simp only [pS]
    rfl
   refine tk 2 (some 17) ?_ (bt 10 7) (by kernel_rfl) hHeld ?_ ?_ ?_ ?_
   rotate_left
   ·rintro w' ⟨s0, s1⟩
    go_simp
    with_reducible rfl
   rotate_left
   ·simp only [pS]
    rfl
   refine pu 3 (some 18) ?_ (bt 10 15) (by kernel_rfl) ?_ ?_ ?_ ?_
   rotate_left
   ·intro w'
    go_simp
    with_reducible rfl
   rotate_left
   ·simp only [pS]
    rfl
   refine tk 4 (some 19) ?_ (bt 10 31) (by kernel_rfl) hHeld ?_ ?_ ?_ ?_
   rotate_left
   ·rintro w' ⟨s0, s1⟩
    go_simp
    with_reducible rfl
   rotate_left
   ·simp only [pS]
    rfl
   refine one_ (i := 5) (N := some 20) (bt 10 63) rfl rfl (by kernel_rfl) (by decide) (fun K hK => ?_)
   refine goes_ Try.func75 (by kernel_rfl) rfl #[.slice A1 (G.rd_T73 L.recs (k : Int)).f1.length c1] (by rfl) rfl rfl (by (try simp only [List.map_toArray, List.map_cons, List.map_nil]); first | done | rfl) ?_
   refine (clone75_calls A1 c1 (G.rd_T73 L.recs (k : Int)).f1 W2 HC2.out hc1 (by have := HD.out; omega)).mono ?_
   rintro e W3 ⟨vc, rfl, hr, hb⟩
   obtain ⟨Ac, cc, rfl⟩ := Kd.R_slice hr
   have RC := AM hr
   have B3 := AM hb
   have NO3 := AM (Kd.R_below NO2.out hb)
   have BB3 := AM (below_step BB2.out hb)
   have X3 := AM ((hb.block bx (blk_lt X2.out)).trans X2.out)
   have y0 := (blk_cell X3.out 0).trans rfl
   have y1 := (blk_cell X3.out 1).trans rfl
   clear hr hb
   refine ⟨_, rfl, ?_⟩
   refine hK.out _ _ ⟨y0, y1⟩ (fun hHeld => ?_)
   clear hK K
   refine norm_ (a' := ?_) ?_ ?_
   rotate_left
   ·show Act.put _ (some 20) _ = _
    simp only [pS]
    rfl
   refine pu 6 (some 21) ?_ (bt 10 127) (by kernel_rfl) ?_ ?_ ?_ ?_
   rotate_left
   ·intro w'
    go_simp
    with_reducible rfl
   rotate_left
   ·simp only [pS]
    rfl
   refine one_ (i := 7) (N := some 22) (bt 10 255) rfl rfl (by kernel_rfl) (by decide) (fun K hK => ?_)
   refine value_ (w1 := W3.alloc (.cells #[.int .i64 (G.rd_T73 L.recs (k : Int)).f0, .slice Ac (G.rd_T73 L.recs (k : Int)).f1.length cc] 73)) (v := .slice (some ⟨W3.heap.size, 0, none⟩) 1 1) (by rfl) rfl (by go_simp; try rfl) ?_
   have hal : Below W3.heap.size W3 (W3.alloc (.cells #[.int .i64 (G.rd_T73 L.recs (k : Int)).f0, .slice Ac (G.rd_T73 L.recs (k : Int)).f1.length cc] 73)) := below_alloc (Below.refl _ _) _
   have hx4 := (hal.block bx (blk_lt X3.out)).trans X3.out
   have y0 := (blk_cell hx4 0).trans rfl
   have y1 := (blk_cell hx4 1).trans rfl
   refine hK.out _ _ ⟨y0, y1⟩ (fun hHeld => ?_)
   clear hK K
   refine norm_ (a' := ?_) ?_ ?_
   rotate_left
   ·show Act.put _ (some 22) _ = _
    simp only [pS]
    rfl
   refine one_ (i := 8) (N := some 23) (bt 10 511) rfl rfl (by kernel_rfl) (by decide) (fun K hK => ?_)
   refine Kd.R_append_step G.k73 (w0 := W) (W := W3) W.heap.size (by rfl) (.tmp 15) (.tmp 22) 62 73 (.agg #[.int .i64 0, .slice none 0 0]) 32 rfl Try.underlying62 G.info73 rfl (by decide) (by omega) (.slice Au nu cu) (L.recs.take k) (G.rd_T73 L.recs (k : Int)) [.int .i64 (G.rd_T73 L.recs (k : Int)).f0, .slice Ac (G.rd_T73 L.recs (k : Int)).f1.length cc] (fun q_ => W.heap.size ≤ q_) (fun q_ => (Value.slice Ac (G.rd_T73 L.recs (k : Int)).f1.length cc).ownBlock = some q_) rfl rfl (G.k73_mkM W3 W.heap.size _ (G.rd_T73 L.recs (k : Int)) (Kd.R_lower (R_own_ok RC.out) BB2.out.size)) (fun j hj => ⟨Nat.le_trans BB2.out.size (Kd.R_base RC.out j hj), fun e => by have h1 := Kd.R_base RC.out j hj; have h2 := Kd.R_lt NO2.out j e.symm; omega⟩) (fun j hj => Nat.le_trans BB3.out.size hj) NO3.out BB3.out BB3.out.size (by rw [List.length_take]; omega) ?_
   intro v4 W4 hn hb4 hg _
   obtain ⟨A4, c4, rfl⟩ := Kd.R_slice hn
   have hlen4 : (L.recs.take k ++ [(G.rd_T73 L.recs (k : Int))]).length = k + 1 := by rw [List.length_append, List.length_take, List.length_singleton]; omega
   rw [hlen4] at hn ⊢
   have NO4 := AM hn
   have BB4 := AM hb4
   have hx5 := (hg.block bx (blk_lt X3.out) (fun e => HOX.out e)).trans X3.out
   have y0 := (blk_cell hx5 0).trans rfl
   have y1 := (blk_cell hx5 1).trans rfl
   clear hn hb4 hg hx5
   refine hK.out _ _ ⟨y0, y1⟩ (fun hHeld => ?_)
   clear hK K
   refine norm_ (a' := ?_) ?_ ?_
   rotate_left
   ·show Act.put _ (some 23) _ = _
    simp only [pS]
    rfl
   refine pu 9 (some 3) ?_ (bt 10 1023) (by kernel_rfl) ?_ ?_ ?_ ?_
   rotate_left
   ·intro w'
    go_simp
    with_reducible rfl
   rotate_left
   ·simp only [pS]
    rfl
   refine done_ (by kernel_rfl) ?_
   go_wp2_with fail
   go_roundw
   case rel => exact ⟨k + 1, _, _, _, hlt, by go_num, rfl, AM (by
    have h9 := NO4.out
    rw [List.take_add_one, List.getElem?_eq_getElem hlt]
    have e : G.rd_T73 L.recs (k : Int) = L.recs[k] := by simp [G.rd_T73, List.getD_eq_getElem?_getD, hlt]
    rw [e] at h9
    exact h9), BB4⟩
   case measure => simp [intOf]; omega
  ·obtain rfl : k = L.recs.length := by omega
   go_wp2_with fail
   go_ret
   refine ⟨_, rfl, ?_, BB.out⟩
   have := NO.out
   rwa [List.take_length] at this
end Go.Proofs.Ytbbokpkpdnppjaa
namespace Go.Proofs.Ytbbokpkpdnppjaa
open Go.RowKit Go.Proofs.YtbbokpkpdnppjaaW.PrintWords Go.Proofs.YtbbokpkpdnppjaaW.PrintLast Go.Proofs.YtbbokpkpdnppjaaW.PrintMore
set_option linter.unusedVariables false
set_option linter.unusedSimpArgs false
def noDefer (ops : Array Oper) : Bool := ops.all fun o => match o.op with | .defer _ => false | _ => true
theorem noDefer_at {ops : Array Oper} (h : noDefer ops = true) (i : Nat) (o : Oper) (ho : ops[i]? = some o) : ∀ c, o.op ≠ .defer c := by
 intro c hc
 obtain ⟨hi, rfl⟩ := Array.getElem?_eq_some_iff.1 ho
 have := (Array.all_eq_true.1 h) i hi
 rw [hc] at this
 simp at this
theorem oper_in {P : Program} {o : Oper} {a : Act} {w : World} {K K' : Act → World → Prop} {Q : Exit → Act → World → Prop} (l n : Nat) (hd : ∀ c, o.op ≠ .defer c) (hK : ∀ a w, K a w → K' a w) (h : o.wp P a w K Q) : o.wpIn (Fence.wide.inRound l) n P a w K' Q := by
 have h := Oper.wp_mono hK h
 refine ⟨fun _ _ => trivial, ?_⟩
 rw [Oper.semAt_eq _ _ _ hd]
 unfold Oper.wp at h
 generalize (execOp a.eval o).run P w = r at h ⊢
 cases r with
 | ok x w' =>
  cases x with
  | value v => exact h
  | skip => exact h
  | defer d => exact h
  | enter f args => exact ⟨fun hh => by simp [Fence.wide] at hh, (callsIn_wide (n := n - 1)).2 h⟩
  | row row args =>
   refine ⟨fun hh => by simp [Fence.wide] at hh, fun c cs _ => ?_⟩
   obtain ⟨v, w2, h1, h2⟩ := h c cs
   exact ⟨v, w2, h1, stepsIn_wide.2 h2⟩
  | round l f tmps assign body => exact h.elim
  | _ => exact h.elim
 | halt x w' =>
  cases x with
  | panic v => exact h
  | _ => exact h.elim
theorem ops_in {P : Program} {ops : Array Oper} {Q : Exit → Act → World → Prop} (l n : Nat) (hd : noDefer ops = true) (hQ : ¬ LetsOut Q) : ∀ (order : List Nat) (a : Act) (w : World), wpOps P ops Q order a w → wpOpsIn (Fence.wide.inRound l) n P ops Q order a w := by
 intro order
 induction order with
 | nil => exact fun a w h => h
 | cons i rest ih =>
  intro a w h
  unfold wpOps at h
  unfold wpOpsIn
  cases ho : ops[i]? with
  | none => rw [ho] at h; exact ih a w h
  | some o =>
   rw [ho] at h
   simp only at h ⊢
   by_cases hw : Region.wanted o (yielded ops a.tmps) = true
   ·rw [if_pos hw] at h ⊢
    rcases h with h | h
    ·exact oper_in l n (noDefer_at hd i o ho) (fun a w h => ih a w h) h
    ·exact absurd h.2 hQ
   ·rw [if_neg hw] at h ⊢
    exact ⟨fun _ _ => trivial, ih _ _ h⟩
theorem start_in {P : Program} {ops : Array Oper} {Q : Exit → Act → World → Prop} {S : World → Prop} {ds : List Nat} {id k : Nat} {a : Act} {w : World} (l n : Nat) (lst : Array Bool) (hd : noDefer ops = true) (hQ : ¬ LetsOut Q) (hm : P.follows .mixedOrders = true) (hn : ops.size = k) (hl : Array.replicate k false = lst) (hS : S w.drew)
  (h : S w.drew → wpAnyLast P .any ops Q S ds k lst a w.drew) : (Code.region id ops true).wpIn (Fence.wide.inRound l) n P Q a w := by
 subst hn
 subst hl
 refine wpIn_region_draw fun t => ops_in l n hd hQ _ _ _ ?_
 simp only [Region.schedule, hm, Bool.true_or, if_true]
 exact wpAny_sound ops.size t _ a _ (wpAny_of_last _ _ _ _ (h hS))
end Go.Proofs.Ytbbokpkpdnppjaa
