/- The reference's frame is the program's; the walk of WalFrame. -/
import Derived.Test.YtbbokpkpdnppjaaM2
namespace Go.Proofs.Ytbbokpkpdnppjaa
open Go.RowKit Go.Proofs.YtbbokpkpdnppjaaW.PrintWords Go.Proofs.YtbbokpkpdnppjaaW.PrintLast Go.Proofs.YtbbokpkpdnppjaaW.PrintMore
set_option linter.unusedVariables false
set_option linter.unusedSimpArgs false

theorem number_l0 (n : Int) : ∀ (k fuel : Nat) (x : List Int), k ≤ 8 → k < fuel → x.length + k ≤ 140737488355328 → G.lineageref15_number.l0 fuel n x ((k : Int) - 1) = some (x ++ beBytes n k) := by
  intro k
  induction k with
  | zero =>
    intro fuel x _ hf _
    obtain ⟨f, rfl⟩ : ∃ f, fuel = f + 1 := ⟨fuel - 1, by omega⟩
    unfold G.lineageref15_number.l0
    rw [if_neg (by omega)]
    simp [beBytes]
  | succ k ih =>
    intro fuel x h8 hf hl
    obtain ⟨f, rfl⟩ : ∃ f, fuel = f + 1 := ⟨fuel - 1, by omega⟩
    unfold G.lineageref15_number.l0
    have e1 : ((k + 1 : Nat) : Int) - 1 = (k : Int) := by omega
    have e2 : wrap64 (8 * (k : Int)) = 8 * (k : Int) := by unfold wrap64; omega
    have e3 : wrap64 ((k : Int) - 1) = (k : Int) - 1 := by unfold wrap64; omega
    rw [e1, if_pos (by omega), e2, if_pos (by omega), if_pos (by omega), e3, ih f _ (by omega) (by omega) (by simp; omega)]
    simp [beBytes]
theorem number_f (fuel : Nat) (n : Int) (k : Nat) (h8 : k ≤ 8) (hf : k < fuel) : G.lineageref15_number.f fuel n (k : Int) = some (beBytes n k) := by
  unfold G.lineageref15_number.f
  rw [show wrap64 ((k : Int) - 1) = (k : Int) - 1 from by unfold wrap64; omega, number_l0 n k fuel [] h8 hf (by simp; omega)]
  simp
theorem crc_l1 (x : List Int) (i : Int) : ∀ (n f : Nat) (c : Int) (j : Int), j = 8 - (n : Int) → n ≤ 8 → G.lineageref04_Checksum.l1 (f + n + 1) x c i j = G.lineageref04_Checksum.l0 f x (crcBits n c) (wrap64 (i + 1)) := by
  intro n
  induction n with
  | zero =>
    intro f c j hj _
    unfold G.lineageref04_Checksum.l1
    rw [if_neg (by omega)]
    rfl
  | succ n ih =>
    intro f c j hj h8
    rw [show f + (n + 1) + 1 = (f + n + 1) + 1 from by omega]
    unfold G.lineageref04_Checksum.l1
    have hw : wrap64 (j + 1) = j + 1 := by unfold wrap64; omega
    rw [if_pos (by omega), hw]
    by_cases hb : Go.bits .and .u32 c 1 = 1
    · rw [if_pos hb, ih f _ (j + 1) (by omega) (by omega)]
      simp [crcBits, crcBit, hb]
    · rw [if_neg hb, ih f _ (j + 1) (by omega) (by omega)]
      simp [crcBits, crcBit, hb]
theorem crc_l0 (x : List Int) (hx : x.length ≤ 9223372036854775807) : ∀ (n i f : Nat) (c : Int), n + i = x.length → G.lineageref04_Checksum.l0 (f + 10 * n + 1) x c (i : Int) = some (Go.bits .xor .u32 (crcFold c (x.drop i)) 4294967295) := by
  intro n
  induction n with
  | zero =>
    intro i f c hi
    unfold G.lineageref04_Checksum.l0
    rw [if_neg (by omega), List.drop_eq_nil_of_le (by omega)]
    rfl
  | succ n ih =>
    intro i f c hi
    have h0 : i < x.length := by omega
    rw [show f + 10 * (n + 1) + 1 = (f + 10 * n + 1 + 8 + 1) + 1 from by omega]
    unfold G.lineageref04_Checksum.l0
    rw [if_pos (by omega), if_pos (by omega), crc_l1 x (i : Int) 8 (f + 10 * n + 1) _ 0 (by omega) (by omega), show wrap64 ((i : Int) + 1) = ((i + 1 : Nat) : Int) from by unfold wrap64; omega, ih (i + 1) f _ (by omega), List.drop_eq_getElem_cons h0, rd_get x i h0]
    rfl
theorem crc_f (x : List Int) (fuel : Nat) (hx : x.length ≤ 9223372036854775807) (hf : 10 * x.length < fuel) : G.lineageref04_Checksum.f fuel x = some (crc x) := by
  obtain ⟨f, rfl⟩ : ∃ f, fuel = f + 10 * x.length + 1 := ⟨fuel - 10 * x.length - 1, by omega⟩
  unfold G.lineageref04_Checksum.f
  exact crc_l0 x hx x.length 0 f 4294967295 (by omega)
theorem wrap_u64_nat (n : Nat) (h : n < 18446744073709551616) : IntKind.u64.wrap (n : Int) = (n : Int) := by rw [IntKind.wrap_u64]; omega
theorem ref_frame_f (lsn : Int) (data : List Int) (fuel : Nat) (hl : data.length ≤ 4194304) (hf : 10 * (12 + data.length) + 10 < fuel) : G.lineageref15_Frame.f fuel lsn data = some (frame lsn data) := by
  unfold G.lineageref15_Frame.f
  have h4 := fun n => number_f fuel n 4 (by omega) (by omega)
  have h8 := fun n => number_f fuel n 8 (by omega) (by omega)
  simp only [Int.cast_ofNat_Int] at h4 h8
  rw [wrap_u64_nat _ (by omega), h4, Option.bind_some, h8, Option.bind_some, if_pos (by rw [beBytes_length, beBytes_length]; decide), Option.bind_some, Option.bind_some,
    show beBytes (data.length : Int) 4 ++ beBytes (IntKind.u64.wrap lsn) 8 = fhead lsn data from rfl, if_pos (by rw [fhead_length]; decide), List.nil_append, Option.bind_some, if_pos (by rw [fhead_length]; omega),
    crc_f _ fuel (by rw [List.length_append, fhead_length]; omega) (by rw [List.length_append, fhead_length]; omega), Option.bind_some, h4, Option.bind_some, if_pos (by rw [fhead_length, beBytes_length]; decide), Option.bind_some, if_pos (by rw [List.length_append, fhead_length, beBytes_length]; omega)]
  rfl
theorem same_l0 (l0 l1 : List Int) (he : l0.length = l1.length) (hm : l0.length ≤ 9223372036854775807) : ∀ (n j f : Nat), n + j = l0.length → G.lineageref13_Same.l0 (f + n + 1) l0 l1 (j : Int) = some (decide (l0.drop j = l1.drop j)) := by
  intro n
  induction n with
  | zero =>
    intro j f hj
    unfold G.lineageref13_Same.l0
    rw [if_neg (by omega), List.drop_eq_nil_of_le (by omega), List.drop_eq_nil_of_le (by omega)]
    simp
  | succ n ih =>
    intro j f hj
    have h0 : j < l0.length := by omega
    have h1 : j < l1.length := by omega
    rw [show f + (n + 1) + 1 = (f + n + 1) + 1 from by omega]
    unfold G.lineageref13_Same.l0
    rw [if_pos (by omega), if_pos (by omega), if_pos (by omega), rd_get l0 j h0, rd_get l1 j h1, List.drop_eq_getElem_cons h0, List.drop_eq_getElem_cons h1]
    by_cases h : l0[j] = l1[j]
    · rw [if_pos h, show wrap64 ((j : Int) + 1) = ((j + 1 : Nat) : Int) from by unfold wrap64; omega, ih (j + 1) f (by omega)]
      exact congrArg some (decide_eq_decide.2 ⟨fun e => by rw [h, e], fun e => by injection e⟩)
    · rw [if_neg h]
      exact congrArg some (decide_eq_false (fun e => by injection e with e1; exact h e1)).symm
theorem same_f (l0 l1 : List Int) (hm : l0.length ≤ 9223372036854775807) (fuel : Nat) (hf : l0.length < fuel) : G.lineageref13_Same.f fuel l0 l1 = some (decide (l0 = l1)) := by
  unfold G.lineageref13_Same.f
  by_cases h : l0.length = l1.length
  · obtain ⟨f, rfl⟩ : ∃ f, fuel = f + l0.length + 1 := ⟨fuel - l0.length - 1, by omega⟩
    rw [if_pos (by omega)]
    have := same_l0 l0 l1 h hm l0.length 0 f (by omega)
    simpa using this
  · rw [if_neg (by omega)]
    exact congrArg some (decide_eq_false (fun e => h (by rw [e]))).symm
theorem SameG_calls (A0 : Option Addr) (c0 : Nat) (l0 : List Int) (A1 : Option Addr) (c1 : Nat) (l1 : List Int) (w : World) (hr0 : Kd.C (Kd.int .u8) w A0 l0.length l0) (hc0 : l0.length ≤ c0) (hr1 : Kd.C (Kd.int .u8) w A1 l1.length l1) (hc1 : l1.length ≤ c1) :
    Calls Try.prog 23 #[.slice A0 l0.length c0, .slice A1 l1.length c1] w fun e w' => e = .returned (.bool (decide (l0 = l1))) ∧ Below w.heap.size w w' :=
  (G.lineageref13_Same.calls (l0.length + 1) A0 c0 l0 A1 c1 l1 _ w hr0 hc0 hr1 hc1 (same_f l0 l1 hr0.2.1 _ (by omega))).mono (fun e w' h => ⟨h.1, h.2.below⟩)
theorem ref_frame_calls (lsn : Int) (A : Option Addr) (c : Nat) (data : List Int) (w : World) (hC : Kd.C (Kd.int .u8) w A data.length data) (hc : data.length ≤ c) (hl : data.length ≤ 4194304) :
    Calls Try.prog 35 #[.int .i64 lsn, .slice A data.length c] w fun e w' => ∃ v, e = .returned v ∧ Kd.R (Kd.int .u8) 5 w' w.heap.size (fun _ => True) v (frame lsn data) ∧ Below w.heap.size w w' :=
  G.lineageref15_Frame.calls (10 * (12 + data.length) + 11) lsn A c data _ w hC hc (ref_frame_f lsn data _ hl (by omega))

set_option maxRecDepth 100000 in
set_option maxHeartbeats 8000000 in
theorem WalFrame_calls (lsn : Int) (A : Option Addr) (c : Nat) (data : List Int) (w : World) (hC : Kd.C (Kd.int .u8) w A data.length data) (hc : data.length ≤ c) :
    Calls Try.prog 10 #[.int .i64 lsn, .slice A data.length c] w fun e w' => e = .returned (.bool true) ∧ Below w.heap.size w w' := by
  have HC := Aside0.mk hC
  clear hC
  go_enter Try.func10, Try.ntmps10
  go_wp2_with fail
  refine (awake15 w).mono ?_
  rintro e w1 ⟨rfl, hb⟩
  have HB1 := Aside0.mk hb
  clear hb
  by_cases h3 : data.length > 300
  · have ht : (data.length : Int) > 300 := by omega
    go_wp2_with fail
    refine (awake15 w1).mono ?_
    rintro e w2 ⟨rfl, hb⟩
    have HB2 := Aside0.mk (below_step HB1.out hb)
    clear hb
    go_wp2_with fail
    go_ret
    exact ⟨rfl, HB2.out⟩
  · have ht : ¬ ((data.length : Int) > 300) := by omega
    go_wp2_with fail
    refine (Frame_calls lsn A c data w1 (Kd.C_below HC.out HB1.out) hc (by omega)).mono ?_
    rintro e w2 ⟨v2, rfl, hr, hb⟩
    obtain ⟨A2, c2, rfl⟩ := Kd.R_slice hr
    have R2 := Aside0.mk hr
    have HB2 := Aside0.mk (below_step HB1.out hb)
    clear hr hb
    go_wp2_with fail
    refine (ref_frame_calls lsn A c data w2 (Kd.C_below HC.out HB2.out) hc (by omega)).mono ?_
    rintro e w3 ⟨v3, rfl, hr, hb⟩
    obtain ⟨A3, c3, rfl⟩ := Kd.R_slice hr
    have R3 := Aside0.mk hr
    have R23 := Aside0.mk (Kd.R_below R2.out hb)
    have HB3 := Aside0.mk (below_step HB2.out hb)
    clear hr hb
    generalize hfr : frame lsn data = fr at R2 R3 R23 ⊢
    go_wp2_with fail
    refine (SameG_calls A2 c2 fr A3 c3 fr w3 (Kd.R_reads' R23.out).2.2 (Kd.R_reads' R23.out).2.1 (Kd.R_reads' R3.out).2.2 (Kd.R_reads' R3.out).2.1).mono ?_
    rintro e w4 ⟨rfl, hb⟩
    have HB4 := Aside0.mk (below_step HB3.out hb)
    clear hb
    rw [decide_eq_true rfl]
    go_wp2_with fail
    go_ret
    exact ⟨rfl, HB4.out⟩
end Go.Proofs.Ytbbokpkpdnppjaa
