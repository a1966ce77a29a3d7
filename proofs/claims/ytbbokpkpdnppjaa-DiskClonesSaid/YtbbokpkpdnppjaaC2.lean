/- The walk of DiskFailures. -/
import Derived.Test.YtbbokpkpdnppjaaB2
namespace Go.Proofs.Ytbbokpkpdnppjaa
open Go.RowKit Go.Proofs.YtbbokpkpdnppjaaW.PrintWords Go.Proofs.YtbbokpkpdnppjaaW.PrintLast Go.Proofs.YtbbokpkpdnppjaaW.PrintMore
set_option linter.unusedVariables false
set_option linter.unusedSimpArgs false

/-- Behind k of n writes. -/
def dF (l : List Int) (n : Int) (k : Nat) : Dk := ⟨List.replicate 64 0, List.replicate k ⟨0, l⟩, n - k, false⟩
def dG (l : List Int) (k : Nat) : Dk := ⟨List.replicate 64 0, List.replicate k ⟨0, l⟩, 0, true⟩
theorem dF_ok (l : List Int) (n : Int) (k : Nat) (hl : l.length ≤ 64) (hk : k ≤ 20) (hn : (k : Int) ≤ n) (hn2 : n ≤ 20) : (dF l n k).Ok where
  pos := by simp [dF]
  few := by simp [dF]; omega
  big := by simp [dF]
  fit := fun x hx => by simp only [dF, List.mem_replicate] at hx; obtain ⟨_, rfl⟩ := hx; simp [dF]; omega
  lo := by simp [dF]; omega
  hi := by simp [dF]; omega
theorem dG_ok (l : List Int) (k : Nat) (hl : l.length ≤ 64) (hk : k ≤ 20) : (dG l k).Ok where
  pos := by simp [dG]
  few := by simp [dG]; omega
  big := by simp [dG]
  fit := fun x hx => by simp only [dG, List.mem_replicate] at hx; obtain ⟨_, rfl⟩ := hx; simp [dG]; omega
  lo := by simp [dG]
  hi := by simp [dG]
theorem ins64 (l : List Int) (hl : l.length ≤ 64) : insd 64 0 l.length = true := by simp [insd]; omega
theorem dF_write (l : List Int) (n : Int) (k : Nat) (hl : l.length ≤ 64) (hn : (k : Int) < n) : (dF l n k).write 0 l = (dF l n (k + 1), 0) := by
  have e : insd (dF l n k).dur.length 0 l.length = true := by simpa [dF] using ins64 l hl
  have h1 : (dF l n k).cnt ≠ 0 := by simp [dF]; omega
  have h2 : 0 < (dF l n k).cnt := by simp [dF]; omega
  simp only [Dk.write, e]
  rw [if_neg (by simp [dF]), if_neg (by simp), if_neg h1]
  simp only [Dk.burnt, if_pos h2, Dk.wrote]
  simp only [dF, List.replicate_succ', Prod.mk.injEq, Dk.mk.injEq, and_true, true_and]
  omega
theorem dF_out (l : List Int) (n : Int) (k : Nat) : (dF l n k).write 65 l = (dF l n k, 2) := by
  have e : insd (dF l n k).dur.length 65 l.length = false := by simp [insd, dF]
  simp only [Dk.write, e]
  simp [dF]
theorem dF_stop (l : List Int) (k : Nat) (hl : l.length ≤ 64) : (dF l k k).write 0 l = (dG l k, 11) := by
  have e : insd (dF l k k).dur.length 0 l.length = true := by simpa [dF] using ins64 l hl
  have h1 : (dF l k k).cnt = 0 := by simp [dF]
  simp only [Dk.write, e]
  rw [if_neg (by simp [dF]), if_neg (by simp), if_pos h1]
  simp [dF, dG]
theorem dF_read (l : List Int) (n : Int) (k : Nat) : ((dF l n k).read 0 1).2 = 0 := by
  have e : insd (dF l n k).dur.length 0 1 = true := by simp [insd, dF]
  simp only [Dk.read, e]
  simp [dF]
theorem dG_read (l : List Int) (k : Nat) : ((dG l k).read 0 1).2 = 11 := by simp [Dk.read, dG]
theorem dG_sync (l : List Int) (k : Nat) : (dG l k).sync = (dG l k, 11) := by simp [Dk.sync, dG]
theorem dG_crash (l : List Int) (k : Nat) : (dG l k).crashed [] = Dk.fresh 64 := by simp [Dk.crashed, dG, tearAll, Dk.fresh]
theorem f64_read : ((Dk.fresh 64).read 0 1).2 = 0 := by
  have e : insd (Dk.fresh 64).dur.length 0 1 = true := by simp [insd, Dk.fresh]
  simp only [Dk.read, e]
  simp [Dk.fresh]
theorem f64_after1 : (Dk.fresh 64).after 1 = ⟨List.replicate 64 0, [], 1, false⟩ := by simp [Dk.after, Dk.fresh]
theorem f64_after2 : (⟨List.replicate 64 0, [], 1, false⟩ : Dk).after (-1) = Dk.fresh 64 := by simp [Dk.after, Dk.fresh]
theorem f64_write (l : List Int) (hl : l.length ≤ 64) : (Dk.fresh 64).write 0 l = ((Dk.fresh 64).burnt.wrote 0 l, 0) := by
  have e : insd (Dk.fresh 64).dur.length 0 l.length = true := by simpa [Dk.fresh] using ins64 l hl
  simp only [Dk.write, e]
  simp [Dk.fresh]
theorem sync_ok {D : Dk} (hf : D.failed = false) (hc : D.cnt = -1) : D.sync = (D.synced, 0) := by
  obtain ⟨d, p, c, f⟩ := D
  simp only at hf hc
  subst hf hc
  simp [Dk.sync, Dk.burnt]
theorem write_good {D : Dk} (hf : D.failed = false) (hc : D.cnt = -1) (at_ : Int) (l : List Int) (hi : insd D.dur.length at_ l.length = true) : D.write at_ l = (D.wrote at_ l, 0) := by
  obtain ⟨d, p, c, f⟩ := D
  simp only at hf hc hi
  subst hf hc
  simp [Dk.write, hi, Dk.burnt]

set_option maxRecDepth 100000 in
set_option maxHeartbeats 4000000 in
theorem DiskFailures_calls (n : Int) (A : Option Addr) (c : Nat) (l : List Int) (w : World) (h0 : 0 ≤ n) (h255 : n ≤ 255) (hC : Kd.C (Kd.int .u8) w A l.length l) (hc : l.length ≤ c) :
    Calls Try.prog 7 #[.int .u8 n, .slice A l.length c] w fun e w' => e = .returned (.bool true) ∧ Below w.heap.size w w' := by
  have HC := Aside0.mk hC
  clear hC
  by_cases h20 : 20 < n
  · go_enter Try.func7, Try.ntmps7
    go_wp2_with (first | (go_at_call 14; refine (awake13 _).mono ?_; rintro e w1 ⟨rfl, hb⟩; have HB := Aside0.mk hb; clear hb))
    go_ret
    exact ⟨rfl, HB.out⟩
  by_cases h64 : 64 < l.length
  · go_enter Try.func7, Try.ntmps7
    go_wp2_with (first | (go_at_call 14; refine (awake13 _).mono ?_; rintro e w1 ⟨rfl, hb⟩; have HB := Aside0.mk hb; clear hb))
    go_ret
    exact ⟨rfl, HB.out⟩
  obtain ⟨m, rfl⟩ := Int.eq_ofNat_of_zero_le h0
  have HM := Aside0.mk (show m ≤ 20 ∧ l.length ≤ 64 by omega)
  have OK0 := Aside0.mk (Dk.fresh_ok 64 (by omega) (by omega))
  have HL := Aside0.mk (show l.length ≤ 140737488355328 by omega)
  go_enter Try.func7, Try.ntmps7
  go_wp2_with fail
  refine (awake13 _).mono ?_
  rintro e w0 ⟨rfl, hb⟩
  have HB0 := Aside0.mk hb
  clear hb
  go_wp2_with fail
  refine (St.new (w0 := w) 64 HB0.out (by omega) (by omega)).mono ?_
  rintro e w1 ⟨g, rfl, hs⟩
  have S1 := Aside0.mk hs
  clear hs
  go_wp2_with fail
  refine (S1.out.failAfter (m : Int)).mono ?_
  rw [show (Dk.fresh 64).after (m : Int) = dF l m 0 by simp only [Dk.after, Dk.fresh, dF, List.replicate_zero]; rw [if_neg (by omega)]; simp]
  rintro e w2 ⟨rfl, hs⟩
  have S2 := Aside0.mk hs
  clear hs
  go_wp2_with fail
  go_loopw [7] (fun i wr => ∃ k : Nat, k ≤ m ∧ i = .int .i64 (k : Int) ∧ Aside0 (St w wr g (dF l m k))) (fun i _ => m - (intOf i).toNat)
  case atStart => exact ⟨0, Nat.zero_le _, rfl, S2⟩
  case round =>
    obtain ⟨k, hk, rfl, SK⟩ := hrel
    by_cases hlt : k < m
    · have OKK := Aside0.mk (dF_ok l m k HM.out.2 (by have := HM.out; omega) (by omega) (by have := HM.out; omega))
      have OKL := Aside0.mk (dF_ok l m (k + 1) HM.out.2 (by have := HM.out; omega) (by omega) (by have := HM.out; omega))
      have HW := Aside0.mk (dF_write l m k HM.out.2 (by omega))
      have hlt' : ((k : Int) < (m : Int)) := by omega
      go_wp2_with fail
      refine (SK.out.write_arg 0 A c l OKK.out HC.out hc HL.out).mono ?_
      rw [HW.out]
      rintro e w3 ⟨rfl, hs⟩
      have S3 := Aside0.mk hs
      clear hs
      go_wp2_with fail
      refine (S3.out.write_arg 65 A c l OKL.out HC.out hc HL.out).mono ?_
      rw [dF_out]
      rintro e w4 ⟨rfl, hs⟩
      have S4 := Aside0.mk hs
      clear hs
      go_wp2_with fail
      refine (S4.out.failed).mono ?_
      rw [show (dF l m (k + 1)).failed = false from rfl]
      rintro e w' ⟨rfl, rfl⟩
      go_wp2_with fail
      go_roundw
      case rel => exact ⟨k + 1, by omega, by go_num, S4⟩
      case measure => simp [intOf]; omega
    · obtain rfl : k = m := by omega
      have OKK := Aside0.mk (dF_ok l k k HM.out.2 (by have := HM.out; omega) (by omega) (by have := HM.out; omega))
      have OKG := Aside0.mk (dG_ok l k HM.out.2 (by have := HM.out; omega))
      have HST := Aside0.mk (dF_stop l k HM.out.2)
      go_wp2_with fail
      refine (SK.out.read 0 1 OKK.out).mono ?_
      rintro e w3 ⟨v, rfl, hR, hB⟩
      rw [dF_read]
      have S3 := Aside0.mk (SK.out.step hB)
      obtain ⟨A3, c3, rfl⟩ := Kd.R_slice hR
      clear hR hB
      go_wp2_with fail
      refine (S3.out.write_arg 0 A c l OKK.out HC.out hc HL.out).mono ?_
      rw [HST.out]
      rintro e w4 ⟨rfl, hs⟩
      have S4 := Aside0.mk hs
      clear hs
      go_wp2_with fail
      refine (S4.out.failed).mono ?_
      rw [show (dG l k).failed = true from rfl]
      rintro e w' ⟨rfl, rfl⟩
      go_wp2_with fail
      refine (S4.out.sync OKG.out).mono ?_
      rw [dG_sync]
      rintro e w5 ⟨rfl, hs⟩
      have S5 := Aside0.mk hs
      clear hs
      go_wp2_with fail
      refine (S5.out.pending).mono ?_
      rw [show (dG l k).pend.length = k by simp [dG]]
      rintro e w' ⟨rfl, rfl⟩
      go_wp2_with fail
      refine (S5.out.read 0 1 OKG.out).mono ?_
      rintro e w6 ⟨v, rfl, hR, hB⟩
      rw [dG_read]
      have S6 := Aside0.mk (S5.out.step hB)
      obtain ⟨A6, c6, rfl⟩ := Kd.R_slice hR
      clear hR hB
      go_wp2_with fail
      refine (S6.out.crash_nil OKG.out).mono ?_
      rw [dG_crash]
      rintro e w7 ⟨rfl, hs⟩
      have S7 := Aside0.mk hs
      clear hs
      go_wp2_with fail
      refine (S7.out.read 0 1 OK0.out).mono ?_
      rintro e w8 ⟨v, rfl, hR, hB⟩
      rw [f64_read]
      have S8 := Aside0.mk (S7.out.step hB)
      obtain ⟨A8, c8, rfl⟩ := Kd.R_slice hR
      clear hR hB
      go_wp2_with fail
      refine (S8.out.failAfter 1).mono ?_
      rw [f64_after1]
      rintro e w9 ⟨rfl, hs⟩
      have S9 := Aside0.mk hs
      clear hs
      go_wp2_with fail
      refine (S9.out.failAfter (-1)).mono ?_
      rw [f64_after2]
      rintro e w10 ⟨rfl, hs⟩
      have S10 := Aside0.mk hs
      clear hs
      go_wp2_with fail
      refine (S10.out.failed).mono ?_
      rw [show (Dk.fresh 64).failed = false from rfl]
      rintro e w' ⟨rfl, rfl⟩
      go_wp2_with fail
      have HWR := Aside0.mk (f64_write l HM.out.2)
      have OK1 := Aside0.mk (show ((Dk.fresh 64).burnt.wrote 0 l).Ok by have := OK0.out.write (by simp [Dk.fresh]) 0 l; rwa [HWR.out] at this)
      refine (S10.out.write_arg 0 A c l OK0.out HC.out hc HL.out).mono ?_
      rw [HWR.out]
      rintro e w11 ⟨rfl, hs⟩
      have S11 := Aside0.mk hs
      clear hs
      go_wp2_with fail
      have HSY := Aside0.mk (sync_ok (D := (Dk.fresh 64).burnt.wrote 0 l) rfl rfl)
      have OK2 := Aside0.mk (OK1.out.synced)
      have HLN := Aside0.mk (show ((Dk.fresh 64).burnt.wrote 0 l).synced.dur.length = 64 by rw [Dk.synced, layAll_length _ _ OK1.out.fit]; simp [Dk.fresh, Dk.burnt, Dk.wrote])
      refine (S11.out.sync OK1.out).mono ?_
      rw [HSY.out]
      rintro e w12 ⟨rfl, hs⟩
      have S12 := Aside0.mk hs
      clear hs
      go_wp2_with fail
      refine (S12.out.write_arg 0 A c l OK2.out HC.out hc HL.out).mono ?_
      rw [write_good (D := ((Dk.fresh 64).burnt.wrote 0 l).synced) rfl rfl 0 l (by rw [HLN.out]; exact ins64 l HM.out.2)]
      rintro e w13 ⟨rfl, hs⟩
      have S13 := Aside0.mk hs
      clear hs
      go_wp2_with fail
      go_ret
      exact ⟨rfl, S13.out.bel⟩
end Go.Proofs.Ytbbokpkpdnppjaa
