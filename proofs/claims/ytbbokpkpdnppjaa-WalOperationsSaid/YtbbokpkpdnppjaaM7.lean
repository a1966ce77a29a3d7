/- The log: the frames of a disk, in general. -/
import Derived.Test.YtbbokpkpdnppjaaU0
import Derived.Test.YtbbokpkpdnppjaaUA
import Derived.WalkKit
import Derived.OwnWalkIn
import Derived.TacticsInMore
import Derived.LoopNIn
import Derived.LoopIn
import Derived.Test.YtbbokpkpdnppjaaM6
namespace Go.Proofs.Ytbbokpkpdnppjaa
open Go.RowKit Go.Proofs.YtbbokpkpdnppjaaW.PrintWords Go.Proofs.YtbbokpkpdnppjaaW.PrintLast Go.Proofs.YtbbokpkpdnppjaaW.PrintMore
set_option linter.unusedVariables false
set_option linter.unusedSimpArgs false
attribute [local go_sem] Oper.semAt_some
def Bytes (l : List Int) : Prop := ∀ x ∈ l, 0 ≤ x ∧ x < 256
theorem beStep_nat (a y : Nat) (k : Nat) (hk : k ≤ 7) (ha : a < 2 ^ (8 * k)) (hy : y < 256) : ∃ z : Nat, beStep (a : Int) (y : Int) = (z : Int) ∧ z < 2 ^ (8 * (k + 1)) := by
 have h7 : a < 2 ^ 56 := Nat.lt_of_lt_of_le ha (Nat.pow_le_pow_right (by omega) (by omega))
 have ha2 : a * 256 < 2 ^ (8 * (k + 1)) := by rw [show 8 * (k + 1) = 8 * k + 8 from by omega, Nat.pow_add]; omega
 refine ⟨a * 256 ||| y, ?_, Nat.or_lt_two_pow ha2 (Nat.lt_of_lt_of_le (show y < 2 ^ 8 by omega) (Nat.pow_le_pow_right (by omega) (by omega)))⟩
 unfold beStep
 rw [show (a : Int) * 256 = ((a * 256 : Nat) : Int) from by omega, wrap_u64_nat _ (by omega), wrap_u64_nat _ (by omega), bits_or_u64_nat _ _ (by omega) (by omega)]
theorem beVal_nat (l : List Int) (hb : Bytes l) : ∀ k, k ≤ 8 → k ≤ l.length → ∃ z : Nat, beVal (l.take k) = (z : Int) ∧ z < 2 ^ (8 * k) := by
 intro k
 induction k with
 | zero => intro _ _; exact ⟨0, rfl, by decide⟩
 | succ k ih =>
  intro h1 h2
  obtain ⟨a, ea, ha⟩ := ih (by omega) (by omega)
  obtain ⟨hx0, hx1⟩ := hb _ (List.getElem_mem (show k < l.length by omega))
  obtain ⟨y, ey⟩ := Int.eq_ofNat_of_zero_le hx0
  rw [beVal_succ l k (by omega), ea, ey]
  exact beStep_nat a y k (by omega) ha (by omega)
theorem beVal_nat4 (l : List Int) (hb : Bytes l) (h : 4 ≤ l.length) : ∃ z : Nat, beVal (l.take 4) = (z : Int) ∧ z < 4294967296 := by
 obtain ⟨z, e, hz⟩ := beVal_nat l hb 4 (by omega) h
 rw [show (2 : Nat) ^ (8 * 4) = 4294967296 from by decide] at hz
 exact ⟨z, e, hz⟩
theorem w64 {x : Int} (h0 : -9223372036854775808 ≤ x) (h1 : x ≤ 9223372036854775807) : wrap64 x = x := by unfold wrap64; omega
theorem w16 (a : Nat) (h : a ≤ 4194304) : wrap64 ((a : Int) + 16) = (a : Int) + 16 := w64 (by omega) (by omega)
theorem w16n (a n : Nat) (h : a ≤ 4194304) (hn : n < 4294967296) : wrap64 ((a : Int) + 16 + (n : Int)) = (a : Int) + 16 + (n : Int) := w64 (by omega) (by omega)
def frameAt (b : List Int) (base : Int) (at_ : Nat) : Option Nat :=
 if at_ + 16 ≤ b.length ∧ beVal ((b.drop at_).take 4) ≤ (b.length : Int) - at_ - 16 ∧ (b.take (at_ + 16 + (beVal ((b.drop at_).take 4)).toNat)).drop at_ = frame (base + at_ - 24) ((b.take (at_ + 16 + (beVal ((b.drop at_).take 4)).toNat)).drop (at_ + 16)) then some (beVal ((b.drop at_).take 4)).toNat else none
def Fin (b : List Int) (base : Int) (J : Nat → List G.S73 → World → Prop) (W : World) : Prop := ∃ at_ rs, J at_ rs W ∧ frameAt b base at_ = none
theorem Bytes.drop {l : List Int} (h : Bytes l) (k : Nat) : Bytes (l.drop k) := fun x hx => h x (List.mem_of_mem_drop hx)
set_option maxRecDepth 100000 in
set_option maxHeartbeats 8000000 in
theorem frames_gen (b : List Int) (hB : Bytes b) (base : Int) (hb0 : 0 ≤ base) (hb1 : base ≤ 4611686018427387904) (h24 : 24 ≤ b.length) (hm : b.length ≤ 4194304) (A : Option Addr) (c p q l m : Nat) (hc : b.length ≤ c)
  (J : Nat → List G.S73 → World → Prop) (hJ : ∀ at_ rs W, J at_ rs W → W.cell? ⟨p, 0, none⟩ = some (.slice A b.length c) ∧ W.cell? ⟨q, 0, none⟩ = some (.int .i64 base) ∧ Kd.C (Kd.int .u8) W A b.length b)
  (hJb : ∀ at_ rs W W', J at_ rs W → Below W.heap.size W W' → J at_ rs W')
  (hY : ∀ at_ rs n W W' Ac cc, J at_ rs W → Below W.heap.size W W' → frameAt b base at_ = some n → Kd.R (Kd.int .u8) 5 W' W.heap.size (fun _ => True) (.slice Ac n cc) ((b.take (at_ + 16 + n)).drop (at_ + 16)) →
   YieldAt Fence.wide (m - 1) Try.prog l #[.agg #[.int .i64 (base + at_ - 24), .slice Ac n cc]] W' fun e W1 => e = .returned (.bool true) ∧ J (at_ + 16 + n) (rs ++ [⟨base + at_ - 24, (b.take (at_ + 16 + n)).drop (at_ + 16)⟩]) W1)
  (W : World) (h0 : J 24 [] W) :
  CallsIn Fence.wide m Try.prog 85 #[.func (.yield l) #[] #[], .pointer (some ⟨p, 0, none⟩), .pointer (some ⟨q, 0, none⟩)] W fun e W' => e = .returned (.tuple #[]) ∧ Fin b base J W' := by
 obtain ⟨i05, hi05, _, hsz5, _⟩ := info_parts info5
 refine callsIn_of_wp Try.func85 rfl trivial ?_ rfl
 simp only [Try.ntmps85, List.size_toArray, List.length_cons, List.length_nil, Nat.reduceAdd, Nat.reduceSub, Array.replicate_succ, Array.replicate_zero, List.push_toArray, List.append_toArray, List.nil_append, List.cons_append]
 gi_wp2_with fail
 gi_loopw [4] (fun va wr => ∃ (at_ : Nat) (rs : List G.S73), va = .int .i64 (at_ : Int) ∧ at_ ≤ b.length ∧ Aside0 (J at_ rs wr)) (fun va _ => b.length - (intOf va).toNat)
 case atStart => exact ⟨24, [], rfl, h24, AM h0⟩
 case round =>
  obtain ⟨at_, rs, rfl, hat, HJ⟩ := hrel
  have hp := (hJ _ _ _ HJ.out).1
  have hq := (hJ _ _ _ HJ.out).2.1
  obtain ⟨Ah, hcuth, hAh, hCh⟩ := print_drop_of (P := Try.prog) (Value.int .u8) 0 29 5 .i64 Try.underlying29 hi05 hsz5 A c b (at_ : Int) (by omega) (by omega) hc
  simp only [Int.toNat_natCast] at hcuth hAh hCh
  have hdh : (b.drop at_).length = b.length - at_ := List.length_drop
  rw [hdh] at hcuth
  have HAH := AM hAh
  clear hAh
  rcases Nat.lt_or_ge b.length (at_ + 16) with hfit | hfit
  ·have hnone : frameAt b base at_ = none := by unfold frameAt; rw [if_neg (fun h => by omega)]
   have ht : ¬ ((b.length : Int) - (at_ : Int) ≥ 16) := by omega
   gi_wp2_with fail
   go_end0
   exact ⟨rfl, at_, rs, HJ.out, hnone⟩
  have ht : (b.length : Int) - (at_ : Int) ≥ 16 := by omega
  gi_wp2_with fail
  refine ⟨trivial, fun h => by simp [Fence.wide] at h, callsIn_wide.2 ?_⟩
  have hg := get_calls Ah (c - at_) (b.drop at_) 4 wr (by exact Kd.C_of_reads (h1 := fun _ => rfl) (HAH.out _ (Kd.reads_of_C (hJ _ _ _ HJ.out).2.2))) (by omega) (by omega)
  rw [hdh] at hg
  refine hg.mono ?_
  clear hg
  rintro e w1 ⟨rfl, rfl⟩
  obtain ⟨n, hn, hn3⟩ := beVal_nat4 (b.drop at_) (hB.drop at_) (by omega)
  have HN := AM hn
  rw [hn]
  clear hn
  rcases Nat.lt_or_ge (b.length - at_ - 16) n with hbig | hsm
  ·have hnone : frameAt b base at_ = none := by unfold frameAt; rw [if_neg (fun h => by have h1 := h.2.1; rw [HN.out] at h1; omega)]
   have htb : (n : Int) > (b.length : Int) - (at_ : Int) - 16 := by omega
   gi_wp2_with fail
   refine bodyPost_ret (results_none rfl _ _ _) rfl ?_
   exact ⟨rfl, at_, rs, HJ.out, hnone⟩
  have htb : ¬ ((n : Int) > (b.length : Int) - (at_ : Int) - 16) := by omega
  obtain ⟨Ad, hcutd, hAd, hCd⟩ := print_mid_of (P := Try.prog) (Value.int .u8) 0 29 5 .i64 .i64 Try.underlying29 hi05 hsz5 A c b ((at_ : Int) + 16) ((at_ : Int) + 16 + (n : Int)) (by omega) (by omega) (by omega) hc
  obtain ⟨Af, hcutf, hAf, hCf⟩ := print_mid_of (P := Try.prog) (Value.int .u8) 0 29 5 .i64 .i64 Try.underlying29 hi05 hsz5 A c b (at_ : Int) ((at_ : Int) + 16 + (n : Int)) (by omega) (by omega) (by omega) hc
  rw [show ((at_ : Int) + 16 + (n : Int)).toNat = at_ + 16 + n from by omega, show ((at_ : Int) + 16).toNat = at_ + 16 from by omega] at hcutd hAd hCd
  rw [show ((at_ : Int) + 16 + (n : Int)).toNat = at_ + 16 + n from by omega, Int.toNat_natCast] at hcutf hAf hCf
  have hdl : ((b.take (at_ + 16 + n)).drop (at_ + 16)).length = n := by rw [List.length_drop, List.length_take]; omega
  have hfl : ((b.take (at_ + 16 + n)).drop at_).length = 16 + n := by rw [List.length_drop, List.length_take]; omega
  have hsome : (b.take (at_ + 16 + n)).drop at_ = frame (base + (at_ : Int) - 24) ((b.take (at_ + 16 + n)).drop (at_ + 16)) → frameAt b base at_ = some n := fun h => by
   unfold frameAt
   rw [HN.out, Int.toNat_natCast, if_pos ⟨by omega, by omega, h⟩]
  have hnone : (b.take (at_ + 16 + n)).drop at_ ≠ frame (base + (at_ : Int) - 24) ((b.take (at_ + 16 + n)).drop (at_ + 16)) → frameAt b base at_ = none := fun h => by
   unfold frameAt
   rw [HN.out, Int.toNat_natCast, if_neg (fun hx => h hx.2.2)]
  have HY := AM (fun W W' Ac cc hj hb hs hr => hY at_ rs n W W' Ac cc hj hb hs hr)
  clear hY
  generalize (b.take (at_ + 16 + n)).drop (at_ + 16) = data at hcutd hAd hCd hdl hsome hnone HY
  generalize (b.take (at_ + 16 + n)).drop at_ = fb at hcutf hAf hCf hfl hsome hnone
  rw [hdl] at hcutd
  rw [hfl] at hcutf
  have HDC := AM (show data.length ≤ c - (at_ + 16) ∧ data.length ≤ 140737488355312 ∧ fb.length ≤ c - at_ ∧ at_ + 16 + n ≤ b.length from ⟨by omega, by omega, by omega, by omega⟩)
  have HAD := AM hAd
  have HAF := AM hAf
  have HSOME := AM hsome
  have HNONE := AM hnone
  clear hAd hAf hsome hnone
  gi_wp2_with fail
  rw [wpIn_wide]
  have hw16 := w16 at_ (Nat.le_trans hat hm)
  have hw16n := w16n at_ n (Nat.le_trans hat hm) hn3
  refine start_ (n := 12) (S := fun w' => w'.cell? ⟨p, 0, none⟩ = some (.slice A b.length c)) (ds := []) #[false, false, false, false, false, false, false, false, false, false, false, false] (by kernel_rfl) rfl rfl hp (fun hHeld => ?_)
  have hbd : Below wr.heap.size wr wr.drew := below_drew (Below.refl _ _)
  have HJ2 := AM (hJb _ _ _ _ HJ.out hbd)
  clear hHeld hbd hp
  generalize wr.drew = W2 at HJ2 ⊢
  have hp := (hJ _ _ _ HJ2.out).1
  have hHeld := hp
  refine tk 0 (some 37) ?_ (bt 12 1) (by kernel_rfl) hHeld ?_ ?_ ?_ ?_
  rotate_left
  ·intro w' s0
   go_simp
   with_reducible rfl
  rotate_left
  ·simp only [pS]
   rfl
  refine pu 1 (some 38) ?_ (bt 12 3) (by kernel_rfl) ?_ ?_ ?_ ?_
  rotate_left
  ·intro w'
   go_simp
   with_reducible rfl
  rotate_left
  ·simp only [pS]
   rfl
  refine pu 2 (some 39) ?_ (bt 12 7) (by kernel_rfl) ?_ ?_ ?_ ?_
  rotate_left
  ·intro w'
   go_simp
   with_reducible rfl
  rotate_left
  ·simp only [pS]
   rfl
  refine pu 3 (some 40) ?_ (bt 12 15) (by kernel_rfl) ?_ ?_ ?_ ?_
  rotate_left
  ·intro w'
   go_simp
   with_reducible rfl
  rotate_left
  ·simp only [pS]
   rfl
  refine pu 4 (some 41) ?_ (bt 12 31) (by kernel_rfl) ?_ ?_ ?_ ?_
  rotate_left
  ·intro w'
   go_simp
   with_reducible rfl
  rotate_left
  ·simp only [pS]
   rfl
  refine pu 5 (some 42) ?_ (bt 12 63) (by kernel_rfl) ?_ ?_ ?_ ?_
  rotate_left
  ·intro w'
   go_simp
   with_reducible rfl
  rotate_left
  ·simp only [pS]
   rfl
  refine pu 6 (some 43) ?_ (bt 12 127) (by kernel_rfl) ?_ ?_ ?_ ?_
  rotate_left
  ·intro w'
   go_simp
   with_reducible rfl
  rotate_left
  ·simp only [pS]
   rfl
  refine pu 7 (some 44) ?_ (bt 12 255) (by kernel_rfl) ?_ ?_ ?_ ?_
  rotate_left
  ·intro w'
   go_simp
   with_reducible rfl
  rotate_left
  ·simp only [pS]
   rfl
  refine pu 8 (some 45) ?_ (bt 12 511) (by kernel_rfl) ?_ ?_ ?_ ?_
  rotate_left
  ·intro w'
   go_simp
   with_reducible rfl
  rotate_left
  ·simp only [pS]
   rfl
  refine one_ (i := 9) (N := some 46) (bt 12 1023) rfl rfl (by kernel_rfl) (by decide) (fun K hK => ?_)
  refine goes_ Try.func34 (by kernel_rfl) rfl #[.int .i64 (base + (at_ : Int) - 24), .slice Ad n (c - (at_ + 16))] (by rfl) rfl rfl (by (try simp only [List.map_toArray, List.map_cons, List.map_nil]); first | done | rfl) ?_
  have hF := Frame_calls (base + (at_ : Int) - 24) Ad (c - (at_ + 16)) data W2 (Kd.C_of_reads (h1 := fun _ => rfl) (HAD.out _ (Kd.reads_of_C (hJ _ _ _ HJ2.out).2.2))) HDC.out.1 HDC.out.2.1
  rw [hdl] at hF
  refine hF.mono ?_
  clear hF
  rintro e W3 ⟨v3, rfl, hr3, hb3⟩
  obtain ⟨A3, c3, rfl⟩ := Kd.R_slice hr3
  have HR3 := AM hr3
  have HJ3 := AM (hJb _ _ _ _ HJ2.out hb3)
  clear hb3 hr3 hp
  have hp := (hJ _ _ _ HJ3.out).1
  rw [frame_length, hdl]
  refine ⟨_, rfl, ?_⟩
  refine hK.out _ _ hp (fun hHeld => ?_)
  clear hK K
  refine norm_ (a' := ?_) ?_ ?_
  rotate_left
  ·show Act.put _ (some 46) _ = _
   simp only [pS]
   rfl
  refine one_ (i := 10) (N := some 47) (bt 12 2047) rfl rfl (by kernel_rfl) (by decide) (fun K hK => ?_)
  refine goes_ Try.func84 (by kernel_rfl) rfl #[.slice Af (16 + n) (c - at_), .slice A3 (16 + n) c3] (by rfl) rfl rfl (by (try simp only [List.map_toArray, List.map_cons, List.map_nil]); first | done | rfl) ?_
  have hE := Equal_calls Af (c - at_) fb A3 c3 (frame (base + (at_ : Int) - 24) data) W3 (by exact Kd.C_of_reads (h1 := fun _ => rfl) (HAF.out _ (Kd.reads_of_C (hJ _ _ _ HJ3.out).2.2))) HDC.out.2.2.1 (Kd.R_reads' HR3.out).2.2 (Kd.R_reads' HR3.out).2.1
  rw [frame_length, hdl, hfl] at hE
  refine hE.mono ?_
  clear hE
  generalize htt : decide (fb = frame (base + (at_ : Int) - 24) data) = tt
  rintro e W4 ⟨rfl, hb4⟩
  have HJ4 := AM (hJb _ _ _ _ HJ3.out hb4)
  clear hb4 hp
  have hp := (hJ _ _ _ HJ4.out).1
  refine ⟨_, rfl, ?_⟩
  refine hK.out _ _ hp (fun hHeld => ?_)
  clear hK K
  refine norm_ (a' := ?_) ?_ ?_
  rotate_left
  ·show Act.put _ (some 47) _ = _
   simp only [pS]
   rfl
  refine pu 11 (some 48) ?_ (bt 12 4095) (by kernel_rfl) ?_ ?_ ?_ ?_
  rotate_left
  ·intro w'
   go_simp
   with_reducible rfl
  rotate_left
  ·simp only [pS]
   rfl
  refine done_ (by kernel_rfl) ?_
  clear hw16 hw16n hcutf hcutd hcuth
  cases tt with
  | false =>
   have hno := HNONE.out (of_decide_eq_false htt)
   gi_wp2_with fail
   refine bodyPost_ret (results_none rfl _ _ _) rfl ?_
   exact ⟨rfl, at_, rs, HJ4.out, hno⟩
  | true =>
   have HYES := AM (HSOME.out (of_decide_eq_true htt))
   clear htt
   gi_wp2_with fail
   refine ⟨trivial, fun h => by simp [Fence.wide] at h, callsIn_wide.2 ?_⟩
   have hcl := clone75_calls Ad (c - (at_ + 16)) data W4 (by exact Kd.C_of_reads (h1 := fun _ => rfl) (HAD.out _ (Kd.reads_of_C (hJ _ _ _ HJ4.out).2.2))) HDC.out.1 (Nat.le_trans HDC.out.2.1 (by decide))
   rw [hdl] at hcl
   refine hcl.mono ?_
   clear hcl
   rintro e W5 ⟨v5, rfl, hr5, hb5⟩
   obtain ⟨Ac, cc, rfl⟩ := Kd.R_slice hr5
   rw [hdl] at hr5 ⊢
   obtain ⟨fn, tmps, assign, body, hy, hR⟩ := HY.out W4 W5 Ac cc HJ4.out hb5 HYES.out hr5
   have HR := AM hR
   clear hR hr5 hb5
   gi_wp2_with fail
   refine ⟨fun h => by simp [Fence.wide] at h, HR.out.mono ?_⟩
   rintro e W6 ⟨rfl, hj6⟩
   have HJ6 := AM hj6
   clear hj6
   gi_wp2_with fail
   go_roundw
   case rel => exact ⟨at_ + 16 + n, _, by congr 1; omega, by omega, HJ6⟩
   case measure => simp [intOf]; omega
end Go.Proofs.Ytbbokpkpdnppjaa
