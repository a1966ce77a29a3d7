/- The log's helpers: the checksum, a number's bytes, clones and concatenations. -/
import Derived.Test.YtbbokpkpdnppjaaB3
import Derived.Test.YtbbokpkpdnppjaaGx1
namespace Go.Proofs.Ytbbokpkpdnppjaa
open Go.RowKit Go.Proofs.YtbbokpkpdnppjaaW.PrintWords Go.Proofs.YtbbokpkpdnppjaaW.PrintLast Go.Proofs.YtbbokpkpdnppjaaW.PrintMore
set_option linter.unusedVariables false
set_option linter.unusedSimpArgs false

set_option maxRecDepth 100000 in
set_option maxHeartbeats 8000000 in
theorem clone75_calls (A : Option Addr) (c : Nat) (l : List Int) (w : World) (hr : Kd.C (Kd.int .u8) w A l.length l) (hc : l.length ≤ c) (hlim : l.length ≤ 140737488355328) :
    Calls Try.prog 75 #[.slice A l.length c] w fun e w' => ∃ v0_ : Value, e = .returned v0_ ∧ Kd.R (Kd.int .u8) 5 w' w.heap.size (fun _ => True) v0_ l ∧ Below w.heap.size w w' := by
  have he := fun (w : World) => Lib.run_eql_slice_nil (P := Try.prog) w 29 5 A l.length c 0 0 Try.underlying29
  cases A with
  | none =>
    obtain rfl := C_none hr
    clear hlim hr hc he
    have he := fun (w : World) => Lib.run_eql_slice_nil (P := Try.prog) w 29 5 none 0 c 0 0 Try.underlying29
    show Calls Try.prog 75 #[.slice none 0 c] w _
    go_enter Try.func75, Try.ntmps75
    go_wp2
    go_ret
    exact ⟨_, rfl, Kd.R_nil _ _ _ _ _, Below.refl _ _⟩
  | some a =>
    have HR := Aside0.mk hr
    have HL := Aside0.mk hlim
    clear hr hlim
    go_enter Try.func75, Try.ntmps75
    go_wp2_with (first
      | ((with_reducible refine gate_dst (N := 5) rfl ?_); refine Kd.R_lit (Kd.int .u8) _ 5 ?hg (N := 5) ?hd (xs := ([] : List Int)) (inner := []) (ok := fun _ => True) (okp := fun _ => True) ?hr ?hp (fun _ hk => hk) trivial (Below.refl _ _) (Nat.le_refl _) (by simp) ?_; (case hd => rfl); (case hg => rfl); (case hr => first | (go_simp; done) | (go_simp; rfl)); (case hp => exact (Reps.none _ _)); intro v1 w1 ho1 hb1 hg1 hnew1; have HO1 := Aside0.mk ho1; have HB1 := Aside0.mk hb1; clear ho1 hb1 hg1 hnew1)
      | ((with_reducible refine gate_builtin (b := .append) (xs := #[.tmp 5, .tmp 6]) rfl ?_); at_builtin; refine Kd.R_append_rows (Kd.int .u8) (w0 := w) w.heap.size rfl (.tmp 5) (.tmp 6) 29 5 (.int .u8 0) 1 rfl Try.underlying29 info5 rfl (by decide) (by omega) v1 [] l _ _ _ (fun _ => True) (fun _ => False) rfl rfl HO1.out (Kd.C_below HR.out HB1.out) (fun _ _ h => h) (fun _ h => h.elim) (fun _ _ => trivial) HB1.out HB1.out.size (by have := HL.out; simpa using this) ?_; intro v2 w2 ho2 hb2 hg2 hat2; have HO2 := Aside0.mk ho2; have HB2 := Aside0.mk hb2; clear ho2 hb2 hg2 hat2))
    go_ret
    exact ⟨_, rfl, HO2.out, HB2.out⟩


def crcBit (c : Int) : Int := if Go.bits .and .u32 c 1 = 1 then Go.bits .xor .u32 (c / 2) 2197175160 else c / 2
def crcBits : Nat → Int → Int
  | 0, c => c
  | k + 1, c => crcBits k (crcBit c)
def crcByte (c x : Int) : Int := crcBits 8 (Go.bits .xor .u32 c (x % 4294967296))
def crcFold (c : Int) (l : List Int) : Int := l.foldl crcByte c
def crc (l : List Int) : Int := Go.bits .xor .u32 (crcFold 4294967295 l) 4294967295
theorem crcFold_succ (c : Int) (l : List Int) (k : Nat) (h : k < l.length) : crcFold c (l.take (k + 1)) = crcByte (crcFold c (l.take k)) l[k] := by
  unfold crcFold
  rw [List.take_add_one, List.getElem?_eq_getElem h, List.foldl_append]
  rfl
theorem crcBits_succ (k : Nat) (c : Int) : crcBits (k + 1) c = crcBit (crcBits k c) := by
  induction k generalizing c with
  | zero => rfl
  | succ k ih => exact ih (crcBit c)

theorem xor_comm_u32 (a b : Int) : Go.bits .xor .u32 a b = Go.bits .xor .u32 b a := by
  simp [Go.bits, Nat.xor_comm]
set_option maxRecDepth 100000 in
set_option maxHeartbeats 8000000 in
theorem Checksum_calls (A : Option Addr) (c : Nat) (l : List Int) (w : World) (hr : Kd.C (Kd.int .u8) w A l.length l) (hc : l.length ≤ c) :
    Calls Try.prog 65 #[.slice A l.length c] w fun e w' => e = .returned (.int .u32 (crc l)) ∧ w = w' := by
  have hm : l.length ≤ 9223372036854775807 := hr.2.1
  have HR := Aside0.mk hr
  clear hr
  go_enter Try.func65, Try.ntmps65
  go_wp2_with fail
  go_loopw [3, 9] (fun vc vi wr => ∃ k : Nat, k ≤ l.length ∧ vc = .int .u32 (crcFold 4294967295 (l.take k)) ∧ vi = .int .i64 (k : Int) ∧ w = wr) (fun _ vi _ => l.length - (intOf vi).toNat)
  case atStart => exact ⟨0, Nat.zero_le _, rfl, rfl, rfl⟩
  case round =>
    obtain ⟨k, hk, rfl, rfl, rfl⟩ := hrel
    by_cases hlt : k < l.length
    · have hlt' : ((k : Int) < (l.length : Int)) := by omega
      obtain ⟨ad, rfl, hx⟩ := Kd.at_int HR.out (k : Int) (by omega) hlt'
      simp only [Int.toNat_natCast] at hx
      go_wp2_with fail
      go_loopw [3, 17] (fun vc vj wr => ∃ j : Nat, j ≤ 8 ∧ vc = .int .u32 (crcBits j (Go.bits .xor .u32 (crcFold 4294967295 (l.take k)) ((rd l k) % 4294967296))) ∧ vj = .int .i64 (j : Int) ∧ w = wr) (fun _ vj _ => 8 - (intOf vj).toNat)
      case atStart => exact ⟨0, Nat.zero_le _, rfl, rfl, rfl⟩
      case round =>
        obtain ⟨j, hj, rfl, rfl, rfl⟩ := hrel
        by_cases hj8 : j < 8
        · have hj8' : ((j : Int) < 8) := by omega
          generalize hcc : crcBits j (Go.bits .xor .u32 (crcFold 4294967295 (l.take k)) ((rd l k) % 4294967296)) = cc
          by_cases hb : Go.bits .and .u32 cc 1 = 1
          · go_wp2_with fail
            go_roundw
            case rel => exact ⟨j + 1, hj8, by rw [crcBits_succ, hcc, crcBit, if_pos hb], by go_num, trivial⟩
            case measure => simp [intOf]; omega
          · go_wp2_with fail
            go_roundw
            case rel => exact ⟨j + 1, hj8, by rw [crcBits_succ, hcc, crcBit, if_neg hb], by go_num, trivial⟩
            case measure => simp [intOf]; omega
        · obtain rfl : j = 8 := by omega
          go_wp2_with fail
          go_roundw
          case rel => exact ⟨k + 1, hlt, by rw [crcFold_succ _ _ _ hlt, crcByte]; simp [rd, List.getD_eq_getElem?_getD, hlt], by go_num, trivial⟩
          case measure => simp [intOf]; omega
    · obtain rfl : k = l.length := by omega
      go_wp2_with fail
      go_ret
      exact ⟨by rw [crc, xor_comm_u32]; rfl, rfl⟩
end Go.Proofs.Ytbbokpkpdnppjaa
