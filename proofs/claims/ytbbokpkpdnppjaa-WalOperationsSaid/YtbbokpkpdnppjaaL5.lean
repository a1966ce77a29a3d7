/- The log's helpers: the checksum, a number's bytes, clones and concatenations. The log's helpers: reading a number, growing, concatenating. The log's helpers: concatenating, headers, frames. The log's frames. The log: is a byte other than zero there; the header slots. -/
import Derived.Test.YtbbokpkpdnppjaaUA
import Derived.Test.YtbbokpkpdnppjaaB3
import Derived.Test.YtbbokpkpdnppjaaGx1
namespace Go.Proofs.Ytbbokpkpdnppjaa
open Go.RowKit Go.Proofs.YtbbokpkpdnppjaaW.PrintWords Go.Proofs.YtbbokpkpdnppjaaW.PrintLast Go.Proofs.YtbbokpkpdnppjaaW.PrintMore
set_option linter.unusedVariables false
set_option linter.unusedSimpArgs false
set_option maxRecDepth 100000 in
set_option maxHeartbeats 8000000 in
theorem clone75_calls (A : Option Addr) (c : Nat) (l : List Int) (w : World) (hr : Kd.C (Kd.int .u8) w A l.length l) (hc : l.length ≤ c) (hlim : l.length ≤ 140737488355328) :
  Calls Try.prog 75 #[.slice A l.length c] w fun e w' => ∃ v0_ : Value, e = .returned v0_ ∧ Kd.R (Kd.int .u8) 5 w' w.heap.size (fun _ => True) v0_ l ∧ Below w.heap.size w w' := by
 have he := fun (w : World) => Lib.run_eql_slice_nil (P := Try.prog) w 29 5 A l.length c 0 0 Try.underlying29
 cases A with
 | none =>
  obtain rfl := C_none hr
  clear hlim hr hc he
  have he := fun (w : World) => Lib.run_eql_slice_nil (P := Try.prog) w 29 5 none 0 c 0 0 Try.underlying29
  show Calls Try.prog 75 #[.slice none 0 c] w _
  go_enter Try.func75, Try.ntmps75
  go_wp2
  go_ret
  exact ⟨_, rfl, Kd.R_nil _ _ _ _ _, Below.refl _ _⟩
 | some a =>
  have HR := AM hr
  have HL := AM hlim
  clear hr hlim
  go_enter Try.func75, Try.ntmps75
  go_wp2_with (first
   | ((with_reducible refine gate_dst (N := 5) rfl ?_); refine Kd.R_lit (Kd.int .u8) _ 5 ?hg (N := 5) ?hd (xs := ([] : List Int)) (inner := []) (ok := fun _ => True) (okp := fun _ => True) ?hr ?hp (fun _ hk => hk) trivial (Below.refl _ _) (Nat.le_refl _) (by simp) ?_; (case hd => rfl); (case hg => rfl); (case hr => first | (go_simp; done) | (go_simp; rfl)); (case hp => exact (Reps.none _ _)); intro v1 w1 ho1 hb1 hg1 hnew1; have HO1 := AM ho1; have HB1 := AM hb1; clear ho1 hb1 hg1 hnew1)
   | ((with_reducible refine gate_builtin (b := .append) (xs := #[.tmp 5, .tmp 6]) rfl ?_); at_builtin; refine Kd.R_append_rows (Kd.int .u8) (w0 := w) w.heap.size rfl (.tmp 5) (.tmp 6) 29 5 (.int .u8 0) 1 rfl Try.underlying29 info5 rfl (by decide) (by omega) v1 [] l _ _ _ (fun _ => True) (fun _ => False) rfl rfl HO1.out (Kd.C_below HR.out HB1.out) (fun _ _ h => h) (fun _ h => h.elim) (fun _ _ => trivial) HB1.out HB1.out.size (by have := HL.out; simpa using this) ?_; intro v2 w2 ho2 hb2 hg2 hat2; have HO2 := AM ho2; have HB2 := AM hb2; clear ho2 hb2 hg2 hat2))
  go_ret
  exact ⟨_, rfl, HO2.out, HB2.out⟩
def crcBit (c : Int) : Int := if Go.bits .and .u32 c 1 = 1 then Go.bits .xor .u32 (c / 2) 2197175160 else c / 2
def crcBits : Nat → Int → Int
 | 0, c => c
 | k + 1, c => crcBits k (crcBit c)
def crcByte (c x : Int) : Int := crcBits 8 (Go.bits .xor .u32 c (x % 4294967296))
def crcFold (c : Int) (l : List Int) : Int := l.foldl crcByte c
def crc (l : List Int) : Int := Go.bits .xor .u32 (crcFold 4294967295 l) 4294967295
theorem crcFold_succ (c : Int) (l : List Int) (k : Nat) (h : k < l.length) : crcFold c (l.take (k + 1)) = crcByte (crcFold c (l.take k)) l[k] := by
 unfold crcFold
 rw [List.take_add_one, List.getElem?_eq_getElem h, List.foldl_append]
 rfl
theorem crcBits_succ (k : Nat) (c : Int) : crcBits (k + 1) c = crcBit (crcBits k c) := by
 induction k generalizing c with
 | zero => rfl
 | succ k ih => exact ih (crcBit c)
theorem xor_comm_u32 (a b : Int) : Go.bits .xor .u32 a b = Go.bits .xor .u32 b a := by
 simp [Go.bits, Nat.xor_comm]
set_option maxRecDepth 100000 in
set_option maxHeartbeats 8000000 in
theorem Checksum_calls (A : Option Addr) (c : Nat) (l : List Int) (w : World) (hr : Kd.C (Kd.int .u8) w A l.length l) (hc : l.length ≤ c) :
  Calls Try.prog 65 #[.slice A l.length c] w fun e w' => e = .returned (.int .u32 (crc l)) ∧ w = w' := by
 have hm : l.length ≤ 9223372036854775807 := hr.2.1
 have HR := AM hr
 clear hr
 go_enter Try.func65, Try.ntmps65
 go_wp2_with fail
 go_loopw [3, 9] (fun vc vi wr => ∃ k : Nat, k ≤ l.length ∧ vc = .int .u32 (crcFold 4294967295 (l.take k)) ∧ vi = .int .i64 (k : Int) ∧ w = wr) (fun _ vi _ => l.length - (intOf vi).toNat)
 case atStart => exact ⟨0, Nat.zero_le _, rfl, rfl, rfl⟩
 case round =>
  obtain ⟨k, hk, rfl, rfl, rfl⟩ := hrel
  by_cases hlt : k < l.length
  ·have hlt' : ((k : Int) < (l.length : Int)) := by omega
   obtain ⟨ad, rfl, hx⟩ := Kd.at_int HR.out (k : Int) (by omega) hlt'
   simp only [Int.toNat_natCast] at hx
   go_wp2_with fail
   go_loopw [3, 17] (fun vc vj wr => ∃ j : Nat, j ≤ 8 ∧ vc = .int .u32 (crcBits j (Go.bits .xor .u32 (crcFold 4294967295 (l.take k)) ((rd l k) % 4294967296))) ∧ vj = .int .i64 (j : Int) ∧ w = wr) (fun _ vj _ => 8 - (intOf vj).toNat)
   case atStart => exact ⟨0, Nat.zero_le _, rfl, rfl, rfl⟩
   case round =>
    obtain ⟨j, hj, rfl, rfl, rfl⟩ := hrel
    by_cases hj8 : j < 8
    ·have hj8' : ((j : Int) < 8) := by omega
     generalize hcc : crcBits j (Go.bits .xor .u32 (crcFold 4294967295 (l.take k)) ((rd l k) % 4294967296)) = cc
     by_cases hb : Go.bits .and .u32 cc 1 = 1
     ·go_wp2_with fail
      go_roundw
      case rel => exact ⟨j + 1, hj8, by rw [crcBits_succ, hcc, crcBit, if_pos hb], by go_num, trivial⟩
      case measure => simp [intOf]; omega
     ·go_wp2_with fail
      go_roundw
      case rel => exact ⟨j + 1, hj8, by rw [crcBits_succ, hcc, crcBit, if_neg hb], by go_num, trivial⟩
      case measure => simp [intOf]; omega
    ·obtain rfl : j = 8 := by omega
     go_wp2_with fail
     go_roundw
     case rel => exact ⟨k + 1, hlt, by rw [crcFold_succ _ _ _ hlt, crcByte]; simp [rd, List.getD_eq_getElem?_getD, hlt], by go_num, trivial⟩
     case measure => simp [intOf]; omega
  ·obtain rfl : k = l.length := by omega
   go_wp2_with fail
   go_ret
   exact ⟨by rw [crc, xor_comm_u32]; rfl, rfl⟩
end Go.Proofs.Ytbbokpkpdnppjaa
namespace Go.Proofs.Ytbbokpkpdnppjaa
open Go.RowKit Go.Proofs.YtbbokpkpdnppjaaW.PrintWords Go.Proofs.YtbbokpkpdnppjaaW.PrintLast Go.Proofs.YtbbokpkpdnppjaaW.PrintMore
set_option linter.unusedVariables false
set_option linter.unusedSimpArgs false
def beStep (n x : Int) : Int := Go.bits .or .u64 (IntKind.u64.wrap (n * 256)) (IntKind.u64.wrap x)
def beVal (l : List Int) : Int := l.foldl beStep 0
theorem beVal_succ (l : List Int) (k : Nat) (h : k < l.length) : beVal (l.take (k + 1)) = beStep (beVal (l.take k)) l[k] := by
 unfold beVal
 rw [List.take_add_one, List.getElem?_eq_getElem h, List.foldl_append]
 rfl
set_option maxRecDepth 100000 in
set_option maxHeartbeats 8000000 in
theorem get_calls (A : Option Addr) (c : Nat) (l : List Int) (n : Nat) (w : World) (hr : Kd.C (Kd.int .u8) w A l.length l) (hc : l.length ≤ c) (hn : n ≤ l.length) :
  Calls Try.prog 83 #[.slice A l.length c, .int .i64 (n : Int)] w fun e w' => e = .returned (.int .u64 (beVal (l.take n))) ∧ w = w' := by
 have hm : l.length ≤ 9223372036854775807 := hr.2.1
 obtain ⟨i05, hi05, _, hsz5, _⟩ := info_parts info5
 obtain ⟨hcut5, hA5, hC5⟩ := print_take_of (P := Try.prog) (Value.int .u8) 0 29 5 .i64 Try.underlying29 hi05 hsz5 A c l (n : Int) (by omega) (by omega) hc
 simp only [Int.toNat_natCast] at hcut5 hA5 hC5
 have hlen : (l.take n).length = n := by rw [List.length_take]; omega
 rw [hlen] at hcut5 hC5
 have HR := AM (Kd.C_of_reads (h1 := fun _ => rfl) (hA5 _ (Kd.reads_of_C hr)))
 clear hr hA5 hi05 hsz5
 rw [hlen] at HR
 generalize hlt : l.take n = t at HR hlen ⊢
 go_enter Try.func83, Try.ntmps83
 go_wp2_with fail
 go_loopw [5, 12] (fun vc vi wr => ∃ k : Nat, k ≤ t.length ∧ vc = .int .u64 (beVal (t.take k)) ∧ vi = .int .i64 (k : Int) ∧ w = wr) (fun _ vi _ => t.length - (intOf vi).toNat)
 case atStart => exact ⟨0, Nat.zero_le _, rfl, rfl, rfl⟩
 case round =>
  obtain ⟨k, hk, rfl, rfl, rfl⟩ := hrel
  by_cases hlt : k < t.length
  ·have hlt' : ((k : Int) < (n : Int)) := by omega
   obtain ⟨ad, rfl, hx⟩ := Kd.at_int HR.out (k : Int) (by omega) hlt'
   simp only [Int.toNat_natCast] at hx
   go_wp2_with fail
   go_roundw
   case rel => exact ⟨k + 1, hlt, by rw [beVal_succ _ _ hlt, beStep]; simp [rd, List.getD_eq_getElem?_getD, hlt], by go_num, trivial⟩
   case measure => simp [intOf]; omega
  ·obtain rfl : k = n := by omega
   go_wp2_with fail
   go_ret
   exact ⟨by rw [show t.take k = t from by rw [← hlen, List.take_length]]; rfl, rfl⟩
set_option maxRecDepth 100000 in
set_option maxHeartbeats 8000000 in
theorem Grow_calls (n : Nat) (w : World) (hn : n ≤ 140737488355328) :
  Calls Try.prog 82 #[.slice none 0 0, .int .i64 (n : Int)] w fun e w' => ∃ v, e = .returned v ∧ Kd.R (Kd.int .u8) 5 w' w.heap.size (fun _ => True) v [] ∧ Below w.heap.size w w' := by
 by_cases h0 : n = 0
 ·subst h0
  go_enter Try.func82, Try.ntmps82
  go_wp2_with fail
  go_ret
  exact ⟨_, rfl, Kd.R_nil _ _ _ _ _, Below.refl _ _⟩
 ·have h1 : (0 : Int) < (n : Int) := by omega
  have h2 : ¬ ((n : Int) < 0) := by omega
  obtain ⟨i05, hi05, _, hsz5, _⟩ := info_parts info5
  have hcut : ∀ (A : Option Addr) (m c : Nat), m ≤ c → ∀ W : World, (Instr.slice 29 (.slice A m c) none (some (.int .i64 0)) none).run Try.prog W = .ok (.slice A 0 c) W := fun A m c hm W => by
   have := (print_take_of (P := Try.prog) (Value.int .u8) 0 29 5 .i64 Try.underlying29 hi05 hsz5 A c (List.replicate m (0 : Int)) 0 (by omega) (by simp) (by simpa using hm)).1 W
   simpa using this
  obtain ⟨A, hA⟩ : ∃ A : Option Addr, A = none := ⟨_, rfl⟩
  rw [← hA]
  have HR0 := AM (show Kd.R (Kd.int .u8) 5 w w.heap.size (fun _ => True) (.slice A 0 0) [] from by rw [hA]; exact Kd.R_nil _ _ _ _ _)
  clear hA
  have hcut0 := hcut A 0 0 (Nat.le_refl _)
  go_enter Try.func82, Try.ntmps82
  go_wp2_with ((with_reducible refine gate_builtin (b := .append) (xs := #[.tmp 20, .tmp 21]) rfl ?_); at_builtin; refine Kd.R_append_zeros (Kd.int .u8) (w0 := w) w.heap.size rfl (.tmp 20) (.tmp 21) 29 3 5 (.int .u8 0) 1 rfl Try.underlying29 Try.underlying3 info5 rfl (by decide) (by omega) (.slice A 0 0) [] 0 (n : Int) (fun _ => True) rfl rfl ?hz (fun _ _ => trivial) HR0.out (by omega) (Below.refl _ _) (Nat.le_refl _) (by simp; omega) ?_; (case hz => exact rfl); intro v1 w1 ho1 hb1 _ _; obtain ⟨A1, c1, rfl⟩ := Kd.R_slice ho1; have HO1 := AM ho1; have HB1 := AM hb1; have hc1 := hcut A1 n c1 (by have := (Kd.R_reads' ho1).2.1; simpa using this); (simp only [List.nil_append, List.length_replicate, Int.toNat_natCast]); clear ho1 hb1)
  go_ret
  refine ⟨_, rfl, ?_, HB1.out⟩
  have := Kd.R_take HO1.out (m := 0) (Nat.zero_le _)
  simpa using this
end Go.Proofs.Ytbbokpkpdnppjaa
namespace Go.Proofs.Ytbbokpkpdnppjaa
open Go.RowKit Go.Proofs.YtbbokpkpdnppjaaW.PrintWords Go.Proofs.YtbbokpkpdnppjaaW.PrintLast Go.Proofs.YtbbokpkpdnppjaaW.PrintMore
set_option linter.unusedVariables false
set_option linter.unusedSimpArgs false
set_option maxRecDepth 100000 in
set_option maxHeartbeats 8000000 in
theorem Concat_calls (b : Nat) (A1 : Option Addr) (c1 : Nat) (l1 : List Int) (A2 : Option Addr) (c2 : Nat) (l2 : List Int) (w : World) (x0 : w.cell? ⟨b, 0, none⟩ = some (.slice A1 l1.length c1)) (x1 : w.cell? ⟨b, 1, none⟩ = some (.slice A2 l2.length c2))
  (C1 : Kd.C (Kd.int .u8) w A1 l1.length l1) (C2 : Kd.C (Kd.int .u8) w A2 l2.length l2) (hl : l1.length + l2.length ≤ 140737488355328) :
  Calls Try.prog 66 #[.slice (some ⟨b, 0, none⟩) 2 2] w fun e w' => ∃ v, e = .returned v ∧ Kd.R (Kd.int .u8) 5 w' w.heap.size (fun _ => True) v (l1 ++ l2) ∧ Below w.heap.size w w' := by
 have HC1 := AM C1
 have HC2 := AM C2
 have X0 := AM x0
 have X1 := AM x1
 have hs0 : ((l1.length : Int) + (l2.length : Int)) ≤ 140737488355328 := by omega
 clear C1 C2
 go_enter Try.func66, Try.ntmps66
 go_wp2_with fail
 go_loopw [3, 11] (fun vc vi wr => ((vc = .int .i64 0 ∧ vi = .int .i64 0) ∨ (vc = .int .i64 (l1.length : Int) ∧ vi = .int .i64 1) ∨ (vc = .int .i64 ((l1.length : Int) + (l2.length : Int)) ∧ vi = .int .i64 2)) ∧ w = wr) (fun _ vi _ => 2 - (intOf vi).toNat)
 case atStart => exact ⟨.inl ⟨rfl, rfl⟩, rfl⟩
 case round =>
  obtain ⟨(⟨rfl, rfl⟩ | ⟨rfl, rfl⟩ | ⟨rfl, rfl⟩), rfl⟩ := hrel
  ·have h0 : ¬ ((l1.length : Int) < 0) := by omega
   go_wp2_with fail
   go_roundw
   case rel => exact ⟨.inr (.inl ⟨by go_num, by go_num⟩), trivial⟩
   case measure => simp [intOf] <;> decide
  ·have h0 : ¬ ((l1.length : Int) + (l2.length : Int) < 0) := by omega
   go_wp2_with fail
   go_roundw
   case rel => exact ⟨.inr (.inr ⟨by go_num, by go_num⟩), trivial⟩
   case measure => simp [intOf] <;> decide
  ·go_wp2_with fail
   rw [show ((l1.length : Int) + (l2.length : Int)) = ((l1.length + l2.length : Nat) : Int) from by push_cast; rfl]
   refine (Grow_calls (l1.length + l2.length) w hl).mono ?_
   rintro e w1 ⟨v, rfl, hr, hb⟩
   obtain ⟨Av, cv, rfl⟩ := Kd.R_slice hr
   have HR1 := AM hr
   have HB1 := AM hb
   clear hr hb
   go_wp2_with fail
   go_loopw [6, 27] (fun vc vi wr => ∃ (Au : Option Addr) (nu cu : Nat), vc = .slice Au nu cu ∧ ((vi = .int .i64 0 ∧ Aside0 (Kd.R (Kd.int .u8) 5 wr w.heap.size (fun _ => True) (.slice Au nu cu) [])) ∨ (vi = .int .i64 1 ∧ Aside0 (Kd.R (Kd.int .u8) 5 wr w.heap.size (fun _ => True) (.slice Au nu cu) l1)) ∨ (vi = .int .i64 2 ∧ Aside0 (Kd.R (Kd.int .u8) 5 wr w.heap.size (fun _ => True) (.slice Au nu cu) (l1 ++ l2)))) ∧ Aside0 (Below w.heap.size w wr)) (fun _ vi _ => 2 - (intOf vi).toNat)
   case atStart => exact ⟨_, _, _, rfl, .inl ⟨rfl, HR1⟩, HB1⟩
   case round =>
    obtain ⟨Au, nu, cu, rfl, (⟨rfl, HO⟩ | ⟨rfl, HO⟩ | ⟨rfl, HO⟩), HB⟩ := hrel
    ·have y0 := (HB.out.cell (World.block_lt_of_cell? _ _ X0.out)).trans X0.out
     go_wp2_with ((with_reducible refine gate_builtin (b := .append) (xs := #[.tmp 31, .tmp 32]) rfl ?_); at_builtin; refine Kd.R_append_rows (Kd.int .u8) (w0 := w) w.heap.size rfl (.tmp 31) (.tmp 32) 29 5 (.int .u8 0) 1 rfl Try.underlying29 info5 rfl (by decide) (by omega) (.slice Au nu cu) [] l1 A1 l1.length c1 (fun _ => True) (fun _ => False) rfl rfl HO.out (Kd.C_below HC1.out HB.out) (fun _ _ h => h) (fun _ h => h.elim) (fun _ _ => trivial) HB.out HB.out.size (by simp <;> omega) ?_; intro v2 w2 ho2 hb2 _ _; obtain ⟨A2', c2', rfl⟩ := Kd.R_slice ho2; have HO2 := AM ho2; have HB2 := AM hb2; clear ho2 hb2)
     go_roundw
     case rel => exact ⟨_, _, _, rfl, .inr (.inl ⟨by go_num, HO2⟩), HB2⟩
     case measure => simp [intOf] <;> decide
    ·have y1 := (HB.out.cell (World.block_lt_of_cell? _ _ X1.out)).trans X1.out
     go_wp2_with ((with_reducible refine gate_builtin (b := .append) (xs := #[.tmp 31, .tmp 32]) rfl ?_); at_builtin; refine Kd.R_append_rows (Kd.int .u8) (w0 := w) w.heap.size rfl (.tmp 31) (.tmp 32) 29 5 (.int .u8 0) 1 rfl Try.underlying29 info5 rfl (by decide) (by omega) (.slice Au nu cu) l1 l2 A2 l2.length c2 (fun _ => True) (fun _ => False) rfl rfl HO.out (Kd.C_below HC2.out HB.out) (fun _ _ h => h) (fun _ h => h.elim) (fun _ _ => trivial) HB.out HB.out.size (by simp <;> omega) ?_; intro v2 w2 ho2 hb2 _ _; obtain ⟨A2', c2', rfl⟩ := Kd.R_slice ho2; have HO2 := AM ho2; have HB2 := AM hb2; clear ho2 hb2)
     go_roundw
     case rel => exact ⟨_, _, _, rfl, .inr (.inr ⟨by go_num, AM (by have := HO2.out; rwa [List.length_append] at this)⟩), HB2⟩
     case measure => simp [intOf] <;> decide
    ·go_wp2_with fail
     go_ret
     exact ⟨_, rfl, HO.out, HB.out⟩
def beBytes (n : Int) : Nat → List Int
 | 0 => []
 | k + 1 => (shr .u64 n (8 * (k : Int))) % 256 :: beBytes n k
theorem beBytes_length (n : Int) (k : Nat) : (beBytes n k).length = k := by
 induction k with
 | zero => rfl
 | succ k ih => simp [beBytes, ih]
theorem put_l0 (n : Int) : ∀ (k fuel : Nat) (x : List Int), k ≤ 8 → k < fuel → x.length + k ≤ 140737488355328 → G.wal_put.l0 fuel x n ((k : Int) - 1) = some (x ++ beBytes n k) := by
 intro k
 induction k with
 | zero =>
  intro fuel x _ hf _
  obtain ⟨f, rfl⟩ : ∃ f, fuel = f + 1 := ⟨fuel - 1, by omega⟩
  unfold G.wal_put.l0
  rw [if_neg (by omega)]
  simp [beBytes]
 | succ k ih =>
  intro fuel x h8 hf hl
  obtain ⟨f, rfl⟩ : ∃ f, fuel = f + 1 := ⟨fuel - 1, by omega⟩
  unfold G.wal_put.l0
  have e1 : ((k + 1 : Nat) : Int) - 1 = (k : Int) := by omega
  have e2 : wrap64 (8 * (k : Int)) = 8 * (k : Int) := by unfold wrap64; omega
  have e3 : wrap64 ((k : Int) - 1) = (k : Int) - 1 := by unfold wrap64; omega
  rw [e1, if_pos (by omega), e2, if_pos (by omega), if_pos (by omega), e3, ih f _ (by omega) (by omega) (by simp; omega)]
  simp [beBytes]
theorem put_f (n : Int) (k : Nat) (x : List Int) (h8 : k ≤ 8) (hl : x.length + k ≤ 140737488355328) : G.wal_put.f 9 x n (k : Int) = some (x ++ beBytes n k) := by
 unfold G.wal_put.f
 rw [show wrap64 ((k : Int) - 1) = (k : Int) - 1 from by unfold wrap64; omega]
 exact put_l0 n k 9 x h8 (by omega) hl
def header (base : Int) : List Int := beBytes (IntKind.u64.wrap base) 8 ++ beBytes (IntKind.u64.wrap (crc (beBytes (IntKind.u64.wrap base) 8))) 4
def fhead (lsn : Int) (data : List Int) : List Int := beBytes (data.length : Int) 4 ++ beBytes (IntKind.u64.wrap lsn) 8
def frame (lsn : Int) (data : List Int) : List Int := (fhead lsn data ++ beBytes (IntKind.u64.wrap (crc (fhead lsn data ++ data))) 4) ++ data
theorem header_length (base : Int) : (header base).length = 12 := by simp [header, beBytes_length]
theorem fhead_length (lsn : Int) (data : List Int) : (fhead lsn data).length = 12 := by simp [fhead, beBytes_length]
theorem frame_length (lsn : Int) (data : List Int) : (frame lsn data).length = 16 + data.length := by simp [frame, fhead_length, beBytes_length]; omega
theorem put_calls (v : Value) (x : List Int) (n : Int) (k : Nat) (w0 w : World) (hB : Below w0.heap.size w0 w) (hO : Kd.R (Kd.int .u8) 5 w w0.heap.size (fun k => w0.heap.size ≤ k) v x) (h8 : k ≤ 8) (hl : x.length + k ≤ 140737488355328) :
  Calls Try.prog 64 #[v, .int .u64 n, .int .i64 (k : Int)] w fun e w' => ∃ v', e = .returned v' ∧ Kd.R (Kd.int .u8) 5 w' w0.heap.size (fun k => w0.heap.size ≤ k) v' (x ++ beBytes n k) ∧ Below w0.heap.size w0 w' := by
 refine (G.wal_put.calls 9 (fun k => w0.heap.size ≤ k) v x n (k : Int) _ w0 w hB hO (put_f n k x h8 hl)).mono ?_
 rintro e w' ⟨v', rfl, h1, h2, _⟩
 have := hB.size
 exact ⟨v', rfl, Kd.R_mono h1 (fun k hk => hk.elim id (fun h => by omega)), h2⟩
set_option maxRecDepth 100000 in
set_option maxHeartbeats 8000000 in
theorem header_calls (base : Int) (w : World) :
  Calls Try.prog 77 #[.int .i64 base] w fun e w' => ∃ v, e = .returned v ∧ Kd.R (Kd.int .u8) 5 w' w.heap.size (fun k => w.heap.size ≤ k) v (header base) ∧ Below w.heap.size w w' := by
 go_enter Try.func77, Try.ntmps77
 go_wp2_with fail
 refine (put_calls (.slice none 0 0) [] (IntKind.u64.wrap base) 8 w w (Below.refl _ _) (Kd.R_nil _ _ _ _ _) (by omega) (by simp)).mono ?_
 rintro e w1 ⟨v, rfl, hr, hb⟩
 rw [List.nil_append] at hr
 obtain ⟨A, c, rfl⟩ := Kd.R_slice hr
 have HR := AM hr
 have HB := AM hb
 clear hr hb
 go_wp2_with fail
 refine (Checksum_calls A c (beBytes (IntKind.u64.wrap base) 8) w1 (Kd.R_reads' HR.out).2.2 (Kd.R_reads' HR.out).2.1).mono ?_
 rintro e w2 ⟨rfl, rfl⟩
 go_wp2_with fail
 refine (put_calls _ _ (IntKind.u64.wrap (crc (beBytes (IntKind.u64.wrap base) 8))) 4 w w1 HB.out HR.out (by omega) (by simp [beBytes_length])).mono ?_
 rintro e w3 ⟨v3, rfl, hr, hb⟩
 have HR3 := AM hr
 have HB3 := AM hb
 clear hr hb
 go_wp2_with fail
 go_ret
 exact ⟨_, rfl, HR3.out, HB3.out⟩
end Go.Proofs.Ytbbokpkpdnppjaa
namespace Go.Proofs.Ytbbokpkpdnppjaa
open Go.RowKit Go.Proofs.YtbbokpkpdnppjaaW.PrintWords Go.Proofs.YtbbokpkpdnppjaaW.PrintLast Go.Proofs.YtbbokpkpdnppjaaW.PrintMore
set_option linter.unusedVariables false
set_option linter.unusedSimpArgs false
set_option maxRecDepth 100000 in
set_option maxHeartbeats 8000000 in
theorem Frame_calls (lsn : Int) (A : Option Addr) (c : Nat) (data : List Int) (w : World) (hC : Kd.C (Kd.int .u8) w A data.length data) (hc : data.length ≤ c) (hl : data.length ≤ 140737488355312) :
  Calls Try.prog 34 #[.int .i64 lsn, .slice A data.length c] w fun e w' => ∃ v, e = .returned v ∧ Kd.R (Kd.int .u8) 5 w' w.heap.size (fun k => w.heap.size ≤ k) v (frame lsn data) ∧ Below w.heap.size w w' := by
 have HC := AM hC
 clear hC
 go_enter Try.func34, Try.ntmps34
 go_wp2_with fail
 refine (put_calls (.slice none 0 0) [] (data.length : Int) 4 w w (Below.refl _ _) (Kd.R_nil _ _ _ _ _) (by omega) (by simp)).mono ?_
 rintro e w1 ⟨v, rfl, hr, hb⟩
 rw [List.nil_append] at hr
 have HR := AM hr
 have HB := AM hb
 clear hr hb
 go_wp2_with fail
 refine (put_calls _ _ (IntKind.u64.wrap lsn) 8 w w1 HB.out HR.out (by omega) (by simp [beBytes_length])).mono ?_
 rintro e w2 ⟨v2, rfl, hr, hb⟩
 replace hr : Kd.R (Kd.int .u8) 5 w2 w.heap.size (fun k => w.heap.size ≤ k) v2 (fhead lsn data) := hr
 have hlen := fhead_length lsn data
 have hfr : ∀ H, H = fhead lsn data → frame lsn data = (H ++ beBytes (IntKind.u64.wrap (crc (H ++ data))) 4) ++ data := fun H e => by subst e; rfl
 have FR := AM hfr
 clear hfr
 generalize hH : fhead lsn data = H at hr hlen
 obtain ⟨A2, c2, rfl⟩ := Kd.R_slice hr
 have HR2 := AM hr
 have HB2 := AM hb
 have HH := AM hH
 have HLEN := AM hlen
 clear hr hb hH hlen HR HB
 go_wp2_with fail
 have hal : Below w2.heap.size w2 (w2.alloc (.cells #[.slice A2 H.length c2, .slice A data.length c] 29)) := below_alloc (Below.refl _ _) _
 have hx3 : (w2.alloc (.cells #[.slice A2 H.length c2, .slice A data.length c] 29)).heap[w2.heap.size]? = some (.cells #[.slice A2 H.length c2, .slice A data.length c] 29 (0, 0)) := heap_alloc_new w2 _
 generalize (w2.alloc (.cells #[.slice A2 H.length c2, .slice A data.length c] 29)) = w3 at hal hx3 ⊢
 have HB3 := AM (below_step HB2.out hal)
 have HR3 := AM (Kd.R_below HR2.out hal)
 refine (Concat_calls w2.heap.size A2 c2 H A c data w3 ((blk_cell hx3 0).trans rfl) ((blk_cell hx3 1).trans rfl) (Kd.R_reads' HR3.out).2.2 (Kd.C_below HC.out HB3.out) (by have := HLEN.out; omega)).mono ?_
 clear hal hx3
 rintro e w4 ⟨v4, rfl, hr, hb⟩
 obtain ⟨A4, c4, rfl⟩ := Kd.R_slice hr
 have HR4 := AM hr
 have HB4 := AM (below_step HB3.out hb)
 have HRH4 := AM (Kd.R_below HR3.out hb)
 clear hr hb HR2 HB2 HR3 HB3
 generalize hcat : H ++ data = CC at HR4 ⊢
 have HCAT := AM hcat
 clear hcat
 go_wp2_with fail
 refine (Checksum_calls A4 c4 CC w4 (Kd.R_reads' HR4.out).2.2 (Kd.R_reads' HR4.out).2.1).mono ?_
 rintro e w5 ⟨rfl, rfl⟩
 go_wp2_with fail
 refine (put_calls _ _ (IntKind.u64.wrap (crc CC)) 4 w w4 HB4.out HRH4.out (by omega) (by have := HLEN.out; omega)).mono ?_
 rintro e w6 ⟨v6, rfl, hr, hb⟩
 obtain ⟨A6, c6, rfl⟩ := Kd.R_slice hr
 have h6 : (H ++ beBytes (IntKind.u64.wrap (crc CC)) 4).length = 16 := by rw [List.length_append, HLEN.out, beBytes_length]
 rw [h6] at hr ⊢
 generalize hH6 : H ++ beBytes (IntKind.u64.wrap (crc CC)) 4 = H6 at hr h6
 have HR6 := AM hr
 have HB6 := AM hb
 have HH6 := AM hH6
 clear hr hb hH6 HR4 HB4 HRH4
 go_wp2_with ((with_reducible refine gate_builtin (b := .append) (xs := #[.tmp 22, .tmp 23]) rfl ?_); at_builtin; refine Kd.R_append_rows (Kd.int .u8) (w0 := w) w.heap.size rfl (.tmp 22) (.tmp 23) 29 5 (.int .u8 0) 1 rfl Try.underlying29 info5 rfl (by decide) (by omega) (.slice A6 16 c6) H6 data A data.length c (fun k => w.heap.size ≤ k) (fun _ => False) rfl rfl HR6.out (Kd.C_below HC.out HB6.out) (fun _ _ h => h) (fun _ h => h.elim) (fun k hk => Nat.le_trans HB6.out.size hk) HB6.out HB6.out.size (by rw [h6]; omega) ?_; intro v7 w7 ho7 hb7 _ _; have HO7 := AM ho7; have HB7 := AM hb7; clear ho7 hb7)
 go_ret
 refine ⟨_, rfl, ?_, HB7.out⟩
 rw [FR.out H HH.out.symm, HCAT.out, HH6.out]
 exact HO7.out
end Go.Proofs.Ytbbokpkpdnppjaa
namespace Go.Proofs.Ytbbokpkpdnppjaa
open Go.RowKit Go.Proofs.YtbbokpkpdnppjaaW.PrintWords Go.Proofs.YtbbokpkpdnppjaaW.PrintLast Go.Proofs.YtbbokpkpdnppjaaW.PrintMore
set_option linter.unusedVariables false
set_option linter.unusedSimpArgs false
set_option maxRecDepth 100000 in
set_option maxHeartbeats 8000000 in
theorem nonzero_calls (x : Int) (w : World) : Calls Try.prog 87 #[.int .u8 x] w fun e w' => e = .returned (.bool (decide (x ≠ 0))) ∧ w = w' := by
 by_cases h : x = 0
 ·subst h
  go_enter Try.func87, Try.ntmps87
  go_wp2_with fail
  go_ret
  exact ⟨rfl, rfl⟩
 ·go_enter Try.func87, Try.ntmps87
  go_wp2_with fail
  go_ret
  exact ⟨by simp [h], rfl⟩
set_option maxRecDepth 100000 in
set_option maxHeartbeats 8000000 in
theorem IndexFunc_calls (A : Option Addr) (c : Nat) (l : List Int) (w : World) (hr : Kd.C (Kd.int .u8) w A l.length l) (hc : l.length ≤ c) :
  Calls Try.prog 88 #[.slice A l.length c, .func (.func 87) #[] #[]] w fun e w' => ∃ r : Int, e = .returned (.int .i64 r) ∧ (decide (r ≥ 0) = true ↔ ∃ x ∈ l, x ≠ 0) ∧ w = w' := by
 have hm : l.length ≤ 9223372036854775807 := hr.2.1
 have HR := AM hr
 clear hr
 go_enter Try.func88, Try.ntmps88
 go_wp2_with fail
 go_loopw [8] (fun vi wr => ∃ k : Nat, k ≤ l.length ∧ vi = .int .i64 (k : Int) ∧ Aside0 (∀ x ∈ l.take k, x = 0) ∧ w = wr) (fun vi _ => l.length - (intOf vi).toNat)
 case atStart => exact ⟨0, Nat.zero_le _, rfl, AM (by simp), rfl⟩
 case round =>
  obtain ⟨k, hk, rfl, HZ, rfl⟩ := hrel
  by_cases hlt : k < l.length
  ·have hlt' : ((k : Int) < (l.length : Int)) := by omega
   obtain ⟨ad, rfl, hx⟩ := Kd.at_int HR.out (k : Int) (by omega) hlt'
   simp only [Int.toNat_natCast] at hx
   have hrd : rd l (k : Int) = l[k] := by simp [rd, List.getD_eq_getElem?_getD, hlt]
   go_wp2_with fail
   refine (nonzero_calls l[k] w).mono ?_
   rintro e w' ⟨rfl, rfl⟩
   by_cases h : l[k] = 0
   ·rw [show decide (l[k] ≠ 0) = false from by simp [h]]
    go_wp2_with fail
    go_roundw
    case rel => exact ⟨k + 1, hlt, by go_num, AM (fun y hy => by
     rw [List.take_add_one, List.getElem?_eq_getElem hlt, List.mem_append] at hy
     rcases hy with hy | hy
     ·exact HZ.out y hy
     ·rw [List.mem_singleton.1 hy, h]), trivial⟩
    case measure => simp [intOf]; omega
   ·rw [show decide (l[k] ≠ 0) = true from by simp [h]]
    go_wp2_with fail
    go_ret
    exact ⟨_, rfl, by simp; exact ⟨_, List.getElem_mem hlt, h⟩, rfl⟩
  ·obtain rfl : k = l.length := by omega
   have hz := HZ.out
   rw [List.take_length] at hz
   go_wp2_with fail
   go_ret
   exact ⟨_, rfl, by simpa using hz, rfl⟩
set_option maxRecDepth 100000 in
set_option maxHeartbeats 8000000 in
theorem ContainsFunc_calls (A : Option Addr) (c : Nat) (l : List Int) (w : World) (hr : Kd.C (Kd.int .u8) w A l.length l) (hc : l.length ≤ c) :
  Calls Try.prog 86 #[.slice A l.length c, .func (.func 87) #[] #[]] w fun e w' => ∃ r : Bool, e = .returned (.bool r) ∧ (r = true ↔ ∃ x ∈ l, x ≠ 0) ∧ w = w' := by
 have HR := AM hr
 clear hr
 go_enter Try.func86, Try.ntmps86
 go_wp2_with fail
 refine (IndexFunc_calls A c l w HR.out hc).mono ?_
 rintro e w' ⟨r, rfl, hr, rfl⟩
 go_wp2_with fail
 go_ret
 exact ⟨_, rfl, hr, rfl⟩
theorem rd_get (l : List Int) (j : Nat) (h : j < l.length) : rd l (j : Int) = l[j] := by simp [rd, List.getD_eq_getElem?_getD, h]
theorem Equal_l0 (l0 l1 : List Int) (he : l0.length = l1.length) (hm : l0.length ≤ 9223372036854775807) : ∀ (n j : Nat), n + j = l0.length → G.slices_Equal_byte_byte.l0 (n + 1) l0 l1 (l0.length : Int) (j : Int) = some (decide (l0.drop j = l1.drop j)) := by
 intro n
 induction n with
 | zero =>
  intro j hj
  unfold G.slices_Equal_byte_byte.l0
  rw [if_neg (by omega), List.drop_eq_nil_of_le (by omega), List.drop_eq_nil_of_le (by omega)]
  simp
 | succ n ih =>
  intro j hj
  have h0 : j < l0.length := by omega
  have h1 : j < l1.length := by omega
  unfold G.slices_Equal_byte_byte.l0
  rw [if_pos (by omega), if_pos (by omega), if_pos (by omega), if_pos (by omega), rd_get l0 j h0, rd_get l1 j h1, List.drop_eq_getElem_cons h0, List.drop_eq_getElem_cons h1]
  by_cases h : l0[j] = l1[j]
  ·rw [if_pos h, show wrap64 ((j : Int) + 1) = ((j + 1 : Nat) : Int) from by unfold wrap64; omega, ih (j + 1) (by omega)]
   exact congrArg some (decide_eq_decide.2 ⟨fun e => by rw [h, e], fun e => by injection e⟩)
  ·rw [if_neg h]
   exact congrArg some (decide_eq_false (fun e => by injection e with e1; exact h e1)).symm
theorem Equal_calls (A0 : Option Addr) (c0 : Nat) (l0 : List Int) (A1 : Option Addr) (c1 : Nat) (l1 : List Int) (w : World) (hr0 : Kd.C (Kd.int .u8) w A0 l0.length l0) (hc0 : l0.length ≤ c0) (hr1 : Kd.C (Kd.int .u8) w A1 l1.length l1) (hc1 : l1.length ≤ c1) :
  Calls Try.prog 84 #[.slice A0 l0.length c0, .slice A1 l1.length c1] w fun e w' => e = .returned (.bool (decide (l0 = l1))) ∧ Below w.heap.size w w' := by
 refine (G.slices_Equal_byte_byte.calls (l0.length + 1) A0 c0 l0 A1 c1 l1 _ w hr0 hc0 hr1 hc1 ?_).mono (fun e w' h => ⟨h.1, h.2.below⟩)
 unfold G.slices_Equal_byte_byte.f
 by_cases h : l0.length = l1.length
 ·rw [if_pos (by omega)]
  have := Equal_l0 l0 l1 h hr0.2.1 l0.length 0 (by omega)
  simpa using this
 ·rw [if_neg (by omega)]
  simp only [Option.some.injEq]
  exact (decide_eq_false (fun e => h (by rw [e]))).symm
end Go.Proofs.Ytbbokpkpdnppjaa
