/- The log's helpers: reading a number, growing, concatenating. -/
import Derived.Test.YtbbokpkpdnppjaaL1
namespace Go.Proofs.Ytbbokpkpdnppjaa
open Go.RowKit Go.Proofs.YtbbokpkpdnppjaaW.PrintWords Go.Proofs.YtbbokpkpdnppjaaW.PrintLast Go.Proofs.YtbbokpkpdnppjaaW.PrintMore
set_option linter.unusedVariables false
set_option linter.unusedSimpArgs false

def beStep (n x : Int) : Int := Go.bits .or .u64 (IntKind.u64.wrap (n * 256)) (IntKind.u64.wrap x)
def beVal (l : List Int) : Int := l.foldl beStep 0
theorem beVal_succ (l : List Int) (k : Nat) (h : k < l.length) : beVal (l.take (k + 1)) = beStep (beVal (l.take k)) l[k] := by
  unfold beVal
  rw [List.take_add_one, List.getElem?_eq_getElem h, List.foldl_append]
  rfl

set_option maxRecDepth 100000 in
set_option maxHeartbeats 8000000 in
theorem get_calls (A : Option Addr) (c : Nat) (l : List Int) (n : Nat) (w : World) (hr : Kd.C (Kd.int .u8) w A l.length l) (hc : l.length ≤ c) (hn : n ≤ l.length) :
    Calls Try.prog 83 #[.slice A l.length c, .int .i64 (n : Int)] w fun e w' => e = .returned (.int .u64 (beVal (l.take n))) ∧ w = w' := by
  have hm : l.length ≤ 9223372036854775807 := hr.2.1
  obtain ⟨i05, hi05, _, hsz5, _⟩ := info_parts info5
  obtain ⟨hcut5, hA5, hC5⟩ := print_take_of (P := Try.prog) (Value.int .u8) 0 29 5 .i64 Try.underlying29 hi05 hsz5 A c l (n : Int) (by omega) (by omega) hc
  simp only [Int.toNat_natCast] at hcut5 hA5 hC5
  have hlen : (l.take n).length = n := by rw [List.length_take]; omega
  rw [hlen] at hcut5 hC5
  have HR := Aside0.mk (Kd.C_of_reads (h1 := fun _ => rfl) (hA5 _ (Kd.reads_of_C hr)))
  clear hr hA5 hi05 hsz5
  rw [hlen] at HR
  generalize hlt : l.take n = t at HR hlen ⊢
  go_enter Try.func83, Try.ntmps83
  go_wp2_with fail
  go_loopw [5, 12] (fun vc vi wr => ∃ k : Nat, k ≤ t.length ∧ vc = .int .u64 (beVal (t.take k)) ∧ vi = .int .i64 (k : Int) ∧ w = wr) (fun _ vi _ => t.length - (intOf vi).toNat)
  case atStart => exact ⟨0, Nat.zero_le _, rfl, rfl, rfl⟩
  case round =>
    obtain ⟨k, hk, rfl, rfl, rfl⟩ := hrel
    by_cases hlt : k < t.length
    · have hlt' : ((k : Int) < (n : Int)) := by omega
      obtain ⟨ad, rfl, hx⟩ := Kd.at_int HR.out (k : Int) (by omega) hlt'
      simp only [Int.toNat_natCast] at hx
      go_wp2_with fail
      go_roundw
      case rel => exact ⟨k + 1, hlt, by rw [beVal_succ _ _ hlt, beStep]; simp [rd, List.getD_eq_getElem?_getD, hlt], by go_num, trivial⟩
      case measure => simp [intOf]; omega
    · obtain rfl : k = n := by omega
      go_wp2_with fail
      go_ret
      exact ⟨by rw [show t.take k = t from by rw [← hlen, List.take_length]]; rfl, rfl⟩

set_option maxRecDepth 100000 in
set_option maxHeartbeats 8000000 in
theorem Grow_calls (n : Nat) (w : World) (hn : n ≤ 140737488355328) :
    Calls Try.prog 82 #[.slice none 0 0, .int .i64 (n : Int)] w fun e w' => ∃ v, e = .returned v ∧ Kd.R (Kd.int .u8) 5 w' w.heap.size (fun _ => True) v [] ∧ Below w.heap.size w w' := by
  by_cases h0 : n = 0
  · subst h0
    go_enter Try.func82, Try.ntmps82
    go_wp2_with fail
    go_ret
    exact ⟨_, rfl, Kd.R_nil _ _ _ _ _, Below.refl _ _⟩
  · have h1 : (0 : Int) < (n : Int) := by omega
    have h2 : ¬ ((n : Int) < 0) := by omega
    obtain ⟨i05, hi05, _, hsz5, _⟩ := info_parts info5
    have hcut : ∀ (A : Option Addr) (m c : Nat), m ≤ c → ∀ W : World, (Instr.slice 29 (.slice A m c) none (some (.int .i64 0)) none).run Try.prog W = .ok (.slice A 0 c) W := fun A m c hm W => by
      have := (print_take_of (P := Try.prog) (Value.int .u8) 0 29 5 .i64 Try.underlying29 hi05 hsz5 A c (List.replicate m (0 : Int)) 0 (by omega) (by simp) (by simpa using hm)).1 W
      simpa using this
    obtain ⟨A, hA⟩ : ∃ A : Option Addr, A = none := ⟨_, rfl⟩
    rw [← hA]
    have HR0 := Aside0.mk (show Kd.R (Kd.int .u8) 5 w w.heap.size (fun _ => True) (.slice A 0 0) [] from by rw [hA]; exact Kd.R_nil _ _ _ _ _)
    clear hA
    have hcut0 := hcut A 0 0 (Nat.le_refl _)
    go_enter Try.func82, Try.ntmps82
    go_wp2_with ((with_reducible refine gate_builtin (b := .append) (xs := #[.tmp 20, .tmp 21]) rfl ?_); at_builtin; refine Kd.R_append_zeros (Kd.int .u8) (w0 := w) w.heap.size rfl (.tmp 20) (.tmp 21) 29 3 5 (.int .u8 0) 1 rfl Try.underlying29 Try.underlying3 info5 rfl (by decide) (by omega) (.slice A 0 0) [] 0 (n : Int) (fun _ => True) rfl rfl ?hz (fun _ _ => trivial) HR0.out (by omega) (Below.refl _ _) (Nat.le_refl _) (by simp; omega) ?_; (case hz => exact rfl); intro v1 w1 ho1 hb1 _ _; obtain ⟨A1, c1, rfl⟩ := Kd.R_slice ho1; have HO1 := Aside0.mk ho1; have HB1 := Aside0.mk hb1; have hc1 := hcut A1 n c1 (by have := (Kd.R_reads' ho1).2.1; simpa using this); (simp only [List.nil_append, List.length_replicate, Int.toNat_natCast]); clear ho1 hb1)
    go_ret
    refine ⟨_, rfl, ?_, HB1.out⟩
    have := Kd.R_take HO1.out (m := 0) (Nat.zero_le _)
    simpa using this
end Go.Proofs.Ytbbokpkpdnppjaa
