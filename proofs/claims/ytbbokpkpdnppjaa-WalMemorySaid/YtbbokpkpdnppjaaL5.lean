/- The log: is a byte other than zero there; the header slots. -/
import Derived.Test.YtbbokpkpdnppjaaL4
namespace Go.Proofs.Ytbbokpkpdnppjaa
open Go.RowKit Go.Proofs.YtbbokpkpdnppjaaW.PrintWords Go.Proofs.YtbbokpkpdnppjaaW.PrintLast Go.Proofs.YtbbokpkpdnppjaaW.PrintMore
set_option linter.unusedVariables false
set_option linter.unusedSimpArgs false

set_option maxRecDepth 100000 in
set_option maxHeartbeats 8000000 in
theorem nonzero_calls (x : Int) (w : World) : Calls Try.prog 87 #[.int .u8 x] w fun e w' => e = .returned (.bool (decide (x ≠ 0))) ∧ w = w' := by
  by_cases h : x = 0
  · subst h
    go_enter Try.func87, Try.ntmps87
    go_wp2_with fail
    go_ret
    exact ⟨rfl, rfl⟩
  · go_enter Try.func87, Try.ntmps87
    go_wp2_with fail
    go_ret
    exact ⟨by simp [h], rfl⟩
set_option maxRecDepth 100000 in
set_option maxHeartbeats 8000000 in
theorem IndexFunc_calls (A : Option Addr) (c : Nat) (l : List Int) (w : World) (hr : Kd.C (Kd.int .u8) w A l.length l) (hc : l.length ≤ c) :
    Calls Try.prog 88 #[.slice A l.length c, .func (.func 87) #[] #[]] w fun e w' => ∃ r : Int, e = .returned (.int .i64 r) ∧ (decide (r ≥ 0) = true ↔ ∃ x ∈ l, x ≠ 0) ∧ w = w' := by
  have hm : l.length ≤ 9223372036854775807 := hr.2.1
  have HR := Aside0.mk hr
  clear hr
  go_enter Try.func88, Try.ntmps88
  go_wp2_with fail
  go_loopw [8] (fun vi wr => ∃ k : Nat, k ≤ l.length ∧ vi = .int .i64 (k : Int) ∧ Aside0 (∀ x ∈ l.take k, x = 0) ∧ w = wr) (fun vi _ => l.length - (intOf vi).toNat)
  case atStart => exact ⟨0, Nat.zero_le _, rfl, Aside0.mk (by simp), rfl⟩
  case round =>
    obtain ⟨k, hk, rfl, HZ, rfl⟩ := hrel
    by_cases hlt : k < l.length
    · have hlt' : ((k : Int) < (l.length : Int)) := by omega
      obtain ⟨ad, rfl, hx⟩ := Kd.at_int HR.out (k : Int) (by omega) hlt'
      simp only [Int.toNat_natCast] at hx
      have hrd : rd l (k : Int) = l[k] := by simp [rd, List.getD_eq_getElem?_getD, hlt]
      go_wp2_with fail
      refine (nonzero_calls l[k] w).mono ?_
      rintro e w' ⟨rfl, rfl⟩
      by_cases h : l[k] = 0
      · rw [show decide (l[k] ≠ 0) = false from by simp [h]]
        go_wp2_with fail
        go_roundw
        case rel => exact ⟨k + 1, hlt, by go_num, Aside0.mk (fun y hy => by
          rw [List.take_add_one, List.getElem?_eq_getElem hlt, List.mem_append] at hy
          rcases hy with hy | hy
          · exact HZ.out y hy
          · rw [List.mem_singleton.1 hy, h]), trivial⟩
        case measure => simp [intOf]; omega
      · rw [show decide (l[k] ≠ 0) = true from by simp [h]]
        go_wp2_with fail
        go_ret
        exact ⟨_, rfl, by simp; exact ⟨_, List.getElem_mem hlt, h⟩, rfl⟩
    · obtain rfl : k = l.length := by omega
      have hz := HZ.out
      rw [List.take_length] at hz
      go_wp2_with fail
      go_ret
      exact ⟨_, rfl, by simpa using hz, rfl⟩
set_option maxRecDepth 100000 in
set_option maxHeartbeats 8000000 in
theorem ContainsFunc_calls (A : Option Addr) (c : Nat) (l : List Int) (w : World) (hr : Kd.C (Kd.int .u8) w A l.length l) (hc : l.length ≤ c) :
    Calls Try.prog 86 #[.slice A l.length c, .func (.func 87) #[] #[]] w fun e w' => ∃ r : Bool, e = .returned (.bool r) ∧ (r = true ↔ ∃ x ∈ l, x ≠ 0) ∧ w = w' := by
  have HR := Aside0.mk hr
  clear hr
  go_enter Try.func86, Try.ntmps86
  go_wp2_with fail
  refine (IndexFunc_calls A c l w HR.out hc).mono ?_
  rintro e w' ⟨r, rfl, hr, rfl⟩
  go_wp2_with fail
  go_ret
  exact ⟨_, rfl, hr, rfl⟩
theorem rd_get (l : List Int) (j : Nat) (h : j < l.length) : rd l (j : Int) = l[j] := by simp [rd, List.getD_eq_getElem?_getD, h]
theorem Equal_l0 (l0 l1 : List Int) (he : l0.length = l1.length) (hm : l0.length ≤ 9223372036854775807) : ∀ (n j : Nat), n + j = l0.length → G.slices_Equal_byte_byte.l0 (n + 1) l0 l1 (l0.length : Int) (j : Int) = some (decide (l0.drop j = l1.drop j)) := by
  intro n
  induction n with
  | zero =>
    intro j hj
    unfold G.slices_Equal_byte_byte.l0
    rw [if_neg (by omega), List.drop_eq_nil_of_le (by omega), List.drop_eq_nil_of_le (by omega)]
    simp
  | succ n ih =>
    intro j hj
    have h0 : j < l0.length := by omega
    have h1 : j < l1.length := by omega
    unfold G.slices_Equal_byte_byte.l0
    rw [if_pos (by omega), if_pos (by omega), if_pos (by omega), if_pos (by omega), rd_get l0 j h0, rd_get l1 j h1, List.drop_eq_getElem_cons h0, List.drop_eq_getElem_cons h1]
    by_cases h : l0[j] = l1[j]
    · rw [if_pos h, show wrap64 ((j : Int) + 1) = ((j + 1 : Nat) : Int) from by unfold wrap64; omega, ih (j + 1) (by omega)]
      exact congrArg some (decide_eq_decide.2 ⟨fun e => by rw [h, e], fun e => by injection e⟩)
    · rw [if_neg h]
      exact congrArg some (decide_eq_false (fun e => by injection e with e1; exact h e1)).symm
theorem Equal_calls (A0 : Option Addr) (c0 : Nat) (l0 : List Int) (A1 : Option Addr) (c1 : Nat) (l1 : List Int) (w : World) (hr0 : Kd.C (Kd.int .u8) w A0 l0.length l0) (hc0 : l0.length ≤ c0) (hr1 : Kd.C (Kd.int .u8) w A1 l1.length l1) (hc1 : l1.length ≤ c1) :
    Calls Try.prog 84 #[.slice A0 l0.length c0, .slice A1 l1.length c1] w fun e w' => e = .returned (.bool (decide (l0 = l1))) ∧ Below w.heap.size w w' := by
  refine (G.slices_Equal_byte_byte.calls (l0.length + 1) A0 c0 l0 A1 c1 l1 _ w hr0 hc0 hr1 hc1 ?_).mono (fun e w' h => ⟨h.1, h.2.below⟩)
  unfold G.slices_Equal_byte_byte.f
  by_cases h : l0.length = l1.length
  · rw [if_pos (by omega)]
    have := Equal_l0 l0 l1 h hr0.2.1 l0.length 0 (by omega)
    simpa using this
  · rw [if_neg (by omega)]
    simp only [Option.some.injEq]
    exact (decide_eq_false (fun e => h (by rw [e]))).symm
end Go.Proofs.Ytbbokpkpdnppjaa
