/- Contracts of the disk's small methods. -/
import Derived.Test.YtbbokpkpdnppjaaA1
namespace Go.Proofs.Ytbbokpkpdnppjaa
open Go.RowKit Go.Proofs.YtbbokpkpdnppjaaW.PrintWords Go.Proofs.YtbbokpkpdnppjaaW.PrintLast Go.Proofs.YtbbokpkpdnppjaaW.PrintMore
set_option linter.unusedVariables false
set_option linter.unusedSimpArgs false

section
variable {w : World} {base : Nat} {pr sh : Nat → Prop} {g : Nat} {v0 v1 : Value} {D : Dk}

theorem DiskIs.v0_form (h : DiskIs w base pr sh g v0 v1 D) : ∃ A c, v0 = .slice A D.dur.length c ∧ D.dur.length ≤ c ∧ Kd.C (Kd.int .u8) w A D.dur.length D.dur := Kd.R_reads h.dur
theorem DiskIs.v1_form (h : DiskIs w base pr sh g v0 v1 D) : ∃ A c, v1 = .slice A D.pend.length c ∧ D.pend.length ≤ c := OwnRow.slice_ h.pend

theorem Size_calls (h : IsDisk w base pr sh g D) : Calls Try.prog 17 #[.pointer (some ⟨g, 0, none⟩)] w fun e w' => e = .returned (.int .i64 D.dur.length) ∧ w = w' := by
  obtain ⟨v0, v1, h⟩ := h
  obtain ⟨c0, c1, c2, c3, _⟩ := h.cells
  obtain ⟨A, c, rfl, _⟩ := h.v0_form
  clear h
  go_enter Try.func17, Try.ntmps17
  go_wp2
  go_ret
  exact ⟨rfl, rfl⟩

theorem Pending_calls (h : IsDisk w base pr sh g D) : Calls Try.prog 26 #[.pointer (some ⟨g, 0, none⟩)] w fun e w' => e = .returned (.int .i64 D.pend.length) ∧ w = w' := by
  obtain ⟨v0, v1, h⟩ := h
  obtain ⟨c0, c1, c2, c3, _⟩ := h.cells
  obtain ⟨A, c, rfl, _⟩ := h.v1_form
  clear h
  go_enter Try.func26, Try.ntmps26
  go_wp2
  go_ret
  exact ⟨rfl, rfl⟩

theorem Failed_calls (h : IsDisk w base pr sh g D) : Calls Try.prog 28 #[.pointer (some ⟨g, 0, none⟩)] w fun e w' => e = .returned (.bool D.failed) ∧ w = w' := by
  obtain ⟨v0, v1, h⟩ := h
  obtain ⟨c0, c1, c2, c3, _⟩ := h.cells
  clear h
  go_enter Try.func28, Try.ntmps28
  go_wp2
  go_ret
  exact ⟨rfl, rfl⟩

/-- Of a range: does it lie on a disk of this size. -/
def insd (n : Nat) (at_ m : Int) : Bool := decide (0 ≤ at_) && (decide (0 ≤ m) && (decide (at_ ≤ n) && decide (m ≤ n - at_)))

theorem DiskIs.len (h : DiskIs w base pr sh g v0 v1 D) : D.dur.length ≤ 9223372036854775807 := by
  obtain ⟨A, c, _, _, hC⟩ := h.v0_form
  exact hC.2.1

set_option maxHeartbeats 400000 in
theorem inside_calls (at_ m : Int) (h : IsDisk w base pr sh g D) :
    Calls Try.prog 54 #[.pointer (some ⟨g, 0, none⟩), .int .i64 at_, .int .i64 m] w fun e w' => e = .returned (.bool (insd D.dur.length at_ m)) ∧ w = w' := by
  have hS := Aside0.mk (Size_calls h)
  obtain ⟨v0, v1, h⟩ := h
  have hl := h.len
  clear h
  by_cases h1 : 0 ≤ at_
  · by_cases h2 : 0 ≤ m
    · by_cases h3 : at_ ≤ D.dur.length
      · go_enter Try.func54, Try.ntmps54
        go_wp2_with (first | (go_at_call 17; refine (hS.out).mono ?_; rintro e w' ⟨rfl, rfl⟩))
        go_ret
        exact ⟨by simp [insd, h1, h2, h3], rfl⟩
      · go_enter Try.func54, Try.ntmps54
        go_wp2_with (first | (go_at_call 17; refine (hS.out).mono ?_; rintro e w' ⟨rfl, rfl⟩))
        go_ret
        exact ⟨by simp [insd, h1, h2]; omega, rfl⟩
    · go_enter Try.func54, Try.ntmps54
      go_wp2_with (first | (go_at_call 17; refine (hS.out).mono ?_; rintro e w' ⟨rfl, rfl⟩))
      go_ret
      exact ⟨by simp [insd, h1]; omega, rfl⟩
  · go_enter Try.func54, Try.ntmps54
    go_wp2_with (first | (go_at_call 17; refine (hS.out).mono ?_; rintro e w' ⟨rfl, rfl⟩))
    go_ret
    exact ⟨by simp [insd]; omega, rfl⟩

def Dk.after (D : Dk) (n : Int) : Dk := { D with cnt := if n < -1 then -1 else n }

theorem FailAfter_calls (n : Int) (h : IsDisk w base pr sh g D) :
    Calls Try.prog 27 #[.pointer (some ⟨g, 0, none⟩), .int .i64 n] w fun e w' => e = .returned (.tuple #[]) ∧ IsDisk w' base pr sh g (D.after n) ∧ Kp pr w w' := by
  obtain ⟨v0, v1, h⟩ := h
  obtain ⟨c0, c1, c2, c3, f0, f1, f2, f3⟩ := h.cells
  have H := Aside0.mk h
  clear h
  go_enter Try.func27, Try.ntmps27
  go_wp2
  · go_end0
    exact ⟨rfl, ⟨v0, v1, by have := H.out.setCnt (-1); simpa [Dk.after, h] using this⟩, Kp.setCell _ _ H.out.gpr⟩
  · go_end0
    exact ⟨rfl, ⟨v0, v1, by have := H.out.setCnt n; simpa [Dk.after, show ¬ n < -1 by omega] using this⟩, Kp.setCell _ _ H.out.gpr⟩
end
end Go.Proofs.Ytbbokpkpdnppjaa
