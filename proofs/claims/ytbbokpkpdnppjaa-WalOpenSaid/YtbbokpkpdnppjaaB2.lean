/- The disk laws' own small functions: awake, Same, few, Right; what becomes of a disk's numbers. -/
import Derived.Test.YtbbokpkpdnppjaaB1
import Derived.Lib.SlBytesConst
namespace Go.Proofs.Ytbbokpkpdnppjaa
open Go.RowKit Go.Proofs.YtbbokpkpdnppjaaW.PrintWords Go.Proofs.YtbbokpkpdnppjaaW.PrintLast Go.Proofs.YtbbokpkpdnppjaaW.PrintMore
set_option linter.unusedVariables false
set_option linter.unusedSimpArgs false

/-! ### What becomes of the numbers -/
theorem Dk.fresh_ok (n : Nat) (h1 : 1 ≤ n) (h2 : n ≤ 4194304) : (Dk.fresh n).Ok where
  pos := by simp [Dk.fresh]; omega
  few := by simp [Dk.fresh]
  big := by simp [Dk.fresh]; omega
  fit := by simp [Dk.fresh]
  lo := by simp [Dk.fresh]
  hi := by simp [Dk.fresh]
theorem Dk.Ok.after {D : Dk} (h : D.Ok) (n : Int) (hn : n ≤ 9223372036854775807) : (D.after n).Ok where
  pos := h.pos
  few := h.few
  big := h.big
  fit := h.fit
  lo := by simp only [Dk.after]; split <;> omega
  hi := by simp only [Dk.after]; split <;> omega
theorem Dk.Ok.fail {D : Dk} (h : D.Ok) : ({ D with failed := true } : Dk).Ok := ⟨h.pos, h.few, h.big, h.fit, h.lo, h.hi⟩
theorem Dk.Ok.wrote {D : Dk} (h : D.Ok) (hn : D.pend.length < 1000) (at_ : Int) (l : List Int) (hi : insd D.dur.length at_ l.length = true) : (D.wrote at_ l).Ok where
  pos := h.pos
  few := by simp [Dk.wrote]; omega
  big := h.big
  fit := fun x hx => by
    simp only [Dk.wrote, List.mem_append, List.mem_singleton] at hx
    rcases hx with hx | rfl
    · exact h.fit x hx
    · simp only [insd, Bool.and_eq_true, decide_eq_true_eq] at hi
      simp only [Dk.wrote]
      omega
  lo := h.lo
  hi := h.hi
theorem Dk.Ok.write {D : Dk} (h : D.Ok) (hn : D.pend.length < 1000) (at_ : Int) (l : List Int) : (D.write at_ l).1.Ok := by
  unfold Dk.write
  split
  · exact h
  · split
    · exact h
    · rename_i hi
      split
      · exact h.fail
      · exact h.burnt.wrote hn at_ l (show insd D.dur.length at_ l.length = true by simpa using hi)
theorem Dk.Ok.synced {D : Dk} (h : D.Ok) : D.synced.Ok where
  pos := by rw [Dk.synced, layAll_length _ _ h.fit]; exact h.pos
  few := by simp [Dk.synced]
  big := by rw [Dk.synced, layAll_length _ _ h.fit]; exact h.big
  fit := by simp [Dk.synced]
  lo := h.lo
  hi := h.hi
theorem Dk.Ok.sync {D : Dk} (h : D.Ok) : D.sync.1.Ok := by
  unfold Dk.sync
  split
  · exact h.fail
  · exact h.burnt.synced
theorem Dk.Ok.zip {D : Dk} (h : D.Ok) (ss : List Int) : ∀ x ∈ D.pend.zip ss, 0 ≤ x.1.at_ ∧ x.1.at_ + x.1.data.length ≤ D.dur.length := fun x hx => h.fit x.1 (List.of_mem_zip hx).1
theorem Dk.Ok.crashed {D : Dk} (h : D.Ok) (ss : List Int) : (D.crashed ss).Ok where
  pos := by rw [Dk.crashed, tearAll_length _ _ (h.zip ss)]; exact h.pos
  few := by simp [Dk.crashed]
  big := by rw [Dk.crashed, tearAll_length _ _ (h.zip ss)]; exact h.big
  fit := by simp [Dk.crashed]
  lo := by simp [Dk.crashed]
  hi := by simp [Dk.crashed]

/-! ### The chapter's example -/
def wD1 : Dk := ⟨[0, 0, 0], [⟨0, [97, 98]⟩], -1, false⟩
def wD2 : Dk := ⟨[97, 98, 0], [], -1, false⟩
def wD3 : Dk := ⟨[97, 98, 0], [⟨0, [120, 121, 122]⟩], -1, false⟩
def wD4 : Dk := ⟨[120, 121, 0], [], -1, false⟩
theorem wE1 : (Dk.fresh 3).write 0 [97, 98] = (wD1, 0) := rfl
theorem wE2 : wD1.sync = (wD2, 0) := rfl
theorem wE3 : wD2.write 0 [120, 121, 122] = (wD3, 0) := rfl
theorem wE4 : wD3.crashed [2] = wD4 := rfl
theorem wE5 : wD4.read 0 3 = ([120, 121, 0], 0) := rfl

set_option maxRecDepth 100000 in
set_option maxHeartbeats 4000000 in
theorem awake13 (w : World) : Calls Try.prog 14 #[] w fun e w' => e = .returned (.bool true) ∧ Below w.heap.size w w' := by
  have ok0 := Aside0.mk (Dk.fresh_ok 3 (by omega) (by omega))
  have ok1 := Aside0.mk (show wD1.Ok by have := ok0.out.write (by decide) 0 [97, 98]; rwa [wE1] at this)
  have ok2 := Aside0.mk (show wD2.Ok by have := ok1.out.sync; rwa [wE2] at this)
  have ok3 := Aside0.mk (show wD3.Ok by have := ok2.out.write (by decide) 0 [120, 121, 122]; rwa [wE3] at this)
  have ok4 := Aside0.mk (show wD4.Ok by have := ok3.out.crashed [2]; rwa [wE4] at this)
  have kc := fun (w : World) (C : Array Value) (n c : Nat) => Lib.run_convert_bytes_const (P := Try.prog) w 29 5 C n c Try.underlying29 Try.underlying5
  go_enter Try.func14, Try.ntmps14
  go_wp2_with fail
  refine (St.new (w0 := w) 3 (Below.refl _ _) (by omega) (by omega)).mono ?_
  rintro e w1 ⟨g, rfl, hs⟩
  have S1 := Aside0.mk hs
  clear hs
  go_wp2_with fail
  refine (S1.out.write_lit 0 _ _ [97, 98] rfl ok0.out (by decide)).mono ?_
  rw [wE1]
  rintro e w2 ⟨rfl, hs⟩
  have S2 := Aside0.mk hs
  clear hs
  go_wp2_with fail
  refine (S2.out.sync ok1.out).mono ?_
  rw [wE2]
  rintro e w3 ⟨rfl, hs⟩
  have S3 := Aside0.mk hs
  clear hs
  go_wp2_with fail
  refine (S3.out.write_lit 0 _ _ [120, 121, 122] rfl ok2.out (by decide)).mono ?_
  rw [wE3]
  rintro e w4 ⟨rfl, hs⟩
  have S4 := Aside0.mk hs
  clear hs
  go_wp2_with fail
  refine S4.out.pending.mono ?_
  rintro e w' ⟨rfl, rfl⟩
  go_wp2_with fail
  refine (S4.out.crash_lit _ [2] rfl ok3.out (by decide)).mono ?_
  rw [wE4]
  rintro e w5 ⟨rfl, hs⟩
  have S5 := Aside0.mk hs
  clear hs
  go_wp2_with fail
  refine (S5.out.read 0 3 ok4.out).mono ?_
  rw [wE5]
  rintro e w6 ⟨v, rfl, hR, hB⟩
  have S6 := Aside0.mk (S5.out.step hB)
  obtain ⟨A, c, ev⟩ := Kd.R_slice hR
  subst ev
  have hv : (convert 29 9 (.slice A 3 c)).run Try.prog w6 = .ok (.string ⟨#[120, 121, 0]⟩) w6 := own_string (P := Try.prog) (src := 29) (dst := 9) (e := 5) (xs := [120, 121, 0]) Try.underlying29 Try.underlying5 Try.underlying9 (Kd.own_of_R (enc := Value.int .u8) (h1 := fun _ => rfl) hR)
  clear hR hB kc
  go_wp2_with fail
  refine S6.out.size.mono ?_
  rintro e w' ⟨rfl, rfl⟩
  go_wp2_with fail
  refine S6.out.pending.mono ?_
  rintro e w' ⟨rfl, rfl⟩
  go_wp2_with fail
  go_ret
  exact ⟨rfl, S6.out.bel⟩
end Go.Proofs.Ytbbokpkpdnppjaa
