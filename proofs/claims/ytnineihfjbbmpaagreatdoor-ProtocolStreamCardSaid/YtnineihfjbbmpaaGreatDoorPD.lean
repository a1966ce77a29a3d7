/- A part of the proofs of the protocol laws. -/
import Derived.Test.YtnineihfjbbmpaaGreatDoorPC
import Derived.Test.YtnineihfjbbmpaaGreatDoorH1
import Derived.Test.YtnineihfjbbmpaaGreatDoorH2
namespace Go.Proofs.YtnineihfjbbmpaaGreatDoor.P
open Go.RowKit Go.Proofs.YtnineihfjbbmpaaGreatDoorW.PrintWords Go.Proofs.YtnineihfjbbmpaaGreatDoorW.PrintLast Go.Proofs.YtnineihfjbbmpaaGreatDoorW.PrintMore
set_option exponentiation.threshold 8200
set_option linter.unusedVariables false
set_option linter.unusedSimpArgs false
/-! ### The text of the answer without columns and rows -/
/-- What the walks need of the library's variables: the table of powers of ten, and that MaxLen holds a number. -/
def Env (w : World) : Prop := Lib.TabIs Tryz.prog w "internal/strconv.uint64pow10" .u64 Lib.pow10Tab ∧ ∃ m : Int, w.cell? ⟨1, 0, none⟩ = some (.int .i64 m)
theorem Env.max {w : World} (h : Env w) : ∃ m : Int, w.cell? ⟨1, 0, none⟩ = some (.int .i64 m) := h.2
theorem Env.below {w w' : World} (h : Env w) (hb : Below w.heap.size w w') : Env w' := by
  obtain ⟨ht, m, hm⟩ := h
  refine ⟨?_, m, (hb.cell (World.block_lt_of_cell? _ _ hm)).trans hm⟩
  unfold Lib.TabIs World.var? at *
  cases hg : Tryz.prog.globalNamed "internal/strconv.uint64pow10" with
  | none => simp [hg] at ht
  | some g =>
    simp only [hg, Option.bind_some] at ht ⊢
    have hlt : g < w.heap.size := by
      rcases Nat.lt_or_ge g w.heap.size with h' | h'
      · exact h'
      · simp [Array.getElem?_eq_none h'] at ht
    rw [hb.block g hlt]
    exact ht
set_option maxHeartbeats 4000000 in
set_option maxRecDepth 1000000 in
theorem idx_nil (w : World) : Calls Tryz.prog 62 #[.slice none 0 0, .func (.func 41) #[] #[]] w fun e w' => e = .returned (.int .i64 (-1)) ∧ w = w' := by
  go_enter Tryz.func62, Tryz.ntmps62
  go_wp2_with fail
  refine wp_loop_rounds 1 ?_
  rw [rounds_succ]
  go_wp2
  go_ret
  exact ⟨rfl, rfl⟩
set_option maxHeartbeats 4000000 in
set_option maxRecDepth 1000000 in
theorem contains_nil (w : World) : Calls Tryz.prog 42 #[.slice none 0 0, .func (.func 41) #[] #[]] w fun e w' => e = .returned (.bool false) ∧ w = w' := by
  go_enter Tryz.func42, Tryz.ntmps42
  go_wp2_with fail
  refine (idx_nil w).mono ?_
  rintro e w' ⟨rfl, rfl⟩
  go_wp2_with fail
  go_ret
  exact ⟨rfl, rfl⟩
set_option maxHeartbeats 4000000 in
set_option maxRecDepth 1000000 in
theorem valid_zero (w : World) : Calls Tryz.prog 32 #[.agg #[.slice none 0 0, .slice none 0 0, .bool false]] w fun e w' => e = .returned (.bool true) ∧ Below w.heap.size w w' := by
  have hu := Tryz.underlying47
  go_enter Tryz.func32, Tryz.ntmps32
  go_wp2_with fail
  refine (contains_nil _).mono ?_
  rintro e w' ⟨rfl, rfl⟩
  go_wp2_with fail
  refine wp_loop_rounds 1 ?_
  rw [rounds_succ]
  go_wp2
  go_ret
  exact ⟨rfl, below_alloc (Below.refl _ _) _⟩

end Go.Proofs.YtnineihfjbbmpaaGreatDoor.P
