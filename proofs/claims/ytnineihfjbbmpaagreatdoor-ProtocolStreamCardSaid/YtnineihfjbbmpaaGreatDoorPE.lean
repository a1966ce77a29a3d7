/- A part of the proofs of the protocol laws. -/
import Derived.Test.YtnineihfjbbmpaaGreatDoorPD
namespace Go.Proofs.YtnineihfjbbmpaaGreatDoor.P
open Go.RowKit Go.Proofs.YtnineihfjbbmpaaGreatDoorW.PrintWords Go.Proofs.YtnineihfjbbmpaaGreatDoorW.PrintLast Go.Proofs.YtnineihfjbbmpaaGreatDoorW.PrintMore
set_option exponentiation.threshold 8200
set_option linter.unusedVariables false
set_option linter.unusedSimpArgs false
/-- Two texts. -/
def ansB : ByteArray := ⟨#[97, 110, 115, 119, 101, 114]⟩
def ansN : ByteArray := ⟨#[97, 110, 115, 119, 101, 114, 10]⟩
set_option maxHeartbeats 4000000 in
set_option maxRecDepth 1000000 in
theorem format_zero (w : World) : Calls Tryz.prog 24 #[.agg #[.slice none 0 0, .slice none 0 0, .bool false]] w fun e w' => ∃ g : Nat, e = .returned (.slice (some ⟨g, 0, none⟩) 1 1) ∧ w'.cell? ⟨g, 0, none⟩ = some (.string ansB) ∧ Below w.heap.size w w' := by
  have hu := Tryz.underlying47
  go_enter Tryz.func24, Tryz.ntmps24
  go_wp2_with fail
  refine (valid_zero _).mono ?_
  rintro e w1 ⟨rfl, hb⟩
  have hB := Aside0.mk (below_step (below_alloc (Below.refl _ _) _) hb)
  have hc0 := (hb.cell (p := ⟨w.heap.size, 0, none⟩) (by simp)).trans (by simp : _ = some (Value.slice none 0 0))
  have hc1 := (hb.cell (p := ⟨w.heap.size, 1, none⟩) (by simp)).trans (by simp : _ = some (Value.slice none 0 0))
  have hc2 := (hb.cell (p := ⟨w.heap.size, 2, none⟩) (by simp)).trans (by simp : _ = some (Value.bool false))
  have hlt : w.heap.size < w1.heap.size := by have := hb.size; simp at this; omega
  clear hb
  go_wp2_with fail
  refine wp_loop_rounds 1 ?_
  rw [rounds_succ]
  go_wp2_with fail
  refine wp_loop_rounds 1 ?_
  rw [rounds_succ]
  go_wp2_with fail
  go_ret
  refine ⟨w1.heap.size, rfl, ?_, below_step hB.out (below_alloc (Below.refl _ _) _)⟩
  simp
  rfl
theorem env_grow {w w' : World} (h : Env w) (hb : Below w.heap.size w w') : Env w' := h.below hb
/-- WriteString at this program's numbers. -/
theorem builder_write (B b : Nat) (bs : List Value) (s : ByteArray) (w : World) (h : Lib.IsBuilder 64 5 B b bs w) (hlen : bs.length + s.size ≤ 140737488355328) (hBw : B ≤ w.heap.size) :
    Calls Tryz.prog 30 #[.pointer (some ⟨b, 0, none⟩), .string s] w fun e w' => e = .returned (.tuple #[.int .i64 s.size, .nilIface]) ∧ (Lib.BuilderAt 64 5 B b (.pointer (some ⟨b, 0, none⟩)) (bs ++ Lib.strCells s) w' ∧ Below B w w') :=
  Any.Builder_WriteString (P := Tryz.prog) (ρ := Tryz.lays155_ren) { Tryz.lays155 with } Tryz.Builder_Extra_155 B b bs s w h hlen hBw
theorem rep1 : (Lib.replaceAll ansB.data.toList (⟨#[92]⟩ : ByteArray).data.toList (⟨#[92, 92]⟩ : ByteArray).data.toList).toArray = ansB.data := by kernel_rfl
theorem rep2 : (Lib.replaceAll ansB.data.toList (⟨#[10]⟩ : ByteArray).data.toList (⟨#[92, 110]⟩ : ByteArray).data.toList).toArray = ansB.data := by kernel_rfl
theorem replace_one (w : World) (h : Env w) : Calls Tryz.prog 29 #[.string ansB, .string ⟨#[92]⟩, .string ⟨#[92, 92]⟩] w fun e w' => e = .returned (.string ansB) ∧ Below w.heap.size w w' := by
  obtain ⟨m, hm⟩ := h.max
  refine (Tryz.strings_ReplaceAll ansB ⟨#[92]⟩ ⟨#[92, 92]⟩ m w (by decide) hm (by decide) (by decide)).mono ?_
  rintro e w' ⟨rfl, hb⟩
  rw [rep1]
  exact ⟨rfl, hb⟩
theorem replace_two (w : World) (h : Env w) : Calls Tryz.prog 29 #[.string ansB, .string ⟨#[10]⟩, .string ⟨#[92, 110]⟩] w fun e w' => e = .returned (.string ansB) ∧ Below w.heap.size w w' := by
  obtain ⟨m, hm⟩ := h.max
  refine (Tryz.strings_ReplaceAll ansB ⟨#[10]⟩ ⟨#[92, 110]⟩ m w (by decide) hm (by decide) (by decide)).mono ?_
  rintro e w' ⟨rfl, hb⟩
  rw [rep2]
  exact ⟨rfl, hb⟩

end Go.Proofs.YtnineihfjbbmpaaGreatDoor.P
