/- A part of the proofs of the protocol laws. -/
import Derived.Test.YtnineihfjbbmpaaGreatDoorPJ
namespace Go.Proofs.YtnineihfjbbmpaaGreatDoor.P
open Go.RowKit Go.Proofs.YtnineihfjbbmpaaGreatDoorW.PrintWords Go.Proofs.YtnineihfjbbmpaaGreatDoorW.PrintLast Go.Proofs.YtnineihfjbbmpaaGreatDoorW.PrintMore
set_option exponentiation.threshold 8200
set_option linter.unusedVariables false
set_option linter.unusedSimpArgs false
/-! ### The chapter's examples -/
set_option maxHeartbeats 4000000 in
set_option maxRecDepth 1000000 in
theorem newStream_calls (base : Nat) (w : World) (hbase : base ≤ w.heap.size) : Calls Tryz.prog 12 #[] w fun e w' => ∃ g : Nat, e = .returned (.pointer (some ⟨g, 0, none⟩)) ∧ StS w' base g [] false ∧ Below w.heap.size w w' := by
  have HBA := Aside0.mk hbase
  clear hbase
  have hu55 := Tryz.underlying55
  go_enter Tryz.func12, Tryz.ntmps12
  go_wp2_with fail
  go_ret
  exact ⟨_, rfl, ⟨HBA.out, none, 0, heap_alloc_new w _, q_of_own (own_nil _ _ _ _)⟩, below_alloc (Below.refl _ _) _⟩
set_option maxHeartbeats 4000000 in
set_option maxRecDepth 1000000 in
theorem pending_calls (base g : Nat) (r : List Int) (br : Bool) (w : World) (hS : StS w base g r br) : Calls Tryz.prog 16 #[.pointer (some ⟨g, 0, none⟩)] w fun e w' => e = .returned (.int .i64 (r.length : Int)) ∧ w = w' := by
  obtain ⟨hB, A, c, hK, hQ⟩ := hS
  have z0 : w.cell? ⟨g, 0, none⟩ = some (.slice A r.length c) := (blk_cell hK 0).trans rfl
  clear hB hK hQ
  go_enter Tryz.func16, Tryz.ntmps16
  go_wp2_with fail
  go_ret
  exact ⟨rfl, rfl⟩
theorem lit_C (w : World) (l : List Int) (fr : Nat × Nat) (hl : l.length ≤ 1000000) : Kd.C (Kd.int .u8) (w.alloc (.cells (cellsU l).toArray 5 fr)) (some ⟨w.heap.size, 0, none⟩) l.length l := by
  refine Kd.C_of_reads (d := (0 : Int)) (h1 := fun _ => rfl) ⟨rfl, by omega, fun _ => ⟨_, rfl, fun j hj => ?_⟩⟩
  rw [add_at, Nat.zero_add, World.cell?_alloc_mark]
  unfold cellsU
  simp [List.getD_eq_getElem?_getD, List.getElem?_eq_getElem hj]
theorem StS.below {w w' : World} {base g : Nat} {r : List Int} {br : Bool} (h : StS w base g r br) (hb : Below w.heap.size w w') : StS w' base g r br := by
  obtain ⟨hB, A, c, hK, hQ⟩ := h
  exact ⟨hB, A, c, (hb.block g (blk_lt hK)).trans hK, q_below hQ hb⟩
theorem frame_ping : frameB [80, 73, 78, 71] [104, 105] = [80, 73, 78, 71, 32, 50, 10, 104, 105] := by kernel_rfl
theorem kind_ping : kindB [80, 73, 78, 71] = true := by kernel_rfl
theorem enc_ping : encL [80, 73, 78, 71] [104, 105] = ([80, 73, 78, 71, 32, 50, 10, 104, 105], 0) := by
  unfold encL
  rw [kind_ping, if_neg (by decide), if_neg (by decide), frame_ping]
theorem feed_one : feedS [] false [80, 73, 78, 71, 32, 50] = ([], 0, [80, 73, 78, 71, 32, 50], false) := by kernel_rfl
theorem feed_two : feedS [80, 73, 78, 71, 32, 50] false [10, 104, 105, 80, 79] = ([⟨⟨#[80, 73, 78, 71]⟩, ⟨#[104, 105]⟩⟩], 0, [80, 79], false) := by kernel_rfl
theorem encode_ping (w : World) (h : Env w) : Calls Tryz.prog 7 #[.agg #[.string ⟨#[80, 73, 78, 71]⟩, .string ⟨#[104, 105]⟩]] w fun e w' => ∃ A c, e = .returned (.tuple #[.slice A 9 c, .int .i64 0]) ∧ Kd.C (Kd.int .u8) w' A 9 [80, 73, 78, 71, 32, 50, 10, 104, 105] ∧ Below w.heap.size w w' := by
  have hc := encode_calls [80, 73, 78, 71] [104, 105] (by decide) w h
  rw [enc_ping] at hc
  refine hc.mono ?_
  rintro e w' ⟨A, c, rfl, hC, _, hb⟩
  exact ⟨A, c, rfl, hC, hb⟩
theorem feed_ping (base g : Nat) (w : World) (hS : StS w base g [] false) (hbase : base ≤ w.heap.size) (B : Option Addr) (d : Nat) (hC : Kd.C (Kd.int .u8) w B 6 [80, 73, 78, 71, 32, 50]) (hd : 6 ≤ d) : Calls Tryz.prog 13 #[.pointer (some ⟨g, 0, none⟩), .slice B 6 d] w fun e w' => ∃ A c, e = .returned (.tuple #[.slice A 0 c, .int .i64 0]) ∧ StS w' base g [80, 73, 78, 71, 32, 50] false ∧ Below base w w' := by
  have hc := feed_calls base g [] false B d [80, 73, 78, 71, 32, 50] w hS hC hd (by decide) hbase _ feed_one
  refine hc.mono ?_
  rintro e w' ⟨v, rfl, hR, hS1, hb, _⟩
  obtain ⟨A, c, rfl⟩ := Kd.R_slice hR
  exact ⟨A, c, rfl, hS1, hb⟩
theorem feed_pong (base g : Nat) (w : World) (hS : StS w base g [80, 73, 78, 71, 32, 50] false) (hbase : base ≤ w.heap.size) (B : Option Addr) (d : Nat) (hC : Kd.C (Kd.int .u8) w B 5 [10, 104, 105, 80, 79]) (hd : 5 ≤ d) : Calls Tryz.prog 13 #[.pointer (some ⟨g, 0, none⟩), .slice B 5 d] w fun e w' => ∃ a c, e = .returned (.tuple #[.slice (some a) 1 c, .int .i64 0]) ∧ w'.cell? ⟨a.block, a.off + 1, none⟩ = some (.string ⟨#[104, 105]⟩) ∧ StS w' base g [80, 79] false ∧ Below base w w' := by
  have hc := feed_calls base g [80, 73, 78, 71, 32, 50] false B d [10, 104, 105, 80, 79] w hS hC hd (by decide) hbase _ feed_two
  refine hc.mono ?_
  rintro e w' ⟨v, rfl, hR, hS1, hb, _⟩
  obtain ⟨A, c, rfl⟩ := Kd.R_slice hR
  obtain ⟨a, rfl, h0, h1⟩ := at_T23 (Kd.R_reads' hR).2.2 0 (by omega) (by decide)
  refine ⟨a, c, rfl, ?_, hS1, hb⟩
  have e1 : a.add ((0 : Int).toNat * 2) = a := by simp [Addr.add]
  rw [e1] at h1
  exact h1

end Go.Proofs.YtnineihfjbbmpaaGreatDoor.P
