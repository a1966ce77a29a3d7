/- A part of the proofs of the protocol laws. -/
import Derived.Test.YtnineihfjbbmpaaGreatDoorPE
namespace Go.Proofs.YtnineihfjbbmpaaGreatDoor.P
open Go.RowKit Go.Proofs.YtnineihfjbbmpaaGreatDoorW.PrintWords Go.Proofs.YtnineihfjbbmpaaGreatDoorW.PrintLast Go.Proofs.YtnineihfjbbmpaaGreatDoorW.PrintMore
set_option exponentiation.threshold 8200
set_option linter.unusedVariables false
set_option linter.unusedSimpArgs false
theorem new_builder {B b : Nat} {w : World} (h : w.heap[b]? = some (.cells #[.pointer none, .slice none 0 0] 64 (0, 0))) (hB : B ≤ b) : Lib.IsBuilder 64 5 B b [] w :=
  Or.inl ⟨hB, .slice none 0 0, h, own_nil _ _ _ _, by simp [Value.ownBlock]⟩
theorem add_nl : ansB ++ (⟨#[10]⟩ : ByteArray) = ansN := by kernel_rfl
theorem ansN_cells : ([] : List Value) ++ Lib.strCells ansN = Lib.byteCells ansN.data.toList := by kernel_rfl
set_option maxHeartbeats 8000000 in
set_option maxRecDepth 1000000 in
theorem escaped_one (g : Nat) (w : World) (hg : w.cell? ⟨g, 0, none⟩ = some (.string ansB)) (h : Env w) : Calls Tryz.prog 23 #[.slice (some ⟨g, 0, none⟩) 1 1] w fun e w' => e = .returned (.string ansN) ∧ Below w.heap.size w w' := by
  have hlt := World.block_lt_of_cell? _ _ hg
  have HE := Aside0.mk h
  have HG := Aside0.mk hg
  clear h hg
  have hu64 := Tryz.underlying64
  have hadd := add_nl
  have hsz : ansB.size = 6 := by kernel_rfl
  have hsz2 : ansB.data.toList.length = 6 := by kernel_rfl
  have h1 : (⟨#[10]⟩ : ByteArray).size = 1 := rfl
  have HC := Aside0.mk hsz
  have HC2 := Aside0.mk hsz2
  clear hsz hsz2 h1
  obtain ⟨S, hS⟩ : ∃ S, S = ansB := ⟨_, rfl⟩
  have hS_ := Aside0.mk hS
  rw [← hS] at HG hadd HC HC2
  clear hS
  go_enter Tryz.func23, Tryz.ntmps23
  go_wp2_with fail
  have hgc : (w.alloc (.cells #[.pointer none, .slice none 0 0] 64)).cell? ⟨g, 0, none⟩ = some (.string S) := by rw [World.cell?_alloc_lt _ _ _ hlt]; exact HG.out
  have HB0 := Aside0.mk (below_alloc (Below.refl w.heap.size w) (.cells #[.pointer none, .slice none 0 0] 64))
  have HK0 := Aside0.mk (heap_alloc_new w (.cells #[.pointer none, .slice none 0 0] 64))
  generalize w.alloc (.cells #[.pointer none, .slice none 0 0] 64) = wa at *
  have HE0 := Aside0.mk (HE.out.below HB0.out)
  refine wp_loop_rounds 2 ?_
  rw [rounds_succ]
  go_wp2_with fail
  rw [hS_.out]
  refine (replace_one wa HE0.out).mono ?_
  rintro e w1 ⟨rfl, hb⟩
  rw [← hS_.out]
  have HB1 := Aside0.mk (below_step HB0.out hb)
  have HE1 := Aside0.mk (HE0.out.below hb)
  have HK1 := Aside0.mk ((hb.block _ (blk_lt HK0.out)).trans HK0.out)
  clear hb HE0 HK0 HB0 hgc
  go_wp2_with fail
  rw [hS_.out]
  refine (replace_two w1 HE1.out).mono ?_
  rintro e w2 ⟨rfl, hb⟩
  rw [← hS_.out]
  have HB2 := Aside0.mk (below_step HB1.out hb)
  have HK2 := Aside0.mk ((hb.block _ (blk_lt HK1.out)).trans HK1.out)
  clear hb HE1 HK1 HB1
  have hs6 := HC.out
  go_wp2_with fail
  refine (builder_write w.heap.size w.heap.size [] ansN w2 (new_builder HK2.out (Nat.le_refl _)) (by decide) (below_size HB2.out)).mono ?_
  rintro e w3 ⟨rfl, hbw, hb⟩
  rw [ansN_cells] at hbw
  have HBW := Aside0.mk hbw
  have HB3 := Aside0.mk (HB2.out.trans hb)
  clear hbw hb HB2 HK2
  go_wp2_with fail
  rw [rounds_succ]
  go_wp2_with fail
  refine (Tryz.Builder_String_any w.heap.size w.heap.size ansN.data.toList w3 (Or.inr HBW.out) (below_size HB3.out)).mono ?_
  rintro e w4 ⟨rfl, hb⟩
  have HB4 := Aside0.mk (HB3.out.trans hb)
  clear hb
  go_wp2_with fail
  go_ret
  exact ⟨rfl, HB4.out⟩
set_option maxHeartbeats 4000000 in
set_option maxRecDepth 1000000 in
/-- Answer, at the answer without columns and rows. -/
theorem answer_zero (w : World) (h : Env w) : Calls Tryz.prog 17 #[.agg #[.slice none 0 0, .slice none 0 0, .bool false]] w fun e w' => e = .returned (.string ansN) ∧ Below w.heap.size w w' := by
  have hu := Tryz.underlying47
  have HE := Aside0.mk h
  clear h
  go_enter Tryz.func17, Tryz.ntmps17
  go_wp2_with fail
  refine (format_zero _).mono ?_
  rintro e w1 ⟨g, rfl, hc, hb⟩
  have HB1 := Aside0.mk (below_step (below_alloc (Below.refl _ _) _) hb)
  have HC1 := Aside0.mk hc
  clear hc hb
  go_wp2_with fail
  refine (escaped_one g w1 HC1.out (HE.out.below HB1.out)).mono ?_
  rintro e w2 ⟨rfl, hb⟩
  have HB2 := Aside0.mk (below_step HB1.out hb)
  clear hb
  go_wp2_with fail
  go_ret
  exact ⟨rfl, HB2.out⟩

end Go.Proofs.YtnineihfjbbmpaaGreatDoor.P
