/- A part of the proofs of the protocol laws. -/
import Derived.Test.YtnineihfjbbmpaaGreatDoorPL
import Derived.Test.YtnineihfjbbmpaaGreatDoorPx1
namespace Go.Proofs.YtnineihfjbbmpaaGreatDoor.P
open Go.RowKit Go.Proofs.YtnineihfjbbmpaaGreatDoorW.PrintWords Go.Proofs.YtnineihfjbbmpaaGreatDoorW.PrintLast Go.Proofs.YtnineihfjbbmpaaGreatDoorW.PrintMore
set_option exponentiation.threshold 8200
set_option linter.unusedVariables false
set_option linter.unusedSimpArgs false
theorem decE_calls (A : Option Addr) (c : Nat) (l kd bd : List Int) (n ec : Nat) (hD : decL l = (kd, bd, n, ec)) (w : World) (hr : Kd.C (Kd.int .u8) w A l.length l) (hc : l.length ≤ c) (hl : l.length < 4611686018427387904) :
    Calls Tryz.prog 10 #[.slice A l.length c] w fun e w' => e = .returned (.tuple #[.agg #[.string (strOfNums kd), .string (strOfNums bd)], .int .i64 (n : Int), .int .i64 (ec : Int)]) ∧ Below w.heap.size w w' := decD_calls A c l kd bd n ec _ hD rfl w hr hc hl
theorem refdecE_calls (A : Option Addr) (c : Nat) (l kd bd : List Int) (n ec : Nat) (hD : decL l = (kd, bd, n, ec)) (w : World) (hr : Kd.C (Kd.int .u8) w A l.length l) (hc : l.length ≤ c) (hl : l.length < 4611686018427387904) :
    Calls Tryz.prog 11 #[.slice A l.length c] w fun e w' => e = .returned (.tuple #[.agg #[.string (strOfNums kd), .string (strOfNums bd)], .int .i64 (n : Int), .int .i64 (ec : Int)]) ∧ Below w.heap.size w w' := by
  have h := refdec_calls A c l w hr hc hl
  rw [hD] at h
  exact h
/-! ### The law of Decode -/
set_option maxHeartbeats 8000000 in
set_option maxRecDepth 1000000 in
attribute [local go_sem high] eqA23 in
theorem decodeLaw (A : Option Addr) (c : Nat) (l : List Int) (w : World) (hC : Kd.C (Kd.int .u8) w A l.length l) (hc : l.length ≤ c) (h : Env w) :
    Calls Tryz.prog 4 #[.slice A l.length c] w fun e w' => e = .returned (.bool true) ∧ Below w.heap.size w w' := by
  have HE := Aside0.mk h
  have HC := Aside0.mk hC
  have HH := Aside0.mk hc
  have HB := Aside0.mk (Below.refl w.heap.size w)
  have hu23 := Tryz.underlying23
  clear h hC hc
  by_cases h400 : (400 : Int) < (l.length : Int)
  · go_enter Tryz.func4, Tryz.ntmps4
    go_wp2_with fail
    refine (awake_calls w HE.out).mono ?_
    rintro e w1 ⟨rfl, hb⟩
    replace HB := Aside0.mk (below_step HB.out hb)
    clear hb
    go_wp2_with fail
    refine (awake_calls w1 (HE.out.below HB.out)).mono ?_
    rintro e w2 ⟨rfl, hb⟩
    replace HB := Aside0.mk (below_step HB.out hb)
    clear hb
    go_wp2_with fail
    go_ret
    exact ⟨rfl, HB.out⟩
  have HL := Aside0.mk (show l.length < 4611686018427387904 by omega)
  obtain ⟨⟨kd, bd, n, ec⟩, hD⟩ : ∃ t, decL l = t := ⟨_, rfl⟩
  have HD := Aside0.mk hD
  clear hD
  go_enter Tryz.func4, Tryz.ntmps4
  go_wp2_with fail
  refine (awake_calls w HE.out).mono ?_
  rintro e w1 ⟨rfl, hb⟩
  replace HB := Aside0.mk (below_step HB.out hb)
  replace HC := Aside0.mk (Kd.C_below HC.out hb)
  clear hb
  go_wp2_with fail
  refine (decE_calls A c l kd bd n ec HD.out w1 HC.out HH.out HL.out).mono ?_
  rintro e w2 ⟨rfl, hb⟩
  replace HB := Aside0.mk (below_step HB.out hb)
  replace HC := Aside0.mk (Kd.C_below HC.out hb)
  clear hb
  go_upto_region 4 with ((with_reducible refine gate_dst (N := 3) rfl ?_); refine box_event ?hg (N := 3) ?hd (cs := #[.string (⟨#[]⟩ : ByteArray), .string (⟨#[]⟩ : ByteArray)]) (t := 23) ?hr ?_; (case hd => rfl); (case hg => rfl); (case hr => first | (go_simp; done) | (go_simp; rfl)); intro gb1 hg wb1 hbox hb; have HBb := Aside0.mk hb; have GE := Aside0.mk (Nat.le_of_eq hg.symm); have HBK := Aside0.mk hbox; have u0 : wb1.cell? ⟨gb1, 0, none⟩ = some (.string (⟨#[]⟩ : ByteArray)) := (blk_cell hbox 0).trans rfl; have u1 : wb1.cell? ⟨gb1, 1, none⟩ = some (.string (⟨#[]⟩ : ByteArray)) := (blk_cell hbox 1).trans rfl; have g0 := blk_frozen hbox 0; have g1 := blk_frozen hbox 1; clear hbox hb hg)
  have HB5 := Aside0.mk (boxed HBb.out GE.out (.string (strOfNums kd)) (.string (strOfNums bd)))
  have HBK1 := Aside0.mk (boxed_blk HBK.out (strOfNums kd) (strOfNums bd))
  generalize (wb1.setCell ⟨gb1, 0, none⟩ (.string (strOfNums kd))).setCell ⟨gb1, 1, none⟩ (.string (strOfNums bd)) = w3 at *
  clear u0 u1 g0 g1 HBK HBb GE
  replace HB := Aside0.mk (below_step HB.out HB5.out)
  replace HC := Aside0.mk (Kd.C_below HC.out HB5.out)
  clear HB5
  go_wp2_with fail
  refine (refdecE_calls A c l kd bd n ec HD.out w3 HC.out HH.out HL.out).mono ?_
  rintro e w4 ⟨rfl, hb⟩
  replace HB := Aside0.mk (below_step HB.out hb)
  replace HBK1 := Aside0.mk ((hb.block gb1 (blk_lt HBK1.out)).trans HBK1.out)
  clear hb
  go_upto_region 5 with ((with_reducible refine gate_dst (N := 6) rfl ?_); refine box_event ?hg (N := 6) ?hd (cs := #[.string (⟨#[]⟩ : ByteArray), .string (⟨#[]⟩ : ByteArray)]) (t := 23) ?hr ?_; (case hd => rfl); (case hg => rfl); (case hr => first | (go_simp; done) | (go_simp; rfl)); intro gb2 hg wb2 hbox hb; have HBb := Aside0.mk hb; have GE := Aside0.mk (Nat.le_of_eq hg.symm); have HBK := Aside0.mk hbox; have u0 : wb2.cell? ⟨gb2, 0, none⟩ = some (.string (⟨#[]⟩ : ByteArray)) := (blk_cell hbox 0).trans rfl; have u1 : wb2.cell? ⟨gb2, 1, none⟩ = some (.string (⟨#[]⟩ : ByteArray)) := (blk_cell hbox 1).trans rfl; have g0 := blk_frozen hbox 0; have g1 := blk_frozen hbox 1; clear hbox hb hg)
  have HB5 := Aside0.mk (boxed HBb.out GE.out (.string (strOfNums kd)) (.string (strOfNums bd)))
  have HBK2 := Aside0.mk (boxed_blk HBK.out (strOfNums kd) (strOfNums bd))
  generalize (wb2.setCell ⟨gb2, 0, none⟩ (.string (strOfNums kd))).setCell ⟨gb2, 1, none⟩ (.string (strOfNums bd)) = w5 at *
  clear u0 u1 g0 g1 HBK HBb GE
  replace HB := Aside0.mk (below_step HB.out HB5.out)
  replace HBK1 := Aside0.mk ((HB5.out.block gb1 (blk_lt HBK1.out)).trans HBK1.out)
  clear HB5
  have v0 : w5.cell? ⟨gb1, 0, none⟩ = some (.string (strOfNums kd)) := (blk_cell HBK1.out 0).trans rfl
  have v1 : w5.cell? ⟨gb1, 1, none⟩ = some (.string (strOfNums bd)) := (blk_cell HBK1.out 1).trans rfl
  have v2 : w5.cell? ⟨gb2, 0, none⟩ = some (.string (strOfNums kd)) := (blk_cell HBK2.out 0).trans rfl
  have v3 : w5.cell? ⟨gb2, 1, none⟩ = some (.string (strOfNums bd)) := (blk_cell HBK2.out 1).trans rfl
  go_wp2_with fail
  go_ret
  exact ⟨rfl, HB.out⟩

end Go.Proofs.YtnineihfjbbmpaaGreatDoor.P
