/- A part of the proofs of the protocol laws. -/
import Derived.Test.YtnineihfjbbmpaaGreatDoorPK
import Derived.Lib.SlBytesConst
namespace Go.Proofs.YtnineihfjbbmpaaGreatDoor.P
open Go.RowKit Go.Proofs.YtnineihfjbbmpaaGreatDoorW.PrintWords Go.Proofs.YtnineihfjbbmpaaGreatDoorW.PrintLast Go.Proofs.YtnineihfjbbmpaaGreatDoorW.PrintMore
set_option exponentiation.threshold 8200
set_option linter.unusedVariables false
set_option linter.unusedSimpArgs false
set_option maxHeartbeats 8000000 in
set_option maxRecDepth 1000000 in
/-- The examples hold. -/
theorem awake_calls (w : World) (h : Env w) : Calls Tryz.prog 6 #[] w fun e w' => e = .returned (.bool true) ∧ Below w.heap.size w w' := by
  have HE := Aside0.mk h
  clear h
  have hu23 := Tryz.underlying23
  have hu47 := Tryz.underlying47
  have kc := fun (w : World) (C : Array Value) (n c : Nat) => Lib.run_convert_bytes_const (P := Tryz.prog) w 24 5 C n c Tryz.underlying24 Tryz.underlying5
  have HB := Aside0.mk (Below.refl w.heap.size w)
  go_enter Tryz.func6, Tryz.ntmps6
  go_wp2_with fail
  refine (encode_ping w HE.out).mono ?_
  rintro e w1 ⟨A, c, rfl, hC, hb⟩
  replace HB := Aside0.mk (below_step HB.out hb)
  have HC := Aside0.mk hC
  clear hb hC
  go_wp2_with fail
  refine (newStream_calls w.heap.size w1 (below_size HB.out)).mono ?_
  rintro e w2 ⟨g, rfl, hS, hb⟩
  replace HB := Aside0.mk (below_step HB.out hb)
  have hcv := Kd.C_string (P := Tryz.prog) (A := A) (c := c) Tryz.underlying24 Tryz.underlying5 Tryz.underlying9 (Kd.C_below HC.out hb)
  rw [show strOfNums [80, 73, 78, 71, 32, 50, 10, 104, 105] = ⟨#[80, 73, 78, 71, 32, 50, 10, 104, 105]⟩ from rfl] at hcv
  have HS := Aside0.mk hS
  clear hb hS HC
  go_wp2_with fail
  refine (feed_ping w.heap.size g _ (HS.out.below (below_alloc (Below.refl _ _) _)) (below_size (below_step HB.out (below_alloc (Below.refl _ _) _))) _ 6 (lit_C w2 [80, 73, 78, 71, 32, 50] (6, 7) (by decide)) (Nat.le_refl _)).mono ?_
  rintro e w3 ⟨A3, c3, rfl, hS, hb⟩
  replace HB := Aside0.mk ((below_step HB.out (below_alloc (Below.refl _ _) _)).trans hb)
  replace HS := Aside0.mk hS
  clear hb hS hcv
  go_wp2_with fail
  refine (feed_pong w.heap.size g _ (HS.out.below (below_alloc (Below.refl _ _) _)) (below_size (below_step HB.out (below_alloc (Below.refl _ _) _))) _ 5 (lit_C w3 [10, 104, 105, 80, 79] (5, 6) (by decide)) (Nat.le_refl _)).mono ?_
  rintro e w4 ⟨a4, c4, rfl, h4, hS, hb⟩
  replace HB := Aside0.mk ((below_step HB.out (below_alloc (Below.refl _ _) _)).trans hb)
  replace HS := Aside0.mk hS
  clear hb hS
  go_wp2_with fail
  refine (pending_calls w.heap.size g [80, 79] false w4 HS.out).mono ?_
  rintro e w5 ⟨rfl, rfl⟩
  go_wp2_with fail
  refine (answer_zero w4 (HE.out.below HB.out)).mono ?_
  rintro e w6 ⟨rfl, hb⟩
  replace HB := Aside0.mk (below_step HB.out hb)
  clear hb
  have hN : ansN = ⟨#[97, 110, 115, 119, 101, 114, 10]⟩ := rfl
  rw [hN]
  clear hN
  go_wp2_with fail
  go_ret
  exact ⟨rfl, HB.out⟩

end Go.Proofs.YtnineihfjbbmpaaGreatDoor.P
