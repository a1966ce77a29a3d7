/- The statement Rows.DiskClonesSaid: for every input DiskClones returns true, and each argument reads afterwards as before. No condition. -/
import Derived.Test.YtbbokpkpdnppjaaRows
import Derived.Test.YtbbokpkpdnppjaaC17
import Derived.Test.YtbbokpkpdnppjaaO2
import Derived.WalkKit
import Derived.ProofKit
import Derived.OpenShut
import Derived.ShutString
import Derived.ChangeOld
import Derived.Below
import Derived.SizedLaws
import Derived.Test.YtbbokpkpdnppjaaWSized
namespace Go.Proofs.Ytbbokpkpdnppjaa.diskClones
open Go.ChangeShapes Go.WideShapes Go.ChangeAt Go.RowKit
open Go.ChangeMaps (open_string shut_string)
set_option linter.unusedVariables false
theorem own : ownKnob Try.prog.godebug = none := by kernel_rfl
theorem laidOut : laidOutB Try.prog = true := by kernel_rfl
set_option maxRecDepth 100000 in
theorem lifted (os : Os) (started : os.Started) (H : Type) (enc : TypeId × Value → H) :
    ReturnsInHanded {} Try.checked os 9 .any (Rows.diskClonesSpec.pre6 enc Try.prog Try.f9 Rows.diskClonesRow.domain false) (Rows.diskClonesSpec.post enc Try.prog Try.f9 false true false false) := by
  refine returnsInHanded_of_change_sized (C := Try.checked) own started (by kernel_rfl) Try.func9
    (ChangeSpec.witness6 (enc := enc) (C := Try.checked) false ⟨#[], #[.int .i64 0, .slice none 0 0, .agg #[.int .i64 0, .int .i64 0, .int .i64 0, .slice none 0 0, .slice none 0 0]], []⟩ 8 (by kernel_rfl) (by kernel_rfl) (by kernel_rfl) (by kernel_rfl)) ?_
  intro W base args ds gs before hval0 hW hcnd hsz0 _
  have hsz : (DataW.weightsEach Try.prog (Try.f9.params.toList ++ Rows.diskClonesSpec.plain.varTypes Try.prog) (ds ++ gs)).all (· ≤ reachBytes) = true := hsz0
  have hval : ∀ (j : Nat) t v, Try.f9.params[j]? = some t → args[j]? = some v → Value.okWide Try.prog W .any base t v := hval0
  have hW' := hW
  obtain ⟨p, q, hA0, hV, rfl, hfz, hnd⟩ := hW
  have hA : DataW.TrodAll enc Try.prog W 0 (fun _ => true) true Try.f9.params.toList args.toList ds p := hA0
  rw [Try.params9] at hA hval hsz
  obtain ⟨v0, vs0, d0, ds0, p0, q0, hargs, rfl, rfl, h0, r0⟩ := trodAll_cons hA
  obtain ⟨v1, vs1, d1, ds1, p1, q1, rfl, rfl, rfl, h1, r1⟩ := trodAll_cons r0
  obtain ⟨v2, vs2, d2, ds2, p2, q2, rfl, rfl, rfl, h2, r2⟩ := trodAll_cons r1
  obtain ⟨rfl, rfl, rfl⟩ := trodAll_nil r2
  obtain rfl : args = #[v0, v1, v2] := by cases args; simp_all
  obtain ⟨rfl, rfl⟩ := trodVars_none hV
  obtain ⟨a0, rfl, rfl, rfl, w0⟩ := open_int Try.underlying3 (hval 0 3 v0 rfl rfl) h0
  have k1 := h1
  have lt1 : ∀ x ∈ p1, x.block < W.heap.size := by obtain ⟨m, hm⟩ := k1; exact DataW.trod_lt m _ _ _ hm
  obtain ⟨a1, cap1, l1, rfl, hc1, C1, wf1⟩ := open_ops h1 (okWide_slice Try.underlying33 (hval 1 33 v1 rfl rfl))
  have y1 : l1.length * 72 ≤ 140737488351232 := sized_rows hsz (j := 1) (t := 33) rfl rfl Try.underlying33 (by kernel_rfl) k1
  have k2 := h2
  have lt2 : ∀ x ∈ p2, x.block < W.heap.size := by obtain ⟨m, hm⟩ := k2; exact DataW.trod_lt m _ _ _ hm
  obtain ⟨x2, A3_2, c3_2, A4_2, c4_2, rfl, l3_2, g3_2, l4_2, g4_2, wf2⟩ := open_op h2 (okWide_struct Try.underlying44 (hval 2 44 v2 rfl rfl))
  clear hA0 hval0 hsz0 hsz
  have hwf : ∀ x ∈ l1, x.f2 ≤ 9223372036854775807 := fun x hx => by
    have h := (wf1 x hx).2.2.1
    have h2 : IntKind.i64.min ≤ x.f2 ∧ x.f2 ≤ IntKind.i64.max := by simpa [Lit.wf] using h
    exact h2.2
  have hxf : x2.f2 ≤ 9223372036854775807 := by
    have h := wf2.2.2.1
    have h2 : IntKind.i64.min ≤ x2.f2 ∧ x2.f2 ≤ IntKind.i64.max := by simpa [Lit.wf] using h
    exact h2.2
  refine (DiskClones_calls a0 a1 cap1 l1 x2 A3_2 c3_2 A4_2 c4_2 W C1 hc1 hwf (by omega) hxf l3_2 g3_2 l4_2 g4_2).mono fun e W' ⟨he, bel⟩ => ?_
  subst he
  exact ⟨_, rfl, _, _, _, [], _, [], hW', trodAll_mk1 (shut_bool Try.underlying4 _), (trodAll_cons_mk (shut_int Try.underlying3 w0) (trodAll_cons_mk (Below.trod laidOut (by kernel_rfl) (of_decide_eq_true (by kernel_rfl)) k1 bel lt1) (trodAll_cons_mk (Below.trod laidOut (by kernel_rfl) (of_decide_eq_true (by kernel_rfl)) k2 bel lt2) trodAll_mk0))), rfl, bel.frame _, fun h => by cases h⟩
theorem over : Rows.diskClonesRow.holds Try.pinned (OpenSpec.ofChange Rows.diskClonesSpec) :=
  OpenClaim.holds_of_wide 9 Try.f9 rfl rfl rfl rfl rfl rfl rfl ⟨rfl, rfl, rfl, rfl, rfl⟩ rfl rfl rfl rfl rfl (by kernel_rfl) Try.func9 (by kernel_rfl)
    (of_decide_eq_true (by kernel_rfl)) (by unfold Func.isWrapper; first | (rw [if_pos (by decide +kernel)]; kernel_rfl) | (rw [if_neg (by decide +kernel)]; exact ⟨rfl, rfl⟩))
    (fun os started H enc _ => lifted os started H enc)
theorem proved : Rows.DiskClonesSaid := over
#print axioms proved
end Go.Proofs.Ytbbokpkpdnppjaa.diskClones
namespace Go.Proofs.Ytbbokpkpdnppjaa
/-- The row, under a short name, for the claim. -/
theorem diskClones_holds : Rows.DiskClonesSaid := diskClones.proved
end Go.Proofs.Ytbbokpkpdnppjaa
