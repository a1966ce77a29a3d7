/- The card Rows.RationalProbabilitiesCardSaid: for every input RationalProbabilities returns true, and each argument reads afterwards as before. The listed package variables read as the program's text lays them (the given tie); no other condition. -/
import Derived.Test.YtoakfjcejamoeaaDoorRows
import Derived.Test.YtoakfjcejamoeaaDoorCards
import Derived.Test.YtoakfjcejamoeaaDoorTie
import Derived.Test.YtoakfjcejamoeaaDoorYRProb
import Derived.WalkKit
import Derived.ProofKit
import Derived.OpenShut
import Derived.ShutString
import Derived.ChangeOld
import Derived.Below
import Derived.SizedLaws
import Derived.Deep.DeepHandedRow
import Derived.Lib.LaidTab
import Derived.KernelRfl
import Derived.Test.YtoakfjcejamoeaaDoorWSized
namespace Go.Proofs.YtoakfjcejamoeaaDoor.rationalProbabilities
open Go.ChangeShapes Go.WideShapes Go.ChangeAt Go.RowKit
open Go.ChangeMaps (open_string shut_string)
set_option linter.unusedVariables false
theorem own : ownKnob Tryd.prog.godebug = none := by kernel_rfl
theorem laidOut : laidOutB Tryd.prog = true := by kernel_rfl
def IsRow (k : IntKind) (w : World) (a : Option Addr) (len cap : Nat) (zs : List Int) : Prop :=
  (a = none ∧ len = 0 ∧ cap = 0 ∧ zs = []) ∨
  ∃ x, a = some x ∧ len ≤ cap ∧ cap ≤ maxLen ∧ zs.length = cap ∧ (∀ i, i < zs.length → w.cell? (x.add i) = some (.int k (zs.getD i 0))) ∧ ∀ n ∈ zs, (Lit.int k n).wf = true
theorem gTab : Tryd.prog.globalNamed "internal/strconv.uint64pow10" = some 2 := by kernel_rfl
theorem gTabType : (Tryd.prog.globals[2]?).map (·.type) = some 149 := by kernel_rfl
theorem cells149 : Tryd.prog.cellsOf 149 = 20 := by kernel_rfl
theorem cells34 : Tryd.prog.cellsOf 34 = 1 := by kernel_rfl
theorem datum : (Rows.laid_internal_strconv_uint64pow10 : DataW Unit) = Lib.tabData .u64 Lib.pow10Tab := by rfl
/-- What the row's list gives: the table's cells hold its numbers. -/
theorem table {W : World} (h : laidMetH Tryd.prog Rows.rationalProbabilitiesRow.laid W) : B.Tab W := by
  obtain ⟨ps, ⟨_, _, _, _, p1, q1, _, _, _, _, ⟨_, _, _, _, p2, q2, _, _, _, _, ⟨g', t', cs, fuel, p, q, hg', ht', hvar, hd, _⟩, _⟩, _⟩, _⟩ := (h : laidMet Tryd.prog Rows.rationalProbabilitiesRow.laid W)
  obtain rfl := Option.some.inj (gTab.symm.trans hg')
  obtain rfl := Option.some.inj (gTabType.symm.trans ht')
  unfold B.Tab Lib.TabIs
  rw [hvar, ← Lib.cells_of_tab Tryd.underlying149 Tryd.underlying34 cells34 cells149 (by rw [← datum]; exact hd)]
theorem open_rat {H : Type} {enc : TypeId × Value → H} {W : World} {base : Nat} {spare : Nat → Bool} {held : Bool} {v : Value} {d : DataW H} {ps : List MemPlace} (h : DataW.Trod enc Tryd.prog W base spare held 48 v d ps) (hsp : ∀ b, spare b = true) :
    ∃ a0 len0 cap0 z0 a1 len1 cap1 z1, v = .agg #[.slice a0 len0 cap0, .slice a1 len1 cap1] ∧ IsRow .u32 W a0 len0 cap0 z0 ∧ IsRow .u32 W a1 len1 cap1 z1 := by
  obtain ⟨fuel, hf⟩ := h
  obtain ⟨y0, y1, n, -, hl, h0, h1⟩ := trod_struct2 Tryd.underlying48 hf
  have key : ∀ {cs : List Value} {x : DataW H × List MemPlace}, DataW.trod enc Tryd.prog W base spare held n 23 cs = some x → ∃ a len cap zs, cs = [.slice a len cap] ∧ IsRow .u32 W a len cap zs := by
    intro cs x hx
    rcases open_ints Tryd.underlying23 Tryd.underlying63 (by kernel_rfl) hx with ⟨hcs, _⟩ | ⟨x, l, c, zs, hcs, _, hl, hm, hz, _, hcell, hwz⟩
    · exact ⟨none, 0, 0, [], hcs, .inl ⟨rfl, rfl, rfl, rfl⟩⟩
    · exact ⟨_, l, c, zs, hcs, .inr ⟨_, rfl, hl, hm, by rw [hz, if_pos (hsp _)], hcell, hwz⟩⟩
  obtain ⟨a0, len0, cap0, z0, e0, r0⟩ := key h0
  obtain ⟨a1, len1, cap1, z1, e1, r1⟩ := key h1
  refine ⟨a0, len0, cap0, z0, a1, len1, cap1, z1, ?_, r0, r1⟩
  have c48 : Tryd.prog.cellsOf 48 = 2 := by kernel_rfl
  have c23 : Tryd.prog.cellsOf 23 = 1 := by kernel_rfl
  rw [c48] at hl
  rw [c23] at e0 e1
  cases v with
  | agg cs =>
    simp only [Value.cells] at hl e0 e1
    obtain ⟨l⟩ := cs
    rcases l with _ | ⟨x, _ | ⟨y, _ | ⟨z, t⟩⟩⟩
    · exact absurd hl (by simp)
    · exact absurd hl (by simp)
    · simp at e0 e1
      rw [e0, e1]
    · exact absurd hl (by simp)
  | _ => exact absurd hl (by simp [Value.cells])
set_option maxRecDepth 100000 in
theorem contract (H : Type) (enc : TypeId × Value → H) (W : World) (base : Nat) (args : Array Value) (ds gs : List (DataW H)) (before : List MemPlace)
    (hval0 : ∀ (j : Nat) t v, Tryd.f15.params[j]? = some t → args[j]? = some v → Value.okWide Tryd.prog W .any base t v)
    (hW : DataW.Whole enc Tryd.prog Tryd.f15.params.toList Rows.rationalProbabilitiesSpec.vars false W args.toList ds gs before)
    (hsz0 : (DataW.weightsEach Tryd.prog (Tryd.f15.params.toList ++ Rows.rationalProbabilitiesSpec.plain.varTypes Tryd.prog) (ds ++ gs)).all (· ≤ reachBytes) = true) (hL : laidMetH Tryd.prog Rows.rationalProbabilitiesRow.laid W) :
    Calls Tryd.prog 15 args W fun e W' => ∃ v, e = .returned v ∧ Rows.rationalProbabilitiesSpec.post enc Tryd.prog Tryd.f15 false true false false W args v W' := by
  have HT := table hL
  have hsz : (DataW.weightsEach Tryd.prog (Tryd.f15.params.toList ++ Rows.rationalProbabilitiesSpec.plain.varTypes Tryd.prog) (ds ++ gs)).all (· ≤ reachBytes) = true := hsz0
  have hval : ∀ (j : Nat) t v, Tryd.f15.params[j]? = some t → args[j]? = some v → Value.okWide Tryd.prog W .any base t v := hval0
  have hW' := hW
  obtain ⟨p, q, hA0, hV, rfl, hfz, hnd⟩ := hW
  have hA : DataW.TrodAll enc Tryd.prog W 0 (fun _ => true) true Tryd.f15.params.toList args.toList ds p := hA0
  rw [Tryd.params15] at hA hval hsz
  obtain ⟨v0, vs0, d0, ds0, p0, q0, hargs, rfl, rfl, h0, r0⟩ := trodAll_cons hA
  obtain ⟨v1, vs1, d1, ds1, p1, q1, rfl, rfl, rfl, h1, r1⟩ := trodAll_cons r0
  obtain ⟨rfl, rfl, rfl⟩ := trodAll_nil r1
  obtain rfl : args = #[v0, v1] := by cases args; simp_all
  obtain ⟨rfl, rfl⟩ := trodVars_none hV
  have k0 := h0
  have lt0 : ∀ x ∈ p0, x.block < W.heap.size := by obtain ⟨m, hm⟩ := k0; exact DataW.trod_lt m _ _ _ hm
  obtain ⟨a0, len0, cap0, z0, a1, len1, cap1, z1, rfl, w0, w1⟩ := open_rat h0 (fun _ => rfl)
  obtain ⟨l0, rfl, hr0, hm0, hw0, hc0⟩ := Go.Proofs.YtoakfjcejamoeaaDoorW.PrintWords.ReadsInt.ofRowC w0
  have C0 : Go.Proofs.YtoakfjcejamoeaaDoorW.PrintWords.Kd.C (Go.Proofs.YtoakfjcejamoeaaDoorW.PrintWords.Kd.int .u32) W a0 l0.length l0 := Go.Proofs.YtoakfjcejamoeaaDoorW.PrintWords.Kd.C_of_reads (d := (0 : Int)) (h1 := fun _ => rfl) hr0
  obtain ⟨l1, rfl, hr1, hm1, hw1, hc1⟩ := Go.Proofs.YtoakfjcejamoeaaDoorW.PrintWords.ReadsInt.ofRowC w1
  have C1 : Go.Proofs.YtoakfjcejamoeaaDoorW.PrintWords.Kd.C (Go.Proofs.YtoakfjcejamoeaaDoorW.PrintWords.Kd.int .u32) W a1 l1.length l1 := Go.Proofs.YtoakfjcejamoeaaDoorW.PrintWords.Kd.C_of_reads (d := (0 : Int)) (h1 := fun _ => rfl) hr1
  have k1 := h1
  have lt1 : ∀ x ∈ p1, x.block < W.heap.size := by obtain ⟨m, hm⟩ := k1; exact DataW.trod_lt m _ _ _ hm
  obtain ⟨a2, len2, cap2, z2, a3, len3, cap3, z3, rfl, w2, w3⟩ := open_rat h1 (fun _ => rfl)
  obtain ⟨l2, rfl, hr2, hm2, hw2, hc2⟩ := Go.Proofs.YtoakfjcejamoeaaDoorW.PrintWords.ReadsInt.ofRowC w2
  have C2 : Go.Proofs.YtoakfjcejamoeaaDoorW.PrintWords.Kd.C (Go.Proofs.YtoakfjcejamoeaaDoorW.PrintWords.Kd.int .u32) W a2 l2.length l2 := Go.Proofs.YtoakfjcejamoeaaDoorW.PrintWords.Kd.C_of_reads (d := (0 : Int)) (h1 := fun _ => rfl) hr2
  obtain ⟨l3, rfl, hr3, hm3, hw3, hc3⟩ := Go.Proofs.YtoakfjcejamoeaaDoorW.PrintWords.ReadsInt.ofRowC w3
  have C3 : Go.Proofs.YtoakfjcejamoeaaDoorW.PrintWords.Kd.C (Go.Proofs.YtoakfjcejamoeaaDoorW.PrintWords.Kd.int .u32) W a3 l3.length l3 := Go.Proofs.YtoakfjcejamoeaaDoorW.PrintWords.Kd.C_of_reads (d := (0 : Int)) (h1 := fun _ => rfl) hr3
  clear hA0 hval0 hsz0 hsz
  have L0 : Bn.Limbs l0 := fun x hx => by
    have h := hw0 x hx
    have h2 : IntKind.u32.min ≤ x ∧ x ≤ IntKind.u32.max := by simpa [Lit.wf] using h
    have e1 : IntKind.u32.min = 0 := rfl
    have e2 : IntKind.u32.max = 4294967295 := rfl
    omega
  have L1 : Bn.Limbs l1 := fun x hx => by
    have h := hw1 x hx
    have h2 : IntKind.u32.min ≤ x ∧ x ≤ IntKind.u32.max := by simpa [Lit.wf] using h
    have e1 : IntKind.u32.min = 0 := rfl
    have e2 : IntKind.u32.max = 4294967295 := rfl
    omega
  have L2 : Bn.Limbs l2 := fun x hx => by
    have h := hw2 x hx
    have h2 : IntKind.u32.min ≤ x ∧ x ≤ IntKind.u32.max := by simpa [Lit.wf] using h
    have e1 : IntKind.u32.min = 0 := rfl
    have e2 : IntKind.u32.max = 4294967295 := rfl
    omega
  have L3 : Bn.Limbs l3 := fun x hx => by
    have h := hw3 x hx
    have h2 : IntKind.u32.min ≤ x ∧ x ≤ IntKind.u32.max := by simpa [Lit.wf] using h
    have e1 : IntKind.u32.min = 0 := rfl
    have e2 : IntKind.u32.max = 4294967295 := rfl
    omega
  refine (B.probLaw a0 cap0 l0 a1 cap1 l1 a2 cap2 l2 a3 cap3 l3 W C0 hc0 C1 hc1 C2 hc2 C3 hc3 HT L0 L1 L2 L3).mono fun e W' ⟨he, bel⟩ => ?_
  subst he
  exact ⟨_, rfl, _, _, _, [], _, [], hW', trodAll_mk1 (shut_bool Tryd.underlying4 _), (trodAll_cons_mk (Below.trod laidOut (by kernel_rfl) (of_decide_eq_true (by kernel_rfl)) k0 bel lt0) (trodAll_cons_mk (Below.trod laidOut (by kernel_rfl) (of_decide_eq_true (by kernel_rfl)) k1 bel lt1) trodAll_mk0)), rfl, bel.frame _, fun h => by cases h⟩
/-- A world for the witness: the settled one, the tables holding what their initialisers lay. -/
noncomputable def put (b : Nat) (cs : Array Value) (w : World) : World :=
  { w with heap := w.heap.modify b fun
      | .cells _ t frozen => .cells cs t frozen
      | o => o }
noncomputable def laidWorld (os : Os) : World :=
  put 2 #[.int .u64 1, .int .u64 10, .int .u64 100, .int .u64 1000, .int .u64 10000, .int .u64 100000, .int .u64 1000000, .int .u64 10000000, .int .u64 100000000, .int .u64 1000000000, .int .u64 10000000000, .int .u64 100000000000, .int .u64 1000000000000, .int .u64 10000000000000, .int .u64 100000000000000, .int .u64 1000000000000000, .int .u64 10000000000000000, .int .u64 100000000000000000, .int .u64 1000000000000000000, .int .u64 10000000000000000000] (put 4 #[.int .u8 0, .int .u8 1, .int .u8 28, .int .u8 2, .int .u8 29, .int .u8 14, .int .u8 24, .int .u8 3, .int .u8 30, .int .u8 22, .int .u8 20, .int .u8 15, .int .u8 25, .int .u8 17, .int .u8 4, .int .u8 8, .int .u8 31, .int .u8 27, .int .u8 13, .int .u8 23, .int .u8 21, .int .u8 19, .int .u8 16, .int .u8 7, .int .u8 26, .int .u8 12, .int .u8 18, .int .u8 6, .int .u8 11, .int .u8 5, .int .u8 10, .int .u8 9] (put 5 #[.int .u8 0, .int .u8 1, .int .u8 56, .int .u8 2, .int .u8 57, .int .u8 49, .int .u8 28, .int .u8 3, .int .u8 61, .int .u8 58, .int .u8 42, .int .u8 50, .int .u8 38, .int .u8 29, .int .u8 17, .int .u8 4, .int .u8 62, .int .u8 47, .int .u8 59, .int .u8 36, .int .u8 45, .int .u8 43, .int .u8 51, .int .u8 22, .int .u8 53, .int .u8 39, .int .u8 33, .int .u8 30, .int .u8 24, .int .u8 18, .int .u8 12, .int .u8 5, .int .u8 63, .int .u8 55, .int .u8 48, .int .u8 27, .int .u8 60, .int .u8 41, .int .u8 37, .int .u8 16, .int .u8 46, .int .u8 35, .int .u8 44, .int .u8 21, .int .u8 52, .int .u8 32, .int .u8 23, .int .u8 11, .int .u8 54, .int .u8 26, .int .u8 40, .int .u8 15, .int .u8 34, .int .u8 20, .int .u8 31, .int .u8 10, .int .u8 25, .int .u8 14, .int .u8 19, .int .u8 9, .int .u8 13, .int .u8 8, .int .u8 7, .int .u8 6] (World.holding Tryd.prog os ⟨#[], #[], []⟩)))
theorem laid_met (os : Os) : laidMet Tryd.prog Rows.rationalProbabilitiesRow.laid ((laidWorld os).forCall (fun _ _ => 0) ⟨#[], #[.agg #[.slice none 0 0, .slice none 0 0], .agg #[.slice none 0 0, .slice none 0 0]], []⟩).memory :=
  laidMet_of_run' 8 (by kernel_rfl) (by kernel_rfl)
theorem reads (os : Os) {H : Type} (enc : TypeId × Value → H) : ∃ places, DataW.whole enc Tryd.prog ((laidWorld os).forCall (fun _ _ => 0) ⟨#[], #[.agg #[.slice none 0 0, .slice none 0 0], .agg #[.slice none 0 0, .slice none 0 0]], []⟩).memory Tryd.f15.params.toList Rows.rationalProbabilitiesSpec.vars false (#[.agg #[.slice none 0 0, .slice none 0 0], .agg #[.slice none 0 0, .slice none 0 0]] : Array Value).toList 8 = some ([.agg [.nil, .nil], .agg [.nil, .nil]], [], places) :=
  ⟨[], by kernel_rfl⟩
set_option maxRecDepth 100000 in
theorem lifted (os : Os) (started : os.Started) (H : Type) (enc : TypeId × Value → H) (F : Stop.Interp) :
    ReturnsInHanded {} Tryd.checked os 15 .any ((OpenSpec.ofChange Rows.rationalProbabilitiesSpec).preRow enc Tryd.prog Tryd.f15 Rows.rationalProbabilitiesRow.domain false Rows.rationalProbabilitiesRow.laid) (((OpenSpec.ofChange Rows.rationalProbabilitiesSpec).at F).post enc Tryd.prog Tryd.f15 false true false false) := by
  obtain ⟨places, hx⟩ := reads os enc
  refine returnsInHanded_of_row (C := Tryd.checked) (s := OpenSpec.ofChange Rows.rationalProbabilitiesSpec) own started (by kernel_rfl) Tryd.func15
    (witness_row_at (enc := enc) (C := Tryd.checked) false (laidWorld os) #[.agg #[.slice none 0 0, .slice none 0 0], .agg #[.slice none 0 0, .slice none 0 0]] rfl (by kernel_rfl) (by kernel_rfl) (by kernel_rfl)
      (OpenSpec.preRow_of_cond 8 hx (by kernel_rfl) (fun k hk => by cases hk) (by kernel_rfl) (laid_met os))) ?_
  intro W base args ds gs before hval hW _ _ hsz hL _ _
  exact contract H enc W base args ds gs before hval hW hsz hL
theorem said : Rows.RationalProbabilitiesSaid :=
  OpenClaim.holds_of_cond 15 Tryd.f15 rfl rfl rfl rfl rfl rfl rfl ⟨rfl, rfl, rfl, rfl, rfl⟩ rfl rfl rfl rfl rfl (by kernel_rfl) Tryd.func15 (by kernel_rfl)
    (of_decide_eq_true (by kernel_rfl)) (by unfold Func.isWrapper; first | (rw [if_pos (by decide +kernel)]; kernel_rfl) | (rw [if_neg (by decide +kernel)]; exact ⟨rfl, rfl⟩))
    (fun os started H enc _ F => by rw [OpenClaim.pre_eq_preRow]; exact lifted os started H enc F)
theorem plain (f : FuncId) (fn : Func) (hf : Tryd.pinned.checked.prog.funcNamed Rows.rationalProbabilitiesRow.func = some f) (hfn : Tryd.pinned.checked.prog.funcs[f]? = some fn) :
    true = Tryd.pinned.checked.prog.looks [] ∧ ∀ (j : Nat) t, fn.params[j]? = some t → Tryd.pinned.checked.prog.wantsStandIn t = false := by
  obtain rfl : f = 15 := Option.some.inj ((show Tryd.prog.funcNamed Rows.rationalProbabilitiesRow.func = some 15 by kernel_rfl).symm.trans hf) |>.symm
  obtain rfl : fn = Tryd.f15 := (Option.some.inj (Tryd.func15.symm.trans hfn)).symm
  refine ⟨by kernel_rfl, fun j t ht => ?_⟩
  rw [Tryd.params15] at ht
  have hm : t = 48 ∨ t = 48 := by simpa using Array.mem_of_getElem? ht
  have hall : ∀ u, u = t → Tryd.pinned.checked.prog.wantsStandIn u = false := by
    rintro u rfl
    rcases hm with rfl | rfl
    · exact (show Tryd.prog.wantsStandIn 48 = false by kernel_rfl)
    · exact (show Tryd.prog.wantsStandIn 48 = false by kernel_rfl)
  exact hall t rfl
/-- The card. -/
theorem card : Rows.RationalProbabilitiesCardSaid :=
  Claim7.holds_tied_plain_at .later [] _ _ _ _ said (fun _ h => by cases h) (by kernel_rfl) (fun _ h => by cases h) rationalProbabilities_row_tie rfl ⟨rfl, rfl⟩ (by kernel_rfl) rfl plain (by kernel_rfl)
#print axioms card
end Go.Proofs.YtoakfjcejamoeaaDoor.rationalProbabilities
namespace Go.Proofs.YtoakfjcejamoeaaDoor
/-- The card, under a short name, for the claim. -/
theorem rationalProbabilities_card : Rows.RationalProbabilitiesCardSaid := rationalProbabilities.card
end Go.Proofs.YtoakfjcejamoeaaDoor
