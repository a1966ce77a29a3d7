/- A part of the proof of WalOperations. -/
import Derived.Deep.Slices
import Derived.Test.YtbbokpkpdnppjaaGx0
namespace Go.Proofs.Ytbbokpkpdnppjaa
open Go.RowKit Go.Proofs.YtbbokpkpdnppjaaW.PrintWords Go.Proofs.YtbbokpkpdnppjaaW.PrintLast Go.Proofs.YtbbokpkpdnppjaaW.PrintMore
set_option linter.unusedVariables false
set_option linter.unusedSimpArgs false
open Go.ChangeShapes Go.WideShapes
def Opens {α : Type} (Pg : Program) (W : World) (t : TypeId) (d : Kd α) (ok : α → Prop) : Prop :=
 ∀ {H : Type} {enc : TypeId × Value → H} {base : Nat} {sp : Nat → Bool} {held : Bool} {fuel : Nat} {cs : List Value} {x : DataW H × List MemPlace}, DataW.trod enc Pg W base sp held fuel t cs = some x → ∃ y, d.K W y cs ∧ ok y
section
variable {Pg : Program} {W : World} {t e : TypeId} {α : Type}
theorem Opens.int {k : IntKind} (ht : Pg.underlying t = some (.int k)) : Opens Pg W t (Kd.int k) (fun n => (Lit.int k n).wf = true) := by
 intro H enc base sp held fuel cs x h
 obtain ⟨n, rfl, _, hw⟩ := DataW.trod_int ht h
 exact ⟨n, rfl, hw⟩
theorem Opens.bool (ht : Pg.underlying t = some .bool) : Opens Pg W t Kd.bool (fun _ => True) := by
 intro H enc base sp held fuel cs x h
 obtain ⟨b, rfl, _⟩ := DataW.trod_bool ht h
 exact ⟨b, rfl, trivial⟩
theorem Opens.row [Inhabited α] {d : Kd α} {ok : α → Prop} (ht : Pg.underlying t = some (.slice e)) (hsz : Pg.cellsOf e = d.sz) (he : Opens Pg W e d ok)
  {H : Type} {enc : TypeId × Value → H} {base : Nat} {sp : Nat → Bool} {held : Bool} {fuel : Nat} {cs : List Value} {x : DataW H × List MemPlace} (h : DataW.trod enc Pg W base sp held fuel t cs = some x) :
  ∃ (A : Option Addr) (c : Nat) (xs : List α), cs = [.slice A xs.length c] ∧ xs.length ≤ c ∧ d.C W A xs.length xs ∧ ∀ y ∈ xs, ok y := by
 rcases Deep.open_slice ht h with ⟨rfl, _⟩ | ⟨a, len, cap, m, n, D, Pl, rfl, hb, hl, hm, hmm, rfl, hx⟩
 ·exact ⟨none, 0, [], rfl, Nat.le_refl _, Kd.C_nil _ _, fun y hy => by cases hy⟩
 ·have hlm : len ≤ m := by rw [hmm]; split <;> omega
  obtain ⟨f, hf⟩ := Deep.choose_lt (n := len) (p := fun i (q : α) => ∃ cs', W.cells? base (a.add (i * Pg.cellsOf e)) (Pg.cellsOf e) = some cs' ∧ d.K W q cs' ∧ ok q) (fun i hi => by
   obtain ⟨cs', h1, h2⟩ := hx i (by omega)
   obtain ⟨y, hy, hok⟩ := he h2
   exact ⟨y, cs', h1, hy, hok⟩)
  have hlen : ((List.range len).map f).length = len := by simp
  refine ⟨some a, cap, (List.range len).map f, by rw [hlen], by rw [hlen]; exact hl, ⟨rfl, by rw [hlen]; exact Nat.le_trans hl (Nat.le_trans hm (by decide)), fun h0 => ⟨a, rfl, fun j p hj => ?_⟩⟩, fun y hy => ?_⟩
  ·have hjl : j < len := by have := (List.getElem?_eq_some_iff.1 hj).1; omega
   have hp : p = f j := by simp [List.getElem?_map, List.getElem?_range hjl] at hj; exact hj.symm
   subst hp
   obtain ⟨cs', h1, h2, h3⟩ := hf j hjl
   obtain ⟨_, hcl, hcell⟩ := World.cells?_some h1
   refine ⟨cs', by rw [hcl, hsz], h2, fun i u hu => ?_⟩
   have hi : i < cs'.length := (List.getElem?_eq_some_iff.1 hu).1
   have := hcell i (by omega)
   rw [Deep.add_add, hsz] at this
   rw [this, hu]
  ·simp only [List.mem_map, List.mem_range] at hy
   obtain ⟨i, hi, rfl⟩ := hy
   exact (hf i hi).choose_spec.2.2
theorem Opens.slice [Inhabited α] {d : Kd α} {ok : α → Prop} (e' : Nat) (ht : Pg.underlying t = some (.slice e)) (hsz : Pg.cellsOf e = d.sz) (he : Opens Pg W e d ok) : Opens Pg W t (Kd.slice e' d) (fun xs => ∀ y ∈ xs, ok y) := by
 intro H enc base sp held fuel cs x h
 obtain ⟨A, c, xs, rfl, hl, hC, hok⟩ := Opens.row ht hsz he h
 exact ⟨xs, ⟨A, c, rfl, hl, hC⟩, hok⟩
end
instance : Inhabited G.S79 := ⟨G.z79⟩
def Ok79 (x : G.S79) : Prop := (Lit.int .u8 x.f0).wf = true ∧ (∀ y ∈ x.f1, (Lit.int .u8 y).wf = true) ∧ (Lit.int .i64 x.f2).wf = true ∧ (∀ y ∈ x.f3, (Lit.int .i64 y).wf = true)
set_option maxRecDepth 100000 in
set_option maxHeartbeats 1000000 in
theorem Opens.op79 (W : World) : Opens Try.prog W 79 G.k79 Ok79 := by
 intro H enc base sp held fuel cs x h
 obtain ⟨xs, n, _, rfl, hcl, hl, hf⟩ := DataW.trod_struct Try.underlying79 h
 have hc : Try.prog.cellsOf 79 = 4 := by kernel_rfl
 rw [hc] at hcl
 match xs, hl, cs, hcl with
 | [y0, y1, y2, y3], _, [v0, v1, v2, v3], _ =>
  have g0 := hf 0 _ rfl
  have g1 := hf 1 _ rfl
  have g2 := hf 2 _ rfl
  have g3 := hf 3 _ rfl
  have e3 : Try.prog.cellsOf 3 = 1 := by kernel_rfl
  have e29 : Try.prog.cellsOf 29 = 1 := by kernel_rfl
  have e34 : Try.prog.cellsOf 34 = 1 := by kernel_rfl
  have e5 : Try.prog.cellsOf 5 = 1 := by kernel_rfl
  simp only [e3, e5, e29, e34, List.drop_zero, List.drop_succ_cons, List.take_succ_cons, List.take_zero, List.getElem?_cons_zero, List.getElem?_cons_succ] at g0 g1 g2 g3
  obtain ⟨n0, h0, w0⟩ := Opens.int (Pg := Try.prog) (W := W) Try.underlying5 g0
  obtain ⟨A1, c1, l1, h1, k1, C1, w1⟩ := Opens.row Try.underlying29 e5 (Opens.int Try.underlying5) g1
  obtain ⟨n2, h2, w2⟩ := Opens.int (Pg := Try.prog) (W := W) Try.underlying3 g2
  obtain ⟨A3, c3, l3, h3, k3, C3, w3⟩ := Opens.row Try.underlying34 e3 (Opens.int Try.underlying3) g3
  injection h0 with h0; injection h1 with h1; injection h2 with h2; injection h3 with h3
  subst h0; subst h1; subst h2; subst h3
  exact ⟨⟨n0, l1, n2, l3⟩, G.k79_mk W ⟨n0, l1, n2, l3⟩ k1 C1 k3 C3, w0, w1, w2, w3⟩
theorem open_ops79 {W : World} {H : Type} {enc : TypeId × Value → H} {base : Nat} {sp : Nat → Bool} {held : Bool} {v : Value} {d : DataW H} {ps : List MemPlace} (h : DataW.Trod enc Try.prog W base sp held 74 v d ps) (hv : ∃ a len cap, v = .slice a len cap) :
  ∃ (A : Option Addr) (c : Nat) (l : List G.S79), v = .slice A l.length c ∧ l.length ≤ c ∧ G.k79.C W A l.length l ∧ ∀ y ∈ l, Ok79 y := by
 obtain ⟨a, len, cap, rfl⟩ := hv
 obtain ⟨fuel, hf⟩ := h
 obtain ⟨A, c, xs, hcs, h1, h2, h3⟩ := Opens.row Try.underlying74 (by kernel_rfl) (Opens.op79 W) hf
 simp [Value.cells] at hcs
 obtain ⟨rfl, rfl, rfl⟩ := hcs
 exact ⟨_, _, xs, rfl, h1, h2, h3⟩
theorem wf_byte {x : Int} (h : (Lit.int .u8 x).wf = true) : 0 ≤ x ∧ x < 256 := by
 have h2 : IntKind.u8.min ≤ x ∧ x ≤ IntKind.u8.max := by simpa [Lit.wf] using h
 have e1 : IntKind.u8.min = 0 := rfl
 have e2 : IntKind.u8.max = 255 := rfl
 omega
theorem wf_i64 {x : Int} (h : (Lit.int .i64 x).wf = true) : x ≤ 9223372036854775807 := by
 have h2 : IntKind.i64.min ≤ x ∧ x ≤ IntKind.i64.max := by simpa [Lit.wf] using h
 exact h2.2
end Go.Proofs.Ytbbokpkpdnppjaa
