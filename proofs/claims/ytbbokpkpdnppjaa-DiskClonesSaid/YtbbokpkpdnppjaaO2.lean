/- More readings of arguments: how long a row of structs may be; an argument of type Op. -/
import Derived.SizedLaws
import Derived.Test.YtbbokpkpdnppjaaO1
namespace Go.Proofs.Ytbbokpkpdnppjaa
open Go.RowKit Go.ChangeShapes Go.WideShapes Go.Proofs.YtbbokpkpdnppjaaW.PrintWords
set_option linter.unusedVariables false
set_option linter.unusedSimpArgs false

theorem sized_rows {H : Type} {enc : TypeId × Value → H} {P : Program} {W : World} {base : Nat} {spare : Nat → Bool} {held : Bool} {t e : TypeId} {a : Option Addr} {len cap : Nat} {d : DataW H} {ps : List MemPlace} {ts : List TypeId} {ds : List (DataW H)} {j : Nat}
    (hsz : (DataW.weightsEach P ts ds).all (· ≤ reachBytes) = true) (ht : ts[j]? = some t) (hd : ds[j]? = some d) (hu : P.underlying t = some (.slice e)) {B : Nat} (hB : P.bytesOf e = B)
    (h : DataW.Trod enc P W base spare held t (.slice a len cap) d ps) : len * B ≤ 140737488351232 := by
  obtain ⟨fuel, hf⟩ := h
  rcases Deep.open_slice hu hf with ⟨hcs, _⟩ | ⟨x, l, c, m, n, D, Pl, hcs, _, hl, _, hm, hx, _⟩
  · simp [Value.cells] at hcs
    obtain ⟨rfl, rfl, rfl⟩ := hcs
    simp
  · simp [Value.cells] at hcs
    obtain ⟨rfl, rfl, rfl⟩ := hcs
    obtain ⟨hx, _⟩ := Prod.mk.inj hx
    subst hx
    have z := sized_slice hsz ht hd hu
    rw [hB] at z
    simp only [List.length_map, List.length_range] at z
    exact Nat.le_trans (Nat.mul_le_mul_right _ (by omega)) z
/-- An argument of type Op. -/
theorem open_op {W : World} {H : Type} {enc : TypeId × Value → H} {base : Nat} {sp : Nat → Bool} {held : Bool} {v : Value} {d : DataW H} {ps : List MemPlace} (h : DataW.Trod enc Try.prog W base sp held 44 v d ps) (hv : ∃ cs, v = .agg cs ∧ cs.size = Try.prog.cellsOf 44) :
    ∃ (x : P.S44) (A3 : Option Addr) (c3 : Nat) (A4 : Option Addr) (c4 : Nat), v = .agg #[.int .i64 x.f0, .int .i64 x.f1, .int .i64 x.f2, .slice A3 x.f3.length c3, .slice A4 x.f4.length c4] ∧ x.f3.length ≤ c3 ∧ (Kd.int .u8).C W A3 x.f3.length x.f3 ∧ x.f4.length ≤ c4 ∧ (Kd.int .i64).C W A4 x.f4.length x.f4 ∧ Ok44 x := by
  obtain ⟨cs, rfl, _⟩ := hv
  obtain ⟨fuel, hf⟩ := h
  obtain ⟨x, hk, hx⟩ := Opens.op W hf
  obtain ⟨A3, c3, A4, c4, hcs, l3, g3, l4, g4⟩ := P.k44_open hk
  refine ⟨x, A3, c3, A4, c4, ?_, l3, g3, l4, g4, hx⟩
  have e : cs = (cs.toList).toArray := by simp
  simp [Value.cells] at hcs
  rw [e, hcs]
end Go.Proofs.Ytbbokpkpdnppjaa
