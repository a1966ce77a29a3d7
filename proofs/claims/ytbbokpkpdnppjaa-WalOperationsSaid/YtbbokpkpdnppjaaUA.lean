/- Short words. -/
import Derived.Test.YtbbokpkpdnppjaaWWords
namespace Go.Proofs.Ytbbokpkpdnppjaa
open Go.RowKit Go.Proofs.YtbbokpkpdnppjaaW.PrintWords
theorem AM {p : Prop} (h : p) : Aside0 p := ⟨h⟩
theorem bN {B : Nat} {w W : World} (h : Below B w W) (n : Nat) : Below B w (W.drewN n) := pw_below_drewN h n
theorem bA {w W : World} (h : Below w.heap.size w W) (o : Obj) : Below w.heap.size w (W.alloc o) := below_alloc h o
theorem bD {base : Nat} {w W : World} (h : Below base w W) : Below base w W.drew := below_drew1 h
theorem bS {w W : World} {g j : Nat} {v : Value} (h : Below w.heap.size w W) (hg : w.heap.size ≤ g) : Below w.heap.size w (W.setCell ⟨g, j, none⟩ v) := below_set h hg
theorem kA {w : World} {g : Nat} {o : Obj} (h : w.heap[g]? = some o) (o' : Obj) : (w.alloc o').heap[g]? = some o := blk_alloc h o'
theorem kD {w : World} {g : Nat} {o : Obj} (h : w.heap[g]? = some o) : w.drew.heap[g]? = some o := blk_drew h
theorem kN {w : World} {g : Nat} {o : Obj} (h : w.heap[g]? = some o) (n : Nat) : (w.drewN n).heap[g]? = some o := blk_drewN h n
section
variable {w : World} {g : Nat} {t : TypeId} {cs : Array Value}
theorem bq (h : w.heap[g]? = some (.cells cs t (0, 0))) : w.cell? ⟨g, 0, none⟩ = cs[0]? ∧ w.cell? ⟨g, 1, none⟩ = cs[1]? ∧ w.cell? ⟨g, 2, none⟩ = cs[2]? ∧ w.cell? ⟨g, 3, none⟩ = cs[3]? := ⟨blk_cell h 0, blk_cell h 1, blk_cell h 2, blk_cell h 3⟩
theorem bn (h : w.heap[g]? = some (.cells cs t (0, 0))) : w.cell? ⟨g, 0, none⟩ = cs[0]? ∧ w.cell? ⟨g, 1, none⟩ = cs[1]? ∧ w.cell? ⟨g, 2, none⟩ = cs[2]? ∧ w.cell? ⟨g, 3, none⟩ = cs[3]? ∧ w.cell? ⟨g, 4, none⟩ = cs[4]? ∧ w.cell? ⟨g, 5, none⟩ = cs[5]? ∧ w.cell? ⟨g, 6, none⟩ = cs[6]? ∧ w.cell? ⟨g, 7, none⟩ = cs[7]? ∧ w.cell? ⟨g, 8, none⟩ = cs[8]? := ⟨blk_cell h 0, blk_cell h 1, blk_cell h 2, blk_cell h 3, blk_cell h 4, blk_cell h 5, blk_cell h 6, blk_cell h 7, blk_cell h 8⟩
theorem fq (h : w.heap[g]? = some (.cells cs t (0, 0))) : w.frozen? ⟨g, 0, none⟩ = false ∧ w.frozen? ⟨g, 1, none⟩ = false ∧ w.frozen? ⟨g, 2, none⟩ = false ∧ w.frozen? ⟨g, 3, none⟩ = false := ⟨blk_frozen h 0, blk_frozen h 1, blk_frozen h 2, blk_frozen h 3⟩
theorem fn (h : w.heap[g]? = some (.cells cs t (0, 0))) : w.frozen? ⟨g, 0, none⟩ = false ∧ w.frozen? ⟨g, 1, none⟩ = false ∧ w.frozen? ⟨g, 2, none⟩ = false ∧ w.frozen? ⟨g, 3, none⟩ = false ∧ w.frozen? ⟨g, 4, none⟩ = false ∧ w.frozen? ⟨g, 5, none⟩ = false ∧ w.frozen? ⟨g, 6, none⟩ = false ∧ w.frozen? ⟨g, 7, none⟩ = false ∧ w.frozen? ⟨g, 8, none⟩ = false := ⟨blk_frozen h 0, blk_frozen h 1, blk_frozen h 2, blk_frozen h 3, blk_frozen h 4, blk_frozen h 5, blk_frozen h 6, blk_frozen h 7, blk_frozen h 8⟩
end
end Go.Proofs.Ytbbokpkpdnppjaa
