/- The disk's New and Clone. -/
import Derived.Test.YtbbokpkpdnppjaaA8
namespace Go.Proofs.Ytbbokpkpdnppjaa
open Go.RowKit Go.Proofs.YtbbokpkpdnppjaaW.PrintWords Go.Proofs.YtbbokpkpdnppjaaW.PrintLast Go.Proofs.YtbbokpkpdnppjaaW.PrintMore
attribute [local go_sem] max2_int min2_int max_two min_two
set_option linter.unusedVariables false
set_option linter.unusedSimpArgs false
def Dk.fresh (n : Nat) : Dk := ⟨List.replicate n 0, [], -1, false⟩
def NewPost (w : World) (n : Nat) (e : Ending) (w' : World) : Prop := ∃ g pr, e = .returned (.tuple #[.pointer (some ⟨g, 0, none⟩), .int .i64 0]) ∧ IsDisk w' w.heap.size pr (fun _ => False) g (Dk.fresh n) ∧ (∀ k, pr k → w.heap.size ≤ k) ∧ Below w.heap.size w w'
theorem New_good (n : Nat) (w : World) (h1 : 1 ≤ n) (h2 : n ≤ 4194304) :
  Calls Try.prog 15 #[.int .i64 (n : Int)] w (NewPost w n) := by
 have hm := print_make (P := Try.prog) 29 5 .u8 1 Try.underlying29 info5 (by omega) n (by omega)
 have ho := own_made w w.heap.size 5 .u8 n (Nat.le_refl _) (by omega)
 have HO := Aside0.mk ho
 have HN := Aside0.mk (show 1 ≤ n ∧ n ≤ 4194304 from ⟨h1, h2⟩)
 have t1 : ¬ ((n : Int) < 1) := by omega
 have t2 : ¬ (4194304 < (n : Int)) := by omega
 clear ho h1 h2
 go_enter Try.func15, Try.ntmps15
 go_wp2
 go_ret2
 have hb2 := heap_alloc_new (w.alloc (.cells (madeCells #[.int .u8 0] n) 5)) (.cells #[.slice (some ⟨w.heap.size, 0, none⟩) n n, .slice none 0 0, .int .i64 (-1), .bool false] 89)
 refine ⟨w.heap.size + 1, fun k => k = w.heap.size ∨ k = w.heap.size + 1, rfl, ⟨.slice (some ⟨w.heap.size, 0, none⟩) n n, .slice none 0 0, ?_⟩, ?_, below_alloc (below_alloc (Below.refl _ _) _) _⟩
 ·exact {
   cell := by simpa [Dk.fresh] using hb2
   hbase := by omega
   gpr := .inr rfl
   dur := by
    have := Kd.R_of_own (enc := Value.int .u8) (h1 := fun _ => rfl) (xs := List.replicate n 0) (ok := fun k => k = w.heap.size ∨ k = w.heap.size + 1) (by rw [List.length_replicate]; exact HO.out) (fun k hk => .inl (by simpa [Value.ownBlock] using hk.symm))
    exact Kd.R_alloc this _
   pb := fun k hk => by simp [Value.ownBlock] at hk
   pend := OwnRow.none_ _ _ _ _ _
   sep := fun k hk => hk.elim
   plt := fun k hk => by simp only [World.size_alloc]; rcases hk with rfl | rfl <;> omega
   slt := fun k hk => hk.elim }
 ·rintro k (rfl | rfl) <;> omega
section
variable {w : World} {base : Nat} {pr sh : Nat → Prop} {g : Nat} {v0 v1 : Value} {D : Dk}
end
end Go.Proofs.Ytbbokpkpdnppjaa
