/- What the law of streams keeps. -/
import Derived.Test.YtnineihfjbbmpaaGreatDoorPP
namespace Go.Proofs.YtnineihfjbbmpaaGreatDoor.P
open Go.RowKit Go.Proofs.YtnineihfjbbmpaaGreatDoorW.PrintWords Go.Proofs.YtnineihfjbbmpaaGreatDoorW.PrintLast Go.Proofs.YtnineihfjbbmpaaGreatDoorW.PrintMore
set_option exponentiation.threshold 8200
set_option linter.unusedVariables false
set_option linter.unusedSimpArgs false
/-! ### What the law of streams keeps -/
theorem R_KT {w w' : World} {b0 : Nat} {v : Value} {acc : List S23} (h : Kd.R k23 23 w b0 (fun _ => True) v acc) (hk : KT 23 w w') : Kd.R k23 23 w' b0 (fun _ => True) v acc := by
  refine Kd.R_mono (Kd.R_move (Kd.R_bound h) (fun k hk2 => ?_)) (fun _ _ => trivial)
  obtain ⟨_, _, _, q, hq, cells, hc⟩ := hk2
  have e : q = 23 := by
    have h2 : q ∈ (23 :: k23.E : List Nat) := hq
    have h3 : (23 :: k23.E : List Nat) = [23] := rfl
    rw [h3, List.mem_singleton] at h2
    exact h2
  subst e
  exact (hk.2 k cells (0, 0) hc).trans hc.symm
/-- Behind the append of messages: the stream is as it was. -/
theorem st_out {base b0 g : Nat} {w w' : World} {r : List Int} {br : Bool} {v : Value} {acc : List S23} (hS : StS w base g r br) (hR : Kd.R k23 23 w b0 (fun _ => True) v acc) (hg : w.grownBy w' v.ownBlock) : StS w' base g r br := by
  obtain ⟨hB, A, c, hK, hQ⟩ := hS
  have hty := Kd.R_typed hR
  have ne : ∀ (i : Nat) (cs : Array Value) (t : TypeId) (fr : Nat × Nat), w.heap[i]? = some (.cells cs t fr) → t ≠ 23 → some i ≠ v.ownBlock := by
    intro i cs t fr hi ht he
    obtain ⟨cells, hc⟩ := hty i he.symm
    rw [hc] at hi
    injection hi with hi
    injection hi with _ hi
    exact ht hi.symm
  refine ⟨hB, A, c, blk_grown hK hg (ne g _ _ _ hK (by decide)), q_move hQ (fun k hk => ?_)⟩
  obtain ⟨_, cells, hc⟩ := q_typed hQ k hk
  exact hg.block k (q_lt hQ k hk) (ne k _ _ _ hc (by decide))
theorem cut_mid (A : Option Addr) (c : Nat) (l : List Int) (i j : Nat) (hij : i ≤ j) (hj : j ≤ l.length) (hc : l.length ≤ c) : ∃ A', (∀ W : World, (Instr.slice 24 (.slice A l.length c) (some (.int .i64 (i : Int))) (some (.int .i64 (j : Int))) none).run Tryz.prog W = .ok (.slice A' ((l.take j).drop i).length (c - i)) W) ∧ (∀ w : World, Kd.C (Kd.int .u8) w A l.length l → Kd.C (Kd.int .u8) w A' ((l.take j).drop i).length ((l.take j).drop i)) ∧ ((l.take j).drop i).length ≤ c - i := by
  obtain ⟨i0, hi, _, hsz, _⟩ := info_parts info5
  obtain ⟨A', h1, h2, h3⟩ := print_mid_of (P := Tryz.prog) (Value.int .u8) (0 : Int) 24 5 .i64 .i64 Tryz.underlying24 hi hsz A c l (i : Int) (j : Int) (by omega) (by omega) (by omega) hc
  simp only [Int.toNat_natCast] at h1 h2 h3
  exact ⟨A', h1, fun w h => Kd.C_of_reads (h1 := fun _ => rfl) (h2 w (Kd.reads_of_C h)), h3⟩
theorem cut_pre (A : Option Addr) (c : Nat) (l : List Int) (j : Nat) (hj : j ≤ l.length) (hc : l.length ≤ c) : (∀ W : World, (Instr.slice 24 (.slice A l.length c) none (some (.int .i64 (j : Int))) none).run Tryz.prog W = .ok (.slice A (l.take j).length c) W) ∧ (∀ w : World, Kd.C (Kd.int .u8) w A l.length l → Kd.C (Kd.int .u8) w A (l.take j).length (l.take j)) ∧ (l.take j).length ≤ c := by
  obtain ⟨i0, hi, _, hsz, _⟩ := info_parts info5
  obtain ⟨h1, h2, h3⟩ := print_take_of (P := Tryz.prog) (Value.int .u8) (0 : Int) 24 5 .i64 Tryz.underlying24 hi hsz A c l (j : Int) (by omega) (by omega) hc
  simp only [Int.toNat_natCast] at h1 h2 h3
  exact ⟨h1, fun w h => Kd.C_of_reads (h1 := fun _ => rfl) (h2 w (Kd.reads_of_C h)), h3⟩
theorem take_chunk {l : List Int} {i j : Nat} (h : i ≤ j) : l.take i ++ (l.take j).drop i = l.take j := by
  have e : l.take i = (l.take j).take i := by rw [List.take_take, Nat.min_eq_left h]
  rw [e, List.take_append_drop]

end Go.Proofs.YtnineihfjbbmpaaGreatDoor.P
