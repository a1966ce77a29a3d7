/- The disk's calls as the laws meet them: a disk that the law made itself, in a world that leaves what was there before untouched. -/
import Derived.Test.YtbbokpkpdnppjaaA9
namespace Go.Proofs.Ytbbokpkpdnppjaa
open Go.RowKit Go.Proofs.YtbbokpkpdnppjaaW.PrintWords Go.Proofs.YtbbokpkpdnppjaaW.PrintLast Go.Proofs.YtbbokpkpdnppjaaW.PrintMore
set_option linter.unusedVariables false
set_option linter.unusedSimpArgs false

/-- In W, which is as w0 was below w0's end, lies a disk in state D at g, all of it made since. -/
def St (w0 W : World) (g : Nat) (D : Dk) : Prop := ∃ pr sh, IsDisk W w0.heap.size pr sh g D ∧ (∀ k, pr k → w0.heap.size ≤ k) ∧ Below w0.heap.size w0 W
namespace St
variable {w0 W W1 : World} {g : Nat} {D : Dk}
theorem bel (h : St w0 W g D) : Below w0.heap.size w0 W := h.choose_spec.choose_spec.2.2
theorem isDisk (h : St w0 W g D) : ∃ pr sh, IsDisk W w0.heap.size pr sh g D := ⟨_, _, h.choose_spec.choose_spec.1⟩
theorem step (h : St w0 W g D) (hb : Below W.heap.size W W1) : St w0 W1 g D := by
  obtain ⟨pr, sh, ⟨v0, v1, h1⟩, h2, h3⟩ := h
  exact ⟨pr, sh, ⟨v0, v1, h1.below hb⟩, h2, below_step h3 hb⟩
theorem alloc (h : St w0 W g D) (o : Obj) : St w0 (W.alloc o) g D := h.step (below_alloc (Below.refl _ _) o)
theorem drew (h : St w0 W g D) : St w0 W.drew g D := h.step (below_drew (Below.refl _ _))
theorem drewN (h : St w0 W g D) (n : Nat) : St w0 (W.drewN n) g D := h.step (pw_below_drewN (Below.refl _ _) n)
theorem of_left {pr sh : Nat → Prop} {D' : Dk} (h2 : ∀ k, pr k → w0.heap.size ≤ k) (h3 : Below w0.heap.size w0 W) (h : Left W w0.heap.size pr sh g D' W1) : St w0 W1 g D' := by
  obtain ⟨pr', sh', h4, h5, h6, h7⟩ := h
  refine ⟨pr', sh', h4, fun k hk => ?_, h7.below h3 h2 h3.size⟩
  rcases h5 k hk with h | h
  · exact h2 k h
  · exact Nat.le_trans h3.size h

theorem size (h : St w0 W g D) : Calls Try.prog 17 #[.pointer (some ⟨g, 0, none⟩)] W fun e w' => e = .returned (.int .i64 D.dur.length) ∧ W = w' := by
  obtain ⟨pr, sh, h⟩ := h.isDisk; exact Size_calls h
theorem pending (h : St w0 W g D) : Calls Try.prog 26 #[.pointer (some ⟨g, 0, none⟩)] W fun e w' => e = .returned (.int .i64 D.pend.length) ∧ W = w' := by
  obtain ⟨pr, sh, h⟩ := h.isDisk; exact Pending_calls h
theorem failed (h : St w0 W g D) : Calls Try.prog 28 #[.pointer (some ⟨g, 0, none⟩)] W fun e w' => e = .returned (.bool D.failed) ∧ W = w' := by
  obtain ⟨pr, sh, h⟩ := h.isDisk; exact Failed_calls h
theorem failAfter (n : Int) (h : St w0 W g D) : Calls Try.prog 27 #[.pointer (some ⟨g, 0, none⟩), .int .i64 n] W fun e w' => e = .returned (.tuple #[]) ∧ St w0 w' g (D.after n) := by
  obtain ⟨pr, sh, h1, h2, h3⟩ := h
  refine (FailAfter_calls n h1).mono ?_
  rintro e w' ⟨rfl, h4, h5⟩
  exact ⟨rfl, pr, sh, h4, h2, h5.below h3 h2 h3.size⟩
theorem write (at_ : Int) (A : Option Addr) (c : Nat) (l : List Int) (h : St w0 W g D) (hok : D.Ok) (hC : Kd.C (Kd.int .u8) W A l.length l) (hA : ∀ pr sh, IsDisk W w0.heap.size pr sh g D → (∀ k, pr k → w0.heap.size ≤ k) → ∀ a, A = some a → 0 < l.length → ¬ pr a.block)
    (hc : l.length ≤ c) (hl : l.length ≤ 140737488355328) : Calls Try.prog 19 #[.pointer (some ⟨g, 0, none⟩), .int .i64 at_, .slice A l.length c] W fun e w' => e = .returned (.int .i64 (D.write at_ l).2) ∧ St w0 w' g (D.write at_ l).1 := by
  obtain ⟨pr, sh, h1, h2, h3⟩ := h
  refine (Write_calls at_ A c l h1 h3.size hC hc hl hok.few hok.hi (hA pr sh h1 h2)).mono ?_
  rintro e w' ⟨rfl, h4⟩
  exact ⟨rfl, of_left h2 h3 h4⟩
/-- An argument of the law's. -/
theorem write_arg (at_ : Int) (A : Option Addr) (c : Nat) (l : List Int) (h : St w0 W g D) (hok : D.Ok) (hC : Kd.C (Kd.int .u8) w0 A l.length l)
    (hc : l.length ≤ c) (hl : l.length ≤ 140737488355328) : Calls Try.prog 19 #[.pointer (some ⟨g, 0, none⟩), .int .i64 at_, .slice A l.length c] W fun e w' => e = .returned (.int .i64 (D.write at_ l).2) ∧ St w0 w' g (D.write at_ l).1 :=
  h.write at_ A c l hok (Kd.C_below hC h.bel) (fun pr sh _ h2 a ha h0 hp => by
    subst ha
    obtain ⟨ad, e, hcell⟩ := Kd.at_int hC 0 (by omega) (by omega)
    injection e with e
    subst e
    have := World.block_lt_of_cell? _ _ hcell
    rw [add_block] at this
    have := h2 _ hp
    omega) hc hl
/-- A literal's cells. -/
theorem lit_C (W : World) (k : IntKind) (e : TypeId) (cs : Array Value) (fr : Nat × Nat) (xs : List Int) (h : cs = (nums k xs).toArray) (hm : xs.length ≤ 9223372036854775807) : Kd.C (Kd.int k) (W.alloc (.cells cs e fr)) (some ⟨W.heap.size, 0, none⟩) xs.length xs := by
  subst h
  refine ⟨rfl, hm, fun h0 => ⟨_, rfl, fun j x hj => ⟨[.int k x], rfl, rfl, fun i u hu => ?_⟩⟩⟩
  match i, hu with
  | 0, hu =>
    have hu' : Value.int k x = u := by simpa using hu
    subst hu'
    have e1 : (Kd.int k).sz = 1 := rfl
    rw [e1, Nat.mul_one, Nat.add_zero, add_plain, cell_of_row _ _ j _ e fr (heap_alloc_new W _)]
    simp [nums, hj]
theorem lit_new {pr sh : Nat → Prop} {o : Obj} (h : IsDisk (W.alloc o) w0.heap.size pr sh g D) (hW : IsDisk W w0.heap.size pr sh g D) : ¬ pr W.heap.size := fun hp => by
  obtain ⟨_, _, h1⟩ := hW
  have := h1.plt _ hp
  omega
/-- A literal that was just laid. -/
theorem write_lit (at_ : Int) (cs : Array Value) (fr : Nat × Nat) (l : List Int) (hcs : cs = (nums .u8 l).toArray) (h : St w0 W g D) (hok : D.Ok) (hl : l.length ≤ 140737488355328) :
    Calls Try.prog 19 #[.pointer (some ⟨g, 0, none⟩), .int .i64 at_, .slice (some ⟨W.heap.size, 0, none⟩) l.length l.length] (W.alloc (.cells cs 5 fr)) fun e w' => e = .returned (.int .i64 (D.write at_ l).2) ∧ St w0 w' g (D.write at_ l).1 := by
  obtain ⟨pr, sh, ⟨v0, v1, h1⟩, h2, h3⟩ := h
  refine (Write_calls at_ _ _ l ⟨v0, v1, h1.below (below_alloc (Below.refl _ _) _)⟩ (by have := h3.size; simp; omega) (lit_C W .u8 5 cs fr l hcs (by omega)) (Nat.le_refl _) hl hok.few hok.hi (fun a ha _ hp => ?_)).mono ?_
  · injection ha with ha
    subst ha
    have := h1.plt _ hp
    simp at this
  · rintro e w' ⟨rfl, h4⟩
    exact ⟨rfl, of_left h2 (below_step h3 (below_alloc (Below.refl _ _) _)) h4⟩
theorem sync (h : St w0 W g D) (hok : D.Ok) : Calls Try.prog 25 #[.pointer (some ⟨g, 0, none⟩)] W fun e w' => e = .returned (.int .i64 D.sync.2) ∧ St w0 w' g D.sync.1 := by
  obtain ⟨pr, sh, h1, h2, h3⟩ := h
  refine (Sync_calls h1 hok).mono ?_
  rintro e w' ⟨rfl, h4⟩
  exact ⟨rfl, of_left h2 h3 h4⟩
theorem crash_nil (h : St w0 W g D) (hok : D.Ok) : Calls Try.prog 22 #[.pointer (some ⟨g, 0, none⟩), .slice none 0 0] W fun e w' => e = .returned (.tuple #[]) ∧ St w0 w' g (D.crashed []) := by
  obtain ⟨pr, sh, h1, h2, h3⟩ := h
  refine (Crash_calls none 0 [] h1 hok (Kd.C_nil _ _) (fun a ha => by cases ha)).mono ?_
  rintro e w' ⟨rfl, h4⟩
  exact ⟨rfl, of_left h2 h3 h4⟩
theorem crash_arg (A : Option Addr) (c : Nat) (ss : List Int) (h : St w0 W g D) (hok : D.Ok) (hC : Kd.C (Kd.int .i64) w0 A ss.length ss) :
    Calls Try.prog 22 #[.pointer (some ⟨g, 0, none⟩), .slice A ss.length c] W fun e w' => e = .returned (.tuple #[]) ∧ St w0 w' g (D.crashed ss) := by
  have hB := h.bel
  obtain ⟨pr, sh, h1, h2, h3⟩ := h
  refine (Crash_calls A c ss h1 hok (Kd.C_below hC hB) (fun a ha h0 hp => ?_)).mono ?_
  · subst ha
    obtain ⟨ad, e, hcell⟩ := Kd.at_int hC 0 (by omega) (by omega)
    injection e with e
    subst e
    have := World.block_lt_of_cell? _ _ hcell
    rw [add_block] at this
    have := h2 _ hp
    omega
  · rintro e w' ⟨rfl, h4⟩
    exact ⟨rfl, of_left h2 h3 h4⟩
theorem crash_lit (cs : Array Value) (ss : List Int) (hcs : cs = (nums .i64 ss).toArray) (h : St w0 W g D) (hok : D.Ok) (hl : ss.length ≤ 140737488355328) :
    Calls Try.prog 22 #[.pointer (some ⟨g, 0, none⟩), .slice (some ⟨W.heap.size, 0, none⟩) ss.length ss.length] (W.alloc (.cells cs 3)) fun e w' => e = .returned (.tuple #[]) ∧ St w0 w' g (D.crashed ss) := by
  obtain ⟨pr, sh, ⟨v0, v1, h1⟩, h2, h3⟩ := h
  refine (Crash_calls _ _ ss ⟨v0, v1, h1.below (below_alloc (Below.refl _ _) _)⟩ hok (lit_C W .i64 3 cs (0, 0) ss hcs (by omega)) (fun a ha _ hp => ?_)).mono ?_
  · injection ha with ha
    subst ha
    have := h1.plt _ hp
    simp at this
  · rintro e w' ⟨rfl, h4⟩
    exact ⟨rfl, of_left h2 (below_step h3 (below_alloc (Below.refl _ _) _)) h4⟩
/-- What a read leaves. -/
def Got (W : World) (b : List Int × Int) (e : Ending) (w' : World) : Prop := ∃ v, e = .returned (.tuple #[v, .int .i64 b.2]) ∧ Kd.R (Kd.int .u8) 5 w' W.heap.size (fun _ => True) v b.1 ∧ Below W.heap.size W w'
theorem read (at_ n : Int) (h : St w0 W g D) (hok : D.Ok) : Calls Try.prog 18 #[.pointer (some ⟨g, 0, none⟩), .int .i64 at_, .int .i64 n] W (Got W (D.read at_ n)) := by
  obtain ⟨pr, sh, h⟩ := h.isDisk
  by_cases hb : D.failed = true ∨ insd D.dur.length at_ n = false
  · refine (Read_bad at_ n h hb).mono ?_
    rintro e w' ⟨rfl, rfl⟩
    have e1 : (D.read at_ n).1 = [] := by
      simp only [Dk.read]
      rcases hb with h | h
      · rw [if_pos h]
      · by_cases hf : D.failed = true
        · rw [if_pos hf]
        · rw [if_neg hf, if_pos h]
    exact ⟨_, rfl, by rw [e1]; exact Kd.R_nil _ _ _ _ _, Below.refl _ _⟩
  · have hf : D.failed = false := by simpa using fun h => hb (.inl h)
    have hi : insd D.dur.length at_ n = true := by simpa using fun h => hb (.inr h)
    have hi' := hi
    simp only [insd, Bool.and_eq_true, decide_eq_true_eq] at hi'
    obtain ⟨h1, h2, h3, h4⟩ := hi'
    obtain ⟨a, rfl⟩ := Int.eq_ofNat_of_zero_le h1
    obtain ⟨m, rfl⟩ := Int.eq_ofNat_of_zero_le h2
    have e1 : D.read (a : Int) (m : Int) = ((D.now.drop a).take m, 0) := by simp [Dk.read, hf, hi]
    refine (Read_good a m h hok hf (by omega) (by have := hok.big; omega)).mono ?_
    rintro e w' ⟨v, rfl, hR, hB⟩
    exact ⟨v, by rw [e1], by rw [e1]; exact hR, hB⟩
end St
/-- A disk that is made. -/
theorem St.new {w0 W : World} (n : Nat) (hB : Below w0.heap.size w0 W) (h1 : 1 ≤ n) (h2 : n ≤ 4194304) :
    Calls Try.prog 15 #[.int .i64 (n : Int)] W fun e w' => ∃ g, e = .returned (.tuple #[.pointer (some ⟨g, 0, none⟩), .int .i64 0]) ∧ St w0 w' g (Dk.fresh n) := by
  refine (New_good n W h1 h2).mono ?_
  rintro e w' ⟨g, pr, rfl, ⟨v0, v1, h⟩, hp, hb⟩
  refine ⟨g, rfl, pr, fun _ => False, ⟨v0, v1, ?_⟩, fun k hk => Nat.le_trans hB.size (hp k hk), below_step hB hb⟩
  exact { h with hbase := Nat.le_trans hB.size h.hbase, dur := Kd.R_lower h.dur hB.size, pend := h.pend.lower hB.size }
end Go.Proofs.Ytbbokpkpdnppjaa
