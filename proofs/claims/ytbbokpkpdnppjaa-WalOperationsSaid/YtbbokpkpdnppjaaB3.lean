/- Texts of one proof. -/
import Derived.Test.YtbbokpkpdnppjaaA9
import Derived.Lib.SlBytesConst
namespace Go.Proofs.Ytbbokpkpdnppjaa
open Go.RowKit Go.Proofs.YtbbokpkpdnppjaaW.PrintWords Go.Proofs.YtbbokpkpdnppjaaW.PrintLast Go.Proofs.YtbbokpkpdnppjaaW.PrintMore
set_option linter.unusedVariables false
set_option linter.unusedSimpArgs false
def St (w0 W : World) (g : Nat) (D : Dk) : Prop := ∃ pr sh, IsDisk W w0.heap.size pr sh g D ∧ (∀ k, pr k → w0.heap.size ≤ k) ∧ Below w0.heap.size w0 W
namespace St
variable {w0 W W1 : World} {g : Nat} {D : Dk}
theorem isDisk (h : St w0 W g D) : ∃ pr sh, IsDisk W w0.heap.size pr sh g D := ⟨_, _, h.choose_spec.choose_spec.1⟩
theorem step (h : St w0 W g D) (hb : Below W.heap.size W W1) : St w0 W1 g D := by
 obtain ⟨pr, sh, ⟨v0, v1, h1⟩, h2, h3⟩ := h
 exact ⟨pr, sh, ⟨v0, v1, h1.below hb⟩, h2, below_step h3 hb⟩
theorem alloc (h : St w0 W g D) (o : Obj) : St w0 (W.alloc o) g D := h.step (below_alloc (Below.refl _ _) o)
theorem drew (h : St w0 W g D) : St w0 W.drew g D := h.step (below_drew (Below.refl _ _))
theorem drewN (h : St w0 W g D) (n : Nat) : St w0 (W.drewN n) g D := h.step (pw_below_drewN (Below.refl _ _) n)
theorem of_left {pr sh : Nat → Prop} {D' : Dk} (h2 : ∀ k, pr k → w0.heap.size ≤ k) (h3 : Below w0.heap.size w0 W) (h : Left W w0.heap.size pr sh g D' W1) : St w0 W1 g D' := by
 obtain ⟨pr', sh', h4, h5, h6, h7⟩ := h
 refine ⟨pr', sh', h4, fun k hk => ?_, h7.below h3 h2 h3.size⟩
 rcases h5 k hk with h | h
 ·exact h2 k h
 ·exact Nat.le_trans h3.size h
theorem size (h : St w0 W g D) : Calls Try.prog 17 #[.pointer (some ⟨g, 0, none⟩)] W fun e w' => e = .returned (.int .i64 D.dur.length) ∧ W = w' := by
 obtain ⟨pr, sh, h⟩ := h.isDisk; exact Size_calls h
theorem failed (h : St w0 W g D) : Calls Try.prog 28 #[.pointer (some ⟨g, 0, none⟩)] W fun e w' => e = .returned (.bool D.failed) ∧ W = w' := by
 obtain ⟨pr, sh, h⟩ := h.isDisk; exact Failed_calls h
theorem write (at_ : Int) (A : Option Addr) (c : Nat) (l : List Int) (h : St w0 W g D) (hok : D.Ok) (hC : Kd.C (Kd.int .u8) W A l.length l) (hA : ∀ pr sh, IsDisk W w0.heap.size pr sh g D → (∀ k, pr k → w0.heap.size ≤ k) → ∀ a, A = some a → 0 < l.length → ¬ pr a.block)
  (hc : l.length ≤ c) (hl : l.length ≤ 140737488355328) : Calls Try.prog 19 #[.pointer (some ⟨g, 0, none⟩), .int .i64 at_, .slice A l.length c] W fun e w' => e = .returned (.int .i64 (D.write at_ l).2) ∧ St w0 w' g (D.write at_ l).1 := by
 obtain ⟨pr, sh, h1, h2, h3⟩ := h
 refine (Write_calls at_ A c l h1 h3.size hC hc hl hok.few hok.hi (hA pr sh h1 h2)).mono ?_
 rintro e w' ⟨rfl, h4⟩
 exact ⟨rfl, of_left h2 h3 h4⟩
theorem lit_C (W : World) (k : IntKind) (e : TypeId) (cs : Array Value) (fr : Nat × Nat) (xs : List Int) (h : cs = (nums k xs).toArray) (hm : xs.length ≤ 9223372036854775807) : Kd.C (Kd.int k) (W.alloc (.cells cs e fr)) (some ⟨W.heap.size, 0, none⟩) xs.length xs := by
 subst h
 refine ⟨rfl, hm, fun h0 => ⟨_, rfl, fun j x hj => ⟨[.int k x], rfl, rfl, fun i u hu => ?_⟩⟩⟩
 match i, hu with
 | 0, hu =>
  have hu' : Value.int k x = u := by simpa using hu
  subst hu'
  have e1 : (Kd.int k).sz = 1 := rfl
  rw [e1, Nat.mul_one, Nat.add_zero, add_plain, cell_of_row _ _ j _ e fr (heap_alloc_new W _)]
  simp [nums, hj]
theorem sync (h : St w0 W g D) (hok : D.Ok) : Calls Try.prog 25 #[.pointer (some ⟨g, 0, none⟩)] W fun e w' => e = .returned (.int .i64 D.sync.2) ∧ St w0 w' g D.sync.1 := by
 obtain ⟨pr, sh, h1, h2, h3⟩ := h
 refine (Sync_calls h1 hok).mono ?_
 rintro e w' ⟨rfl, h4⟩
 exact ⟨rfl, of_left h2 h3 h4⟩
def Got (W : World) (b : List Int × Int) (e : Ending) (w' : World) : Prop := ∃ v, e = .returned (.tuple #[v, .int .i64 b.2]) ∧ Kd.R (Kd.int .u8) 5 w' W.heap.size (fun _ => True) v b.1 ∧ Below W.heap.size W w'
theorem read (at_ n : Int) (h : St w0 W g D) (hok : D.Ok) : Calls Try.prog 18 #[.pointer (some ⟨g, 0, none⟩), .int .i64 at_, .int .i64 n] W (Got W (D.read at_ n)) := by
 obtain ⟨pr, sh, h⟩ := h.isDisk
 by_cases hb : D.failed = true ∨ insd D.dur.length at_ n = false
 ·refine (Read_bad at_ n h hb).mono ?_
  rintro e w' ⟨rfl, rfl⟩
  have e1 : (D.read at_ n).1 = [] := by
   simp only [Dk.read]
   rcases hb with h | h
   ·rw [if_pos h]
   ·by_cases hf : D.failed = true
    ·rw [if_pos hf]
    ·rw [if_neg hf, if_pos h]
  exact ⟨_, rfl, by rw [e1]; exact Kd.R_nil _ _ _ _ _, Below.refl _ _⟩
 ·have hf : D.failed = false := by simpa using fun h => hb (.inl h)
  have hi : insd D.dur.length at_ n = true := by simpa using fun h => hb (.inr h)
  have hi' := hi
  simp only [insd, Bool.and_eq_true, decide_eq_true_eq] at hi'
  obtain ⟨h1, h2, h3, h4⟩ := hi'
  obtain ⟨a, rfl⟩ := Int.eq_ofNat_of_zero_le h1
  obtain ⟨m, rfl⟩ := Int.eq_ofNat_of_zero_le h2
  have e1 : D.read (a : Int) (m : Int) = ((D.now.drop a).take m, 0) := by simp [Dk.read, hf, hi]
  refine (Read_good a m h hok hf (by omega) (by have := hok.big; omega)).mono ?_
  rintro e w' ⟨v, rfl, hR, hB⟩
  exact ⟨v, by rw [e1], by rw [e1]; exact hR, hB⟩
end St
end Go.Proofs.Ytbbokpkpdnppjaa
namespace Go.Proofs.Ytbbokpkpdnppjaa
open Go.RowKit Go.Proofs.YtbbokpkpdnppjaaW.PrintWords Go.Proofs.YtbbokpkpdnppjaaW.PrintLast Go.Proofs.YtbbokpkpdnppjaaW.PrintMore
set_option linter.unusedVariables false
set_option linter.unusedSimpArgs false
/-! ### What becomes of the numbers -/
theorem Dk.fresh_ok (n : Nat) (h1 : 1 ≤ n) (h2 : n ≤ 4194304) : (Dk.fresh n).Ok where
 pos := by simp [Dk.fresh]; omega
 few := by simp [Dk.fresh]
 big := by simp [Dk.fresh]; omega
 fit := by simp [Dk.fresh]
 lo := by simp [Dk.fresh]
 hi := by simp [Dk.fresh]
theorem Dk.Ok.after {D : Dk} (h : D.Ok) (n : Int) (hn : n ≤ 9223372036854775807) : (D.after n).Ok where
 pos := h.pos
 few := h.few
 big := h.big
 fit := h.fit
 lo := by simp only [Dk.after]; split <;> omega
 hi := by simp only [Dk.after]; split <;> omega
theorem Dk.Ok.fail {D : Dk} (h : D.Ok) : ({ D with failed := true } : Dk).Ok := ⟨h.pos, h.few, h.big, h.fit, h.lo, h.hi⟩
theorem Dk.Ok.wrote {D : Dk} (h : D.Ok) (hn : D.pend.length < 1000) (at_ : Int) (l : List Int) (hi : insd D.dur.length at_ l.length = true) : (D.wrote at_ l).Ok where
 pos := h.pos
 few := by simp [Dk.wrote]; omega
 big := h.big
 fit := fun x hx => by
  simp only [Dk.wrote, List.mem_append, List.mem_singleton] at hx
  rcases hx with hx | rfl
  ·exact h.fit x hx
  ·simp only [insd, Bool.and_eq_true, decide_eq_true_eq] at hi
   simp only [Dk.wrote]
   omega
 lo := h.lo
 hi := h.hi
theorem Dk.Ok.write {D : Dk} (h : D.Ok) (hn : D.pend.length < 1000) (at_ : Int) (l : List Int) : (D.write at_ l).1.Ok := by
 unfold Dk.write
 split
 ·exact h
 ·split
  ·exact h
  ·rename_i hi
   split
   ·exact h.fail
   ·exact h.burnt.wrote hn at_ l (show insd D.dur.length at_ l.length = true by simpa using hi)
theorem Dk.Ok.synced {D : Dk} (h : D.Ok) : D.synced.Ok where
 pos := by rw [Dk.synced, layAll_length _ _ h.fit]; exact h.pos
 few := by simp [Dk.synced]
 big := by rw [Dk.synced, layAll_length _ _ h.fit]; exact h.big
 fit := by simp [Dk.synced]
 lo := h.lo
 hi := h.hi
theorem Dk.Ok.sync {D : Dk} (h : D.Ok) : D.sync.1.Ok := by
 unfold Dk.sync
 split
 ·exact h.fail
 ·exact h.burnt.synced
theorem Dk.Ok.zip {D : Dk} (h : D.Ok) (ss : List Int) : ∀ x ∈ D.pend.zip ss, 0 ≤ x.1.at_ ∧ x.1.at_ + x.1.data.length ≤ D.dur.length := fun x hx => h.fit x.1 (List.of_mem_zip hx).1
theorem Dk.Ok.crashed {D : Dk} (h : D.Ok) (ss : List Int) : (D.crashed ss).Ok where
 pos := by rw [Dk.crashed, tearAll_length _ _ (h.zip ss)]; exact h.pos
 few := by simp [Dk.crashed]
 big := by rw [Dk.crashed, tearAll_length _ _ (h.zip ss)]; exact h.big
 fit := by simp [Dk.crashed]
 lo := by simp [Dk.crashed]
 hi := by simp [Dk.crashed]
end Go.Proofs.Ytbbokpkpdnppjaa
namespace Go.Proofs.Ytbbokpkpdnppjaa
open Go.RowKit Go.Proofs.YtbbokpkpdnppjaaW.PrintWords Go.Proofs.YtbbokpkpdnppjaaW.PrintLast Go.Proofs.YtbbokpkpdnppjaaW.PrintMore
set_option linter.unusedVariables false
set_option linter.unusedSimpArgs false
structure Cl where
 g : Nat
 D : Dk
 pr : Nat → Prop
 sh : Nat → Prop
structure StsX (w0 W : World) (P : Nat → Prop) (L : List (Nat × Dk)) (xs : List Cl) : Prop where
 map : xs.map (fun x => (x.g, x.D)) = L
 one : ∀ (i : Nat) (x : Cl), xs[i]? = some x → IsDisk W w0.heap.size x.pr x.sh x.g x.D ∧ (∀ k, x.pr k → w0.heap.size ≤ k ∧ ¬ P k) ∧ ∀ k, x.sh k → ¬ P k
 two : ∀ (i j : Nat) (x y : Cl), xs[i]? = some x → xs[j]? = some y → i ≠ j → ∀ k, x.pr k → ¬ y.pr k ∧ ¬ y.sh k
 bel : Below w0.heap.size w0 W
 lt : ∀ k, P k → k < W.heap.size
def Sts (w0 W : World) (P : Nat → Prop) (L : List (Nat × Dk)) : Prop := ∃ xs, StsX w0 W P L xs
def KeepP (P : Nat → Prop) (W W1 : World) : Prop := ∀ k, P k → W1.heap[k]? = W.heap[k]?
theorem KeepP.refl (P : Nat → Prop) (W : World) : KeepP P W W := fun _ _ => rfl
theorem KeepP.trans {P : Nat → Prop} {W W1 W2 : World} (h : KeepP P W W1) (h2 : KeepP P W1 W2) : KeepP P W W2 := fun k hk => (h2 k hk).trans (h k hk)
namespace Sts
variable {w0 W W1 : World} {P : Nat → Prop} {L : List (Nat × Dk)} {i g : Nat} {D : Dk}
theorem bel (h : Sts w0 W P L) : Below w0.heap.size w0 W := by obtain ⟨_, h⟩ := h; exact h.bel
theorem lt (h : Sts w0 W P L) : ∀ k, P k → k < W.heap.size := by obtain ⟨_, h⟩ := h; exact h.lt
theorem none_ (hb : Below w0.heap.size w0 W) (hp : ∀ k, P k → k < W.heap.size) : Sts w0 W P [] := ⟨[], rfl, fun i x h => by simp at h, fun i j x y h => by simp at h, hb, hp⟩
theorem get (h : Sts w0 W P L) (hi : L[i]? = some (g, D)) : ∃ pr sh, IsDisk W w0.heap.size pr sh g D ∧ (∀ k, pr k → w0.heap.size ≤ k ∧ ¬ P k) := by
 obtain ⟨xs, h⟩ := h
 have e := hi
 rw [← h.map, List.getElem?_map] at e
 cases hx : xs[i]? with
 | none => rw [hx] at e; simp at e
 | some x =>
  rw [hx] at e
  simp only [Option.map_some, Option.some.injEq, Prod.mk.injEq] at e
  obtain ⟨rfl, rfl⟩ := e
  exact ⟨x.pr, x.sh, (h.one i x hx).1, (h.one i x hx).2.1⟩
theorem step (h : Sts w0 W P L) (hb : Below W.heap.size W W1) : Sts w0 W1 P L := by
 obtain ⟨xs, h⟩ := h
 refine ⟨xs, h.map, fun i x hx => ?_, h.two, below_step h.bel hb, fun k hk => Nat.lt_of_lt_of_le (h.lt k hk) hb.size⟩
 obtain ⟨⟨v0, v1, h1⟩, h2⟩ := h.one i x hx
 exact ⟨⟨v0, v1, h1.below hb⟩, h2⟩
theorem keepP (h : Sts w0 W P L) (hb : Below W.heap.size W W1) : KeepP P W W1 := fun k hk => hb.block k (h.lt k hk)
theorem alloc (h : Sts w0 W P L) (o : Obj) : Sts w0 (W.alloc o) P L := h.step (below_alloc (Below.refl _ _) o)
theorem drew (h : Sts w0 W P L) : Sts w0 W.drew P L := h.step (below_drew (Below.refl _ _))
theorem drewN (h : Sts w0 W P L) (n : Nat) : Sts w0 (W.drewN n) P L := h.step (pw_below_drewN (Below.refl _ _) n)
theorem mono {Q : Nat → Prop} (h : Sts w0 W P L) (hq : ∀ k, Q k → P k) : Sts w0 W Q L := by
 obtain ⟨xs, h⟩ := h
 exact ⟨xs, h.map, fun i x hx => ⟨(h.one i x hx).1, fun k hk => ⟨((h.one i x hx).2.1 k hk).1, fun hp => ((h.one i x hx).2.1 k hk).2 (hq k hp)⟩, fun k hk hp => (h.one i x hx).2.2 k hk (hq k hp)⟩, h.two, h.bel, fun k hk => h.lt k (hq k hk)⟩
theorem more {Q : Nat → Prop} (h : Sts w0 W P L) (hb : Below W.heap.size W W1) (hq : ∀ k, Q k → (P k ∨ W.heap.size ≤ k) ∧ k < W1.heap.size) : Sts w0 W1 Q L := by
 obtain ⟨xs, h⟩ := h
 refine ⟨xs, h.map, fun i x hx => ?_, h.two, below_step h.bel hb, fun k hk => (hq k hk).2⟩
 obtain ⟨⟨v0, v1, h1⟩, h2⟩ := h.one i x hx
 refine ⟨⟨v0, v1, h1.below hb⟩, fun k hk => ⟨(h2.1 k hk).1, fun hp => ?_⟩, fun k hk hp => ?_⟩
 ·rcases (hq k hp).1 with hq | hq
  ·exact (h2.1 k hk).2 hq
  ·have := h1.plt k hk; omega
 ·rcases (hq k hp).1 with hq | hq
  ·exact h2.2 k hk hq
  ·have := h1.slt k hk; omega
theorem turn (h : Sts w0 W P L) {pr sh : Nat → Prop} {D' : Dk} (hi : L[i]? = some (g, D)) {xs : List Cl} (hx : StsX w0 W P L xs) (hget : xs[i]? = some ⟨g, D, pr, sh⟩) (hl : Left W w0.heap.size pr sh g D' W1) : Sts w0 W1 P (L.set i (g, D')) ∧ KeepP P W W1 := by
 obtain ⟨pr', sh', h4, h5, h6, h7⟩ := hl
 obtain ⟨⟨v0, v1, hd⟩, hp, hps⟩ := hx.one i _ hget
 have hil : i < xs.length := (List.getElem?_eq_some_iff.1 hget).1
 refine ⟨⟨xs.set i ⟨g, D', pr', sh'⟩, ?_, fun j x hj => ?_, fun j j2 x y hj hj2 hne k hk => ?_, h7.below hx.bel (fun k hk => (hp k hk).1) hx.bel.size, fun k hk => Nat.lt_of_lt_of_le (hx.lt k hk) h7.size⟩, fun k hk => h7.block k (hx.lt k hk) (fun hpk => (hp k hpk).2 hk)⟩
 ·rw [List.map_set, hx.map]
 ·rw [List.getElem?_set] at hj
  by_cases hij : i = j
  ·rw [if_pos hij, if_pos (hij ▸ hil)] at hj
   injection hj with hj
   subst hj
   refine ⟨h4, fun k hk => ?_, fun k hk => ?_⟩
   ·rcases h5 k hk with h | h
    ·exact hp k h
    ·exact ⟨Nat.le_trans hx.bel.size h, fun hpk => by have := hx.lt k hpk; omega⟩
   ·rcases h6 k hk with h | h
    ·exact hps k h
    ·exact fun hpk => by have := hx.lt k hpk; omega
  ·rw [if_neg hij] at hj
   obtain ⟨⟨u0, u1, hy⟩, hy2⟩ := hx.one j x hj
   exact ⟨⟨u0, u1, hy.kp h7 (fun k hk _ hpk => hk.elim (hx.two i j _ x hget hj hij k hpk).1 (hx.two i j _ x hget hj hij k hpk).2)⟩, hy2⟩
 ·rw [List.getElem?_set] at hj hj2
  by_cases hij : i = j
  ·rw [if_pos hij, if_pos (hij ▸ hil)] at hj
   rw [if_neg (by omega)] at hj2
   injection hj with hj
   subst hj
   obtain ⟨⟨u0, u1, hy⟩, _⟩ := hx.one j2 y hj2
   rcases h5 k hk with h | h
   ·exact hx.two i j2 _ y hget hj2 (by omega) k h
   ·exact ⟨fun h8 => by have := hy.plt k h8; omega, fun h8 => by have := hy.slt k h8; omega⟩
  ·rw [if_neg hij] at hj
   obtain ⟨⟨u0, u1, hy⟩, _⟩ := hx.one j x hj
   have hkl := hy.plt k hk
   by_cases hij2 : i = j2
   ·rw [if_pos hij2, if_pos (hij2 ▸ hil)] at hj2
    injection hj2 with hj2
    subst hj2
    have hz := hx.two j i x _ hj hget (by omega) k hk
    exact ⟨fun h8 => (h5 k h8).elim hz.1 (fun h => by omega), fun h8 => (h6 k h8).elim hz.2 (fun h => by omega)⟩
   ·rw [if_neg hij2] at hj2
    exact hx.two j j2 x y hj hj2 hne k hk
theorem cons (h : Sts w0 W P L) {pr sh : Nat → Prop} (hb : Below W.heap.size W W1) (hd : IsDisk W1 w0.heap.size pr sh g D) (hp : ∀ k, pr k → W.heap.size ≤ k) (hs : ∀ k, sh k → W.heap.size ≤ k) : Sts w0 W1 P ((g, D) :: L) := by
 have hz := h.bel.size
 obtain ⟨xs, h⟩ := h
 refine ⟨⟨g, D, pr, sh⟩ :: xs, by simp [h.map], fun i x hx => ?_, fun i j x y hx hy hij k hk => ?_, below_step h.bel hb, fun k hk => Nat.lt_of_lt_of_le (h.lt k hk) hb.size⟩
 ·cases i with
  | zero =>
   simp only [List.getElem?_cons_zero, Option.some.injEq] at hx
   subst hx
   exact ⟨hd, fun k hk => ⟨Nat.le_trans hz (hp k hk), fun hpk => by have := h.lt k hpk; have := hp k hk; omega⟩, fun k hk hpk => by have := h.lt k hpk; have := hs k hk; omega⟩
  | succ i =>
   obtain ⟨⟨v0, v1, h1⟩, h2⟩ := h.one i x (by simpa using hx)
   exact ⟨⟨v0, v1, h1.below hb⟩, h2⟩
 ·cases i with
  | zero =>
   cases j with
   | zero => exact absurd rfl hij
   | succ j =>
    simp only [List.getElem?_cons_zero, Option.some.injEq] at hx
    subst hx
    obtain ⟨⟨u0, u1, hy1⟩, _⟩ := h.one j y (by simpa using hy)
    have := hp k hk
    exact ⟨fun h8 => by have := hy1.plt k h8; omega, fun h8 => by have := hy1.slt k h8; omega⟩
  | succ i =>
   obtain ⟨⟨u0, u1, hx1⟩, _⟩ := h.one i x (by simpa using hx)
   have := hx1.plt k hk
   cases j with
   | zero =>
    simp only [List.getElem?_cons_zero, Option.some.injEq] at hy
    subst hy
    exact ⟨fun h8 => by have := hp k h8; omega, fun h8 => by have := hs k h8; omega⟩
   | succ j => exact h.two i j x y (by simpa using hx) (by simpa using hy) (by omega) k hk
theorem poke (h : Sts w0 W P L) (b : Nat) (hb : P b) (hw : w0.heap.size ≤ b) (j : Nat) (u : Value) : Sts w0 (W.setCell ⟨b, j, none⟩ u) P L := by
 obtain ⟨xs, h⟩ := h
 refine ⟨xs, h.map, fun i x hx => ?_, h.two, h.bel.setCell hw _, fun k hk => by simpa [World.setCell] using h.lt k hk⟩
 obtain ⟨⟨v0, v1, h1⟩, h2, h3⟩ := h.one i x hx
 refine ⟨⟨v0, v1, h1.step (fun k hk _ => Below.heap_setCell W ⟨b, j, none⟩ u k (fun e => ?_))⟩, h2, h3⟩
 have e' : k = b := e
 subst e'
 exact hk.elim (fun hp => (h2 k hp).2 hb) (fun hs => h3 k hs hb)
/-! The calls. -/
theorem opened (h : Sts w0 W P L) (hi : L[i]? = some (g, D)) : ∃ xs pr sh, StsX w0 W P L xs ∧ xs[i]? = some ⟨g, D, pr, sh⟩ := by
 obtain ⟨xs, h⟩ := h
 have e := hi
 rw [← h.map, List.getElem?_map] at e
 cases hx : xs[i]? with
 | none => rw [hx] at e; simp at e
 | some x =>
  rw [hx] at e
  simp only [Option.map_some, Option.some.injEq, Prod.mk.injEq] at e
  obtain ⟨rfl, rfl⟩ := e
  exact ⟨xs, x.pr, x.sh, h, hx⟩
theorem size (h : Sts w0 W P L) (i : Nat) (hi : L[i]? = some (g, D)) : Calls Try.prog 17 #[.pointer (some ⟨g, 0, none⟩)] W fun e w' => e = .returned (.int .i64 D.dur.length) ∧ W = w' := by
 obtain ⟨pr, sh, h, _⟩ := h.get hi; exact Size_calls h
theorem pending (h : Sts w0 W P L) (i : Nat) (hi : L[i]? = some (g, D)) : Calls Try.prog 26 #[.pointer (some ⟨g, 0, none⟩)] W fun e w' => e = .returned (.int .i64 D.pend.length) ∧ W = w' := by
 obtain ⟨pr, sh, h, _⟩ := h.get hi; exact Pending_calls h
theorem failed (h : Sts w0 W P L) (i : Nat) (hi : L[i]? = some (g, D)) : Calls Try.prog 28 #[.pointer (some ⟨g, 0, none⟩)] W fun e w' => e = .returned (.bool D.failed) ∧ W = w' := by
 obtain ⟨pr, sh, h, _⟩ := h.get hi; exact Failed_calls h
theorem failAfter (h : Sts w0 W P L) (i : Nat) (hi : L[i]? = some (g, D)) (n : Int) : Calls Try.prog 27 #[.pointer (some ⟨g, 0, none⟩), .int .i64 n] W fun e w' => e = .returned (.tuple #[]) ∧ Sts w0 w' P (L.set i (g, D.after n)) ∧ KeepP P W w' := by
 obtain ⟨xs, pr, sh, hX, hg⟩ := h.opened hi
 refine (FailAfter_calls n (hX.one i _ hg).1).mono ?_
 rintro e w' ⟨rfl, h4, h5⟩
 exact ⟨rfl, h.turn hi hX hg (Left.same h4 h5)⟩
theorem write (h : Sts w0 W P L) (i : Nat) (hi : L[i]? = some (g, D)) (hok : D.Ok) (at_ : Int) (A : Option Addr) (c : Nat) (l : List Int) (hC : Kd.C (Kd.int .u8) W A l.length l) (hA : ∀ a, A = some a → 0 < l.length → a.block < w0.heap.size ∨ P a.block)
  (hc : l.length ≤ c) (hl : l.length ≤ 140737488355328) : Calls Try.prog 19 #[.pointer (some ⟨g, 0, none⟩), .int .i64 at_, .slice A l.length c] W fun e w' => e = .returned (.int .i64 (D.write at_ l).2) ∧ Sts w0 w' P (L.set i (g, (D.write at_ l).1)) ∧ KeepP P W w' := by
 obtain ⟨xs, pr, sh, hX, hg⟩ := h.opened hi
 obtain ⟨h1, h2, _⟩ := hX.one i _ hg
 refine (Write_calls at_ A c l h1 h.bel.size hC hc hl hok.few hok.hi (fun a ha h0 hp => ?_)).mono ?_
 ·have := h2 _ hp
  rcases hA a ha h0 with h | h
  ·omega
  ·exact this.2 h
 ·rintro e w' ⟨rfl, h4⟩
  exact ⟨rfl, h.turn hi hX hg h4⟩
theorem arg_block {k : IntKind} {A : Option Addr} {l : List Int} (hC : Kd.C (Kd.int k) w0 A l.length l) : ∀ a, A = some a → 0 < l.length → a.block < w0.heap.size := fun a ha h0 => by
 subst ha
 obtain ⟨ad, e, hcell⟩ := Kd.at_int hC 0 (by omega) (by omega)
 injection e with e
 subst e
 have := World.block_lt_of_cell? _ _ hcell
 rwa [add_block] at this
theorem sync (h : Sts w0 W P L) (i : Nat) (hi : L[i]? = some (g, D)) (hok : D.Ok) : Calls Try.prog 25 #[.pointer (some ⟨g, 0, none⟩)] W fun e w' => e = .returned (.int .i64 D.sync.2) ∧ Sts w0 w' P (L.set i (g, D.sync.1)) ∧ KeepP P W w' := by
 obtain ⟨xs, pr, sh, hX, hg⟩ := h.opened hi
 refine (Sync_calls (hX.one i _ hg).1 hok).mono ?_
 rintro e w' ⟨rfl, h4⟩
 exact ⟨rfl, h.turn hi hX hg h4⟩
theorem crash (h : Sts w0 W P L) (i : Nat) (hi : L[i]? = some (g, D)) (hok : D.Ok) (A : Option Addr) (c : Nat) (ss : List Int) (hC : Kd.C (Kd.int .i64) W A ss.length ss) (hA : ∀ a, A = some a → 0 < ss.length → a.block < w0.heap.size ∨ P a.block) :
  Calls Try.prog 22 #[.pointer (some ⟨g, 0, none⟩), .slice A ss.length c] W fun e w' => e = .returned (.tuple #[]) ∧ Sts w0 w' P (L.set i (g, D.crashed ss)) ∧ KeepP P W w' := by
 obtain ⟨xs, pr, sh, hX, hg⟩ := h.opened hi
 obtain ⟨h1, h2, _⟩ := hX.one i _ hg
 refine (Crash_calls A c ss h1 hok hC (fun a ha h0 hp => ?_)).mono ?_
 ·have := h2 _ hp
  rcases hA a ha h0 with h | h
  ·omega
  ·exact this.2 h
 ·rintro e w' ⟨rfl, h4⟩
  exact ⟨rfl, h.turn hi hX hg h4⟩
theorem crash_arg (h : Sts w0 W P L) (i : Nat) (hi : L[i]? = some (g, D)) (hok : D.Ok) (A : Option Addr) (c : Nat) (ss : List Int) (hC : Kd.C (Kd.int .i64) w0 A ss.length ss) :
  Calls Try.prog 22 #[.pointer (some ⟨g, 0, none⟩), .slice A ss.length c] W fun e w' => e = .returned (.tuple #[]) ∧ Sts w0 w' P (L.set i (g, D.crashed ss)) ∧ KeepP P W w' :=
 h.crash i hi hok A c ss (Kd.C_below hC h.bel) (fun a ha h0 => .inl (arg_block hC a ha h0))
theorem read (h : Sts w0 W P L) (i : Nat) (hi : L[i]? = some (g, D)) (hok : D.Ok) (at_ n : Int) : Calls Try.prog 18 #[.pointer (some ⟨g, 0, none⟩), .int .i64 at_, .int .i64 n] W (St.Got W (D.read at_ n)) := by
 obtain ⟨pr, sh, h1, h2⟩ := h.get hi
 exact St.read at_ n (w0 := w0) ⟨pr, sh, h1, fun k hk => (h2 k hk).1, h.bel⟩ hok
theorem new (h : Sts w0 W P L) (n : Nat) (h1 : 1 ≤ n) (h2 : n ≤ 4194304) :
  Calls Try.prog 15 #[.int .i64 (n : Int)] W fun e w' => ∃ g, e = .returned (.tuple #[.pointer (some ⟨g, 0, none⟩), .int .i64 0]) ∧ Sts w0 w' P ((g, Dk.fresh n) :: L) ∧ KeepP P W w' := by
 have hB := h.bel
 refine (New_good n W h1 h2).mono ?_
 rintro e w' ⟨g, pr, rfl, ⟨v0, v1, hd⟩, hp, hb⟩
 refine ⟨g, rfl, h.cons hb ⟨v0, v1, ?_⟩ hp (sh := fun _ => False) (fun _ hk => hk.elim), h.keepP hb⟩
 exact { hd with hbase := Nat.le_trans hB.size hd.hbase, dur := Kd.R_lower hd.dur hB.size, pend := hd.pend.lower hB.size }
end Sts
end Go.Proofs.Ytbbokpkpdnppjaa
