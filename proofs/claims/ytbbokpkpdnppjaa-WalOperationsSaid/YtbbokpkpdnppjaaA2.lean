/- Texts of one proof. -/
import Derived.Test.YtbbokpkpdnppjaaUA
import Derived.Test.YtbbokpkpdnppjaaProg
import Derived.WalkKit
import Derived.WalkSpells
import Derived.KernelRfl
import Derived.Outline
import Derived.BigQuiet
import Derived.Deep.QuietTactic
import Derived.Deep.LoopGhost
import Derived.Laws.CopyOwn
import Derived.StillTailTactics
import Derived.Test.YtbbokpkpdnppjaaWWords
import Derived.Test.YtbbokpkpdnppjaaWLast
import Derived.Test.YtbbokpkpdnppjaaWMore
import Derived.Test.YtbbokpkpdnppjaaWShare
namespace Go.Proofs.Ytbbokpkpdnppjaa
open Go.RowKit Go.Proofs.YtbbokpkpdnppjaaW.PrintWords Go.Proofs.YtbbokpkpdnppjaaW.PrintLast Go.Proofs.YtbbokpkpdnppjaaW.PrintMore
set_option linter.unusedVariables false
set_option linter.unusedSimpArgs false
theorem info5 : (Try.prog.info? 5).map (fun i => (i.zero, i.size, i.bytes)) = some (some (.int .u8 0), 1, 1) := by kernel_rfl
theorem C_none {w : World} {n : Nat} {l : List Int} {k : IntKind} (h : Kd.C (Kd.int k) w none n l) : l = [] := by
 obtain ⟨h1, h2, h3⟩ := h
 rcases Nat.eq_zero_or_pos n with h0 | h0
 ·exact List.eq_nil_of_length_eq_zero (by omega)
 ·obtain ⟨ad, e, _⟩ := h3 h0
  cases e
/-! ### bytes.Clone -/
set_option maxHeartbeats 400000 in
theorem bytesClone_calls (A : Option Addr) (c : Nat) (l : List Int) (w : World) (hr : Kd.C (Kd.int .u8) w A l.length l) (hc : l.length ≤ c) (hlim : l.length ≤ 140737488355328) :
  Calls Try.prog 55 #[.slice A l.length c] w fun e w' => ∃ v0_ : Value, e = .returned v0_ ∧ Kd.R (Kd.int .u8) 5 w' w.heap.size (fun _ => True) v0_ l ∧ Below w.heap.size w w' := by
 have he := fun (w : World) => Lib.run_eql_slice_nil (P := Try.prog) w 29 5 A l.length c 0 0 Try.underlying29
 cases A with
 | none =>
  obtain rfl := C_none hr
  clear hlim hr hc he
  have he := fun (w : World) => Lib.run_eql_slice_nil (P := Try.prog) w 29 5 none 0 c 0 0 Try.underlying29
  show Calls Try.prog 55 #[.slice none 0 c] w _
  go_enter Try.func55, Try.ntmps55
  go_wp2
  go_ret
  exact ⟨_, rfl, Kd.R_nil _ _ _ _ _, Below.refl _ _⟩
 | some a =>
  have HR := AM hr
  have HL := AM hlim
  clear hr hlim
  go_enter Try.func55, Try.ntmps55
  go_wp2_with (first
   | ((with_reducible refine gate_dst (N := 5) rfl ?_); refine Kd.R_lit (Kd.int .u8) _ 5 ?hg (N := 5) ?hd (xs := ([] : List Int)) (inner := []) (ok := fun _ => True) (okp := fun _ => True) ?hr ?hp (fun _ hk => hk) trivial (Below.refl _ _) (Nat.le_refl _) (by simp) ?_; (case hd => rfl); (case hg => rfl); (case hr => first | (go_simp; done) | (go_simp; rfl)); (case hp => exact (Reps.none _ _)); intro v1 w1 ho1 hb1 hg1 hnew1; have HO1 := AM ho1; have HB1 := AM hb1; clear ho1 hb1 hg1 hnew1)
   | ((with_reducible refine gate_builtin (b := .append) (xs := #[.tmp 5, .tmp 6]) rfl ?_); at_builtin; refine Kd.R_append_rows (Kd.int .u8) (w0 := w) w.heap.size rfl (.tmp 5) (.tmp 6) 29 5 (.int .u8 0) 1 rfl Try.underlying29 info5 rfl (by decide) (by omega) v1 [] l _ _ _ (fun _ => True) (fun _ => False) rfl rfl HO1.out (Kd.C_below HR.out HB1.out) (fun _ _ h => h) (fun _ h => h.elim) (fun _ _ => trivial) HB1.out HB1.out.size (by have := HL.out; simpa using this) ?_; intro v2 w2 ho2 hb2 hg2 hat2; have HO2 := AM ho2; have HB2 := AM hb2; clear ho2 hb2 hg2 hat2))
  go_ret
  exact ⟨_, rfl, HO2.out, HB2.out⟩
/-! ### What has been written is told by a set of blocks -/
structure Kp (S : Nat → Prop) (w w' : World) : Prop where
 os : w'.os = w.os
 tape : w'.tape = w.tape
 output : w'.output = w.output
 size : w.heap.size ≤ w'.heap.size
 block : ∀ k, k < w.heap.size → ¬ S k → w'.heap[k]? = w.heap[k]?
namespace Kp
variable {S S' : Nat → Prop} {w w1 w2 w0 : World} {B : Nat}
theorem refl (S : Nat → Prop) (w : World) : Kp S w w := ⟨rfl, rfl, rfl, Nat.le_refl _, fun _ _ _ => rfl⟩
theorem of_below (S : Nat → Prop) (h : Below w.heap.size w w1) : Kp S w w1 := ⟨h.os, h.tape, h.output, h.size, fun k hk _ => h.block k hk⟩
theorem mono (h : Kp S w w1) (hs : ∀ k, S k → S' k) : Kp S' w w1 := ⟨h.os, h.tape, h.output, h.size, fun k hk hn => h.block k hk (fun h => hn (hs k h))⟩
theorem trans (h : Kp S w w1) (k : Kp S' w1 w2) (hs : ∀ i, S' i → S i ∨ w.heap.size ≤ i) : Kp S w w2 :=
 ⟨k.os.trans h.os, k.tape.trans h.tape, k.output.trans h.output, Nat.le_trans h.size k.size, fun i hi hn => (k.block i (Nat.lt_of_lt_of_le hi h.size) (fun h' => (hs i h').elim hn (fun h2 => by omega))).trans (h.block i hi hn)⟩
theorem below (h : Kp S w w1) (hb : Below B w0 w) (hs : ∀ k, S k → B ≤ k) (hB : B ≤ w.heap.size) : Below B w0 w1 :=
 ⟨h.os.trans hb.os, h.tape.trans hb.tape, h.output.trans hb.output, Nat.le_trans hb.size h.size, fun k hk => (h.block k (Nat.lt_of_lt_of_le hk hB) (fun h' => by have := hs k h'; omega)).trans (hb.block k hk)⟩
theorem setCell (p : Addr) (u : Value) (hp : S p.block) : Kp S w (w.setCell p u) :=
 ⟨rfl, rfl, rfl, by simp, fun k _ hn => Below.heap_setCell w p u k (fun h => hn (h ▸ hp))⟩
theorem grown {row : Option Nat} (hg : w.grownBy w1 row) (hr : ∀ k, row = some k → S k) : Kp S w w1 :=
 ⟨hg.os, hg.tape, hg.output, hg.size, fun k hk hn => hg.block k hk (fun h => hn (hr k h.symm))⟩
theorem drew : Kp S w w.drew := of_below S (below_drew (Below.refl _ _))
theorem drewN (n : Nat) : Kp S w (w.drewN n) := of_below S (pw_below_drewN (Below.refl _ _) n)
theorem alloc (o : Obj) : Kp S w (w.alloc o) := of_below S (below_alloc (Below.refl _ _) o)
end Kp
/-! ### A disk's memory -/
structure Wr where
 at_ : Int
 data : List Int
structure Dk where
 dur : List Int
 pend : List Wr
 cnt : Int
 failed : Bool
def WrK (w : World) (sh : Nat → Prop) (x : Wr) (cs : List Value) : Prop := ∃ A c, cs = [.int .i64 x.at_, .slice A x.data.length c] ∧ x.data.length ≤ c ∧ Kd.F (Kd.int .u8) w sh A x.data.length x.data
theorem WrK.step {w w1 : World} {sh sh' : Nat → Prop} {x : Wr} {cs : List Value} (h : WrK w sh x cs) (hm : ∀ k, sh k → k < w.heap.size → w1.heap[k]? = w.heap[k]?) (hs : ∀ k, sh k → k < w.heap.size → sh' k) : WrK w1 sh' x cs := by
 obtain ⟨A, c, rfl, hc, hF⟩ := h
 exact ⟨A, c, rfl, hc, Kd.F_mono (Foot.step (Kd.F_bound hF) (fun k hk hlt => hm k hk.1 hlt)) (fun k hk => hs k hk.1 hk.2)⟩
structure DiskIs (w : World) (base : Nat) (pr sh : Nat → Prop) (g : Nat) (v0 v1 : Value) (D : Dk) : Prop where
 cell : w.heap[g]? = some (.cells #[v0, v1, .int .i64 D.cnt, .bool D.failed] 89 (0, 0))
 hbase : base ≤ g
 gpr : pr g
 dur : Kd.R (Kd.int .u8) 5 w base pr v0 D.dur
 pb : ∀ k, v1.ownBlock = some k → pr k
 pend : OwnRow (WrK w sh) 93 2 w base v1 D.pend
 sep : ∀ k, sh k → ¬ pr k
 plt : ∀ k, pr k → k < w.heap.size
 slt : ∀ k, sh k → k < w.heap.size
def IsDisk (w : World) (base : Nat) (pr sh : Nat → Prop) (g : Nat) (D : Dk) : Prop := ∃ v0 v1, DiskIs w base pr sh g v0 v1 D
theorem DiskIs.lt {w : World} {base : Nat} {pr sh : Nat → Prop} {g : Nat} {v0 v1 : Value} {D : Dk} (h : DiskIs w base pr sh g v0 v1 D) : g < w.heap.size := (Array.getElem?_eq_some_iff.1 h.cell).1
theorem DiskIs.step {w w1 : World} {base : Nat} {pr sh : Nat → Prop} {g : Nat} {v0 v1 : Value} {D : Dk} (h : DiskIs w base pr sh g v0 v1 D)
  (hm : ∀ k, pr k ∨ sh k → k < w.heap.size → w1.heap[k]? = w.heap[k]?) : DiskIs w1 base pr sh g v0 v1 D where
 cell := (hm g (.inl h.gpr) h.lt).trans h.cell
 hbase := h.hbase
 gpr := h.gpr
 dur := Kd.R_step h.dur (fun k hk hlt => hm k (.inl hk) hlt)
 pb := h.pb
 pend := by
  obtain ⟨inner, ho, hr⟩ := h.pend
  exact ⟨inner, own_move ho (fun k hk => hm k (.inl (h.pb k hk)) (own_lt ho k hk)), hr.imp_ (fun _ _ hp => hp.step (fun k hk hlt => hm k (.inr hk) hlt) (fun _ hk _ => hk))⟩
 sep := h.sep
 plt := fun k hk => heap_lt (hm k (.inl hk) (h.plt k hk)) (h.plt k hk)
 slt := fun k hk => heap_lt (hm k (.inr hk) (h.slt k hk)) (h.slt k hk)
theorem DiskIs.below {w w1 : World} {base : Nat} {pr sh : Nat → Prop} {g : Nat} {v0 v1 : Value} {D : Dk} (h : DiskIs w base pr sh g v0 v1 D) (hb : Below w.heap.size w w1) : DiskIs w1 base pr sh g v0 v1 D :=
 h.step (fun k _ hlt => hb.block k hlt)
theorem DiskIs.kp {w w1 : World} {base : Nat} {pr sh S : Nat → Prop} {g : Nat} {v0 v1 : Value} {D : Dk} (h : DiskIs w base pr sh g v0 v1 D) (hk : Kp S w w1) (hd : ∀ k, pr k ∨ sh k → k < w.heap.size → ¬ S k) : DiskIs w1 base pr sh g v0 v1 D :=
 h.step (fun k hp hlt => hk.block k hlt (hd k hp hlt))
theorem DiskIs.cells {w : World} {base : Nat} {pr sh : Nat → Prop} {g : Nat} {v0 v1 : Value} {D : Dk} (h : DiskIs w base pr sh g v0 v1 D) :
  w.cell? ⟨g, 0, none⟩ = some v0 ∧ w.cell? ⟨g, 1, none⟩ = some v1 ∧ w.cell? ⟨g, 2, none⟩ = some (.int .i64 D.cnt) ∧ w.cell? ⟨g, 3, none⟩ = some (.bool D.failed) ∧
  w.frozen? ⟨g, 0, none⟩ = false ∧ w.frozen? ⟨g, 1, none⟩ = false ∧ w.frozen? ⟨g, 2, none⟩ = false ∧ w.frozen? ⟨g, 3, none⟩ = false := by
 have hc := h.cell
 simp [World.cell?, World.frozen?, hc]
theorem DiskIs.recell {w w1 : World} {base : Nat} {pr sh : Nat → Prop} {g : Nat} {v0 v1 : Value} {D D' : Dk} (h : DiskIs w base pr sh g v0 v1 D)
  (hc : w1.heap[g]? = some (.cells #[v0, v1, .int .i64 D'.cnt, .bool D'.failed] 89 (0, 0))) (hm : ∀ k, k ≠ g → pr k ∨ sh k → k < w.heap.size → w1.heap[k]? = w.heap[k]?)
  (hd : D'.dur = D.dur) (hp : D'.pend = D.pend) : DiskIs w1 base pr sh g v0 v1 D' where
 cell := hc
 hbase := h.hbase
 gpr := h.gpr
 dur := by
  rw [hd]
  exact Kd.R_mono (Kd.R_step (Kd.R_types h.dur h.cell (by decide)) (fun k hk hlt => hm k hk.2 (.inl hk.1) hlt)) (fun _ hk => hk.1)
 pb := h.pb
 pend := by
  rw [hp]
  obtain ⟨inner, ho, hr⟩ := h.pend
  exact ⟨inner, own_move ho (fun k hk => hm k (fun e => own_ne ho h.cell (by decide) (by rw [hk, e])) (.inl (h.pb k hk)) (own_lt ho k hk)), hr.imp_ (fun _ _ hp => hp.step (fun k hk hlt => hm k (fun e => h.sep k hk (e ▸ h.gpr)) (.inr hk) hlt) (fun _ hk _ => hk))⟩
 sep := h.sep
 plt := fun k hk => by
  by_cases e : k = g
  ·subst e; exact blk_lt hc
  ·exact heap_lt (hm k e (.inl hk) (h.plt k hk)) (h.plt k hk)
 slt := fun k hk => by
  by_cases e : k = g
  ·subst e; exact blk_lt hc
  ·exact heap_lt (hm k e (.inr hk) (h.slt k hk)) (h.slt k hk)
theorem DiskIs.setCnt {w : World} {base : Nat} {pr sh : Nat → Prop} {g : Nat} {v0 v1 : Value} {D : Dk} (h : DiskIs w base pr sh g v0 v1 D) (n : Int) :
  DiskIs (w.setCell ⟨g, 2, none⟩ (.int .i64 n)) base pr sh g v0 v1 { D with cnt := n } :=
 h.recell (by rw [blk_set h.cell]; rfl) (fun k hk _ _ => Below.heap_setCell w ⟨g, 2, none⟩ _ k hk) rfl rfl
theorem DiskIs.setFailed {w : World} {base : Nat} {pr sh : Nat → Prop} {g : Nat} {v0 v1 : Value} {D : Dk} (h : DiskIs w base pr sh g v0 v1 D) (b : Bool) :
  DiskIs (w.setCell ⟨g, 3, none⟩ (.bool b)) base pr sh g v0 v1 { D with failed := b } :=
 h.recell (by rw [blk_set h.cell]; rfl) (fun k hk _ _ => Below.heap_setCell w ⟨g, 3, none⟩ _ k hk) rfl rfl
theorem DiskIs.dropPend {w : World} {base : Nat} {pr sh : Nat → Prop} {g : Nat} {v0 v1 : Value} {D : Dk} (h : DiskIs w base pr sh g v0 v1 D) :
  DiskIs (w.setCell ⟨g, 1, none⟩ (.slice none 0 0)) base pr sh g v0 (.slice none 0 0) { D with pend := [] } where
 cell := by rw [blk_set h.cell]; rfl
 hbase := h.hbase
 gpr := h.gpr
 dur := Kd.R_mono (Kd.R_step (Kd.R_types h.dur h.cell (by decide)) (fun k hk _ => Below.heap_setCell w ⟨g, 1, none⟩ _ k hk.2)) (fun _ hk => hk.1)
 pb := fun k hk => by simp [Value.ownBlock] at hk
 pend := OwnRow.none_ _ _ _ _ _
 sep := h.sep
 plt := fun k hk => by simpa [World.setCell] using h.plt k hk
 slt := fun k hk => by simpa [World.setCell] using h.slt k hk
def Dk.wrote (D : Dk) (at_ : Int) (l : List Int) : Dk := { D with pend := D.pend ++ [⟨at_, l⟩] }
def Ext (w : World) (p p' : Nat → Prop) : Prop := ∀ k, p' k → p k ∨ w.heap.size ≤ k
theorem R_own_ok {k : IntKind} {e : Nat} {w : World} {base : Nat} {ok : Nat → Prop} {v : Value} {xs : List Int} (h : Kd.R (Kd.int k) e w base ok v xs) : Kd.R (Kd.int k) e w base (fun k => v.ownBlock = some k) v xs :=
 ⟨fun _ hk => hk, h.2.imp_ (fun _ _ hp => hp)⟩
theorem DiskIs.push {w w1 w2 : World} {base : Nat} {pr sh : Nat → Prop} {g : Nat} {v0 v1 : Value} {D : Dk} (h : DiskIs w base pr sh g v0 v1 D) (at_ : Int) (l : List Int) {A1 : Option Addr} {c1 gg cap : Nat} {inner : List Value} {box : Obj}
  (hb1 : Below w.heap.size w w1) (ho : Kd.R (Kd.int .u8) 5 w1 w.heap.size (fun _ => True) (.slice A1 l.length c1) l)
  (hown : w2.ownsRow base 93 2 (.slice (some ⟨gg, 0, none⟩) (D.pend.length + 1) cap) (D.pend.length + 1) (inner ++ [.int .i64 at_, .slice A1 l.length c1]))
  (hgrow : (w1.alloc box).grownBy w2 v1.ownBlock) (hat : v1.ownBlock = some gg ∨ gg = w1.heap.size + 1) (hlt : gg < w2.heap.size) (hreps : Reps (WrK w sh) 2 D.pend inner) :
  ∃ pr' sh', IsDisk (w2.setCell ⟨g, 1, none⟩ (.slice (some ⟨gg, 0, none⟩) (D.pend.length + 1) cap)) base pr' sh' g (D.wrote at_ l) ∧ Ext w pr pr' ∧ Ext w sh sh' ∧ Kp pr w (w2.setCell ⟨g, 1, none⟩ (.slice (some ⟨gg, 0, none⟩) (D.pend.length + 1) cap)) := by
 have hs1 := hb1.size
 have hs2 : w1.heap.size + 1 ≤ w2.heap.size := by have := hgrow.size; simpa using this
 -- a block of the old world that is not v1's
 have hkeep : ∀ k, k < w.heap.size → some k ≠ v1.ownBlock → w2.heap[k]? = w.heap[k]? := fun k hk hn => by
  rw [hgrow.block k (by simp; omega) hn, (below_alloc (Below.refl _ _) box : Below w1.heap.size w1 (w1.alloc box)).block k (by omega), hb1.block k hk]
 have hgv : some g ≠ v1.ownBlock := by
  obtain ⟨inner', ho', _⟩ := h.pend
  exact own_ne ho' h.cell (by decide)
 have hcell2 : w2.heap[g]? = some (.cells #[v0, v1, .int .i64 D.cnt, .bool D.failed] 89 (0, 0)) := (hkeep g h.lt hgv).trans h.cell
 have hggg : gg ≠ g := by
  rintro rfl
  rcases hat with hat | hat
  ·exact hgv hat.symm
  ·have := h.lt; omega
 have hv1w : ∀ k, v1.ownBlock = some k → k < w.heap.size := fun k hk => h.plt k (h.pb k hk)
 have hnew : ∀ k, (Value.slice A1 l.length c1).ownBlock = some k → w.heap.size ≤ k ∧ k < w1.heap.size := fun k hk => ⟨Kd.R_base ho k hk, Kd.R_lt ho k hk⟩
 have hggcase : pr gg ∨ w.heap.size ≤ gg := by
  rcases hat with hat | hat
  ·exact .inl (h.pb gg hat)
  ·exact .inr (by omega)
 -- the new data's row is kept
 have hdk : ∀ k, (Value.slice A1 l.length c1).ownBlock = some k → k ≠ gg ∧ w2.heap[k]? = w1.heap[k]? := fun k hk => by
  obtain ⟨h1, h2⟩ := hnew k hk
  have hne : some k ≠ v1.ownBlock := fun e => by have := hv1w k e.symm; omega
  refine ⟨fun e => ?_, ?_⟩
  ·subst e
   rcases hat with hat | hat
   ·exact hne hat.symm
   ·omega
  ·rw [hgrow.block k (by simp; omega) hne, (below_alloc (Below.refl _ _) box : Below w1.heap.size w1 (w1.alloc box)).block k (by omega)]
 generalize hu : (Value.slice (some ⟨gg, 0, none⟩) (D.pend.length + 1) cap) = u at hown ⊢
 have hF : Kd.F (Kd.int .u8) (w2.setCell ⟨g, 1, none⟩ u) (fun k => (Value.slice A1 l.length c1).ownBlock = some k) A1 l.length l := by
  refine Kd.R_F (e := 5) (base := w.heap.size) (cc := c1) (Kd.R_step (R_own_ok ho) (fun k hk hlt => ?_))
  rw [Below.heap_setCell w2 ⟨g, 1, none⟩ u k (fun e => by have := hnew k hk; have := h.lt; simp at e; omega)]
  exact (hdk k hk).2
 refine ⟨fun k => pr k ∨ k = gg, fun k => sh k ∨ (Value.slice A1 l.length c1).ownBlock = some k, ⟨v0, u, ?_⟩, ?_, ?_, ?_⟩
 ·exact {
   cell := by rw [blk_set hcell2]; rfl
   hbase := h.hbase
   gpr := .inl h.gpr
   dur := by
    obtain ⟨in0, ho0⟩ := Kd.R_own h.dur
    obtain ⟨in1, ho1, _⟩ := h.pend
    refine Kd.R_mono (Kd.R_step (R_own_ok h.dur) (fun k hk hlt => ?_)) (fun k hk => .inl (h.dur.1 k hk))
    rw [Below.heap_setCell w2 ⟨g, 1, none⟩ u k (fun e => own_ne ho0 h.cell (by decide) (by rw [hk, e]))]
    refine hkeep k hlt (fun e => ?_)
    rcases own_type_ne ho0 ho1 (by decide) with h2 | h2
    ·rw [hk] at h2; cases h2
    ·exact h2 (by rw [hk, e])
   pb := fun k hk => by subst hu; simp [Value.ownBlock] at hk; exact .inr hk.symm
   pend := by
    have hg2 : some g ≠ u.ownBlock := by subst hu; simp only [Value.ownBlock]; intro e; injection e with e; exact hggg e.symm
    refine ⟨inner ++ [.int .i64 at_, .slice A1 l.length c1], by simpa [Dk.wrote] using own_setCell hown (p := ⟨g, 1, none⟩) hg2 u, ?_⟩
    refine Reps.snoc (hreps.imp_ (fun x cs hx => hx.step (fun k hk hlt => ?_) (fun k hk _ => .inl hk))) ⟨A1, c1, rfl, (Kd.R_reads' ho).2.1, Kd.F_mono hF (fun k hk => .inr hk)⟩ rfl
    rw [Below.heap_setCell w2 ⟨g, 1, none⟩ u k (fun e => h.sep k hk (e ▸ h.gpr))]
    exact hkeep k hlt (fun e => h.sep k hk (h.pb k e.symm))
   sep := fun k hk => by
    rintro (hp | rfl)
    ·rcases hk with hk | hk
     ·exact h.sep k hk hp
     ·have := h.plt k hp; have := hnew k hk; omega
    ·rcases hk with hk | hk
     ·rcases hat with hat | hat
      ·exact h.sep k hk (h.pb k hat)
      ·have := h.slt k hk; omega
     ·exact (hdk k hk).1 rfl
   plt := fun k hk => by
    simp only [World.size_setCell]
    rcases hk with hk | rfl
    ·have := h.plt k hk; omega
    ·exact hlt
   slt := fun k hk => by
    simp only [World.size_setCell]
    rcases hk with hk | hk
    ·have := h.slt k hk; omega
    ·have := hnew k hk; omega }
 ·rintro k (hk | rfl)
  ·exact .inl hk
  ·exact hggcase
 ·rintro k (hk | hk)
  ·exact .inl hk
  ·exact .inr (hnew k hk).1
 ·refine Kp.trans (S := pr) (S' := fun k => k = g) ?_ (Kp.setCell _ _ rfl) (fun i hi => .inl (hi ▸ h.gpr))
  refine ⟨hgrow.os.trans hb1.os, hgrow.tape.trans hb1.tape, hgrow.output.trans hb1.output, by omega, fun k hk hn => hkeep k hk (fun e => hn (h.pb k e.symm))⟩
end Go.Proofs.Ytbbokpkpdnppjaa
namespace Go.Proofs.Ytbbokpkpdnppjaa
open Go.RowKit Go.Proofs.YtbbokpkpdnppjaaW.PrintWords Go.Proofs.YtbbokpkpdnppjaaW.PrintLast Go.Proofs.YtbbokpkpdnppjaaW.PrintMore
set_option linter.unusedVariables false
set_option linter.unusedSimpArgs false
section
variable {w : World} {base : Nat} {pr sh : Nat → Prop} {g : Nat} {v0 v1 : Value} {D : Dk}
theorem DiskIs.v0_form (h : DiskIs w base pr sh g v0 v1 D) : ∃ A c, v0 = .slice A D.dur.length c ∧ D.dur.length ≤ c ∧ Kd.C (Kd.int .u8) w A D.dur.length D.dur := Kd.R_reads h.dur
theorem DiskIs.v1_form (h : DiskIs w base pr sh g v0 v1 D) : ∃ A c, v1 = .slice A D.pend.length c ∧ D.pend.length ≤ c := OwnRow.slice_ h.pend
theorem Size_calls (h : IsDisk w base pr sh g D) : Calls Try.prog 17 #[.pointer (some ⟨g, 0, none⟩)] w fun e w' => e = .returned (.int .i64 D.dur.length) ∧ w = w' := by
 obtain ⟨v0, v1, h⟩ := h
 obtain ⟨c0, c1, c2, c3, _⟩ := h.cells
 obtain ⟨A, c, rfl, _⟩ := h.v0_form
 clear h
 go_enter Try.func17, Try.ntmps17
 go_wp2
 go_ret
 exact ⟨rfl, rfl⟩
theorem Pending_calls (h : IsDisk w base pr sh g D) : Calls Try.prog 26 #[.pointer (some ⟨g, 0, none⟩)] w fun e w' => e = .returned (.int .i64 D.pend.length) ∧ w = w' := by
 obtain ⟨v0, v1, h⟩ := h
 obtain ⟨c0, c1, c2, c3, _⟩ := h.cells
 obtain ⟨A, c, rfl, _⟩ := h.v1_form
 clear h
 go_enter Try.func26, Try.ntmps26
 go_wp2
 go_ret
 exact ⟨rfl, rfl⟩
theorem Failed_calls (h : IsDisk w base pr sh g D) : Calls Try.prog 28 #[.pointer (some ⟨g, 0, none⟩)] w fun e w' => e = .returned (.bool D.failed) ∧ w = w' := by
 obtain ⟨v0, v1, h⟩ := h
 obtain ⟨c0, c1, c2, c3, _⟩ := h.cells
 clear h
 go_enter Try.func28, Try.ntmps28
 go_wp2
 go_ret
 exact ⟨rfl, rfl⟩
def insd (n : Nat) (at_ m : Int) : Bool := decide (0 ≤ at_) && (decide (0 ≤ m) && (decide (at_ ≤ n) && decide (m ≤ n - at_)))
theorem DiskIs.len (h : DiskIs w base pr sh g v0 v1 D) : D.dur.length ≤ 9223372036854775807 := by
 obtain ⟨A, c, _, _, hC⟩ := h.v0_form
 exact hC.2.1
set_option maxHeartbeats 400000 in
theorem inside_calls (at_ m : Int) (h : IsDisk w base pr sh g D) :
  Calls Try.prog 54 #[.pointer (some ⟨g, 0, none⟩), .int .i64 at_, .int .i64 m] w fun e w' => e = .returned (.bool (insd D.dur.length at_ m)) ∧ w = w' := by
 have hS := Aside0.mk (Size_calls h)
 obtain ⟨v0, v1, h⟩ := h
 have hl := h.len
 clear h
 by_cases h1 : 0 ≤ at_
 ·by_cases h2 : 0 ≤ m
  ·by_cases h3 : at_ ≤ D.dur.length
   ·go_enter Try.func54, Try.ntmps54
    go_wp2_with (first | (go_at_call 17; refine (hS.out).mono ?_; rintro e w' ⟨rfl, rfl⟩))
    go_ret
    exact ⟨by simp [insd, h1, h2, h3], rfl⟩
   ·go_enter Try.func54, Try.ntmps54
    go_wp2_with (first | (go_at_call 17; refine (hS.out).mono ?_; rintro e w' ⟨rfl, rfl⟩))
    go_ret
    exact ⟨by simp [insd, h1, h2]; omega, rfl⟩
  ·go_enter Try.func54, Try.ntmps54
   go_wp2_with (first | (go_at_call 17; refine (hS.out).mono ?_; rintro e w' ⟨rfl, rfl⟩))
   go_ret
   exact ⟨by simp [insd, h1]; omega, rfl⟩
 ·go_enter Try.func54, Try.ntmps54
  go_wp2_with (first | (go_at_call 17; refine (hS.out).mono ?_; rintro e w' ⟨rfl, rfl⟩))
  go_ret
  exact ⟨by simp [insd]; omega, rfl⟩
def Dk.after (D : Dk) (n : Int) : Dk := { D with cnt := if n < -1 then -1 else n }
theorem FailAfter_calls (n : Int) (h : IsDisk w base pr sh g D) :
  Calls Try.prog 27 #[.pointer (some ⟨g, 0, none⟩), .int .i64 n] w fun e w' => e = .returned (.tuple #[]) ∧ IsDisk w' base pr sh g (D.after n) ∧ Kp pr w w' := by
 obtain ⟨v0, v1, h⟩ := h
 obtain ⟨c0, c1, c2, c3, f0, f1, f2, f3⟩ := h.cells
 have H := Aside0.mk h
 clear h
 go_enter Try.func27, Try.ntmps27
 go_wp2
 ·go_end0
  exact ⟨rfl, ⟨v0, v1, by have := H.out.setCnt (-1); simpa [Dk.after, h] using this⟩, Kp.setCell _ _ H.out.gpr⟩
 ·go_end0
  exact ⟨rfl, ⟨v0, v1, by have := H.out.setCnt n; simpa [Dk.after, show ¬ n < -1 by omega] using this⟩, Kp.setCell _ _ H.out.gpr⟩
end
end Go.Proofs.Ytbbokpkpdnppjaa
