/- Contracts of the disk's calls that write: Write, Sync. -/
import Derived.Test.YtbbokpkpdnppjaaU0
import Derived.Test.YtbbokpkpdnppjaaUA
import Derived.Test.YtbbokpkpdnppjaaA2
import Derived.Deep.RegionHeld3
import Derived.Deep.AppendLies
import Derived.Deep.DeepMust
namespace Go.Proofs.Ytbbokpkpdnppjaa
open Go.RowKit Go.Proofs.YtbbokpkpdnppjaaW.PrintWords Go.Proofs.YtbbokpkpdnppjaaW.PrintLast Go.Proofs.YtbbokpkpdnppjaaW.PrintMore
set_option linter.unusedVariables false
set_option linter.unusedSimpArgs false
section
variable {w : World} {base : Nat} {pr sh : Nat → Prop} {g : Nat} {v0 v1 : Value} {D : Dk}
theorem call_fail (F : Value) (h : IsDisk w base pr sh g D) (hf : D.failed = true ∨ D.cnt = 0) :
  Calls Try.prog 56 #[.pointer (some ⟨g, 0, none⟩), F] w fun e w' => e = .returned (.int .i64 11) ∧ IsDisk w' base pr sh g { D with failed := true } ∧ Kp pr w w' := by
 obtain ⟨v0, v1, h⟩ := h
 obtain ⟨c0, c1, c2, c3, f0, f1, f2, f3⟩ := h.cells
 have H := AM h
 clear h
 by_cases hc : D.cnt = 0
 ·rw [hc] at c2
  clear hf hc
  go_enter Try.func56, Try.ntmps56
  go_wp2
  go_ret
  exact ⟨rfl, ⟨v0, v1, H.out.setFailed true⟩, Kp.setCell _ _ H.out.gpr⟩
 ·have hf' : D.failed = true := by rcases hf with h | h; exact h; exact absurd h hc
  rw [hf'] at c3
  have hcb : (D.cnt == 0) = false := beq_eq_false_iff_ne.2 hc
  have HE : Aside0 (D = { D with failed := true }) := ⟨by rw [← hf']⟩
  clear hf hc hf'
  go_enter Try.func56, Try.ntmps56
  go_wp2
  go_ret
  exact ⟨rfl, ⟨v0, v1, by rw [← HE.out]; exact H.out⟩, Kp.refl _ _⟩
def Dk.burnt (D : Dk) : Dk := { D with cnt := if 0 < D.cnt then D.cnt - 1 else D.cnt }
theorem call_ok (f : Nat) (caps : Array Value) (Q : World → Prop) (h : IsDisk w base pr sh g D) (hf : D.failed = false) (hc : D.cnt ≠ 0) (hw : D.cnt ≤ 9223372036854775807) (hcf : ∀ W : World, (callFunc f caps).run Try.prog W = .ok (.enter f caps) W)
  (hrun : ∀ w1, IsDisk w1 base pr sh g D.burnt → Kp pr w w1 → Calls Try.prog f caps w1 fun e w2 => e = .returned (.tuple #[]) ∧ Q w2) :
  Calls Try.prog 56 #[.pointer (some ⟨g, 0, none⟩), .func (.func f) #[] caps] w fun e w' => e = .returned (.int .i64 0) ∧ Q w' := by
 obtain ⟨v0, v1, h⟩ := h
 obtain ⟨c0, c1, c2, c3, f0, f1, f2, f3⟩ := h.cells
 rw [hf] at c3
 have H := AM h
 have HR := AM hrun
 have hcb : (D.cnt == 0) = false := beq_eq_false_iff_ne.2 hc
 clear h hrun hf hc
 by_cases hp : 0 < D.cnt
 ·have H1 := AM (HR.out (w.setCell ⟨g, 2, none⟩ (.int .i64 (D.cnt - 1))) ⟨v0, v1, by have := H.out.setCnt (D.cnt - 1); simpa [Dk.burnt, hp] using this⟩ (Kp.setCell _ _ H.out.gpr))
  go_enter Try.func56, Try.ntmps56
  go_wp2_with (first | (refine H1.out.mono ?_; rintro e w' ⟨rfl, hq⟩))
  go_ret
  exact ⟨rfl, hq⟩
 ·have H1 := AM (HR.out w ⟨v0, v1, by have := H.out; simpa [Dk.burnt, hp] using this⟩ (Kp.refl _ _))
  go_enter Try.func56, Try.ntmps56
  go_wp2_with (first | (refine H1.out.mono ?_; rintro e w' ⟨rfl, hq⟩))
  go_ret
  exact ⟨rfl, hq⟩
theorem info93 : (Try.prog.info? 93).map (fun i => (i.zero, i.size, i.bytes)) = some (some (.agg #[.int .i64 0, .slice none 0 0]), 2, 32) := by kernel_rfl
theorem step_push {w w1 : World} {ops : Array Oper} {o : Oper} {a : Act} {K : Act → World → Prop} {Q : Exit → Act → World → Prop} {E : Prop} {s x : Operand} {base n : Nat} {v : Value} {inner : List Value} {at_ : Int} {d : Value}
  (hd : d.oneCell' = true) (hgd : o.guard = none) (ho : o.op = .call { callee := .builtin .append, args := #[s, x], argTypes := #[87, 87] }) (hs : a.eval s = v) (hx : a.eval x = .slice (some ⟨w1.heap.size, 0, none⟩) 1 1)
  (hown : w.ownsRow base 93 2 v n inner) (hb1 : Below w.heap.size w w1) (hn : n ≤ 1000) (hb : base ≤ w.heap.size)
  (h : ∀ g cap w', w'.ownsRow base 93 2 (.slice (some ⟨g, 0, none⟩) (n + 1) cap) (n + 1) (inner ++ [.int .i64 at_, d]) → (w1.alloc (.cells #[.int .i64 at_, d] 93)).grownBy w' v.ownBlock → (v.ownBlock = some g ∨ g = w1.heap.size + 1) → g < w'.heap.size → K (a.put o.dst (.slice (some ⟨g, 0, none⟩) (n + 1) cap)) w') :
  if Region.wanted o (yielded ops a.tmps) = true then Oper.wp Try.prog o a (w1.alloc (.cells #[.int .i64 at_, d] 93)) K Q else E := by
 obtain ⟨i0, hi0, hz0, hz1, hz2⟩ := info_parts info93
 refine step_append_lies _ hgd _ _ _ ho base 93 i0 _ 2 32 Try.underlying87 hi0 hz0 hz1 hz2 rfl (by omega) v n inner hs ((pw_own_below hown hb1).alloc _) ⟨w1.heap.size, 0, none⟩ 1 1 [.int .i64 at_, d] hx (by rfl) (World.news_of_block (cs := #[.int .i64 at_, d]) (t := 93) (fr := (0, 0)) (heap_alloc_new w1 _)) ?_ (by omega) ?_ ?_ ?_ (w1.heap.size + 1) (by simp) h
 ·intro u hu
  simp at hu
  rcases hu with rfl | rfl
  ·rfl
  ·exact hd
 ·simp only [maxLen]; omega
 ·omega
 ·have := hb1.size; simp; omega
theorem frozen_push {w w1 w2 : World} {base : Nat} {pr sh : Nat → Prop} {g j : Nat} {v0 v1 : Value} {D : Dk} {o : Obj} (h : DiskIs w base pr sh g v0 v1 D) (hb1 : Below w.heap.size w w1) (hg : (w1.alloc o).grownBy w2 v1.ownBlock) (hne : v1.ownBlock ≠ some g) :
  w2.frozen? ⟨g, j, none⟩ = false := by
 have h1 := (hb1.block g h.lt).trans h.cell
 have h2 := ((below_alloc (Below.refl _ _) o : Below w1.heap.size w1 (w1.alloc o)).block g (blk_lt h1)).trans h1
 exact blk_frozen (blk_grown h2 hg (Ne.symm hne)) j
theorem alloc_cell {w : World} {a : Addr} {u : Value} {o : Obj} (h : w.cell? a = some u) : (w.alloc o).cell? a = some u := (World.cell?_alloc_some w a o (by rw [h]; rfl)).trans h
set_option maxRecDepth 100000 in
set_option maxHeartbeats 1000000 in
theorem Write1_calls (p3 p4 p5 : Nat) (at_ : Int) (A : Option Addr) (c : Nat) (l : List Int) (h : IsDisk w base pr sh g D) (hb : base ≤ w.heap.size)
  (b3 : w.cell? ⟨p3, 0, none⟩ = some (.pointer (some ⟨g, 0, none⟩))) (b4 : w.cell? ⟨p4, 0, none⟩ = some (.int .i64 at_)) (b5 : w.cell? ⟨p5, 0, none⟩ = some (.slice A l.length c))
  (h3 : ¬ pr p3) (h4 : ¬ pr p4) (h5 : ¬ pr p5)
  (hC : Kd.C (Kd.int .u8) w A l.length l) (hc : l.length ≤ c) (hl : l.length ≤ 140737488355328) (hn : D.pend.length ≤ 1000) :
  Calls Try.prog 57 #[.pointer (some ⟨p3, 0, none⟩), .pointer (some ⟨p4, 0, none⟩), .pointer (some ⟨p5, 0, none⟩)] w fun e w' => e = .returned (.tuple #[]) ∧ ∃ pr' sh', IsDisk w' base pr' sh' g (D.wrote at_ l) ∧ Ext w pr pr' ∧ Ext w sh sh' ∧ Kp pr w w' := by
 obtain ⟨i0, hi0, hz0, hz1, hz2⟩ := info_parts info93
 obtain ⟨v0, v1, h⟩ := h
 obtain ⟨c0, c1, c2, c3, f0, f1, f2, f3⟩ := h.cells
 have l3 := World.block_lt_of_cell? w _ b3
 have l4 := World.block_lt_of_cell? w _ b4
 have l5 := World.block_lt_of_cell? w _ b5
 have lg := World.block_lt_of_cell? w _ c1
 obtain ⟨inner, hown, hreps⟩ := h.pend
 have av3 : v1.ownBlock ≠ some p3 := fun e => h3 (h.pb p3 e)
 have av4 : v1.ownBlock ≠ some p4 := fun e => h4 (h.pb p4 e)
 have av5 : v1.ownBlock ≠ some p5 := fun e => h5 (h.pb p5 e)
 have avg : v1.ownBlock ≠ some g := fun e => own_ne hown h.cell (by decide) e.symm
 have H := AM h
 have HC := AM hC
 have HL := AM hl
 have HOWN := AM hown
 have HREPS := AM hreps
 have HN := AM hn
 have HBB := AM hb
 clear h hC hl c0 c2 c3 f0 f2 f3 hown hreps hn h3 h4 h5 hb
 go_enter Try.func57, Try.ntmps57
 go_wp2_with fail
 refine start_ (n := 14) (S := fun w' => w'.cell? ⟨p3, 0, none⟩ = some (.pointer (some ⟨g, 0, none⟩)) ∧ w'.cell? ⟨p4, 0, none⟩ = some (.int .i64 at_) ∧ w'.cell? ⟨p5, 0, none⟩ = some (.slice A l.length c) ∧ w'.cell? ⟨g, 1, none⟩ = some v1) (ds := [13]) #[false, false, false, false, false, false, false, false, false, false, false, false, false, false] (by kernel_rfl) rfl rfl ⟨b3, b4, b5, c1⟩ (fun hHeld => ?_)
 refine tk 0 (some 3) ?_ (bt 14 1) (by kernel_rfl) hHeld ?_ ?_ ?_ ?_
 rotate_left
 ·rintro w' ⟨s0, s1, s2, s3⟩
  go_simp
  with_reducible rfl
 rotate_left
 ·simp only [pS]
  rfl
 refine tk 1 (some 4) ?_ (bt 14 3) (by kernel_rfl) hHeld ?_ ?_ ?_ ?_
 rotate_left
 ·rintro w' ⟨s0, s1, s2, s3⟩
  go_simp
  with_reducible rfl
 rotate_left
 ·simp only [pS]
  rfl
 refine pu 2 (some 5) ?_ (bt 14 7) (by kernel_rfl) ?_ ?_ ?_ ?_
 rotate_left
 ·intro w'
  go_simp
  with_reducible rfl
 rotate_left
 ·simp only [pS]
  rfl
 refine pu 3 (some 6) ?_ (bt 14 15) (by kernel_rfl) ?_ ?_ ?_ ?_
 rotate_left
 ·intro w'
  go_simp
  with_reducible rfl
 rotate_left
 ·simp only [pS]
  rfl
 refine tk 4 (some 7) ?_ (bt 14 31) (by kernel_rfl) hHeld ?_ ?_ ?_ ?_
 rotate_left
 ·rintro w' ⟨s0, s1, s2, s3⟩
  go_simp
  with_reducible rfl
 rotate_left
 ·simp only [pS]
  rfl
 refine tk 5 (some 8) ?_ (bt 14 63) (by kernel_rfl) hHeld ?_ ?_ ?_ ?_
 rotate_left
 ·rintro w' ⟨s0, s1, s2, s3⟩
  go_simp
  with_reducible rfl
 rotate_left
 ·simp only [pS]
  rfl
 refine tk 6 (some 9) ?_ (bt 14 127) (by kernel_rfl) hHeld ?_ ?_ ?_ ?_
 rotate_left
 ·rintro w' ⟨s0, s1, s2, s3⟩
  go_simp
  with_reducible rfl
 rotate_left
 ·simp only [pS]
  rfl
 refine one_ (i := 7) (N := some 10) (bt 14 255) rfl rfl (by kernel_rfl) (by decide) (fun K hK => ?_)
 refine goes_ Try.func55 (by kernel_rfl) rfl #[.slice A l.length c] (by rfl) rfl rfl (by (try simp only [List.map_toArray, List.map_cons, List.map_nil]); first | done | rfl) ?_
 refine (bytesClone_calls A c l _ (Kd.C_drewN HC.out 1) hc HL.out).mono ?_
 rintro e w1 ⟨v, rfl, ho, hb1⟩
 refine ⟨_, rfl, ?_⟩
 have HB1 := AM (show Below w.heap.size w w1 from ⟨hb1.os, hb1.tape, hb1.output, hb1.size, hb1.block⟩)
 have HO := AM (show Kd.R (Kd.int .u8) 5 w1 w.heap.size (fun _ => True) v l from ho)
 clear ho hb1
 obtain ⟨A1, c1_, ev⟩ := Kd.R_slice HO.out
 subst ev
 have k3 := (HB1.out.cell (p := ⟨p3, 0, none⟩) (by simpa using l3)).trans b3
 have k4 := (HB1.out.cell (p := ⟨p4, 0, none⟩) (by simpa using l4)).trans b4
 have k5 := (HB1.out.cell (p := ⟨p5, 0, none⟩) (by simpa using l5)).trans b5
 have k1 := (HB1.out.cell (p := ⟨g, 1, none⟩) (by simpa using lg)).trans c1
 refine hK.out _ _ ⟨k3, k4, k5, k1⟩ (fun hHeld => ?_)
 clear hK K
 refine norm_ (a' := ?_) ?_ ?_
 rotate_left
 ·show Act.put _ (some 10) _ = _
  simp only [pS]
  rfl
 refine pu 8 (some 11) ?_ (bt 14 511) (by kernel_rfl) ?_ ?_ ?_ ?_
 rotate_left
 ·intro w'
  go_simp
  with_reducible rfl
 rotate_left
 ·simp only [pS]
  rfl
 refine one_ (i := 9) (N := some 12) (bt 14 1023) rfl rfl (by kernel_rfl) (by decide) (fun K hK => ?_)
 refine value_ (w1 := w1.alloc (.cells #[.int .i64 at_, .slice A1 l.length c1_] 93)) (v := .slice (some ⟨w1.heap.size, 0, none⟩) 1 1) (by rfl) rfl (by go_simp; try rfl) ?_
 refine hK.out _ _ ⟨alloc_cell k3, alloc_cell k4, alloc_cell k5, alloc_cell k1⟩ (fun hHeld => ?_)
 clear hK K
 refine norm_ (a' := ?_) ?_ ?_
 rotate_left
 ·show Act.put _ (some 12) _ = _
  simp only [pS]
  rfl
 refine one_ (i := 10) (N := some 13) (bt 14 2047) rfl rfl (by kernel_rfl) (by decide) (fun K hK => ?_)
 refine step_push (by rfl) (by rfl) (by rfl) (by rfl) (by rfl) HOWN.out HB1.out HN.out HBB.out ?_
 intro gg cap w2 hown2 hgrow hat hlt
 have mf := frozen_push (j := 1) H.out HB1.out hgrow avg
 have HOWN2 := AM hown2
 have HG := AM hgrow
 have HAT := AM hat
 have HLT := AM hlt
 have m3 := (hgrow.cell (alloc_cell k3) (Ne.symm av3))
 have m4 := (hgrow.cell (alloc_cell k4) (Ne.symm av4))
 have m5 := (hgrow.cell (alloc_cell k5) (Ne.symm av5))
 have m1 := (hgrow.cell (alloc_cell k1) (Ne.symm avg))
 clear hown2 hgrow hat hlt
 refine hK.out _ _ ⟨m3, m4, m5, m1⟩ (fun hHeld => ?_)
 clear hK K
 refine norm_ (a' := ?_) ?_ ?_
 rotate_left
 ·show Act.put _ (some 13) _ = _
  simp only [pS]
  rfl
 refine pu 11 (some 14) ?_ (bt 14 4095) (by kernel_rfl) ?_ ?_ ?_ ?_
 rotate_left
 ·intro w'
  go_simp
  with_reducible rfl
 rotate_left
 ·simp only [pS]
  rfl
 refine pu 12 (some 15) ?_ (bt 14 8191) (by kernel_rfl) ?_ ?_ ?_ ?_
 rotate_left
 ·intro w'
  go_simp
  with_reducible rfl
 rotate_left
 ·simp only [pS]
  rfl
 refine last_ (i := 13) (N := none) (bt 14 16383) rfl rfl (by kernel_rfl) (by decide) (fun K hK => ?_)
 refine skip_ (w1 := ?_) (by rfl) rfl ?_ ?_
 rotate_left
 ·go_simp
  first | rfl | exact ⟨rfl, rfl⟩
 refine hK.out _ _ ?_
 clear hK K
 refine done_ (by kernel_rfl) ?_
 go_wp2
 go_end0
 exact ⟨rfl, H.out.push at_ l HB1.out HO.out HOWN2.out HG.out HAT.out HLT.out HREPS.out⟩
theorem cell_kp {S : Nat → Prop} {w w1 : World} {a : Addr} {u : Value} (h : w.cell? a = some u) (hk : Kp S w w1) (hn : ¬ S a.block) : w1.cell? a = some u := by
 have hlt := World.block_lt_of_cell? _ _ h
 have he := hk.block a.block hlt hn
 simp only [World.cell?] at h ⊢
 rw [he]
 exact h
theorem add_block (a : Addr) (j : Nat) : (a.add j).block = a.block := by unfold Addr.add; split <;> rfl
theorem C_kp {k : IntKind} {S : Nat → Prop} {w w1 : World} {A : Option Addr} {n : Nat} {l : List Int} (h : Kd.C (Kd.int k) w A n l) (hk : Kp S w w1) (hn : ∀ a, A = some a → 0 < n → ¬ S a.block) : Kd.C (Kd.int k) w1 A n l := by
 obtain ⟨h1, h2, h3⟩ := h
 refine ⟨h1, h2, fun h0 => ?_⟩
 obtain ⟨ad, rfl, hc⟩ := h3 h0
 refine ⟨ad, rfl, fun j p hj => ?_⟩
 obtain ⟨c, hc1, hc2, hc3⟩ := hc j p hj
 exact ⟨c, hc1, hc2, fun i u hu => cell_kp (hc3 i u hu) hk (by rw [add_block]; exact hn ad rfl h0)⟩
theorem boxes3 (w : World) (x y z : Value) (a b c : TypeId) :
  (((w.alloc (.cells #[x] a)).alloc (.cells #[y] b)).alloc (.cells #[z] c)).cell? ⟨w.heap.size, 0, none⟩ = some x ∧
  (((w.alloc (.cells #[x] a)).alloc (.cells #[y] b)).alloc (.cells #[z] c)).cell? ⟨w.heap.size + 1, 0, none⟩ = some y ∧
  (((w.alloc (.cells #[x] a)).alloc (.cells #[y] b)).alloc (.cells #[z] c)).cell? ⟨w.heap.size + 1 + 1, 0, none⟩ = some z := by
 have h1 := blk_cell (heap_alloc_new w (.cells #[x] a)) 0
 have h2 := blk_cell (heap_alloc_new (w.alloc (.cells #[x] a)) (.cells #[y] b)) 0
 have h3 := blk_cell (heap_alloc_new ((w.alloc (.cells #[x] a)).alloc (.cells #[y] b)) (.cells #[z] c)) 0
 simp only [World.size_alloc] at h1 h2 h3
 exact ⟨alloc_cell (alloc_cell h1), alloc_cell h2, h3⟩
def Dk.write (D : Dk) (at_ : Int) (l : List Int) : Dk × Int :=
 if D.failed then (D, 11) else if insd D.dur.length at_ l.length = false then (D, 2) else if D.cnt = 0 then ({ D with failed := true }, 11) else (D.burnt.wrote at_ l, 0)
theorem Ext.refl (w : World) (p : Nat → Prop) : Ext w p p := fun _ hk => .inl hk
theorem Ext.lower {w w1 : World} {p p' : Nat → Prop} (h : Ext w1 p p') (hs : w.heap.size ≤ w1.heap.size) : Ext w p p' := fun k hk => (h k hk).imp id (fun h => Nat.le_trans hs h)
def Left (w : World) (base : Nat) (pr sh : Nat → Prop) (g : Nat) (D' : Dk) (w' : World) : Prop := ∃ pr' sh', IsDisk w' base pr' sh' g D' ∧ Ext w pr pr' ∧ Ext w sh sh' ∧ Kp pr w w'
theorem Left.same {w w' : World} {base : Nat} {pr sh : Nat → Prop} {g : Nat} {D' : Dk} (h : IsDisk w' base pr sh g D') (hk : Kp pr w w') : Left w base pr sh g D' w' := ⟨pr, sh, h, Ext.refl _ _, Ext.refl _ _, hk⟩
theorem Left.before {w0 w w' : World} {base : Nat} {pr sh : Nat → Prop} {g : Nat} {D' : Dk} (h : Left w base pr sh g D' w') (hk : Kp pr w0 w) : Left w0 base pr sh g D' w' := by
 obtain ⟨pr', sh', h1, h2, h3, h4⟩ := h
 exact ⟨pr', sh', h1, h2.lower hk.size, h3.lower hk.size, hk.trans h4 (fun _ h => .inl h)⟩
set_option maxHeartbeats 1000000 in
theorem Write_calls (at_ : Int) (A : Option Addr) (c : Nat) (l : List Int) (h : IsDisk w base pr sh g D) (hb : base ≤ w.heap.size)
  (hC : Kd.C (Kd.int .u8) w A l.length l) (hc : l.length ≤ c) (hl : l.length ≤ 140737488355328) (hn : D.pend.length ≤ 1000) (hw : D.cnt ≤ 9223372036854775807) (hA : ∀ a, A = some a → 0 < l.length → ¬ pr a.block) :
  Calls Try.prog 19 #[.pointer (some ⟨g, 0, none⟩), .int .i64 at_, .slice A l.length c] w fun e w' => e = .returned (.int .i64 (D.write at_ l).2) ∧ Left w base pr sh g (D.write at_ l).1 w' := by
 obtain ⟨v0, v1, h⟩ := h
 have HB3 : Below w.heap.size w (((w.alloc (.cells #[.pointer (some ⟨g, 0, none⟩)] 23)).alloc (.cells #[.int .i64 at_] 3)).alloc (.cells #[.slice A l.length c] 29)) := below_alloc (below_alloc (below_alloc (Below.refl _ _) _) _) _
 have h3 := h.below HB3
 obtain ⟨c0, c1, c2, c3, f0, f1, f2, f3⟩ := h3.cells
 have H := AM h
 have H3 := AM h3
 have HB := AM HB3
 have HC := AM hC
 have HL := AM hl
 have HN := AM hn
 have HW := AM hw
 have HBB := AM hb
 have HA := AM hA
 clear h h3 HB3 hC hl hn hw hb hA
 cases hf : D.failed with
 | true =>
  rw [hf] at c3
  have HF := AM hf
  clear hf
  go_enter Try.func19, Try.ntmps19
  go_wp2
  go_ret
  exact ⟨by simp [Dk.write, HF.out], Left.same ⟨v0, v1, by simpa [Dk.write, HF.out] using H3.out⟩ (Kp.of_below _ HB.out)⟩
 | false =>
  rw [hf] at c3
  cases hi : insd D.dur.length at_ l.length with
  | false =>
   have HF := AM hf
   have HI := AM hi
   clear hf
   go_enter Try.func19, Try.ntmps19
   go_wp2_with (first | (go_at_call 54; refine (inside_calls at_ l.length ⟨v0, v1, H3.out⟩).mono ?_; rw [HI.out]; rintro e w' ⟨rfl, rfl⟩))
   go_ret
   exact ⟨by simp [Dk.write, HF.out, HI.out], Left.same ⟨v0, v1, by simpa [Dk.write, HF.out, HI.out] using H3.out⟩ (Kp.of_below _ HB.out)⟩
  | true =>
   have HF := AM hf
   have HI := AM hi
   clear hf
   by_cases hz : D.cnt = 0
   ·have HZ := AM hz
    clear hz
    go_enter Try.func19, Try.ntmps19
    go_wp2_with (first | (go_at_call 54; refine (inside_calls at_ l.length ⟨v0, v1, H3.out⟩).mono ?_; rw [HI.out]; rintro e w' ⟨rfl, rfl⟩) | (go_at_call 56; refine (call_fail _ ⟨v0, v1, H3.out⟩ (.inr HZ.out)).mono ?_; rintro e w' ⟨rfl, hq1, hq2⟩; have HQ1 := AM hq1; have HQ2 := AM hq2; clear hq1 hq2))
    go_ret
    exact ⟨by simp [Dk.write, HF.out, HI.out, HZ.out], (Left.same (by simpa [Dk.write, HF.out, HI.out, HZ.out] using HQ1.out) HQ2.out).before (Kp.of_below _ HB.out)⟩
   ·have HZ := AM hz
    clear hz
    have hrun : Aside0 (∀ w1, IsDisk w1 base pr sh g D.burnt → Kp pr (((w.alloc (.cells #[.pointer (some ⟨g, 0, none⟩)] 23)).alloc (.cells #[.int .i64 at_] 3)).alloc (.cells #[.slice A l.length c] 29)) w1 →
      Calls Try.prog 57 #[.pointer (some ⟨w.heap.size, 0, none⟩), .pointer (some ⟨w.heap.size + 1, 0, none⟩), .pointer (some ⟨w.heap.size + 1 + 1, 0, none⟩)] w1 fun e w2 => e = .returned (.tuple #[]) ∧ Left (((w.alloc (.cells #[.pointer (some ⟨g, 0, none⟩)] 23)).alloc (.cells #[.int .i64 at_] 3)).alloc (.cells #[.slice A l.length c] 29)) base pr sh g (D.burnt.wrote at_ l) w2) := by
     constructor
     intro w1 hd hk
     have hp : ∀ k, w.heap.size ≤ k → ¬ pr k := fun k hk hp => by have := H.out.plt k hp; omega
     have hcell : ∀ (k : Nat) (u : Value), w.heap.size ≤ k → (((w.alloc (.cells #[.pointer (some ⟨g, 0, none⟩)] 23)).alloc (.cells #[.int .i64 at_] 3)).alloc (.cells #[.slice A l.length c] 29)).cell? ⟨k, 0, none⟩ = some u → w1.cell? ⟨k, 0, none⟩ = some u := fun k u hk1 hu => by
      have hlt := World.block_lt_of_cell? _ _ hu
      have he := hk.block k hlt (hp k hk1)
      simp only [World.cell?] at hu ⊢
      rw [he]
      exact hu
     have hr := Write1_calls (w := w1) (D := D.burnt) w.heap.size (w.heap.size + 1) (w.heap.size + 1 + 1) at_ A c l hd (Nat.le_trans (Nat.le_trans HBB.out HB.out.size) hk.size) (hcell _ _ (by omega) (boxes3 ..).1) (hcell _ _ (by omega) (boxes3 ..).2.1) (hcell _ _ (by omega) (boxes3 ..).2.2)
      (hp _ (by omega)) (hp _ (by omega)) (hp _ (by omega)) ?_ hc HL.out HN.out
     ·refine hr.mono ?_
      rintro e w2 ⟨rfl, hq⟩
      exact ⟨rfl, Left.before hq hk⟩
     ·exact C_kp (Kd.C_below HC.out HB.out) hk HA.out
    go_enter Try.func19, Try.ntmps19
    go_wp2_with (first | (go_at_call 54; refine (inside_calls at_ l.length ⟨v0, v1, H3.out⟩).mono ?_; rw [HI.out]; rintro e w' ⟨rfl, rfl⟩) | (go_at_call 56; refine (call_ok 57 _ _ ⟨v0, v1, H3.out⟩ HF.out HZ.out HW.out (fun _ => by kernel_rfl) hrun.out).mono ?_; rintro e w' ⟨rfl, hq⟩; have HQ := AM hq; clear hq))
    go_ret
    exact ⟨by simp [Dk.write, HF.out, HI.out, HZ.out], by simpa [Dk.write, HF.out, HI.out, HZ.out] using Left.before HQ.out (Kp.of_below _ HB.out)⟩
end
end Go.Proofs.Ytbbokpkpdnppjaa
