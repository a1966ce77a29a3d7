/- The log: opening a disk of zeros. -/
import Derived.Test.YtbbokpkpdnppjaaU0
import Derived.Test.YtbbokpkpdnppjaaUA
import Derived.Deep.QuietTactic
import Derived.RangeFuncNested
import Derived.RangeFuncBound
import Derived.RangeFuncCalls
import Derived.RangeFuncLeaves
import Derived.RangeFuncFrom
import Derived.Test.YtbbokpkpdnppjaaL8
namespace Go.Proofs.Ytbbokpkpdnppjaa
open Go.RowKit Go.Proofs.YtbbokpkpdnppjaaW.PrintWords Go.Proofs.YtbbokpkpdnppjaaW.PrintLast Go.Proofs.YtbbokpkpdnppjaaW.PrintMore
set_option linter.unusedVariables false
set_option linter.unusedSimpArgs false
theorem bases0 (m : Nat) (hm : 24 ≤ m) : basesN (List.replicate m 0) 2 = (-1, 0) := by
 have e1 : basesN (List.replicate 24 0) 2 = (-1, 0) := by decide +kernel
 rw [← e1]
 unfold basesN basesN basesN baseStep
 simp only [Nat.reduceMul, Nat.reduceAdd, List.take_replicate, List.drop_replicate]
 rw [show min 12 m = min 12 24 from by omega, show min 24 m = min 24 24 from by omega]
structure Lg where
 slot : Int
 base : Int
 end_ : Int
 synced : Int
 recs : List G.S73
def LogS (w0 W : World) (Q rok : Nat → Prop) (g gd : Nat) (L : Lg) (D : Dk) : Prop :=
 Sts w0 W Q [(gd, D)] ∧ ∃ (v : Value), W.heap[g]? = some (.cells #[.pointer (some ⟨gd, 0, none⟩), .int .i64 L.slot, .int .i64 L.base, .int .i64 L.end_, .int .i64 L.synced, v] 108 (0, 0)) ∧ Kd.N G.k73 73 W w0.heap.size rok v L.recs ∧ (∀ k, rok k → Q k ∧ k ≠ g) ∧ Q g ∧ w0.heap.size ≤ g
def noPanic (Q : Exit → Act → World → Prop) : Exit → Act → World → Prop
 | .ret, a, w => Q .ret a w
 | .normal, a, w => Q .normal a w
 | _, _, _ => False
theorem noPanic_le (Q : Exit → Act → World → Prop) : ∀ e a w, noPanic Q e a w → Q e a w := by
 intro e a w h
 cases e <;> first | exact h | exact h.elim
theorem Sts.putD {w0 W : World} {P : Nat → Prop} {L : List (Nat × Dk)} (h : Sts w0 W P L) (b : Nat) (hb : P b) (hw : w0.heap.size ≤ b) (o : Obj) : Sts w0 (W.putObj b o) P L := by
 have hlt := h.lt b hb
 obtain ⟨xs, h⟩ := h
 refine ⟨xs, h.map, fun i x hx => ?_, h.two, h.bel.grown (grownBy_putObj' W b o) h.bel.size (fun k e => by cases e; exact hw), fun k hk => by simpa using h.lt k hk⟩
 obtain ⟨⟨v0, v1, h1⟩, h2, h3⟩ := h.one i x hx
 refine ⟨⟨v0, v1, h1.step (fun k hk _ => World.putObj_heap_other (fun e => ?_))⟩, h2, h3⟩
 subst e
 exact hk.elim (fun hp => (h2 k hp).2 hb) (fun hs => h3 k hs hb)
set_option maxRecDepth 100000 in
set_option maxHeartbeats 8000000 in
theorem frames_calls (A : Option Addr) (m c : Nat) (base : Int) (w : World) : Calls Try.prog 70 #[.slice A m c, .int .i64 base] w fun e w' => e = .returned (.func (.func 85) #[] #[.pointer (some ⟨w.heap.size, 0, none⟩), .pointer (some ⟨w.heap.size + 1, 0, none⟩)]) ∧ w' = (w.alloc (.cells #[.slice A m c] 29)).alloc (.cells #[.int .i64 base] 3) := by
 go_enter Try.func70, Try.ntmps70
 go_wp2_with fail
 go_ret
 exact ⟨rfl, rfl⟩
set_option maxRecDepth 100000 in
set_option maxHeartbeats 8000000 in
theorem at_calls (g : Nat) (v0 v1 v4 v5 : Value) (base end_ : Int) (w : World) (hg : w.heap[g]? = some (.cells #[v0, v1, .int .i64 base, .int .i64 end_, v4, v5] 108 (0, 0))) :
  Calls Try.prog 72 #[.pointer (some ⟨g, 0, none⟩)] w fun e w' => e = .returned (.int .i64 (wrap64 (wrap64 (24 + end_) - base))) ∧ Below w.heap.size w w' := by
 have F2 := (blk_cell hg 2).trans rfl
 have F3 := (blk_cell hg 3).trans rfl
 clear hg
 go_enter Try.func72, Try.ntmps72
 go_wp2_with fail
 go_quiet (fail)
 go_wp2_with fail
 go_ret
 exact ⟨rfl, pw_below_drewN (Below.refl _ _) _⟩
set_option maxRecDepth 100000 in
set_option maxHeartbeats 8000000 in
theorem open0_calls {w0 W : World} {Q : Nat → Prop} {gd : Nat} (m : Nat) (hm : 40 ≤ m) (hm2 : m ≤ 4194304) (h : Sts w0 W Q [(gd, Dk.fresh m)]) :
  Calls Try.prog 36 #[.pointer (some ⟨gd, 0, none⟩)] W fun e W' => ∃ g, e = .returned (.tuple #[.pointer (some ⟨g, 0, none⟩), .int .i64 0]) ∧ ∃ Q', (∀ k, Q k → Q' k) ∧ LogS w0 W' Q' (fun _ => False) g gd ⟨-1, 0, 0, 0, []⟩ (Dk.fresh m) ∧ W.heap.size ≤ g ∧ KeepP Q W W' := by
 have H := AM h
 have OK0 := AM (Dk.fresh_ok m (by omega) hm2)
 clear h
 refine (callsIn_wide (n := 3)).1 ?_
 refine callsIn_of_wp_marks Try.func36 rfl trivial ?_ rfl
 refine wpIn_mono ?_ (noPanic_le _)
 rw [wpIn_wide]
 simp only [Try.ntmps36, List.size_toArray, List.length_cons, List.length_nil, Nat.reduceAdd, Nat.reduceSub, Array.replicate_succ, Array.replicate_zero, List.push_toArray, List.append_toArray, List.nil_append, List.cons_append]
 go_wp2_with fail
 refine (H.out.failed 0 rfl).mono ?_
 rintro e w1 ⟨rfl, rfl⟩
 rw [show (Dk.fresh m).failed = false from rfl]
 go_wp2_with fail
 refine (H.out.size 0 rfl).mono ?_
 rintro e w1 ⟨rfl, rfl⟩
 have hdl : (Dk.fresh m).dur.length = m := by simp [Dk.fresh]
 rw [hdl]
 have h24 : ¬ ((m : Int) < 24) := by omega
 go_wp2_with fail
 refine (H.out.size 0 rfl).mono ?_
 rintro e w1 ⟨rfl, rfl⟩
 rw [hdl]
 go_wp2_with fail
 have hrd : (Dk.fresh m).read 0 (m : Int) = (List.replicate m 0, 0) := by
  unfold Dk.read
  rw [if_neg (by simp [Dk.fresh]), if_neg (by simp [insd, hdl])]
  simp [Dk.now, Dk.fresh, layAll]
 refine (H.out.read 0 rfl OK0.out 0 (m : Int)).mono ?_
 rw [hrd]
 rintro e w1 ⟨v, rfl, hr, hb⟩
 obtain ⟨A, c, rfl⟩ := Kd.R_slice hr
 rw [List.length_replicate] at hr ⊢
 have S1 := AM (H.out.step hb)
 have HR1 := AM hr
 have HB1 := AM hb
 clear hr hb hrd
 go_wp2_with fail
 have hcA := (Kd.R_reads' HR1.out).2.1
 have hCA := (Kd.R_reads' HR1.out).2.2
 rw [List.length_replicate] at hCA
 have hbx : Below w1.heap.size w1 ((w1.alloc (.cells #[.pointer (some ⟨gd, 0, none⟩), .int .i64 0, .int .i64 0, .int .i64 0, .int .i64 0, .slice none 0 0] 108)).alloc (.cells #[.pointer (some ⟨w1.heap.size, 0, none⟩)] 59)) := below_alloc (below_alloc (Below.refl _ _) _) _
 have hG1 : ((w1.alloc (.cells #[.pointer (some ⟨gd, 0, none⟩), .int .i64 0, .int .i64 0, .int .i64 0, .int .i64 0, .slice none 0 0] 108)).alloc (.cells #[.pointer (some ⟨w1.heap.size, 0, none⟩)] 59)).heap[w1.heap.size]? = some (.cells #[.pointer (some ⟨gd, 0, none⟩), .int .i64 0, .int .i64 0, .int .i64 0, .int .i64 0, .slice none 0 0] 108 (0, 0)) := (Below.heap_alloc _ _ _ (by simp)).trans (heap_alloc_new w1 _)
 have hX1 : ((w1.alloc (.cells #[.pointer (some ⟨gd, 0, none⟩), .int .i64 0, .int .i64 0, .int .i64 0, .int .i64 0, .slice none 0 0] 108)).alloc (.cells #[.pointer (some ⟨w1.heap.size, 0, none⟩)] 59)).heap[w1.heap.size + 1]? = some (.cells #[.pointer (some ⟨w1.heap.size, 0, none⟩)] 59 (0, 0)) := by
  have := heap_alloc_new (w1.alloc (.cells #[.pointer (some ⟨gd, 0, none⟩), .int .i64 0, .int .i64 0, .int .i64 0, .int .i64 0, .slice none 0 0] 108)) (.cells #[.pointer (some ⟨w1.heap.size, 0, none⟩)] 59)
  rwa [World.size_alloc] at this
 have hz1 : ((w1.alloc (.cells #[.pointer (some ⟨gd, 0, none⟩), .int .i64 0, .int .i64 0, .int .i64 0, .int .i64 0, .slice none 0 0] 108)).alloc (.cells #[.pointer (some ⟨w1.heap.size, 0, none⟩)] 59)).heap.size = w1.heap.size + 2 := by simp
 have hww := S1.out.bel.size
 generalize ((w1.alloc (.cells #[.pointer (some ⟨gd, 0, none⟩), .int .i64 0, .int .i64 0, .int .i64 0, .int .i64 0, .slice none 0 0] 108)).alloc (.cells #[.pointer (some ⟨w1.heap.size, 0, none⟩)] 59)) = W1 at hbx hG1 hX1 hz1 ⊢
 have SS1 := AM (S1.out.fenced hbx)
 have K1 := AM (S1.out.keepP (W1 := W1) hbx |> (H.out.keepP HB1.out).trans)
 have HC1 := AM (Kd.C_below hCA hbx)
 have hQg : (fun k => Q k ∨ (w1.heap.size ≤ k ∧ k < W1.heap.size)) w1.heap.size := .inr ⟨Nat.le_refl _, by omega⟩
 have hQb : (fun k => Q k ∨ (w1.heap.size ≤ k ∧ k < W1.heap.size)) (w1.heap.size + 1) := .inr ⟨by omega, by omega⟩
 obtain ⟨Q1, hQ1⟩ : ∃ Q1, Q1 = (fun k => Q k ∨ (w1.heap.size ≤ k ∧ k < W1.heap.size)) := ⟨_, rfl⟩
 have hQQ : ∀ k, Q k → Q1 k := fun k hk => by rw [hQ1]; exact .inl hk
 have hQn : ∀ k, Q1 k → Q k ∨ w1.heap.size ≤ k := fun k hk => by rw [hQ1] at hk; exact hk.imp id (fun h => h.1)
 rw [← hQ1] at hQg hQb SS1
 have hFg : Kd.F (Kd.int .u8) w1 (fun k => k < w1.heap.size) A m (List.replicate m 0) := Kd.C_F (Kd.heap_int .u8) hCA
 have hBg : ∀ k, k < w1.heap.size → W1.heap[k]? = w1.heap[k]? := fun k hk => hbx.block k hk
 have hgs : w1.heap.size < W1.heap.size := by omega
 clear hQ1 hbx hCA
 obtain ⟨g, hg⟩ : ∃ g, g = w1.heap.size := ⟨_, rfl⟩
 obtain ⟨b6, hb6⟩ : ∃ b6, b6 = w1.heap.size + 1 := ⟨_, rfl⟩
 have hgb : b6 ≠ g := by omega
 have hwg : w0.heap.size ≤ g := by omega
 rw [← hb6, ← hg] at hX1
 rw [← hg] at hG1 hQg hgs
 have hFg : Kd.F (Kd.int .u8) w1 (fun k => k < g) A m (List.replicate m 0) := by rw [hg]; exact hFg
 have hQL : ∀ k, Q k → k < g := fun k hk => by have h1 := H.out.lt k hk; have h2 := HB1.out.size; omega
 have hBg : ∀ k, k < g → W1.heap[k]? = w1.heap[k]? := by rw [hg]; exact hBg
 rw [← hb6] at hQb
 rw [← hb6, ← hg]
 have HWG := AM (show W.heap.size ≤ g from by have := HB1.out.size; omega)
 clear hb6 hg hz1
 have G1 := AM hG1
 have X1 := AM hX1
 have FG := AM hFg
 have HQL := AM hQL
 clear hQL
 have BG1 := AM hBg
 clear hFg hBg
 have F0 := (blk_cell hG1 0).trans rfl
 have F1 := (blk_cell hG1 1).trans rfl
 have F2 := (blk_cell hG1 2).trans rfl
 have F3 := (blk_cell hG1 3).trans rfl
 have F4 := (blk_cell hG1 4).trans rfl
 have F5 := (blk_cell hG1 5).trans rfl
 have f0 := blk_frozen hG1 0
 have f1 := blk_frozen hG1 1
 have f2 := blk_frozen hG1 2
 have f3 := blk_frozen hG1 3
 have f4 := blk_frozen hG1 4
 have f5 := blk_frozen hG1 5
 have x6 := (blk_cell hX1 0).trans rfl
 clear hG1 hX1 HR1
 refine start_ (n := 13) (S := fun w' => w'.cell? ⟨b6, 0, none⟩ = some (.pointer (some ⟨g, 0, none⟩))) (ds := []) #[false, false, false, false, false, false, false, false, false, false, false, false, false] (by kernel_rfl) rfl rfl x6 (fun hHeld => ?_)
 have hbd : Below W1.heap.size W1 W1.drew := below_drew (Below.refl _ _)
 have hG2 : W1.drew.heap[g]? = some (.cells #[.pointer (some ⟨gd, 0, none⟩), .int .i64 0, .int .i64 0, .int .i64 0, .int .i64 0, .slice none 0 0] 108 (0, 0)) := G1.out
 have hX2 : W1.drew.heap[b6]? = some (.cells #[.pointer (some ⟨g, 0, none⟩)] 59 (0, 0)) := X1.out
 have S2 := AM (SS1.out.step hbd)
 have HC2 := AM (Kd.C_below HC1.out hbd)
 have BG2 := AM (show ∀ k, k < g → W1.drew.heap[k]? = w1.heap[k]? from BG1.out)
 have hgs2 : g < W1.drew.heap.size := hgs
 have K2 := AM (K1.out.trans (fun k hk => (SS1.out.keepP hbd) k (hQQ k hk)))
 clear hHeld hbd F0 F1 F2 F3 F4 F5 f0 f1 f2 f3 f4 f5 x6
 generalize W1.drew = W2 at hG2 hX2 S2 HC2 K2 BG2 hgs2 ⊢
 have G2 := AM hG2
 have X2 := AM hX2
 have F0 := (blk_cell hG2 0).trans rfl
 have F1 := (blk_cell hG2 1).trans rfl
 have F2 := (blk_cell hG2 2).trans rfl
 have F3 := (blk_cell hG2 3).trans rfl
 have F4 := (blk_cell hG2 4).trans rfl
 have F5 := (blk_cell hG2 5).trans rfl
 have f0 := blk_frozen hG2 0
 have f1 := blk_frozen hG2 1
 have f2 := blk_frozen hG2 2
 have f3 := blk_frozen hG2 3
 have f4 := blk_frozen hG2 4
 have f5 := blk_frozen hG2 5
 have x6 := (blk_cell hX2 0).trans rfl
 have hHeld := x6
 clear hG2 hX2
 refine tk 0 (some 28) ?_ (bt 13 1) (by kernel_rfl) hHeld ?_ ?_ ?_ ?_
 rotate_left
 ·intro w' s0
  go_simp
  with_reducible rfl
 rotate_left
 ·simp only [pS]
  rfl
 refine tk 1 (some 29) ?_ (bt 13 3) (by kernel_rfl) hHeld ?_ ?_ ?_ ?_
 rotate_left
 ·intro w' s0
  go_simp
  with_reducible rfl
 rotate_left
 ·simp only [pS]
  rfl
 refine pu 2 (some 30) ?_ (bt 13 7) (by kernel_rfl) ?_ ?_ ?_ ?_
 rotate_left
 ·intro w'
  go_simp
  with_reducible rfl
 rotate_left
 ·simp only [pS]
  rfl
 refine one_ (i := 3) (N := some 31) (bt 13 15) rfl rfl (by kernel_rfl) (by decide) (fun K hK => ?_)
 refine goes_ Try.func69 (by kernel_rfl) rfl #[.slice A m c] (by rfl) rfl rfl (by (try simp only [List.map_toArray, List.map_cons, List.map_nil]); first | done | rfl) ?_
 have hbc := bases_calls A c (List.replicate m 0) W2 (by rw [List.length_replicate]; exact HC2.out) (by rw [List.length_replicate]; exact hcA) (by rw [List.length_replicate]; omega)
 rw [List.length_replicate, bases0 m (by omega)] at hbc
 replace hbc : Calls Try.prog 69 #[.slice A m c] W2 fun e w' => e = .returned (.tuple #[.int .i64 (-1), .int .i64 0]) ∧ Below W2.heap.size W2 w' := hbc
 refine hbc.mono ?_
 clear hbc
 rintro e W3 ⟨rfl, hb3⟩
 have hG3 := (hb3.block _ (blk_lt G2.out)).trans G2.out
 have hX3 := (hb3.block _ (blk_lt X2.out)).trans X2.out
 have S3 := AM (S2.out.step hb3)
 have G3 := AM hG3
 have X3 := AM hX3
 have HC3 := AM (Kd.C_below HC2.out hb3)
 have K3 := AM (K2.out.trans (fun k hk => (S2.out.keepP hb3) k (hQQ k hk)))
 obtain ⟨Wq, hWq⟩ : ∃ Wq, Wq = W3 := ⟨_, rfl⟩
 have NX3 := AM (show ∀ k, k ≠ g → W3.heap[k]? = Wq.heap[k]? from fun k _ => by rw [hWq])
 have Z3 := AM (show W3.heap.size = Wq.heap.size from by rw [hWq])
 have BGq := AM (show ∀ k, k < g → Wq.heap[k]? = w1.heap[k]? from fun k hk => by rw [hWq]; exact (hb3.block k (by omega)).trans (BG2.out k hk))
 have KQ := AM (show KeepP Q W Wq from by rw [hWq]; exact K3.out)
 have HCq := AM (show Kd.C (Kd.int .u8) Wq A m (List.replicate m 0) from by rw [hWq]; exact HC3.out)
 clear hb3 hWq
 clear F0 F1 F2 F3 F4 F5 f0 f1 f2 f3 f4 f5 x6
 have F0 := (blk_cell hG3 0).trans rfl
 have F1 := (blk_cell hG3 1).trans rfl
 have F2 := (blk_cell hG3 2).trans rfl
 have F3 := (blk_cell hG3 3).trans rfl
 have F4 := (blk_cell hG3 4).trans rfl
 have F5 := (blk_cell hG3 5).trans rfl
 have f0 := blk_frozen hG3 0
 have f1 := blk_frozen hG3 1
 have f2 := blk_frozen hG3 2
 have f3 := blk_frozen hG3 3
 have f4 := blk_frozen hG3 4
 have f5 := blk_frozen hG3 5
 have x6 := (blk_cell hX3 0).trans rfl
 clear hG3 hX3
 refine ⟨_, rfl, ?_⟩
 refine hK.out _ _ x6 (fun hHeld => ?_)
 clear hK K
 refine norm_ (a' := ?_) ?_ ?_
 rotate_left
 ·show Act.put _ (some 31) _ = _
  simp only [pS]
  rfl
 refine pu 4 (some 27) ?_ (bt 13 31) (by kernel_rfl) ?_ ?_ ?_ ?_
 rotate_left
 ·intro w'
  go_simp
  with_reducible rfl
 rotate_left
 ·simp only [pS]
  rfl
 refine pu 5 (some 32) ?_ (bt 13 63) (by kernel_rfl) ?_ ?_ ?_ ?_
 rotate_left
 ·intro w'
  go_simp
  with_reducible rfl
 rotate_left
 ·simp only [pS]
  rfl
 refine pu 6 (some 33) ?_ (bt 13 127) (by kernel_rfl) ?_ ?_ ?_ ?_
 rotate_left
 ·intro w'
  go_simp
  with_reducible rfl
 rotate_left
 ·simp only [pS]
  rfl
 refine pu 7 (some 34) ?_ (bt 13 255) (by kernel_rfl) ?_ ?_ ?_ ?_
 rotate_left
 ·intro w'
  go_simp
  with_reducible rfl
 rotate_left
 ·simp only [pS]
  rfl
 refine pu 8 (some 35) ?_ (bt 13 511) (by kernel_rfl) ?_ ?_ ?_ ?_
 rotate_left
 ·intro w'
  go_simp
  with_reducible rfl
 rotate_left
 ·simp only [pS]
  rfl
 refine one_ (i := 9) (N := none) (bt 13 1023) rfl rfl (by kernel_rfl) (by decide) (fun K hK => ?_)
 refine skip_ (w1 := ?_) (by rfl) rfl ?_ ?_
 rotate_left
 ·go_simp
  first | rfl | exact ⟨rfl, rfl⟩
 have hG4 := blk_put (cs := #[.pointer (some ⟨gd, 0, none⟩), .int .i64 0, .int .i64 0, .int .i64 0, .int .i64 0, .slice none 0 0]) G3.out 1 (.int .i64 (-1)) (cs' := #[.pointer (some ⟨gd, 0, none⟩), .int .i64 (-1), .int .i64 0, .int .i64 0, .int .i64 0, .slice none 0 0]) rfl
 have hX4 := (Below.heap_setCell W3 ⟨g, 1, none⟩ (.int .i64 (-1)) b6 hgb).trans X3.out
 have hS4 := S3.out.poke g hQg hwg 1 (.int .i64 (-1))
 have hN4 := (NX3.out : ∀ k, k ≠ g → W3.heap[k]? = Wq.heap[k]?)
 replace hN4 : ∀ k, k ≠ g → (W3.setCell ⟨g, 1, none⟩ (.int .i64 (-1))).heap[k]? = Wq.heap[k]? := fun k hk => (Below.heap_setCell W3 ⟨g, 1, none⟩ (.int .i64 (-1)) k hk).trans (hN4 k hk)
 have hZ4 : (W3.setCell ⟨g, 1, none⟩ (.int .i64 (-1))).heap.size = Wq.heap.size := by rw [World.size_setCell]; exact Z3.out
 generalize W3.setCell ⟨g, 1, none⟩ (.int .i64 (-1)) = W4 at hG4 hX4 hS4 hN4 hZ4 ⊢
 have G4 := AM hG4
 have X4 := AM hX4
 have S4 := AM hS4
 have NX4 := AM hN4
 have Z4 := AM hZ4
 clear hS4 hN4 hZ4 F0 F1 F2 F3 F4 F5 f0 f1 f2 f3 f4 f5
 have F0 := (blk_cell hG4 0).trans rfl
 have F1 := (blk_cell hG4 1).trans rfl
 have F2 := (blk_cell hG4 2).trans rfl
 have F3 := (blk_cell hG4 3).trans rfl
 have F4 := (blk_cell hG4 4).trans rfl
 have F5 := (blk_cell hG4 5).trans rfl
 have f0 := blk_frozen hG4 0
 have f1 := blk_frozen hG4 1
 have f2 := blk_frozen hG4 2
 have f3 := blk_frozen hG4 3
 have f4 := blk_frozen hG4 4
 have f5 := blk_frozen hG4 5
 have x6 := (blk_cell hX4 0).trans rfl
 clear hG4 hX4
 refine hK.out _ _ x6 (fun hHeld => ?_)
 clear hK K
 refine pu 10 (some 36) ?_ (bt 13 2047) (by kernel_rfl) ?_ ?_ ?_ ?_
 rotate_left
 ·intro w'
  go_simp
  with_reducible rfl
 rotate_left
 ·simp only [pS]
  rfl
 refine pu 11 (some 37) ?_ (bt 13 4095) (by kernel_rfl) ?_ ?_ ?_ ?_
 rotate_left
 ·intro w'
  go_simp
  with_reducible rfl
 rotate_left
 ·simp only [pS]
  rfl
 refine one_ (i := 12) (N := none) (bt 13 8191) rfl rfl (by kernel_rfl) (by decide) (fun K hK => ?_)
 refine skip_ (w1 := ?_) (by rfl) rfl ?_ ?_
 rotate_left
 ·go_simp
  first | rfl | exact ⟨rfl, rfl⟩
 have hG5 := blk_put (cs := #[.pointer (some ⟨gd, 0, none⟩), .int .i64 (-1), .int .i64 0, .int .i64 0, .int .i64 0, .slice none 0 0]) G4.out 2 (.int .i64 0) (cs' := #[.pointer (some ⟨gd, 0, none⟩), .int .i64 (-1), .int .i64 0, .int .i64 0, .int .i64 0, .slice none 0 0]) rfl
 have hX5 := (Below.heap_setCell W4 ⟨g, 2, none⟩ (.int .i64 0) b6 hgb).trans X4.out
 have hS5 := S4.out.poke g hQg hwg 2 (.int .i64 0)
 have hN5 := (NX4.out : ∀ k, k ≠ g → W4.heap[k]? = Wq.heap[k]?)
 replace hN5 : ∀ k, k ≠ g → (W4.setCell ⟨g, 2, none⟩ (.int .i64 0)).heap[k]? = Wq.heap[k]? := fun k hk => (Below.heap_setCell W4 ⟨g, 2, none⟩ (.int .i64 0) k hk).trans (hN5 k hk)
 have hZ5 : (W4.setCell ⟨g, 2, none⟩ (.int .i64 0)).heap.size = Wq.heap.size := by rw [World.size_setCell]; exact Z4.out
 generalize W4.setCell ⟨g, 2, none⟩ (.int .i64 0) = W5 at hG5 hX5 hS5 hN5 hZ5 ⊢
 have G5 := AM hG5
 have X5 := AM hX5
 have S5 := AM hS5
 have NX5 := AM hN5
 have Z5 := AM hZ5
 clear hS5 hN5 hZ5 F0 F1 F2 F3 F4 F5 f0 f1 f2 f3 f4 f5
 have F0 := (blk_cell hG5 0).trans rfl
 have F1 := (blk_cell hG5 1).trans rfl
 have F2 := (blk_cell hG5 2).trans rfl
 have F3 := (blk_cell hG5 3).trans rfl
 have F4 := (blk_cell hG5 4).trans rfl
 have F5 := (blk_cell hG5 5).trans rfl
 have f0 := blk_frozen hG5 0
 have f1 := blk_frozen hG5 1
 have f2 := blk_frozen hG5 2
 have f3 := blk_frozen hG5 3
 have f4 := blk_frozen hG5 4
 have f5 := blk_frozen hG5 5
 have x6 := (blk_cell hX5 0).trans rfl
 clear hG5 hX5
 refine hK.out _ _ x6 (fun hHeld => ?_)
 clear hK K
 refine done_ (by kernel_rfl) ?_
 go_wp2_with fail
 refine start_ (n := 16) (S := fun w' => w'.cell? ⟨b6, 0, none⟩ = some (.pointer (some ⟨g, 0, none⟩)) ∧ w'.cell? ⟨g, 2, none⟩ = some (.int .i64 0)) (ds := []) #[false, false, false, false, false, false, false, false, false, false, false, false, false, false, false, false] (by kernel_rfl) rfl rfl ⟨x6, F2⟩ (fun hHeld => ?_)
 have hbd : Below W5.heap.size W5 W5.drew := below_drew (Below.refl _ _)
 have hG6 : W5.drew.heap[g]? = some (.cells #[.pointer (some ⟨gd, 0, none⟩), .int .i64 (-1), .int .i64 0, .int .i64 0, .int .i64 0, .slice none 0 0] 108 (0, 0)) := G5.out
 have hX6 : W5.drew.heap[b6]? = some (.cells #[.pointer (some ⟨g, 0, none⟩)] 59 (0, 0)) := X5.out
 have S6 := AM (S5.out.step hbd)
 have hN6 : ∀ k, k ≠ g → W5.drew.heap[k]? = Wq.heap[k]? := NX5.out
 have hZ6 : W5.drew.heap.size = Wq.heap.size := Z5.out
 clear hHeld hbd F0 F1 F2 F3 F4 F5 f0 f1 f2 f3 f4 f5 x6
 generalize W5.drew = W6 at hG6 hX6 S6 hN6 hZ6 ⊢
 have G6 := AM hG6
 have X6 := AM hX6
 have NX6 := AM hN6
 have Z6 := AM hZ6
 have F0 := (blk_cell hG6 0).trans rfl
 have F1 := (blk_cell hG6 1).trans rfl
 have F2 := (blk_cell hG6 2).trans rfl
 have F3 := (blk_cell hG6 3).trans rfl
 have F4 := (blk_cell hG6 4).trans rfl
 have F5 := (blk_cell hG6 5).trans rfl
 have f0 := blk_frozen hG6 0
 have f1 := blk_frozen hG6 1
 have f2 := blk_frozen hG6 2
 have f3 := blk_frozen hG6 3
 have f4 := blk_frozen hG6 4
 have f5 := blk_frozen hG6 5
 have x6 := (blk_cell hX6 0).trans rfl
 clear hG6 hX6 hN6 hZ6
 have hHeld : W6.cell? ⟨b6, 0, none⟩ = some (.pointer (some ⟨g, 0, none⟩)) ∧ W6.cell? ⟨g, 2, none⟩ = some (.int .i64 0) := ⟨x6, F2⟩
 refine tk 0 (some 38) ?_ (bt 16 1) (by kernel_rfl) hHeld ?_ ?_ ?_ ?_
 rotate_left
 ·rintro w' ⟨s0, s1⟩
  go_simp
  with_reducible rfl
 rotate_left
 ·simp only [pS]
  rfl
 refine tk 1 (some 39) ?_ (bt 16 3) (by kernel_rfl) hHeld ?_ ?_ ?_ ?_
 rotate_left
 ·rintro w' ⟨s0, s1⟩
  go_simp
  with_reducible rfl
 rotate_left
 ·simp only [pS]
  rfl
 refine tk 2 (some 40) ?_ (bt 16 7) (by kernel_rfl) hHeld ?_ ?_ ?_ ?_
 rotate_left
 ·rintro w' ⟨s0, s1⟩
  go_simp
  with_reducible rfl
 rotate_left
 ·simp only [pS]
  rfl
 refine pu 3 (some 41) ?_ (bt 16 15) (by kernel_rfl) ?_ ?_ ?_ ?_
 rotate_left
 ·intro w'
  go_simp
  with_reducible rfl
 rotate_left
 ·simp only [pS]
  rfl
 refine pu 4 (some 42) ?_ (bt 16 31) (by kernel_rfl) ?_ ?_ ?_ ?_
 rotate_left
 ·intro w'
  go_simp
  with_reducible rfl
 rotate_left
 ·simp only [pS]
  rfl
 refine tk 5 (some 43) ?_ (bt 16 63) (by kernel_rfl) hHeld ?_ ?_ ?_ ?_
 rotate_left
 ·rintro w' ⟨s0, s1⟩
  go_simp
  with_reducible rfl
 rotate_left
 ·simp only [pS]
  rfl
 refine tk 6 (some 44) ?_ (bt 16 127) (by kernel_rfl) hHeld ?_ ?_ ?_ ?_
 rotate_left
 ·rintro w' ⟨s0, s1⟩
  go_simp
  with_reducible rfl
 rotate_left
 ·simp only [pS]
  rfl
 refine pu 7 (some 45) ?_ (bt 16 255) (by kernel_rfl) ?_ ?_ ?_ ?_
 rotate_left
 ·intro w'
  go_simp
  with_reducible rfl
 rotate_left
 ·simp only [pS]
  rfl
 refine pu 8 (some 46) ?_ (bt 16 511) (by kernel_rfl) ?_ ?_ ?_ ?_
 rotate_left
 ·intro w'
  go_simp
  with_reducible rfl
 rotate_left
 ·simp only [pS]
  rfl
 refine tk 9 (some 47) ?_ (bt 16 1023) (by kernel_rfl) hHeld ?_ ?_ ?_ ?_
 rotate_left
 ·rintro w' ⟨s0, s1⟩
  go_simp
  with_reducible rfl
 rotate_left
 ·simp only [pS]
  rfl
 refine pu 10 (some 48) ?_ (bt 16 2047) (by kernel_rfl) ?_ ?_ ?_ ?_
 rotate_left
 ·intro w'
  go_simp
  with_reducible rfl
 rotate_left
 ·simp only [pS]
  rfl
 refine pu 11 (some 49) ?_ (bt 16 4095) (by kernel_rfl) ?_ ?_ ?_ ?_
 rotate_left
 ·intro w'
  go_simp
  with_reducible rfl
 rotate_left
 ·simp only [pS]
  rfl
 refine one_ (i := 12) (N := none) (bt 16 8191) rfl rfl (by kernel_rfl) (by decide) (fun K hK => ?_)
 refine skip_ (w1 := ?_) (by rfl) rfl ?_ ?_
 rotate_left
 ·go_simp
  first | rfl | exact ⟨rfl, rfl⟩
 have hG7 := blk_put (cs := #[.pointer (some ⟨gd, 0, none⟩), .int .i64 (-1), .int .i64 0, .int .i64 0, .int .i64 0, .slice none 0 0]) G6.out 3 (.int .i64 0) (cs' := #[.pointer (some ⟨gd, 0, none⟩), .int .i64 (-1), .int .i64 0, .int .i64 0, .int .i64 0, .slice none 0 0]) rfl
 have hX7 := (Below.heap_setCell W6 ⟨g, 3, none⟩ (.int .i64 0) b6 hgb).trans X6.out
 have hS7 := S6.out.poke g hQg hwg 3 (.int .i64 0)
 have hN7 := (NX6.out : ∀ k, k ≠ g → W6.heap[k]? = Wq.heap[k]?)
 replace hN7 : ∀ k, k ≠ g → (W6.setCell ⟨g, 3, none⟩ (.int .i64 0)).heap[k]? = Wq.heap[k]? := fun k hk => (Below.heap_setCell W6 ⟨g, 3, none⟩ (.int .i64 0) k hk).trans (hN7 k hk)
 have hZ7 : (W6.setCell ⟨g, 3, none⟩ (.int .i64 0)).heap.size = Wq.heap.size := by rw [World.size_setCell]; exact Z6.out
 generalize W6.setCell ⟨g, 3, none⟩ (.int .i64 0) = W7 at hG7 hX7 hS7 hN7 hZ7 ⊢
 have G7 := AM hG7
 have X7 := AM hX7
 have S7 := AM hS7
 have NX7 := AM hN7
 have Z7 := AM hZ7
 clear hS7 hN7 hZ7 F0 F1 F2 F3 F4 F5 f0 f1 f2 f3 f4 f5
 have F0 := (blk_cell hG7 0).trans rfl
 have F1 := (blk_cell hG7 1).trans rfl
 have F2 := (blk_cell hG7 2).trans rfl
 have F3 := (blk_cell hG7 3).trans rfl
 have F4 := (blk_cell hG7 4).trans rfl
 have F5 := (blk_cell hG7 5).trans rfl
 have f0 := blk_frozen hG7 0
 have f1 := blk_frozen hG7 1
 have f2 := blk_frozen hG7 2
 have f3 := blk_frozen hG7 3
 have f4 := blk_frozen hG7 4
 have f5 := blk_frozen hG7 5
 have x6 := (blk_cell hX7 0).trans rfl
 clear hG7 hX7
 refine hK.out _ _ ⟨x6, F2⟩ (fun hHeld => ?_)
 clear hK K
 refine pu 13 (some 50) ?_ (bt 16 16383) (by kernel_rfl) ?_ ?_ ?_ ?_
 rotate_left
 ·intro w'
  go_simp
  with_reducible rfl
 rotate_left
 ·simp only [pS]
  rfl
 refine pu 14 (some 51) ?_ (bt 16 32767) (by kernel_rfl) ?_ ?_ ?_ ?_
 rotate_left
 ·intro w'
  go_simp
  with_reducible rfl
 rotate_left
 ·simp only [pS]
  rfl
 refine one_ (i := 15) (N := none) (bt 16 65535) rfl rfl (by kernel_rfl) (by decide) (fun K hK => ?_)
 refine skip_ (w1 := ?_) (by rfl) rfl ?_ ?_
 rotate_left
 ·go_simp
  first | rfl | exact ⟨rfl, rfl⟩
 have hG8 := blk_put (cs := #[.pointer (some ⟨gd, 0, none⟩), .int .i64 (-1), .int .i64 0, .int .i64 0, .int .i64 0, .slice none 0 0]) G7.out 4 (.int .i64 0) (cs' := #[.pointer (some ⟨gd, 0, none⟩), .int .i64 (-1), .int .i64 0, .int .i64 0, .int .i64 0, .slice none 0 0]) rfl
 have hX8 := (Below.heap_setCell W7 ⟨g, 4, none⟩ (.int .i64 0) b6 hgb).trans X7.out
 have hS8 := S7.out.poke g hQg hwg 4 (.int .i64 0)
 have hN8 := (NX7.out : ∀ k, k ≠ g → W7.heap[k]? = Wq.heap[k]?)
 replace hN8 : ∀ k, k ≠ g → (W7.setCell ⟨g, 4, none⟩ (.int .i64 0)).heap[k]? = Wq.heap[k]? := fun k hk => (Below.heap_setCell W7 ⟨g, 4, none⟩ (.int .i64 0) k hk).trans (hN8 k hk)
 have hZ8 : (W7.setCell ⟨g, 4, none⟩ (.int .i64 0)).heap.size = Wq.heap.size := by rw [World.size_setCell]; exact Z7.out
 generalize W7.setCell ⟨g, 4, none⟩ (.int .i64 0) = W8 at hG8 hX8 hS8 hN8 hZ8 ⊢
 have G8 := AM hG8
 have X8 := AM hX8
 have S8 := AM hS8
 have NX8 := AM hN8
 have Z8 := AM hZ8
 clear hS8 hN8 hZ8 F0 F1 F2 F3 F4 F5 f0 f1 f2 f3 f4 f5
 have F0 := (blk_cell hG8 0).trans rfl
 have F1 := (blk_cell hG8 1).trans rfl
 have F2 := (blk_cell hG8 2).trans rfl
 have F3 := (blk_cell hG8 3).trans rfl
 have F4 := (blk_cell hG8 4).trans rfl
 have F5 := (blk_cell hG8 5).trans rfl
 have f0 := blk_frozen hG8 0
 have f1 := blk_frozen hG8 1
 have f2 := blk_frozen hG8 2
 have f3 := blk_frozen hG8 3
 have f4 := blk_frozen hG8 4
 have f5 := blk_frozen hG8 5
 have x6 := (blk_cell hX8 0).trans rfl
 clear hG8 hX8
 refine hK.out _ _ ⟨x6, F2⟩ (fun hHeld => ?_)
 clear hK K
 refine done_ (by kernel_rfl) ?_
 go_wp2_with fail
 refine (frames_calls A m c 0 W8).mono ?_
 rintro e Wf ⟨rfl, hWf⟩
 have hbf : Below W8.heap.size W8 Wf := by rw [hWf]; exact below_alloc (below_alloc (Below.refl _ _) _) _
 have hp0 : Wf.heap[W8.heap.size]? = some (.cells #[.slice A m c] 29 (0, 0)) := by rw [hWf]; exact (Below.heap_alloc _ _ _ (by simp)).trans (heap_alloc_new W8 _)
 have hq0 : Wf.heap[W8.heap.size + 1]? = some (.cells #[.int .i64 0] 3 (0, 0)) := by
  have := heap_alloc_new (W8.alloc (.cells #[.slice A m c] 29)) (.cells #[.int .i64 0] 3)
  rw [World.size_alloc] at this
  rw [hWf]; exact this
 have hCf : Kd.C (Kd.int .u8) Wf A m (List.replicate m 0) := by
  refine Kd.F_now (Kd.F_step FG.out (fun k hk _ => ?_))
  have h8 := blk_lt G8.out
  rw [hbf.block k (by omega), NX8.out k (by omega), BGq.out k hk]
 clear hWf
 have PQ := AM (And.intro hp0 hq0)
 have HCf := AM hCf
 have HBf := AM hbf
 clear hp0 hq0 hCf hbf
 go_wp2_with fail
 rw [← wpIn_wide (n := 3)]
 refine wpIn_rangeFunc_ownF (F := Fence.wide) rfl (by omega) (gf := 85) (lb := #[.pointer (some ⟨W8.heap.size, 0, none⟩), .pointer (some ⟨W8.heap.size + 1, 0, none⟩)]) rfl trivial (fun args w => enters_ Try.func85 (by kernel_rfl) rfl args w)
  (α := Empty) (encs := fun x => x.elim) (Kp := Below Wf.heap.size) (S := fun _ => True) (Sp := fun _ => False) (N := 0) (w0 := Wf) ?hseq belowK_t (belowK_b (Nat.le_refl _)) (Below.refl _ _) (fun x => x.elim)
  (fun _ W' => Below Wf.heap.size Wf W') (fun _ _ _ => False) (ownFrom_below (Nat.le_refl _) (Nat.le_refl _)) (fun _ _ _ _ _ hs _ _ => hs) (Below.refl _ _) (fun x => x.elim) (fun _ x => x.elim) (fun _ _ x => x.elim) ?done ?stop
 case hseq =>
  intro l J Jx W' hb hJ _ _ h0
  have hp' := (hb.block _ (blk_lt PQ.out.1)).trans PQ.out.1
  have hq' := (hb.block _ (blk_lt PQ.out.2)).trans PQ.out.2
  refine callsIn_wide.2 ((frames0_calls m hm hm2 A c W8.heap.size (W8.heap.size + 1) W' l ((blk_cell hp' 0).trans rfl) ((blk_cell hq' 0).trans rfl) (Kd.C_below HCf.out hb) hcA).mono ?_)
  rintro e W2 ⟨rfl, hb2⟩
  exact ⟨⟨_, rfl⟩, .inl ⟨[], trivial, hJ [] W' W2 none h0 ⟨hb2.os, hb2.tape, hb2.output, hb2.size, fun k hk _ => hb2.block k hk⟩ (fun r e => by cases e)⟩⟩
 case stop =>
  intro D c' pre W' _ h _ _
  exact h.elim
 case done =>
  intro D xs W9 hD _ hb9 hK9
  have hgl := blk_lt G8.out
  have hbl := blk_lt X8.out
  have hb89 : Below W8.heap.size W8 W9 := below_step HBf.out hb9
  have hD8 : W8.heap.size ≤ D := Nat.le_trans HBf.out.size hD
  have hD9 : D < W9.heap.size := (Array.getElem?_eq_some_iff.1 hK9).1
  have hG9 := (hb89.block g hgl).trans G8.out
  have hX9 := (hb89.block b6 hbl).trans X8.out
  have S9 := AM (S8.out.fenced hb89)
  have C9 := AM (Kd.C_below HCf.out hb9)
  have KP9 := AM (show KeepP Q W W9 from fun k hk => by
   have h1 := HQL.out k hk
   rw [hb89.block k (by omega), NX8.out k (by omega), KQ.out k hk])
  obtain ⟨Q2, hQ2⟩ : ∃ Q2, Q2 = (fun k => Q1 k ∨ (W8.heap.size ≤ k ∧ k < W9.heap.size)) := ⟨_, rfl⟩
  have hQ2D : Q2 D := by rw [hQ2]; exact .inr ⟨hD8, hD9⟩
  have hQ2g : Q2 g := by rw [hQ2]; exact .inl hQg
  have hQ2b : Q2 b6 := by rw [hQ2]; exact .inl hQb
  have hQQ2 : ∀ k, Q k → Q2 k := fun k hk => by rw [hQ2]; exact .inl (hQQ k hk)
  rw [← hQ2] at S9
  have hwD : w0.heap.size ≤ D := Nat.le_trans hwg (Nat.le_trans (Nat.le_of_lt hgl) hD8)
  have hgD : g ≠ D := by omega
  have G9 := AM hG9
  have X9 := AM hX9
  have KK9 := AM hK9
  clear hQ2 hb89 hb9 hD PQ HCf HBf F0 F1 F2 F3 F4 F5 f0 f1 f2 f3 f4 f5 x6 hHeld hK9
  have x6 := (blk_cell hX9 0).trans rfl
  clear hX9 hG9
  go_wp2_with fail
  refine (at_calls g _ _ _ _ 0 0 W9 G9.out).mono ?_
  rintro e Wa ⟨rfl, hba⟩
  have G10 := AM ((hba.block g (blk_lt G9.out)).trans G9.out)
  have X10 := AM ((hba.block b6 (blk_lt X9.out)).trans X9.out)
  have K10 := AM ((hba.block D hD9).trans KK9.out)
  have S10 := AM (S9.out.step hba)
  have C10 := AM (Kd.C_below C9.out hba)
  have KP10 := AM (KP9.out.trans (fun k hk => (S9.out.keepP hba) k (hQQ2 k hk)))
  rw [show wrap64 (wrap64 (24 + 0) - 0) = ((24 : Nat) : Int) from by unfold wrap64; omega]
  clear hba x6
  go_wp2_with fail
  have hE0 : eraseD (Dk.fresh m) (List.replicate m 0) 24 = (Dk.fresh m, 0) := by
   rw [eraseD, if_neg]
   rintro ⟨y, hy, hy0⟩
   rw [List.drop_replicate] at hy
   exact hy0 (List.eq_of_mem_replicate hy)
  have her := erase_calls S10.out OK0.out (by simp [Dk.fresh]) A c (List.replicate m 0) 24 (by rw [List.length_replicate]; exact C10.out) (by rw [List.length_replicate]; exact hcA) (by rw [List.length_replicate]; omega) (by rw [List.length_replicate]; omega)
  rw [List.length_replicate, hE0] at her
  replace her : Calls Try.prog 71 #[.pointer (some ⟨gd, 0, none⟩), .slice A m c, .int .i64 24] Wa fun e w' => e = .returned (.int .i64 0) ∧ Sts w0 w' Q2 [(gd, Dk.fresh m)] ∧ KeepP Q2 Wa w' := her
  refine her.mono ?_
  clear her
  rintro e Wb ⟨rfl, hs, hk⟩
  have S11 := AM hs
  have G11 := AM ((hk g hQ2g).trans G10.out)
  have X11 := AM ((hk b6 hQ2b).trans X10.out)
  have K11 := AM ((hk D hQ2D).trans K10.out)
  have KP11 := AM (KP10.out.trans (fun k h => hk k (hQQ2 k h)))
  clear hs hk
  go_wp2_with fail
  refine (S11.out.pending 0 rfl).mono ?_
  rintro e Wb' ⟨rfl, rfl⟩
  rw [show (Dk.fresh m).pend.length = 0 from rfl]
  have x6 := (blk_cell X11.out 0).trans rfl
  have F3 := (blk_cell G11.out 3).trans rfl
  go_wp2_with fail
  refine start_ (n := 8) (S := fun w' => w'.cell? ⟨b6, 0, none⟩ = some (.pointer (some ⟨g, 0, none⟩)) ∧ w'.cell? ⟨g, 3, none⟩ = some (.int .i64 0)) (ds := []) #[false, false, false, false, false, false, false, false] (by kernel_rfl) rfl rfl ⟨x6, F3⟩ (fun hHeld => ?_)
  have hbd : Below Wb.heap.size Wb Wb.drew := below_drew (Below.refl _ _)
  have hG12 : Wb.drew.heap[g]? = some (.cells #[.pointer (some ⟨gd, 0, none⟩), .int .i64 (-1), .int .i64 0, .int .i64 0, .int .i64 0, .slice none 0 0] 108 (0, 0)) := G11.out
  have hX12 : Wb.drew.heap[b6]? = some (.cells #[.pointer (some ⟨g, 0, none⟩)] 59 (0, 0)) := X11.out
  have hK12 : Wb.drew.heap[D]? = some (.deferred (some [])) := K11.out
  have S12 := AM (S11.out.step hbd)
  have KP12 := AM (show KeepP Q W Wb.drew from KP11.out)
  clear hHeld hbd F3 x6
  generalize Wb.drew = Wc at hG12 hX12 hK12 S12 KP12 ⊢
  have G12 := AM hG12
  have X12 := AM hX12
  have K12 := AM hK12
  have F0 := (blk_cell hG12 0).trans rfl
  have F1 := (blk_cell hG12 1).trans rfl
  have F2 := (blk_cell hG12 2).trans rfl
  have F3 := (blk_cell hG12 3).trans rfl
  have F4 := (blk_cell hG12 4).trans rfl
  have F5 := (blk_cell hG12 5).trans rfl
  have f0 := blk_frozen hG12 0
  have f1 := blk_frozen hG12 1
  have f2 := blk_frozen hG12 2
  have f3 := blk_frozen hG12 3
  have f4 := blk_frozen hG12 4
  have f5 := blk_frozen hG12 5
  have x6 := (blk_cell hX12 0).trans rfl
  clear hG12 hX12 hK12
  have hHeld : Wc.cell? ⟨b6, 0, none⟩ = some (.pointer (some ⟨g, 0, none⟩)) ∧ Wc.cell? ⟨g, 3, none⟩ = some (.int .i64 0) := ⟨x6, F3⟩
  refine tk 0 (some 90) ?_ (bt 8 1) (by kernel_rfl) hHeld ?_ ?_ ?_ ?_
  rotate_left
  ·rintro w' ⟨s0, s1⟩
   go_simp
   with_reducible rfl
  rotate_left
  ·simp only [pS]
   rfl
  refine tk 1 (some 91) ?_ (bt 8 3) (by kernel_rfl) hHeld ?_ ?_ ?_ ?_
  rotate_left
  ·rintro w' ⟨s0, s1⟩
   go_simp
   with_reducible rfl
  rotate_left
  ·simp only [pS]
   rfl
  refine pu 2 (some 92) ?_ (bt 8 7) (by kernel_rfl) ?_ ?_ ?_ ?_
  rotate_left
  ·intro w'
   go_simp
   with_reducible rfl
  rotate_left
  ·simp only [pS]
   rfl
  refine pu 3 (some 93) ?_ (bt 8 15) (by kernel_rfl) ?_ ?_ ?_ ?_
  rotate_left
  ·intro w'
   go_simp
   with_reducible rfl
  rotate_left
  ·simp only [pS]
   rfl
  refine tk 4 (some 94) ?_ (bt 8 31) (by kernel_rfl) hHeld ?_ ?_ ?_ ?_
  rotate_left
  ·rintro w' ⟨s0, s1⟩
   go_simp
   with_reducible rfl
  rotate_left
  ·simp only [pS]
   rfl
  refine pu 5 (some 95) ?_ (bt 8 63) (by kernel_rfl) ?_ ?_ ?_ ?_
  rotate_left
  ·intro w'
   go_simp
   with_reducible rfl
  rotate_left
  ·simp only [pS]
   rfl
  refine pu 6 (some 96) ?_ (bt 8 127) (by kernel_rfl) ?_ ?_ ?_ ?_
  rotate_left
  ·intro w'
   go_simp
   with_reducible rfl
  rotate_left
  ·simp only [pS]
   rfl
  refine one_ (i := 7) (N := none) (bt 8 255) rfl rfl (by kernel_rfl) (by decide) (fun K hK => ?_)
  refine skip_ (w1 := ?_) (by rfl) rfl ?_ ?_
  rotate_left
  ·go_simp
   first | rfl | exact ⟨rfl, rfl⟩
  have hGd := blk_put (cs := #[.pointer (some ⟨gd, 0, none⟩), .int .i64 (-1), .int .i64 0, .int .i64 0, .int .i64 0, .slice none 0 0]) G12.out 4 (.int .i64 0) (cs' := #[.pointer (some ⟨gd, 0, none⟩), .int .i64 (-1), .int .i64 0, .int .i64 0, .int .i64 0, .slice none 0 0]) rfl
  have hXd := (Below.heap_setCell Wc ⟨g, 4, none⟩ (.int .i64 0) b6 hgb).trans X12.out
  have hSd := S12.out.poke g hQ2g hwg 4 (.int .i64 0)
  have hKd := (Below.heap_setCell Wc ⟨g, 4, none⟩ (.int .i64 0) D (Ne.symm hgD)).trans K12.out
  have hKPd : KeepP Q W (Wc.setCell ⟨g, 4, none⟩ (.int .i64 0)) := fun k hk => (Below.heap_setCell Wc ⟨g, 4, none⟩ (.int .i64 0) k (show k ≠ g from Nat.ne_of_lt (HQL.out k hk))).trans (KP12.out k hk)
  clear F0 F1 F2 F3 F4 F5 f0 f1 f2 f3 f4 f5 x6
  generalize Wc.setCell ⟨g, 4, none⟩ (.int .i64 0) = Wd at hGd hXd hSd hKd hKPd ⊢
  have x6 := (blk_cell hXd 0).trans rfl
  have F3 := (blk_cell hGd 3).trans rfl
  have GD := AM hGd
  have SD := AM hSd
  have KD := AM hKd
  have KPD := AM hKPd
  clear hGd hXd hSd hKd hKPd
  refine hK.out _ _ ⟨x6, F3⟩ (fun hHeld => ?_)
  clear hK K
  refine done_ (by kernel_rfl) ?_
  go_wp2_with fail
  have hkD : ∀ k, Q k → k ≠ D := fun k hk => by have := HQL.out k hk; omega
  show LeavesInM Fence.wide 3 Try.prog Try.f36 _ _ [{ target := .collected D, args := #[] }] .returning Wd
  refine ⟨by simp, .inl ⟨D, _, rfl, run_takeDeferred KD.out, ?_⟩⟩
  refine ⟨_, results_tmp2 rfl _ _ _, ?_⟩
  refine ⟨g, rfl, Q2, hQQ2, ⟨SD.out.putD D hQ2D hwD _, .slice none 0 0, ?_, Kd.N_nil _ _ _ _ _, fun _ h => h.elim, hQ2g, hwg⟩, HWG.out, fun k hk => ?_⟩
  ·exact (World.putObj_heap_other hgD).trans GD.out
  ·exact (World.putObj_heap_other (hkD k hk)).trans (KPD.out k hk)
end Go.Proofs.Ytbbokpkpdnppjaa
