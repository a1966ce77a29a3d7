/- The log: opening a disk in general. -/
import Derived.Test.YtbbokpkpdnppjaaU0
import Derived.Test.YtbbokpkpdnppjaaUA
import Derived.Test.YtbbokpkpdnppjaaM8
namespace Go.Proofs.Ytbbokpkpdnppjaa
open Go.RowKit Go.Proofs.YtbbokpkpdnppjaaW.PrintWords Go.Proofs.YtbbokpkpdnppjaaW.PrintLast Go.Proofs.YtbbokpkpdnppjaaW.PrintMore
set_option linter.unusedVariables false
set_option linter.unusedSimpArgs false
attribute [local go_sem] Oper.semAt_some
theorem range_wide {P : Program} {g : Operand} {ps : Array Tmp} {assign body : Code} {Q : Exit → Act → World → Prop} {a : Act} {w : World} {n gf : Nat} {lb : Array Value} (hg : a.eval g = .func (.func gf) #[] lb) (eg : ∀ args w, (callFunc gf args).run P w = .ok (.enter gf args) w)
  (h : ∀ fn rec, rec = ({ state := .ready, pending := none, fn := fn, tmps := a.tmps, params := ps, assign := assign, body := body, defers := w.heap.size } : Loop) → ∀ Wn, Wn = (w.alloc (.deferred (some []))).alloc (.loop rec) →
   CallsIn Fence.wide n P gf (#[.func (.yield (w.heap.size + 1)) #[] #[]] ++ lb) Wn (rangePost Fence.wide (n + 1) P (w.heap.size + 1) Q { a with defers := { target := .collected w.heap.size, args := #[] } :: a.defers })) :
  (Code.rangeFunc g ps assign body).wpIn Fence.wide (n + 1) P Q a w := by
 refine wpIn_rangeFunc ?_
 intro fn _
 refine ⟨w.heap.size + 1, [{ target := .collected w.heap.size, args := #[] }], (w.alloc (.deferred (some []))).alloc (.loop { state := .ready, pending := none, fn := fn, tmps := a.tmps, params := ps, assign := assign, body := body, defers := w.heap.size }), { target := .fn (.func gf) lb, args := #[.func (.yield (w.heap.size + 1)) #[] #[]] }, (w.alloc (.deferred (some []))).alloc (.loop { state := .ready, pending := none, fn := fn, tmps := a.tmps, params := ps, assign := assign, body := body, defers := w.heap.size }), gf, #[.func (.yield (w.heap.size + 1)) #[] #[]] ++ lb, (w.alloc (.deferred (some []))).alloc (.loop { state := .ready, pending := none, fn := fn, tmps := a.tmps, params := ps, assign := assign, body := body, defers := w.heap.size }), run_enterLoop_outer _ _ _ _ _, ?_, fun _ _ => trivial, ?_, fun _ => by omega, ?_⟩
 ·simp only [resolve, hg]
  simp [go_sem]
 ·simp [invoke, go_sem, eg]
 ·exact h fn _ rfl _ rfl
theorem at_w (ba : Int) (a : Nat) (h0 : 0 ≤ ba) (h1 : ba ≤ 4611686018427387904) (h2 : a ≤ 4194304) : wrap64 (wrap64 (24 + (ba + (a : Int) - 24)) - ba) = (a : Int) := by
 rw [w64 (x := 24 + (ba + (a : Int) - 24)) (by omega) (by omega), w64 (by omega) (by omega)]
 omega
def OpenPost (w0 W : World) (Q : Nat → Prop) (gd : Nat) (D : Dk) (b : List Int) (sl ba : Int) (e : Ending) (W' : World) : Prop := ∃ g at_ rs, e = .returned (.tuple #[.pointer (some ⟨g, 0, none⟩), .int .i64 0]) ∧ Path b ba at_ rs ∧ frameAt b ba at_ = none ∧ ∃ Q' rok, (∀ k, Q k → Q' k) ∧ (∀ k, rok k → W.heap.size ≤ k) ∧ LogS w0 W' Q' rok g gd ⟨sl, ba, ba + at_ - 24, ba + at_ - 24, rs⟩ (eraseD D b at_).1 ∧ W.heap.size ≤ g ∧ KeepP Q W W'
set_option maxRecDepth 100000 in
set_option maxHeartbeats 8000000 in
theorem open_calls {w0 W : World} {Q : Nat → Prop} {gd : Nat} {D : Dk} (h : Sts w0 W Q [(gd, D)]) (hok : D.Ok) (hfail : D.failed = false) (hpn : D.pend.length < 1000) (b : List Int) (hbl : b.length = D.dur.length) (hrd : D.read 0 (b.length : Int) = (b, 0)) (h24 : 24 ≤ b.length) (hB : Bytes b)
  (sl ba : Int) (hbs : basesN b 2 = (sl, ba)) (hba0 : 0 ≤ ba) (hba1 : ba ≤ 4611686018427387904) (hE : ∀ a, 24 ≤ a → a ≤ b.length → (eraseD D b a).2 = 0 ∧ (eraseD D b a).1.pend.length = 0) :
  Calls Try.prog 36 #[.pointer (some ⟨gd, 0, none⟩)] W fun e W' => OpenPost w0 W Q gd D b sl ba e W' := by
 have hm2 : b.length ≤ 4194304 := by have := hok.big; omega
 have H := AM h
 have OK0 := AM hok
 have HRD := AM hrd
 have HE := AM hE
 have HBY := AM hB
 have HPN := AM hpn
 have HBS := AM hbs
 have HBL := AM hbl
 clear h hok hrd hE hB hpn hbs hbl
 refine (callsIn_wide (n := 3)).1 ?_
 refine callsIn_of_wp_marks Try.func36 rfl trivial ?_ rfl
 refine wpIn_mono ?_ (noPanic_le _)
 rw [wpIn_wide]
 simp only [Try.ntmps36, List.size_toArray, List.length_cons, List.length_nil, Nat.reduceAdd, Nat.reduceSub, Array.replicate_succ, Array.replicate_zero, List.push_toArray, List.append_toArray, List.nil_append, List.cons_append]
 go_wp2_with fail
 refine (H.out.failed 0 rfl).mono ?_
 rintro e w1 ⟨rfl, rfl⟩
 rw [hfail]
 go_wp2_with fail
 refine (H.out.size 0 rfl).mono ?_
 rintro e w1 ⟨rfl, rfl⟩
 rw [← HBL.out]
 have h24' : ¬ ((b.length : Int) < 24) := by omega
 go_wp2_with fail
 refine (H.out.size 0 rfl).mono ?_
 rintro e w1 ⟨rfl, rfl⟩
 rw [← HBL.out]
 go_wp2_with fail
 refine (H.out.read 0 rfl OK0.out 0 (b.length : Int)).mono ?_
 rw [HRD.out]
 rintro e w1 ⟨v, rfl, hr, hb⟩
 obtain ⟨A, c, rfl⟩ := Kd.R_slice hr
 have S1 := AM (H.out.step hb)
 have HR1 := AM hr
 have HB1 := AM hb
 clear hr hb
 go_wp2_with fail
 have hcA := (Kd.R_reads' HR1.out).2.1
 have hCA := (Kd.R_reads' HR1.out).2.2
 have hbx : Below w1.heap.size w1 ((w1.alloc (.cells #[.pointer (some ⟨gd, 0, none⟩), .int .i64 0, .int .i64 0, .int .i64 0, .int .i64 0, .slice none 0 0] 108)).alloc (.cells #[.pointer (some ⟨w1.heap.size, 0, none⟩)] 59)) := below_alloc (below_alloc (Below.refl _ _) _) _
 have hG1 : ((w1.alloc (.cells #[.pointer (some ⟨gd, 0, none⟩), .int .i64 0, .int .i64 0, .int .i64 0, .int .i64 0, .slice none 0 0] 108)).alloc (.cells #[.pointer (some ⟨w1.heap.size, 0, none⟩)] 59)).heap[w1.heap.size]? = some (.cells #[.pointer (some ⟨gd, 0, none⟩), .int .i64 0, .int .i64 0, .int .i64 0, .int .i64 0, .slice none 0 0] 108 (0, 0)) := (Below.heap_alloc _ _ _ (by simp)).trans (heap_alloc_new w1 _)
 have hX1 : ((w1.alloc (.cells #[.pointer (some ⟨gd, 0, none⟩), .int .i64 0, .int .i64 0, .int .i64 0, .int .i64 0, .slice none 0 0] 108)).alloc (.cells #[.pointer (some ⟨w1.heap.size, 0, none⟩)] 59)).heap[w1.heap.size + 1]? = some (.cells #[.pointer (some ⟨w1.heap.size, 0, none⟩)] 59 (0, 0)) := by
  have := heap_alloc_new (w1.alloc (.cells #[.pointer (some ⟨gd, 0, none⟩), .int .i64 0, .int .i64 0, .int .i64 0, .int .i64 0, .slice none 0 0] 108)) (.cells #[.pointer (some ⟨w1.heap.size, 0, none⟩)] 59)
  rwa [World.size_alloc] at this
 have hz1 : ((w1.alloc (.cells #[.pointer (some ⟨gd, 0, none⟩), .int .i64 0, .int .i64 0, .int .i64 0, .int .i64 0, .slice none 0 0] 108)).alloc (.cells #[.pointer (some ⟨w1.heap.size, 0, none⟩)] 59)).heap.size = w1.heap.size + 2 := by simp
 have hww := S1.out.bel.size
 generalize ((w1.alloc (.cells #[.pointer (some ⟨gd, 0, none⟩), .int .i64 0, .int .i64 0, .int .i64 0, .int .i64 0, .slice none 0 0] 108)).alloc (.cells #[.pointer (some ⟨w1.heap.size, 0, none⟩)] 59)) = W1 at hbx hG1 hX1 hz1 ⊢
 have SS1 := AM (S1.out.fenced hbx)
 have K1 := AM (S1.out.keepP (W1 := W1) hbx |> (H.out.keepP HB1.out).trans)
 have HC1 := AM (Kd.C_below hCA hbx)
 have hQg : (fun k => Q k ∨ (w1.heap.size ≤ k ∧ k < W1.heap.size)) w1.heap.size := .inr ⟨Nat.le_refl _, by omega⟩
 have hQb : (fun k => Q k ∨ (w1.heap.size ≤ k ∧ k < W1.heap.size)) (w1.heap.size + 1) := .inr ⟨by omega, by omega⟩
 obtain ⟨Q1, hQ1⟩ : ∃ Q1, Q1 = (fun k => Q k ∨ (w1.heap.size ≤ k ∧ k < W1.heap.size)) := ⟨_, rfl⟩
 have hQQ : ∀ k, Q k → Q1 k := fun k hk => by rw [hQ1]; exact .inl hk
 have hQn : ∀ k, Q1 k → Q k ∨ w1.heap.size ≤ k := fun k hk => by rw [hQ1] at hk; exact hk.imp id (fun h => h.1)
 rw [← hQ1] at hQg hQb SS1
 have hFg : Kd.F (Kd.int .u8) w1 (fun k => k < w1.heap.size) A b.length b := Kd.C_F (Kd.heap_int .u8) hCA
 have hBg : ∀ k, k < w1.heap.size → W1.heap[k]? = w1.heap[k]? := fun k hk => hbx.block k hk
 have hgs : w1.heap.size < W1.heap.size := by omega
 clear hQ1 hbx hCA
 obtain ⟨g, hg⟩ : ∃ g, g = w1.heap.size := ⟨_, rfl⟩
 obtain ⟨b6, hb6⟩ : ∃ b6, b6 = w1.heap.size + 1 := ⟨_, rfl⟩
 have hgb : b6 ≠ g := by omega
 have hwg : w0.heap.size ≤ g := by omega
 rw [← hb6, ← hg] at hX1
 rw [← hg] at hG1 hQg hgs
 have hFg : Kd.F (Kd.int .u8) w1 (fun k => k < g) A b.length b := by rw [hg]; exact hFg
 have hQL : ∀ k, Q k → k < g := fun k hk => by have h1 := H.out.lt k hk; have h2 := HB1.out.size; omega
 have hBg : ∀ k, k < g → W1.heap[k]? = w1.heap[k]? := by rw [hg]; exact hBg
 rw [← hb6] at hQb
 rw [← hb6, ← hg]
 have HWG := AM (show W.heap.size ≤ g from by have := HB1.out.size; omega)
 clear hb6 hg hz1
 have G1 := AM hG1
 have X1 := AM hX1
 have FG := AM hFg
 have HQL := AM hQL
 clear hQL
 have BG1 := AM hBg
 clear hFg hBg
 have F0 := (blk_cell hG1 0).trans rfl
 have F1 := (blk_cell hG1 1).trans rfl
 have F2 := (blk_cell hG1 2).trans rfl
 have F3 := (blk_cell hG1 3).trans rfl
 have F4 := (blk_cell hG1 4).trans rfl
 have F5 := (blk_cell hG1 5).trans rfl
 have f0 := blk_frozen hG1 0
 have f1 := blk_frozen hG1 1
 have f2 := blk_frozen hG1 2
 have f3 := blk_frozen hG1 3
 have f4 := blk_frozen hG1 4
 have f5 := blk_frozen hG1 5
 have x6 := (blk_cell hX1 0).trans rfl
 clear hG1 hX1 HR1
 refine start_ (n := 13) (S := fun w' => w'.cell? ⟨b6, 0, none⟩ = some (.pointer (some ⟨g, 0, none⟩))) (ds := []) #[false, false, false, false, false, false, false, false, false, false, false, false, false] (by kernel_rfl) rfl rfl x6 (fun hHeld => ?_)
 have hbd : Below W1.heap.size W1 W1.drew := below_drew (Below.refl _ _)
 have hG2 : W1.drew.heap[g]? = some (.cells #[.pointer (some ⟨gd, 0, none⟩), .int .i64 0, .int .i64 0, .int .i64 0, .int .i64 0, .slice none 0 0] 108 (0, 0)) := G1.out
 have hX2 : W1.drew.heap[b6]? = some (.cells #[.pointer (some ⟨g, 0, none⟩)] 59 (0, 0)) := X1.out
 have S2 := AM (SS1.out.step hbd)
 have HC2 := AM (Kd.C_below HC1.out hbd)
 have BG2 := AM (show ∀ k, k < g → W1.drew.heap[k]? = w1.heap[k]? from BG1.out)
 have hgs2 : g < W1.drew.heap.size := hgs
 have K2 := AM (K1.out.trans (fun k hk => (SS1.out.keepP hbd) k (hQQ k hk)))
 clear hHeld hbd F0 F1 F2 F3 F4 F5 f0 f1 f2 f3 f4 f5 x6
 generalize W1.drew = W2 at hG2 hX2 S2 HC2 K2 BG2 hgs2 ⊢
 have G2 := AM hG2
 have X2 := AM hX2
 have F0 := (blk_cell hG2 0).trans rfl
 have F1 := (blk_cell hG2 1).trans rfl
 have F2 := (blk_cell hG2 2).trans rfl
 have F3 := (blk_cell hG2 3).trans rfl
 have F4 := (blk_cell hG2 4).trans rfl
 have F5 := (blk_cell hG2 5).trans rfl
 have f0 := blk_frozen hG2 0
 have f1 := blk_frozen hG2 1
 have f2 := blk_frozen hG2 2
 have f3 := blk_frozen hG2 3
 have f4 := blk_frozen hG2 4
 have f5 := blk_frozen hG2 5
 have x6 := (blk_cell hX2 0).trans rfl
 have hHeld := x6
 clear hG2 hX2
 refine tk 0 (some 28) ?_ (bt 13 1) (by kernel_rfl) hHeld ?_ ?_ ?_ ?_
 rotate_left
 ·intro w' s0
  go_simp
  with_reducible rfl
 rotate_left
 ·simp only [pS]
  rfl
 refine tk 1 (some 29) ?_ (bt 13 3) (by kernel_rfl) hHeld ?_ ?_ ?_ ?_
 rotate_left
 ·intro w' s0
  go_simp
  with_reducible rfl
 rotate_left
 ·simp only [pS]
  rfl
 refine pu 2 (some 30) ?_ (bt 13 7) (by kernel_rfl) ?_ ?_ ?_ ?_
 rotate_left
 ·intro w'
  go_simp
  with_reducible rfl
 rotate_left
 ·simp only [pS]
  rfl
 refine one_ (i := 3) (N := some 31) (bt 13 15) rfl rfl (by kernel_rfl) (by decide) (fun K hK => ?_)
 refine goes_ Try.func69 (by kernel_rfl) rfl #[.slice A b.length c] (by rfl) rfl rfl (by (try simp only [List.map_toArray, List.map_cons, List.map_nil]); first | done | rfl) ?_
 have hbc := bases_calls A c b W2 HC2.out hcA h24
 rw [HBS.out] at hbc
 replace hbc : Calls Try.prog 69 #[.slice A b.length c] W2 fun e w' => e = .returned (.tuple #[.int .i64 sl, .int .i64 ba]) ∧ Below W2.heap.size W2 w' := hbc
 refine hbc.mono ?_
 clear hbc
 rintro e W3 ⟨rfl, hb3⟩
 have hG3 := (hb3.block _ (blk_lt G2.out)).trans G2.out
 have hX3 := (hb3.block _ (blk_lt X2.out)).trans X2.out
 have S3 := AM (S2.out.step hb3)
 have G3 := AM hG3
 have X3 := AM hX3
 have HC3 := AM (Kd.C_below HC2.out hb3)
 have K3 := AM (K2.out.trans (fun k hk => (S2.out.keepP hb3) k (hQQ k hk)))
 obtain ⟨Wq, hWq⟩ : ∃ Wq, Wq = W3 := ⟨_, rfl⟩
 have NX3 := AM (show ∀ k, k ≠ g → W3.heap[k]? = Wq.heap[k]? from fun k _ => by rw [hWq])
 have Z3 := AM (show W3.heap.size = Wq.heap.size from by rw [hWq])
 have BGq := AM (show ∀ k, k < g → Wq.heap[k]? = w1.heap[k]? from fun k hk => by rw [hWq]; exact (hb3.block k (by omega)).trans (BG2.out k hk))
 have KQ := AM (show KeepP Q W Wq from by rw [hWq]; exact K3.out)
 have HCq := AM (show Kd.C (Kd.int .u8) Wq A b.length b from by rw [hWq]; exact HC3.out)
 clear hb3 hWq
 clear F0 F1 F2 F3 F4 F5 f0 f1 f2 f3 f4 f5 x6
 have F0 := (blk_cell hG3 0).trans rfl
 have F1 := (blk_cell hG3 1).trans rfl
 have F2 := (blk_cell hG3 2).trans rfl
 have F3 := (blk_cell hG3 3).trans rfl
 have F4 := (blk_cell hG3 4).trans rfl
 have F5 := (blk_cell hG3 5).trans rfl
 have f0 := blk_frozen hG3 0
 have f1 := blk_frozen hG3 1
 have f2 := blk_frozen hG3 2
 have f3 := blk_frozen hG3 3
 have f4 := blk_frozen hG3 4
 have f5 := blk_frozen hG3 5
 have x6 := (blk_cell hX3 0).trans rfl
 clear hG3 hX3
 refine ⟨_, rfl, ?_⟩
 refine hK.out _ _ x6 (fun hHeld => ?_)
 clear hK K
 refine norm_ (a' := ?_) ?_ ?_
 rotate_left
 ·show Act.put _ (some 31) _ = _
  simp only [pS]
  rfl
 refine pu 4 (some 27) ?_ (bt 13 31) (by kernel_rfl) ?_ ?_ ?_ ?_
 rotate_left
 ·intro w'
  go_simp
  with_reducible rfl
 rotate_left
 ·simp only [pS]
  rfl
 refine pu 5 (some 32) ?_ (bt 13 63) (by kernel_rfl) ?_ ?_ ?_ ?_
 rotate_left
 ·intro w'
  go_simp
  with_reducible rfl
 rotate_left
 ·simp only [pS]
  rfl
 refine pu 6 (some 33) ?_ (bt 13 127) (by kernel_rfl) ?_ ?_ ?_ ?_
 rotate_left
 ·intro w'
  go_simp
  with_reducible rfl
 rotate_left
 ·simp only [pS]
  rfl
 refine pu 7 (some 34) ?_ (bt 13 255) (by kernel_rfl) ?_ ?_ ?_ ?_
 rotate_left
 ·intro w'
  go_simp
  with_reducible rfl
 rotate_left
 ·simp only [pS]
  rfl
 refine pu 8 (some 35) ?_ (bt 13 511) (by kernel_rfl) ?_ ?_ ?_ ?_
 rotate_left
 ·intro w'
  go_simp
  with_reducible rfl
 rotate_left
 ·simp only [pS]
  rfl
 refine one_ (i := 9) (N := none) (bt 13 1023) rfl rfl (by kernel_rfl) (by decide) (fun K hK => ?_)
 refine skip_ (w1 := ?_) (by rfl) rfl ?_ ?_
 rotate_left
 ·go_simp
  first | rfl | exact ⟨rfl, rfl⟩
 have hG4 := blk_put (cs := #[.pointer (some ⟨gd, 0, none⟩), .int .i64 0, .int .i64 0, .int .i64 0, .int .i64 0, .slice none 0 0]) G3.out 1 (.int .i64 sl) (cs' := #[.pointer (some ⟨gd, 0, none⟩), .int .i64 sl, .int .i64 0, .int .i64 0, .int .i64 0, .slice none 0 0]) rfl
 have hX4 := (Below.heap_setCell W3 ⟨g, 1, none⟩ (.int .i64 sl) b6 hgb).trans X3.out
 have hS4 := S3.out.poke g hQg hwg 1 (.int .i64 sl)
 have hN4 := (NX3.out : ∀ k, k ≠ g → W3.heap[k]? = Wq.heap[k]?)
 replace hN4 : ∀ k, k ≠ g → (W3.setCell ⟨g, 1, none⟩ (.int .i64 sl)).heap[k]? = Wq.heap[k]? := fun k hk => (Below.heap_setCell W3 ⟨g, 1, none⟩ (.int .i64 sl) k hk).trans (hN4 k hk)
 have hZ4 : (W3.setCell ⟨g, 1, none⟩ (.int .i64 sl)).heap.size = Wq.heap.size := by rw [World.size_setCell]; exact Z3.out
 generalize W3.setCell ⟨g, 1, none⟩ (.int .i64 sl) = W4 at hG4 hX4 hS4 hN4 hZ4 ⊢
 have G4 := AM hG4
 have X4 := AM hX4
 have S4 := AM hS4
 have NX4 := AM hN4
 have Z4 := AM hZ4
 clear hS4 hN4 hZ4 F0 F1 F2 F3 F4 F5 f0 f1 f2 f3 f4 f5
 have F0 := (blk_cell hG4 0).trans rfl
 have F1 := (blk_cell hG4 1).trans rfl
 have F2 := (blk_cell hG4 2).trans rfl
 have F3 := (blk_cell hG4 3).trans rfl
 have F4 := (blk_cell hG4 4).trans rfl
 have F5 := (blk_cell hG4 5).trans rfl
 have f0 := blk_frozen hG4 0
 have f1 := blk_frozen hG4 1
 have f2 := blk_frozen hG4 2
 have f3 := blk_frozen hG4 3
 have f4 := blk_frozen hG4 4
 have f5 := blk_frozen hG4 5
 have x6 := (blk_cell hX4 0).trans rfl
 clear hG4 hX4
 refine hK.out _ _ x6 (fun hHeld => ?_)
 clear hK K
 refine pu 10 (some 36) ?_ (bt 13 2047) (by kernel_rfl) ?_ ?_ ?_ ?_
 rotate_left
 ·intro w'
  go_simp
  with_reducible rfl
 rotate_left
 ·simp only [pS]
  rfl
 refine pu 11 (some 37) ?_ (bt 13 4095) (by kernel_rfl) ?_ ?_ ?_ ?_
 rotate_left
 ·intro w'
  go_simp
  with_reducible rfl
 rotate_left
 ·simp only [pS]
  rfl
 refine one_ (i := 12) (N := none) (bt 13 8191) rfl rfl (by kernel_rfl) (by decide) (fun K hK => ?_)
 refine skip_ (w1 := ?_) (by rfl) rfl ?_ ?_
 rotate_left
 ·go_simp
  first | rfl | exact ⟨rfl, rfl⟩
 have hG5 := blk_put (cs := #[.pointer (some ⟨gd, 0, none⟩), .int .i64 sl, .int .i64 0, .int .i64 0, .int .i64 0, .slice none 0 0]) G4.out 2 (.int .i64 ba) (cs' := #[.pointer (some ⟨gd, 0, none⟩), .int .i64 sl, .int .i64 ba, .int .i64 0, .int .i64 0, .slice none 0 0]) rfl
 have hX5 := (Below.heap_setCell W4 ⟨g, 2, none⟩ (.int .i64 ba) b6 hgb).trans X4.out
 have hS5 := S4.out.poke g hQg hwg 2 (.int .i64 ba)
 have hN5 := (NX4.out : ∀ k, k ≠ g → W4.heap[k]? = Wq.heap[k]?)
 replace hN5 : ∀ k, k ≠ g → (W4.setCell ⟨g, 2, none⟩ (.int .i64 ba)).heap[k]? = Wq.heap[k]? := fun k hk => (Below.heap_setCell W4 ⟨g, 2, none⟩ (.int .i64 ba) k hk).trans (hN5 k hk)
 have hZ5 : (W4.setCell ⟨g, 2, none⟩ (.int .i64 ba)).heap.size = Wq.heap.size := by rw [World.size_setCell]; exact Z4.out
 generalize W4.setCell ⟨g, 2, none⟩ (.int .i64 ba) = W5 at hG5 hX5 hS5 hN5 hZ5 ⊢
 have G5 := AM hG5
 have X5 := AM hX5
 have S5 := AM hS5
 have NX5 := AM hN5
 have Z5 := AM hZ5
 clear hS5 hN5 hZ5 F0 F1 F2 F3 F4 F5 f0 f1 f2 f3 f4 f5
 have F0 := (blk_cell hG5 0).trans rfl
 have F1 := (blk_cell hG5 1).trans rfl
 have F2 := (blk_cell hG5 2).trans rfl
 have F3 := (blk_cell hG5 3).trans rfl
 have F4 := (blk_cell hG5 4).trans rfl
 have F5 := (blk_cell hG5 5).trans rfl
 have f0 := blk_frozen hG5 0
 have f1 := blk_frozen hG5 1
 have f2 := blk_frozen hG5 2
 have f3 := blk_frozen hG5 3
 have f4 := blk_frozen hG5 4
 have f5 := blk_frozen hG5 5
 have x6 := (blk_cell hX5 0).trans rfl
 clear hG5 hX5
 refine hK.out _ _ x6 (fun hHeld => ?_)
 clear hK K
 refine done_ (by kernel_rfl) ?_
 go_wp2_with fail
 refine start_ (n := 16) (S := fun w' => w'.cell? ⟨b6, 0, none⟩ = some (.pointer (some ⟨g, 0, none⟩)) ∧ w'.cell? ⟨g, 2, none⟩ = some (.int .i64 ba)) (ds := []) #[false, false, false, false, false, false, false, false, false, false, false, false, false, false, false, false] (by kernel_rfl) rfl rfl ⟨x6, F2⟩ (fun hHeld => ?_)
 have hbd : Below W5.heap.size W5 W5.drew := below_drew (Below.refl _ _)
 have hG6 : W5.drew.heap[g]? = some (.cells #[.pointer (some ⟨gd, 0, none⟩), .int .i64 sl, .int .i64 ba, .int .i64 0, .int .i64 0, .slice none 0 0] 108 (0, 0)) := G5.out
 have hX6 : W5.drew.heap[b6]? = some (.cells #[.pointer (some ⟨g, 0, none⟩)] 59 (0, 0)) := X5.out
 have S6 := AM (S5.out.step hbd)
 have hN6 : ∀ k, k ≠ g → W5.drew.heap[k]? = Wq.heap[k]? := NX5.out
 have hZ6 : W5.drew.heap.size = Wq.heap.size := Z5.out
 clear hHeld hbd F0 F1 F2 F3 F4 F5 f0 f1 f2 f3 f4 f5 x6
 generalize W5.drew = W6 at hG6 hX6 S6 hN6 hZ6 ⊢
 have G6 := AM hG6
 have X6 := AM hX6
 have NX6 := AM hN6
 have Z6 := AM hZ6
 have F0 := (blk_cell hG6 0).trans rfl
 have F1 := (blk_cell hG6 1).trans rfl
 have F2 := (blk_cell hG6 2).trans rfl
 have F3 := (blk_cell hG6 3).trans rfl
 have F4 := (blk_cell hG6 4).trans rfl
 have F5 := (blk_cell hG6 5).trans rfl
 have f0 := blk_frozen hG6 0
 have f1 := blk_frozen hG6 1
 have f2 := blk_frozen hG6 2
 have f3 := blk_frozen hG6 3
 have f4 := blk_frozen hG6 4
 have f5 := blk_frozen hG6 5
 have x6 := (blk_cell hX6 0).trans rfl
 clear hG6 hX6 hN6 hZ6
 have hHeld : W6.cell? ⟨b6, 0, none⟩ = some (.pointer (some ⟨g, 0, none⟩)) ∧ W6.cell? ⟨g, 2, none⟩ = some (.int .i64 ba) := ⟨x6, F2⟩
 refine tk 0 (some 38) ?_ (bt 16 1) (by kernel_rfl) hHeld ?_ ?_ ?_ ?_
 rotate_left
 ·rintro w' ⟨s0, s1⟩
  go_simp
  with_reducible rfl
 rotate_left
 ·simp only [pS]
  rfl
 refine tk 1 (some 39) ?_ (bt 16 3) (by kernel_rfl) hHeld ?_ ?_ ?_ ?_
 rotate_left
 ·rintro w' ⟨s0, s1⟩
  go_simp
  with_reducible rfl
 rotate_left
 ·simp only [pS]
  rfl
 refine tk 2 (some 40) ?_ (bt 16 7) (by kernel_rfl) hHeld ?_ ?_ ?_ ?_
 rotate_left
 ·rintro w' ⟨s0, s1⟩
  go_simp
  with_reducible rfl
 rotate_left
 ·simp only [pS]
  rfl
 refine pu 3 (some 41) ?_ (bt 16 15) (by kernel_rfl) ?_ ?_ ?_ ?_
 rotate_left
 ·intro w'
  go_simp
  with_reducible rfl
 rotate_left
 ·simp only [pS]
  rfl
 refine pu 4 (some 42) ?_ (bt 16 31) (by kernel_rfl) ?_ ?_ ?_ ?_
 rotate_left
 ·intro w'
  go_simp
  with_reducible rfl
 rotate_left
 ·simp only [pS]
  rfl
 refine tk 5 (some 43) ?_ (bt 16 63) (by kernel_rfl) hHeld ?_ ?_ ?_ ?_
 rotate_left
 ·rintro w' ⟨s0, s1⟩
  go_simp
  with_reducible rfl
 rotate_left
 ·simp only [pS]
  rfl
 refine tk 6 (some 44) ?_ (bt 16 127) (by kernel_rfl) hHeld ?_ ?_ ?_ ?_
 rotate_left
 ·rintro w' ⟨s0, s1⟩
  go_simp
  with_reducible rfl
 rotate_left
 ·simp only [pS]
  rfl
 refine pu 7 (some 45) ?_ (bt 16 255) (by kernel_rfl) ?_ ?_ ?_ ?_
 rotate_left
 ·intro w'
  go_simp
  with_reducible rfl
 rotate_left
 ·simp only [pS]
  rfl
 refine pu 8 (some 46) ?_ (bt 16 511) (by kernel_rfl) ?_ ?_ ?_ ?_
 rotate_left
 ·intro w'
  go_simp
  with_reducible rfl
 rotate_left
 ·simp only [pS]
  rfl
 refine tk 9 (some 47) ?_ (bt 16 1023) (by kernel_rfl) hHeld ?_ ?_ ?_ ?_
 rotate_left
 ·rintro w' ⟨s0, s1⟩
  go_simp
  with_reducible rfl
 rotate_left
 ·simp only [pS]
  rfl
 refine pu 10 (some 48) ?_ (bt 16 2047) (by kernel_rfl) ?_ ?_ ?_ ?_
 rotate_left
 ·intro w'
  go_simp
  with_reducible rfl
 rotate_left
 ·simp only [pS]
  rfl
 refine pu 11 (some 49) ?_ (bt 16 4095) (by kernel_rfl) ?_ ?_ ?_ ?_
 rotate_left
 ·intro w'
  go_simp
  with_reducible rfl
 rotate_left
 ·simp only [pS]
  rfl
 refine one_ (i := 12) (N := none) (bt 16 8191) rfl rfl (by kernel_rfl) (by decide) (fun K hK => ?_)
 refine skip_ (w1 := ?_) (by rfl) rfl ?_ ?_
 rotate_left
 ·go_simp
  first | rfl | exact ⟨rfl, rfl⟩
 have hG7 := blk_put (cs := #[.pointer (some ⟨gd, 0, none⟩), .int .i64 sl, .int .i64 ba, .int .i64 0, .int .i64 0, .slice none 0 0]) G6.out 3 (.int .i64 ba) (cs' := #[.pointer (some ⟨gd, 0, none⟩), .int .i64 sl, .int .i64 ba, .int .i64 ba, .int .i64 0, .slice none 0 0]) rfl
 have hX7 := (Below.heap_setCell W6 ⟨g, 3, none⟩ (.int .i64 ba) b6 hgb).trans X6.out
 have hS7 := S6.out.poke g hQg hwg 3 (.int .i64 ba)
 have hN7 := (NX6.out : ∀ k, k ≠ g → W6.heap[k]? = Wq.heap[k]?)
 replace hN7 : ∀ k, k ≠ g → (W6.setCell ⟨g, 3, none⟩ (.int .i64 ba)).heap[k]? = Wq.heap[k]? := fun k hk => (Below.heap_setCell W6 ⟨g, 3, none⟩ (.int .i64 ba) k hk).trans (hN7 k hk)
 have hZ7 : (W6.setCell ⟨g, 3, none⟩ (.int .i64 ba)).heap.size = Wq.heap.size := by rw [World.size_setCell]; exact Z6.out
 generalize W6.setCell ⟨g, 3, none⟩ (.int .i64 ba) = W7 at hG7 hX7 hS7 hN7 hZ7 ⊢
 have G7 := AM hG7
 have X7 := AM hX7
 have S7 := AM hS7
 have NX7 := AM hN7
 have Z7 := AM hZ7
 clear hS7 hN7 hZ7 F0 F1 F2 F3 F4 F5 f0 f1 f2 f3 f4 f5
 have F0 := (blk_cell hG7 0).trans rfl
 have F1 := (blk_cell hG7 1).trans rfl
 have F2 := (blk_cell hG7 2).trans rfl
 have F3 := (blk_cell hG7 3).trans rfl
 have F4 := (blk_cell hG7 4).trans rfl
 have F5 := (blk_cell hG7 5).trans rfl
 have f0 := blk_frozen hG7 0
 have f1 := blk_frozen hG7 1
 have f2 := blk_frozen hG7 2
 have f3 := blk_frozen hG7 3
 have f4 := blk_frozen hG7 4
 have f5 := blk_frozen hG7 5
 have x6 := (blk_cell hX7 0).trans rfl
 clear hG7 hX7
 refine hK.out _ _ ⟨x6, F2⟩ (fun hHeld => ?_)
 clear hK K
 refine pu 13 (some 50) ?_ (bt 16 16383) (by kernel_rfl) ?_ ?_ ?_ ?_
 rotate_left
 ·intro w'
  go_simp
  with_reducible rfl
 rotate_left
 ·simp only [pS]
  rfl
 refine pu 14 (some 51) ?_ (bt 16 32767) (by kernel_rfl) ?_ ?_ ?_ ?_
 rotate_left
 ·intro w'
  go_simp
  with_reducible rfl
 rotate_left
 ·simp only [pS]
  rfl
 refine one_ (i := 15) (N := none) (bt 16 65535) rfl rfl (by kernel_rfl) (by decide) (fun K hK => ?_)
 refine skip_ (w1 := ?_) (by rfl) rfl ?_ ?_
 rotate_left
 ·go_simp
  first | rfl | exact ⟨rfl, rfl⟩
 have hG8 := blk_put (cs := #[.pointer (some ⟨gd, 0, none⟩), .int .i64 sl, .int .i64 ba, .int .i64 ba, .int .i64 0, .slice none 0 0]) G7.out 4 (.int .i64 ba) (cs' := #[.pointer (some ⟨gd, 0, none⟩), .int .i64 sl, .int .i64 ba, .int .i64 ba, .int .i64 ba, .slice none 0 0]) rfl
 have hX8 := (Below.heap_setCell W7 ⟨g, 4, none⟩ (.int .i64 ba) b6 hgb).trans X7.out
 have hS8 := S7.out.poke g hQg hwg 4 (.int .i64 ba)
 have hN8 := (NX7.out : ∀ k, k ≠ g → W7.heap[k]? = Wq.heap[k]?)
 replace hN8 : ∀ k, k ≠ g → (W7.setCell ⟨g, 4, none⟩ (.int .i64 ba)).heap[k]? = Wq.heap[k]? := fun k hk => (Below.heap_setCell W7 ⟨g, 4, none⟩ (.int .i64 ba) k hk).trans (hN8 k hk)
 have hZ8 : (W7.setCell ⟨g, 4, none⟩ (.int .i64 ba)).heap.size = Wq.heap.size := by rw [World.size_setCell]; exact Z7.out
 generalize W7.setCell ⟨g, 4, none⟩ (.int .i64 ba) = W8 at hG8 hX8 hS8 hN8 hZ8 ⊢
 have G8 := AM hG8
 have X8 := AM hX8
 have S8 := AM hS8
 have NX8 := AM hN8
 have Z8 := AM hZ8
 clear hS8 hN8 hZ8 F0 F1 F2 F3 F4 F5 f0 f1 f2 f3 f4 f5
 have F0 := (blk_cell hG8 0).trans rfl
 have F1 := (blk_cell hG8 1).trans rfl
 have F2 := (blk_cell hG8 2).trans rfl
 have F3 := (blk_cell hG8 3).trans rfl
 have F4 := (blk_cell hG8 4).trans rfl
 have F5 := (blk_cell hG8 5).trans rfl
 have f0 := blk_frozen hG8 0
 have f1 := blk_frozen hG8 1
 have f2 := blk_frozen hG8 2
 have f3 := blk_frozen hG8 3
 have f4 := blk_frozen hG8 4
 have f5 := blk_frozen hG8 5
 have x6 := (blk_cell hX8 0).trans rfl
 clear hG8 hX8
 refine hK.out _ _ ⟨x6, F2⟩ (fun hHeld => ?_)
 clear hK K
 refine done_ (by kernel_rfl) ?_
 go_wp2_with fail
 refine (frames_calls A b.length c ba W8).mono ?_
 rintro e Wf ⟨rfl, hWf⟩
 have hbf : Below W8.heap.size W8 Wf := by rw [hWf]; exact below_alloc (below_alloc (Below.refl _ _) _) _
 have hp0 : Wf.heap[W8.heap.size]? = some (.cells #[.slice A b.length c] 29 (0, 0)) := by rw [hWf]; exact (Below.heap_alloc _ _ _ (by simp)).trans (heap_alloc_new W8 _)
 have hq0 : Wf.heap[W8.heap.size + 1]? = some (.cells #[.int .i64 ba] 3 (0, 0)) := by
  have := heap_alloc_new (W8.alloc (.cells #[.slice A b.length c] 29)) (.cells #[.int .i64 ba] 3)
  rw [World.size_alloc] at this
  rw [hWf]; exact this
 clear hWf
 have PQ := AM (And.intro hp0 hq0)
 have HBf := AM hbf
 clear hp0 hq0 hbf
 go_wp2_with fail
 rw [← wpIn_wide (n := 3)]
 refine range_wide (n := 2) (gf := 85) (lb := #[.pointer (some ⟨W8.heap.size, 0, none⟩), .pointer (some ⟨W8.heap.size + 1, 0, none⟩)]) rfl (fun args w => enters_ Try.func85 (by kernel_rfl) rfl args w) ?_
 intro fn rec hrec Wn hWn
 have hgl := blk_lt G8.out
 have hbl := blk_lt X8.out
 have hfn : Below Wf.heap.size Wf Wn := by rw [hWn]; exact below_alloc (below_alloc (Below.refl _ _) _) _
 have h8n := below_step HBf.out hfn
 have hzn : Wn.heap.size = Wf.heap.size + 2 := by rw [hWn]; simp
 have hzf := HBf.out.size
 have hqf : W8.heap.size + 1 ≠ Wf.heap.size + 1 := by have := blk_lt PQ.out.2; omega
 have hpf : W8.heap.size ≠ Wf.heap.size + 1 := by omega
 have hLn : Wn.heap[Wf.heap.size + 1]? = some (.loop rec) := by rw [hWn]; have := World.alloc_heap_new (Wf.alloc (.deferred (some []))) (.loop rec); rwa [World.size_alloc] at this
 have hDn : Wn.heap[Wf.heap.size]? = some (.deferred (some [])) := by rw [hWn]; exact (Below.heap_alloc _ _ _ (by simp)).trans (World.alloc_heap_new Wf _)
 have hpn := (hfn.block _ (blk_lt PQ.out.1)).trans PQ.out.1
 have hqn := (hfn.block _ (blk_lt PQ.out.2)).trans PQ.out.2
 have hXn := (h8n.block b6 hbl).trans X8.out
 have hGn := (h8n.block g hgl).trans G8.out
 have hSn := S8.out.fenced h8n
 obtain ⟨Qn, hQn⟩ : ∃ Qn, Qn = (fun k => Q1 k ∨ (W8.heap.size ≤ k ∧ k < Wn.heap.size)) := ⟨_, rfl⟩
 rw [← hQn] at hSn
 have hQn1 : ∀ k, Q1 k → Qn k := fun k hk => by rw [hQn]; exact .inl hk
 have hQnl : Qn (Wf.heap.size + 1) := by rw [hQn]; exact .inr ⟨by omega, by omega⟩
 have hQnD : Qn Wf.heap.size := by rw [hQn]; exact .inr ⟨by omega, by omega⟩
 have hFn : Kd.F (Kd.int .u8) Wn (fun k => k < g) A b.length b := Kd.F_step FG.out (fun k hk _ => by have h3 : k < g := hk; rw [h8n.block k (by omega), NX8.out k (by omega), BGq.out k hk])
 have hj0 : OpenJ b ba w0 Wn Qn g gd (Wf.heap.size + 1) sl D rec 24 [] Wn := ⟨.nil, fun _ _ _ _ => rfl, hLn, Qn, fun _ => False, fun _ h => h, fun _ h => h.elim, hSn, .slice none 0 0, by rw [hGn]; simp, Kd.N_nil _ _ _ _ _, fun _ h => h.elim, hQn1 g hQg, hwg⟩
 refine CallsIn.mono (frames_gen b HBY.out ba hba0 hba1 h24 hm2 A c W8.heap.size (W8.heap.size + 1) (Wf.heap.size + 1) 2 hcA (fun at_ rs W' => Wn.heap.size ≤ W'.heap.size ∧ OpenJ b ba w0 Wn Qn g gd (Wf.heap.size + 1) sl D rec at_ rs W') ?_ ?_ ?_ Wn ⟨Nat.le_refl _, hj0⟩) ?_
 ·rintro at_ rs W' ⟨_, hj⟩
  have hk := hj.2.1
  exact ⟨(blk_cell ((hk W8.heap.size (blk_lt hpn) (Ne.symm (Nat.ne_of_lt hgl)) hpf).trans hpn) 0).trans rfl, (blk_cell ((hk (W8.heap.size + 1) (blk_lt hqn) (Ne.symm (Nat.ne_of_lt (Nat.lt_succ_of_lt hgl))) hqf).trans hqn) 0).trans rfl, Kd.F_now (Kd.F_step hFn (fun k hkg _ => by have h3 : k < g := hkg; exact hk k (by omega) (by omega) (by omega)))⟩
 ·rintro at_ rs W' W'' ⟨hs, hj⟩ hb
  exact ⟨Nat.le_trans hs hb.size, hj.below hs hb⟩
 ·rintro at_ rs n W' W'' Ac cc ⟨hs, hj⟩ hb hf hr
  rw [hrec] at hj ⊢
  exact open_round hba0 hba1 h24 hm2 hQnl (by omega) (by omega) (by omega) hgb (by omega) hXn _ _ _ _ _ _ _ _ _ _ _ _ _ _ _ _ _ _ _ _ _ _ _ _ _ _ _ _ _ _ _ _ _ _ _ _ _ _ _ _ _ _ _ _ _ _ _ _ _ _ _ _ _ _ _ _ _ _ _ _ _ _ _ _ _ _ _ _ _ _ _ _ _ _ _ _ _ _ _ _ _ _ _ _ _ _ _ _ _ _ _ _ _ _ _ _ _ _ _ (by rfl) fn _ _ hs hj hb hf hr
 ·rintro e W9 ⟨rfl, at_, rs, ⟨hs9, hj9⟩, hnone⟩
  have hpl := hj9.1.le h24
  have hpd : rec.pending = none := by rw [hrec]
  have hend : (Instr.endLoop (Wf.heap.size + 1)).run Try.prog W9 = .ok none (W9.putObj (Wf.heap.size + 1) (.loop { rec with state := .exhausted })) := by
   rw [run_endLoop (P := Try.prog) hj9.2.2.1 (by rw [hrec]; simp), hpd]
  refine ⟨none, _, hend, ?_⟩
  have hj10 := hj9.put hQnl (by omega) (by omega) (by omega) { rec with state := .exhausted }
  clear hend hj9 hrec hpd
  generalize W9.putObj (Wf.heap.size + 1) (.loop { rec with state := .exhausted }) = W10 at hj10 ⊢
  obtain ⟨hP, hk10, _, Q2, rok, hq, hro, hs10, v, hG10, hN10, hr10, hQ2g, _⟩ := hj10
  obtain ⟨Av, cv, rfl⟩ := Kd.N_slice hN10
  generalize hnv : rs.length = nv at hG10 hN10
  clear hnv
  obtain ⟨Dd, hDd⟩ : ∃ Dd, Dd = Wf.heap.size := ⟨_, rfl⟩
  rw [← hDd] at hQnD hDn hk10 ⊢
  have hgD : g ≠ Dd := by omega
  have hwD : w0.heap.size ≤ Dd := by omega
  have hK10 := (hk10 Dd (by omega) (Ne.symm hgD) (by omega)).trans hDn
  have hX10 := (hk10 b6 (by omega) hgb (by omega)).trans hXn
  have hQ2D : Q2 Dd := hq _ hQnD
  have hQ2b : Q2 b6 := hq _ (hQn1 _ hQb)
  have hQQ2 : ∀ k, Q k → Q2 k := fun k hk => hq k (hQn1 k (hQQ k hk))
  have KP10 := AM (show KeepP Q W W10 from fun k hk => by
   have h1 := HQL.out k hk
   rw [hk10 k (by omega) (by omega) (by omega), h8n.block k (by omega), NX8.out k (by omega), KQ.out k hk])
  have C10 := AM (show Kd.C (Kd.int .u8) W10 A b.length b from Kd.F_now (Kd.F_step hFn (fun k hkg _ => by have h3 : k < g := hkg; exact hk10 k (by omega) (by omega) (by omega))))
  have hDdg : W8.heap.size ≤ Dd := by omega
  have HRD := AM (show ∀ k, rok k → W.heap.size ≤ k ∧ k ≠ Dd from fun k hk => by
   have h1 := hro k hk
   have h2 := HWG.out
   omega)
  have HQD := AM (show ∀ k, Q k → k ≠ Dd from fun k hk => by have := HQL.out k hk; omega)
  have G10 := AM hG10
  have X10 := AM hX10
  have K10 := AM hK10
  have S10 := AM hs10
  have N10 := AM hN10
  have HRO := AM hr10
  have HP := AM hP
  have HQQ2 := AM hQQ2
  have HNONE := AM hnone
  clear hDd hQnD hDn hk10 hK10 hG10 hX10 hs10 hN10 hr10 hP hq hro hQQ2 hnone hj0 hFn hGn hXn hpn hqn hLn hSn hQn1 hQnl hQn hzn hzf h8n hfn hs9 hWn PQ HBf F0 F1 F2 F3 F4 F5 f0 f1 f2 f3 f4 f5 x6
  have x6 := (blk_cell X10.out 0).trans rfl
  dsimp only
  go_wp2_with fail
  refine (at_calls g _ _ _ _ ba (ba + (at_ : Int) - 24) W10 G10.out).mono ?_
  rintro e Wa ⟨rfl, hba⟩
  have G10' := AM ((hba.block g (blk_lt G10.out)).trans G10.out)
  have X10' := AM ((hba.block b6 (blk_lt X10.out)).trans X10.out)
  have K10' := AM ((hba.block Dd (Array.getElem?_eq_some_iff.1 K10.out).1).trans K10.out)
  have S10' := AM (S10.out.step hba)
  have N10' := AM (Kd.N_below N10.out hba)
  have C10' := AM (Kd.C_below C10.out hba)
  have KP10' := AM (KP10.out.trans (fun k hk => (S10.out.keepP hba) k (HQQ2.out k hk)))
  rw [at_w ba at_ hba0 hba1 (Nat.le_trans hpl.1 hm2)]
  clear hba x6
  go_wp2_with fail
  have her := erase_calls S10'.out OK0.out HPN.out A c b at_ C10'.out hcA hpl.1 hm2
  have hE1 := HE.out at_ hpl.2.1 hpl.1
  rw [hE1.1] at her
  have h2p := hE1.2
  clear hE1
  generalize hd2 : (eraseD D b at_).1 = D2 at her h2p ⊢
  have HD2 := AM hd2
  clear hd2
  refine her.mono ?_
  clear her
  rintro e Wb ⟨rfl, hs, hk⟩
  have S11 := AM hs
  have G11 := AM ((hk g hQ2g).trans G10'.out)
  have X11 := AM ((hk b6 hQ2b).trans X10'.out)
  have K11 := AM ((hk Dd hQ2D).trans K10'.out)
  have N11 := AM (Kd.N_step N10'.out (w1 := Wb) (fun k h _ => hk k (HRO.out k h).1))
  have KP11 := AM (KP10'.out.trans (fun k h => hk k (HQQ2.out k h)))
  have H2P := AM h2p
  clear hs hk h2p
  go_wp2_with fail
  refine (S11.out.pending 0 rfl).mono ?_
  rintro e Wb' ⟨rfl, rfl⟩
  rw [H2P.out]
  have x6 := (blk_cell X11.out 0).trans rfl
  have F3 := (blk_cell G11.out 3).trans rfl
  go_wp2_with fail
  refine start_ (n := 8) (S := fun w' => w'.cell? ⟨b6, 0, none⟩ = some (.pointer (some ⟨g, 0, none⟩)) ∧ w'.cell? ⟨g, 3, none⟩ = some (.int .i64 (ba + (at_ : Int) - 24))) (ds := []) #[false, false, false, false, false, false, false, false] (by kernel_rfl) rfl rfl ⟨x6, F3⟩ (fun hHeld => ?_)
  have hbd : Below Wb.heap.size Wb Wb.drew := below_drew (Below.refl _ _)
  have hG12 : Wb.drew.heap[g]? = some (.cells #[.pointer (some ⟨gd, 0, none⟩), .int .i64 sl, .int .i64 ba, .int .i64 (ba + (at_ : Int) - 24), .int .i64 ba, .slice Av nv cv] 108 (0, 0)) := G11.out
  have hX12 : Wb.drew.heap[b6]? = some (.cells #[.pointer (some ⟨g, 0, none⟩)] 59 (0, 0)) := X11.out
  have hK12 : Wb.drew.heap[Dd]? = some (.deferred (some [])) := K11.out
  have S12 := AM (S11.out.step hbd)
  have KP12 := AM (show KeepP Q W Wb.drew from KP11.out)
  have N12 := AM (Kd.N_below N11.out hbd)
  clear hHeld hbd F3 x6
  generalize Wb.drew = Wc at hG12 hX12 hK12 S12 KP12 N12 ⊢
  have G12 := AM hG12
  have X12 := AM hX12
  have K12 := AM hK12
  have F0 := (blk_cell hG12 0).trans rfl
  have F1 := (blk_cell hG12 1).trans rfl
  have F2 := (blk_cell hG12 2).trans rfl
  have F3 := (blk_cell hG12 3).trans rfl
  have F4 := (blk_cell hG12 4).trans rfl
  have F5 := (blk_cell hG12 5).trans rfl
  have f0 := blk_frozen hG12 0
  have f1 := blk_frozen hG12 1
  have f2 := blk_frozen hG12 2
  have f3 := blk_frozen hG12 3
  have f4 := blk_frozen hG12 4
  have f5 := blk_frozen hG12 5
  have x6 := (blk_cell hX12 0).trans rfl
  clear hG12 hX12 hK12
  have hHeld : Wc.cell? ⟨b6, 0, none⟩ = some (.pointer (some ⟨g, 0, none⟩)) ∧ Wc.cell? ⟨g, 3, none⟩ = some (.int .i64 (ba + (at_ : Int) - 24)) := ⟨x6, F3⟩
  refine tk 0 (some 90) ?_ (bt 8 1) (by kernel_rfl) hHeld ?_ ?_ ?_ ?_
  rotate_left
  ·rintro w' ⟨s0, s1⟩
   go_simp
   with_reducible rfl
  rotate_left
  ·simp only [pS]
   rfl
  refine tk 1 (some 91) ?_ (bt 8 3) (by kernel_rfl) hHeld ?_ ?_ ?_ ?_
  rotate_left
  ·rintro w' ⟨s0, s1⟩
   go_simp
   with_reducible rfl
  rotate_left
  ·simp only [pS]
   rfl
  refine pu 2 (some 92) ?_ (bt 8 7) (by kernel_rfl) ?_ ?_ ?_ ?_
  rotate_left
  ·intro w'
   go_simp
   with_reducible rfl
  rotate_left
  ·simp only [pS]
   rfl
  refine pu 3 (some 93) ?_ (bt 8 15) (by kernel_rfl) ?_ ?_ ?_ ?_
  rotate_left
  ·intro w'
   go_simp
   with_reducible rfl
  rotate_left
  ·simp only [pS]
   rfl
  refine tk 4 (some 94) ?_ (bt 8 31) (by kernel_rfl) hHeld ?_ ?_ ?_ ?_
  rotate_left
  ·rintro w' ⟨s0, s1⟩
   go_simp
   with_reducible rfl
  rotate_left
  ·simp only [pS]
   rfl
  refine pu 5 (some 95) ?_ (bt 8 63) (by kernel_rfl) ?_ ?_ ?_ ?_
  rotate_left
  ·intro w'
   go_simp
   with_reducible rfl
  rotate_left
  ·simp only [pS]
   rfl
  refine pu 6 (some 96) ?_ (bt 8 127) (by kernel_rfl) ?_ ?_ ?_ ?_
  rotate_left
  ·intro w'
   go_simp
   with_reducible rfl
  rotate_left
  ·simp only [pS]
   rfl
  refine one_ (i := 7) (N := none) (bt 8 255) rfl rfl (by kernel_rfl) (by decide) (fun K hK => ?_)
  refine skip_ (w1 := ?_) (by rfl) rfl ?_ ?_
  rotate_left
  ·go_simp
   first | rfl | exact ⟨rfl, rfl⟩
  have hGd := blk_put (cs := #[.pointer (some ⟨gd, 0, none⟩), .int .i64 sl, .int .i64 ba, .int .i64 (ba + (at_ : Int) - 24), .int .i64 ba, .slice Av nv cv]) G12.out 4 (.int .i64 (ba + (at_ : Int) - 24)) (cs' := #[.pointer (some ⟨gd, 0, none⟩), .int .i64 sl, .int .i64 ba, .int .i64 (ba + (at_ : Int) - 24), .int .i64 (ba + (at_ : Int) - 24), .slice Av nv cv]) rfl
  have hXd := (Below.heap_setCell Wc ⟨g, 4, none⟩ (.int .i64 (ba + (at_ : Int) - 24)) b6 hgb).trans X12.out
  have hSd := S12.out.poke g hQ2g hwg 4 (.int .i64 (ba + (at_ : Int) - 24))
  have hKd := (Below.heap_setCell Wc ⟨g, 4, none⟩ (.int .i64 (ba + (at_ : Int) - 24)) Dd (Ne.symm hgD)).trans K12.out
  have hKPd : KeepP Q W (Wc.setCell ⟨g, 4, none⟩ (.int .i64 (ba + (at_ : Int) - 24))) := fun k hk => (Below.heap_setCell Wc ⟨g, 4, none⟩ (.int .i64 (ba + (at_ : Int) - 24)) k (show k ≠ g from Nat.ne_of_lt (HQL.out k hk))).trans (KP12.out k hk)
  have hNd := Kd.N_far (Kd.N_bound N12.out) (p := ⟨g, 4, none⟩) (fun k hk e => (HRO.out k hk.1).2 e) (.int .i64 (ba + (at_ : Int) - 24))
  clear F0 F1 F2 F3 F4 F5 f0 f1 f2 f3 f4 f5 x6
  generalize Wc.setCell ⟨g, 4, none⟩ (.int .i64 (ba + (at_ : Int) - 24)) = Wd at hGd hXd hSd hKd hKPd hNd ⊢
  have x6 := (blk_cell hXd 0).trans rfl
  have F3 := (blk_cell hGd 3).trans rfl
  have GD := AM hGd
  have SD := AM hSd
  have KD := AM hKd
  have KPD := AM hKPd
  have ND := AM hNd
  clear hGd hXd hSd hKd hKPd hNd
  refine hK.out _ _ ⟨x6, F3⟩ (fun hHeld => ?_)
  clear hK K
  refine done_ (by kernel_rfl) ?_
  go_wp2_with fail
  show LeavesInM Fence.wide 3 Try.prog Try.f36 _ _ [{ target := .collected Dd, args := #[] }] .returning Wd
  refine ⟨by simp, .inl ⟨Dd, _, rfl, run_takeDeferred KD.out, ?_⟩⟩
  refine ⟨_, results_tmp2 rfl _ _ _, ?_⟩
  unfold OpenPost
  refine ⟨g, at_, rs, rfl, HP.out, HNONE.out, Q2, rok, HQQ2.out, fun k hk => (HRD.out k hk).1, ⟨by rw [HD2.out]; exact SD.out.putD Dd hQ2D hwD _, .slice Av nv cv, ?_, ?_, HRO.out, hQ2g, hwg⟩, HWG.out, fun k hk => ?_⟩
  ·exact (World.putObj_heap_other hgD).trans GD.out
  ·exact Kd.N_step (Kd.N_mono ND.out (fun k (hk : rok k ∧ k < Wc.heap.size) => hk.1)) (fun k hk _ => World.putObj_heap_other (HRD.out k hk).2)
  ·exact (World.putObj_heap_other (HQD.out k hk)).trans (KPD.out k hk)
end Go.Proofs.Ytbbokpkpdnppjaa
