/- 'apply': one operation on the disk and on the reference. -/
import Derived.Test.YtbbokpkpdnppjaaC10
namespace Go.Proofs.Ytbbokpkpdnppjaa
open Go.RowKit Go.Proofs.YtbbokpkpdnppjaaW.PrintWords Go.Proofs.YtbbokpkpdnppjaaW.PrintLast Go.Proofs.YtbbokpkpdnppjaaW.PrintMore
set_option linter.unusedVariables false
set_option linter.unusedSimpArgs false

theorem results_tct {P : Program} {fn : Func} {p u v : Tmp} {ty : TypeId} (h : fn.results = #[.tmp u, .cell p ty, .tmp v]) (tmps : Array Value) (w : World) (g : Nat) (t : TypeId) (cs : Array Value) (fr : Nat × Nat) (d : TypeDesc)
    (hp : tmps.getD p undef = .pointer (some ⟨g, 0, none⟩)) (hg : w.heap[g]? = some (.cells cs t fr))
    (hu : P.underlying ty = some d) (hd : (match d with | .struct _ | .array _ _ => true | _ => false) = true) (hi : (P.info? ty).map (·.size) = some cs.size) :
    (results fn tmps).run P w = .ok (.tuple #[tmps.getD u undef, .agg cs, tmps.getD v undef]) w := by
  have hp' : tmps[p]?.getD undef = .pointer (some ⟨g, 0, none⟩) := by simpa using hp
  simp [results, h, hp', asAddr, run_loadVar_row w g t ty cs fr d hg hu hd hi]
/-- The state after an operation. -/
def stepD (D : Dk) (x : P.S44) : Dk := if x.f0 = 0 then (D.write x.f1 x.f3).1 else if x.f0 = 1 then D.sync.1 else if x.f0 = 3 then D.crashed x.f4 else if x.f0 = 4 then D.after x.f2 else D
theorem stepD_ok {D : Dk} (h : D.Ok) (hn : D.pend.length < 1000) (x : P.S44) (hx : x.f2 ≤ 9223372036854775807) : (stepD D x).Ok := by
  unfold stepD
  split
  · exact h.write hn _ _
  · split
    · exact h.sync
    · split
      · exact h.crashed _
      · split
        · exact h.after _ hx
        · exact h
/-- Only the second of several disks is forgotten. -/
theorem Sts.drop1 {w0 W : World} {Q : Nat → Prop} {L : List (Nat × Dk)} {x y : Nat × Dk} (h : Sts w0 W Q (x :: y :: L)) : Sts w0 W Q (x :: L) := by
  obtain ⟨xs, h⟩ := h
  match xs, h.map with
  | a :: b :: l, hm =>
    simp only [List.map_cons, List.cons.injEq] at hm
    have get : ∀ (i : Nat) (z : Cl), (a :: l)[i]? = some z → (a :: b :: l)[if i = 0 then 0 else i + 1]? = some z := by
      intro i z hz
      cases i with
      | zero => simpa using hz
      | succ i => simpa using hz
    refine ⟨a :: l, by simp [hm.1, hm.2.2], fun i z hz => h.one _ z (get i z hz), fun i j z u hz hu hij => h.two _ _ z u (get i z hz) (get j u hu) (by split <;> split <;> omega), h.bel, h.lt⟩

/-- The reference's value, over a disk's call. -/
theorem RefV.over {w0 W W1 : World} {Q Q1 ok : Nat → Prop} {L L1 : List (Nat × Dk)} {v : Value} {D : Dk} (h : RefV W ok v D) (hko : ∀ k, ok k → k < w0.heap.size ∨ Q k) (hs : Sts w0 W Q1 L) (hs1 : Sts w0 W1 Q1 L1) (hk : KeepP Q1 W W1) (hq : ∀ k, Q k → Q1 k) : RefV W1 ok v D :=
  h.step (fun k hk2 _ => (hko k hk2).elim (fun h => (hs1.bel.block k h).trans (hs.bel.block k h).symm) (fun h => hk k (hq k h)))
/-- The last stores of an operation: into the result's box, which is none of the disk's and none of the reference's. -/
theorem fin {w0 W W3 w4 w5 W6 : World} {Q ok : Nat → Prop} {L : List (Nat × Dk)} {v : Value} {D : Dk} (S4 : Sts w0 w4 (fun k => Q k ∨ (W.heap.size ≤ k ∧ k < W3.heap.size)) L) (K4 : KeepP (fun k => Q k ∨ (W.heap.size ≤ k ∧ k < W3.heap.size)) W3 w4) (tb : Below W.heap.size W W3)
    (hQ : ∀ k, Q k → k < W.heap.size) (hw : w0.heap.size ≤ W.heap.size) (hb : Below w4.heap.size w4 w5) (hv : RefV w5 (New ok w4 w5) v D) (hko : ∀ k, ok k → k < w0.heap.size ∨ Q k) (h6 : Below w5.heap.size w5 W6) (b : Nat) (hb1 : W.heap.size ≤ b) (hb2 : b < W3.heap.size) (a0 a1 a2 a3 : Value) :
    ∃ Q', (∀ k, Q k → Q' k) ∧ Sts w0 ((((W6.setCell ⟨b, 0, none⟩ a0).setCell ⟨b, 1, none⟩ a1).setCell ⟨b, 2, none⟩ a2).setCell ⟨b, 3, none⟩ a3) Q' L ∧ RefV ((((W6.setCell ⟨b, 0, none⟩ a0).setCell ⟨b, 1, none⟩ a1).setCell ⟨b, 2, none⟩ a2).setCell ⟨b, 3, none⟩ a3) (fun k => New ok W ((((W6.setCell ⟨b, 0, none⟩ a0).setCell ⟨b, 1, none⟩ a1).setCell ⟨b, 2, none⟩ a2).setCell ⟨b, 3, none⟩ a3) k ∧ (k < w0.heap.size ∨ Q' k)) v D ∧ KeepP Q W ((((W6.setCell ⟨b, 0, none⟩ a0).setCell ⟨b, 1, none⟩ a1).setCell ⟨b, 2, none⟩ a2).setCell ⟨b, 3, none⟩ a3) := by
  have hb4 := S4.lt b (.inr ⟨hb1, hb2⟩)
  have h46 : Below w4.heap.size w4 W6 := below_step hb h6
  have far : ∀ k, k ≠ b → ((((W6.setCell ⟨b, 0, none⟩ a0).setCell ⟨b, 1, none⟩ a1).setCell ⟨b, 2, none⟩ a2).setCell ⟨b, 3, none⟩ a3).heap[k]? = W6.heap[k]? := fun k hk => by
    rw [Below.heap_setCell _ ⟨b, 3, none⟩ _ k hk, Below.heap_setCell _ ⟨b, 2, none⟩ _ k hk, Below.heap_setCell _ ⟨b, 1, none⟩ _ k hk, Below.heap_setCell _ ⟨b, 0, none⟩ _ k hk]
  have P6 := S4.fence h46
  have pb : (fun k => (Q k ∨ (W.heap.size ≤ k ∧ k < W3.heap.size)) ∨ (w4.heap.size ≤ k ∧ k < W6.heap.size)) b := .inl (.inr ⟨hb1, hb2⟩)
  refine ⟨_, fun k hk => .inl (.inl hk), (((P6.poke b pb (by omega) 0 a0).poke b pb (by omega) 1 a1).poke b pb (by omega) 2 a2).poke b pb (by omega) 3 a3, ?_, fun k hk => ?_⟩
  · have s6 := h6.size
    refine (((hv.below h6).step (fun k hk hlt => far k (fun e => ?_))).mono (fun k hk => ?_))
    · subst e
      rcases hk with hk | hk
      · rcases hko _ hk with hk | hk
        · omega
        · have := hQ _ hk; omega
      · omega
    · rcases hk with hk | hk
      · exact ⟨.inl hk, (hko _ hk).imp id (fun h => .inl (.inl h))⟩
      · exact ⟨.inr ⟨by omega, by simp only [World.size_setCell]; omega⟩, .inr (.inr ⟨hk.1, by omega⟩)⟩
  · have h1 := hQ k hk
    have h2 := S4.lt k (.inl hk)
    rw [far k (by omega), h46.block k h2, K4 k (.inl hk), tb.block k h1]
theorem onto {w5 : World} {b : Nat} (a0 a1 a2 a3 : Value) (t : TypeId) (f : b < w5.heap.size) :
    let W6 := w5.alloc (.cells #[a0, a1, a2, a3] t)
    W6.cell? ⟨w5.heap.size, 0, none⟩ = some a0 ∧ W6.cell? ⟨w5.heap.size, 1, none⟩ = some a1 ∧ W6.cell? ⟨w5.heap.size, 2, none⟩ = some a2 ∧ W6.cell? ⟨w5.heap.size, 3, none⟩ = some a3 ∧ W6.heap[b]? = w5.heap[b]? :=
  ⟨(blk_cell (heap_alloc_new w5 _) 0).trans rfl, (blk_cell (heap_alloc_new w5 _) 1).trans rfl, (blk_cell (heap_alloc_new w5 _) 2).trans rfl, (blk_cell (heap_alloc_new w5 _) 3).trans rfl, (below_alloc (Below.refl _ _) _ : Below w5.heap.size w5 (w5.alloc _)).block b f⟩
theorem three {W : World} (a b c : Obj) : Below W.heap.size W (((W.alloc a).alloc b).alloc c) ∧ (((W.alloc a).alloc b).alloc c).heap[W.heap.size]? = some a ∧ (((W.alloc a).alloc b).alloc c).heap[W.heap.size + 1]? = some b ∧ (((W.alloc a).alloc b).alloc c).heap[W.heap.size + 1 + 1]? = some c ∧ (((W.alloc a).alloc b).alloc c).heap.size = W.heap.size + 1 + 1 + 1 := by
  have e0 := heap_alloc_new W a
  have e1 := heap_alloc_new (W.alloc a) b
  have e2 := heap_alloc_new ((W.alloc a).alloc b) c
  simp only [World.size_alloc] at e1 e2
  have b1 : Below (W.alloc a).heap.size (W.alloc a) (((W.alloc a).alloc b).alloc c) := below_alloc (below_alloc (Below.refl _ _) _) _
  have b2 : Below ((W.alloc a).alloc b).heap.size ((W.alloc a).alloc b) (((W.alloc a).alloc b).alloc c) := below_alloc (Below.refl _ _) _
  exact ⟨below_alloc (below_alloc (below_alloc (Below.refl _ _) _) _) _, (b1.block _ (by simp)).trans e0, (b2.block _ (by simp)).trans e1, e2, by simp⟩

set_option maxRecDepth 100000 in
set_option maxHeartbeats 8000000 in
theorem apply0_calls {w0 W : World} {Q : Nat → Prop} {R : List (Nat × Dk)} {g : Nat} {D : Dk} (h : Sts w0 W Q ((g, D) :: R)) (hok : D.Ok) {v : Value} {ok : Nat → Prop} (hv : RefV W ok v D) (hko : ∀ k, ok k → k < w0.heap.size ∨ Q k) (x : P.S44) {A3 A4 : Option Addr} {c3 c4 : Nat}
    (h3 : x.f3.length ≤ c3) (g3 : (Kd.int .u8).C w0 A3 x.f3.length x.f3) (h4 : x.f4.length ≤ c4) (g4 : (Kd.int .i64).C w0 A4 x.f4.length x.f4) (hl : x.f3.length ≤ 64) (hk : x.f0 = 0) :
    Calls Try.prog 31 #[.pointer (some ⟨g, 0, none⟩), v, .agg #[.int .i64 x.f0, .int .i64 x.f1, .int .i64 x.f2, .slice A3 x.f3.length c3, .slice A4 x.f4.length c4]] W fun e w' => ∃ g' v', e = .returned (.tuple #[.pointer (some ⟨g', 0, none⟩), v', .bool true]) ∧ ∃ Q', (∀ k, Q k → Q' k) ∧ Sts w0 w' Q' ((g', stepD D x) :: R) ∧ RefV w' (fun k => New ok W w' k ∧ (k < w0.heap.size ∨ Q' k)) v' (stepD D x) ∧ KeepP Q W w' := by
  have H := Aside0.mk h
  have HV := Aside0.mk hv
  have HKO := Aside0.mk hko
  obtain ⟨A0, c0, A1, c1, rfl, _, _⟩ := hv.form
  have HOK := Aside0.mk hok
  have G3 := Aside0.mk g3
  clear h hv hok hko g3 g4
  go_enter Try.func31, Try.ntmps31
  go_wp2_with fail
  obtain ⟨tb, t1, t2, t3, ts⟩ := three (W := W) (.cells #[.slice A0 D.dur.length c0, .slice A1 D.pend.length c1, .int .i64 D.cnt, .bool D.failed] 50) (.cells #[.int .i64 0, .int .i64 x.f1, .int .i64 x.f2, .slice A3 x.f3.length c3, .slice A4 x.f4.length c4] 44) (.cells #[.slice none 0 0, .slice none 0 0, .int .i64 0, .bool false] 50)
  generalize hW3 : ((W.alloc (.cells #[.slice A0 D.dur.length c0, .slice A1 D.pend.length c1, .int .i64 D.cnt, .bool D.failed] 50)).alloc (.cells #[.int .i64 0, .int .i64 x.f1, .int .i64 x.f2, .slice A3 x.f3.length c3, .slice A4 x.f4.length c4] 44)).alloc (.cells #[.slice none 0 0, .slice none 0 0, .int .i64 0, .bool false] 50) = W3 at tb t1 t2 t3 ts ⊢
  have S3 := Aside0.mk (H.out.fence tb)
  have TB := Aside0.mk tb
  refine (S3.out.write_arg 0 rfl HOK.out x.f1 A3 c3 x.f3 G3.out h3 (by omega)).mono ?_
  rintro e w4 ⟨rfl, hs, hkp⟩
  have S4 := Aside0.mk (show Sts w0 w4 _ ((g, (D.write x.f1 x.f3).1) :: R) from hs)
  have K4 := Aside0.mk hkp
  have HV4 := Aside0.mk ((HV.out.below tb).over HKO.out S3.out S4.out hkp (fun k hk => .inl hk))
  have u1 := (hkp W.heap.size (.inr ⟨Nat.le_refl _, by omega⟩)).trans t1
  have u2 := (hkp (W.heap.size + 1) (.inr ⟨by omega, by omega⟩)).trans t2
  have u3 := (hkp (W.heap.size + 1 + 1) (.inr ⟨by omega, by omega⟩)).trans t3
  have U3 := Aside0.mk u3
  have US := Aside0.mk ts
  have z0 := (blk_cell u1 0).trans rfl
  have z1 := (blk_cell u1 1).trans rfl
  have z2 := (blk_cell u1 2).trans rfl
  have z3 := (blk_cell u1 3).trans rfl
  have y1 := (blk_cell u2 1).trans rfl
  have y2 := (blk_cell u2 2).trans rfl
  have y3 := (blk_cell u2 3).trans rfl
  have y4 := (blk_cell u2 4).trans rfl
  clear hs hkp u1 u2 u3 t1 t2 t3 ts tb
  go_wp2_with fail
  have HRP := ref_put HV4.out HOK.out x.f1 A3 c3 x.f3 (Kd.C_below G3.out S4.out.bel) h3 (by omega)
  rw [List.length_map] at HRP
  refine HRP.mono ?_
  clear HRP
  rintro e w5 ⟨v5, rfl, hv, hb⟩
  obtain ⟨A5, c5, A6, c6, rfl, _, _⟩ := hv.form
  have HV5 := Aside0.mk hv
  have HB5 := Aside0.mk hb
  have u5 := (hb.block _ (blk_lt U3.out)).trans U3.out
  have U5 := Aside0.mk u5
  have L5 := Aside0.mk (Nat.lt_of_lt_of_le (blk_lt U3.out) hb.size)
  have f0 := (blk_cell u5 0).trans rfl
  have f1 := (blk_cell u5 1).trans rfl
  have f2 := (blk_cell u5 2).trans rfl
  have f3 := (blk_cell u5 3).trans rfl
  obtain ⟨q0, q1, q2, q3, q4⟩ := onto (.slice A5 (D.write x.f1 x.f3).1.dur.length c5) (.slice A6 (D.write x.f1 x.f3).1.pend.length c6) (.int .i64 (D.write x.f1 x.f3).1.cnt) (.bool (D.write x.f1 x.f3).1.failed) 50 (blk_lt u5)
  replace q4 := q4.trans u5
  have F0 := (blk_cell q4 0).trans rfl
  have F1 := (blk_cell q4 1).trans rfl
  have F2 := (blk_cell q4 2).trans rfl
  have F3 := (blk_cell q4 3).trans rfl
  have e0 := blk_frozen q4 0
  have e1 := blk_frozen q4 1
  have e2 := blk_frozen q4 2
  have e3 := blk_frozen q4 3
  have Q4 := Aside0.mk q4
  clear q4
  clear u5 hv hb
  go_wp2_with fail
  refine start_ (n := 8) (S := fun w' => w'.cell? ⟨w5.heap.size, 0, none⟩ = some (.slice A5 (D.write x.f1 x.f3).1.dur.length c5) ∧ w'.cell? ⟨w5.heap.size, 1, none⟩ = some (.slice A6 (D.write x.f1 x.f3).1.pend.length c6) ∧ w'.cell? ⟨w5.heap.size, 2, none⟩ = some (.int .i64 (D.write x.f1 x.f3).1.cnt) ∧ w'.cell? ⟨w5.heap.size, 3, none⟩ = some (.bool (D.write x.f1 x.f3).1.failed)) (ds := [6]) #[false, false, false, false, false, false, false, false] (by kernel_rfl) rfl rfl ⟨q0, q1, q2, q3⟩ (fun hHeld => ?_)
  refine pure_ (i := 0) (N := some 39) (v := ?_) (a' := ?_) #[true, false, false, false, false, false, false, false] rfl rfl (by kernel_rfl) (fun _ _ _ h => h) (Or.inl ⟨by rfl, ?_⟩) ?_ ?_
  rotate_left
  · intro w'
    go_simp
    with_reducible rfl
  rotate_left
  · simp only [Act.put, List.setIfInBounds_toArray, List.set_cons_zero, List.set_cons_succ, i64_w, i32_w]
    rfl
  refine take_ (i := 1) (N := some 40) (v := ?_) (a' := ?_) #[true, true, false, false, false, false, false, false] rfl rfl (by kernel_rfl) (fun _ _ _ h => h) (Or.inl ⟨by rfl, ?_⟩) hHeld ?_ ?_
  rotate_left
  · rintro w' ⟨s0, s1, s2, s3⟩
    go_simp
    with_reducible rfl
  rotate_left
  · simp only [Act.put, List.setIfInBounds_toArray, List.set_cons_zero, List.set_cons_succ, i64_w, i32_w]
    rfl
  refine pure_ (i := 2) (N := some 41) (v := ?_) (a' := ?_) #[true, true, true, false, false, false, false, false] rfl rfl (by kernel_rfl) (fun _ _ _ h => h) (Or.inl ⟨by rfl, ?_⟩) ?_ ?_
  rotate_left
  · intro w'
    go_simp
    with_reducible rfl
  rotate_left
  · simp only [Act.put, List.setIfInBounds_toArray, List.set_cons_zero, List.set_cons_succ, i64_w, i32_w]
    rfl
  refine pure_ (i := 3) (N := some 42) (v := ?_) (a' := ?_) #[true, true, true, true, false, false, false, false] rfl rfl (by kernel_rfl) (fun _ _ _ h => h) (Or.inl ⟨by rfl, ?_⟩) ?_ ?_
  rotate_left
  · intro w'
    go_simp
    with_reducible rfl
  rotate_left
  · simp only [Act.put, List.setIfInBounds_toArray, List.set_cons_zero, List.set_cons_succ, i64_w, i32_w]
    rfl
  refine pure_ (i := 4) (N := some 43) (v := ?_) (a' := ?_) #[true, true, true, true, true, false, false, false] rfl rfl (by kernel_rfl) (fun _ _ _ h => h) (Or.inl ⟨by rfl, ?_⟩) ?_ ?_
  rotate_left
  · intro w'
    go_simp
    with_reducible rfl
  rotate_left
  · simp only [Act.put, List.setIfInBounds_toArray, List.set_cons_zero, List.set_cons_succ, i64_w, i32_w]
    rfl
  refine pure_ (i := 5) (N := some 6) (v := ?_) (a' := ?_) #[true, true, true, true, true, true, false, false] rfl rfl (by kernel_rfl) (fun _ _ _ h => h) (Or.inl ⟨by rfl, ?_⟩) ?_ ?_
  rotate_left
  · intro w'
    go_simp
    with_reducible rfl
  rotate_left
  · simp only [Act.put, List.setIfInBounds_toArray, List.set_cons_zero, List.set_cons_succ, i64_w, i32_w]
    rfl
  refine last_ (i := 6) (N := none) #[true, true, true, true, true, true, true, false] rfl rfl (by kernel_rfl) (by decide) (fun K hK => ?_)
  refine skip_ (w1 := ?_) (by rfl) rfl ?_ ?_
  rotate_left
  · go_simp
    first | rfl | exact ⟨rfl, rfl⟩
  refine hK.out _ _ ?_
  clear hK K
  refine pure_ (i := 7) (N := some 8) (v := ?_) (a' := ?_) #[true, true, true, true, true, true, true, true] rfl rfl (by kernel_rfl) (fun _ _ _ h => h) (Or.inl ⟨by rfl, ?_⟩) ?_ ?_
  rotate_left
  · intro w'
    go_simp
    with_reducible rfl
  rotate_left
  · simp only [Act.put, List.setIfInBounds_toArray, List.set_cons_zero, List.set_cons_succ, i64_w, i32_w]
    rfl
  refine done_ (by kernel_rfl) ?_
  go_wp2_with fail
  refine bodyPost_ret (results_tct rfl _ _ (W.heap.size + 1 + 1) 50 #[.slice A5 (D.write x.f1 x.f3).1.dur.length c5, .slice A6 (D.write x.f1 x.f3).1.pend.length c6, .int .i64 (D.write x.f1 x.f3).1.cnt, .bool (D.write x.f1 x.f3).1.failed] (0, 0) _ rfl ?_ Try.underlying50 rfl (by kernel_rfl)) rfl ?_
  · (with_reducible repeat (first | refine blk_drewN ?_ _ | refine blk_drew ?_ | refine blk_alloc ?_ _)); refine blk_put (cs := #[.slice A5 (D.write x.f1 x.f3).1.dur.length c5, .slice A6 (D.write x.f1 x.f3).1.pend.length c6, .int .i64 (D.write x.f1 x.f3).1.cnt, .bool false]) ?_ 3 _ rfl
    (with_reducible repeat (first | refine blk_drewN ?_ _ | refine blk_drew ?_ | refine blk_alloc ?_ _)); refine blk_put (cs := #[.slice A5 (D.write x.f1 x.f3).1.dur.length c5, .slice A6 (D.write x.f1 x.f3).1.pend.length c6, .int .i64 0, .bool false]) ?_ 2 _ rfl
    (with_reducible repeat (first | refine blk_drewN ?_ _ | refine blk_drew ?_ | refine blk_alloc ?_ _)); refine blk_put (cs := #[.slice A5 (D.write x.f1 x.f3).1.dur.length c5, .slice none 0 0, .int .i64 0, .bool false]) ?_ 1 _ rfl
    (with_reducible repeat (first | refine blk_drewN ?_ _ | refine blk_drew ?_ | refine blk_alloc ?_ _)); refine blk_put (cs := #[.slice none 0 0, .slice none 0 0, .int .i64 0, .bool false]) ?_ 0 _ rfl
    exact Q4.out
  · refine ⟨g, _, rfl, ?_⟩
    rw [show stepD D x = (D.write x.f1 x.f3).1 from if_pos hk]
    have hv5 := HV5.out
    rw [List.length_map] at hv5
    obtain ⟨Q', r1, r2, r3, r4⟩ := fin S4.out K4.out TB.out H.out.lt H.out.bel.size HB5.out hv5 HKO.out (below_alloc (Below.refl _ _) (.cells #[.slice A5 (D.write x.f1 x.f3).1.dur.length c5, .slice A6 (D.write x.f1 x.f3).1.pend.length c6, .int .i64 (D.write x.f1 x.f3).1.cnt, .bool (D.write x.f1 x.f3).1.failed] 50)) (W.heap.size + 1 + 1) (by omega) (by have := US.out; omega) (.slice A5 (D.write x.f1 x.f3).1.dur.length c5) (.slice A6 (D.write x.f1 x.f3).1.pend.length c6) (.int .i64 (D.write x.f1 x.f3).1.cnt) (.bool (D.write x.f1 x.f3).1.failed)
    exact ⟨Q', r1, r2.drew, r3.below (below_drew (Below.refl _ _)), r4⟩
end Go.Proofs.Ytbbokpkpdnppjaa
