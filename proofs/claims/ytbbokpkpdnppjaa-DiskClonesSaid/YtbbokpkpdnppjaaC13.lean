/- 'apply': a clone, a read, no operation. -/
import Derived.Test.YtbbokpkpdnppjaaC12
namespace Go.Proofs.Ytbbokpkpdnppjaa
open Go.RowKit Go.Proofs.YtbbokpkpdnppjaaW.PrintWords Go.Proofs.YtbbokpkpdnppjaaW.PrintLast Go.Proofs.YtbbokpkpdnppjaaW.PrintMore
set_option linter.unusedVariables false
set_option linter.unusedSimpArgs false

set_option maxRecDepth 100000 in
set_option maxHeartbeats 8000000 in
theorem applyE_calls {w0 W : World} {Q : Nat → Prop} {R : List (Nat × Dk)} {g : Nat} {D : Dk} (h : Sts w0 W Q ((g, D) :: R)) (hok : D.Ok) {v : Value} {ok : Nat → Prop} (hv : RefV W ok v D) (hko : ∀ k, ok k → k < w0.heap.size ∨ Q k) (x : P.S44) {A3 A4 : Option Addr} {c3 c4 : Nat}
    (h3 : x.f3.length ≤ c3) (g3 : (Kd.int .u8).C w0 A3 x.f3.length x.f3) (h4 : x.f4.length ≤ c4) (g4 : (Kd.int .i64).C w0 A4 x.f4.length x.f4) (hl : x.f3.length ≤ 64) (hk : x.f0 ≠ 0 ∧ x.f0 ≠ 1 ∧ x.f0 ≠ 2 ∧ x.f0 ≠ 3 ∧ x.f0 ≠ 4 ∧ x.f0 ≠ 5) :
    Calls Try.prog 31 #[.pointer (some ⟨g, 0, none⟩), v, .agg #[.int .i64 x.f0, .int .i64 x.f1, .int .i64 x.f2, .slice A3 x.f3.length c3, .slice A4 x.f4.length c4]] W fun e w' => ∃ g' v', e = .returned (.tuple #[.pointer (some ⟨g', 0, none⟩), v', .bool true]) ∧ ∃ Q', (∀ k, Q k → Q' k) ∧ Sts w0 w' Q' ((g', stepD D x) :: R) ∧ RefV w' (fun k => New ok W w' k ∧ (k < w0.heap.size ∨ Q' k)) v' (stepD D x) ∧ KeepP Q W w' := by
  have H := Aside0.mk h
  have HV := Aside0.mk hv
  have HKO := Aside0.mk hko
  obtain ⟨A0, c0, A1, c1, rfl, _, _⟩ := hv.form
  have HOK := Aside0.mk hok
  have G3 := Aside0.mk g3
  have G4 := Aside0.mk g4
  clear h hv hok hko g3 g4
  go_enter Try.func31, Try.ntmps31
  obtain ⟨n0, n1, n2, n3, n4, n5⟩ := hk
  go_wp2_with fail
  obtain ⟨tb, t1, t2, t3, ts⟩ := three (W := W) (.cells #[.slice A0 D.dur.length c0, .slice A1 D.pend.length c1, .int .i64 D.cnt, .bool D.failed] 50) (.cells #[.int .i64 x.f0, .int .i64 x.f1, .int .i64 x.f2, .slice A3 x.f3.length c3, .slice A4 x.f4.length c4] 44) (.cells #[.slice none 0 0, .slice none 0 0, .int .i64 0, .bool false] 50)
  generalize hW3 : ((W.alloc (.cells #[.slice A0 D.dur.length c0, .slice A1 D.pend.length c1, .int .i64 D.cnt, .bool D.failed] 50)).alloc (.cells #[.int .i64 x.f0, .int .i64 x.f1, .int .i64 x.f2, .slice A3 x.f3.length c3, .slice A4 x.f4.length c4] 44)).alloc (.cells #[.slice none 0 0, .slice none 0 0, .int .i64 0, .bool false] 50) = W3 at tb t1 t2 t3 ts ⊢
  have S3 := Aside0.mk (H.out.fence tb)
  have TB := Aside0.mk tb
  have U3 := Aside0.mk t3
  have US := Aside0.mk ts
  have u1 := t1
  have u2 := t2
  have u3 := t3
  have z0 := (blk_cell u1 0).trans rfl
  have z1 := (blk_cell u1 1).trans rfl
  have z2 := (blk_cell u1 2).trans rfl
  have z3 := (blk_cell u1 3).trans rfl
  have y1 := (blk_cell u2 1).trans rfl
  have y2 := (blk_cell u2 2).trans rfl
  have y3 := (blk_cell u2 3).trans rfl
  have y4 := (blk_cell u2 4).trans rfl
  have F0 := (blk_cell u3 0).trans rfl
  have F1 := (blk_cell u3 1).trans rfl
  have F2 := (blk_cell u3 2).trans rfl
  have F3 := (blk_cell u3 3).trans rfl
  have e0 := blk_frozen u3 0
  have e1 := blk_frozen u3 1
  have e2 := blk_frozen u3 2
  have e3 := blk_frozen u3 3
  have Q4 := Aside0.mk u3
  clear u1 u2 u3 t1 t2 t3 ts tb
  refine start_ (n := 5) (S := fun w' => w'.cell? ⟨W.heap.size, 0, none⟩ = some (.slice A0 D.dur.length c0) ∧ w'.cell? ⟨W.heap.size, 1, none⟩ = some (.slice A1 D.pend.length c1) ∧ w'.cell? ⟨W.heap.size, 2, none⟩ = some (.int .i64 D.cnt) ∧ w'.cell? ⟨W.heap.size, 3, none⟩ = some (.bool D.failed)) (ds := [3]) #[false, false, false, false, false] (by kernel_rfl) rfl rfl ⟨z0, z1, z2, z3⟩ (fun hHeld => ?_)
  refine pure_ (i := 0) (N := some 120) (v := ?_) (a' := ?_) #[true, false, false, false, false] rfl rfl (by kernel_rfl) (fun _ _ _ h => h) (Or.inl ⟨by rfl, ?_⟩) ?_ ?_
  rotate_left
  · intro w'
    go_simp
    with_reducible rfl
  rotate_left
  · simp only [Act.put, List.setIfInBounds_toArray, List.set_cons_zero, List.set_cons_succ, i64_w, i32_w]
    rfl
  refine take_ (i := 1) (N := some 121) (v := ?_) (a' := ?_) #[true, true, false, false, false] rfl rfl (by kernel_rfl) (fun _ _ _ h => h) (Or.inl ⟨by rfl, ?_⟩) hHeld ?_ ?_
  rotate_left
  · rintro w' ⟨s0, s1, s2, s3⟩
    go_simp
    with_reducible rfl
  rotate_left
  · simp only [Act.put, List.setIfInBounds_toArray, List.set_cons_zero, List.set_cons_succ, i64_w, i32_w]
    rfl
  refine pure_ (i := 2) (N := some 6) (v := ?_) (a' := ?_) #[true, true, true, false, false] rfl rfl (by kernel_rfl) (fun _ _ _ h => h) (Or.inl ⟨by rfl, ?_⟩) ?_ ?_
  rotate_left
  · intro w'
    go_simp
    with_reducible rfl
  rotate_left
  · simp only [Act.put, List.setIfInBounds_toArray, List.set_cons_zero, List.set_cons_succ, i64_w, i32_w]
    rfl
  refine last_ (i := 3) (N := none) #[true, true, true, true, false] rfl rfl (by kernel_rfl) (by decide) (fun K hK => ?_)
  refine skip_ (w1 := ?_) (by rfl) rfl ?_ ?_
  rotate_left
  · go_simp
    first | rfl | exact ⟨rfl, rfl⟩
  refine hK.out _ _ ?_
  clear hK K
  refine pure_ (i := 4) (N := some 8) (v := ?_) (a' := ?_) #[true, true, true, true, true] rfl rfl (by kernel_rfl) (fun _ _ _ h => h) (Or.inl ⟨by rfl, ?_⟩) ?_ ?_
  rotate_left
  · intro w'
    go_simp
    with_reducible rfl
  rotate_left
  · simp only [Act.put, List.setIfInBounds_toArray, List.set_cons_zero, List.set_cons_succ, i64_w, i32_w]
    rfl
  refine done_ (by kernel_rfl) ?_
  go_wp2_with fail
  refine bodyPost_ret (results_tct rfl _ _ (W.heap.size + 1 + 1) 50 #[.slice A0 D.dur.length c0, .slice A1 D.pend.length c1, .int .i64 D.cnt, .bool D.failed] (0, 0) _ rfl ?_ Try.underlying50 rfl (by kernel_rfl)) rfl ?_
  · (with_reducible repeat (first | refine blk_drewN ?_ _ | refine blk_drew ?_ | refine blk_alloc ?_ _)); refine blk_put (cs := #[.slice A0 D.dur.length c0, .slice A1 D.pend.length c1, .int .i64 D.cnt, .bool false]) ?_ 3 _ rfl
    (with_reducible repeat (first | refine blk_drewN ?_ _ | refine blk_drew ?_ | refine blk_alloc ?_ _)); refine blk_put (cs := #[.slice A0 D.dur.length c0, .slice A1 D.pend.length c1, .int .i64 0, .bool false]) ?_ 2 _ rfl
    (with_reducible repeat (first | refine blk_drewN ?_ _ | refine blk_drew ?_ | refine blk_alloc ?_ _)); refine blk_put (cs := #[.slice A0 D.dur.length c0, .slice none 0 0, .int .i64 0, .bool false]) ?_ 1 _ rfl
    (with_reducible repeat (first | refine blk_drewN ?_ _ | refine blk_drew ?_ | refine blk_alloc ?_ _)); refine blk_put (cs := #[.slice none 0 0, .slice none 0 0, .int .i64 0, .bool false]) ?_ 0 _ rfl
    exact Q4.out
  · refine ⟨g, _, rfl, ?_⟩
    rw [show stepD D x = D from by unfold stepD; rw [if_neg n0, if_neg n1, if_neg n3, if_neg n4]]
    have hv5 := ((HV.out.below TB.out).mono (fun k hk => (.inl hk : New ok W3 W3 k)))
    rw [List.length_map] at hv5
    obtain ⟨Q', r1, r2, r3, r4⟩ := fin S3.out (KeepP.refl _ _) TB.out H.out.lt H.out.bel.size (Below.refl _ _) hv5 HKO.out (Below.refl _ _) (W.heap.size + 1 + 1) (by omega) (by have := US.out; omega) (.slice A0 D.dur.length c0) (.slice A1 D.pend.length c1) (.int .i64 D.cnt) (.bool D.failed)
    exact ⟨Q', r1, r2.drew, r3.below (below_drew (Below.refl _ _)), r4⟩
set_option maxRecDepth 100000 in
set_option maxHeartbeats 8000000 in
theorem apply5_calls {w0 W : World} {Q : Nat → Prop} {R : List (Nat × Dk)} {g : Nat} {D : Dk} (h : Sts w0 W Q ((g, D) :: R)) (hok : D.Ok) {v : Value} {ok : Nat → Prop} (hv : RefV W ok v D) (hko : ∀ k, ok k → k < w0.heap.size ∨ Q k) (x : P.S44) {A3 A4 : Option Addr} {c3 c4 : Nat}
    (h3 : x.f3.length ≤ c3) (g3 : (Kd.int .u8).C w0 A3 x.f3.length x.f3) (h4 : x.f4.length ≤ c4) (g4 : (Kd.int .i64).C w0 A4 x.f4.length x.f4) (hl : x.f3.length ≤ 64) (hk : x.f0 = 5) :
    Calls Try.prog 31 #[.pointer (some ⟨g, 0, none⟩), v, .agg #[.int .i64 x.f0, .int .i64 x.f1, .int .i64 x.f2, .slice A3 x.f3.length c3, .slice A4 x.f4.length c4]] W fun e w' => ∃ g' v', e = .returned (.tuple #[.pointer (some ⟨g', 0, none⟩), v', .bool true]) ∧ ∃ Q', (∀ k, Q k → Q' k) ∧ Sts w0 w' Q' ((g', stepD D x) :: R) ∧ RefV w' (fun k => New ok W w' k ∧ (k < w0.heap.size ∨ Q' k)) v' (stepD D x) ∧ KeepP Q W w' := by
  have H := Aside0.mk h
  have HV := Aside0.mk hv
  have HKO := Aside0.mk hko
  obtain ⟨A0, c0, A1, c1, rfl, _, _⟩ := hv.form
  have HOK := Aside0.mk hok
  have G3 := Aside0.mk g3
  have G4 := Aside0.mk g4
  clear h hv hok hko g3 g4
  go_enter Try.func31, Try.ntmps31
  go_wp2_with fail
  obtain ⟨tb, t1, t2, t3, ts⟩ := three (W := W) (.cells #[.slice A0 D.dur.length c0, .slice A1 D.pend.length c1, .int .i64 D.cnt, .bool D.failed] 50) (.cells #[.int .i64 5, .int .i64 x.f1, .int .i64 x.f2, .slice A3 x.f3.length c3, .slice A4 x.f4.length c4] 44) (.cells #[.slice none 0 0, .slice none 0 0, .int .i64 0, .bool false] 50)
  generalize hW3 : ((W.alloc (.cells #[.slice A0 D.dur.length c0, .slice A1 D.pend.length c1, .int .i64 D.cnt, .bool D.failed] 50)).alloc (.cells #[.int .i64 5, .int .i64 x.f1, .int .i64 x.f2, .slice A3 x.f3.length c3, .slice A4 x.f4.length c4] 44)).alloc (.cells #[.slice none 0 0, .slice none 0 0, .int .i64 0, .bool false] 50) = W3 at tb t1 t2 t3 ts ⊢
  have S3 := Aside0.mk (H.out.fence tb)
  have TB := Aside0.mk tb
  refine (S3.out.clone 0 rfl HOK.out).mono ?_
  rintro e w4 ⟨gc, rfl, hs, hkp⟩
  have S4 := Aside0.mk (show Sts w0 w4 _ ((gc, D) :: (g, D) :: R) from hs)
  have K4 := Aside0.mk hkp
  have T1 := Aside0.mk t1
  have T2 := Aside0.mk t2
  have T3 := Aside0.mk t3
  have US := Aside0.mk ts
  clear hs hkp t1 t2 t3 ts tb
  go_wp2_with fail
  refine (S4.out.crash_nil 1 rfl HOK.out).mono ?_
  rintro e w5 ⟨rfl, hs, hkp⟩
  have S5 := Aside0.mk (show Sts w0 w5 _ ((gc, D) :: R) from Sts.drop1 (show Sts w0 w5 _ ((gc, D) :: (g, D.crashed []) :: R) from hs))
  have K5 := Aside0.mk (K4.out.trans hkp)
  have HV5 := Aside0.mk ((HV.out.below TB.out).over HKO.out S3.out S5.out K5.out (fun k hk => .inl hk))
  have hsz := US.out
  have u1 := (K5.out W.heap.size (.inr ⟨Nat.le_refl _, by omega⟩)).trans T1.out
  have u2 := (K5.out (W.heap.size + 1) (.inr ⟨by omega, by omega⟩)).trans T2.out
  have u3 := (K5.out (W.heap.size + 1 + 1) (.inr ⟨by omega, by omega⟩)).trans T3.out
  have z0 := (blk_cell u1 0).trans rfl
  have z1 := (blk_cell u1 1).trans rfl
  have z2 := (blk_cell u1 2).trans rfl
  have z3 := (blk_cell u1 3).trans rfl
  have y1 := (blk_cell u2 1).trans rfl
  have y2 := (blk_cell u2 2).trans rfl
  have y3 := (blk_cell u2 3).trans rfl
  have y4 := (blk_cell u2 4).trans rfl
  have F0 := (blk_cell u3 0).trans rfl
  have F1 := (blk_cell u3 1).trans rfl
  have F2 := (blk_cell u3 2).trans rfl
  have F3 := (blk_cell u3 3).trans rfl
  have e0 := blk_frozen u3 0
  have e1 := blk_frozen u3 1
  have e2 := blk_frozen u3 2
  have e3 := blk_frozen u3 3
  have Q4 := Aside0.mk u3
  clear u1 u2 u3 hs hkp hsz
  go_wp2_with fail
  refine start_ (n := 7) (S := fun w' => w'.cell? ⟨W.heap.size, 0, none⟩ = some (.slice A0 D.dur.length c0) ∧ w'.cell? ⟨W.heap.size, 1, none⟩ = some (.slice A1 D.pend.length c1) ∧ w'.cell? ⟨W.heap.size, 2, none⟩ = some (.int .i64 D.cnt) ∧ w'.cell? ⟨W.heap.size, 3, none⟩ = some (.bool D.failed)) (ds := [5]) #[false, false, false, false, false, false, false] (by kernel_rfl) rfl rfl ⟨z0, z1, z2, z3⟩ (fun hHeld => ?_)
  refine pure_ (i := 0) (N := some 116) (v := ?_) (a' := ?_) #[true, false, false, false, false, false, false] rfl rfl (by kernel_rfl) (fun _ _ _ h => h) (Or.inl ⟨by rfl, ?_⟩) ?_ ?_
  rotate_left
  · intro w'
    go_simp
    with_reducible rfl
  rotate_left
  · simp only [Act.put, List.setIfInBounds_toArray, List.set_cons_zero, List.set_cons_succ, i64_w, i32_w]
    rfl
  refine take_ (i := 1) (N := some 117) (v := ?_) (a' := ?_) #[true, true, false, false, false, false, false] rfl rfl (by kernel_rfl) (fun _ _ _ h => h) (Or.inl ⟨by rfl, ?_⟩) hHeld ?_ ?_
  rotate_left
  · rintro w' ⟨s0, s1, s2, s3⟩
    go_simp
    with_reducible rfl
  rotate_left
  · simp only [Act.put, List.setIfInBounds_toArray, List.set_cons_zero, List.set_cons_succ, i64_w, i32_w]
    rfl
  refine pure_ (i := 2) (N := some 118) (v := ?_) (a' := ?_) #[true, true, true, false, false, false, false] rfl rfl (by kernel_rfl) (fun _ _ _ h => h) (Or.inl ⟨by rfl, ?_⟩) ?_ ?_
  rotate_left
  · intro w'
    go_simp
    with_reducible rfl
  rotate_left
  · simp only [Act.put, List.setIfInBounds_toArray, List.set_cons_zero, List.set_cons_succ, i64_w, i32_w]
    rfl
  refine pure_ (i := 3) (N := some 119) (v := ?_) (a' := ?_) #[true, true, true, true, false, false, false] rfl rfl (by kernel_rfl) (fun _ _ _ h => h) (Or.inl ⟨by rfl, ?_⟩) ?_ ?_
  rotate_left
  · intro w'
    go_simp
    with_reducible rfl
  rotate_left
  · simp only [Act.put, List.setIfInBounds_toArray, List.set_cons_zero, List.set_cons_succ, i64_w, i32_w]
    rfl
  refine pure_ (i := 4) (N := some 6) (v := ?_) (a' := ?_) #[true, true, true, true, true, false, false] rfl rfl (by kernel_rfl) (fun _ _ _ h => h) (Or.inl ⟨by rfl, ?_⟩) ?_ ?_
  rotate_left
  · intro w'
    go_simp
    with_reducible rfl
  rotate_left
  · simp only [Act.put, List.setIfInBounds_toArray, List.set_cons_zero, List.set_cons_succ, i64_w, i32_w]
    rfl
  refine last_ (i := 5) (N := none) #[true, true, true, true, true, true, false] rfl rfl (by kernel_rfl) (by decide) (fun K hK => ?_)
  refine skip_ (w1 := ?_) (by rfl) rfl ?_ ?_
  rotate_left
  · go_simp
    first | rfl | exact ⟨rfl, rfl⟩
  refine hK.out _ _ ?_
  clear hK K
  refine pure_ (i := 6) (N := some 8) (v := ?_) (a' := ?_) #[true, true, true, true, true, true, true] rfl rfl (by kernel_rfl) (fun _ _ _ h => h) (Or.inl ⟨by rfl, ?_⟩) ?_ ?_
  rotate_left
  · intro w'
    go_simp
    with_reducible rfl
  rotate_left
  · simp only [Act.put, List.setIfInBounds_toArray, List.set_cons_zero, List.set_cons_succ, i64_w, i32_w]
    rfl
  refine done_ (by kernel_rfl) ?_
  go_wp2_with fail
  refine bodyPost_ret (results_tct rfl _ _ (W.heap.size + 1 + 1) 50 #[.slice A0 D.dur.length c0, .slice A1 D.pend.length c1, .int .i64 D.cnt, .bool D.failed] (0, 0) _ rfl ?_ Try.underlying50 rfl (by kernel_rfl)) rfl ?_
  · (with_reducible repeat (first | refine blk_drewN ?_ _ | refine blk_drew ?_ | refine blk_alloc ?_ _)); refine blk_put (cs := #[.slice A0 D.dur.length c0, .slice A1 D.pend.length c1, .int .i64 D.cnt, .bool false]) ?_ 3 _ rfl
    (with_reducible repeat (first | refine blk_drewN ?_ _ | refine blk_drew ?_ | refine blk_alloc ?_ _)); refine blk_put (cs := #[.slice A0 D.dur.length c0, .slice A1 D.pend.length c1, .int .i64 0, .bool false]) ?_ 2 _ rfl
    (with_reducible repeat (first | refine blk_drewN ?_ _ | refine blk_drew ?_ | refine blk_alloc ?_ _)); refine blk_put (cs := #[.slice A0 D.dur.length c0, .slice none 0 0, .int .i64 0, .bool false]) ?_ 1 _ rfl
    (with_reducible repeat (first | refine blk_drewN ?_ _ | refine blk_drew ?_ | refine blk_alloc ?_ _)); refine blk_put (cs := #[.slice none 0 0, .slice none 0 0, .int .i64 0, .bool false]) ?_ 0 _ rfl
    exact Q4.out
  · refine ⟨gc, _, rfl, ?_⟩
    rw [show stepD D x = D from by unfold stepD; rw [if_neg (by omega), if_neg (by omega), if_neg (by omega), if_neg (by omega)]]
    have hv5 := (HV5.out.mono (fun k hk => (.inl hk : New ok w5 w5 k)))
    rw [List.length_map] at hv5
    obtain ⟨Q', r1, r2, r3, r4⟩ := fin S5.out K5.out TB.out H.out.lt H.out.bel.size (Below.refl _ _) hv5 HKO.out (Below.refl _ _) (W.heap.size + 1 + 1) (by omega) (by have := US.out; omega) (.slice A0 D.dur.length c0) (.slice A1 D.pend.length c1) (.int .i64 D.cnt) (.bool D.failed)
    exact ⟨Q', r1, r2.drew, r3.below (below_drew (Below.refl _ _)), r4⟩
end Go.Proofs.Ytbbokpkpdnppjaa
