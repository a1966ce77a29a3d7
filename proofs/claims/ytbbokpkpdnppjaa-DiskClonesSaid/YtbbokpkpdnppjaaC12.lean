/- 'apply', kind by kind. -/
import Derived.Test.YtbbokpkpdnppjaaC11
namespace Go.Proofs.Ytbbokpkpdnppjaa
open Go.RowKit Go.Proofs.YtbbokpkpdnppjaaW.PrintWords Go.Proofs.YtbbokpkpdnppjaaW.PrintLast Go.Proofs.YtbbokpkpdnppjaaW.PrintMore
set_option linter.unusedVariables false
set_option linter.unusedSimpArgs false

set_option maxRecDepth 100000 in
set_option maxHeartbeats 8000000 in
theorem apply1_calls {w0 W : World} {Q : Nat → Prop} {R : List (Nat × Dk)} {g : Nat} {D : Dk} (h : Sts w0 W Q ((g, D) :: R)) (hok : D.Ok) {v : Value} {ok : Nat → Prop} (hv : RefV W ok v D) (hko : ∀ k, ok k → k < w0.heap.size ∨ Q k) (x : P.S44) {A3 A4 : Option Addr} {c3 c4 : Nat}
    (h3 : x.f3.length ≤ c3) (g3 : (Kd.int .u8).C w0 A3 x.f3.length x.f3) (h4 : x.f4.length ≤ c4) (g4 : (Kd.int .i64).C w0 A4 x.f4.length x.f4) (hl : x.f3.length ≤ 64) (hk : x.f0 = 1) :
    Calls Try.prog 31 #[.pointer (some ⟨g, 0, none⟩), v, .agg #[.int .i64 x.f0, .int .i64 x.f1, .int .i64 x.f2, .slice A3 x.f3.length c3, .slice A4 x.f4.length c4]] W fun e w' => ∃ g' v', e = .returned (.tuple #[.pointer (some ⟨g', 0, none⟩), v', .bool true]) ∧ ∃ Q', (∀ k, Q k → Q' k) ∧ Sts w0 w' Q' ((g', stepD D x) :: R) ∧ RefV w' (fun k => New ok W w' k ∧ (k < w0.heap.size ∨ Q' k)) v' (stepD D x) ∧ KeepP Q W w' := by
  have H := Aside0.mk h
  have HV := Aside0.mk hv
  have HKO := Aside0.mk hko
  obtain ⟨A0, c0, A1, c1, rfl, _, _⟩ := hv.form
  have HOK := Aside0.mk hok
  have G3 := Aside0.mk g3
  have G4 := Aside0.mk g4
  clear h hv hok hko g3 g4
  go_enter Try.func31, Try.ntmps31
  go_wp2_with fail
  obtain ⟨tb, t1, t2, t3, ts⟩ := three (W := W) (.cells #[.slice A0 D.dur.length c0, .slice A1 D.pend.length c1, .int .i64 D.cnt, .bool D.failed] 50) (.cells #[.int .i64 1, .int .i64 x.f1, .int .i64 x.f2, .slice A3 x.f3.length c3, .slice A4 x.f4.length c4] 44) (.cells #[.slice none 0 0, .slice none 0 0, .int .i64 0, .bool false] 50)
  generalize hW3 : ((W.alloc (.cells #[.slice A0 D.dur.length c0, .slice A1 D.pend.length c1, .int .i64 D.cnt, .bool D.failed] 50)).alloc (.cells #[.int .i64 1, .int .i64 x.f1, .int .i64 x.f2, .slice A3 x.f3.length c3, .slice A4 x.f4.length c4] 44)).alloc (.cells #[.slice none 0 0, .slice none 0 0, .int .i64 0, .bool false] 50) = W3 at tb t1 t2 t3 ts ⊢
  have S3 := Aside0.mk (H.out.fence tb)
  have TB := Aside0.mk tb
  refine (S3.out.sync 0 rfl HOK.out).mono ?_
  rintro e w4 ⟨rfl, hs, hkp⟩
  have S4 := Aside0.mk (show Sts w0 w4 _ ((g, D.sync.1) :: R) from hs)
  have K4 := Aside0.mk hkp
  have HV4 := Aside0.mk ((HV.out.below tb).over HKO.out S3.out S4.out hkp (fun k hk => .inl hk))
  have u1 := (hkp W.heap.size (.inr ⟨Nat.le_refl _, by omega⟩)).trans t1
  have u2 := (hkp (W.heap.size + 1) (.inr ⟨by omega, by omega⟩)).trans t2
  have u3 := (hkp (W.heap.size + 1 + 1) (.inr ⟨by omega, by omega⟩)).trans t3
  have U3 := Aside0.mk u3
  have US := Aside0.mk ts
  have z0 := (blk_cell u1 0).trans rfl
  have z1 := (blk_cell u1 1).trans rfl
  have z2 := (blk_cell u1 2).trans rfl
  have z3 := (blk_cell u1 3).trans rfl
  have y1 := (blk_cell u2 1).trans rfl
  have y2 := (blk_cell u2 2).trans rfl
  have y3 := (blk_cell u2 3).trans rfl
  have y4 := (blk_cell u2 4).trans rfl
  clear hs hkp u1 u2 u3 t1 t2 t3 ts tb
  go_wp2_with fail
  have HRP := ref_sync HV4.out HOK.out
  rw [List.length_map] at HRP
  refine HRP.mono ?_
  clear HRP
  rintro e w5 ⟨v5, rfl, hv, hb⟩
  obtain ⟨A5, c5, A6, c6, rfl, _, _⟩ := hv.form
  have HV5 := Aside0.mk hv
  have HB5 := Aside0.mk hb
  have u5 := (hb.block _ (blk_lt U3.out)).trans U3.out
  obtain ⟨q0, q1, q2, q3, q4⟩ := onto (.slice A5 D.sync.1.dur.length c5) (.slice A6 D.sync.1.pend.length c6) (.int .i64 D.sync.1.cnt) (.bool D.sync.1.failed) 50 (blk_lt u5)
  replace q4 := q4.trans u5
  have F0 := (blk_cell q4 0).trans rfl
  have F1 := (blk_cell q4 1).trans rfl
  have F2 := (blk_cell q4 2).trans rfl
  have F3 := (blk_cell q4 3).trans rfl
  have e0 := blk_frozen q4 0
  have e1 := blk_frozen q4 1
  have e2 := blk_frozen q4 2
  have e3 := blk_frozen q4 3
  have Q4 := Aside0.mk q4
  clear q4
  clear u5 hv hb
  go_wp2_with fail
  refine start_ (n := 8) (S := fun w' => w'.cell? ⟨w5.heap.size, 0, none⟩ = some (.slice A5 D.sync.1.dur.length c5) ∧ w'.cell? ⟨w5.heap.size, 1, none⟩ = some (.slice A6 D.sync.1.pend.length c6) ∧ w'.cell? ⟨w5.heap.size, 2, none⟩ = some (.int .i64 D.sync.1.cnt) ∧ w'.cell? ⟨w5.heap.size, 3, none⟩ = some (.bool D.sync.1.failed)) (ds := [6]) #[false, false, false, false, false, false, false, false] (by kernel_rfl) rfl rfl ⟨q0, q1, q2, q3⟩ (fun hHeld => ?_)
  refine pure_ (i := 0) (N := some 53) (v := ?_) (a' := ?_) #[true, false, false, false, false, false, false, false] rfl rfl (by kernel_rfl) (fun _ _ _ h => h) (Or.inl ⟨by rfl, ?_⟩) ?_ ?_
  rotate_left
  · intro w'
    go_simp
    with_reducible rfl
  rotate_left
  · simp only [Act.put, List.setIfInBounds_toArray, List.set_cons_zero, List.set_cons_succ, i64_w, i32_w]
    rfl
  refine take_ (i := 1) (N := some 54) (v := ?_) (a' := ?_) #[true, true, false, false, false, false, false, false] rfl rfl (by kernel_rfl) (fun _ _ _ h => h) (Or.inl ⟨by rfl, ?_⟩) hHeld ?_ ?_
  rotate_left
  · rintro w' ⟨s0, s1, s2, s3⟩
    go_simp
    with_reducible rfl
  rotate_left
  · simp only [Act.put, List.setIfInBounds_toArray, List.set_cons_zero, List.set_cons_succ, i64_w, i32_w]
    rfl
  refine pure_ (i := 2) (N := some 55) (v := ?_) (a' := ?_) #[true, true, true, false, false, false, false, false] rfl rfl (by kernel_rfl) (fun _ _ _ h => h) (Or.inl ⟨by rfl, ?_⟩) ?_ ?_
  rotate_left
  · intro w'
    go_simp
    with_reducible rfl
  rotate_left
  · simp only [Act.put, List.setIfInBounds_toArray, List.set_cons_zero, List.set_cons_succ, i64_w, i32_w]
    rfl
  refine pure_ (i := 3) (N := some 56) (v := ?_) (a' := ?_) #[true, true, true, true, false, false, false, false] rfl rfl (by kernel_rfl) (fun _ _ _ h => h) (Or.inl ⟨by rfl, ?_⟩) ?_ ?_
  rotate_left
  · intro w'
    go_simp
    with_reducible rfl
  rotate_left
  · simp only [Act.put, List.setIfInBounds_toArray, List.set_cons_zero, List.set_cons_succ, i64_w, i32_w]
    rfl
  refine pure_ (i := 4) (N := some 57) (v := ?_) (a' := ?_) #[true, true, true, true, true, false, false, false] rfl rfl (by kernel_rfl) (fun _ _ _ h => h) (Or.inl ⟨by rfl, ?_⟩) ?_ ?_
  rotate_left
  · intro w'
    go_simp
    with_reducible rfl
  rotate_left
  · simp only [Act.put, List.setIfInBounds_toArray, List.set_cons_zero, List.set_cons_succ, i64_w, i32_w]
    rfl
  refine pure_ (i := 5) (N := some 6) (v := ?_) (a' := ?_) #[true, true, true, true, true, true, false, false] rfl rfl (by kernel_rfl) (fun _ _ _ h => h) (Or.inl ⟨by rfl, ?_⟩) ?_ ?_
  rotate_left
  · intro w'
    go_simp
    with_reducible rfl
  rotate_left
  · simp only [Act.put, List.setIfInBounds_toArray, List.set_cons_zero, List.set_cons_succ, i64_w, i32_w]
    rfl
  refine last_ (i := 6) (N := none) #[true, true, true, true, true, true, true, false] rfl rfl (by kernel_rfl) (by decide) (fun K hK => ?_)
  refine skip_ (w1 := ?_) (by rfl) rfl ?_ ?_
  rotate_left
  · go_simp
    first | rfl | exact ⟨rfl, rfl⟩
  refine hK.out _ _ ?_
  clear hK K
  refine pure_ (i := 7) (N := some 8) (v := ?_) (a' := ?_) #[true, true, true, true, true, true, true, true] rfl rfl (by kernel_rfl) (fun _ _ _ h => h) (Or.inl ⟨by rfl, ?_⟩) ?_ ?_
  rotate_left
  · intro w'
    go_simp
    with_reducible rfl
  rotate_left
  · simp only [Act.put, List.setIfInBounds_toArray, List.set_cons_zero, List.set_cons_succ, i64_w, i32_w]
    rfl
  refine done_ (by kernel_rfl) ?_
  go_wp2_with fail
  refine bodyPost_ret (results_tct rfl _ _ (W.heap.size + 1 + 1) 50 #[.slice A5 D.sync.1.dur.length c5, .slice A6 D.sync.1.pend.length c6, .int .i64 D.sync.1.cnt, .bool D.sync.1.failed] (0, 0) _ rfl ?_ Try.underlying50 rfl (by kernel_rfl)) rfl ?_
  · (with_reducible repeat (first | refine blk_drewN ?_ _ | refine blk_drew ?_ | refine blk_alloc ?_ _)); refine blk_put (cs := #[.slice A5 D.sync.1.dur.length c5, .slice A6 D.sync.1.pend.length c6, .int .i64 D.sync.1.cnt, .bool false]) ?_ 3 _ rfl
    (with_reducible repeat (first | refine blk_drewN ?_ _ | refine blk_drew ?_ | refine blk_alloc ?_ _)); refine blk_put (cs := #[.slice A5 D.sync.1.dur.length c5, .slice A6 D.sync.1.pend.length c6, .int .i64 0, .bool false]) ?_ 2 _ rfl
    (with_reducible repeat (first | refine blk_drewN ?_ _ | refine blk_drew ?_ | refine blk_alloc ?_ _)); refine blk_put (cs := #[.slice A5 D.sync.1.dur.length c5, .slice none 0 0, .int .i64 0, .bool false]) ?_ 1 _ rfl
    (with_reducible repeat (first | refine blk_drewN ?_ _ | refine blk_drew ?_ | refine blk_alloc ?_ _)); refine blk_put (cs := #[.slice none 0 0, .slice none 0 0, .int .i64 0, .bool false]) ?_ 0 _ rfl
    exact Q4.out
  · refine ⟨g, _, rfl, ?_⟩
    rw [show stepD D x = D.sync.1 from by unfold stepD; rw [if_neg (by omega), if_pos hk]]
    have hv5 := HV5.out
    rw [List.length_map] at hv5
    obtain ⟨Q', r1, r2, r3, r4⟩ := fin S4.out K4.out TB.out H.out.lt H.out.bel.size HB5.out hv5 HKO.out (below_alloc (Below.refl _ _) (.cells #[.slice A5 D.sync.1.dur.length c5, .slice A6 D.sync.1.pend.length c6, .int .i64 D.sync.1.cnt, .bool D.sync.1.failed] 50)) (W.heap.size + 1 + 1) (by omega) (by have := US.out; omega) (.slice A5 D.sync.1.dur.length c5) (.slice A6 D.sync.1.pend.length c6) (.int .i64 D.sync.1.cnt) (.bool D.sync.1.failed)
    exact ⟨Q', r1, r2.drew, r3.below (below_drew (Below.refl _ _)), r4⟩
set_option maxRecDepth 100000 in
set_option maxHeartbeats 8000000 in
theorem apply3_calls {w0 W : World} {Q : Nat → Prop} {R : List (Nat × Dk)} {g : Nat} {D : Dk} (h : Sts w0 W Q ((g, D) :: R)) (hok : D.Ok) {v : Value} {ok : Nat → Prop} (hv : RefV W ok v D) (hko : ∀ k, ok k → k < w0.heap.size ∨ Q k) (x : P.S44) {A3 A4 : Option Addr} {c3 c4 : Nat}
    (h3 : x.f3.length ≤ c3) (g3 : (Kd.int .u8).C w0 A3 x.f3.length x.f3) (h4 : x.f4.length ≤ c4) (g4 : (Kd.int .i64).C w0 A4 x.f4.length x.f4) (hl : x.f3.length ≤ 64) (hk : x.f0 = 3) :
    Calls Try.prog 31 #[.pointer (some ⟨g, 0, none⟩), v, .agg #[.int .i64 x.f0, .int .i64 x.f1, .int .i64 x.f2, .slice A3 x.f3.length c3, .slice A4 x.f4.length c4]] W fun e w' => ∃ g' v', e = .returned (.tuple #[.pointer (some ⟨g', 0, none⟩), v', .bool true]) ∧ ∃ Q', (∀ k, Q k → Q' k) ∧ Sts w0 w' Q' ((g', stepD D x) :: R) ∧ RefV w' (fun k => New ok W w' k ∧ (k < w0.heap.size ∨ Q' k)) v' (stepD D x) ∧ KeepP Q W w' := by
  have H := Aside0.mk h
  have HV := Aside0.mk hv
  have HKO := Aside0.mk hko
  obtain ⟨A0, c0, A1, c1, rfl, _, _⟩ := hv.form
  have HOK := Aside0.mk hok
  have G3 := Aside0.mk g3
  have G4 := Aside0.mk g4
  clear h hv hok hko g3 g4
  go_enter Try.func31, Try.ntmps31
  go_wp2_with fail
  obtain ⟨tb, t1, t2, t3, ts⟩ := three (W := W) (.cells #[.slice A0 D.dur.length c0, .slice A1 D.pend.length c1, .int .i64 D.cnt, .bool D.failed] 50) (.cells #[.int .i64 3, .int .i64 x.f1, .int .i64 x.f2, .slice A3 x.f3.length c3, .slice A4 x.f4.length c4] 44) (.cells #[.slice none 0 0, .slice none 0 0, .int .i64 0, .bool false] 50)
  generalize hW3 : ((W.alloc (.cells #[.slice A0 D.dur.length c0, .slice A1 D.pend.length c1, .int .i64 D.cnt, .bool D.failed] 50)).alloc (.cells #[.int .i64 3, .int .i64 x.f1, .int .i64 x.f2, .slice A3 x.f3.length c3, .slice A4 x.f4.length c4] 44)).alloc (.cells #[.slice none 0 0, .slice none 0 0, .int .i64 0, .bool false] 50) = W3 at tb t1 t2 t3 ts ⊢
  have S3 := Aside0.mk (H.out.fence tb)
  have TB := Aside0.mk tb
  refine (S3.out.crash_arg 0 rfl HOK.out A4 c4 x.f4 G4.out).mono ?_
  rintro e w4 ⟨rfl, hs, hkp⟩
  have S4 := Aside0.mk (show Sts w0 w4 _ ((g, (D.crashed x.f4)) :: R) from hs)
  have K4 := Aside0.mk hkp
  have HV4 := Aside0.mk ((HV.out.below tb).over HKO.out S3.out S4.out hkp (fun k hk => .inl hk))
  have u1 := (hkp W.heap.size (.inr ⟨Nat.le_refl _, by omega⟩)).trans t1
  have u2 := (hkp (W.heap.size + 1) (.inr ⟨by omega, by omega⟩)).trans t2
  have u3 := (hkp (W.heap.size + 1 + 1) (.inr ⟨by omega, by omega⟩)).trans t3
  have U3 := Aside0.mk u3
  have US := Aside0.mk ts
  have z0 := (blk_cell u1 0).trans rfl
  have z1 := (blk_cell u1 1).trans rfl
  have z2 := (blk_cell u1 2).trans rfl
  have z3 := (blk_cell u1 3).trans rfl
  have y1 := (blk_cell u2 1).trans rfl
  have y2 := (blk_cell u2 2).trans rfl
  have y3 := (blk_cell u2 3).trans rfl
  have y4 := (blk_cell u2 4).trans rfl
  clear hs hkp u1 u2 u3 t1 t2 t3 ts tb
  go_wp2_with fail
  have HRP := ref_crash HV4.out HOK.out A4 c4 x.f4 (Kd.C_below G4.out S4.out.bel) h4
  rw [List.length_map] at HRP
  refine HRP.mono ?_
  clear HRP
  rintro e w5 ⟨v5, rfl, hv, hb⟩
  obtain ⟨A5, c5, A6, c6, rfl, _, _⟩ := hv.form
  have HV5 := Aside0.mk hv
  have HB5 := Aside0.mk hb
  have u5 := (hb.block _ (blk_lt U3.out)).trans U3.out
  have q4 := u5
  have F0 := (blk_cell q4 0).trans rfl
  have F1 := (blk_cell q4 1).trans rfl
  have F2 := (blk_cell q4 2).trans rfl
  have F3 := (blk_cell q4 3).trans rfl
  have e0 := blk_frozen q4 0
  have e1 := blk_frozen q4 1
  have e2 := blk_frozen q4 2
  have e3 := blk_frozen q4 3
  have Q4 := Aside0.mk q4
  clear q4
  clear u5 hv hb
  go_wp2_with fail
  refine bodyPost_ret (results_tct rfl _ _ (W.heap.size + 1 + 1) 50 #[.slice A5 (D.crashed x.f4).dur.length c5, .slice A6 (D.crashed x.f4).pend.length c6, .int .i64 (D.crashed x.f4).cnt, .bool (D.crashed x.f4).failed] (0, 0) _ rfl ?_ Try.underlying50 rfl (by kernel_rfl)) rfl ?_
  · (with_reducible repeat (first | refine blk_drewN ?_ _ | refine blk_drew ?_ | refine blk_alloc ?_ _)); refine blk_put (cs := #[.slice A5 (D.crashed x.f4).dur.length c5, .slice A6 (D.crashed x.f4).pend.length c6, .int .i64 (D.crashed x.f4).cnt, .bool false]) ?_ 3 _ rfl
    (with_reducible repeat (first | refine blk_drewN ?_ _ | refine blk_drew ?_ | refine blk_alloc ?_ _)); refine blk_put (cs := #[.slice A5 (D.crashed x.f4).dur.length c5, .slice A6 (D.crashed x.f4).pend.length c6, .int .i64 0, .bool false]) ?_ 2 _ rfl
    (with_reducible repeat (first | refine blk_drewN ?_ _ | refine blk_drew ?_ | refine blk_alloc ?_ _)); refine blk_put (cs := #[.slice A5 (D.crashed x.f4).dur.length c5, .slice none 0 0, .int .i64 0, .bool false]) ?_ 1 _ rfl
    (with_reducible repeat (first | refine blk_drewN ?_ _ | refine blk_drew ?_ | refine blk_alloc ?_ _)); refine blk_put (cs := #[.slice none 0 0, .slice none 0 0, .int .i64 0, .bool false]) ?_ 0 _ rfl
    exact Q4.out
  · refine ⟨g, _, rfl, ?_⟩
    rw [show stepD D x = (D.crashed x.f4) from by unfold stepD; rw [if_neg (by omega), if_neg (by omega), if_pos hk]]
    have hv5 := HV5.out
    rw [List.length_map] at hv5
    obtain ⟨Q', r1, r2, r3, r4⟩ := fin S4.out K4.out TB.out H.out.lt H.out.bel.size HB5.out hv5 HKO.out (Below.refl _ _) (W.heap.size + 1 + 1) (by omega) (by have := US.out; omega) (.slice A5 (D.crashed x.f4).dur.length c5) (.slice A6 (D.crashed x.f4).pend.length c6) (.int .i64 (D.crashed x.f4).cnt) (.bool (D.crashed x.f4).failed)
    exact ⟨Q', r1, r2, r3, r4⟩
set_option maxRecDepth 100000 in
set_option maxHeartbeats 8000000 in
theorem apply4_calls {w0 W : World} {Q : Nat → Prop} {R : List (Nat × Dk)} {g : Nat} {D : Dk} (h : Sts w0 W Q ((g, D) :: R)) (hok : D.Ok) {v : Value} {ok : Nat → Prop} (hv : RefV W ok v D) (hko : ∀ k, ok k → k < w0.heap.size ∨ Q k) (x : P.S44) {A3 A4 : Option Addr} {c3 c4 : Nat}
    (h3 : x.f3.length ≤ c3) (g3 : (Kd.int .u8).C w0 A3 x.f3.length x.f3) (h4 : x.f4.length ≤ c4) (g4 : (Kd.int .i64).C w0 A4 x.f4.length x.f4) (hl : x.f3.length ≤ 64) (hk : x.f0 = 4) :
    Calls Try.prog 31 #[.pointer (some ⟨g, 0, none⟩), v, .agg #[.int .i64 x.f0, .int .i64 x.f1, .int .i64 x.f2, .slice A3 x.f3.length c3, .slice A4 x.f4.length c4]] W fun e w' => ∃ g' v', e = .returned (.tuple #[.pointer (some ⟨g', 0, none⟩), v', .bool true]) ∧ ∃ Q', (∀ k, Q k → Q' k) ∧ Sts w0 w' Q' ((g', stepD D x) :: R) ∧ RefV w' (fun k => New ok W w' k ∧ (k < w0.heap.size ∨ Q' k)) v' (stepD D x) ∧ KeepP Q W w' := by
  have H := Aside0.mk h
  have HV := Aside0.mk hv
  have HKO := Aside0.mk hko
  obtain ⟨A0, c0, A1, c1, rfl, _, _⟩ := hv.form
  have HOK := Aside0.mk hok
  have G3 := Aside0.mk g3
  have G4 := Aside0.mk g4
  clear h hv hok hko g3 g4
  go_enter Try.func31, Try.ntmps31
  go_wp2_with fail
  obtain ⟨tb, t1, t2, t3, ts⟩ := three (W := W) (.cells #[.slice A0 D.dur.length c0, .slice A1 D.pend.length c1, .int .i64 D.cnt, .bool D.failed] 50) (.cells #[.int .i64 4, .int .i64 x.f1, .int .i64 x.f2, .slice A3 x.f3.length c3, .slice A4 x.f4.length c4] 44) (.cells #[.slice none 0 0, .slice none 0 0, .int .i64 0, .bool false] 50)
  generalize hW3 : ((W.alloc (.cells #[.slice A0 D.dur.length c0, .slice A1 D.pend.length c1, .int .i64 D.cnt, .bool D.failed] 50)).alloc (.cells #[.int .i64 4, .int .i64 x.f1, .int .i64 x.f2, .slice A3 x.f3.length c3, .slice A4 x.f4.length c4] 44)).alloc (.cells #[.slice none 0 0, .slice none 0 0, .int .i64 0, .bool false] 50) = W3 at tb t1 t2 t3 ts ⊢
  have S3 := Aside0.mk (H.out.fence tb)
  have TB := Aside0.mk tb
  refine (S3.out.failAfter 0 rfl x.f2).mono ?_
  rintro e w4 ⟨rfl, hs, hkp⟩
  have S4 := Aside0.mk (show Sts w0 w4 _ ((g, (D.after x.f2)) :: R) from hs)
  have K4 := Aside0.mk hkp
  have HV4 := Aside0.mk ((HV.out.below tb).over HKO.out S3.out S4.out hkp (fun k hk => .inl hk))
  have u1 := (hkp W.heap.size (.inr ⟨Nat.le_refl _, by omega⟩)).trans t1
  have u2 := (hkp (W.heap.size + 1) (.inr ⟨by omega, by omega⟩)).trans t2
  have u3 := (hkp (W.heap.size + 1 + 1) (.inr ⟨by omega, by omega⟩)).trans t3
  have U3 := Aside0.mk u3
  have US := Aside0.mk ts
  have z0 := (blk_cell u1 0).trans rfl
  have z1 := (blk_cell u1 1).trans rfl
  have z2 := (blk_cell u1 2).trans rfl
  have z3 := (blk_cell u1 3).trans rfl
  have y1 := (blk_cell u2 1).trans rfl
  have y2 := (blk_cell u2 2).trans rfl
  have y3 := (blk_cell u2 3).trans rfl
  have y4 := (blk_cell u2 4).trans rfl
  clear hs hkp u1 u2 u3 t1 t2 t3 ts tb
  go_wp2_with fail
  have HRP := ref_failAfter HV4.out x.f2
  rw [List.length_map] at HRP
  refine HRP.mono ?_
  clear HRP
  rintro e w5 ⟨v5, rfl, hv, hb⟩
  obtain ⟨A5, c5, A6, c6, rfl, _, _⟩ := hv.form
  have HV5 := Aside0.mk hv
  have HB5 := Aside0.mk hb
  have u5 := (hb.block _ (blk_lt U3.out)).trans U3.out
  have q4 := u5
  have F0 := (blk_cell q4 0).trans rfl
  have F1 := (blk_cell q4 1).trans rfl
  have F2 := (blk_cell q4 2).trans rfl
  have F3 := (blk_cell q4 3).trans rfl
  have e0 := blk_frozen q4 0
  have e1 := blk_frozen q4 1
  have e2 := blk_frozen q4 2
  have e3 := blk_frozen q4 3
  have Q4 := Aside0.mk q4
  clear q4
  clear u5 hv hb
  go_wp2_with fail
  refine bodyPost_ret (results_tct rfl _ _ (W.heap.size + 1 + 1) 50 #[.slice A5 (D.after x.f2).dur.length c5, .slice A6 (D.after x.f2).pend.length c6, .int .i64 (D.after x.f2).cnt, .bool (D.after x.f2).failed] (0, 0) _ rfl ?_ Try.underlying50 rfl (by kernel_rfl)) rfl ?_
  · (with_reducible repeat (first | refine blk_drewN ?_ _ | refine blk_drew ?_ | refine blk_alloc ?_ _)); refine blk_put (cs := #[.slice A5 (D.after x.f2).dur.length c5, .slice A6 (D.after x.f2).pend.length c6, .int .i64 (D.after x.f2).cnt, .bool false]) ?_ 3 _ rfl
    (with_reducible repeat (first | refine blk_drewN ?_ _ | refine blk_drew ?_ | refine blk_alloc ?_ _)); refine blk_put (cs := #[.slice A5 (D.after x.f2).dur.length c5, .slice A6 (D.after x.f2).pend.length c6, .int .i64 0, .bool false]) ?_ 2 _ rfl
    (with_reducible repeat (first | refine blk_drewN ?_ _ | refine blk_drew ?_ | refine blk_alloc ?_ _)); refine blk_put (cs := #[.slice A5 (D.after x.f2).dur.length c5, .slice none 0 0, .int .i64 0, .bool false]) ?_ 1 _ rfl
    (with_reducible repeat (first | refine blk_drewN ?_ _ | refine blk_drew ?_ | refine blk_alloc ?_ _)); refine blk_put (cs := #[.slice none 0 0, .slice none 0 0, .int .i64 0, .bool false]) ?_ 0 _ rfl
    exact Q4.out
  · refine ⟨g, _, rfl, ?_⟩
    rw [show stepD D x = (D.after x.f2) from by unfold stepD; rw [if_neg (by omega), if_neg (by omega), if_neg (by omega), if_pos hk]]
    have hv5 := HV5.out
    rw [List.length_map] at hv5
    obtain ⟨Q', r1, r2, r3, r4⟩ := fin S4.out K4.out TB.out H.out.lt H.out.bel.size HB5.out hv5 HKO.out (Below.refl _ _) (W.heap.size + 1 + 1) (by omega) (by have := US.out; omega) (.slice A5 (D.after x.f2).dur.length c5) (.slice A6 (D.after x.f2).pend.length c6) (.int .i64 (D.after x.f2).cnt) (.bool (D.after x.f2).failed)
    exact ⟨Q', r1, r2, r3, r4⟩
end Go.Proofs.Ytbbokpkpdnppjaa
