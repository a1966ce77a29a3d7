/- 'apply': a read. -/
import Derived.Test.YtbbokpkpdnppjaaC13
namespace Go.Proofs.Ytbbokpkpdnppjaa
open Go.RowKit Go.Proofs.YtbbokpkpdnppjaaW.PrintWords Go.Proofs.YtbbokpkpdnppjaaW.PrintLast Go.Proofs.YtbbokpkpdnppjaaW.PrintMore
set_option linter.unusedVariables false
set_option linter.unusedSimpArgs false

set_option maxRecDepth 100000 in
set_option maxHeartbeats 8000000 in
theorem apply2_calls {w0 W : World} {Q : Nat → Prop} {R : List (Nat × Dk)} {g : Nat} {D : Dk} (h : Sts w0 W Q ((g, D) :: R)) (hok : D.Ok) {v : Value} {ok : Nat → Prop} (hv : RefV W ok v D) (hko : ∀ k, ok k → k < w0.heap.size ∨ Q k) (x : P.S44) {A3 A4 : Option Addr} {c3 c4 : Nat}
    (h3 : x.f3.length ≤ c3) (g3 : (Kd.int .u8).C w0 A3 x.f3.length x.f3) (h4 : x.f4.length ≤ c4) (g4 : (Kd.int .i64).C w0 A4 x.f4.length x.f4) (hl : x.f3.length ≤ 64) (hk : x.f0 = 2) :
    Calls Try.prog 31 #[.pointer (some ⟨g, 0, none⟩), v, .agg #[.int .i64 x.f0, .int .i64 x.f1, .int .i64 x.f2, .slice A3 x.f3.length c3, .slice A4 x.f4.length c4]] W fun e w' => ∃ g' v', e = .returned (.tuple #[.pointer (some ⟨g', 0, none⟩), v', .bool true]) ∧ ∃ Q', (∀ k, Q k → Q' k) ∧ Sts w0 w' Q' ((g', stepD D x) :: R) ∧ RefV w' (fun k => New ok W w' k ∧ (k < w0.heap.size ∨ Q' k)) v' (stepD D x) ∧ KeepP Q W w' := by
  have H := Aside0.mk h
  have HV := Aside0.mk hv
  have HKO := Aside0.mk hko
  obtain ⟨A0, c0, A1, c1, rfl, _, _⟩ := hv.form
  have HOK := Aside0.mk hok
  have G3 := Aside0.mk g3
  have G4 := Aside0.mk g4
  clear h hv hok hko g3 g4
  go_enter Try.func31, Try.ntmps31
  go_wp2_with fail
  obtain ⟨tb, t1, t2, t3, ts⟩ := three (W := W) (.cells #[.slice A0 D.dur.length c0, .slice A1 D.pend.length c1, .int .i64 D.cnt, .bool D.failed] 50) (.cells #[.int .i64 2, .int .i64 x.f1, .int .i64 x.f2, .slice A3 x.f3.length c3, .slice A4 x.f4.length c4] 44) (.cells #[.slice none 0 0, .slice none 0 0, .int .i64 0, .bool false] 50)
  generalize hW3 : ((W.alloc (.cells #[.slice A0 D.dur.length c0, .slice A1 D.pend.length c1, .int .i64 D.cnt, .bool D.failed] 50)).alloc (.cells #[.int .i64 2, .int .i64 x.f1, .int .i64 x.f2, .slice A3 x.f3.length c3, .slice A4 x.f4.length c4] 44)).alloc (.cells #[.slice none 0 0, .slice none 0 0, .int .i64 0, .bool false] 50) = W3 at tb t1 t2 t3 ts ⊢
  have S3 := Aside0.mk (H.out.fence tb)
  have TB := Aside0.mk tb
  refine (S3.out.read 0 rfl HOK.out x.f1 x.f2).mono ?_
  rintro e w4 ⟨v4, rfl, hR, hB⟩
  obtain ⟨A7, c7, rfl, hc7, hC7⟩ := Kd.R_reads hR
  have HC7 := Aside0.mk hC7
  have HB4 := Aside0.mk hB
  have US := Aside0.mk ts
  have u1 := (hB.block W.heap.size (by omega)).trans t1
  have u2 := (hB.block (W.heap.size + 1) (by omega)).trans t2
  have u3 := (hB.block (W.heap.size + 1 + 1) (by omega)).trans t3
  have U1 := Aside0.mk u1
  have U3 := Aside0.mk u3
  have HV4 := Aside0.mk ((HV.out.below tb).below hB)
  have z0 := (blk_cell u1 0).trans rfl
  have z1 := (blk_cell u1 1).trans rfl
  have z2 := (blk_cell u1 2).trans rfl
  have z3 := (blk_cell u1 3).trans rfl
  have y1 := (blk_cell u2 1).trans rfl
  have y2 := (blk_cell u2 2).trans rfl
  have y3 := (blk_cell u2 3).trans rfl
  have y4 := (blk_cell u2 4).trans rfl
  clear u1 u2 u3 t1 t2 t3 ts tb hR hB hC7
  go_wp2_with fail
  have HRR := ref_read HV4.out HOK.out x.f1 x.f2
  rw [List.length_map] at HRR
  refine HRR.mono ?_
  clear HRR
  rintro e w5 ⟨A8, c8, rfl, hc8, hC8, hb⟩
  have HC7' := Aside0.mk (Kd.C_below HC7.out hb)
  have HC8 := Aside0.mk hC8
  have HB5 := Aside0.mk (below_step HB4.out hb)
  have HV5 := Aside0.mk (HV4.out.below hb)
  have v1 := (hb.block _ (blk_lt U1.out)).trans U1.out
  have v3 := (hb.block _ (blk_lt U3.out)).trans U3.out
  have V1 := Aside0.mk v1
  have V3 := Aside0.mk v3
  clear z0 z1 z2 z3
  have z0 := (blk_cell v1 0).trans rfl
  have z1 := (blk_cell v1 1).trans rfl
  have z2 := (blk_cell v1 2).trans rfl
  have z3 := (blk_cell v1 3).trans rfl
  clear v1 v3 hb hC8
  go_wp2_with fail
  refine start_ (n := 13) (S := fun w' => w'.cell? ⟨W.heap.size, 0, none⟩ = some (.slice A0 D.dur.length c0) ∧ w'.cell? ⟨W.heap.size, 1, none⟩ = some (.slice A1 D.pend.length c1) ∧ w'.cell? ⟨W.heap.size, 2, none⟩ = some (.int .i64 D.cnt) ∧ w'.cell? ⟨W.heap.size, 3, none⟩ = some (.bool D.failed)) (ds := [11]) #[false, false, false, false, false, false, false, false, false, false, false, false, false] (by kernel_rfl) rfl rfl ⟨z0, z1, z2, z3⟩ (fun hHeld => ?_)
  refine pure_ (i := 0) (N := some 78) (v := ?_) (a' := ?_) #[true, false, false, false, false, false, false, false, false, false, false, false, false] rfl rfl (by kernel_rfl) (fun _ _ _ h => h) (Or.inl ⟨by rfl, ?_⟩) ?_ ?_
  rotate_left
  · intro w'
    go_simp
    with_reducible rfl
  rotate_left
  · simp only [Act.put, List.setIfInBounds_toArray, List.set_cons_zero, List.set_cons_succ, i64_w, i32_w]
    rfl
  refine take_ (i := 1) (N := some 79) (v := ?_) (a' := ?_) #[true, true, false, false, false, false, false, false, false, false, false, false, false] rfl rfl (by kernel_rfl) (fun _ _ _ h => h) (Or.inl ⟨by rfl, ?_⟩) hHeld ?_ ?_
  rotate_left
  · rintro w' ⟨s0, s1, s2, s3⟩
    go_simp
    with_reducible rfl
  rotate_left
  · simp only [Act.put, List.setIfInBounds_toArray, List.set_cons_zero, List.set_cons_succ, i64_w, i32_w]
    rfl
  refine pure_ (i := 2) (N := some 80) (v := ?_) (a' := ?_) #[true, true, true, false, false, false, false, false, false, false, false, false, false] rfl rfl (by kernel_rfl) (fun _ _ _ h => h) (Or.inl ⟨by rfl, ?_⟩) ?_ ?_
  rotate_left
  · intro w'
    go_simp
    with_reducible rfl
  rotate_left
  · simp only [Act.put, List.setIfInBounds_toArray, List.set_cons_zero, List.set_cons_succ, i64_w, i32_w]
    rfl
  refine pure_ (i := 3) (N := some 81) (v := ?_) (a' := ?_) #[true, true, true, true, false, false, false, false, false, false, false, false, false] rfl rfl (by kernel_rfl) (fun _ _ _ h => h) (Or.inl ⟨by rfl, ?_⟩) ?_ ?_
  rotate_left
  · intro w'
    go_simp
    with_reducible rfl
  rotate_left
  · simp only [Act.put, List.setIfInBounds_toArray, List.set_cons_zero, List.set_cons_succ, i64_w, i32_w]
    rfl
  refine pure_ (i := 4) (N := some 82) (v := ?_) (a' := ?_) #[true, true, true, true, true, false, false, false, false, false, false, false, false] rfl rfl (by kernel_rfl) (fun _ _ _ h => h) (Or.inl ⟨by rfl, ?_⟩) ?_ ?_
  rotate_left
  · intro w'
    go_simp
    with_reducible rfl
  rotate_left
  · simp only [Act.put, List.setIfInBounds_toArray, List.set_cons_zero, List.set_cons_succ, i64_w, i32_w]
    rfl
  refine pure_ (i := 5) (N := some 83) (v := ?_) (a' := ?_) #[true, true, true, true, true, true, false, false, false, false, false, false, false] rfl rfl (by kernel_rfl) (fun _ _ _ h => h) (Or.inl ⟨by rfl, ?_⟩) ?_ ?_
  rotate_left
  · intro w'
    go_simp
    with_reducible rfl
  rotate_left
  · simp only [Act.put, List.setIfInBounds_toArray, List.set_cons_zero, List.set_cons_succ, i64_w, i32_w]
    rfl
  refine pure_ (i := 6) (N := some 84) (v := ?_) (a' := ?_) #[true, true, true, true, true, true, true, false, false, false, false, false, false] rfl rfl (by kernel_rfl) (fun _ _ _ h => h) (Or.inl ⟨by rfl, ?_⟩) ?_ ?_
  rotate_left
  · intro w'
    go_simp
    with_reducible rfl
  rotate_left
  · simp only [Act.put, List.setIfInBounds_toArray, List.set_cons_zero, List.set_cons_succ, i64_w, i32_w]
    rfl
  refine pure_ (i := 7) (N := some 85) (v := ?_) (a' := ?_) #[true, true, true, true, true, true, true, true, false, false, false, false, false] rfl rfl (by kernel_rfl) (fun _ _ _ h => h) (Or.inl ⟨by rfl, ?_⟩) ?_ ?_
  rotate_left
  · intro w'
    go_simp
    with_reducible rfl
  rotate_left
  · simp only [Act.put, List.setIfInBounds_toArray, List.set_cons_zero, List.set_cons_succ, i64_w, i32_w]
    rfl
  refine one_ (i := 8) (N := some 86) #[true, true, true, true, true, true, true, true, true, false, false, false, false] rfl rfl (by kernel_rfl) (by decide) (fun K hK => ?_)
  refine goes_ Try.func23 (by kernel_rfl) rfl #[.slice A7 (D.read x.f1 x.f2).1.length c7, .slice A8 (D.read x.f1 x.f2).1.length c8] (by rfl) rfl rfl (by (try simp only [List.map_toArray, List.map_cons, List.map_nil]); first | done | rfl) ?_
  refine (Same_calls A7 c7 A8 c8 (D.read x.f1 x.f2).1 _ (Kd.C_drewN HC7'.out _) hc7 (Kd.C_drewN HC8.out _) hc8).mono ?_
  rintro e w6 ⟨rfl, hb6⟩
  refine ⟨_, rfl, ?_⟩
  have HB6 := Aside0.mk (show Below w5.heap.size w5 w6 from ⟨hb6.os, hb6.tape, hb6.output, hb6.size, hb6.block⟩)
  have x1 := (HB6.out.block _ (blk_lt V1.out)).trans V1.out
  have x3 := (HB6.out.block _ (blk_lt V3.out)).trans V3.out
  have Q4 := Aside0.mk x3
  have s0 := (blk_cell x1 0).trans rfl
  have s1 := (blk_cell x1 1).trans rfl
  have s2 := (blk_cell x1 2).trans rfl
  have s3 := (blk_cell x1 3).trans rfl
  have F0 := (blk_cell x3 0).trans rfl
  have F1 := (blk_cell x3 1).trans rfl
  have F2 := (blk_cell x3 2).trans rfl
  have F3 := (blk_cell x3 3).trans rfl
  have e0 := blk_frozen x3 0
  have e1 := blk_frozen x3 1
  have e2 := blk_frozen x3 2
  have e3 := blk_frozen x3 3
  clear x1 x3 hb6
  refine hK.out _ _ ⟨s0, s1, s2, s3⟩ (fun hHeld => ?_)
  clear hK K
  refine norm_ (a' := ?_) ?_ ?_
  rotate_left
  · show Act.put _ (some 86) _ = _
    simp only [Act.put, List.setIfInBounds_toArray, List.set_cons_zero, List.set_cons_succ, i64_w, i32_w]
    rfl
  refine pure_ (i := 9) (N := some 87) (v := ?_) (a' := ?_) #[true, true, true, true, true, true, true, true, true, true, false, false, false] rfl rfl (by kernel_rfl) (fun _ _ _ h => h) (Or.inl ⟨by rfl, ?_⟩) ?_ ?_
  rotate_left
  · intro w'
    go_simp
    with_reducible rfl
  rotate_left
  · simp only [Act.put, List.setIfInBounds_toArray, List.set_cons_zero, List.set_cons_succ, i64_w, i32_w]
    rfl
  refine pure_ (i := 10) (N := some 6) (v := ?_) (a' := ?_) #[true, true, true, true, true, true, true, true, true, true, true, false, false] rfl rfl (by kernel_rfl) (fun _ _ _ h => h) (Or.inl ⟨by rfl, ?_⟩) ?_ ?_
  rotate_left
  · intro w'
    go_simp
    with_reducible rfl
  rotate_left
  · simp only [Act.put, List.setIfInBounds_toArray, List.set_cons_zero, List.set_cons_succ, i64_w, i32_w]
    rfl
  refine last_ (i := 11) (N := none) #[true, true, true, true, true, true, true, true, true, true, true, true, false] rfl rfl (by kernel_rfl) (by decide) (fun K hK => ?_)
  refine skip_ (w1 := ?_) (by rfl) rfl ?_ ?_
  rotate_left
  · go_simp
    first | rfl | exact ⟨rfl, rfl⟩
  refine hK.out _ _ ?_
  clear hK K
  refine pure_ (i := 12) (N := some 8) (v := ?_) (a' := ?_) #[true, true, true, true, true, true, true, true, true, true, true, true, true] rfl rfl (by kernel_rfl) (fun _ _ _ h => h) (Or.inl ⟨by rfl, ?_⟩) ?_ ?_
  rotate_left
  · intro w'
    go_simp
    with_reducible rfl
  rotate_left
  · simp only [Act.put, List.setIfInBounds_toArray, List.set_cons_zero, List.set_cons_succ, i64_w, i32_w]
    rfl
  refine done_ (by kernel_rfl) ?_
  go_wp2_with fail
  refine bodyPost_ret (results_tct rfl _ _ (W.heap.size + 1 + 1) 50 #[.slice A0 D.dur.length c0, .slice A1 D.pend.length c1, .int .i64 D.cnt, .bool D.failed] (0, 0) _ rfl ?_ Try.underlying50 rfl (by kernel_rfl)) rfl ?_
  · (with_reducible repeat (first | refine blk_drewN ?_ _ | refine blk_drew ?_ | refine blk_alloc ?_ _)); refine blk_put (cs := #[.slice A0 D.dur.length c0, .slice A1 D.pend.length c1, .int .i64 D.cnt, .bool false]) ?_ 3 _ rfl
    (with_reducible repeat (first | refine blk_drewN ?_ _ | refine blk_drew ?_ | refine blk_alloc ?_ _)); refine blk_put (cs := #[.slice A0 D.dur.length c0, .slice A1 D.pend.length c1, .int .i64 0, .bool false]) ?_ 2 _ rfl
    (with_reducible repeat (first | refine blk_drewN ?_ _ | refine blk_drew ?_ | refine blk_alloc ?_ _)); refine blk_put (cs := #[.slice A0 D.dur.length c0, .slice none 0 0, .int .i64 0, .bool false]) ?_ 1 _ rfl
    (with_reducible repeat (first | refine blk_drewN ?_ _ | refine blk_drew ?_ | refine blk_alloc ?_ _)); refine blk_put (cs := #[.slice none 0 0, .slice none 0 0, .int .i64 0, .bool false]) ?_ 0 _ rfl
    exact Q4.out
  · refine ⟨g, _, rfl, ?_⟩
    rw [show stepD D x = D from by unfold stepD; rw [if_neg (by omega), if_neg (by omega), if_neg (by omega), if_neg (by omega)]]
    have hv5 := ((HV5.out.below HB6.out).mono (fun k hk => (.inl hk : New ok W3 w6 k)))
    rw [List.length_map] at hv5
    obtain ⟨Q', r1, r2, r3, r4⟩ := fin S3.out (KeepP.refl _ _) TB.out H.out.lt H.out.bel.size (below_step HB5.out HB6.out) hv5 HKO.out (Below.refl _ _) (W.heap.size + 1 + 1) (by omega) (by have := US.out; omega) (.slice A0 D.dur.length c0) (.slice A1 D.pend.length c1) (.int .i64 D.cnt) (.bool D.failed)
    exact ⟨Q', r1, r2, r3, r4⟩
end Go.Proofs.Ytbbokpkpdnppjaa
