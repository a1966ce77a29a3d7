/- The disk's Crash. -/
import Derived.Test.YtbbokpkpdnppjaaA5
namespace Go.Proofs.Ytbbokpkpdnppjaa
open Go.RowKit Go.Proofs.YtbbokpkpdnppjaaW.PrintWords Go.Proofs.YtbbokpkpdnppjaaW.PrintLast Go.Proofs.YtbbokpkpdnppjaaW.PrintMore
attribute [local go_sem] max2_int min2_int max_two min_two
set_option linter.unusedVariables false
set_option linter.unusedSimpArgs false

def tear (d : List Int) (p : Wr × Int) : List Int := putAt d p.1.at_.toNat (p.1.data.take (surv p.2 p.1.data))
def tearAll (dur : List Int) (l : List (Wr × Int)) : List Int := l.foldl tear dur
theorem surv_le (n : Int) (l : List Int) : surv n l ≤ l.length := by unfold surv; omega
theorem tear_length (d : List Int) (p : Wr × Int) (h : 0 ≤ p.1.at_ ∧ p.1.at_ + p.1.data.length ≤ d.length) : (tear d p).length = d.length :=
  putAt_length _ _ _ (by rw [List.length_take]; omega)
theorem tearAll_length (l : List (Wr × Int)) : ∀ (dur : List Int), (∀ x ∈ l, 0 ≤ x.1.at_ ∧ x.1.at_ + x.1.data.length ≤ dur.length) → (tearAll dur l).length = dur.length := by
  induction l with
  | nil => intro dur _; rfl
  | cons x l ih =>
    intro dur h
    have e := tear_length dur x (h x (by simp))
    show (tearAll (tear dur x) l).length = _
    rw [ih _ (fun y hy => by rw [e]; exact h y (by simp [hy])), e]
def Dk.crashed (D : Dk) (ss : List Int) : Dk := { dur := tearAll D.dur (D.pend.zip ss), pend := [], cnt := -1, failed := false }

section
variable {w : World} {base : Nat} {pr sh : Nat → Prop} {g : Nat} {v0 v1 : Value} {D : Dk}

set_option maxRecDepth 100000 in
set_option maxHeartbeats 2000000 in
theorem Crash_calls (A : Option Addr) (c : Nat) (ss : List Int) (h : IsDisk w base pr sh g D) (hok : D.Ok) (hS : Kd.C (Kd.int .i64) w A ss.length ss) (hA : ∀ a, A = some a → 0 < ss.length → ¬ pr a.block) :
    Calls Try.prog 22 #[.pointer (some ⟨g, 0, none⟩), .slice A ss.length c] w fun e w' => e = .returned (.tuple #[]) ∧ Left w base pr sh g (D.crashed ss) w' := by
  obtain ⟨v0, v1, h⟩ := h
  obtain ⟨c0, c1, c2, c3, f0, f1, f2, f3⟩ := h.cells
  obtain ⟨A1, cp1, rfl, hcp1⟩ := h.v1_form
  have H := Aside0.mk h
  have HOK := Aside0.mk hok
  have HS := Aside0.mk hS
  have HA := Aside0.mk hA
  have hn := hok.few
  have hsm : ss.length ≤ 9223372036854775807 := hS.2.1
  clear h hok c0 c2 c3 f0 f2 f3 hS hA
  go_enter Try.func22, Try.ntmps22
  go_wp2
  go_loopw [11] (fun i wr => ∃ k : Nat, k ≤ D.pend.length ∧ i = .int .i64 (k : Int) ∧ Aside0 (DiskIs wr base pr sh g v0 (.slice A1 D.pend.length cp1) { D with dur := tearAll D.dur ((D.pend.zip ss).take k) }) ∧ Aside0 (Kp pr w wr)) (fun i _ => D.pend.length - (intOf i).toNat)
  case atStart => exact ⟨0, Nat.zero_le _, rfl, ⟨by simpa [tearAll] using H.out⟩, ⟨Kp.refl _ _⟩⟩
  case round =>
    obtain ⟨k, hk, rfl, HD, HK⟩ := hrel
    by_cases hlt : k < D.pend.length
    · obtain ⟨b, cap, A', c', e, hc0, hc1, hcl, hC⟩ := HD.out.elem k hlt
      injection e with e1 e2 e3
      subst e1; subst e3
      have hfit := HOK.out.fit D.pend[k] (List.getElem_mem hlt)
      have hlen : (tearAll D.dur ((D.pend.zip ss).take k)).length = D.dur.length := tearAll_length _ _ (fun x hx => HOK.out.fit x.1 (List.of_mem_zip (List.mem_of_mem_take hx)).1)
      have htk : (hs : k < ss.length) → tearAll D.dur ((D.pend.zip ss).take (k + 1)) = tear (tearAll D.dur ((D.pend.zip ss).take k)) (D.pend[k], ss[k]) := fun hs => by
        have hl : k < (D.pend.zip ss).length := by simp; omega
        rw [List.take_succ_eq_append_getElem hl, List.getElem_zip]
        simp [tearAll]
      have htn : ¬ k < ss.length → (D.pend.zip ss).take (k + 1) = (D.pend.zip ss).take k := fun hs => by
        rw [List.take_of_length_le (by simp; omega), List.take_of_length_le (by simp; omega)]
      obtain ⟨⟨xa, xl⟩, hx⟩ : ∃ x, D.pend[k] = x := ⟨_, rfl⟩
      rw [hx] at hc0 hc1 hcl hC hfit htk
      simp only at hc0 hc1 hcl hC hfit htk
      obtain ⟨a, rfl⟩ := Int.eq_ofNat_of_zero_le hfit.1
      have HD2 := Aside0.mk (HD.out.below (below_alloc (Below.refl _ _) (.cells #[.int .i64 (a : Int), .slice A' xl.length c'] 93)))
      have HC := Aside0.mk (Kd.C_alloc hC (.cells #[.int .i64 (a : Int), .slice A' xl.length c'] 93))
      have hb0 : (wr.alloc (.cells #[.int .i64 (a : Int), .slice A' xl.length c'] 93)).cell? ⟨wr.heap.size, 0, none⟩ = some (.int .i64 (a : Int)) := (blk_cell (heap_alloc_new wr _) 0).trans rfl
      have hb1 : (wr.alloc (.cells #[.int .i64 (a : Int), .slice A' xl.length c'] 93)).cell? ⟨wr.heap.size, 1, none⟩ = some (.slice A' xl.length c') := (blk_cell (heap_alloc_new wr _) 1).trans rfl
      have HLEN := Aside0.mk hlen
      have HFIT := Aside0.mk hfit
      by_cases hs : k < ss.length
      · obtain ⟨ad, hAd, hcs⟩ := Kd.at_int (C_kp HS.out HK.out HA.out) (k : Int) (by omega) (by omega)
        subst hAd
        simp only [Int.toNat_natCast] at hcs
        have hcs2 := alloc_cell (o := .cells #[.int .i64 (a : Int), .slice A' xl.length c'] 93) hcs
        have HTK := Aside0.mk (htk hs)
        have hrd : rd ss (k : Int) = ss[k] := by simp [rd, List.getD_eq_getElem?_getD, hs]
        have HRD := Aside0.mk hrd
        have t1 : ((k : Int) < (ss.length : Int)) := by omega
        have t0 : (0 : Int) ≤ (k : Int) := by omega
        clear hx htk htn hlen hfit hC hcs hrd
        generalize hsv : rd ss (k : Int) = sv at hcs2 HRD
        have HSV := Aside0.mk hsv
        clear hsv
        go_wp2
        refine start_ (n := 7) (S := fun w' => w'.cell? ⟨wr.heap.size, 0, none⟩ = some (.int .i64 (a : Int)) ∧ w'.cell? ⟨wr.heap.size, 1, none⟩ = some (.slice A' xl.length c') ∧ w'.cell? (ad.add k) = some (.int .i64 sv)) (ds := [6]) #[false, false, false, false, false, false, false] (by kernel_rfl) rfl rfl ⟨hb0, hb1, hcs2⟩ (fun hHeld => ?_)
        refine pure_ (i := 0) (N := some 20) (v := ?_) (a' := ?_) #[true, false, false, false, false, false, false] rfl rfl (by kernel_rfl) (fun _ _ _ h => h) (Or.inl ⟨by rfl, ?_⟩) ?_ ?_
        rotate_left
        · intro w'
          go_simp
          with_reducible rfl
        rotate_left
        · simp only [Act.put, List.setIfInBounds_toArray, List.set_cons_zero, List.set_cons_succ, i64_w, i32_w]
          rfl
        refine take_ (i := 1) (N := some 21) (v := ?_) (a' := ?_) #[true, true, false, false, false, false, false] rfl rfl (by kernel_rfl) (fun _ _ _ h => h) (Or.inl ⟨by rfl, ?_⟩) hHeld ?_ ?_
        rotate_left
        · rintro w' ⟨s0, s1, s2⟩
          go_simp
          with_reducible rfl
        rotate_left
        · simp only [Act.put, List.setIfInBounds_toArray, List.set_cons_zero, List.set_cons_succ, i64_w, i32_w]
          rfl
        refine pure_ (i := 2) (N := some 22) (v := ?_) (a' := ?_) #[true, true, true, false, false, false, false] rfl rfl (by kernel_rfl) (fun _ _ _ h => h) (Or.inl ⟨by rfl, ?_⟩) ?_ ?_
        rotate_left
        · intro w'
          go_simp
          with_reducible rfl
        rotate_left
        · simp only [Act.put, List.setIfInBounds_toArray, List.set_cons_zero, List.set_cons_succ, i64_w, i32_w]
          rfl
        refine pure_ (i := 3) (N := some 23) (v := ?_) (a' := ?_) #[true, true, true, true, false, false, false] rfl rfl (by kernel_rfl) (fun _ _ _ h => h) (Or.inl ⟨by rfl, ?_⟩) ?_ ?_
        rotate_left
        · intro w'
          go_simp
          with_reducible rfl
        rotate_left
        · simp only [Act.put, List.setIfInBounds_toArray, List.set_cons_zero, List.set_cons_succ, i64_w, i32_w]
          rfl
        refine pure_ (i := 4) (N := some 24) (v := ?_) (a' := ?_) #[true, true, true, true, true, false, false] rfl rfl (by kernel_rfl) (fun _ _ _ h => h) (Or.inl ⟨by rfl, ?_⟩) ?_ ?_
        rotate_left
        · intro w'
          go_simp
          with_reducible rfl
        rotate_left
        · simp only [Act.put, List.setIfInBounds_toArray, List.set_cons_zero, List.set_cons_succ, i64_w, i32_w]
          rfl
        refine take_ (i := 5) (N := some 25) (v := ?_) (a' := ?_) #[true, true, true, true, true, true, false] rfl rfl (by kernel_rfl) (fun _ _ _ h => h) (Or.inl ⟨by rfl, ?_⟩) hHeld ?_ ?_
        rotate_left
        · rintro w' ⟨s0, s1, s2⟩
          go_simp
          with_reducible rfl
        rotate_left
        · simp only [Act.put, List.setIfInBounds_toArray, List.set_cons_zero, List.set_cons_succ, i64_w, i32_w]
          rfl
        refine last_ (i := 6) (N := some 26) #[true, true, true, true, true, true, true] rfl rfl (by kernel_rfl) (by decide) (fun K hK => ?_)
        refine goes_ Try.func58 (by kernel_rfl) rfl #[.pointer (some ⟨g, 0, none⟩), .agg #[.int .i64 (a : Int), .slice A' xl.length c'], .int .i64 sv] (by rfl) rfl rfl (by (try simp only [List.map_toArray, List.map_cons, List.map_nil]); first | done | rfl) ?_
        refine (apply_calls a xl A' c' sv (HD2.out.below (below_drew (Below.refl _ _))) (by rw [HLEN.out]; have := HFIT.out; omega) (by rw [HLEN.out]; exact HOK.out.pos) (Kd.C_drew HC.out) hcl).mono ?_
        rintro e w2 ⟨rfl, hd, hk2⟩
        refine ⟨_, rfl, ?_⟩
        have HD3 := Aside0.mk hd
        have HK3 := Aside0.mk (show Kp pr (wr.alloc (.cells #[.int .i64 (a : Int), .slice A' xl.length c'] 93)) w2 from ⟨hk2.os, hk2.tape, hk2.output, hk2.size, hk2.block⟩)
        clear hd hk2
        refine hK.out _ _ ?_
        clear hK K
        refine norm_ (a' := ?_) ?_ ?_
        rotate_left
        · show Act.put _ (some 26) _ = _
          simp only [Act.put, List.setIfInBounds_toArray, List.set_cons_zero, List.set_cons_succ, i64_w, i32_w]
          rfl
        refine done_ (by kernel_rfl) ?_
        go_wp2
        go_roundw
        case rel =>
          refine ⟨k + 1, by omega, by go_num, ⟨?_⟩, ⟨?_⟩⟩
          · have := HD3.out
            rw [HTK.out]
            simpa [tear, HRD.out] using this
          · exact (HK.out.trans (Kp.alloc _) (fun _ h => .inl h)).trans HK3.out (fun _ h => .inl h)
        case measure => simp [intOf]; omega
      · have HTN := Aside0.mk (htn hs)
        clear hx htk htn hlen hfit hC
        go_wp2
        go_roundw
        case rel =>
          refine ⟨k + 1, by omega, by go_num, ⟨?_⟩, ⟨?_⟩⟩
          · rw [HTN.out]; exact HD2.out
          · exact (HK.out.trans (Kp.alloc _) (fun _ h => .inl h))
        case measure => simp [intOf]; omega
    · obtain ⟨c0, c1, c2, c3, f0, f1, f2, f3⟩ := HD.out.cells
      have hkk : k = D.pend.length := by omega
      have HKK := Aside0.mk hkk
      clear hkk c0
      go_wp2
      go_end0
      refine ⟨rfl, Left.same ⟨v0, .slice none 0 0, ?_⟩ (((HK.out.trans (Kp.setCell _ _ HD.out.gpr) (fun _ h => .inl h)).trans (Kp.setCell _ _ HD.out.gpr) (fun _ h => .inl h)).trans (Kp.setCell _ _ HD.out.gpr) (fun _ h => .inl h))⟩
      have := (HD.out.dropPend.setCnt (-1)).setFailed false
      rw [HKK.out, List.take_of_length_le (by simp; omega)] at this
      exact this
end
end Go.Proofs.Ytbbokpkpdnppjaa
