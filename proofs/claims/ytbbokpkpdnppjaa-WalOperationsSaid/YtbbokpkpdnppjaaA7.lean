/- Texts of one proof. -/
import Derived.Test.YtbbokpkpdnppjaaUA
import Derived.Test.YtbbokpkpdnppjaaA4
import Derived.Test.YtbbokpkpdnppjaaU0
namespace Go.Proofs.Ytbbokpkpdnppjaa
open Go.RowKit Go.Proofs.YtbbokpkpdnppjaaW.PrintWords Go.Proofs.YtbbokpkpdnppjaaW.PrintLast Go.Proofs.YtbbokpkpdnppjaaW.PrintMore
attribute [local go_sem] max2_int min2_int max_two min_two
set_option linter.unusedVariables false
set_option linter.unusedSimpArgs false
structure Dk.Ok (D : Dk) : Prop where
 pos : 0 < D.dur.length
 few : D.pend.length ≤ 1000
 big : D.dur.length ≤ 4194304
 fit : ∀ x ∈ D.pend, 0 ≤ x.at_ ∧ x.at_ + x.data.length ≤ D.dur.length
 lo : -1 ≤ D.cnt
 hi : D.cnt ≤ 9223372036854775807
def layAll (dur : List Int) (l : List Wr) : List Int := l.foldl (fun d x => putAt d x.at_.toNat x.data) dur
theorem layAll_length (l : List Wr) : ∀ (dur : List Int), (∀ x ∈ l, 0 ≤ x.at_ ∧ x.at_ + x.data.length ≤ dur.length) → (layAll dur l).length = dur.length := by
 induction l with
 | nil => intro dur _; rfl
 | cons x l ih =>
  intro dur h
  have hx := h x (by simp)
  have e : (putAt dur x.at_.toNat x.data).length = dur.length := putAt_length _ _ _ (by omega)
  show (layAll (putAt dur x.at_.toNat x.data) l).length = _
  rw [ih _ (fun y hy => by rw [e]; exact h y (by simp [hy])), e]
theorem layAll_snoc (dur : List Int) (l : List Wr) (x : Wr) : layAll dur (l ++ [x]) = putAt (layAll dur l) x.at_.toNat x.data := by simp [layAll]
def Dk.synced (D : Dk) : Dk := { D with dur := layAll D.dur D.pend, pend := [] }
section
variable {w : World} {base : Nat} {pr sh : Nat → Prop} {g : Nat} {v0 v1 : Value} {D : Dk}
theorem DiskIs.elem (h : DiskIs w base pr sh g v0 v1 D) (i : Nat) (hi : i < D.pend.length) : ∃ b cap A c, v1 = .slice (some ⟨b, 0, none⟩) D.pend.length cap ∧
  w.cell? ⟨b, i * 2, none⟩ = some (.int .i64 (D.pend[i]).at_) ∧ w.cell? ⟨b, i * 2 + 1, none⟩ = some (.slice A (D.pend[i]).data.length c) ∧ (D.pend[i]).data.length ≤ c ∧ Kd.C (Kd.int .u8) w A (D.pend[i]).data.length (D.pend[i]).data := by
 obtain ⟨inner, ho, hr⟩ := h.pend
 obtain ⟨b, cap, rfl, hb, _⟩ := ho.form (by omega)
 obtain ⟨A, c, hcs, hc, hF⟩ := hr.2 i _ (List.getElem?_eq_getElem hi)
 have hl := hr.1
 have e0 : inner[i * 2]? = some (.int .i64 (D.pend[i]).at_) := by
  have := congrArg (fun l => l[0]?) hcs
  simpa [List.getElem?_take, List.getElem?_drop] using this
 have e1 : inner[i * 2 + 1]? = some (.slice A (D.pend[i]).data.length c) := by
  have := congrArg (fun l => l[1]?) hcs
  simpa [List.getElem?_take, List.getElem?_drop] using this
 refine ⟨b, cap, A, c, rfl, ?_, ?_, hc, Kd.F_now hF⟩
 ·rw [← add_plain b (i * 2)]; exact ho.cells (g := b) rfl _ _ e0
 ·rw [← add_plain b (i * 2 + 1)]; exact ho.cells (g := b) rfl _ _ e1
set_option maxHeartbeats 1000000 in
theorem Sync1_calls (p3 : Nat) (b3 : w.cell? ⟨p3, 0, none⟩ = some (.pointer (some ⟨g, 0, none⟩))) (h3 : ¬ pr p3) (h : IsDisk w base pr sh g D) (hok : D.Ok) :
  Calls Try.prog 59 #[.pointer (some ⟨p3, 0, none⟩)] w fun e w' => e = .returned (.tuple #[]) ∧ Left w base pr sh g D.synced w' := by
 obtain ⟨v0, v1, h⟩ := h
 obtain ⟨c0, c1, c2, c3, f0, f1, f2, f3⟩ := h.cells
 obtain ⟨A1, cp1, rfl, hcp1⟩ := h.v1_form
 have H := AM h
 have HOK := AM hok
 have hn := hok.few
 clear h hok c0 c2 c3 f0 f2 f3
 go_enter Try.func59, Try.ntmps59
 go_wp2
 go_loopw [8] (fun i wr => ∃ k : Nat, k ≤ D.pend.length ∧ i = .int .i64 (k : Int) ∧ Aside0 (DiskIs wr base pr sh g v0 (.slice A1 D.pend.length cp1) { D with dur := layAll D.dur (D.pend.take k) }) ∧ Aside0 (Kp pr w wr)) (fun i _ => D.pend.length - (intOf i).toNat)
 case atStart => exact ⟨0, Nat.zero_le _, rfl, ⟨by simpa [layAll] using H.out⟩, ⟨Kp.refl _ _⟩⟩
 case round =>
  obtain ⟨k, hk, rfl, HD, HK⟩ := hrel
  by_cases hlt : k < D.pend.length
  ·obtain ⟨b, cap, A, c, e, hc0, hc1, hcl, hC⟩ := HD.out.elem k hlt
   injection e with e1 e2 e3
   subst e1; subst e3
   have hfit := HOK.out.fit D.pend[k] (List.getElem_mem hlt)
   have htk : layAll D.dur (D.pend.take (k + 1)) = putAt (layAll D.dur (D.pend.take k)) (D.pend[k]).at_.toNat (D.pend[k]).data := by rw [List.take_succ_eq_append_getElem hlt, layAll_snoc]
   have hlen : (layAll D.dur (D.pend.take k)).length = D.dur.length := layAll_length _ _ (fun x hx => HOK.out.fit x (List.mem_of_mem_take hx))
   obtain ⟨⟨xa, xl⟩, hx⟩ : ∃ x, D.pend[k] = x := ⟨_, rfl⟩
   rw [hx] at hc0 hc1 hcl hC hfit htk
   simp only at hc0 hc1 hcl hC hfit htk
   obtain ⟨a, rfl⟩ := Int.eq_ofNat_of_zero_le hfit.1
   have HD2 := AM (HD.out.below (below_alloc (Below.refl _ _) (.cells #[.int .i64 (a : Int), .slice A xl.length c] 93)))
   have HC := AM (Kd.C_alloc hC (.cells #[.int .i64 (a : Int), .slice A xl.length c] 93))
   have hb3 := alloc_cell (o := .cells #[.int .i64 (a : Int), .slice A xl.length c] 93) (cell_kp b3 HK.out h3)
   have HTK := AM htk
   have HLEN := AM hlen
   have HFIT := AM hfit
   clear hx htk hlen hfit hC
   go_wp2_with (first | (go_at_call 58; refine (apply_calls a xl A c _ HD2.out (by rw [HLEN.out]; have := HFIT.out; omega) (by rw [HLEN.out]; exact HOK.out.pos) HC.out hcl).mono ?_; rintro e w' ⟨rfl, hd, hk2⟩; have HD3 := AM hd; have HK3 := AM hk2; clear hd hk2))
   go_roundw
   case rel =>
    refine ⟨k + 1, by omega, by go_num, ⟨?_⟩, ⟨?_⟩⟩
    ·have := HD3.out
     rw [HTK.out]
     rw [show surv (xl.length : Int) xl = xl.length by unfold surv; omega, List.take_length] at this
     simpa using this
    ·exact (HK.out.trans (Kp.alloc _) (fun _ h => .inl h)).trans HK3.out (fun _ h => .inl h)
   case measure => simp [intOf]; omega
  ·have hb3 := cell_kp b3 HK.out h3
   obtain ⟨c0, c1, c2, c3, f0, f1, f2, f3⟩ := HD.out.cells
   have hkk : k = D.pend.length := by omega
   have HKK := AM hkk
   clear hkk c0 c2 c3 f0 f2 f3
   go_wp2
   go_end0
   refine ⟨rfl, Left.same ⟨v0, .slice none 0 0, ?_⟩ (HK.out.trans (Kp.setCell _ _ HD.out.gpr) (fun _ h => .inl h))⟩
   have := HD.out.dropPend
   rw [HKK.out, List.take_length] at this
   exact this
def Dk.sync (D : Dk) : Dk × Int := if D.failed = true ∨ D.cnt = 0 then ({ D with failed := true }, 11) else (D.burnt.synced, 0)
theorem Dk.Ok.burnt (h : D.Ok) : D.burnt.Ok where
 pos := h.pos
 few := h.few
 big := h.big
 fit := h.fit
 lo := by have := h.lo; simp only [Dk.burnt]; split <;> omega
 hi := by have := h.hi; simp only [Dk.burnt]; split <;> omega
set_option maxHeartbeats 1000000 in
theorem Sync_calls (h : IsDisk w base pr sh g D) (hok : D.Ok) :
  Calls Try.prog 25 #[.pointer (some ⟨g, 0, none⟩)] w fun e w' => e = .returned (.int .i64 D.sync.2) ∧ Left w base pr sh g D.sync.1 w' := by
 have hB : Below w.heap.size w (w.alloc (.cells #[.pointer (some ⟨g, 0, none⟩)] 23)) := below_alloc (Below.refl _ _) _
 obtain ⟨v0, v1, h⟩ := h
 have H := AM h
 have H1 := AM (h.below hB)
 have HB := AM hB
 have HOK := AM hok
 clear h hB hok
 by_cases hf : D.failed = true ∨ D.cnt = 0
 ·have HF := AM hf
  clear hf
  go_enter Try.func25, Try.ntmps25
  go_wp2_with (first | (go_at_call 56; refine (call_fail _ ⟨v0, v1, H1.out⟩ HF.out).mono ?_; rintro e w' ⟨rfl, hq1, hq2⟩; have HQ1 := AM hq1; have HQ2 := AM hq2; clear hq1 hq2))
  go_ret
  exact ⟨by simp [Dk.sync, HF.out], (Left.same (by simpa [Dk.sync, HF.out] using HQ1.out) HQ2.out).before (Kp.of_below _ HB.out)⟩
 ·have HF := AM hf
  clear hf
  have hrun : Aside0 (∀ w1, IsDisk w1 base pr sh g D.burnt → Kp pr (w.alloc (.cells #[.pointer (some ⟨g, 0, none⟩)] 23)) w1 →
    Calls Try.prog 59 #[.pointer (some ⟨w.heap.size, 0, none⟩)] w1 fun e w2 => e = .returned (.tuple #[]) ∧ Left (w.alloc (.cells #[.pointer (some ⟨g, 0, none⟩)] 23)) base pr sh g D.burnt.synced w2) := by
   constructor
   intro w1 hd hk
   have hp : ¬ pr w.heap.size := fun hp => by have := H.out.plt _ hp; omega
   refine (Sync1_calls (w := w1) w.heap.size (cell_kp ((blk_cell (heap_alloc_new w _) 0).trans rfl) hk hp) hp hd HOK.out.burnt).mono ?_
   rintro e w2 ⟨rfl, hq⟩
   exact ⟨rfl, Left.before hq hk⟩
  go_enter Try.func25, Try.ntmps25
  go_wp2_with (first | (go_at_call 56; refine (call_ok 59 _ _ ⟨v0, v1, H1.out⟩ (by simpa using fun h => HF.out (.inl h)) (fun h => HF.out (.inr h)) HOK.out.hi (fun _ => by kernel_rfl) hrun.out).mono ?_; rintro e w' ⟨rfl, hq⟩; have HQ := AM hq; clear hq))
  go_ret
  exact ⟨by simp [Dk.sync, HF.out], by simpa [Dk.sync, HF.out] using Left.before HQ.out (Kp.of_below _ HB.out)⟩
end
end Go.Proofs.Ytbbokpkpdnppjaa
namespace Go.Proofs.Ytbbokpkpdnppjaa
open Go.RowKit Go.Proofs.YtbbokpkpdnppjaaW.PrintWords Go.Proofs.YtbbokpkpdnppjaaW.PrintLast Go.Proofs.YtbbokpkpdnppjaaW.PrintMore
attribute [local go_sem] max2_int min2_int max_two min_two
set_option linter.unusedVariables false
set_option linter.unusedSimpArgs false
def tear (d : List Int) (p : Wr × Int) : List Int := putAt d p.1.at_.toNat (p.1.data.take (surv p.2 p.1.data))
def tearAll (dur : List Int) (l : List (Wr × Int)) : List Int := l.foldl tear dur
theorem surv_le (n : Int) (l : List Int) : surv n l ≤ l.length := by unfold surv; omega
theorem tear_length (d : List Int) (p : Wr × Int) (h : 0 ≤ p.1.at_ ∧ p.1.at_ + p.1.data.length ≤ d.length) : (tear d p).length = d.length :=
 putAt_length _ _ _ (by rw [List.length_take]; omega)
theorem tearAll_length (l : List (Wr × Int)) : ∀ (dur : List Int), (∀ x ∈ l, 0 ≤ x.1.at_ ∧ x.1.at_ + x.1.data.length ≤ dur.length) → (tearAll dur l).length = dur.length := by
 induction l with
 | nil => intro dur _; rfl
 | cons x l ih =>
  intro dur h
  have e := tear_length dur x (h x (by simp))
  show (tearAll (tear dur x) l).length = _
  rw [ih _ (fun y hy => by rw [e]; exact h y (by simp [hy])), e]
def Dk.crashed (D : Dk) (ss : List Int) : Dk := { dur := tearAll D.dur (D.pend.zip ss), pend := [], cnt := -1, failed := false }
section
variable {w : World} {base : Nat} {pr sh : Nat → Prop} {g : Nat} {v0 v1 : Value} {D : Dk}
set_option maxRecDepth 100000 in
set_option maxHeartbeats 2000000 in
theorem Crash_calls (A : Option Addr) (c : Nat) (ss : List Int) (h : IsDisk w base pr sh g D) (hok : D.Ok) (hS : Kd.C (Kd.int .i64) w A ss.length ss) (hA : ∀ a, A = some a → 0 < ss.length → ¬ pr a.block) :
  Calls Try.prog 22 #[.pointer (some ⟨g, 0, none⟩), .slice A ss.length c] w fun e w' => e = .returned (.tuple #[]) ∧ Left w base pr sh g (D.crashed ss) w' := by
 obtain ⟨v0, v1, h⟩ := h
 obtain ⟨c0, c1, c2, c3, f0, f1, f2, f3⟩ := h.cells
 obtain ⟨A1, cp1, rfl, hcp1⟩ := h.v1_form
 have H := AM h
 have HOK := AM hok
 have HS := AM hS
 have HA := AM hA
 have hn := hok.few
 have hsm : ss.length ≤ 9223372036854775807 := hS.2.1
 clear h hok c0 c2 c3 f0 f2 f3 hS hA
 go_enter Try.func22, Try.ntmps22
 go_wp2
 go_loopw [11] (fun i wr => ∃ k : Nat, k ≤ D.pend.length ∧ i = .int .i64 (k : Int) ∧ Aside0 (DiskIs wr base pr sh g v0 (.slice A1 D.pend.length cp1) { D with dur := tearAll D.dur ((D.pend.zip ss).take k) }) ∧ Aside0 (Kp pr w wr)) (fun i _ => D.pend.length - (intOf i).toNat)
 case atStart => exact ⟨0, Nat.zero_le _, rfl, ⟨by simpa [tearAll] using H.out⟩, ⟨Kp.refl _ _⟩⟩
 case round =>
  obtain ⟨k, hk, rfl, HD, HK⟩ := hrel
  by_cases hlt : k < D.pend.length
  ·obtain ⟨b, cap, A', c', e, hc0, hc1, hcl, hC⟩ := HD.out.elem k hlt
   injection e with e1 e2 e3
   subst e1; subst e3
   have hfit := HOK.out.fit D.pend[k] (List.getElem_mem hlt)
   have hlen : (tearAll D.dur ((D.pend.zip ss).take k)).length = D.dur.length := tearAll_length _ _ (fun x hx => HOK.out.fit x.1 (List.of_mem_zip (List.mem_of_mem_take hx)).1)
   have htk : (hs : k < ss.length) → tearAll D.dur ((D.pend.zip ss).take (k + 1)) = tear (tearAll D.dur ((D.pend.zip ss).take k)) (D.pend[k], ss[k]) := fun hs => by
    have hl : k < (D.pend.zip ss).length := by simp; omega
    rw [List.take_succ_eq_append_getElem hl, List.getElem_zip]
    simp [tearAll]
   have htn : ¬ k < ss.length → (D.pend.zip ss).take (k + 1) = (D.pend.zip ss).take k := fun hs => by
    rw [List.take_of_length_le (by simp; omega), List.take_of_length_le (by simp; omega)]
   obtain ⟨⟨xa, xl⟩, hx⟩ : ∃ x, D.pend[k] = x := ⟨_, rfl⟩
   rw [hx] at hc0 hc1 hcl hC hfit htk
   simp only at hc0 hc1 hcl hC hfit htk
   obtain ⟨a, rfl⟩ := Int.eq_ofNat_of_zero_le hfit.1
   have HD2 := AM (HD.out.below (below_alloc (Below.refl _ _) (.cells #[.int .i64 (a : Int), .slice A' xl.length c'] 93)))
   have HC := AM (Kd.C_alloc hC (.cells #[.int .i64 (a : Int), .slice A' xl.length c'] 93))
   have hb0 : (wr.alloc (.cells #[.int .i64 (a : Int), .slice A' xl.length c'] 93)).cell? ⟨wr.heap.size, 0, none⟩ = some (.int .i64 (a : Int)) := (blk_cell (heap_alloc_new wr _) 0).trans rfl
   have hb1 : (wr.alloc (.cells #[.int .i64 (a : Int), .slice A' xl.length c'] 93)).cell? ⟨wr.heap.size, 1, none⟩ = some (.slice A' xl.length c') := (blk_cell (heap_alloc_new wr _) 1).trans rfl
   have HLEN := AM hlen
   have HFIT := AM hfit
   by_cases hs : k < ss.length
   ·obtain ⟨ad, hAd, hcs⟩ := Kd.at_int (C_kp HS.out HK.out HA.out) (k : Int) (by omega) (by omega)
    subst hAd
    simp only [Int.toNat_natCast] at hcs
    have hcs2 := alloc_cell (o := .cells #[.int .i64 (a : Int), .slice A' xl.length c'] 93) hcs
    have HTK := AM (htk hs)
    have hrd : rd ss (k : Int) = ss[k] := by simp [rd, List.getD_eq_getElem?_getD, hs]
    have HRD := AM hrd
    have t1 : ((k : Int) < (ss.length : Int)) := by omega
    have t0 : (0 : Int) ≤ (k : Int) := by omega
    clear hx htk htn hlen hfit hC hcs hrd
    generalize hsv : rd ss (k : Int) = sv at hcs2 HRD
    have HSV := AM hsv
    clear hsv
    go_wp2
    refine start_ (n := 7) (S := fun w' => w'.cell? ⟨wr.heap.size, 0, none⟩ = some (.int .i64 (a : Int)) ∧ w'.cell? ⟨wr.heap.size, 1, none⟩ = some (.slice A' xl.length c') ∧ w'.cell? (ad.add k) = some (.int .i64 sv)) (ds := [6]) #[false, false, false, false, false, false, false] (by kernel_rfl) rfl rfl ⟨hb0, hb1, hcs2⟩ (fun hHeld => ?_)
    refine pu 0 (some 20) ?_ (bt 7 1) (by kernel_rfl) ?_ ?_ ?_ ?_
    rotate_left
    ·intro w'
     go_simp
     with_reducible rfl
    rotate_left
    ·simp only [pS]
     rfl
    refine tk 1 (some 21) ?_ (bt 7 3) (by kernel_rfl) hHeld ?_ ?_ ?_ ?_
    rotate_left
    ·rintro w' ⟨s0, s1, s2⟩
     go_simp
     with_reducible rfl
    rotate_left
    ·simp only [pS]
     rfl
    refine pu 2 (some 22) ?_ (bt 7 7) (by kernel_rfl) ?_ ?_ ?_ ?_
    rotate_left
    ·intro w'
     go_simp
     with_reducible rfl
    rotate_left
    ·simp only [pS]
     rfl
    refine pu 3 (some 23) ?_ (bt 7 15) (by kernel_rfl) ?_ ?_ ?_ ?_
    rotate_left
    ·intro w'
     go_simp
     with_reducible rfl
    rotate_left
    ·simp only [pS]
     rfl
    refine pu 4 (some 24) ?_ (bt 7 31) (by kernel_rfl) ?_ ?_ ?_ ?_
    rotate_left
    ·intro w'
     go_simp
     with_reducible rfl
    rotate_left
    ·simp only [pS]
     rfl
    refine tk 5 (some 25) ?_ (bt 7 63) (by kernel_rfl) hHeld ?_ ?_ ?_ ?_
    rotate_left
    ·rintro w' ⟨s0, s1, s2⟩
     go_simp
     with_reducible rfl
    rotate_left
    ·simp only [pS]
     rfl
    refine last_ (i := 6) (N := some 26) (bt 7 127) rfl rfl (by kernel_rfl) (by decide) (fun K hK => ?_)
    refine goes_ Try.func58 (by kernel_rfl) rfl #[.pointer (some ⟨g, 0, none⟩), .agg #[.int .i64 (a : Int), .slice A' xl.length c'], .int .i64 sv] (by rfl) rfl rfl (by (try simp only [List.map_toArray, List.map_cons, List.map_nil]); first | done | rfl) ?_
    refine (apply_calls a xl A' c' sv (HD2.out.below (below_drew (Below.refl _ _))) (by rw [HLEN.out]; have := HFIT.out; omega) (by rw [HLEN.out]; exact HOK.out.pos) (Kd.C_drew HC.out) hcl).mono ?_
    rintro e w2 ⟨rfl, hd, hk2⟩
    refine ⟨_, rfl, ?_⟩
    have HD3 := AM hd
    have HK3 := AM (show Kp pr (wr.alloc (.cells #[.int .i64 (a : Int), .slice A' xl.length c'] 93)) w2 from ⟨hk2.os, hk2.tape, hk2.output, hk2.size, hk2.block⟩)
    clear hd hk2
    refine hK.out _ _ ?_
    clear hK K
    refine norm_ (a' := ?_) ?_ ?_
    rotate_left
    ·show Act.put _ (some 26) _ = _
     simp only [pS]
     rfl
    refine done_ (by kernel_rfl) ?_
    go_wp2
    go_roundw
    case rel =>
     refine ⟨k + 1, by omega, by go_num, ⟨?_⟩, ⟨?_⟩⟩
     ·have := HD3.out
      rw [HTK.out]
      simpa [tear, HRD.out] using this
     ·exact (HK.out.trans (Kp.alloc _) (fun _ h => .inl h)).trans HK3.out (fun _ h => .inl h)
    case measure => simp [intOf]; omega
   ·have HTN := AM (htn hs)
    clear hx htk htn hlen hfit hC
    go_wp2
    go_roundw
    case rel =>
     refine ⟨k + 1, by omega, by go_num, ⟨?_⟩, ⟨?_⟩⟩
     ·rw [HTN.out]; exact HD2.out
     ·exact (HK.out.trans (Kp.alloc _) (fun _ h => .inl h))
    case measure => simp [intOf]; omega
  ·obtain ⟨c0, c1, c2, c3, f0, f1, f2, f3⟩ := HD.out.cells
   have hkk : k = D.pend.length := by omega
   have HKK := AM hkk
   clear hkk c0
   go_wp2
   go_end0
   refine ⟨rfl, Left.same ⟨v0, .slice none 0 0, ?_⟩ (((HK.out.trans (Kp.setCell _ _ HD.out.gpr) (fun _ h => .inl h)).trans (Kp.setCell _ _ HD.out.gpr) (fun _ h => .inl h)).trans (Kp.setCell _ _ HD.out.gpr) (fun _ h => .inl h))⟩
   have := (HD.out.dropPend.setCnt (-1)).setFailed false
   rw [HKK.out, List.take_of_length_le (by simp; omega)] at this
   exact this
end
end Go.Proofs.Ytbbokpkpdnppjaa
namespace Go.Proofs.Ytbbokpkpdnppjaa
set_option linter.unusedVariables false
set_option linter.unusedSimpArgs false
theorem putAt_get (d : List Int) (x : Nat) (b : List Int) (h : x + b.length ≤ d.length) (i : Nat) : (putAt d x b)[i]? = if x ≤ i ∧ i < x + b.length then b[i - x]? else d[i]? := by
 unfold putAt splice
 have hl : (d.take x).length = x := by simp; omega
 by_cases h1 : i < x
 ·rw [List.getElem?_append_left (by omega), List.getElem?_take_of_lt h1, if_neg (by omega)]
 ·rw [List.getElem?_append_right (by omega), hl]
  by_cases h2 : i < x + b.length
  ·rw [List.getElem?_append_left (by omega), if_pos (by omega)]
  ·rw [List.getElem?_append_right (by omega), List.getElem?_drop, if_neg (by omega)]
   congr 1
   omega
theorem win_put (d b : List Int) (x a m f t : Nat) (hfit : x + b.length ≤ d.length) (ham : a + m ≤ d.length) (hf : f = max a x) (ht : t = min (a + m) (x + b.length)) :
  ((putAt d x b).drop a).take m = if f < t then putAt ((d.drop a).take m) (f - a) ((b.take (t - x)).drop (f - x)) else (d.drop a).take m := by
 have hf1 : a ≤ f ∧ x ≤ f ∧ (f = a ∨ f = x) := by subst hf; rcases Nat.le_total a x with h | h <;> simp [Nat.max_eq_right, Nat.max_eq_left, h]
 have ht1 : t ≤ a + m ∧ t ≤ x + b.length ∧ (t = a + m ∨ t = x + b.length) := by subst ht; rcases Nat.le_total (a + m) (x + b.length) with h | h <;> simp [Nat.min_eq_right, Nat.min_eq_left, h]
 clear hf ht
 apply List.ext_getElem?
 intro i
 have hw : ((d.drop a).take m).length = m := by simp; omega
 by_cases hft : f < t
 ·rw [if_pos hft]
  have hbl : ((b.take (t - x)).drop (f - x)).length = t - f := by simp; omega
  by_cases hi : i < m
  ·rw [List.getElem?_take_of_lt hi, List.getElem?_drop, putAt_get _ _ _ hfit, putAt_get _ _ _ (by rw [hbl, hw]; omega), hbl]
   by_cases h1 : x ≤ a + i ∧ a + i < x + b.length
   ·rw [if_pos h1, if_pos (by omega), List.getElem?_drop, List.getElem?_take_of_lt (by omega)]
    congr 1
    omega
   ·rw [if_neg h1, if_neg (by omega), List.getElem?_take_of_lt hi, List.getElem?_drop]
  ·rw [List.getElem?_eq_none (by simp; omega), List.getElem?_eq_none]
   rw [putAt_length _ _ _ (by rw [hbl, hw]; omega), hw]
   omega
 ·rw [if_neg hft]
  by_cases hi : i < m
  ·rw [List.getElem?_take_of_lt hi, List.getElem?_drop, putAt_get _ _ _ hfit, if_neg (by omega), List.getElem?_take_of_lt hi, List.getElem?_drop]
  ·rw [List.getElem?_eq_none (by simp; omega), List.getElem?_eq_none (by rw [hw]; omega)]
end Go.Proofs.Ytbbokpkpdnppjaa
