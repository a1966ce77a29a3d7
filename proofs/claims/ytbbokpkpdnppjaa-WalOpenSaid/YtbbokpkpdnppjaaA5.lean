/- The disk's Sync and Crash. -/
import Derived.Test.YtbbokpkpdnppjaaA4
namespace Go.Proofs.Ytbbokpkpdnppjaa
open Go.RowKit Go.Proofs.YtbbokpkpdnppjaaW.PrintWords Go.Proofs.YtbbokpkpdnppjaaW.PrintLast Go.Proofs.YtbbokpkpdnppjaaW.PrintMore
attribute [local go_sem] max2_int min2_int max_two min_two
set_option linter.unusedVariables false
set_option linter.unusedSimpArgs false

/-- What is known of a disk's numbers. -/
structure Dk.Ok (D : Dk) : Prop where
  pos : 0 < D.dur.length
  few : D.pend.length ≤ 1000
  big : D.dur.length ≤ 4194304
  fit : ∀ x ∈ D.pend, 0 ≤ x.at_ ∧ x.at_ + x.data.length ≤ D.dur.length
  lo : -1 ≤ D.cnt
  hi : D.cnt ≤ 9223372036854775807

def layAll (dur : List Int) (l : List Wr) : List Int := l.foldl (fun d x => putAt d x.at_.toNat x.data) dur
theorem layAll_length (l : List Wr) : ∀ (dur : List Int), (∀ x ∈ l, 0 ≤ x.at_ ∧ x.at_ + x.data.length ≤ dur.length) → (layAll dur l).length = dur.length := by
  induction l with
  | nil => intro dur _; rfl
  | cons x l ih =>
    intro dur h
    have hx := h x (by simp)
    have e : (putAt dur x.at_.toNat x.data).length = dur.length := putAt_length _ _ _ (by omega)
    show (layAll (putAt dur x.at_.toNat x.data) l).length = _
    rw [ih _ (fun y hy => by rw [e]; exact h y (by simp [hy])), e]
theorem layAll_snoc (dur : List Int) (l : List Wr) (x : Wr) : layAll dur (l ++ [x]) = putAt (layAll dur l) x.at_.toNat x.data := by simp [layAll]
def Dk.synced (D : Dk) : Dk := { D with dur := layAll D.dur D.pend, pend := [] }

section
variable {w : World} {base : Nat} {pr sh : Nat → Prop} {g : Nat} {v0 v1 : Value} {D : Dk}

/-- A pending write in memory. -/
theorem DiskIs.elem (h : DiskIs w base pr sh g v0 v1 D) (i : Nat) (hi : i < D.pend.length) : ∃ b cap A c, v1 = .slice (some ⟨b, 0, none⟩) D.pend.length cap ∧
    w.cell? ⟨b, i * 2, none⟩ = some (.int .i64 (D.pend[i]).at_) ∧ w.cell? ⟨b, i * 2 + 1, none⟩ = some (.slice A (D.pend[i]).data.length c) ∧ (D.pend[i]).data.length ≤ c ∧ Kd.C (Kd.int .u8) w A (D.pend[i]).data.length (D.pend[i]).data := by
  obtain ⟨inner, ho, hr⟩ := h.pend
  obtain ⟨b, cap, rfl, hb, _⟩ := ho.form (by omega)
  obtain ⟨A, c, hcs, hc, hF⟩ := hr.2 i _ (List.getElem?_eq_getElem hi)
  have hl := hr.1
  have e0 : inner[i * 2]? = some (.int .i64 (D.pend[i]).at_) := by
    have := congrArg (fun l => l[0]?) hcs
    simpa [List.getElem?_take, List.getElem?_drop] using this
  have e1 : inner[i * 2 + 1]? = some (.slice A (D.pend[i]).data.length c) := by
    have := congrArg (fun l => l[1]?) hcs
    simpa [List.getElem?_take, List.getElem?_drop] using this
  refine ⟨b, cap, A, c, rfl, ?_, ?_, hc, Kd.F_now hF⟩
  · rw [← add_plain b (i * 2)]; exact ho.cells (g := b) rfl _ _ e0
  · rw [← add_plain b (i * 2 + 1)]; exact ho.cells (g := b) rfl _ _ e1

set_option maxHeartbeats 1000000 in
theorem Sync1_calls (p3 : Nat) (b3 : w.cell? ⟨p3, 0, none⟩ = some (.pointer (some ⟨g, 0, none⟩))) (h3 : ¬ pr p3) (h : IsDisk w base pr sh g D) (hok : D.Ok) :
    Calls Try.prog 59 #[.pointer (some ⟨p3, 0, none⟩)] w fun e w' => e = .returned (.tuple #[]) ∧ Left w base pr sh g D.synced w' := by
  obtain ⟨v0, v1, h⟩ := h
  obtain ⟨c0, c1, c2, c3, f0, f1, f2, f3⟩ := h.cells
  obtain ⟨A1, cp1, rfl, hcp1⟩ := h.v1_form
  have H := Aside0.mk h
  have HOK := Aside0.mk hok
  have hn := hok.few
  clear h hok c0 c2 c3 f0 f2 f3
  go_enter Try.func59, Try.ntmps59
  go_wp2
  go_loopw [8] (fun i wr => ∃ k : Nat, k ≤ D.pend.length ∧ i = .int .i64 (k : Int) ∧ Aside0 (DiskIs wr base pr sh g v0 (.slice A1 D.pend.length cp1) { D with dur := layAll D.dur (D.pend.take k) }) ∧ Aside0 (Kp pr w wr)) (fun i _ => D.pend.length - (intOf i).toNat)
  case atStart => exact ⟨0, Nat.zero_le _, rfl, ⟨by simpa [layAll] using H.out⟩, ⟨Kp.refl _ _⟩⟩
  case round =>
    obtain ⟨k, hk, rfl, HD, HK⟩ := hrel
    by_cases hlt : k < D.pend.length
    · obtain ⟨b, cap, A, c, e, hc0, hc1, hcl, hC⟩ := HD.out.elem k hlt
      injection e with e1 e2 e3
      subst e1; subst e3
      have hfit := HOK.out.fit D.pend[k] (List.getElem_mem hlt)
      have htk : layAll D.dur (D.pend.take (k + 1)) = putAt (layAll D.dur (D.pend.take k)) (D.pend[k]).at_.toNat (D.pend[k]).data := by rw [List.take_succ_eq_append_getElem hlt, layAll_snoc]
      have hlen : (layAll D.dur (D.pend.take k)).length = D.dur.length := layAll_length _ _ (fun x hx => HOK.out.fit x (List.mem_of_mem_take hx))
      obtain ⟨⟨xa, xl⟩, hx⟩ : ∃ x, D.pend[k] = x := ⟨_, rfl⟩
      rw [hx] at hc0 hc1 hcl hC hfit htk
      simp only at hc0 hc1 hcl hC hfit htk
      obtain ⟨a, rfl⟩ := Int.eq_ofNat_of_zero_le hfit.1
      have HD2 := Aside0.mk (HD.out.below (below_alloc (Below.refl _ _) (.cells #[.int .i64 (a : Int), .slice A xl.length c] 93)))
      have HC := Aside0.mk (Kd.C_alloc hC (.cells #[.int .i64 (a : Int), .slice A xl.length c] 93))
      have hb3 := alloc_cell (o := .cells #[.int .i64 (a : Int), .slice A xl.length c] 93) (cell_kp b3 HK.out h3)
      have HTK := Aside0.mk htk
      have HLEN := Aside0.mk hlen
      have HFIT := Aside0.mk hfit
      clear hx htk hlen hfit hC
      go_wp2_with (first | (go_at_call 58; refine (apply_calls a xl A c _ HD2.out (by rw [HLEN.out]; have := HFIT.out; omega) (by rw [HLEN.out]; exact HOK.out.pos) HC.out hcl).mono ?_; rintro e w' ⟨rfl, hd, hk2⟩; have HD3 := Aside0.mk hd; have HK3 := Aside0.mk hk2; clear hd hk2))
      go_roundw
      case rel =>
        refine ⟨k + 1, by omega, by go_num, ⟨?_⟩, ⟨?_⟩⟩
        · have := HD3.out
          rw [HTK.out]
          rw [show surv (xl.length : Int) xl = xl.length by unfold surv; omega, List.take_length] at this
          simpa using this
        · exact (HK.out.trans (Kp.alloc _) (fun _ h => .inl h)).trans HK3.out (fun _ h => .inl h)
      case measure => simp [intOf]; omega
    · have hb3 := cell_kp b3 HK.out h3
      obtain ⟨c0, c1, c2, c3, f0, f1, f2, f3⟩ := HD.out.cells
      have hkk : k = D.pend.length := by omega
      have HKK := Aside0.mk hkk
      clear hkk c0 c2 c3 f0 f2 f3
      go_wp2
      go_end0
      refine ⟨rfl, Left.same ⟨v0, .slice none 0 0, ?_⟩ (HK.out.trans (Kp.setCell _ _ HD.out.gpr) (fun _ h => .inl h))⟩
      have := HD.out.dropPend
      rw [HKK.out, List.take_length] at this
      exact this

def Dk.sync (D : Dk) : Dk × Int := if D.failed = true ∨ D.cnt = 0 then ({ D with failed := true }, 11) else (D.burnt.synced, 0)

theorem Dk.Ok.burnt (h : D.Ok) : D.burnt.Ok where
  pos := h.pos
  few := h.few
  big := h.big
  fit := h.fit
  lo := by have := h.lo; simp only [Dk.burnt]; split <;> omega
  hi := by have := h.hi; simp only [Dk.burnt]; split <;> omega

set_option maxHeartbeats 1000000 in
theorem Sync_calls (h : IsDisk w base pr sh g D) (hok : D.Ok) :
    Calls Try.prog 25 #[.pointer (some ⟨g, 0, none⟩)] w fun e w' => e = .returned (.int .i64 D.sync.2) ∧ Left w base pr sh g D.sync.1 w' := by
  have hB : Below w.heap.size w (w.alloc (.cells #[.pointer (some ⟨g, 0, none⟩)] 23)) := below_alloc (Below.refl _ _) _
  obtain ⟨v0, v1, h⟩ := h
  have H := Aside0.mk h
  have H1 := Aside0.mk (h.below hB)
  have HB := Aside0.mk hB
  have HOK := Aside0.mk hok
  clear h hB hok
  by_cases hf : D.failed = true ∨ D.cnt = 0
  · have HF := Aside0.mk hf
    clear hf
    go_enter Try.func25, Try.ntmps25
    go_wp2_with (first | (go_at_call 56; refine (call_fail _ ⟨v0, v1, H1.out⟩ HF.out).mono ?_; rintro e w' ⟨rfl, hq1, hq2⟩; have HQ1 := Aside0.mk hq1; have HQ2 := Aside0.mk hq2; clear hq1 hq2))
    go_ret
    exact ⟨by simp [Dk.sync, HF.out], (Left.same (by simpa [Dk.sync, HF.out] using HQ1.out) HQ2.out).before (Kp.of_below _ HB.out)⟩
  · have HF := Aside0.mk hf
    clear hf
    have hrun : Aside0 (∀ w1, IsDisk w1 base pr sh g D.burnt → Kp pr (w.alloc (.cells #[.pointer (some ⟨g, 0, none⟩)] 23)) w1 →
        Calls Try.prog 59 #[.pointer (some ⟨w.heap.size, 0, none⟩)] w1 fun e w2 => e = .returned (.tuple #[]) ∧ Left (w.alloc (.cells #[.pointer (some ⟨g, 0, none⟩)] 23)) base pr sh g D.burnt.synced w2) := by
      constructor
      intro w1 hd hk
      have hp : ¬ pr w.heap.size := fun hp => by have := H.out.plt _ hp; omega
      refine (Sync1_calls (w := w1) w.heap.size (cell_kp ((blk_cell (heap_alloc_new w _) 0).trans rfl) hk hp) hp hd HOK.out.burnt).mono ?_
      rintro e w2 ⟨rfl, hq⟩
      exact ⟨rfl, Left.before hq hk⟩
    go_enter Try.func25, Try.ntmps25
    go_wp2_with (first | (go_at_call 56; refine (call_ok 59 _ _ ⟨v0, v1, H1.out⟩ (by simpa using fun h => HF.out (.inl h)) (fun h => HF.out (.inr h)) HOK.out.hi (fun _ => by kernel_rfl) hrun.out).mono ?_; rintro e w' ⟨rfl, hq⟩; have HQ := Aside0.mk hq; clear hq))
    go_ret
    exact ⟨by simp [Dk.sync, HF.out], by simpa [Dk.sync, HF.out] using Left.before HQ.out (Kp.of_below _ HB.out)⟩
end
end Go.Proofs.Ytbbokpkpdnppjaa
