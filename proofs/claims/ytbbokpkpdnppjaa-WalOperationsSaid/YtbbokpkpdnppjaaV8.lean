/- What the reference's functions compute, in the disk's own words. -/
import Derived.Test.YtbbokpkpdnppjaaB3
import Derived.Test.YtbbokpkpdnppjaaSx4
namespace Go.Proofs.Ytbbokpkpdnppjaa
open Go.RowKit Go.Proofs.YtbbokpkpdnppjaaW.PrintWords Go.Proofs.YtbbokpkpdnppjaaW.PrintLast Go.Proofs.YtbbokpkpdnppjaaW.PrintMore
set_option linter.unusedVariables false
set_option linter.unusedSimpArgs false
theorem wrap64_in (n : Int) (h1 : -9223372036854775808 ≤ n) (h2 : n ≤ 9223372036854775807) : wrap64 n = n := by unfold wrap64; omega
def toS (x : Wr) : S.S119 := ⟨x.at_, x.data⟩
theorem rd_T119_get (l : List Wr) (i : Nat) (h : i < l.length) : S.rd_T119 (l.map toS) (i : Int) = toS l[i] := by simp [S.rd_T119, List.getD_eq_getElem?_getD, h]
theorem put_step (d b : List Int) (a i : Nat) (h : a + b.length ≤ d.length) (hi : i < b.length) : (putAt d a (b.take i)).set (a + i) (rd b i) = putAt d a (b.take (i + 1)) := by
 have l1 : (b.take i).length = i := by rw [List.length_take]; omega
 have l2 : (b.take (i + 1)).length = i + 1 := by rw [List.length_take]; omega
 apply List.ext_getElem?
 intro j
 rw [List.getElem?_set, putAt_get _ _ _ (by omega), putAt_get _ _ _ (by omega), putAt_length _ _ _ (by omega), l1, l2]
 by_cases h1 : a + i = j
 ·subst h1
  rw [if_pos rfl, if_pos (by omega), if_pos (by omega), show a + i - a = i by omega, List.getElem?_take_of_lt (by omega), List.getElem?_eq_getElem hi]
  simp [rd, List.getD_eq_getElem?_getD, hi]
 ·rw [if_neg h1]
  by_cases h2 : a ≤ j ∧ j < a + i
  ·rw [if_pos h2, if_pos (by omega), List.getElem?_take_of_lt (by omega), List.getElem?_take_of_lt (by omega)]
  ·rw [if_neg h2, if_neg (by omega)]
theorem putAt_nil (d : List Int) (a : Nat) (h : a ≤ d.length) : putAt d a [] = d := by
 apply List.ext_getElem?
 intro j
 rw [putAt_get _ _ _ (by simpa using h), if_neg (by simp)]
theorem dput_f (d b : List Int) (a : Nat) (h : a + b.length ≤ d.length) (hd : d.length ≤ 4194304) (k : Nat) (hk : b.length < k) : S.lineageref13_put.f k d (a : Int) b = some (putAt d a b) := by
 have key : ∀ (n i : Nat), n + i = b.length → ∀ k, n < k → S.lineageref13_put.l0 k (a : Int) b (putAt d a (b.take i)) (i : Int) = some (putAt d a b) := by
  intro n
  induction n with
  | zero =>
   intro i hi k hk
   obtain ⟨k, rfl⟩ : ∃ m, k = m + 1 := ⟨k - 1, by omega⟩
   unfold S.lineageref13_put.l0
   rw [if_neg (by omega), List.take_of_length_le (by omega)]
  | succ n ih =>
   intro i hi k hk
   obtain ⟨k, rfl⟩ : ∃ m, k = m + 1 := ⟨k - 1, by omega⟩
   unfold S.lineageref13_put.l0
   have l1 : (b.take i).length = i := by rw [List.length_take]; omega
   rw [if_pos (by omega), if_pos (by omega), wrap64_in ((a : Int) + i) (by omega) (by omega), if_pos (by omega), if_pos (by rw [putAt_length _ _ _ (by omega)]; omega), wrap64_in ((i : Int) + 1) (by omega) (by omega)]
   rw [show ((a : Int) + (i : Int)).toNat = a + i by omega, put_step d b a i h (by omega)]
   exact ih (i + 1) (by omega) k (by omega)
 unfold S.lineageref13_put.f
 have e := key b.length 0 (by omega) k hk
 rw [List.take_zero, putAt_nil d a (by omega)] at e
 simp only [Option.bind_some, List.length_nil, Nat.zero_add, List.nil_append]
 rw [if_pos (by omega)]
 exact e
theorem contents_f (D : Dk) (hok : D.Ok) (k : Nat) (hk : 4194304 + 1001 < k) : S.lineageref13_Contents.f k D.dur (D.pend.map toS) D.cnt D.failed = some D.now := by
 have key : ∀ (n i : Nat), n + i = D.pend.length → ∀ k d, 4194304 + 1 + n < k → d.length = D.dur.length → S.lineageref13_Contents.l0 k d (i : Int) D.dur (D.pend.map toS) D.cnt D.failed = some (layAll d (D.pend.drop i)) := by
  intro n
  induction n with
  | zero =>
   intro i hi k d hk hd
   obtain ⟨k, rfl⟩ : ∃ m, k = m + 1 := ⟨k - 1, by omega⟩
   unfold S.lineageref13_Contents.l0
   rw [if_neg (by simp; omega), List.drop_of_length_le (by omega)]
   rfl
  | succ n ih =>
   intro i hi k d hk hd
   obtain ⟨k, rfl⟩ : ∃ m, k = m + 1 := ⟨k - 1, by omega⟩
   have hl : i < D.pend.length := by omega
   have hf := hok.fit _ (List.getElem_mem hl)
   have hb := hok.big
   have hfew := hok.few
   obtain ⟨a, ha⟩ := Int.eq_ofNat_of_zero_le hf.1
   unfold S.lineageref13_Contents.l0
   rw [if_pos (by simp; omega), if_pos (by omega), rd_T119_get _ _ hl]
   simp only [toS]
   have hp := dput_f d D.pend[i].data a (by omega) (by omega) k (by omega)
   rw [ha, hp, Option.bind_some, wrap64_in ((i : Int) + 1) (by omega) (by omega)]
   have := ih (i + 1) (by omega) k (putAt d a D.pend[i].data) (by omega) (by rw [putAt_length _ _ _ (by omega), hd])
   rw [show ((i : Int) + 1) = ((i + 1 : Nat) : Int) by omega, this, List.drop_eq_getElem_cons hl]
   simp only [layAll, List.foldl_cons, ha, Int.toNat_natCast]
 unfold S.lineageref13_Contents.f
 have := hok.few
 have e := key D.pend.length 0 (by omega) k D.dur (by omega) rfl
 rw [List.drop_zero] at e
 exact e
theorem inside_f (D : Dk) (hok : D.Ok) (at_ n : Int) : S.lineageref13_inside.f D.dur (D.pend.map toS) D.cnt D.failed at_ n = some (insd D.dur.length at_ n) := by
 unfold S.lineageref13_inside.f insd
 have hb := hok.big
 by_cases h1 : at_ ≥ 0
 ·rw [if_pos h1]
  by_cases h2 : n ≥ 0
  ·rw [if_pos h2]
   by_cases h3 : at_ ≤ (D.dur.length : Int)
   ·rw [if_pos h3, wrap64_in _ (by omega) (by omega)]
    simp [h1, h2, h3]
   ·rw [if_neg h3]; simp [h3]
  ·rw [if_neg h2]; simp; omega
 ·rw [if_neg h1]; simp; omega
theorem burn_f (D : Dk) (hok : D.Ok) : S.lineageref13_burn.f D.dur (D.pend.map toS) D.cnt D.failed = some (if D.cnt = 0 then (D.dur, D.pend.map toS, D.cnt, true, false) else (D.dur, D.pend.map toS, D.burnt.cnt, D.failed, true)) := by
 unfold S.lineageref13_burn.f
 have := hok.lo
 have := hok.hi
 by_cases h1 : D.cnt = 0
 ·rw [if_pos h1, if_pos h1]
 ·rw [if_neg h1, if_neg h1]
  by_cases h2 : D.cnt > 0
  ·rw [if_pos h2, wrap64_in _ (by omega) (by omega)]
   simp [Dk.burnt, h2]
  ·rw [if_neg h2]
   simp [Dk.burnt]; omega
theorem ref_put_f (D : Dk) (hok : D.Ok) (at_ : Int) (l : List Int) (hl : l.length ≤ 4194304) : S.lineageref13_Put.f D.dur (D.pend.map toS) D.cnt D.failed at_ l = some ((D.write at_ l).1.dur, (D.write at_ l).1.pend.map toS, (D.write at_ l).1.cnt, (D.write at_ l).1.failed, (D.write at_ l).2) := by
 unfold S.lineageref13_Put.f
 have hfew := hok.few
 cases hf : D.failed with
 | true => simp [Dk.write, hf]
 | false =>
  rw [if_neg (by simp)]
  have hi := inside_f D hok at_ l.length
  have hb := burn_f D hok
  rw [hf] at hi hb
  rw [hi, Option.bind_some]
  cases hc : insd D.dur.length at_ l.length with
  | false => rw [if_neg (by simp)]; simp [Dk.write, hf, hc]
  | true =>
   rw [if_pos rfl, hb, Option.bind_some]
   by_cases h0 : D.cnt = 0
   ·rw [if_pos h0, if_neg (by simp)]
    simp [Dk.write, hf, hc, h0]
   ·rw [if_neg h0, if_pos rfl]
    simp only [Option.bind_some, List.length_nil, Nat.zero_add, List.nil_append, List.length_map]
    rw [if_pos (by omega), if_pos (by omega), if_pos (by omega)]
    simp [Dk.write, hf, hc, h0, Dk.wrote, Dk.burnt, toS]
theorem ref_sync_f (D : Dk) (hok : D.Ok) (k : Nat) (hk : 4194304 + 1001 < k) : S.lineageref13_Sync.f k D.dur (D.pend.map toS) D.cnt D.failed = some (D.sync.1.dur, D.sync.1.pend.map toS, D.sync.1.cnt, D.sync.1.failed, D.sync.2) := by
 unfold S.lineageref13_Sync.f
 cases hf : D.failed with
 | true => simp [Dk.sync, hf]
 | false =>
  rw [if_neg (by simp)]
  have hb := burn_f D hok
  rw [hf] at hb
  rw [hb, Option.bind_some]
  by_cases h0 : D.cnt = 0
  ·rw [if_pos h0, if_neg (by simp)]
   simp [Dk.sync, hf, h0]
  ·rw [if_neg h0, if_pos rfl]
   have hc := contents_f D.burnt (hok.burnt) k hk
   have e : S.lineageref13_Contents.f k D.dur (D.pend.map toS) D.burnt.cnt false = some D.now := by
    have e1 : D.burnt.failed = false := hf
    rw [e1] at hc
    exact hc
   simp only [e, Option.bind_some]
   have e2 : D.sync = (D.burnt.synced, 0) := by unfold Dk.sync; rw [if_neg (by simp [hf, h0])]
   rw [e2]
   simp [Dk.synced, Dk.now, Dk.burnt, hf]
theorem ref_crash_f (D : Dk) (hok : D.Ok) (ss : List Int) (k : Nat) (hk : 4194304 + 1001 < k) : S.lineageref13_Crash.f k D.dur (D.pend.map toS) D.cnt D.failed ss = some ((D.crashed ss).dur, (D.crashed ss).pend.map toS, (D.crashed ss).cnt, (D.crashed ss).failed) := by
 have key : ∀ (n i : Nat), n + i = D.pend.length → ∀ k d, 4194304 + 1 + n < k → d.length = D.dur.length → S.lineageref13_Crash.l0 k ss (i : Int) d (D.pend.map toS) D.cnt D.failed = some (tearAll d ((D.pend.drop i).zip (ss.drop i)), [], -1, false) := by
  intro n
  induction n with
  | zero =>
   intro i hi k d hk hd
   obtain ⟨k, rfl⟩ : ∃ m, k = m + 1 := ⟨k - 1, by omega⟩
   unfold S.lineageref13_Crash.l0
   rw [if_neg (by simp; omega), List.drop_of_length_le (show D.pend.length ≤ i by omega)]
   rfl
  | succ n ih =>
   intro i hi k d hk hd
   obtain ⟨k, rfl⟩ : ∃ m, k = m + 1 := ⟨k - 1, by omega⟩
   have hl : i < D.pend.length := by omega
   have hf := hok.fit _ (List.getElem_mem hl)
   have hb := hok.big
   have hfew := hok.few
   obtain ⟨a, ha⟩ := Int.eq_ofNat_of_zero_le hf.1
   unfold S.lineageref13_Crash.l0
   rw [if_pos (by simp; omega), rd_T119_get _ _ hl]
   obtain ⟨E, hE⟩ : ∃ E, toS D.pend[i] = E := ⟨_, rfl⟩
   have hE0 : E.f0 = D.pend[i].at_ := by rw [← hE]; rfl
   have hE1 : E.f1 = D.pend[i].data := by rw [← hE]; rfl
   rw [hE, hE0, hE1]
   by_cases hs : i < ss.length
   ·rw [if_pos (by omega), if_pos (by omega)]
    have hsv : mx 0 (mn (rd ss i) (D.pend[i].data.length : Int)) = (surv ss[i] D.pend[i].data : Int) := by
     have e : rd ss (i : Int) = ss[i] := by simp [rd, List.getD_eq_getElem?_getD, hs]
     rw [e]
     unfold mx mn surv
     split <;> split <;> omega
    have hsl := surv_le ss[i] D.pend[i].data
    rw [hsv, if_pos (by omega), if_pos (by omega), Int.toNat_natCast]
    have hln : (D.pend[i].data.take (surv ss[i] D.pend[i].data)).length = surv ss[i] D.pend[i].data := by rw [List.length_take]; omega
    have hp := dput_f d (D.pend[i].data.take (surv ss[i] D.pend[i].data)) a (by omega) (by omega) k (by omega)
    rw [ha, hp, Option.bind_some, wrap64_in ((i : Int) + 1) (by omega) (by omega)]
    have := ih (i + 1) (by omega) k (putAt d a (D.pend[i].data.take (surv ss[i] D.pend[i].data))) (by omega) (by rw [putAt_length _ _ _ (by omega), hd])
    rw [show ((i : Int) + 1) = ((i + 1 : Nat) : Int) by omega, this, List.drop_eq_getElem_cons hl, List.drop_eq_getElem_cons hs]
    simp only [tearAll, List.zip_cons_cons, List.foldl_cons, tear, ha, Int.toNat_natCast]
   ·rw [if_neg (by omega), if_pos (by omega), if_pos (by omega), List.take_zero]
    have hp := dput_f d [] a (by simp; omega) (by omega) k (by simp; omega)
    rw [ha, hp, Option.bind_some, putAt_nil d a (by omega), wrap64_in ((i : Int) + 1) (by omega) (by omega)]
    have := ih (i + 1) (by omega) k d (by omega) hd
    rw [show ((i : Int) + 1) = ((i + 1 : Nat) : Int) by omega, this, List.drop_of_length_le (show ss.length ≤ i by omega), List.drop_of_length_le (show ss.length ≤ i + 1 by omega)]
    simp
 unfold S.lineageref13_Crash.f
 have := hok.few
 have e := key D.pend.length 0 (by omega) k D.dur (by omega) rfl
 rw [List.drop_zero, List.drop_zero] at e
 exact e
end Go.Proofs.Ytbbokpkpdnppjaa
namespace Go.Proofs.Ytbbokpkpdnppjaa
open Go.RowKit Go.Proofs.YtbbokpkpdnppjaaW.PrintWords Go.Proofs.YtbbokpkpdnppjaaW.PrintLast Go.Proofs.YtbbokpkpdnppjaaW.PrintMore
set_option linter.unusedVariables false
set_option linter.unusedSimpArgs false
def RefV (w : World) (ok : Nat → Prop) (v : Value) (D : Dk) : Prop := ∃ v0 v1, v = .agg #[v0, v1, .int .i64 D.cnt, .bool D.failed] ∧ Kd.V (Kd.int .u8) 5 w w.heap.size ok v0 D.dur ∧ Kd.V S.k119 119 w w.heap.size ok v1 (D.pend.map toS)
def New (ok : Nat → Prop) (w w' : World) (k : Nat) : Prop := ok k ∨ (w.heap.size ≤ k ∧ k < w'.heap.size)
theorem RefV.step {w w' : World} {ok : Nat → Prop} {v : Value} {D : Dk} (h : RefV w ok v D) (hm : ∀ k, ok k → k < w.heap.size → w'.heap[k]? = w.heap[k]?) : RefV w' ok v D := by
 obtain ⟨v0, v1, e, h0, h1⟩ := h
 exact ⟨v0, v1, e, Kd.V_step h0 hm, Kd.V_step h1 hm⟩
theorem RefV.below {w w' : World} {ok : Nat → Prop} {v : Value} {D : Dk} (h : RefV w ok v D) (hb : Below w.heap.size w w') : RefV w' ok v D := h.step (fun k _ hk => hb.block k hk)
theorem RefV.mono {w : World} {ok ok' : Nat → Prop} {v : Value} {D : Dk} (h : RefV w ok v D) (hk : ∀ k, ok k → ok' k) : RefV w ok' v D := by
 obtain ⟨v0, v1, e, h0, h1⟩ := h
 exact ⟨v0, v1, e, Kd.V_mono h0 hk, Kd.V_mono h1 hk⟩
theorem RefV.form {w : World} {ok : Nat → Prop} {v : Value} {D : Dk} (h : RefV w ok v D) : ∃ A0 c0 A1 c1, v = .agg #[.slice A0 D.dur.length c0, .slice A1 (D.pend.map toS).length c1, .int .i64 D.cnt, .bool D.failed] ∧ Kd.V (Kd.int .u8) 5 w w.heap.size ok (.slice A0 D.dur.length c0) D.dur ∧ Kd.V S.k119 119 w w.heap.size ok (.slice A1 (D.pend.map toS).length c1) (D.pend.map toS) := by
 obtain ⟨v0, v1, rfl, h0, h1⟩ := h
 obtain ⟨A0, c0, rfl⟩ := Kd.V_slice h0
 obtain ⟨A1, c1, rfl⟩ := Kd.V_slice h1
 exact ⟨A0, c0, A1, c1, rfl, h0, h1⟩
theorem RefV.mk {w w' : World} {ok p q : Nat → Prop} {v0 v1 : Value} {D : Dk} {b : Nat} (h0 : Kd.V (Kd.int .u8) 5 w' b p v0 D.dur) (h1 : Kd.V S.k119 119 w' b q v1 (D.pend.map toS)) (hp : ∀ k, p k → ok k ∨ w.heap.size ≤ k) (hq : ∀ k, q k → ok k ∨ w.heap.size ≤ k) :
  RefV w' (New ok w w') (.agg #[v0, v1, .int .i64 D.cnt, .bool D.failed]) D :=
 ⟨v0, v1, rfl, Kd.V_mono (Kd.V_bound h0) (fun k hk => (hp k hk.1).imp id (fun h => ⟨h, hk.2⟩)), Kd.V_mono (Kd.V_bound h1) (fun k hk => (hq k hk.1).imp id (fun h => ⟨h, hk.2⟩))⟩
section
variable {w : World} {ok : Nat → Prop} {v : Value} {D : Dk}
theorem ref_new (n : Nat) (w : World) (hn : n ≤ 4194304) : Calls Try.prog 29 #[.int .i64 (n : Int)] w fun e w' => ∃ v', e = .returned v' ∧ RefV w' (New ok w w') v' (Dk.fresh n) ∧ Below w.heap.size w w' := by
 refine (S.lineageref13_New.calls (n : Int) (Dk.fresh n).dur ((Dk.fresh n).pend.map toS) (Dk.fresh n).cnt (Dk.fresh n).failed w (by
  unfold S.lineageref13_New.f
  rw [if_pos (by omega), if_pos (by omega)]
  simp [Dk.fresh])).mono ?_
 rintro e w' ⟨v0, v1, rfl, h0, h1, hb⟩
 exact ⟨_, rfl, RefV.mk (b := 0) (p := fun k => w.heap.size ≤ k) (q := fun k => w.heap.size ≤ k) (Kd.R_V (Kd.R_mono (Kd.R_bound h0) (fun k hk => hk.2.1))) (Kd.R_V (Kd.R_mono (Kd.R_bound (Kd.S_R h1)) (fun k hk => hk.2.1))) (fun k hk => .inr hk) (fun k hk => .inr hk), hb⟩
theorem ref_put (h : RefV w ok v D) (hok : D.Ok) (at_ : Int) (A : Option Addr) (c : Nat) (l : List Int) (hC : Kd.C (Kd.int .u8) w A l.length l) (hc : l.length ≤ c) (hl : l.length ≤ 4194304) :
  Calls Try.prog 61 #[v, .int .i64 at_, .slice A l.length c] w fun e w' => ∃ v', e = .returned (.tuple #[v', .int .i64 (D.write at_ l).2]) ∧ RefV w' (New ok w w') v' (D.write at_ l).1 ∧ Below w.heap.size w w' := by
 obtain ⟨A0, c0, A1, c1, rfl, h0, h1⟩ := h.form
 refine (S.lineageref13_Put.calls ok A0 c0 D.dur ok A1 c1 (D.pend.map toS) D.cnt D.failed at_ A c l _ _ _ _ _ w h0 h1 hC hc (ref_put_f D hok at_ l hl)).mono ?_
 rintro e w' ⟨v0, v1, rfl, g0, g1, hb⟩
 exact ⟨_, rfl, RefV.mk g0 g1 (fun k hk => hk.imp (fun h => h.elim id id) id) (fun k hk => hk.imp (fun h => h.elim id id) id), hb⟩
theorem ref_sync (h : RefV w ok v D) (hok : D.Ok) : Calls Try.prog 62 #[v] w fun e w' => ∃ v', e = .returned (.tuple #[v', .int .i64 D.sync.2]) ∧ RefV w' (New ok w w') v' D.sync.1 ∧ Below w.heap.size w w' := by
 obtain ⟨A0, c0, A1, c1, rfl, h0, h1⟩ := h.form
 refine (S.lineageref13_Sync.calls 5000000 ok A0 c0 D.dur ok A1 c1 (D.pend.map toS) D.cnt D.failed _ _ _ _ _ w h0 h1 (ref_sync_f D hok 5000000 (by omega))).mono ?_
 rintro e w' ⟨v0, v1, rfl, g0, g1, hb⟩
 exact ⟨_, rfl, RefV.mk g0 g1 (fun k hk => hk.imp (fun h => h.elim id id) id) (fun k hk => hk.imp (fun h => h.elim id id) id), hb⟩
theorem ref_failAfter (h : RefV w ok v D) (n : Int) : Calls Try.prog 51 #[v, .int .i64 n] w fun e w' => ∃ v', e = .returned v' ∧ RefV w' (New ok w w') v' (D.after n) ∧ Below w.heap.size w w' := by
 obtain ⟨A0, c0, A1, c1, rfl, h0, h1⟩ := h.form
 refine (S.lineageref13_FailAfter.calls ok A0 c0 D.dur ok A1 c1 (D.pend.map toS) D.cnt D.failed n (D.after n).dur ((D.after n).pend.map toS) (D.after n).cnt (D.after n).failed w h0 h1 (by
  simp only [S.lineageref13_FailAfter.f, Dk.after, mx])).mono ?_
 rintro e w' ⟨v0, v1, rfl, g0, g1, hb⟩
 exact ⟨_, rfl, RefV.mk g0 g1 (fun k hk => hk.imp (fun h => h.elim id id) id) (fun k hk => hk.imp (fun h => h.elim id id) id), hb⟩
theorem ref_crash (h : RefV w ok v D) (hok : D.Ok) (A : Option Addr) (c : Nat) (ss : List Int) (hC : Kd.C (Kd.int .i64) w A ss.length ss) (hc : ss.length ≤ c) :
  Calls Try.prog 52 #[v, .slice A ss.length c] w fun e w' => ∃ v', e = .returned v' ∧ RefV w' (New ok w w') v' (D.crashed ss) ∧ Below w.heap.size w w' := by
 obtain ⟨A0, c0, A1, c1, rfl, h0, h1⟩ := h.form
 obtain ⟨_, hl1, hC1⟩ := Kd.V_reads' h1
 refine (S.lineageref13_Crash.calls 5000000 ok A0 c0 D.dur A1 c1 (D.pend.map toS) D.cnt D.failed A c ss _ _ _ _ w h0 hC1 hl1 hC hc (ref_crash_f D hok ss 5000000 (by omega))).mono ?_
 rintro e w' ⟨v0, v1, rfl, g0, g1, hb⟩
 exact ⟨_, rfl, RefV.mk g0 (Kd.S_V (base' := 0) g1) (fun k hk => hk.1) (fun k hk => .inr hk), hb⟩
end
end Go.Proofs.Ytbbokpkpdnppjaa
