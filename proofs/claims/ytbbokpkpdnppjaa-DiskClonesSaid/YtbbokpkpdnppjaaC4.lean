/- What few and Same answer; the walk of DiskDurable. -/
import Derived.Test.YtbbokpkpdnppjaaC3
namespace Go.Proofs.Ytbbokpkpdnppjaa
open Go.RowKit Go.Proofs.YtbbokpkpdnppjaaW.PrintWords Go.Proofs.YtbbokpkpdnppjaaW.PrintLast Go.Proofs.YtbbokpkpdnppjaaW.PrintMore
set_option linter.unusedVariables false
set_option linter.unusedSimpArgs false

theorem wrap64_in (n : Int) (h1 : -9223372036854775808 ≤ n) (h2 : n ≤ 9223372036854775807) : wrap64 n = n := by unfold wrap64; omega
def Few (size : Int) (l : List P.S44) : Prop := 1 ≤ size ∧ size ≤ 64 ∧ l.length ≤ 20 ∧ ∀ x ∈ l, x.f3.length ≤ 64 ∧ x.f4.length ≤ 20
theorem rd_T44_get (l : List P.S44) (i : Nat) (h : i < l.length) : P.rd_T44 l (i : Int) = l[i] := by simp [P.rd_T44, List.getD_eq_getElem?_getD, h]
theorem few_spec (size : Int) (l : List P.S44) (hm : l.length ≤ 9223372036854775807) : ∃ k r, P.lineagelaw13_few.f k size l = some r ∧ (r = true → Few size l) := by
  have key : ∀ (n i : Nat), n + i = l.length → ∃ r, P.lineagelaw13_few.l0 (n + 1) size l (i : Int) = some r ∧ (r = true → 1 ≤ size ∧ size ≤ 64 ∧ l.length ≤ 20 ∧ ∀ j, i ≤ j → (h : j < l.length) → l[j].f3.length ≤ 64 ∧ l[j].f4.length ≤ 20) := by
    intro n
    induction n with
    | zero =>
      intro i hi
      unfold P.lineagelaw13_few.l0
      rw [if_neg (by omega)]
      by_cases h1 : size ≥ 1
      · rw [if_pos h1]
        by_cases h2 : size ≤ 64
        · rw [if_pos h2]
          exact ⟨_, rfl, fun h => ⟨h1, h2, by have := of_decide_eq_true h; omega, fun j hj hj2 => by omega⟩⟩
        · rw [if_neg h2]; exact ⟨_, rfl, fun h => by cases h⟩
      · rw [if_neg h1]; exact ⟨_, rfl, fun h => by cases h⟩
    | succ n ih =>
      intro i hi
      unfold P.lineagelaw13_few.l0
      rw [if_pos (by omega), if_pos (by omega), rd_T44_get l i (by omega)]
      by_cases h3 : ((l[i].f3.length : Nat) : Int) > 64
      · rw [if_pos h3]; exact ⟨_, rfl, fun h => by cases h⟩
      · rw [if_neg h3]
        by_cases h4 : ((l[i].f4.length : Nat) : Int) > 20
        · rw [if_pos h4]; exact ⟨_, rfl, fun h => by cases h⟩
        · rw [if_neg h4, wrap64_in _ (by omega) (by omega)]
          obtain ⟨r, e, hr⟩ := ih (i + 1) (by omega)
          refine ⟨r, by rw [← e]; rfl, fun h => ?_⟩
          obtain ⟨q1, q2, q3, q4⟩ := hr h
          refine ⟨q1, q2, q3, fun j hj hj2 => ?_⟩
          by_cases hij : j = i
          · subst hij; omega
          · exact q4 j (by omega) hj2
  obtain ⟨r, e, hr⟩ := key l.length 0 (by omega)
  refine ⟨l.length + 1, r, e, fun h => ?_⟩
  obtain ⟨q1, q2, q3, q4⟩ := hr h
  refine ⟨q1, q2, q3, fun x hx => ?_⟩
  obtain ⟨j, hj, rfl⟩ := List.getElem_of_mem hx
  exact q4 j (by omega) hj
theorem Same_refl (l : List Int) (hm : l.length ≤ 9223372036854775807) : P.lineageref13_Same.f (l.length + 1) l l = some true := by
  have key : ∀ (n i : Nat), n + i = l.length → P.lineageref13_Same.l0 (n + 1) l l (i : Int) = some true := by
    intro n
    induction n with
    | zero => intro i hi; unfold P.lineageref13_Same.l0; rw [if_neg (by omega)]
    | succ n ih =>
      intro i hi
      unfold P.lineageref13_Same.l0
      rw [if_pos (by omega), if_pos (by omega), if_pos (by omega), if_pos rfl, wrap64_in _ (by omega) (by omega)]
      exact ih (i + 1) (by omega)
  unfold P.lineageref13_Same.f
  rw [if_pos rfl]
  exact key l.length 0 (by omega)
/-- Same, of two slices of the same bytes. -/
theorem Same_calls (A0 : Option Addr) (c0 : Nat) (A1 : Option Addr) (c1 : Nat) (l : List Int) (w : World) (h0 : Kd.C (Kd.int .u8) w A0 l.length l) (hc0 : l.length ≤ c0) (h1 : Kd.C (Kd.int .u8) w A1 l.length l) (hc1 : l.length ≤ c1) :
    Calls Try.prog 23 #[.slice A0 l.length c0, .slice A1 l.length c1] w fun e w' => e = .returned (.bool true) ∧ Below w.heap.size w w' :=
  (P.lineageref13_Same.calls _ A0 c0 l A1 c1 l true w h0 hc0 h1 hc1 (Same_refl l h0.2.1)).mono (fun e w' h => ⟨h.1, h.2.below⟩)

/-- few, in one word. -/
theorem few_calls (size : Int) (A1 : Option Addr) (c1 : Nat) (l : List P.S44) (w : World) (h : Kd.C P.k44 w A1 l.length l) (hc : l.length ≤ c1) :
    Calls Try.prog 20 #[.int .i64 size, .slice A1 l.length c1] w fun e w' => ∃ r, e = .returned (.bool r) ∧ (r = true → Few size l) ∧ Below w.heap.size w w' := by
  obtain ⟨k, r, e, hr⟩ := few_spec size l h.2.1
  exact (P.lineagelaw13_few.calls k size A1 c1 l r w h hc e).mono (fun e w' h => ⟨r, h.1, hr, h.2.below⟩)

theorem read_all {D : Dk} {m : Nat} (h : D.Calm m) : D.read 0 m = (D.now, 0) := by
  have e : insd D.dur.length 0 m = true := by have := h.len; simp [insd]; omega
  simp only [Dk.read, h.failed, e]
  have hl : D.now.length = m := by show (layAll D.dur D.pend).length = m; rw [layAll_length _ _ h.ok.fit, h.len]
  simp only [Bool.false_eq_true, if_false, Int.toNat_zero, List.drop_zero, Int.toNat_natCast, Prod.mk.injEq, and_true]
  rw [List.take_of_length_le (by omega)]
  simp
theorem Dk.Calm.crashed {D : Dk} {m : Nat} (h : D.Calm m) (ss : List Int) : (D.crashed ss).Calm m := ⟨h.ok.crashed ss, rfl, rfl, by
  show (tearAll D.dur (D.pend.zip ss)).length = m
  rw [tearAll_length _ _ (h.ok.zip ss), h.len]⟩
theorem now_length {D : Dk} {m : Nat} (h : D.Calm m) : D.now.length = m := by show (layAll D.dur D.pend).length = m; rw [layAll_length _ _ h.ok.fit, h.len]
theorem Sts.start {w W : World} (h : Below w.heap.size w W) : Sts w W (fun _ => False) [] := Sts.none_ h (fun k hk => hk.elim)

/-- What was laid between two worlds, none of the disks may turn. -/
theorem Sts.fence {w0 W W1 : World} {Q : Nat → Prop} {L : List (Nat × Dk)} (h : Sts w0 W Q L) (hb : Below W.heap.size W W1) : Sts w0 W1 (fun k => Q k ∨ (W.heap.size ≤ k ∧ k < W1.heap.size)) L :=
  h.more hb (fun k hk => ⟨hk.imp id (fun h => h.1), hk.elim (fun hq => Nat.lt_of_lt_of_le (h.lt k hq) hb.size) (fun h => h.2)⟩)
theorem R_kept {α : Type} {d : Kd α} {e : Nat} {w w1 : World} {base : Nat} {ok : Nat → Prop} {v : Value} {xs : List α} (h : d.R e w base ok v xs) (hk : ∀ j, base ≤ j → j < w.heap.size → w1.heap[j]? = w.heap[j]?) : d.R e w1 base ok v xs :=
  Kd.R_mono (Kd.R_step (Kd.R_bound h) (fun j hj hlt => hk j hj.2.1 hlt)) (fun _ h => h.1)

set_option maxRecDepth 100000 in
set_option maxHeartbeats 4000000 in
theorem DiskDurable_calls (size : Int) (A1 : Option Addr) (c1 : Nat) (l : List P.S44) (A2 : Option Addr) (c2 : Nat) (ss : List Int) (w : World) (hC1 : Kd.C P.k44 w A1 l.length l) (hc1 : l.length ≤ c1) (hC2 : Kd.C (Kd.int .i64) w A2 ss.length ss) :
    Calls Try.prog 5 #[.int .i64 size, .slice A1 l.length c1, .slice A2 ss.length c2] w fun e w' => e = .returned (.bool true) ∧ Below w.heap.size w w' := by
  have HC1 := Aside0.mk hC1
  have HC2 := Aside0.mk hC2
  clear hC1 hC2
  go_enter Try.func5, Try.ntmps5
  go_wp2_with fail
  refine (awake13 _).mono ?_
  rintro e w1 ⟨rfl, hb⟩
  have HB1 := Aside0.mk hb
  clear hb
  go_wp2_with fail
  refine (few_calls size A1 c1 l w1 (Kd.C_below HC1.out HB1.out) hc1).mono ?_
  rintro e w2 ⟨r, rfl, hr, hb⟩
  have HB2 := Aside0.mk (below_step HB1.out hb)
  clear hb
  cases r with
  | false =>
    go_wp2_with fail
    go_ret
    exact ⟨rfl, HB2.out⟩
  | true =>
    have F := Aside0.mk (hr rfl)
    clear hr
    by_cases h20 : 20 < ss.length
    · go_wp2_with fail
      go_ret
      exact ⟨rfl, HB2.out⟩
    obtain ⟨m, rfl⟩ := Int.eq_ofNat_of_zero_le (show 0 ≤ size by have := F.out.1; omega)
    have N := Aside0.mk (show 1 ≤ m ∧ m ≤ 64 ∧ l.length ≤ 20 ∧ (∀ x ∈ l, x.f3.length ≤ 64) from ⟨by have := F.out.1; omega, by have := F.out.2.1; omega, F.out.2.2.1, fun x hx => (F.out.2.2.2 x hx).1⟩)
    have CW := Aside0.mk (show (wrD m [] l).Calm m by have := (wrD_take m [] l l.length N.out.1 N.out.2.1 (by simp) N.out.2.2.1).1; rwa [List.take_length] at this)
    have CS := Aside0.mk CW.out.synced
    have EC := Aside0.mk (show (wrD m [] l).synced.crashed ss = (wrD m [] l).synced by
      obtain ⟨c, f⟩ := (show (wrD m [] l).cnt = -1 ∧ (wrD m [] l).failed = false from ⟨CW.out.cnt, CW.out.failed⟩)
      simp [Dk.crashed, Dk.synced, tearAll, c, f])
    go_wp2_with fail
    refine (written_calls (w0 := w) (W := w2) (Q := fun _ => False) (L := []) m none 0 [] A1 c1 l (Sts.start HB2.out) N.out.1 N.out.2.1 (by simp) N.out.2.2.1 N.out.2.2.2 (Kd.C_nil _ _) (Nat.le_refl _) HC1.out hc1).mono ?_
    rintro e w3 ⟨g, rfl, hs, _⟩
    have S3 := Aside0.mk hs
    clear hs
    go_wp2_with fail
    refine (S3.out.sync 0 rfl CW.out.ok).mono ?_
    rw [CS.out.2]
    rintro e w4 ⟨rfl, hs, _⟩
    have S4 := Aside0.mk (show Sts w w4 (fun _ => False) [(g, (wrD m [] l).synced)] from hs)
    clear hs
    go_wp2_with fail
    refine (S4.out.pending 0 rfl).mono ?_
    rw [show (wrD m [] l).synced.pend.length = 0 from rfl]
    rintro e w' ⟨rfl, rfl⟩
    go_wp2_with fail
    refine (S4.out.read 0 rfl CS.out.1.ok 0 m).mono ?_
    rw [read_all CS.out.1]
    rintro e w5 ⟨v, rfl, hR, hB⟩
    have S5 := Aside0.mk (S4.out.fence hB)
    obtain ⟨A5, c5, rfl, hc5, hC5⟩ := Kd.R_reads hR
    have R5 := Aside0.mk hR
    clear hR hB hC5
    go_wp2_with fail
    refine (S5.out.crash_arg 0 rfl CS.out.1.ok A2 c2 ss HC2.out).mono ?_
    rw [EC.out]
    rintro e w6 ⟨rfl, hs, hk⟩
    have S6 := Aside0.mk (show Sts w w6 _ [(g, (wrD m [] l).synced)] from hs)
    have R6 := Aside0.mk (R_kept (w1 := w6) R5.out (fun j h1 h2 => hk j (.inr ⟨h1, h2⟩)))
    clear hs hk
    go_wp2_with fail
    refine (S6.out.read 0 rfl CS.out.1.ok 0 m).mono ?_
    rw [read_all CS.out.1]
    rintro e w7 ⟨v, rfl, hR, hB⟩
    have HB7 := Aside0.mk (below_step S6.out.bel hB)
    have R7 := Aside0.mk (Kd.R_below R6.out hB)
    obtain ⟨A7, c7, rfl, hc7, hC7⟩ := Kd.R_reads hR
    have HC7 := Aside0.mk hC7
    clear hR hB hC7
    go_wp2_with fail
    refine (Same_calls A5 c5 A7 c7 (wrD m [] l).synced.now w7 ?_ hc5 HC7.out hc7).mono ?_
    · obtain ⟨_, _, e, _, h⟩ := Kd.R_reads R7.out
      injection e with e1 e2 e3
      subst e1
      exact h
    rintro e w8 ⟨rfl, hb⟩
    have HB8 := Aside0.mk (below_step HB7.out hb)
    clear hb
    go_wp2_with fail
    go_ret
    exact ⟨rfl, HB8.out⟩
end Go.Proofs.Ytbbokpkpdnppjaa
