/- 'written': a disk on which data is durable and further writes are pending. -/
import Derived.Test.YtbbokpkpdnppjaaB3
import Derived.Test.YtbbokpkpdnppjaaC2
import Derived.Test.YtbbokpkpdnppjaaPx1
namespace Go.Proofs.Ytbbokpkpdnppjaa
open Go.RowKit Go.Proofs.YtbbokpkpdnppjaaW.PrintWords Go.Proofs.YtbbokpkpdnppjaaW.PrintLast Go.Proofs.YtbbokpkpdnppjaaW.PrintMore
set_option linter.unusedVariables false
set_option linter.unusedSimpArgs false

/-- A disk whose calls don't fail. -/
structure Dk.Calm (D : Dk) (m : Nat) : Prop where
  ok : D.Ok
  failed : D.failed = false
  cnt : D.cnt = -1
  len : D.dur.length = m
theorem Dk.Calm.write {D : Dk} {m : Nat} (h : D.Calm m) (hn : D.pend.length < 1000) (at_ : Int) (l : List Int) : (D.write at_ l).1.Calm m ∧ (D.write at_ l).1.pend.length ≤ D.pend.length + 1 := by
  have hk := h.ok.write hn at_ l
  cases hi : insd D.dur.length at_ l.length with
  | true =>
    rw [write_good h.failed h.cnt at_ l hi] at hk ⊢
    exact ⟨⟨hk, h.failed, h.cnt, h.len⟩, by simp [Dk.wrote]⟩
  | false =>
    have e : D.write at_ l = (D, 2) := by simp [Dk.write, h.failed, hi]
    rw [e]
    exact ⟨h, by simp⟩
theorem Dk.Calm.synced {D : Dk} {m : Nat} (h : D.Calm m) : D.synced.Calm m ∧ D.sync = (D.synced, 0) := by
  refine ⟨⟨h.ok.synced, h.failed, h.cnt, ?_⟩, sync_ok h.failed h.cnt⟩
  show (layAll D.dur D.pend).length = m
  rw [layAll_length _ _ h.ok.fit, h.len]
theorem Dk.Calm.fresh (m : Nat) (h1 : 1 ≤ m) (h2 : m ≤ 64) : (Dk.fresh m).Calm m := ⟨Dk.fresh_ok m h1 (by omega), rfl, rfl, by simp [Dk.fresh]⟩

def put1 (D : Dk) (x : P.S44) : Dk := (D.write x.f1 x.f3).1
/-- The disk that 'written' returns. -/
def wr0 (m : Nat) (data : List Int) : Dk := ((Dk.fresh m).wrote 0 data).synced
def wrD (m : Nat) (data : List Int) (l : List P.S44) : Dk := l.foldl put1 (wr0 m data)
theorem wr0_calm (m : Nat) (data : List Int) (h1 : 1 ≤ m) (h2 : m ≤ 64) (hd : data.length ≤ m) : ((Dk.fresh m).write 0 data) = ((Dk.fresh m).wrote 0 data, 0) ∧ ((Dk.fresh m).wrote 0 data).Calm m ∧ (wr0 m data).Calm m ∧ (wr0 m data).pend = [] ∧ ((Dk.fresh m).wrote 0 data).sync = (wr0 m data, 0) := by
  have hf := Dk.Calm.fresh m h1 h2
  have hi : insd (Dk.fresh m).dur.length 0 data.length = true := by simp [insd, Dk.fresh]; omega
  have e := write_good hf.failed hf.cnt 0 data hi
  have hw := (hf.write (by simp [Dk.fresh]) 0 data).1
  rw [e] at hw
  exact ⟨e, hw, hw.synced.1, rfl, hw.synced.2⟩
theorem wrD_take (m : Nat) (data : List Int) (l : List P.S44) (k : Nat) (h1 : 1 ≤ m) (h2 : m ≤ 64) (hd : data.length ≤ m) (hl : l.length ≤ 20) : (wrD m data (l.take k)).Calm m ∧ (wrD m data (l.take k)).pend.length ≤ 20 := by
  have : ∀ (t : List P.S44) (D : Dk), D.Calm m → D.pend.length + t.length ≤ 20 → (t.foldl put1 D).Calm m ∧ (t.foldl put1 D).pend.length ≤ 20 := by
    intro t
    induction t with
    | nil => exact fun D h h2 => ⟨h, by simpa using h2⟩
    | cons x t ih =>
      intro D h h2
      simp only [List.length_cons] at h2
      obtain ⟨h3, h4⟩ := h.write (by omega) x.f1 x.f3
      exact ih _ h3 (by have : (put1 D x).pend.length ≤ D.pend.length + 1 := h4; omega)
  obtain ⟨_, _, h3, h4, _⟩ := wr0_calm m data h1 h2 hd
  exact this _ _ h3 (by rw [h4]; simp; omega)
theorem wrD_succ (m : Nat) (data : List Int) (l : List P.S44) (k : Nat) (hk : k < l.length) : wrD m data (l.take (k + 1)) = ((wrD m data (l.take k)).write (P.rd_T44 l (k : Int)).f1 (P.rd_T44 l (k : Int)).f3).1 := by
  have e : P.rd_T44 l (k : Int) = l[k] := by simp [P.rd_T44, List.getD_eq_getElem?_getD, hk]
  have e2 : l.take (k + 1) = l.take k ++ [l[k]] := by rw [List.take_add_one, List.getElem?_eq_getElem hk]; rfl
  rw [e, wrD, wrD, e2, List.foldl_append]
  rfl

set_option maxRecDepth 100000 in
set_option maxHeartbeats 4000000 in
theorem written_calls {w0 W : World} {Q : Nat → Prop} {L : List (Nat × Dk)} (m : Nat) (A0 : Option Addr) (c0 : Nat) (data : List Int) (A1 : Option Addr) (c1 : Nat) (l : List P.S44) (h : Sts w0 W Q L) (h1 : 1 ≤ m) (h2 : m ≤ 64)
    (hd : data.length ≤ m) (hl : l.length ≤ 20) (hl2 : ∀ x ∈ l, x.f3.length ≤ 64) (hC0 : Kd.C (Kd.int .u8) w0 A0 data.length data) (hc0 : data.length ≤ c0) (hC1 : Kd.C P.k44 w0 A1 l.length l) (hc1 : l.length ≤ c1) :
    Calls Try.prog 21 #[.int .i64 (m : Int), .int .i64 0, .slice A0 data.length c0, .slice A1 l.length c1] W fun e w' => ∃ g, e = .returned (.pointer (some ⟨g, 0, none⟩)) ∧ Sts w0 w' Q ((g, wrD m data l) :: L) ∧ KeepP Q W w' := by
  have HC0 := Aside0.mk hC0
  have HC1 := Aside0.mk hC1
  have S0 := Aside0.mk h
  have N := Aside0.mk (show 1 ≤ m ∧ m ≤ 64 ∧ data.length ≤ m ∧ l.length ≤ 20 ∧ data.length ≤ 140737488355328 from ⟨h1, h2, hd, hl, by omega⟩)
  have N2 := Aside0.mk hl2
  have E0 := Aside0.mk (wr0_calm m data h1 h2 hd)
  have OKF := Aside0.mk (Dk.fresh_ok m h1 (by omega))
  clear hC0 hC1 h h1 h2 hd hl hl2
  go_enter Try.func21, Try.ntmps21
  go_wp2_with fail
  refine (S0.out.new m N.out.1 (by have := N.out.2.1; omega)).mono ?_
  rintro e w1 ⟨g, rfl, hs, hkp⟩
  have S1 := Aside0.mk hs
  have K1 := Aside0.mk hkp
  clear hs hkp
  go_wp2_with fail
  refine (S1.out.write_arg 0 rfl OKF.out 0 A0 c0 data HC0.out hc0 N.out.2.2.2.2).mono ?_
  rw [E0.out.1]
  rintro e w2 ⟨rfl, hs, hkp⟩
  have S2 := Aside0.mk (show Sts w0 w2 Q ((g, (Dk.fresh m).wrote 0 data) :: L) from hs)
  have K2 := Aside0.mk (K1.out.trans hkp)
  clear hs hkp
  go_wp2_with fail
  refine (S2.out.sync 0 rfl E0.out.2.1.ok).mono ?_
  rw [E0.out.2.2.2.2]
  rintro e w3 ⟨rfl, hs, hkp⟩
  have S3 := Aside0.mk (show Sts w0 w3 Q ((g, wr0 m data) :: L) from hs)
  have K3 := Aside0.mk (K2.out.trans hkp)
  clear hs hkp
  go_wp2_with fail
  go_loopw [11] (fun i wr => ∃ k : Nat, k ≤ l.length ∧ i = .int .i64 (k : Int) ∧ Aside0 (Sts w0 wr Q ((g, wrD m data (l.take k)) :: L)) ∧ Aside0 (KeepP Q W wr)) (fun i _ => l.length - (intOf i).toNat)
  case atStart => exact ⟨0, Nat.zero_le _, rfl, S3, K3⟩
  case round =>
    obtain ⟨k, hk, rfl, SK, KK⟩ := hrel
    by_cases hlt : k < l.length
    · have hlt' : ((k : Int) < (l.length : Int)) := by omega
      have hC1 := Kd.C_below HC1.out SK.out.bel
      obtain ⟨ad, A3, c3, A4, c4, rfl, z0, z1, z2, z3, z4, lz3, gz3, lz4, gz4⟩ := P.at_T44 HC1.out (k : Int) (by omega) (by omega)
      have y1 := (SK.out.bel.cell (p := ⟨(ad.add ((k : Int).toNat * 5)).block, (ad.add ((k : Int).toNat * 5)).off + 1, none⟩) (World.block_lt_of_cell? _ _ z1)).trans z1
      have y3 := (SK.out.bel.cell (p := ⟨(ad.add ((k : Int).toNat * 5)).block, (ad.add ((k : Int).toNat * 5)).off + 3, none⟩) (World.block_lt_of_cell? _ _ z3)).trans z3
      clear z0 z1 z2 z3 z4 hC1 gz4 lz4
      simp only [Int.toNat_natCast] at y1 y3
      have hl20 := N.out.2.2.2.1
      have G3 := Aside0.mk gz3
      clear gz3
      have OKK := Aside0.mk (wrD_take m data l k N.out.1 N.out.2.1 N.out.2.2.1 N.out.2.2.2.1)
      have HL3 := Aside0.mk (show (P.rd_T44 l (k : Int)).f3.length ≤ 140737488355328 by
        have e : P.rd_T44 l (k : Int) = l[k] := by simp [P.rd_T44, List.getD_eq_getElem?_getD, hlt]
        rw [e]; exact Nat.le_trans (N2.out _ (List.getElem_mem hlt)) (by omega))
      have ES := Aside0.mk (wrD_succ m data l k hlt)
      go_wp2_with fail
      refine start_ (n := 12) (S := fun w' => w'.cell? ⟨(ad.add (k * 5)).block, (ad.add (k * 5)).off + 1, none⟩ = some (.int .i64 (P.rd_T44 l k).f1) ∧ w'.cell? ⟨(ad.add (k * 5)).block, (ad.add (k * 5)).off + 3, none⟩ = some (.slice A3 (P.rd_T44 l k).f3.length c3)) (ds := [11]) #[false, false, false, false, false, false, false, false, false, false, false, false] (by kernel_rfl) rfl rfl ⟨y1, y3⟩ (fun hHeld => ?_)
      refine pure_ (i := 0) (N := some 41) (v := ?_) (a' := ?_) #[true, false, false, false, false, false, false, false, false, false, false, false] rfl rfl (by kernel_rfl) (fun _ _ _ h => h) (Or.inl ⟨by rfl, ?_⟩) ?_ ?_
      rotate_left
      · intro w'
        go_simp
        with_reducible rfl
      rotate_left
      · simp only [Act.put, List.setIfInBounds_toArray, List.set_cons_zero, List.set_cons_succ, i64_w, i32_w]
        rfl
      refine pure_ (i := 1) (N := some 42) (v := ?_) (a' := ?_) #[true, true, false, false, false, false, false, false, false, false, false, false] rfl rfl (by kernel_rfl) (fun _ _ _ h => h) (Or.inl ⟨by rfl, ?_⟩) ?_ ?_
      rotate_left
      · intro w'
        go_simp
        with_reducible rfl
      rotate_left
      · simp only [Act.put, List.setIfInBounds_toArray, List.set_cons_zero, List.set_cons_succ, i64_w, i32_w]
        rfl
      refine pure_ (i := 2) (N := some 43) (v := ?_) (a' := ?_) #[true, true, true, false, false, false, false, false, false, false, false, false] rfl rfl (by kernel_rfl) (fun _ _ _ h => h) (Or.inl ⟨by rfl, ?_⟩) ?_ ?_
      rotate_left
      · intro w'
        go_simp
        with_reducible rfl
      rotate_left
      · simp only [Act.put, List.setIfInBounds_toArray, List.set_cons_zero, List.set_cons_succ, i64_w, i32_w]
        rfl
      refine pure_ (i := 3) (N := some 44) (v := ?_) (a' := ?_) #[true, true, true, true, false, false, false, false, false, false, false, false] rfl rfl (by kernel_rfl) (fun _ _ _ h => h) (Or.inl ⟨by rfl, ?_⟩) ?_ ?_
      rotate_left
      · intro w'
        go_simp
        with_reducible rfl
      rotate_left
      · simp only [Act.put, List.setIfInBounds_toArray, List.set_cons_zero, List.set_cons_succ, i64_w, i32_w]
        rfl
      refine pure_ (i := 4) (N := some 45) (v := ?_) (a' := ?_) #[true, true, true, true, true, false, false, false, false, false, false, false] rfl rfl (by kernel_rfl) (fun _ _ _ h => h) (Or.inl ⟨by rfl, ?_⟩) ?_ ?_
      rotate_left
      · intro w'
        go_simp
        with_reducible rfl
      rotate_left
      · simp only [Act.put, List.setIfInBounds_toArray, List.set_cons_zero, List.set_cons_succ, i64_w, i32_w]
        rfl
      refine take_ (i := 5) (N := some 46) (v := ?_) (a' := ?_) #[true, true, true, true, true, true, false, false, false, false, false, false] rfl rfl (by kernel_rfl) (fun _ _ _ h => h) (Or.inl ⟨by rfl, ?_⟩) hHeld ?_ ?_
      rotate_left
      · rintro w' ⟨s0, s1⟩
        go_simp
        with_reducible rfl
      rotate_left
      · simp only [Act.put, List.setIfInBounds_toArray, List.set_cons_zero, List.set_cons_succ, i64_w, i32_w]
        rfl
      refine pure_ (i := 6) (N := some 47) (v := ?_) (a' := ?_) #[true, true, true, true, true, true, true, false, false, false, false, false] rfl rfl (by kernel_rfl) (fun _ _ _ h => h) (Or.inl ⟨by rfl, ?_⟩) ?_ ?_
      rotate_left
      · intro w'
        go_simp
        with_reducible rfl
      rotate_left
      · simp only [Act.put, List.setIfInBounds_toArray, List.set_cons_zero, List.set_cons_succ, i64_w, i32_w]
        rfl
      refine pure_ (i := 7) (N := some 48) (v := ?_) (a' := ?_) #[true, true, true, true, true, true, true, true, false, false, false, false] rfl rfl (by kernel_rfl) (fun _ _ _ h => h) (Or.inl ⟨by rfl, ?_⟩) ?_ ?_
      rotate_left
      · intro w'
        go_simp
        with_reducible rfl
      rotate_left
      · simp only [Act.put, List.setIfInBounds_toArray, List.set_cons_zero, List.set_cons_succ, i64_w, i32_w]
        rfl
      refine pure_ (i := 8) (N := some 49) (v := ?_) (a' := ?_) #[true, true, true, true, true, true, true, true, true, false, false, false] rfl rfl (by kernel_rfl) (fun _ _ _ h => h) (Or.inl ⟨by rfl, ?_⟩) ?_ ?_
      rotate_left
      · intro w'
        go_simp
        with_reducible rfl
      rotate_left
      · simp only [Act.put, List.setIfInBounds_toArray, List.set_cons_zero, List.set_cons_succ, i64_w, i32_w]
        rfl
      refine pure_ (i := 9) (N := some 50) (v := ?_) (a' := ?_) #[true, true, true, true, true, true, true, true, true, true, false, false] rfl rfl (by kernel_rfl) (fun _ _ _ h => h) (Or.inl ⟨by rfl, ?_⟩) ?_ ?_
      rotate_left
      · intro w'
        go_simp
        with_reducible rfl
      rotate_left
      · simp only [Act.put, List.setIfInBounds_toArray, List.set_cons_zero, List.set_cons_succ, i64_w, i32_w]
        rfl
      refine take_ (i := 10) (N := some 51) (v := ?_) (a' := ?_) #[true, true, true, true, true, true, true, true, true, true, true, false] rfl rfl (by kernel_rfl) (fun _ _ _ h => h) (Or.inl ⟨by rfl, ?_⟩) hHeld ?_ ?_
      rotate_left
      · rintro w' ⟨s0, s1⟩
        go_simp
        with_reducible rfl
      rotate_left
      · simp only [Act.put, List.setIfInBounds_toArray, List.set_cons_zero, List.set_cons_succ, i64_w, i32_w]
        rfl
      refine last_ (i := 11) (N := some 52) #[true, true, true, true, true, true, true, true, true, true, true, true] rfl rfl (by kernel_rfl) (by decide) (fun K hK => ?_)
      refine goes_ Try.func19 (by kernel_rfl) rfl #[.pointer (some ⟨g, 0, none⟩), .int .i64 (P.rd_T44 l k).f1, .slice A3 (P.rd_T44 l k).f3.length c3] (by rfl) rfl rfl (by (try simp only [List.map_toArray, List.map_cons, List.map_nil]); first | done | rfl) ?_
      refine ((SK.out.drewN _).write_arg 0 rfl OKK.out.1.ok _ A3 c3 _ G3.out lz3 HL3.out).mono ?_
      rintro e w4 ⟨rfl, hs, hkp⟩
      refine ⟨_, rfl, ?_⟩
      have S4 := Aside0.mk (show Sts w0 w4 Q ((g, ((wrD m data (l.take k)).write (P.rd_T44 l (k : Int)).f1 (P.rd_T44 l (k : Int)).f3).1) :: L) from hs)
      have K4 := Aside0.mk (KK.out.trans (show KeepP Q wr w4 from hkp))
      clear hs hkp
      refine hK.out _ _ ?_
      clear hK K
      refine norm_ (a' := ?_) ?_ ?_
      rotate_left
      · show Act.put _ (some 52) _ = _
        simp only [Act.put, List.setIfInBounds_toArray, List.set_cons_zero, List.set_cons_succ, i64_w, i32_w]
        rfl
      refine done_ (by kernel_rfl) ?_
      go_wp2_with fail
      go_roundw
      case rel => exact ⟨k + 1, hlt, by go_num, Aside0.mk (by rw [ES.out]; exact S4.out), K4⟩
      case measure => simp [intOf]; omega
    · obtain rfl : k = l.length := by omega
      go_wp2_with fail
      go_ret
      exact ⟨g, rfl, by have := SK.out; rwa [List.take_length] at this, KK.out⟩
end Go.Proofs.Ytbbokpkpdnppjaa
