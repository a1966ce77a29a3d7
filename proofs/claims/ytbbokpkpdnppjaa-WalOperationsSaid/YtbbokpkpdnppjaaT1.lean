/- WalOperations: bytes, and what stands through the operations. -/
import Derived.Test.YtbbokpkpdnppjaaM13
namespace Go.Proofs.Ytbbokpkpdnppjaa
open Go.RowKit
set_option linter.unusedVariables false
set_option linter.unusedSimpArgs false
theorem Bytes.append {l m : List Int} (h : Bytes l) (g : Bytes m) : Bytes (l ++ m) := fun x hx => (List.mem_append.1 hx).elim (h x) (g x)
theorem Bytes.take {l : List Int} (h : Bytes l) (k : Nat) : Bytes (l.take k) := fun x hx => h x (List.mem_of_mem_take hx)
theorem Bytes.zeros (n : Nat) : Bytes (List.replicate n 0) := fun x hx => by rw [(List.mem_replicate.1 hx).2]; omega
theorem Bytes.putAt {d b : List Int} (h : Bytes d) (g : Bytes b) (a : Nat) : Bytes (putAt d a b) := by
 unfold Go.Proofs.Ytbbokpkpdnppjaa.putAt splice
 intro x hx
 simp only [List.mem_append] at hx
 rcases hx with hx | hx
 ·first
   | exact (h.take a) x hx
   | exact hx.elim ((h.take a) x) (g x)
 ·first
   | exact (h.drop _) x hx
   | exact hx.elim (g x) ((h.drop _) x)
theorem beBytes_bytes (n : Int) : ∀ k, Bytes (beBytes n k)
 | 0 => fun x hx => by simp [beBytes] at hx
 | k + 1 => fun x hx => by
  rw [beBytes] at hx
  rcases List.mem_cons.1 hx with rfl | hx
  ·omega
  ·exact beBytes_bytes n k x hx
theorem header_bytes (b : Int) : Bytes (header b) := (beBytes_bytes _ _).append (beBytes_bytes _ _)
theorem frame_bytes (lsn : Int) (data : List Int) (h : Bytes data) : Bytes (frame lsn data) := (((beBytes_bytes _ _).append (beBytes_bytes _ _)).append (beBytes_bytes _ _)).append h
def BD (D : Dk) : Prop := Bytes D.dur ∧ ∀ x ∈ D.pend, Bytes x.data
theorem BD.fresh (n : Nat) : BD (Dk.fresh n) := ⟨Bytes.zeros n, fun x hx => by simp [Dk.fresh] at hx⟩
theorem layAll_bytes : ∀ (l : List Wr) (d : List Int), Bytes d → (∀ x ∈ l, Bytes x.data) → Bytes (layAll d l)
 | [], _, h, _ => h
 | x :: l, d, h, g => layAll_bytes l (putAt d x.at_.toNat x.data) (h.putAt (g x (by simp)) _) (fun y hy => g y (by simp [hy]))
theorem tearAll_bytes : ∀ (l : List (Wr × Int)) (d : List Int), Bytes d → (∀ x ∈ l, Bytes x.1.data) → Bytes (tearAll d l)
 | [], _, h, _ => h
 | x :: l, d, h, g => tearAll_bytes l (tear d x) (h.putAt ((g x (by simp)).take _) _) (fun y hy => g y (by simp [hy]))
theorem BD.write {D : Dk} (h : BD D) (a : Int) (l : List Int) (hl : Bytes l) : BD (D.write a l).1 := by
 unfold Dk.write
 split
 ·exact h
 ·split
  ·exact h
  ·split
   ·exact h
   ·refine ⟨h.1, fun x hx => ?_⟩
    simp only [Dk.wrote, Dk.burnt, List.mem_append, List.mem_singleton] at hx
    rcases hx with hx | rfl
    ·exact h.2 x hx
    ·exact hl
theorem BD.sync {D : Dk} (h : BD D) : BD D.sync.1 := by
 unfold Dk.sync
 split
 ·exact h
 ·exact ⟨layAll_bytes _ _ h.1 h.2, fun x hx => by simp [Dk.synced] at hx⟩
theorem BD.crashed {D : Dk} (h : BD D) (ss : List Int) : BD (D.crashed ss) := ⟨tearAll_bytes _ _ h.1 (fun x hx => h.2 _ (List.of_mem_zip hx).1), fun x hx => by simp [Dk.crashed] at hx⟩
theorem write_dur (D : Dk) (a : Int) (l : List Int) : (D.write a l).1.dur = D.dur := by
 unfold Dk.write
 split
 ·rfl
 ·split
  ·rfl
  ·split <;> rfl
theorem write_pend (D : Dk) (a : Int) (l : List Int) : (D.write a l).1.pend.length ≤ D.pend.length + 1 := by
 unfold Dk.write
 split
 ·simp
 ·split
  ·simp
  ·split
   ·simp
   ·simp [Dk.wrote, Dk.burnt]
theorem sync_dur {D : Dk} (h : D.Ok) : D.sync.1.dur.length = D.dur.length := by
 unfold Dk.sync
 split
 ·rfl
 ·exact layAll_length _ _ h.fit
theorem sync_pend (D : Dk) : D.sync.1.pend.length ≤ D.pend.length := by
 unfold Dk.sync
 split <;> simp [Dk.synced]
theorem sync_pend0 (D : Dk) (h : D.sync.2 = 0) : D.sync.1.pend.length = 0 := by
 unfold Dk.sync at h ⊢
 split
 ·rename_i hc
  rw [if_pos hc] at h
  cases h
 ·simp [Dk.synced]
structure Inv (n k : Nat) (L : Lg) (D : Dk) : Prop where
 ok : D.Ok
 dur : D.dur.length = n
 pend : D.pend.length ≤ k
 bytes : BD D
 b0 : 0 ≤ L.base
 b1 : L.base ≤ L.end_
 b2 : L.base ≤ 4611686018427387904 + 136 * k
 fit : L.end_ - L.base + 24 ≤ n
 few : (L.recs.length : Int) ≤ L.end_ - L.base
 data : ∀ r ∈ L.recs, r.f1.length ≤ 4194304
def Lg.pos (L : Lg) : Nat := (24 + L.end_ - L.base).toNat
theorem Inv.pos_eq {n k : Nat} {L : Lg} {D : Dk} (h : Inv n k L D) (hn : n ≤ 160) (hk : k ≤ 100) : wrap64 (wrap64 (24 + L.end_) - L.base) = (L.pos : Int) ∧ L.pos ≤ D.dur.length ∧ (L.pos : Int) = 24 + L.end_ - L.base := by
 have h1 := h.b0
 have h2 := h.b1
 have h3 := h.b2
 have h4 := h.fit
 have h5 := h.dur
 unfold Lg.pos
 refine ⟨?_, by omega, by omega⟩
 rw [w64 (x := 24 + L.end_) (by omega) (by omega), w64 (by omega) (by omega)]
 omega
theorem Inv.append {n k : Nat} {L : Lg} {D : Dk} (h : Inv n k L D) (hn : n ≤ 160) (hk : k ≤ 100) (data : List Int) (hd : data.length ≤ 60) (hb : Bytes data) : Inv n (k + 1) (appendL L D L.pos data).1 (appendL L D L.pos data).2.1 := by
 obtain ⟨_, hp1, hp2⟩ := h.pos_eq hn hk
 have hlt : D.pend.length < 1000 := by have := h.pend; omega
 have h3 := h.b2
 have h1 := h.b0
 have h2 := h.b1
 have h4 := h.fit
 have h5 := h.dur
 have h6 := h.pend
 unfold appendL
 split
 ·rename_i hf
  have ew : wrap64 (L.end_ + (16 + (data.length : Int))) = L.end_ + (16 + (data.length : Int)) := w64 (by omega) (by omega)
  split
  ·refine ⟨h.ok.write hlt _ _, by rw [write_dur]; exact h.dur, Nat.le_trans (write_pend D (L.pos : Int) (frame L.end_ data)) (by omega), h.bytes.write _ _ (frame_bytes _ _ hb), h1, ?_, ?_, ?_, ?_, fun r hr => ?_⟩
   ·show L.base ≤ wrap64 _; rw [ew]; omega
   ·show L.base ≤ _; omega
   ·show wrap64 _ - L.base + 24 ≤ _; rw [ew]; omega
   ·show ((L.recs ++ [_]).length : Int) ≤ wrap64 _ - L.base
    rw [ew]
    have := h.few
    simp only [List.length_append, List.length_cons, List.length_nil]
    omega
   ·rcases List.mem_append.1 hr with hr | hr
    ·exact h.data r hr
    ·rw [List.mem_singleton.1 hr]; show data.length ≤ _; omega
  ·exact ⟨h.ok.write hlt _ _, by rw [write_dur]; exact h.dur, Nat.le_trans (write_pend D (L.pos : Int) (frame L.end_ data)) (by omega), h.bytes.write _ _ (frame_bytes _ _ hb), h1, h2, by show L.base ≤ _; omega, h4, h.few, h.data⟩
 ·exact ⟨h.ok, h.dur, by show D.pend.length ≤ _; omega, h.bytes, h1, h2, by show L.base ≤ _; omega, h4, h.few, h.data⟩
theorem Inv.syncL {n k : Nat} {L : Lg} {D : Dk} (h : Inv n k L D) : Inv n (k + 1) (syncL L D) D.sync.1 := by
 have h3 := h.b2
 have h6 := h.pend
 have h7 := sync_pend D
 unfold Go.Proofs.Ytbbokpkpdnppjaa.syncL
 split <;> exact ⟨h.ok.sync, (sync_dur h.ok).trans h.dur, by omega, h.bytes.sync, h.b0, h.b1, by show L.base ≤ _; omega, h.fit, h.few, h.data⟩
theorem Inv.after {n k : Nat} {L : Lg} {D : Dk} (h : Inv n k L D) (x : Int) (hx : x ≤ 9223372036854775807) : Inv n (k + 1) L (D.after x) :=
 ⟨h.ok.after x hx, h.dur, by have := h.pend; show D.pend.length ≤ _; omega, h.bytes, h.b0, h.b1, by have := h.b2; omega, h.fit, h.few, h.data⟩
theorem Inv.more {n k : Nat} {L : Lg} {D : Dk} (h : Inv n k L D) : Inv n (k + 1) L D :=
 ⟨h.ok, h.dur, by have := h.pend; omega, h.bytes, h.b0, h.b1, by have := h.b2; omega, h.fit, h.few, h.data⟩
/-! ### Resetting -/
def reset4 (L : Lg) (sl : Int) (D : Dk) : Lg × Dk × Int := if D.sync.2 = 0 then (⟨sl, L.end_, L.end_, L.end_, []⟩, D.sync.1, 0) else (L, D.sync.1, D.sync.2)
def reset3 (L : Lg) (sl : Int) (D : Dk) : Lg × Dk × Int := if (D.write 24 (List.replicate (L.end_ - L.base).toNat 0)).2 = 0 then reset4 L sl (D.write 24 (List.replicate (L.end_ - L.base).toNat 0)).1 else (L, (D.write 24 (List.replicate (L.end_ - L.base).toNat 0)).1, (D.write 24 (List.replicate (L.end_ - L.base).toNat 0)).2)
def reset2 (L : Lg) (sl : Int) (D : Dk) : Lg × Dk × Int := if D.sync.2 = 0 then reset3 L sl D.sync.1 else (L, D.sync.1, D.sync.2)
def reset1 (L : Lg) (sl : Int) (D : Dk) : Lg × Dk × Int := if (D.write (12 * sl) (header L.end_)).2 = 0 then reset2 L sl (D.write (12 * sl) (header L.end_)).1 else (L, (D.write (12 * sl) (header L.end_)).1, (D.write (12 * sl) (header L.end_)).2)
def Lg.side (L : Lg) : Int := if L.slot = 0 then 1 else 0
def resetL (L : Lg) (D : Dk) : Lg × Dk × Int := if L.recs.length = 0 then (L, D, 0) else reset1 L L.side D
theorem Inv.disk {n k : Nat} {L : Lg} {D D' : Dk} (h : Inv n k L D) (hk : D'.Ok) (h1 : D'.dur.length = D.dur.length) (h2 : BD D') (k' : Nat) (h3 : D'.pend.length ≤ k') (h4 : k ≤ k') : Inv n k' L D' :=
 ⟨hk, h1.trans h.dur, h3, h2, h.b0, h.b1, by have := h.b2; omega, h.fit, h.few, h.data⟩
theorem Inv.write {n k : Nat} {L : Lg} {D : Dk} (h : Inv n k L D) (hk : k ≤ 100) (a : Int) (l : List Int) (hl : Bytes l) : Inv n (k + 1) L (D.write a l).1 :=
 h.disk (h.ok.write (by have := h.pend; omega) a l) (by rw [write_dur]) (h.bytes.write a l hl) _ (by have := write_pend D a l; have := h.pend; omega) (by omega)
theorem Inv.sync {n k : Nat} {L : Lg} {D : Dk} (h : Inv n k L D) : Inv n k L D.sync.1 :=
 h.disk h.ok.sync (sync_dur h.ok) h.bytes.sync _ (by have := sync_pend D; have := h.pend; omega) (by omega)
theorem Inv.resetL {n k : Nat} {L : Lg} {D : Dk} (h : Inv n k L D) (hn : n ≤ 160) (h24 : 24 ≤ n) (hk : k ≤ 90) : Inv n (k + 1) (resetL L D).1 (resetL L D).2.1 := by
 unfold Go.Proofs.Ytbbokpkpdnppjaa.resetL
 split
 ·exact h.more
 have i1 := h.write (by omega) (12 * L.side) (header L.end_) (header_bytes _)
 unfold reset1
 generalize D.write (12 * L.side) (header L.end_) = p1 at i1 ⊢
 split
 ·have i2 := i1.sync
  unfold reset2
  split
  ·rename_i hs
   have i2 : Inv n k L p1.1.sync.1 := h.disk i2.ok (i2.dur.trans h.dur.symm) i2.bytes k (by have := sync_pend0 p1.1 hs; omega) (by omega)
   generalize p1.1.sync = p2 at i2 ⊢
   have i3 := i2.write (by omega) 24 (List.replicate (L.end_ - L.base).toNat 0) (Bytes.zeros _)
   unfold reset3
   generalize p2.1.write 24 (List.replicate (L.end_ - L.base).toNat 0) = p3 at i3 ⊢
   split
   ·have i4 := i3.sync
    unfold reset4
    have h1 := h.b0
    have h2 := h.b1
    have h3 := h.b2
    have h4 := h.fit
    split
    ·exact ⟨i4.ok, i4.dur, i4.pend, i4.bytes, by show 0 ≤ L.end_; omega, Int.le_refl _, by show L.end_ ≤ _; omega, by show L.end_ - L.end_ + 24 ≤ _; omega, by show ((([] : List G.S73).length : Nat) : Int) ≤ L.end_ - L.end_; simp, fun r hr => by simp at hr⟩
    ·exact i4
   ·exact i3
  ·exact i2
 ·exact i1
/-! ### Opening -/
theorem Path.len {b : List Int} {base : Int} {at_ : Nat} {rs : List G.S73} (h : Path b base at_ rs) : 16 * rs.length + 24 ≤ at_ := by
 induction h with
 | nil => simp
 | snoc h hf ih => simp; omega
structure Still (D : Dk) : Prop where
 pend : D.pend = []
 cnt : D.cnt = -1
 failed : D.failed = false
theorem Inv.opened {n : Nat} {D : Dk} (hok : D.Ok) (hs : Still D) (hn : D.dur.length = n) (h24 : 24 ≤ n) (hn2 : n ≤ 160) (hb : BD D) {sl ba : Int} (hbs : basesN D.dur 2 = (sl, ba)) {at_ : Nat} {rs : List G.S73} (hP : Path D.dur ba at_ rs) (k : Nat) :
  Inv n k ⟨sl, ba, ba + (at_ : Int) - 24, ba + (at_ : Int) - 24, rs⟩ (eraseD D D.dur at_).1 := by
 have hrg := basesN_range D.dur hb.1 (by omega)
 rw [hbs] at hrg
 have hle := hP.le (by omega)
 obtain ⟨_, hdur, hpend, hcnt, hfail⟩ := erase_full D D.dur rfl hs.pend hs.cnt hs.failed at_ hle.1
 have hdl : (eraseD D D.dur at_).1.dur.length = n := by rw [hdur, List.length_append, List.length_take, List.length_replicate, Nat.min_eq_left hle.1]; omega
 have h0 : 0 ≤ ba := hrg.1
 have h1 : ba ≤ 4611686018427387904 := hrg.2
 have hbig := hok.big
 refine ⟨⟨by rw [hdl]; omega, by rw [hpend]; simp, by rw [hdl]; omega, by rw [hpend]; simp, by rw [hcnt]; omega, by rw [hcnt]; omega⟩, hdl, by rw [hpend]; simp, ⟨?_, by rw [hpend]; simp⟩, h0, ?_, ?_, ?_, ?_, hP.data_le (by omega)⟩
 ·rw [hdur]; exact (hb.1.take _).append (Bytes.zeros _)
 ·show ba ≤ ba + (at_ : Int) - 24; omega
 ·show ba ≤ _; omega
 ·show ba + (at_ : Int) - 24 - ba + 24 ≤ _; omega
 ·show (rs.length : Int) ≤ ba + (at_ : Int) - 24 - ba
  have := hP.len
  omega
theorem still_fresh (n : Nat) : Still (Dk.fresh n) := ⟨rfl, rfl, rfl⟩
theorem still_crashed (D : Dk) (ss : List Int) : Still (D.crashed ss) := ⟨rfl, rfl, rfl⟩
end Go.Proofs.Ytbbokpkpdnppjaa
