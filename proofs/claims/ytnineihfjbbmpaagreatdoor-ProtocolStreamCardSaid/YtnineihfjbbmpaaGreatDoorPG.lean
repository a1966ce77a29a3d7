/- The frames of messages. -/
import Derived.Test.YtnineihfjbbmpaaGreatDoorPF
import Derived.Lib.AppendIntMem
namespace Go.Proofs.YtnineihfjbbmpaaGreatDoor.P
open Go.RowKit Go.Proofs.YtnineihfjbbmpaaGreatDoorW.PrintWords Go.Proofs.YtnineihfjbbmpaaGreatDoorW.PrintLast Go.Proofs.YtnineihfjbbmpaaGreatDoorW.PrintMore
set_option exponentiation.threshold 8200
set_option linter.unusedVariables false
set_option linter.unusedSimpArgs false
/-! ### Frames -/
/-- Bytes as numbers. -/
def iv (l : List UInt8) : List Int := l.map fun b => (b.toNat : Int)
theorem iv_len (l : List UInt8) : (iv l).length = l.length := by unfold iv; rw [List.length_map]
theorem iv_append (a b : List UInt8) : iv (a ++ b) = iv a ++ iv b := by unfold iv; rw [List.map_append]
theorem iv_cons (b : UInt8) (l : List UInt8) : iv (b :: l) = (b.toNat : Int) :: iv l := rfl
theorem iv_inj {a b : List UInt8} (h : iv a = iv b) : a = b := by
  induction a generalizing b with
  | nil => cases b with
    | nil => rfl
    | cons y b => cases h
  | cons x a ih =>
    cases b with
    | nil => cases h
    | cons y b =>
      rw [iv_cons, iv_cons] at h
      injection h with h1 h2
      rw [ih h2, UInt8.toNat_inj.1 (show x.toNat = y.toNat by omega)]
theorem nums_iv (l : List UInt8) : strOfNums (iv l) = ⟨l.toArray⟩ := by
  unfold strOfNums iv
  rw [List.map_map]
  congr 2
  conv => rhs; rw [← List.map_id l]
  apply List.map_congr_left
  intro x _
  simp
theorem dd_lt {r : Nat} (h : r < 10) : Lib.decDigits r = [UInt8.ofNat (48 + r)] := by rw [Lib.decDigits, dif_pos h]
theorem dd_step (m d : Nat) (hm : 0 < m) (hd : d < 10) : Lib.decDigits (m * 10 + d) = Lib.decDigits m ++ [UInt8.ofNat (48 + d)] := by
  rw [Lib.decDigits, dif_neg (by omega), show (m * 10 + d) / 10 = m by omega, show (m * 10 + d) % 10 = d by omega]
theorem dig_nat {d : Nat} (h : d < 10) : (UInt8.ofNat (48 + d)).toNat = 48 + d := by
  rw [UInt8.toNat_ofNat']
  omega
/-- The value of digits behind a number. -/
def dval (n : Nat) (l : List UInt8) : Nat := l.foldl (fun n b => 10 * n + (b.toNat - 48)) n
theorem dval_append (n : Nat) (a b : List UInt8) : dval n (a ++ b) = dval (dval n a) b := by
  unfold dval
  rw [List.foldl_append]
theorem dval_ge (l : List UInt8) : ∀ n, n ≤ dval n l := by
  induction l with
  | nil => intro n; exact Nat.le_refl _
  | cons b l ih =>
    intro n
    have := ih (10 * n + (b.toNat - 48))
    show n ≤ dval (10 * n + (b.toNat - 48)) l
    omega
/-- The digits of a number: decimal digits, its value, no zero first, not none, few. -/
theorem dd_facts (v : Nat) : (∀ b ∈ Lib.decDigits v, 48 ≤ b.toNat ∧ b.toNat ≤ 57) ∧ dval 0 (Lib.decDigits v) = v ∧ (0 < v → ∃ b l, Lib.decDigits v = b :: l ∧ b.toNat ≠ 48) ∧ 1 ≤ (Lib.decDigits v).length ∧ (Lib.decDigits v).length ≤ v + 1 ∧ (v = 0 → Lib.decDigits v = [48]) := by
  induction v using Nat.strongRecOn with
  | _ v ih =>
    by_cases h : v < 10
    · rw [dd_lt h]
      have e := dig_nat h
      refine ⟨?_, ?_, ?_, Nat.le_refl _, ?_, ?_⟩
      · intro b hb
        rw [List.mem_singleton] at hb
        subst hb
        omega
      · show 10 * 0 + ((UInt8.ofNat (48 + v)).toNat - 48) = v
        omega
      · intro hv
        exact ⟨_, _, rfl, by omega⟩
      · show 1 ≤ v + 1
        omega
      · intro hv
        subst hv
        rfl
    · obtain ⟨m, d, hd, rfl⟩ : ∃ m d, d < 10 ∧ v = m * 10 + d := ⟨v / 10, v % 10, by omega, by omega⟩
      obtain ⟨i1, i2, i3, i4, i5, _⟩ := ih m (by omega)
      rw [dd_step m d (by omega) hd]
      have e := dig_nat hd
      refine ⟨?_, ?_, ?_, ?_, ?_, ?_⟩
      · intro b hb
        rw [List.mem_append, List.mem_singleton] at hb
        rcases hb with hb | hb
        · exact i1 b hb
        · subst hb
          omega
      · rw [dval_append, i2]
        show 10 * m + ((UInt8.ofNat (48 + d)).toNat - 48) = m * 10 + d
        omega
      · intro _
        obtain ⟨b, l, hl, hb⟩ := i3 (by omega)
        exact ⟨b, _, by rw [hl]; rfl, hb⟩
      · rw [List.length_append]
        show 1 ≤ (Lib.decDigits m).length + 1
        omega
      · rw [List.length_append]
        show (Lib.decDigits m).length + 1 ≤ m * 10 + d + 1
        omega
      · omega
theorem digits_f : ∀ (n : Nat), n < 4611686018427387904 → Ev (fun k => lineageref01_Digits.f k (n : Int)) ⟨(Lib.decDigits n).toArray⟩ := by
  intro n
  induction n using Nat.strongRecOn with
  | _ n ih =>
    intro hn
    have hb : ∀ d : Nat, d < 10 → strOfNums [IntKind.u64.wrap (48 + (d : Int)) % 256] = ⟨#[UInt8.ofNat (48 + d)]⟩ := by
      intro d hd
      have e : IntKind.u64.wrap (48 + (d : Int)) % 256 = ((48 + d : Nat) : Int) := by
        rw [IntKind.wrap_u64]
        omega
      rw [e]
      show (⟨([UInt8.ofNat ((48 + d : Nat) : Int).toNat]).toArray⟩ : ByteArray) = _
      rw [Int.toNat_natCast]
    by_cases h : n < 10
    · refine Ev.step (fun k => ?_) (Ev.now _)
      rw [lineageref01_Digits.f, if_pos (by omega), hb n h, dd_lt h]
    · obtain ⟨m, d, hd, rfl⟩ : ∃ m d, d < 10 ∧ n = m * 10 + d := ⟨n / 10, n % 10, by omega, by omega⟩
      have hq : IntKind.u64.wrap (Int.tdiv ((m * 10 + d : Nat) : Int) 10) = (m : Int) := by
        rw [Int.tdiv_eq_ediv_of_nonneg (by omega), IntKind.wrap_u64]
        omega
      have hr : Int.tmod ((m * 10 + d : Nat) : Int) 10 = (d : Int) := by
        rw [Int.tmod_eq_emod_of_nonneg (by omega)]
        omega
      obtain ⟨K, hK⟩ := ih m (by omega) (by omega)
      have hsz : (⟨(Lib.decDigits m).toArray⟩ : ByteArray).size + (⟨#[UInt8.ofNat (48 + d)]⟩ : ByteArray).size ≤ 9223372036854775807 := by
        have h5 := (dd_facts m).2.2.2.2.1
        rw [bsize]
        show (Lib.decDigits m).length + 1 ≤ _
        omega
      have e : (⟨(Lib.decDigits m).toArray⟩ : ByteArray) ++ ⟨#[UInt8.ofNat (48 + d)]⟩ = ⟨(Lib.decDigits (m * 10 + d)).toArray⟩ := by
        rw [dd_step m d (by omega) hd]
        apply ByteArray.ext
        simp
      refine ⟨K + 1, fun k hk => ?_⟩
      obtain ⟨k, rfl⟩ : ∃ j, k = j + 1 := ⟨k - 1, by omega⟩
      show lineageref01_Digits.f (k + 1) ((m * 10 + d : Nat) : Int) = _
      rw [lineageref01_Digits.f, if_neg (by omega), hq, hr, show lineageref01_Digits.f k (m : Int) = _ from hK k (by omega), Option.bind_some, Option.bind_some, hb d hd, if_pos hsz, e]
theorem itoa_calls (n : Nat) (hn : n < 4611686018427387904) (w : World) (h : Env w) : Calls Tryz.prog 19 #[.int .i64 (n : Int)] w fun e w' => e = .returned (.string ⟨(Lib.decDigits n).toArray⟩) ∧ Below w.heap.size w w' := by
  refine (Tryz.strconv_Itoa (n : Int) (by omega) (by omega) w h.1).mono ?_
  rintro e w' ⟨rfl, k, os, rfl⟩
  have e1 : Lib.itoa (n : Int) = Lib.decDigits n := by
    unfold Lib.itoa
    rw [if_neg (by omega), Int.toNat_natCast]
  rw [e1]
  exact ⟨rfl, Lib.below_grow _ w (Nat.le_refl _) k os⟩
theorem digits_calls (n : Nat) (hn : n < 4611686018427387904) (w : World) : Calls Tryz.prog 21 #[.int .u64 (n : Int)] w fun e w' => e = .returned (.string ⟨(Lib.decDigits n).toArray⟩) ∧ Below w.heap.size w w' := by
  obtain ⟨k, hk⟩ := (digits_f n hn).rounds
  exact lineageref01_Digits.calls k _ _ w hk
/-- The frame of a message. -/
def frameB (k b : List UInt8) : List UInt8 := k ++ [32] ++ Lib.decDigits b.length ++ [10] ++ b
/-- What Encode answers. -/
def encL (k b : List UInt8) : List UInt8 × Int := if kindB k = false then ([], 1) else if 1048576 < b.length then ([], 6) else (frameB k b, 0)
/-- A row of bytes and an error are returned. -/
def EncP (l : List UInt8) (ec : Int) (w : World) (e : Ending) (w' : World) : Prop := ∃ A c, e = .returned (.tuple #[.slice A l.length c, .int .i64 ec]) ∧ Kd.C (Kd.int .u8) w' A (iv l).length (iv l) ∧ l.length ≤ c ∧ Below w.heap.size w w'
theorem EncP.intro {l : List UInt8} {ec : Int} {w : World} {e : Ending} {w' : World} (h : ∃ A c, e = .returned (.tuple #[.slice A l.length c, .int .i64 ec]) ∧ Kd.C (Kd.int .u8) w' A (iv l).length (iv l) ∧ l.length ≤ c ∧ Below w.heap.size w w') : EncP l ec w e w' := h
/-- '[]byte(s)': the row. -/
theorem conv_C (w : World) (l : List UInt8) (hl : l.length ≤ 4611686018427387904) : Kd.C (Kd.int .u8) (Lib.bytesWorld w 5 ⟨l.toArray⟩) (some ⟨w.heap.size, 0, none⟩) (iv l).length (iv l) := by
  refine Kd.C_of_reads (d := (0 : Int)) (h1 := fun _ => rfl) ⟨rfl, by rw [iv_len]; omega, fun _ => ⟨_, rfl, fun j hj => ?_⟩⟩
  rw [iv_len] at hj
  have h := Lib.bytesWorld_cell w 5 ⟨l.toArray⟩ j (by rw [bsize]; exact hj)
  rw [add_at, Nat.zero_add, h]
  unfold iv
  simp [hj]
theorem cell_below {w w' : World} {a : Addr} {v : Value} (h : w.cell? a = some v) (hb : Below w.heap.size w w') : w'.cell? a = some v := (hb.cell (World.block_lt_of_cell? _ _ h)).trans h

end Go.Proofs.YtnineihfjbbmpaaGreatDoor.P
