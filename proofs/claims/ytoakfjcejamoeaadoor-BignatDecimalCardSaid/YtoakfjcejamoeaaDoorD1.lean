/- A part of the proofs of the rational laws. -/
import Derived.Test.YtoakfjcejamoeaaDoorD0
import Derived.Test.YtoakfjcejamoeaaDoorBx7
namespace Go.Proofs.YtoakfjcejamoeaaDoor.B
open Go.RowKit Go.Proofs.YtoakfjcejamoeaaDoorW.PrintWords Go.Proofs.YtoakfjcejamoeaaDoorW.PrintLast Go.Proofs.YtoakfjcejamoeaaDoorW.PrintMore
set_option exponentiation.threshold 8200
set_option linter.unusedVariables false
set_option linter.unusedSimpArgs false
/-! ### Decimal texts -/
theorem dvalA_append (n : Nat) (a b : List UInt8) : dvalA n (a ++ b) = dvalA (dvalA n a) b := by
 unfold dvalA
 rw [List.foldl_append]
theorem dvalA_lin (l : List UInt8) : ∀ n, dvalA n l = n * 10 ^ l.length + dvalA 0 l := by
 induction l with
 | nil => intro n; simp [dvalA]
 | cons b l ih =>
  intro n
  rw [dvalA_cons, dvalA_cons, ih, ih (10 * 0 + _), List.length_cons, Nat.pow_succ]
  generalize 10 ^ l.length = P
  generalize b.toNat - 48 = d
  generalize dvalA 0 l = V
  rw [Nat.mul_zero, Nat.zero_add, Nat.add_mul, Nat.mul_comm P 10, ← Nat.mul_assoc, Nat.mul_comm 10 n]
  omega
theorem dvalA_lt {l : List UInt8} (h : l.any oddB = false) : dvalA 0 l < 10 ^ l.length := by
 have key : ∀ (l : List UInt8) (n : Nat), l.any oddB = false → dvalA n l < (n + 1) * 10 ^ l.length := by
  intro l
  induction l with
  | nil => intro n _; simp [dvalA]
  | cons b l ih =>
   intro n h
   rw [List.any_cons, Bool.or_eq_false_iff] at h
   have hb := oddB_false h.1
   rw [dvalA_cons]
   refine Nat.lt_of_lt_of_le (ih _ h.2) ?_
   rw [List.length_cons, Nat.pow_succ, Nat.mul_comm (10 ^ l.length) 10, ← Nat.mul_assoc]
   exact Nat.mul_le_mul_right _ (by omega)
 have := key l 0 h
 omega
/-- The texts that Parse takes. -/
def textB (l : List UInt8) : Bool := !(l.isEmpty || l.any oddB || (decide (1 < l.length) && l.head? == some 48))
theorem ofNat_byte {b : UInt8} (h : 48 ≤ b.toNat ∧ b.toNat ≤ 57) : UInt8.ofNat (48 + (b.toNat - 48)) = b := by
 rw [show 48 + (b.toNat - 48) = b.toNat by omega, UInt8.ofNat_toNat]
/-- a text with no leading zero is the text of its number -/
theorem dd_dval : ∀ (n : Nat) (l : List UInt8), l.length = n → l ≠ [] → l.any oddB = false → l.head? ≠ some 48 → 0 < dvalA 0 l ∧ Lib.decDigits (dvalA 0 l) = l := by
 intro n
 induction n with
 | zero => intro l hl h0; exact absurd (List.length_eq_zero_iff.1 hl) h0
 | succ n ih =>
  intro l hl h0 ho h48
  obtain ⟨a, b, rfl⟩ : ∃ a b, l = a ++ [b] := ⟨l.dropLast, l.getLast h0, (List.dropLast_concat_getLast h0).symm⟩
  rw [List.any_append, Bool.or_eq_false_iff, List.any_cons, List.any_nil, Bool.or_false] at ho
  have hb := oddB_false ho.2
  have e : dvalA 0 (a ++ [b]) = dvalA 0 a * 10 + (b.toNat - 48) := by
   rw [dvalA_append, dvalA_cons, dvalA_nil, Nat.mul_comm]
  rw [e]
  by_cases ha : a = []
  ·subst ha
   have hb48 : b.toNat ≠ 48 := fun h => h48 (by
    have : b = 48 := by
     have h2 : b.toNat = (48 : UInt8).toNat := h
     exact UInt8.toNat_inj.1 h2
    rw [this]; rfl)
   rw [dvalA_nil, Nat.zero_mul, Nat.zero_add]
   refine ⟨by omega, ?_⟩
   rw [dd_lt (by omega), ofNat_byte hb]
   rfl
  ·have hl2 : a.length = n := by simpa using hl
   have hh : a.head? = (a ++ [b]).head? := by cases a with | nil => exact absurd rfl ha | cons x y => rfl
   obtain ⟨p, q⟩ := ih a hl2 ha ho.1 (hh ▸ h48)
   refine ⟨by omega, ?_⟩
   rw [dd_step _ _ p (by omega), q, ofNat_byte hb]
theorem dd_text {l : List UInt8} (h : textB l = true) : Lib.decDigits (dvalA 0 l) = l := by
 unfold textB at h
 rw [Bool.not_eq_true', Bool.or_eq_false_iff, Bool.or_eq_false_iff] at h
 obtain ⟨⟨h0, ho⟩, hz⟩ := h
 have h0' : l ≠ [] := by intro e; rw [e] at h0; simp at h0
 by_cases h48 : l.head? = some 48
 ·cases l with
  | nil => exact absurd rfl h0'
  | cons x y =>
   have hx : x = 48 := by simpa using h48
   subst hx
   have hy : y = [] := by
    cases y with
    | nil => rfl
    | cons u v => simp at hz
   subst hy
   rw [show dvalA 0 [48] = 0 from rfl, dd_lt (by decide)]
   rfl
 ·exact (dd_dval _ l rfl h0' ho h48).2
/-- the text of a number is taken, and gives the number -/
theorem text_dd (v : Nat) : (Lib.decDigits v).any oddB = false ∧ dvalA 0 (Lib.decDigits v) = v ∧ (0 < v → (Lib.decDigits v).head? ≠ some 48) ∧ Lib.decDigits v ≠ [] := by
 induction v using Nat.strongRecOn with
 | _ v ih =>
  by_cases h : v < 10
  ·rw [dd_lt h]
   have e : (UInt8.ofNat (48 + v)).toNat = 48 + v := by
    rw [UInt8.toNat_ofNat']
    omega
   refine ⟨?_, ?_, ?_, by simp⟩
   ·simp [oddB, e]
    omega
   ·rw [dvalA_cons, dvalA_nil, e]
    omega
   ·intro hp h48
    have h2 : UInt8.ofNat (48 + v) = 48 := by simpa using h48
    have := congrArg UInt8.toNat h2
    rw [e] at this
    have e48 : (48 : UInt8).toNat = 48 := rfl
    omega
  ·obtain ⟨m, d, hd, rfl⟩ : ∃ m d, d < 10 ∧ v = m * 10 + d := ⟨v / 10, v % 10, by omega, by omega⟩
   obtain ⟨i1, i2, i3, i4⟩ := ih m (by omega)
   rw [dd_step m d (by omega) hd]
   have e : (UInt8.ofNat (48 + d)).toNat = 48 + d := by
    rw [UInt8.toNat_ofNat']
    omega
   refine ⟨?_, ?_, ?_, by simp⟩
   ·rw [List.any_append, i1]
    simp [oddB, e]
    omega
   ·rw [dvalA_append, i2, dvalA_cons, dvalA_nil, e]
    omega
   ·intro _
    have := i3 (by omega)
    cases hc : Lib.decDigits m with
    | nil => exact absurd hc i4
    | cons x y =>
     rw [hc] at this
     simpa using this
theorem textB_dd (v : Nat) : textB (Lib.decDigits v) = true := by
 obtain ⟨h1, h2, h3, h4⟩ := text_dd v
 unfold textB
 rw [Bool.not_eq_true', Bool.or_eq_false_iff, Bool.or_eq_false_iff]
 refine ⟨⟨by simpa using h4, h1⟩, ?_⟩
 by_cases hv : 0 < v
 ·have := h3 hv
  simp [this]
 ·have : v = 0 := by omega
  subst this
  rw [dd_lt (by decide)]
  rfl
/-- What Parse answers (texts so short that no number is too large). -/
def parseT (l : List UInt8) : List Int × Int := if textB l = true then (Bn.limbs (dvalA 0 l), 0) else ([], 3)

end Go.Proofs.YtoakfjcejamoeaaDoor.B
