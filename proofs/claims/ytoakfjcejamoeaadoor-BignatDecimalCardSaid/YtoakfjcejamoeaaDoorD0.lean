/- A part of the proofs of the rational laws. -/
import Derived.Test.YtoakfjcejamoeaaDoorBx1
import Derived.Test.YtoakfjcejamoeaaDoorH4
import Derived.Laws.RangeAny
import Derived.LoopTactic
import Derived.Lib.AtoiErrMem
namespace Go.Proofs.YtoakfjcejamoeaaDoor.B
open Go.RowKit Go.Proofs.YtoakfjcejamoeaaDoorW.PrintWords Go.Proofs.YtoakfjcejamoeaaDoorW.PrintLast Go.Proofs.YtoakfjcejamoeaaDoorW.PrintMore
set_option exponentiation.threshold 8200
set_option linter.unusedVariables false
set_option linter.unusedSimpArgs false
/-! ### strings.ContainsFunc at Parse's test: is there a byte that is no decimal digit? -/
/-- A byte that is no decimal digit. -/
def oddB (b : UInt8) : Bool := decide (b.toNat < 48) || decide (57 < b.toNat)
theorem below_iter (w : World) (s : ByteArray) (pos : Nat) : Below w.heap.size w (w.iter s pos) := below_alloc (Below.refl _ _) _
/-- The number of decimal digits behind n. -/
def dvalA (n : Nat) (l : List UInt8) : Nat := l.foldl (fun n b => 10 * n + (b.toNat - 48)) n
theorem dvalA_nil (n : Nat) : dvalA n [] = n := rfl
theorem dvalA_cons (n : Nat) (b : UInt8) (l : List UInt8) : dvalA n (b :: l) = dvalA (10 * n + (b.toNat - 48)) l := by
 unfold dvalA
 rw [List.foldl_cons]
theorem any_at {s : ByteArray} {pos : Nat} (h : pos < s.size) (ho : oddB (s[pos]'h) = true) : s.data.toList.any oddB = true := by
 rw [List.any_eq_true]
 exact ⟨s[pos]'h, by rw [Array.mem_toList_iff]; exact Array.getElem_mem _, ho⟩
theorem any_none {s : ByteArray} {pos : Nat} (hp : ¬ pos < s.size) (h : ∀ i (hi : i < s.size), i < pos → oddB (s[i]'hi) = false) : s.data.toList.any oddB = false := by
 rw [List.any_eq_false]
 intro x hx
 rw [Array.mem_toList_iff] at hx
 obtain ⟨i, hi, rfl⟩ := Array.mem_iff_getElem.1 hx
 have := h i hi (by have : i < s.size := hi; omega)
 show ¬ oddB (s[i]'hi) = true
 rw [this]
 decide
theorem oddB_false {b : UInt8} (h : oddB b = false) : 48 ≤ b.toNat ∧ b.toNat ≤ 57 := by
 unfold oddB at h
 rw [Bool.or_eq_false_iff, decide_eq_false_iff_not, decide_eq_false_iff_not] at h
 omega
set_option maxHeartbeats 4000000 in
set_option maxRecDepth 1000000 in
/-- The closure of Parse. -/
theorem odd_calls (r : Int) (w : World) : Calls Tryd.prog 103 #[.int .i32 r] w fun e w' => e = .returned (.bool (decide (r < 48) || decide (57 < r))) ∧ w' = w := by
 go_enter Tryd.func103, Tryd.ntmps103
 go_wp2
 all_goals go_ret
 all_goals first | exact ⟨rfl, rfl⟩ | (refine ⟨?_, rfl⟩; simp_all)
/-- The index is not negative exactly if such a byte is there. -/
def IdxP (r : Int) (s : ByteArray) : Prop := decide (0 ≤ r) = s.data.toList.any oddB
set_option maxHeartbeats 4000000 in
set_option maxRecDepth 1000000 in
theorem indexFunc_calls (s : ByteArray) (w : World) : Calls Tryd.prog 123 #[.string s, .func (.func 103) #[] #[], .bool true] w fun e w' => ∃ r : Int, e = .returned (.int .i64 r) ∧ IdxP r s ∧ Below w.heap.size w w' := by
 go_enter Tryd.func123, Tryd.ntmps123
 go_wp2
 go_loopw [7, 8] (fun v7 v8 w' => ∃ (pos : Nat), w' = w.iter s pos ∧ Aside0 (∀ i (hi : i < s.size), i < pos → oddB (s[i]'hi) = false)) (fun _ _ w' => s.size - w'.iterPos w.heap.size)
 case atStart => exact ⟨0, rfl, Aside0.mk (fun i _ h => absurd h (by omega))⟩
 case round =>
  obtain ⟨pos, rfl, hn⟩ := hrel
  by_cases hp : pos < s.size
  ·have hnx : ∀ ty, (Instr.next (.pointer (some ⟨w.heap.size, 0, none⟩)) true ty).run Tryd.prog (w.iter s pos) = _ := fun ty => run_next_any w s pos ty hp
   obtain ⟨r, k, hd⟩ : ∃ r k, Utf8.decode s pos = (r, k) := ⟨_, _, rfl⟩
   rw [hd] at hnx
   dsimp only at hnx
   cases ho : oddB (s[pos]'hp) with
   | true =>
    have hr : r < 48 ∨ 57 < r := by
     by_cases ha : (s[pos]'hp).toNat < 128
     ·rw [decode_ascii s pos hp ha] at hd
      injection hd with hd1 hd2
      unfold oddB at ho
      rw [Bool.or_eq_true, decide_eq_true_iff, decide_eq_true_iff] at ho
      omega
     ·have := (decode_high s pos hp (by omega)).1
      rw [hd] at this
      right
      show 57 < r
      have h2 : 128 ≤ r := this
      omega
    have hany := Aside0.mk (any_at hp ho)
    clear ho hd hn
    rcases hr with hr | hr
    ·have h1 : ((r : Int) < 48) := by omega
     go_wp2
     go_ret
     exact ⟨_, rfl, by unfold IdxP; rw [hany.out]; simp, below_iter _ _ _⟩
    ·have h1 : ¬ ((r : Int) < 48) := by omega
     have h2 : ((57 : Int) < r) := by omega
     go_wp2
     go_ret
     exact ⟨_, rfl, by unfold IdxP; rw [hany.out]; simp, below_iter _ _ _⟩
   | false =>
    have hb := oddB_false ho
    rw [decode_ascii s pos hp (by omega)] at hd
    injection hd with hd1 hd2
    have h1 : ¬ ((r : Int) < 48) := by omega
    have h2 : ¬ ((57 : Int) < r) := by omega
    have hn2 : Aside0 (∀ i (hi : i < s.size), i < pos + k → oddB (s[i]'hi) = false) := ⟨fun i hi hl => by
     by_cases e : i = pos
     ·subst e; exact ho
     ·exact hn.out i hi (by omega)⟩
    have hk : Aside0 (k = 1) := ⟨hd2.symm⟩
    clear ho hn hd1 hd2 hb
    go_wp2
    go_roundw
    case rel => exact ⟨pos + k, rfl, hn2⟩
    case measure =>
     have := hk.out
     simp
     omega
  ·have hnx : ∀ ty, (Instr.next (.pointer (some ⟨w.heap.size, 0, none⟩)) true ty).run Tryd.prog (w.iter s pos) = _ := fun ty => run_next_end w s pos ty hp
   go_wp2
   go_ret
   exact ⟨_, rfl, by unfold IdxP; rw [any_none hp hn.out]; rfl, below_iter _ _ _⟩
set_option maxHeartbeats 4000000 in
set_option maxRecDepth 1000000 in
/-- strings.ContainsFunc at Parse's test. -/
theorem containsFunc_calls (s : ByteArray) (b : Bool) (hb : s.data.toList.any oddB = b) (w : World) : Calls Tryd.prog 104 #[.string s, .func (.func 103) #[] #[]] w fun e w' => e = .returned (.bool b) ∧ Below w.heap.size w w' := by
 have hB := Aside0.mk hb
 clear hb
 have h113 : Calls Tryd.prog 113 #[.string s, .func (.func 103) #[] #[]] w fun e w' => ∃ r : Int, e = .returned (.int .i64 r) ∧ IdxP r s ∧ Below w.heap.size w w' := by
  go_enter Tryd.func113, Tryd.ntmps113
  go_wp2_with fail
  refine (indexFunc_calls s w).mono ?_
  rintro e w1 ⟨r, rfl, hi, hb⟩
  have hi_ := Aside0.mk hi
  have hb_ := Aside0.mk hb
  clear hi hb
  go_wp2_with fail
  go_ret
  exact ⟨_, rfl, hi_.out, hb_.out⟩
 have H113 := Aside0.mk h113
 clear h113
 go_enter Tryd.func104, Tryd.ntmps104
 go_wp2_with fail
 refine H113.out.mono ?_
 rintro e w1 ⟨r, rfl, hi, hb⟩
 have hi2 : decide (r ≥ 0) = b := by
  unfold IdxP at hi
  rw [← hB.out, ← hi]
 have hi_ := Aside0.mk hi2
 have hb_ := Aside0.mk hb
 clear hi hb hi2
 go_wp2_with fail
 go_ret
 exact ⟨congrArg (fun b => Ending.returned (.bool b)) (show decide (0 ≤ r) = b from hi_.out), hb_.out⟩
/-- the library's numbers of a few digits -/
theorem pu_digits : ∀ (l : List UInt8) (acc k : Nat), l.any oddB = false → acc < 10 ^ k → l.length + k ≤ 18 → Lib.parseUint10 acc l = .ok (dvalA acc l) := by
 intro l
 induction l with
 | nil => intro acc k _ _ _; rfl
 | cons b l ih =>
  intro acc k ho ha hk
  rw [List.any_cons, Bool.or_eq_false_iff] at ho
  have hb := oddB_false ho.1
  rw [List.length_cons] at hk
  have hp : 10 ^ k ≤ 10 ^ 17 := Nat.pow_le_pow_right (by decide) (by omega)
  have e17 : (10 : Nat) ^ 17 = 100000000000000000 := by decide
  rw [Lib.parseUint10, if_pos hb, if_neg (by omega), if_neg (by omega), ih _ (k + 1) ho.2 (by rw [Nat.pow_succ]; omega) (by omega), dvalA_cons, Nat.mul_comm acc 10]
set_option maxHeartbeats 4000000 in
set_option maxRecDepth 1000000 in
/-- strconv.ParseUint at a few digits. -/
theorem parseUint_calls (t : ByteArray) (h0 : t.size ≠ 0) (hs : t.size ≤ 18) (ho : t.data.toList.any oddB = false) (v : Nat) (hv : v = dvalA 0 t.data.toList) (w : World) :
  Calls Tryd.prog 105 #[.string t, .int .i64 10, .int .i64 64] w fun e w' => e = .returned (.tuple #[.int .u64 (v : Int), .nilIface]) ∧ Below w.heap.size w w' := by
 have hc := Tryd.internal_strconv_ParseUint_10_b64 t h0 (by omega) w
 rw [pu_digits _ 0 0 ho (by decide) (by rw [Array.length_toList]; exact hs), ← hv] at hc
 have H := Aside0.mk hc
 clear hc ho hv h0 hs
 go_enter Tryd.func105, Tryd.ntmps105
 go_wp2_with fail
 refine H.out.mono ?_
 rintro e w1 ⟨rfl, rfl⟩
 have hb_ := Aside0.mk (Lib.bytesWorld_below w 5 t)
 generalize Lib.bytesWorld w 5 t = w1 at *
 unfold Lib.uintTuple
 clear H
 go_wp2_with fail
 go_ret2
 exact ⟨rfl, hb_.out⟩

end Go.Proofs.YtoakfjcejamoeaaDoor.B
