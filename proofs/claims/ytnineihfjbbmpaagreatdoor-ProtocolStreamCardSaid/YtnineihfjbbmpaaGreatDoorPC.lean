/- The kinds of messages: what the program's and the reference's tests answer. -/
import Derived.Test.YtnineihfjbbmpaaGreatDoorPB
import Derived.Test.YtnineihfjbbmpaaGreatDoorPx6
import Derived.Laws.RangeAny
import Derived.LoopTactic
import Derived.Lib.AtoiErrMem
namespace Go.Proofs.YtnineihfjbbmpaaGreatDoor.P
open Go.RowKit Go.Proofs.YtnineihfjbbmpaaGreatDoorW.PrintWords Go.Proofs.YtnineihfjbbmpaaGreatDoorW.PrintLast Go.Proofs.YtnineihfjbbmpaaGreatDoorW.PrintMore
set_option exponentiation.threshold 8200
set_option linter.unusedVariables false
set_option linter.unusedSimpArgs false
/-! ### strings.ContainsFunc at validKind's test: is there a byte that is no capital letter? -/
/-- A byte that is no capital letter. -/
def oddK (b : UInt8) : Bool := decide (b.toNat < 65) || decide (90 < b.toNat)
theorem below_iter (w : World) (s : ByteArray) (pos : Nat) : Below w.heap.size w (w.iter s pos) := below_alloc (Below.refl _ _) _
theorem any_at {s : ByteArray} {pos : Nat} (h : pos < s.size) (ho : oddK (s[pos]'h) = true) : s.data.toList.any oddK = true := by
 rw [List.any_eq_true]
 exact ⟨s[pos]'h, by rw [Array.mem_toList_iff]; exact Array.getElem_mem _, ho⟩
theorem any_none {s : ByteArray} {pos : Nat} (hp : ¬ pos < s.size) (h : ∀ i (hi : i < s.size), i < pos → oddK (s[i]'hi) = false) : s.data.toList.any oddK = false := by
 rw [List.any_eq_false]
 intro x hx
 rw [Array.mem_toList_iff] at hx
 obtain ⟨i, hi, rfl⟩ := Array.mem_iff_getElem.1 hx
 have := h i hi (by have : i < s.size := hi; omega)
 show ¬ oddK (s[i]'hi) = true
 rw [this]
 decide
theorem oddK_false {b : UInt8} (h : oddK b = false) : 65 ≤ b.toNat ∧ b.toNat ≤ 90 := by
 unfold oddK at h
 rw [Bool.or_eq_false_iff, decide_eq_false_iff_not, decide_eq_false_iff_not] at h
 omega
set_option maxHeartbeats 4000000 in
set_option maxRecDepth 1000000 in
/-- The closure of validKind. -/
theorem odd_calls (r : Int) (w : World) : Calls Tryz.prog 25 #[.int .i32 r] w fun e w' => e = .returned (.bool (decide (r < 65) || decide (90 < r))) ∧ w' = w := by
 go_enter Tryz.func25, Tryz.ntmps25
 go_wp2
 all_goals go_ret
 all_goals first | exact ⟨rfl, rfl⟩ | (refine ⟨?_, rfl⟩; simp_all)
/-- The index is not negative exactly if such a byte is there. -/
def IdxP (r : Int) (s : ByteArray) : Prop := decide (0 ≤ r) = s.data.toList.any oddK
set_option maxHeartbeats 4000000 in
set_option maxRecDepth 1000000 in
theorem indexFunc_calls (s : ByteArray) (w : World) : Calls Tryz.prog 52 #[.string s, .func (.func 25) #[] #[], .bool true] w fun e w' => ∃ r : Int, e = .returned (.int .i64 r) ∧ IdxP r s ∧ Below w.heap.size w w' := by
 go_enter Tryz.func52, Tryz.ntmps52
 go_wp2
 go_loopw [7, 8] (fun v7 v8 w' => ∃ (pos : Nat), w' = w.iter s pos ∧ Aside0 (∀ i (hi : i < s.size), i < pos → oddK (s[i]'hi) = false)) (fun _ _ w' => s.size - w'.iterPos w.heap.size)
 case atStart => exact ⟨0, rfl, Aside0.mk (fun i _ h => absurd h (by omega))⟩
 case round =>
  obtain ⟨pos, rfl, hn⟩ := hrel
  by_cases hp : pos < s.size
  ·have hnx : ∀ ty, (Instr.next (.pointer (some ⟨w.heap.size, 0, none⟩)) true ty).run Tryz.prog (w.iter s pos) = _ := fun ty => run_next_any w s pos ty hp
   obtain ⟨r, k, hd⟩ : ∃ r k, Utf8.decode s pos = (r, k) := ⟨_, _, rfl⟩
   rw [hd] at hnx
   dsimp only at hnx
   cases ho : oddK (s[pos]'hp) with
   | true =>
    have hr : r < 65 ∨ 90 < r := by
     by_cases ha : (s[pos]'hp).toNat < 128
     ·rw [decode_ascii s pos hp ha] at hd
      injection hd with hd1 hd2
      unfold oddK at ho
      rw [Bool.or_eq_true, decide_eq_true_iff, decide_eq_true_iff] at ho
      omega
     ·have := (decode_high s pos hp (by omega)).1
      rw [hd] at this
      right
      show 90 < r
      have h2 : 128 ≤ r := this
      omega
    have hany := Aside0.mk (any_at hp ho)
    clear ho hd hn
    rcases hr with hr | hr
    ·have h1 : ((r : Int) < 65) := by omega
     go_wp2
     go_ret
     exact ⟨_, rfl, by unfold IdxP; rw [hany.out]; simp, below_iter _ _ _⟩
    ·have h1 : ¬ ((r : Int) < 65) := by omega
     have h2 : ((90 : Int) < r) := by omega
     go_wp2
     go_ret
     exact ⟨_, rfl, by unfold IdxP; rw [hany.out]; simp, below_iter _ _ _⟩
   | false =>
    have hb := oddK_false ho
    rw [decode_ascii s pos hp (by omega)] at hd
    injection hd with hd1 hd2
    have h1 : ¬ ((r : Int) < 65) := by omega
    have h2 : ¬ ((90 : Int) < r) := by omega
    have hn2 : Aside0 (∀ i (hi : i < s.size), i < pos + k → oddK (s[i]'hi) = false) := ⟨fun i hi hl => by
     by_cases e : i = pos
     ·subst e; exact ho
     ·exact hn.out i hi (by omega)⟩
    have hk : Aside0 (k = 1) := ⟨hd2.symm⟩
    clear ho hn hd1 hd2 hb
    go_wp2
    go_roundw
    case rel => exact ⟨pos + k, rfl, hn2⟩
    case measure =>
     have := hk.out
     simp
     omega
  ·have hnx : ∀ ty, (Instr.next (.pointer (some ⟨w.heap.size, 0, none⟩)) true ty).run Tryz.prog (w.iter s pos) = _ := fun ty => run_next_end w s pos ty hp
   go_wp2
   go_ret
   exact ⟨_, rfl, by unfold IdxP; rw [any_none hp hn.out]; rfl, below_iter _ _ _⟩
set_option maxHeartbeats 4000000 in
set_option maxRecDepth 1000000 in
/-- strings.ContainsFunc at validKind's test. -/
theorem containsFunc_calls (s : ByteArray) (b : Bool) (hb : s.data.toList.any oddK = b) (w : World) : Calls Tryz.prog 26 #[.string s, .func (.func 25) #[] #[]] w fun e w' => e = .returned (.bool b) ∧ Below w.heap.size w w' := by
 have hB := Aside0.mk hb
 clear hb
 have h113 : Calls Tryz.prog 37 #[.string s, .func (.func 25) #[] #[]] w fun e w' => ∃ r : Int, e = .returned (.int .i64 r) ∧ IdxP r s ∧ Below w.heap.size w w' := by
  go_enter Tryz.func37, Tryz.ntmps37
  go_wp2_with fail
  refine (indexFunc_calls s w).mono ?_
  rintro e w1 ⟨r, rfl, hi, hb⟩
  have hi_ := Aside0.mk hi
  have hb_ := Aside0.mk hb
  clear hi hb
  go_wp2_with fail
  go_ret
  exact ⟨_, rfl, hi_.out, hb_.out⟩
 have H113 := Aside0.mk h113
 clear h113
 go_enter Tryz.func26, Tryz.ntmps26
 go_wp2_with fail
 refine H113.out.mono ?_
 rintro e w1 ⟨r, rfl, hi, hb⟩
 have hi2 : decide (r ≥ 0) = b := by
  unfold IdxP at hi
  rw [← hB.out, ← hi]
 have hi_ := Aside0.mk hi2
 have hb_ := Aside0.mk hb
 clear hi hb hi2
 go_wp2_with fail
 go_ret
 exact ⟨congrArg (fun b => Ending.returned (.bool b)) (show decide (0 ≤ r) = b from hi_.out), hb_.out⟩
/-- Is a text a kind? -/
def kindB (l : List UInt8) : Bool := decide (1 ≤ l.length) && decide (l.length ≤ 16) && !(l.any oddK)
theorem bsize (l : List UInt8) : (⟨l.toArray⟩ : ByteArray).size = l.length := by simp [ByteArray.size]
set_option maxHeartbeats 4000000 in
set_option maxRecDepth 1000000 in
theorem validKind_calls (l : List UInt8) (w : World) : Calls Tryz.prog 18 #[.string ⟨l.toArray⟩] w fun e w' => e = .returned (.bool (kindB l)) ∧ Below w.heap.size w w' := by
 obtain ⟨o, ho⟩ : ∃ o, l.any oddK = o := ⟨_, rfl⟩
 have hO := Aside0.mk ho
 by_cases h1 : 1 ≤ l.length
 ·by_cases h16 : l.length ≤ 16
  ·have hk : kindB l = !o := by unfold kindB; rw [decide_eq_true h1, decide_eq_true h16, ho]; rfl
   have hK := Aside0.mk hk
   have h1i : (1 : Int) ≤ (l.length : Int) := by omega
   have h16i : (l.length : Int) ≤ 16 := by omega
   clear ho hk
   go_enter Tryz.func18, Tryz.ntmps18
   go_wp2_with fail
   refine (containsFunc_calls _ o (by exact hO.out) w).mono ?_
   rintro e w1 ⟨rfl, hb⟩
   have hB := Aside0.mk hb
   clear hb
   go_wp2_with fail
   go_ret
   exact ⟨by rw [hK.out]; rfl, hB.out⟩
  ·have hk : kindB l = false := by unfold kindB; rw [decide_eq_false h16, Bool.and_false, Bool.false_and]
   have hK := Aside0.mk hk
   have h1i : (1 : Int) ≤ (l.length : Int) := by omega
   have h16i : ¬ (l.length : Int) ≤ 16 := by omega
   clear ho hk hO
   go_enter Tryz.func18, Tryz.ntmps18
   go_wp2_with fail
   go_ret
   exact ⟨by rw [hK.out]; rfl, Below.refl _ _⟩
 ·have hk : kindB l = false := by unfold kindB; rw [decide_eq_false h1, Bool.false_and, Bool.false_and]
  have hK := Aside0.mk hk
  have h1i : ¬ (1 : Int) ≤ (l.length : Int) := by omega
  clear ho hk hO
  go_enter Tryz.func18, Tryz.ntmps18
  go_wp2_with fail
  go_ret
  exact ⟨by rw [hK.out]; rfl, Below.refl _ _⟩
theorem bt_list (l : List UInt8) (i : Nat) (h : i < l.length) : bt ⟨l.toArray⟩ (i : Int) = ((l[i]).toNat : Int) := by
 unfold bt
 rw [dif_pos (by rw [Int.toNat_natCast, bsize]; exact h)]
 simp only [Int.toNat_natCast]
 rfl
theorem kind_l0 (l : List UInt8) (hl : l.length < 4611686018427387904) : ∀ (d i : Nat), l.length - i = d → i ≤ l.length → Ev (fun k => lineageref59_Kind.l0 k ⟨l.toArray⟩ (i : Nat)) (!((l.drop i).any oddK) && (decide (1 ≤ l.length) && decide (l.length ≤ 16))) := by
 intro d
 induction d with
 | zero =>
  intro i hd hi
  refine Ev.step (fun k => ?_) (Ev.now _)
  rw [lineageref59_Kind.l0, bsize, if_neg (by omega), List.drop_eq_nil_iff.2 (by omega)]
  by_cases h1 : 1 ≤ l.length
  ·rw [if_pos (by omega), decide_eq_true h1]
   congr 1
   simp
   omega
  ·rw [if_neg (by omega), decide_eq_false h1]
   rfl
 | succ d ih =>
  intro i hd hi
  have hlt : i < l.length := by omega
  have hdr : l.drop i = l[i] :: l.drop (i + 1) := List.drop_eq_getElem_cons hlt
  rw [hdr, List.any_cons]
  by_cases ho : oddK l[i] = true
  ·refine Ev.step (fun k => ?_) (Ev.now _)
   rw [lineageref59_Kind.l0, bsize, if_pos (by omega), if_pos (by omega), bt_list l i hlt, ho]
   unfold oddK at ho
   rw [Bool.or_eq_true, decide_eq_true_iff, decide_eq_true_iff] at ho
   by_cases h65 : ((l[i]).toNat : Int) < 65
   ·rw [if_pos h65]
    rfl
   ·rw [if_neg h65, if_pos (by omega)]
    rfl
  ·have hof : oddK l[i] = false := by simpa using ho
   have hb := oddK_false hof
   rw [hof, Bool.false_or]
   refine Ev.step (fun k => ?_) (ih (i + 1) (by omega) (by omega))
   rw [lineageref59_Kind.l0, bsize, if_pos (by omega), if_pos (by omega), bt_list l i hlt, if_neg (by omega), if_neg (by omega), w64s (by omega)]
theorem kind_f (l : List UInt8) (hl : l.length < 4611686018427387904) : Ev (fun k => lineageref59_Kind.f k ⟨l.toArray⟩) (kindB l) := by
 have h := kind_l0 l hl l.length 0 (by omega) (by omega)
 rw [List.drop_zero, Bool.and_comm] at h
 exact h

end Go.Proofs.YtnineihfjbbmpaaGreatDoor.P
