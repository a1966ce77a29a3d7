/- A part of the proofs of the rational laws. -/
import Derived.Test.YtoakfjcejamoeaaDoorD2
namespace Go.Proofs.YtoakfjcejamoeaaDoor.B
open Go.RowKit Go.Proofs.YtoakfjcejamoeaaDoorW.PrintWords Go.Proofs.YtoakfjcejamoeaaDoorW.PrintLast Go.Proofs.YtoakfjcejamoeaaDoorW.PrintMore
set_option exponentiation.threshold 8200
set_option linter.unusedVariables false
set_option linter.unusedSimpArgs false
set_option maxHeartbeats 16000000 in
set_option maxRecDepth 100000 in
/-- Parse: a text that it refuses. -/
theorem parse_bad (l : List UInt8) (ht : textB l = false) (w : World) :
  Calls Tryd.prog 68 #[.string ⟨l.toArray⟩] w fun e w' => Rw2 [] 3 w e w' := by
 have HB := Aside0.mk (Below.refl w.heap.size w)
 by_cases h0 : l = []
 ·subst h0
  clear ht
  have he : ([] : List UInt8).isEmpty = true := rfl
  go_enter Tryd.func68, Tryd.ntmps68
  go_wp2_with fail
  go_ret2
  exact Rw2.intro ⟨_, _, rfl, nilC0 _, Nat.le_refl _, HB.out⟩
 have he : l.isEmpty = false := by cases l with | nil => exact absurd rfl h0 | cons x y => rfl
 obtain ⟨o, ho⟩ : ∃ o, l.any oddB = o := ⟨_, rfl⟩
 cases o with
 | true =>
  have ho_ := Aside0.mk ho
  clear ho ht h0
  go_enter Tryd.func68, Tryd.ntmps68
  go_wp2_with fail
  refine (containsFunc_calls _ true ho_.out w).mono ?_
  rintro e wa1 ⟨rfl, hb_⟩
  replace HB := Aside0.mk (below_step HB.out hb_)
  clear hb_
  go_wp2_with fail
  go_ret2
  exact Rw2.intro ⟨_, _, rfl, nilC0 _, Nat.le_refl _, HB.out⟩
 | false =>
  obtain ⟨y, hly, hy⟩ : ∃ y, l = 48 :: y ∧ y ≠ [] := by
   unfold textB at ht
   rw [he, ho] at ht
   cases l with
   | nil => exact absurd rfl h0
   | cons x y =>
    have h2 : 0 < y.length ∧ x = 48 := by simpa using ht
    exact ⟨y, by rw [h2.2], List.length_pos_iff.1 h2.1⟩
  have ho_ := Aside0.mk ho
  have hy2 := List.length_pos_iff.2 hy
  have hp : 0 < l.length := List.length_pos_iff.2 h0
  have h1 : (1 : Int) < (l.length : Int) := by
   rw [hly, List.length_cons]
   omega
  have h48 : ((({ data := l.toArray } : ByteArray)[0]'(by rw [bsize]; exact hp)).toNat : Int) = 48 := by
   subst hly
   rfl
  clear ho ht h0 hy hy2 hly
  go_enter Tryd.func68, Tryd.ntmps68
  go_wp2_with fail
  refine (containsFunc_calls _ false ho_.out w).mono ?_
  rintro e wa1 ⟨rfl, hb_⟩
  replace HB := Aside0.mk (below_step HB.out hb_)
  clear hb_
  go_wp2_with fail
  go_ret2
  exact Rw2.intro ⟨_, _, rfl, nilC0 _, Nat.le_refl _, HB.out⟩
/-- Parse. -/
theorem parse_calls (l : List UInt8) (hs : l.length ≤ 300) (n : List Int) (ec : Int) (h : parseT l = (n, ec)) (w : World) :
  Calls Tryd.prog 68 #[.string ⟨l.toArray⟩] w fun e w' => Rw2 n ec w e w' := by
 unfold parseT at h
 split at h
 ·rename_i h1
  injection h with h2 h3
  subst h3
  exact parse_ok l hs h1 n h2.symm w
 ·rename_i h1
  injection h with h2 h3
  subst h3
  subst h2
  exact parse_bad l (by simpa using h1) w

end Go.Proofs.YtoakfjcejamoeaaDoor.B
