/- A part of the proofs of the rational laws. -/
import Derived.Test.YtoakfjcejamoeaaDoorD5
namespace Go.Proofs.YtoakfjcejamoeaaDoor.B
open Go.RowKit Go.Proofs.YtoakfjcejamoeaaDoorW.PrintWords Go.Proofs.YtoakfjcejamoeaaDoorW.PrintLast Go.Proofs.YtoakfjcejamoeaaDoorW.PrintMore
set_option exponentiation.threshold 8200
set_option linter.unusedVariables false
set_option linter.unusedSimpArgs false
set_option maxHeartbeats 16000000 in
set_option maxRecDepth 100000 in
/-- The reference's Parse: a text that it refuses. -/
theorem refParse_bad (l : List UInt8) (hs : l.length ≤ 300) (ht : textB l = false) (w : World) :
  Calls Tryd.prog 69 #[.string ⟨l.toArray⟩] w fun e w' => Rw2 [] 3 w e w' := by
 have HB := Aside0.mk (Below.refl w.heap.size w)
 by_cases h0 : l = []
 ·subst h0
  clear ht hs
  have he : ([] : List UInt8).isEmpty = true := rfl
  go_enter Tryd.func69, Tryd.ntmps69
  go_wp2_with ((with_reducible refine gate_dst (N := 19) rfl ?_); (try (refine gate_guard (by rfl) ?_; dsimp only)); refine lit_event ?hg (N := 19) ?hd [] 0 rfl (by decide) ?hr ?_; (case hd => rfl); (case hg => rfl); (case hr => first | (go_simp; done) | (go_simp; rfl)); intro A0 wb0 hc_ hb_; replace HB := Aside0.mk (below_step HB.out hb_); have C0 := Aside0.mk hc_; clear hb_ hc_)
  go_ret2
  exact Rw2.intro ⟨_, _, rfl, C0.out, Nat.le_refl _, HB.out⟩
 have he : l.isEmpty = false := by cases l with | nil => exact absurd rfl h0 | cons x y => rfl
 by_cases hz : 1 < l.length ∧ l.head? = some 48
 ·obtain ⟨hz1, hz2⟩ := hz
  have h1 : (1 : Int) < (l.length : Int) := by omega
  have hp : 0 < l.length := by omega
  have h48 : ((({ data := l.toArray } : ByteArray)[0]'(by rw [bsize]; exact hp)).toNat : Int) = 48 := by
   cases l with
   | nil => exact absurd rfl h0
   | cons x y =>
    have e : x = 48 := by simpa using hz2
    subst e
    rfl
  clear ht h0 hz1 hz2
  go_enter Tryd.func69, Tryd.ntmps69
  go_wp2_with ((with_reducible refine gate_dst (N := 19) rfl ?_); (try (refine gate_guard (by rfl) ?_; dsimp only)); refine lit_event ?hg (N := 19) ?hd [] 0 rfl (by decide) ?hr ?_; (case hd => rfl); (case hg => rfl); (case hr => first | (go_simp; done) | (go_simp; rfl)); intro A0 wb0 hc_ hb_; replace HB := Aside0.mk (below_step HB.out hb_); have C0 := Aside0.mk hc_; clear hb_ hc_)
  go_ret2
  exact Rw2.intro ⟨_, _, rfl, C0.out, Nat.le_refl _, HB.out⟩
 have ho : l.any oddB = true := by
  cases ho : l.any oddB with
  | true => rfl
  | false =>
   exfalso
   unfold textB at ht
   rw [he, ho] at ht
   refine hz ?_
   have h2 := ht
   simp at h2
   exact h2
 have hz3 : ¬ (1 : Int) < (l.length : Int) ∨ ((l.getD 0 0).toNat : Int) ≠ 48 := by
  by_cases h : 1 < l.length
  ·right
   intro e
   refine hz ⟨h, ?_⟩
   cases l with
   | nil => exact absurd rfl h0
   | cons x y =>
    have e2 : (x.toNat : Int) = 48 := e
    have h3 : x = 48 := UInt8.toNat_inj.1 (show x.toNat = 48 by omega)
    rw [h3]
    rfl
  ·left
   omega
 have hp : 0 < l.length := List.length_pos_iff.2 h0
 have ho_ := Aside0.mk ho
 have hs_ := Aside0.mk hs
 clear ho ht hz hs h0
 go_enter Tryd.func69, Tryd.ntmps69
 go_wp2_with fail
 ·rename_i hbad
  exfalso
  cases l with
  | nil => simp at hp
  | cons x y =>
   have h4 : ((x.toNat : Int) == 48) = true := hbad
   have h2 : (x.toNat : Int) = 48 := by simpa using h4
   rcases hz3 with h | h
   ·omega
   ·exact h h2
 ·rename_i hc_ K_ hK_
  clear hc_ hz3
  go_loopg [4] l.length (fun kq v4 w' => ∃ (i : Nat), v4 = .int .i64 (i : Int) ∧ Aside0 (i ≤ l.length ∧ kq = l.length - i ∧ ∀ j (hj : j < l.length), j < i → oddB l[j] = false) ∧ Aside0 (Below w.heap.size w w'))
  case atStart => exact ⟨0, rfl, ⟨Nat.zero_le _, rfl, fun j _ h => absurd h (by omega)⟩, HB⟩
  case round =>
   clear HB
   obtain ⟨i, rfl, hk, HB⟩ := hrel
   by_cases hi : i < l.length
   ·have hi2 : (i : Int) < (l.length : Int) := by omega
    cases hod : oddB l[i] with
    | true =>
     have hd2 := hod
     unfold oddB at hd2
     rw [Bool.or_eq_true, decide_eq_true_iff, decide_eq_true_iff] at hd2
     rcases hd2 with hd2 | hd2
     ·have h48 : ((({ data := l.toArray } : ByteArray)[i]'(by rw [bsize]; exact hi)).toNat : Int) < 48 := by
       have e : (({ data := l.toArray } : ByteArray)[i]'(by rw [bsize]; exact hi)) = l[i] := rfl
       rw [e]
       omega
      clear hod hd2 hk
      go_wp2_with ((with_reducible refine gate_dst (N := 36) rfl ?_); (try (refine gate_guard (by rfl) ?_; dsimp only)); refine lit_event ?hg (N := 36) ?hd [] 0 rfl (by decide) ?hr ?_; (case hd => rfl); (case hg => rfl); (case hr => first | (go_simp; done) | (go_simp; rfl)); intro A0 wb0 hc_ hb_; replace HB := Aside0.mk (below_step HB.out hb_); have C0 := Aside0.mk hc_; clear hb_ hc_)
      go_ret2
      exact Rw2.intro ⟨_, _, rfl, C0.out, Nat.le_refl _, HB.out⟩
     ·have h48 : ¬ ((({ data := l.toArray } : ByteArray)[i]'(by rw [bsize]; exact hi)).toNat : Int) < 48 := by
       have e : (({ data := l.toArray } : ByteArray)[i]'(by rw [bsize]; exact hi)) = l[i] := rfl
       rw [e]
       omega
      have h57 : (57 : Int) < ((({ data := l.toArray } : ByteArray)[i]'(by rw [bsize]; exact hi)).toNat : Int) := by
       have e : (({ data := l.toArray } : ByteArray)[i]'(by rw [bsize]; exact hi)) = l[i] := rfl
       rw [e]
       omega
      clear hod hd2 hk
      go_wp2_with ((with_reducible refine gate_dst (N := 36) rfl ?_); (try (refine gate_guard (by rfl) ?_; dsimp only)); refine lit_event ?hg (N := 36) ?hd [] 0 rfl (by decide) ?hr ?_; (case hd => rfl); (case hg => rfl); (case hr => first | (go_simp; done) | (go_simp; rfl)); intro A0 wb0 hc_ hb_; replace HB := Aside0.mk (below_step HB.out hb_); have C0 := Aside0.mk hc_; clear hb_ hc_)
      go_ret2
      exact Rw2.intro ⟨_, _, rfl, C0.out, Nat.le_refl _, HB.out⟩
    | false =>
     have hb := oddB_false hod
     have h48 : ¬ ((({ data := l.toArray } : ByteArray)[i]'(by rw [bsize]; exact hi)).toNat : Int) < 48 := by
      have e : (({ data := l.toArray } : ByteArray)[i]'(by rw [bsize]; exact hi)) = l[i] := rfl
      rw [e]
      omega
     have h57 : ¬ (57 : Int) < ((({ data := l.toArray } : ByteArray)[i]'(by rw [bsize]; exact hi)).toNat : Int) := by
      have e : (({ data := l.toArray } : ByteArray)[i]'(by rw [bsize]; exact hi)) = l[i] := rfl
      rw [e]
      omega
     have hod_ := Aside0.mk hod
     have hs2 := hs_.out
     clear hb hod
     go_wp2_with fail
     go_roundg (l.length - (i + 1))
     case rel => exact ⟨i + 1, congrArg (Value.int .i64) (by omega), ⟨by omega, rfl, fun j hj hl => by
      by_cases e : j = i
      ·subst e; exact hod_.out
      ·exact hk.out.2.2 j hj (by omega)⟩, HB⟩
     case measure =>
      have := hk.out.2.1
      omega
   ·exfalso
    have h1 := hk.out.2.2
    have h2 : l.any oddB = false := by
     rw [List.any_eq_false]
     intro x hx
     obtain ⟨j, hj, rfl⟩ := List.getElem_of_mem hx
     rw [h1 j hj (by omega)]
     decide
    rw [ho_.out] at h2
    cases h2
 ·clear hz3
  go_loopg [4] l.length (fun kq v4 w' => ∃ (i : Nat), v4 = .int .i64 (i : Int) ∧ Aside0 (i ≤ l.length ∧ kq = l.length - i ∧ ∀ j (hj : j < l.length), j < i → oddB l[j] = false) ∧ Aside0 (Below w.heap.size w w'))
  case atStart => exact ⟨0, rfl, ⟨Nat.zero_le _, rfl, fun j _ h => absurd h (by omega)⟩, HB⟩
  case round =>
   clear HB
   obtain ⟨i, rfl, hk, HB⟩ := hrel
   by_cases hi : i < l.length
   ·have hi2 : (i : Int) < (l.length : Int) := by omega
    cases hod : oddB l[i] with
    | true =>
     have hd2 := hod
     unfold oddB at hd2
     rw [Bool.or_eq_true, decide_eq_true_iff, decide_eq_true_iff] at hd2
     rcases hd2 with hd2 | hd2
     ·have h48 : ((({ data := l.toArray } : ByteArray)[i]'(by rw [bsize]; exact hi)).toNat : Int) < 48 := by
       have e : (({ data := l.toArray } : ByteArray)[i]'(by rw [bsize]; exact hi)) = l[i] := rfl
       rw [e]
       omega
      clear hod hd2 hk
      go_wp2_with ((with_reducible refine gate_dst (N := 36) rfl ?_); (try (refine gate_guard (by rfl) ?_; dsimp only)); refine lit_event ?hg (N := 36) ?hd [] 0 rfl (by decide) ?hr ?_; (case hd => rfl); (case hg => rfl); (case hr => first | (go_simp; done) | (go_simp; rfl)); intro A0 wb0 hc_ hb_; replace HB := Aside0.mk (below_step HB.out hb_); have C0 := Aside0.mk hc_; clear hb_ hc_)
      go_ret2
      exact Rw2.intro ⟨_, _, rfl, C0.out, Nat.le_refl _, HB.out⟩
     ·have h48 : ¬ ((({ data := l.toArray } : ByteArray)[i]'(by rw [bsize]; exact hi)).toNat : Int) < 48 := by
       have e : (({ data := l.toArray } : ByteArray)[i]'(by rw [bsize]; exact hi)) = l[i] := rfl
       rw [e]
       omega
      have h57 : (57 : Int) < ((({ data := l.toArray } : ByteArray)[i]'(by rw [bsize]; exact hi)).toNat : Int) := by
       have e : (({ data := l.toArray } : ByteArray)[i]'(by rw [bsize]; exact hi)) = l[i] := rfl
       rw [e]
       omega
      clear hod hd2 hk
      go_wp2_with ((with_reducible refine gate_dst (N := 36) rfl ?_); (try (refine gate_guard (by rfl) ?_; dsimp only)); refine lit_event ?hg (N := 36) ?hd [] 0 rfl (by decide) ?hr ?_; (case hd => rfl); (case hg => rfl); (case hr => first | (go_simp; done) | (go_simp; rfl)); intro A0 wb0 hc_ hb_; replace HB := Aside0.mk (below_step HB.out hb_); have C0 := Aside0.mk hc_; clear hb_ hc_)
      go_ret2
      exact Rw2.intro ⟨_, _, rfl, C0.out, Nat.le_refl _, HB.out⟩
    | false =>
     have hb := oddB_false hod
     have h48 : ¬ ((({ data := l.toArray } : ByteArray)[i]'(by rw [bsize]; exact hi)).toNat : Int) < 48 := by
      have e : (({ data := l.toArray } : ByteArray)[i]'(by rw [bsize]; exact hi)) = l[i] := rfl
      rw [e]
      omega
     have h57 : ¬ (57 : Int) < ((({ data := l.toArray } : ByteArray)[i]'(by rw [bsize]; exact hi)).toNat : Int) := by
      have e : (({ data := l.toArray } : ByteArray)[i]'(by rw [bsize]; exact hi)) = l[i] := rfl
      rw [e]
      omega
     have hod_ := Aside0.mk hod
     have hs2 := hs_.out
     clear hb hod
     go_wp2_with fail
     go_roundg (l.length - (i + 1))
     case rel => exact ⟨i + 1, congrArg (Value.int .i64) (by omega), ⟨by omega, rfl, fun j hj hl => by
      by_cases e : j = i
      ·subst e; exact hod_.out
      ·exact hk.out.2.2 j hj (by omega)⟩, HB⟩
     case measure =>
      have := hk.out.2.1
      omega
   ·exfalso
    have h1 := hk.out.2.2
    have h2 : l.any oddB = false := by
     rw [List.any_eq_false]
     intro x hx
     obtain ⟨j, hj, rfl⟩ := List.getElem_of_mem hx
     rw [h1 j hj (by omega)]
     decide
    rw [ho_.out] at h2
    cases h2
/-- The reference's Parse. -/
theorem refParse_calls (l : List UInt8) (hs : l.length ≤ 300) (n : List Int) (ec : Int) (h : parseT l = (n, ec)) (w : World) :
  Calls Tryd.prog 69 #[.string ⟨l.toArray⟩] w fun e w' => Rw2 n ec w e w' := by
 unfold parseT at h
 split at h
 ·rename_i h1
  injection h with h2 h3
  subst h3
  exact refParse_ok l hs h1 n h2.symm w
 ·rename_i h1
  injection h with h2 h3
  subst h3
  subst h2
  exact refParse_bad l hs (by simpa using h1) w

end Go.Proofs.YtoakfjcejamoeaaDoor.B
