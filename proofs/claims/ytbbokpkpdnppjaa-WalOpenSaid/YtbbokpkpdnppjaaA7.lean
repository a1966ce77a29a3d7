/- Plain laws on bytes that are put in the place of others. -/
import Derived.Test.YtbbokpkpdnppjaaA6
namespace Go.Proofs.Ytbbokpkpdnppjaa
set_option linter.unusedVariables false
set_option linter.unusedSimpArgs false

theorem putAt_get (d : List Int) (x : Nat) (b : List Int) (h : x + b.length ≤ d.length) (i : Nat) : (putAt d x b)[i]? = if x ≤ i ∧ i < x + b.length then b[i - x]? else d[i]? := by
  unfold putAt splice
  have hl : (d.take x).length = x := by simp; omega
  by_cases h1 : i < x
  · rw [List.getElem?_append_left (by omega), List.getElem?_take_of_lt h1, if_neg (by omega)]
  · rw [List.getElem?_append_right (by omega), hl]
    by_cases h2 : i < x + b.length
    · rw [List.getElem?_append_left (by omega), if_pos (by omega)]
    · rw [List.getElem?_append_right (by omega), List.getElem?_drop, if_neg (by omega)]
      congr 1
      omega

theorem win_put (d b : List Int) (x a m f t : Nat) (hfit : x + b.length ≤ d.length) (ham : a + m ≤ d.length) (hf : f = max a x) (ht : t = min (a + m) (x + b.length)) :
    ((putAt d x b).drop a).take m = if f < t then putAt ((d.drop a).take m) (f - a) ((b.take (t - x)).drop (f - x)) else (d.drop a).take m := by
  have hf1 : a ≤ f ∧ x ≤ f ∧ (f = a ∨ f = x) := by subst hf; rcases Nat.le_total a x with h | h <;> simp [Nat.max_eq_right, Nat.max_eq_left, h]
  have ht1 : t ≤ a + m ∧ t ≤ x + b.length ∧ (t = a + m ∨ t = x + b.length) := by subst ht; rcases Nat.le_total (a + m) (x + b.length) with h | h <;> simp [Nat.min_eq_right, Nat.min_eq_left, h]
  clear hf ht
  apply List.ext_getElem?
  intro i
  have hw : ((d.drop a).take m).length = m := by simp; omega
  by_cases hft : f < t
  · rw [if_pos hft]
    have hbl : ((b.take (t - x)).drop (f - x)).length = t - f := by simp; omega
    by_cases hi : i < m
    · rw [List.getElem?_take_of_lt hi, List.getElem?_drop, putAt_get _ _ _ hfit, putAt_get _ _ _ (by rw [hbl, hw]; omega), hbl]
      by_cases h1 : x ≤ a + i ∧ a + i < x + b.length
      · rw [if_pos h1, if_pos (by omega), List.getElem?_drop, List.getElem?_take_of_lt (by omega)]
        congr 1
        omega
      · rw [if_neg h1, if_neg (by omega), List.getElem?_take_of_lt hi, List.getElem?_drop]
    · rw [List.getElem?_eq_none (by simp; omega), List.getElem?_eq_none]
      rw [putAt_length _ _ _ (by rw [hbl, hw]; omega), hw]
      omega
  · rw [if_neg hft]
    by_cases hi : i < m
    · rw [List.getElem?_take_of_lt hi, List.getElem?_drop, putAt_get _ _ _ hfit, if_neg (by omega), List.getElem?_take_of_lt hi, List.getElem?_drop]
    · rw [List.getElem?_eq_none (by simp; omega), List.getElem?_eq_none (by rw [hw]; omega)]
end Go.Proofs.Ytbbokpkpdnppjaa
