/- The log: the header slots of the reference and those of the program. The log: what Scan of the reference gives. The log: small things for WalOpen. The log: a disk that holds just these bytes; what is behind the end is erased. -/
import Derived.Test.YtbbokpkpdnppjaaUA
import Derived.Test.YtbbokpkpdnppjaaM9
import Derived.Test.YtbbokpkpdnppjaaGx3
import Derived.Test.YtbbokpkpdnppjaaGx4
namespace Go.Proofs.Ytbbokpkpdnppjaa
open Go.RowKit Go.Proofs.YtbbokpkpdnppjaaW.PrintWords Go.Proofs.YtbbokpkpdnppjaaW.PrintLast Go.Proofs.YtbbokpkpdnppjaaW.PrintMore
set_option linter.unusedVariables false
set_option linter.unusedSimpArgs false
theorem value_l0 (l : List Int) (hl : l.length ≤ 4194304) : ∀ (n j fuel : Nat), n + j = l.length → n < fuel → G.lineageref15_value.l0 fuel l (beVal (l.take j)) (j : Int) = some (beVal l) := by
 intro n
 induction n with
 | zero =>
  intro j fuel hj hf
  obtain ⟨f, rfl⟩ : ∃ f, fuel = f + 1 := ⟨fuel - 1, by omega⟩
  unfold G.lineageref15_value.l0
  rw [if_neg (by omega), List.take_of_length_le (by omega)]
 | succ n ih =>
  intro j fuel hj hf
  obtain ⟨f, rfl⟩ : ∃ f, fuel = f + 1 := ⟨fuel - 1, by omega⟩
  have h0 : j < l.length := by omega
  have hs := beVal_succ l j h0
  unfold beStep at hs
  unfold G.lineageref15_value.l0
  rw [if_pos (by omega), if_pos (by omega), rd_get l j h0, ← hs, show wrap64 ((j : Int) + 1) = ((j + 1 : Nat) : Int) from by unfold wrap64; omega]
  exact ih (j + 1) f (by omega) (by omega)
theorem value_f (l : List Int) (hl : l.length ≤ 4194304) (fuel : Nat) (hf : l.length < fuel) : G.lineageref15_value.f fuel l = some (beVal l) := by
 unfold G.lineageref15_value.f
 exact value_l0 l hl l.length 0 fuel (by omega) hf
theorem header_f (n : Int) (fuel : Nat) (hf : 1000 < fuel) : G.lineageref15_Header.f fuel n = some (header n) := by
 unfold G.lineageref15_Header.f
 have h4 := fun n => number_f fuel n 4 (by omega) (by omega)
 have h8 := fun n => number_f fuel n 8 (by omega) (by omega)
 simp only [Int.cast_ofNat_Int] at h4 h8
 rw [h8, Option.bind_some, crc_f _ fuel (by rw [beBytes_length]; omega) (by rw [beBytes_length]; omega), Option.bind_some, h4, Option.bind_some, if_pos (by rw [beBytes_length, beBytes_length]; omega)]
 rfl
def slotN (s : List Int) : Int := if beVal (s.take 8) > 4611686018427387904 ∨ s ≠ header (wrap64 (beVal (s.take 8))) then -1 else wrap64 (beVal (s.take 8))
theorem slot_f (s : List Int) (hs : s.length = 12) (fuel : Nat) (hf : 1000 < fuel) : G.lineageref15_slot.f fuel s = some (slotN s) := by
 unfold G.lineageref15_slot.f slotN
 rw [if_pos (by omega), value_f _ (by rw [List.length_take]; omega) fuel (by rw [List.length_take]; omega), Option.bind_some]
 by_cases hb : beVal (s.take 8) > 4611686018427387904
 ·rw [if_pos hb, if_pos (.inl hb)]
 ·rw [if_neg hb, header_f _ fuel hf, Option.bind_some, same_f _ _ (by rw [header_length]; omega) fuel (by rw [header_length]; omega), Option.bind_some]
  by_cases he : s = header (wrap64 (beVal (s.take 8)))
  ·rw [if_pos (decide_eq_true he.symm), if_neg (fun h => h.elim hb (fun h => h he))]
  ·rw [if_neg (fun h => he (of_decide_eq_true h).symm), if_pos (.inr he)]
theorem slotN_le (s : List Int) (hB : Bytes s) (hs : s.length = 12) : -1 ≤ slotN s ∧ slotN s ≤ 4611686018427387904 := by
 unfold slotN
 split
 ·omega
 ·rename_i h
  obtain ⟨z, e, hz⟩ := beVal_nat s hB 8 (by omega) (by omega)
  rw [e] at h ⊢
  have hz2 : (z : Int) ≤ 4611686018427387904 := Int.not_lt.1 (fun hx => h (.inl hx))
  rw [w64 (x := (z : Int)) (by omega) (by omega)]
  omega
theorem slotN_nonneg (s : List Int) (hB : Bytes s) (hs : s.length = 12) : ¬ (beVal (s.take 8) > 4611686018427387904 ∨ s ≠ header (wrap64 (beVal (s.take 8)))) → wrap64 (beVal (s.take 8)) ≥ 0 := by
 intro h
 obtain ⟨z, e, hz⟩ := beVal_nat s hB 8 (by omega) (by omega)
 rw [e] at h ⊢
 have hz2 : (z : Int) ≤ 4611686018427387904 := Int.not_lt.1 (fun hx => h (.inl hx))
 rw [w64 (x := (z : Int)) (by omega) (by omega)]
 omega
def s0 (b : List Int) : List Int := b.take 12
def s1 (b : List Int) : List Int := (b.take 24).drop 12
theorem basesN_eq (b : List Int) (hB : Bytes b) (h24 : 24 ≤ b.length) : basesN b 2 = (if slotN (s1 b) > slotN (s0 b) then (1, slotN (s1 b)) else if slotN (s0 b) ≥ 0 then (0, slotN (s0 b)) else (-1, 0)) := by
 have h0 := slotN_le (s0 b) (fun x hx => hB x (List.mem_of_mem_take hx)) (by unfold s0; rw [List.length_take]; omega)
 have h1 := slotN_le (s1 b) (fun x hx => hB x (List.mem_of_mem_take (List.mem_of_mem_drop hx))) (by unfold s1; rw [List.length_drop, List.length_take]; omega)
 have e0 : basesN b 1 = if slotN (s0 b) ≥ 0 then (0, slotN (s0 b)) else (-1, 0) := by
  show baseStep b 0 (-1, 0) = _
  unfold baseStep
  rw [show (b.take (12 * (0 + 1))).drop (12 * 0) = s0 b from by simp [s0]]
  have hn := slotN_nonneg (s0 b) (fun x hx => hB x (List.mem_of_mem_take hx)) (by unfold s0; rw [List.length_take]; omega)
  generalize s0 b = s at hn h0 ⊢
  unfold slotN at *
  by_cases hc : beVal (s.take 8) > 4611686018427387904 ∨ s ≠ header (wrap64 (beVal (s.take 8)))
  ·rw [if_pos hc, if_pos hc, if_neg (by omega)]
  ·rw [if_neg hc, if_neg hc, if_pos (.inl (by decide)), if_pos (hn hc)]
   rfl
 show baseStep b 1 (basesN b 1) = _
 rw [e0]
 unfold baseStep
 rw [show (b.take (12 * (1 + 1))).drop (12 * 1) = s1 b from by simp [s1]]
 have hn := slotN_nonneg (s1 b) (fun x hx => hB x (List.mem_of_mem_take (List.mem_of_mem_drop hx))) (by unfold s1; rw [List.length_drop, List.length_take]; omega)
 have hx : ∀ s, slotN s = if beVal (s.take 8) > 4611686018427387904 ∨ s ≠ header (wrap64 (beVal (s.take 8))) then -1 else wrap64 (beVal (s.take 8)) := fun s => rfl
 have hx1 := hx (s1 b)
 generalize slotN (s0 b) = f0 at *
 generalize s1 b = s at *
 by_cases hc : beVal (s.take 8) > 4611686018427387904 ∨ s ≠ header (wrap64 (beVal (s.take 8)))
 ·rw [if_pos hc] at hx1 ⊢
  rw [hx1, if_neg (show ¬ ((-1 : Int) > f0) from by omega)]
 ·rw [if_neg hc] at hx1 ⊢
  have hn2 := hn hc
  rw [← hx1] at hn2 ⊢
  by_cases hf : f0 ≥ 0
  ·rw [if_pos hf]
   by_cases hg : slotN s > f0
   ·rw [if_pos (.inr hg), if_pos hg]; rfl
   ·rw [if_neg (fun h => h.elim (fun h => absurd h (by simp)) (fun h => hg h)), if_neg hg]
  ·rw [if_neg hf, if_pos (.inl (by decide)), if_pos (by omega)]
   rfl
theorem basesN_range (b : List Int) (hB : Bytes b) (h24 : 24 ≤ b.length) : 0 ≤ (basesN b 2).2 ∧ (basesN b 2).2 ≤ 4611686018427387904 := by
 have h0 := slotN_le (s0 b) (fun x hx => hB x (List.mem_of_mem_take hx)) (by unfold s0; rw [List.length_take]; omega)
 have h1 := slotN_le (s1 b) (fun x hx => hB x (List.mem_of_mem_take (List.mem_of_mem_drop hx))) (by unfold s1; rw [List.length_drop, List.length_take]; omega)
 rw [basesN_eq b hB h24]
 split
 ·rename_i h
  exact ⟨by show 0 ≤ slotN (s1 b); omega, h1.2⟩
 ·split
  ·rename_i h
   exact ⟨h, h0.2⟩
  ·exact ⟨by decide, by decide⟩
end Go.Proofs.Ytbbokpkpdnppjaa
namespace Go.Proofs.Ytbbokpkpdnppjaa
open Go.RowKit Go.Proofs.YtbbokpkpdnppjaaW.PrintWords Go.Proofs.YtbbokpkpdnppjaaW.PrintLast Go.Proofs.YtbbokpkpdnppjaaW.PrintMore
set_option linter.unusedVariables false
set_option linter.unusedSimpArgs false
theorem win (b : List Int) (i j : Nat) : (b.take (i + j)).drop i = (b.drop i).take j := by rw [List.drop_take]; congr 1; omega
theorem scan_arith (a n len : Nat) (h1 : a ≤ len) (h2 : len ≤ 4194304) (h3 : a + 16 ≤ len) (h4 : n ≤ len - a - 16) : (0 : Int) ≤ (a : Int) + 16 ∧ (a : Int) + 16 ≤ (a : Int) + 16 + (n : Int) ∧ (a : Int) + 16 + (n : Int) ≤ (len : Int) ∧ (a : Int) ≤ (a : Int) + 16 + (n : Int) ∧ ((a : Int) + 16 + (n : Int)).toNat = a + 16 + n ∧ a + 16 + n ≤ len ∧ (n : Int) ≤ (len : Int) - (a : Int) - 16 ∧ ((a : Int) + 16 + (n : Int)) = ((a + 16 + n : Nat) : Int) := by
 refine ⟨by omega, by omega, by omega, by omega, by omega, by omega, by omega, by omega⟩
theorem win_len (b : List Int) (a n i : Nat) (h : a + 16 + n ≤ b.length) (hi : i ≤ a + 16 + n) : ((b.take (a + 16 + n)).drop i).length = a + 16 + n - i := by rw [List.length_drop, List.length_take, Nat.min_eq_left h]
theorem fuel_arith (n k : Nat) (h : n ≤ 4194304) (hk : 50000000 ≤ k) : 10 * (12 + n) + 10 < k ∧ 16 + n ≤ 9223372036854775807 ∧ 16 + n < k := by omega
set_option maxRecDepth 10000 in
set_option maxHeartbeats 1000000 in
theorem scan_l0 (b : List Int) (hB : Bytes b) (h24 : 24 ≤ b.length) (hm : b.length ≤ 4194304) (ba sl : Int) (h0 : 0 ≤ ba) (h1 : ba ≤ 4611686018427387904) (at_ : Nat) (ha : 24 ≤ at_) (ha2 : at_ ≤ b.length) (rs : List G.S73) (hr : rs.length ≤ 4194304) (k : Nat) (hk : 50000000 ≤ k) :
  G.lineageref15_Scan.l0 (k + 1) b (at_ : Int) 0 false ba sl rs 0 0 = match frameAt b ba at_ with
   | some n => G.lineageref15_Scan.l0 k b ((at_ + 16 + n : Nat) : Int) 0 false ba sl (rs ++ [⟨ba + at_ - 24, (b.take (at_ + 16 + n)).drop (at_ + 16)⟩]) 0 0
   | none => some ([], [], 0, false, ba, sl, rs, ba + at_ - 24, 0) := by
 have e16 : wrap64 ((at_ : Int) + 16) = (at_ : Int) + 16 := w64 (by omega) (by omega)
 have e4 : wrap64 ((at_ : Int) + 4) = (at_ : Int) + 4 := w64 (by omega) (by omega)
 have el : wrap64 ((b.length : Int) - (at_ : Int)) = (b.length : Int) - (at_ : Int) := w64 (by omega) (by omega)
 have elsn : wrap64 (wrap64 (ba + (at_ : Int)) - 24) = ba + (at_ : Int) - 24 := by rw [w64 (x := ba + (at_ : Int)) (by omega) (by omega), w64 (by omega) (by omega)]
 rw [G.lineageref15_Scan.l0, e16, e4, el, elsn]
 by_cases hfit : at_ + 16 ≤ b.length
 ·obtain ⟨n, hn, hn2⟩ := beVal_nat4 (b.drop at_) (hB.drop at_) (by rw [List.length_drop]; omega)
  have el2 : wrap64 ((b.length : Int) - (at_ : Int) - 16) = ((b.length - at_ - 16 : Nat) : Int) := by rw [w64 (by omega) (by omega)]; omega
  have c1 : (at_ : Int) + 16 ≤ (b.length : Int) := by omega
  have c2 : (0 : Int) ≤ (at_ : Int) := by omega
  have c3 : (at_ : Int) ≤ (at_ : Int) + 4 := by omega
  have c4 : (at_ : Int) + 4 ≤ (b.length : Int) := by omega
  have t4 : ((at_ : Int) + 4).toNat = at_ + 4 := by omega
  have t16 : ((at_ : Int) + 16).toNat = at_ + 16 := by omega
  have hv := value_f ((b.drop at_).take 4) (by rw [List.length_take]; omega) k (by rw [List.length_take]; omega)
  rw [hn] at hv
  rw [if_pos c1, if_pos c2, if_pos c3, if_pos c4, t4, Int.toNat_natCast, win, hv, Option.bind_some, el2, wrap_u64_nat _ (by omega)]
  by_cases hbig : (n : Int) > ((b.length - at_ - 16 : Nat) : Int)
  ·have hnone : frameAt b ba at_ = none := by unfold frameAt; rw [hn, if_neg (fun h => by have := h.2.1; omega)]
   rw [if_pos hbig, hnone]
  ·have en : wrap64 (n : Int) = (n : Int) := w64 (by omega) (by omega)
   have es : wrap64 ((at_ : Int) + 16 + (n : Int)) = (at_ : Int) + 16 + (n : Int) := w16n at_ n (Nat.le_trans ha2 hm) hn2
   have hsn : n ≤ b.length - at_ - 16 := Int.ofNat_le.1 (Int.not_lt.1 hbig)
   obtain ⟨c5, c6, c7, c8, tn, c10, c11, tz⟩ := scan_arith at_ n b.length ha2 hm hfit hsn
   have c9 : rs.length < 4398046511104 := Nat.lt_of_le_of_lt hr (by decide)
   have hdl : ((b.take (at_ + 16 + n)).drop (at_ + 16)).length = n := by rw [win_len b at_ n _ c10 (Nat.le_add_right _ _), Nat.add_sub_cancel_left]
   have hfl : ((b.take (at_ + 16 + n)).drop at_).length = 16 + n := by rw [win_len b at_ n _ c10 (by rw [Nat.add_assoc]; exact Nat.le_add_right _ _), Nat.add_assoc, Nat.add_sub_cancel_left]
   obtain ⟨f1, f2, f3⟩ := fuel_arith n k (Nat.le_trans (Nat.le_trans (Nat.le_add_left _ _) c10) hm) hk
   have hsome : (b.take (at_ + 16 + n)).drop at_ = frame (ba + (at_ : Int) - 24) ((b.take (at_ + 16 + n)).drop (at_ + 16)) → frameAt b ba at_ = some n := fun he => by unfold frameAt; rw [hn, Int.toNat_natCast, if_pos ⟨hfit, c11, he⟩]
   have hnone : (b.take (at_ + 16 + n)).drop at_ ≠ frame (ba + (at_ : Int) - 24) ((b.take (at_ + 16 + n)).drop (at_ + 16)) → frameAt b ba at_ = none := fun he => by unfold frameAt; rw [hn, Int.toNat_natCast, if_neg (fun h => he h.2.2)]
   rw [if_neg hbig, en, if_pos c5, es, if_pos c6, if_pos c7, tn, t16]
   have hF := ref_frame_f (ba + (at_ : Int) - 24) ((b.take (at_ + 16 + n)).drop (at_ + 16)) k (by rw [hdl]; exact Nat.le_trans (Nat.le_trans (Nat.le_add_left _ _) c10) hm) (by rw [hdl]; exact f1)
   have hS := same_f (frame (ba + (at_ : Int) - 24) ((b.take (at_ + 16 + n)).drop (at_ + 16))) ((b.take (at_ + 16 + n)).drop at_) (by rw [frame_length, hdl]; exact f2) k (by rw [frame_length, hdl]; exact f3)
   rw [hF, Option.bind_some, if_pos c8, hS, Option.bind_some]
   by_cases he : (b.take (at_ + 16 + n)).drop at_ = frame (ba + (at_ : Int) - 24) ((b.take (at_ + 16 + n)).drop (at_ + 16))
   ·rw [if_pos (decide_eq_true he.symm), if_pos c9, hsome he, tz]
   ·rw [if_neg (fun h => he (of_decide_eq_true h).symm), hnone he]
 ·have hnone : frameAt b ba at_ = none := by unfold frameAt; rw [if_neg (fun h => hfit h.1)]
  have c1 : ¬ ((at_ : Int) + 16 ≤ (b.length : Int)) := by omega
  rw [if_neg c1, hnone]
theorem scan_path (b : List Int) (hB : Bytes b) (h24 : 24 ≤ b.length) (hm : b.length ≤ 4194304) (ba sl : Int) (h0 : 0 ≤ ba) (h1 : ba ≤ 4611686018427387904) {at_ : Nat} {rs : List G.S73} (hp : Path b ba at_ rs) : ∀ (k : Nat), 50000000 ≤ k →
  G.lineageref15_Scan.l0 (k + rs.length) b 24 0 false ba sl [] 0 0 = G.lineageref15_Scan.l0 k b (at_ : Int) 0 false ba sl rs 0 0 := by
 induction hp with
 | nil => intro k _; rfl
 | @snoc at_ rs n hp hf ih =>
  intro k hk
  have hl := hp.le h24
  rw [List.length_append, List.length_singleton, show k + (rs.length + 1) = (k + 1) + rs.length from by omega, ih (k + 1) (by omega), scan_l0 b hB h24 hm ba sl h0 h1 at_ hl.2.1 hl.1 rs (by omega) k hk, hf]
theorem scan_f (b : List Int) (hB : Bytes b) (h24 : 24 ≤ b.length) (hm : b.length ≤ 4194304) (ba sl : Int) (hbs : basesN b 2 = (sl, ba)) {at_ : Nat} {rs : List G.S73} (hp : Path b ba at_ rs) (hn : frameAt b ba at_ = none) (k : Nat) (hk : 60000000 ≤ k) :
  G.lineageref15_Scan.f k b = some ([], [], 0, false, ba, sl, rs, ba + at_ - 24, 0) := by
 have hr := basesN_range b hB h24
 rw [hbs] at hr
 have hl := hp.le h24
 have hend : ∀ k, 55000000 ≤ k → G.lineageref15_Scan.l0 k b 24 0 false ba sl [] 0 0 = some ([], [], 0, false, ba, sl, rs, ba + at_ - 24, 0) := fun k hk => by
  obtain ⟨j, rfl⟩ : ∃ j, k = (j + 1) + rs.length := ⟨k - 1 - rs.length, by omega⟩
  have hlr := hl.2.2
  have hla := hl.1
  rw [scan_path b hB h24 hm ba sl hr.1 hr.2 hp (j + 1) (by omega), scan_l0 b hB h24 hm ba sl hr.1 hr.2 at_ hl.2.1 hl.1 rs (by omega) j (by omega), hn]
 rw [basesN_eq b hB h24] at hbs
 unfold G.lineageref15_Scan.f
 obtain ⟨j, rfl⟩ : ∃ j, k = j + 2 := ⟨k - 2, by omega⟩
 rw [if_pos (by omega), slot_f _ (by rw [List.length_take]; omega) _ (by omega), Option.bind_some, if_pos (by omega), if_pos (by omega), slot_f _ (by rw [List.length_drop, List.length_take]; omega) _ (by omega), Option.bind_some]
 rw [show b.take 12 = s0 b from rfl, show (b.take 24).drop 12 = s1 b from rfl]
 have h0 := slotN_le (s0 b) (fun x hx => hB x (List.mem_of_mem_take hx)) (by unfold s0; rw [List.length_take]; omega)
 have h1 := slotN_le (s1 b) (fun x hx => hB x (List.mem_of_mem_take (List.mem_of_mem_drop hx))) (by unfold s1; rw [List.length_drop, List.length_take]; omega)
 generalize slotN (s0 b) = f0 at *
 generalize slotN (s1 b) = f1 at *
 by_cases hg : f1 > f0
 ·rw [if_pos hg] at hbs
  injection hbs with e1 e2
  subst e1; subst e2
  by_cases hf : f0 ≥ 0
  ·rw [if_pos hf, G.lineageref15_Scan.j0, if_pos hg, G.lineageref15_Scan.j1]
   exact hend j (by omega)
  ·rw [if_neg hf, G.lineageref15_Scan.j0, if_pos hg, G.lineageref15_Scan.j1]
   exact hend j (by omega)
 ·rw [if_neg hg] at hbs
  by_cases hf : f0 ≥ 0
  ·rw [if_pos hf] at hbs
   injection hbs with e1 e2
   subst e1; subst e2
   rw [if_pos hf, G.lineageref15_Scan.j0, if_neg hg, G.lineageref15_Scan.j1]
   exact hend j (by omega)
  ·rw [if_neg hf] at hbs
   injection hbs with e1 e2
   subst e1; subst e2
   rw [if_neg hf, G.lineageref15_Scan.j0, if_neg hg, G.lineageref15_Scan.j1]
   exact hend j (by omega)
end Go.Proofs.Ytbbokpkpdnppjaa
namespace Go.Proofs.Ytbbokpkpdnppjaa
open Go.RowKit Go.Proofs.YtbbokpkpdnppjaaW.PrintWords Go.Proofs.YtbbokpkpdnppjaaW.PrintLast Go.Proofs.YtbbokpkpdnppjaaW.PrintMore
set_option linter.unusedVariables false
set_option linter.unusedSimpArgs false
theorem rd73_get (l : List G.S73) (j : Nat) (h : j < l.length) : G.rd_T73 l (j : Int) = l[j] := by simp [G.rd_T73, List.getD_eq_getElem?_getD, h]
theorem same73_l0 (l : List G.S73) (hl : l.length ≤ 4194304) (hd : ∀ r ∈ l, r.f1.length ≤ 4194304) : ∀ (n j f : Nat), n + j = l.length → 5000000 ≤ f → G.lineageref15_Same.l0 (f + n + 1) l l (j : Int) = some true := by
 intro n
 induction n with
 | zero =>
  intro j f hj hf
  rw [G.lineageref15_Same.l0, if_neg (by omega)]
 | succ n ih =>
  intro j f hj hf
  have h0 : j < l.length := by omega
  have hlen := hd _ (List.getElem_mem h0)
  have hw : wrap64 ((j : Int) + 1) = ((j + 1 : Nat) : Int) := by unfold wrap64; omega
  have hs := same_f (l[j]).f1 (l[j]).f1 (by omega) (f + n + 1) (by omega)
  rw [show f + (n + 1) + 1 = (f + n + 1) + 1 from by omega, G.lineageref15_Same.l0, if_pos (by omega), if_pos (by omega), if_pos (by omega), rd73_get l j h0, if_pos rfl, hs, Option.bind_some, if_pos (decide_eq_true rfl), hw]
  exact ih (j + 1) f (by omega) hf
theorem same73_f (l : List G.S73) (hl : l.length ≤ 4194304) (hd : ∀ r ∈ l, r.f1.length ≤ 4194304) : G.lineageref15_Same.f (5000000 + l.length + 1) l l = some true := by
 unfold G.lineageref15_Same.f
 rw [if_pos rfl]
 exact same73_l0 l hl hd l.length 0 5000000 (by omega) (Nat.le_refl _)
theorem Path.data_le {b : List Int} {base : Int} {at_ : Nat} {rs : List G.S73} (hm : b.length ≤ 4194304) (h : Path b base at_ rs) : ∀ r ∈ rs, r.f1.length ≤ 4194304 := by
 induction h with
 | nil => intro r hr; simp at hr
 | snoc h hf ih =>
  intro r hr
  rcases List.mem_append.1 hr with hr | hr
  ·exact ih r hr
  ·rw [List.mem_singleton.1 hr]
   show ((b.take _).drop _).length ≤ _
   rw [List.length_drop, List.length_take]
   omega
set_option maxRecDepth 100000 in
set_option maxHeartbeats 8000000 in
theorem contents_calls {w0 W : World} {Q : Nat → Prop} {gd : Nat} {D : Dk} (H : Sts w0 W Q [(gd, D)]) (hok : D.Ok) (b : List Int) (hbl : b.length = D.dur.length) (hrd : D.read 0 (b.length : Int) = (b, 0)) :
  Calls Try.prog 42 #[.pointer (some ⟨gd, 0, none⟩)] W fun e w' => ∃ v, e = .returned v ∧ Kd.R (Kd.int .u8) 5 w' W.heap.size (fun _ => True) v b ∧ Below W.heap.size W w' := by
 have HS := AM H
 have HRD := AM hrd
 have HOK := AM hok
 have HBL := AM hbl
 clear H hrd hok hbl
 go_enter Try.func42, Try.ntmps42
 go_wp2_with fail
 refine (HS.out.size 0 rfl).mono ?_
 rintro e w1 ⟨rfl, rfl⟩
 rw [← HBL.out]
 go_wp2_with fail
 refine (HS.out.read 0 rfl HOK.out 0 (b.length : Int)).mono ?_
 rw [HRD.out]
 rintro e w1 ⟨v, rfl, hr, hb⟩
 have HR := AM hr
 have HB := AM hb
 clear hr hb
 go_wp2_with fail
 go_ret
 exact ⟨_, rfl, HR.out, HB.out⟩
end Go.Proofs.Ytbbokpkpdnppjaa
namespace Go.Proofs.Ytbbokpkpdnppjaa
open Go.RowKit
theorem erase_full (D : Dk) (b : List Int) (hd : D.dur = b) (hp : D.pend = []) (hc : D.cnt = -1) (hf : D.failed = false) (a : Nat) (ha : a ≤ b.length) : (eraseD D b a).2 = 0 ∧ (eraseD D b a).1.dur = b.take a ++ List.replicate (b.length - a) 0 ∧ (eraseD D b a).1.pend = [] ∧ (eraseD D b a).1.cnt = -1 ∧ (eraseD D b a).1.failed = false := by
 obtain ⟨dur, pend, cnt, failed⟩ := D
 simp only at hd hp hc hf
 subst hd; subst hp; subst hc; subst hf
 unfold eraseD
 by_cases hx : ∃ x ∈ dur.drop a, x ≠ 0
 ·rw [if_pos hx]
  have hi : insd dur.length (a : Int) ((dur.length - a : Nat) : Int) = true := by simp [insd]; omega
  have e : (Dk.mk dur [] (-1) false).write (a : Int) (List.replicate (dur.length - a) 0) = (((Dk.mk dur [] (-1) false).burnt.wrote (a : Int) (List.replicate (dur.length - a) 0)), 0) := by
   unfold Dk.write
   rw [if_neg (by simp), if_neg (by simp only [List.length_replicate]; rw [hi]; simp), if_neg (by simp)]
  rw [e, if_pos rfl]
  have e2 : (((Dk.mk dur [] (-1) false).burnt.wrote (a : Int) (List.replicate (dur.length - a) 0))).sync = ((((Dk.mk dur [] (-1) false).burnt.wrote (a : Int) (List.replicate (dur.length - a) 0))).burnt.synced, 0) := by
   unfold Dk.sync
   rw [if_neg (by simp [Dk.burnt, Dk.wrote])]
  rw [e2]
  refine ⟨rfl, ?_, rfl, by simp [Dk.burnt, Dk.wrote, Dk.synced], rfl⟩
  simp [Dk.burnt, Dk.wrote, Dk.synced, layAll, putAt, splice]
  omega
 ·rw [if_neg hx]
  refine ⟨rfl, ?_, rfl, rfl, rfl⟩
  show dur = _
  have : dur.drop a = List.replicate (dur.length - a) 0 := by
   refine List.eq_replicate_iff.2 ⟨List.length_drop, fun x hxm => ?_⟩
   exact Classical.byContradiction (fun h => hx ⟨x, hxm, h⟩)
  rw [← this, List.take_append_drop]
end Go.Proofs.Ytbbokpkpdnppjaa
