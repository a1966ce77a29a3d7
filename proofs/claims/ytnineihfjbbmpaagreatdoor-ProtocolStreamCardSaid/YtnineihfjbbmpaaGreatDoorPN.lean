/- What follows a frame. -/
import Derived.Test.YtnineihfjbbmpaaGreatDoorPM
namespace Go.Proofs.YtnineihfjbbmpaaGreatDoor.P
open Go.RowKit Go.Proofs.YtnineihfjbbmpaaGreatDoorW.PrintWords Go.Proofs.YtnineihfjbbmpaaGreatDoorW.PrintLast Go.Proofs.YtnineihfjbbmpaaGreatDoorW.PrintMore
set_option exponentiation.threshold 8200
set_option linter.unusedVariables false
set_option linter.unusedSimpArgs false
/-! ### What follows a frame, and what precedes it -/
theorem ups_app {p r : List Int} {y : Int} (h : ∀ x ∈ p, upP x = true) (hy : upP y = false) : ups (p ++ y :: r) = p.length := by
  induction p with
  | nil =>
    show ups (y :: r) = 0
    unfold ups
    rw [if_neg (by rw [hy]; decide)]
  | cons x p ih =>
    show ups (x :: (p ++ y :: r)) = _
    unfold ups
    rw [if_pos (h x List.mem_cons_self), ih (fun z hz => h z (List.mem_cons_of_mem _ hz))]
    rfl
theorem ups_append (l x : List Int) : ups (l ++ x) = if ups l < l.length then ups l else ups l + ups x := by
  induction l with
  | nil =>
    show ups x = _
    rw [if_neg (by simp [ups])]
    simp [ups]
  | cons y l ih =>
    show ups (y :: (l ++ x)) = _
    have e1 : ∀ t : List Int, ups (y :: t) = if upP y = true then ups t + 1 else 0 := fun t => by conv => lhs; unfold ups
    rw [e1, e1]
    by_cases hy : upP y = true
    · rw [if_pos hy, if_pos hy, ih, List.length_cons]
      by_cases h : ups l < l.length
      · rw [if_pos h, if_pos (by omega)]
      · rw [if_neg h, if_neg (by omega)]
        omega
    · rw [if_neg hy, if_neg hy, List.length_cons, if_pos (by omega)]
theorem getD_app {l x : List Int} {i : Nat} (h : i < l.length) : (l ++ x).getD i 0 = l.getD i 0 := by
  rw [List.getD_eq_getElem?_getD, List.getD_eq_getElem?_getD, List.getElem?_append_left h]
theorem digS_none {z : Bool} {x : List Int} : ∀ (r : List Int) (i n : Nat), digS z i n r = none → digS z i n (r ++ x) = none
  | [], i, n, h => by simp [digS] at h
  | y :: r, i, n, h => by
    show digS z i n (y :: (r ++ x)) = none
    unfold digS at h ⊢
    split at h
    · rename_i hd
      rw [if_pos hd]
      split at h
      · rename_i hc
        rw [if_pos hc]
      · rename_i hc
        rw [if_neg hc]
        exact digS_none r _ _ h
    · cases h
theorem digS_some {z : Bool} {x : List Int} : ∀ (r : List Int) (i n : Nat) {m j : Nat}, digS z i n r = some (m, j) → j < i + r.length → digS z i n (r ++ x) = some (m, j)
  | [], i, n, m, j, h, hj => by
    simp only [digS, Option.some.injEq, Prod.mk.injEq] at h
    have : i + ([] : List Int).length = i := rfl
    omega
  | y :: r, i, n, m, j, h, hj => by
    rw [List.length_cons] at hj
    show digS z i n (y :: (r ++ x)) = _
    unfold digS at h ⊢
    split at h
    · rename_i hd
      rw [if_pos hd]
      split at h
      · cases h
      · rename_i hc
        rw [if_neg hc]
        exact digS_some r _ _ h (by omega)
    · rename_i hd
      rw [if_neg hd]
      exact h
/-- The four ends of a head. -/
theorem headL_ends (l : List Int) :
    (16 < ups l ∧ (headL l).2.2.2 = 3) ∨ (ups l ≤ 16 ∧ ups l < l.length ∧ (ups l = 0 ∨ l.getD (ups l) 0 ≠ 32) ∧ (headL l).2.2.2 = 3) ∨ (ups l = l.length ∧ (headL l).2.2.2 = 9) ∨
    (1 ≤ ups l ∧ ups l ≤ 16 ∧ ups l < l.length ∧ l.getD (ups l) 0 = 32 ∧
      ((digS (l.getD (ups l + 1) 0 == 48) 0 0 (l.drop (ups l + 1)) = none ∧ (headL l).2.2.2 = 3) ∨
       ∃ n i, digS (l.getD (ups l + 1) 0 == 48) 0 0 (l.drop (ups l + 1)) = some (n, i) ∧
        ((ups l + 1 + i = l.length ∧ (headL l).2.2.2 = 9) ∨ (ups l + 1 + i < l.length ∧ (i = 0 ∨ l.getD (ups l + 1 + i) 0 ≠ 10) ∧ (headL l).2.2.2 = 3) ∨
         (ups l + 1 + i < l.length ∧ ¬ (i = 0 ∨ l.getD (ups l + 1 + i) 0 ≠ 10) ∧ headL l = (l.take (ups l), n, ups l + 2 + i, 0))))) := by
  have hu := ups_le l
  by_cases h16 : 16 < ups l
  · refine Or.inl ⟨h16, ?_⟩
    unfold headL
    rw [if_pos (Or.inl h16)]
  by_cases hlen : ups l = l.length
  · refine Or.inr (Or.inr (Or.inl ⟨hlen, ?_⟩))
    unfold headL
    rw [if_neg (by rintro (h | ⟨h, _⟩) <;> omega), if_pos hlen]
  have hlt : ups l < l.length := by omega
  by_cases hc : ups l = 0 ∨ l.getD (ups l) 0 ≠ 32
  · refine Or.inr (Or.inl ⟨by omega, hlt, hc, ?_⟩)
    unfold headL
    rw [if_pos (Or.inr ⟨hlt, hc⟩)]
  have hc0 : ups l ≠ 0 := fun h => hc (Or.inl h)
  have hc1 : l.getD (ups l) 0 = 32 := Decidable.byContradiction fun h => hc (Or.inr h)
  refine Or.inr (Or.inr (Or.inr ⟨by omega, by omega, hlt, hc1, ?_⟩))
  have hneg : ¬ (16 < ups l ∨ (ups l < l.length ∧ (ups l = 0 ∨ l.getD (ups l) 0 ≠ 32))) := by
    rintro (h | ⟨_, h⟩)
    · omega
    · exact hc h
  cases hd : digS (l.getD (ups l + 1) 0 == 48) 0 0 (l.drop (ups l + 1)) with
  | none =>
    refine Or.inl ⟨rfl, ?_⟩
    unfold headL
    rw [if_neg hneg, if_neg hlen, hd]
  | some p =>
    obtain ⟨n, i⟩ := p
    have hf := digS_facts _ _ _ hd (by omega)
    rw [List.length_drop] at hf
    refine Or.inr ⟨n, i, rfl, ?_⟩
    by_cases he : ups l + 1 + i = l.length
    · refine Or.inl ⟨he, ?_⟩
      unfold headL
      rw [if_neg hneg, if_neg hlen, hd]
      dsimp only
      rw [if_pos he]
    by_cases hb : i = 0 ∨ l.getD (ups l + 1 + i) 0 ≠ 10
    · refine Or.inr (Or.inl ⟨by omega, hb, ?_⟩)
      unfold headL
      rw [if_neg hneg, if_neg hlen, hd]
      dsimp only
      rw [if_neg he, if_pos hb]
    · refine Or.inr (Or.inr ⟨by omega, hb, ?_⟩)
      unfold headL
      rw [if_neg hneg, if_neg hlen, hd]
      dsimp only
      rw [if_neg he, if_neg hb]
/-- A head that goes on as that one does. -/
theorem headL_of {l : List Int} {n i : Nat} (h1 : 1 ≤ ups l) (h16 : ups l ≤ 16) (hlt : ups l < l.length) (h32 : l.getD (ups l) 0 = 32) (hd : digS (l.getD (ups l + 1) 0 == 48) 0 0 (l.drop (ups l + 1)) = some (n, i)) (hi : ups l + 1 + i < l.length) (hb : ¬ (i = 0 ∨ l.getD (ups l + 1 + i) 0 ≠ 10)) :
    headL l = (l.take (ups l), n, ups l + 2 + i, 0) := by
  unfold headL
  rw [if_neg (by
    rintro (h | ⟨_, h | h⟩)
    · omega
    · omega
    · exact h h32), if_neg (by omega), hd]
  dsimp only
  rw [if_neg (by omega), if_neg hb]
theorem headL_bad_of {l : List Int} (h1 : 1 ≤ ups l) (h16 : ups l ≤ 16) (hlt : ups l < l.length) (h32 : l.getD (ups l) 0 = 32) (hd : digS (l.getD (ups l + 1) 0 == 48) 0 0 (l.drop (ups l + 1)) = none ∨ ∃ n i, digS (l.getD (ups l + 1) 0 == 48) 0 0 (l.drop (ups l + 1)) = some (n, i) ∧ ups l + 1 + i < l.length ∧ (i = 0 ∨ l.getD (ups l + 1 + i) 0 ≠ 10)) :
    (headL l).2.2.2 = 3 := by
  unfold headL
  rw [if_neg (by
    rintro (h | ⟨_, h | h⟩)
    · omega
    · omega
    · exact h h32), if_neg (by omega)]
  rcases hd with hd | ⟨n, i, hd, hi, hb⟩
  · rw [hd]
  · rw [hd]
    dsimp only
    rw [if_neg (by omega), if_pos hb]
theorem drop_app {l x : List Int} {k : Nat} (h : k ≤ l.length) : (l ++ x).drop k = l.drop k ++ x := List.drop_append_of_le_length h
theorem headL_app (l x : List Int) : ((headL l).2.2.2 = 0 → headL (l ++ x) = headL l) ∧ ((headL l).2.2.2 = 3 → (headL (l ++ x)).2.2.2 = 3) := by
  have hap := ups_append l x
  have hla : (l ++ x).length = l.length + x.length := List.length_append
  rcases headL_ends l with ⟨h16, he⟩ | ⟨h16, hlt, hc, he⟩ | ⟨hlen, he⟩ | ⟨h1, h16, hlt, h32, ⟨hd, he⟩ | ⟨n, i, hd, ⟨hi, he⟩ | ⟨hi, hb, he⟩ | ⟨hi, hb, he⟩⟩⟩
  · refine ⟨fun h => by omega, fun _ => ?_⟩
    have h2 : 16 < ups (l ++ x) := by
      rw [hap]
      split <;> omega
    unfold headL
    rw [if_pos (Or.inl h2)]
  · rw [if_pos hlt] at hap
    refine ⟨fun h => by omega, fun _ => ?_⟩
    unfold headL
    rw [hap, if_pos (Or.inr ⟨by omega, by rw [getD_app hlt]; exact hc⟩)]
  · exact ⟨fun h => by omega, fun h => by omega⟩
  · rw [if_pos hlt] at hap
    have hlt2 : ups l + 1 < l.length := by
      rcases Nat.lt_or_ge (ups l + 1) l.length with h | h
      · exact h
      · rw [List.drop_eq_nil_iff.2 h] at hd
        simp [digS] at hd
    refine ⟨fun h => by omega, fun _ => headL_bad_of (by omega) (by omega) (by omega) (by rw [hap, getD_app hlt]; exact h32) (Or.inl ?_)⟩
    rw [hap, getD_app hlt2, drop_app (by omega)]
    exact digS_none _ _ _ hd
  · exact ⟨fun h => by omega, fun h => by omega⟩
  · rw [if_pos hlt] at hap
    have hlt2 : ups l + 1 < l.length := by omega
    refine ⟨fun h => by omega, fun _ => headL_bad_of (by omega) (by omega) (by omega) (by rw [hap, getD_app hlt]; exact h32) (Or.inr ⟨n, i, ?_, by omega, by rw [hap, getD_app hi]; exact hb⟩)⟩
    rw [hap, getD_app hlt2, drop_app (by omega)]
    exact digS_some _ _ _ hd (by rw [List.length_drop]; omega)
  · rw [if_pos hlt] at hap
    have hlt2 : ups l + 1 < l.length := by omega
    refine ⟨fun _ => ?_, fun h => by rw [he] at h; exact absurd (show (0 : Nat) = 3 from h) (by decide)⟩
    rw [he, headL_of (n := n) (i := i) (by omega) (by omega) (by omega) (by rw [hap, getD_app hlt]; exact h32) (by
      rw [hap, getD_app hlt2, drop_app (by omega)]
      exact digS_some _ _ _ hd (by rw [List.length_drop]; omega)) (by omega) (by rw [hap, getD_app hi]; exact hb), hap, List.take_append_of_le_length (by omega)]
theorem decL_app (l x : List Int) : ((decL l).2.2.2 = 0 → decL (l ++ x) = decL l) ∧ ((decL l).2.2.2 = 3 → (decL (l ++ x)).2.2.2 = 3) := by
  obtain ⟨h0, h3⟩ := headL_app l x
  obtain ⟨hf, he⟩ := headL_facts l
  have hla : (l ++ x).length = l.length + x.length := List.length_append
  by_cases e0 : (headL l).2.2.2 = 0
  · have hfe := hf e0
    have hh := h0 e0
    unfold decL
    rw [hh]
    unfold decH
    rw [if_pos e0, if_pos e0]
    by_cases hs : l.length - (headL l).2.2.1 < (headL l).2.1
    · rw [if_pos hs]
      exact ⟨fun h => absurd h (by decide), fun h => absurd h (by decide)⟩
    · rw [if_neg hs, if_neg (by omega), List.take_append_of_le_length (by omega)]
      exact ⟨fun _ => rfl, fun h => absurd (show (0 : Nat) = 3 from h) (by decide)⟩
  · have hd : (decL l).2.2.2 = (headL l).2.2.2 := by
      unfold decL decH
      rw [if_neg e0]
    refine ⟨fun h => absurd (hd.symm.trans h) e0, fun h => ?_⟩
    have h4 := h3 (hd.symm.trans h)
    unfold decL decH
    rw [if_neg (by omega)]
    exact h4

/-! ### Streams: chunks -/
theorem allT_app : ∀ (f : Nat) (l x : List Int), l.length < f →
    ((allT l).2.2 = false → allT (l ++ x) = ((allT l).1 ++ (allT ((allT l).2.1 ++ x)).1, (allT ((allT l).2.1 ++ x)).2)) ∧
    ((allT l).2.2 = true → allT (l ++ x) = ((allT l).1, [], true) ∧ (allT l).2.1 = []) := by
  intro f
  induction f with
  | zero => intro l x h; omega
  | succ f ih =>
    intro l x hl
    obtain ⟨a0, a3⟩ := decL_app l x
    rcases (decL_facts l).2 with h | h | h
    · have hf := (decL_facts l).1 h
      have hd := a0 h
      have h2 : (decL (l ++ x)).2.2.2 = 0 := by rw [hd]; exact h
      have ih1 := ih (l.drop (decL l).2.2.1) x (by rw [List.length_drop]; omega)
      have e1 := allT_ok h
      have e2 := allT_ok h2
      rw [hd, drop_app (by omega)] at e2
      obtain ⟨⟨m1, r1, b1⟩, ht⟩ : ∃ t, allT (l.drop (decL l).2.2.1) = t := ⟨_, rfl⟩
      rw [ht] at ih1 e1
      obtain ⟨M, hM⟩ : ∃ M, M = msg (decL l).1 (decL l).2.1 := ⟨_, rfl⟩
      rw [← hM] at e1 e2
      rw [e1]
      obtain ⟨i1, i2⟩ := ih1
      refine ⟨fun hb => ?_, fun hb => ?_⟩
      · have i3 := i1 hb
        rw [e2, i3]
        rfl
      · obtain ⟨j1, j2⟩ := i2 hb
        rw [e2, j1]
        exact ⟨rfl, j2⟩
    · have h2 := a3 h
      rw [allT_bad h, allT_bad h2]
      exact ⟨fun hb => absurd hb (by decide), fun _ => ⟨rfl, rfl⟩⟩
    · rw [allT_wait h]
      refine ⟨fun _ => ?_, fun hb => absurd (show false = true from hb) (by decide)⟩
      show allT (l ++ x) = ([] ++ (allT (l ++ x)).1, (allT (l ++ x)).2)
      rw [List.nil_append]
theorem allT_broken (l : List Int) (h : (allT l).2.2 = true) : (allT l).2.1 = [] := ((allT_app (l.length + 1) l [] (by omega)).2 h).2
/-- A chunk is fed. -/
theorem feed_chunk (l x : List Int) {m : List S23} {r : List Int} {b : Bool} (h : allT l = (m, r, b)) {m2 : List S23} {r2 : List Int} {b2 : Bool} (h2 : allT (l ++ x) = (m2, r2, b2)) :
    ∃ ms, feedS r b x = (ms, (if b2 = true then 3 else 0), r2, b2) ∧ m ++ ms = m2 := by
  have ha := allT_app (l.length + 1) l x (by omega)
  rw [h, h2] at ha
  obtain ⟨h1, h3⟩ := ha
  cases b with
  | false =>
    have h4 := h1 rfl
    obtain ⟨⟨p, q, c⟩, ht⟩ : ∃ t, allT (r ++ x) = t := ⟨_, rfl⟩
    have h5 : (m2, r2, b2) = (m ++ (allT (r ++ x)).1, (allT (r ++ x)).2) := h4
    rw [ht] at h5
    simp only [Prod.mk.injEq] at h5
    obtain ⟨rfl, rfl, rfl⟩ := h5
    refine ⟨p, ?_, rfl⟩
    unfold feedS
    rw [if_neg (by decide), ht]
  | true =>
    obtain ⟨h4, h5⟩ := h3 rfl
    have h6 : (m2, r2, b2) = (m, [], true) := h4
    simp only [Prod.mk.injEq] at h6
    obtain ⟨rfl, rfl, rfl⟩ := h6
    refine ⟨[], ?_, List.append_nil _⟩
    unfold feedS
    rw [if_pos rfl, if_pos rfl]
/-! ### A frame is decoded -/
theorem digS_run {z : Bool} {r : List Int} {y : Int} (hy : dgP y = false) : ∀ (ds : List UInt8) (i n : Nat), (∀ b ∈ ds, 48 ≤ b.toNat ∧ b.toNat ≤ 57) → dval n ds ≤ 1048576 → (z = true → i + ds.length ≤ 1) → digS z i n (iv ds ++ y :: r) = some (dval n ds, i + ds.length)
  | [], i, n, _, _, _ => by
    show digS z i n (y :: r) = _
    unfold digS
    rw [if_neg (by rw [hy]; decide)]
    rfl
  | b :: ds, i, n, hd, hv, hz => by
    have hb := hd b List.mem_cons_self
    have hdg : dgP (b.toNat : Int) = true := by
      unfold dgP
      rw [decide_eq_true (by omega), decide_eq_true (by omega)]
      rfl
    have hval : 10 * n + ((b.toNat : Int) - 48).toNat = 10 * n + (b.toNat - 48) := by omega
    have hle : 10 * n + (b.toNat - 48) ≤ 1048576 := Nat.le_trans (dval_ge ds _) hv
    show digS z i n ((b.toNat : Int) :: (iv ds ++ y :: r)) = _
    unfold digS
    rw [if_pos hdg, hval, if_neg (by
      rintro (h | ⟨h, h'⟩)
      · omega
      · have := hz h'
        rw [List.length_cons] at this
        omega), digS_run hy ds (i + 1) _ (fun c hc => hd c (List.mem_cons_of_mem _ hc)) hv (fun h => by have := hz h; rw [List.length_cons] at this; omega)]
    rw [List.length_cons]
    show some (dval (10 * n + (b.toNat - 48)) ds, _) = some (dval (10 * n + (b.toNat - 48)) ds, _)
    congr 2
    omega
theorem kind_up {k : List UInt8} (h : kindB k = true) : (∀ x ∈ iv k, upP x = true) ∧ 1 ≤ k.length ∧ k.length ≤ 16 := by
  refine ⟨fun x hx => ?_, kindB_len h⟩
  unfold kindB at h
  rw [Bool.and_eq_true, Bool.not_eq_true'] at h
  have ho := h.2
  rw [List.any_eq_false] at ho
  unfold iv at hx
  obtain ⟨b, hb, rfl⟩ := List.mem_map.1 hx
  have hk := oddK_false (by simpa using ho b hb)
  unfold upP
  rw [decide_eq_true (by omega), decide_eq_true (by omega)]
  rfl
theorem iv_frame (k b : List UInt8) (rest : List Int) : iv (frameB k b) ++ rest = iv k ++ 32 :: (iv (Lib.decDigits b.length) ++ 10 :: (iv b ++ rest)) := by
  unfold frameB
  rw [iv_append, iv_append, iv_append, iv_append]
  simp [iv]
theorem dec_frame (k b : List UInt8) (rest : List Int) (hk : kindB k = true) (hb : b.length ≤ 1048576) : decL (iv (frameB k b) ++ rest) = (iv k, iv b, (frameB k b).length, 0) := by
  obtain ⟨hup, h1, h16⟩ := kind_up hk
  obtain ⟨d1, d2, d3, d4, d5, d6⟩ := dd_facts b.length
  obtain ⟨D, hD⟩ : ∃ D, D = Lib.decDigits b.length := ⟨_, rfl⟩
  have hfl := frame_len k b
  rw [iv_frame]
  rw [← hD] at d1 d2 d3 d4 d5 d6 hfl ⊢
  obtain ⟨T, hT⟩ : ∃ T, T = 10 :: (iv b ++ rest) := ⟨_, rfl⟩
  obtain ⟨L, hL⟩ : ∃ L, L = iv k ++ 32 :: (iv D ++ T) := ⟨_, rfl⟩
  have hTl : T.length = 1 + b.length + rest.length := by rw [hT, List.length_cons, List.length_append, iv_len]; omega
  have hLl : L.length = k.length + 1 + D.length + T.length := by rw [hL, List.length_append, List.length_cons, List.length_append, iv_len, iv_len]; omega
  have hu : ups L = k.length := by rw [hL, ups_app hup (by decide), iv_len]
  have hg0 : L.getD k.length 0 = 32 := by
    rw [hL, List.getD_eq_getElem?_getD, List.getElem?_append_right (by rw [iv_len]; omega), iv_len, Nat.sub_self]
    rfl
  have hdr : L.drop (k.length + 1) = iv D ++ T := by
    rw [hL, show k.length + 1 = (iv k).length + 1 by rw [iv_len], List.drop_append]
    simp
  have hg1 : ∀ j, L.getD (k.length + 1 + j) 0 = (iv D ++ T).getD j 0 := by
    intro j
    rw [← hdr, List.getD_eq_getElem?_getD, List.getD_eq_getElem?_getD, List.getElem?_drop]
  have hz : (L.getD (k.length + 1) 0 == 48) = true → 0 + D.length ≤ 1 := by
    intro h
    have h2 := hg1 0
    rw [Nat.add_zero] at h2
    rw [h2] at h
    by_cases hv : 0 < b.length
    · obtain ⟨c, l, hcl, hc⟩ := d3 hv
      rw [hcl] at h
      have h3 : ((c.toNat : Int) == 48) = true := h
      have h4 : (c.toNat : Int) = 48 := by simpa using h3
      exact absurd (show c.toNat = 48 by omega) hc
    · rw [d6 (by omega)]
      decide
  have hrun : digS (L.getD (k.length + 1) 0 == 48) 0 0 (L.drop (k.length + 1)) = some (b.length, D.length) := by
    rw [hdr, hT, digS_run (by decide) D 0 0 d1 (by rw [d2]; exact hb) hz, d2, Nat.zero_add]
  have hg10 : L.getD (k.length + 1 + D.length) 0 = 10 := by
    rw [hg1, List.getD_eq_getElem?_getD, List.getElem?_append_right (by rw [iv_len]; omega), iv_len, Nat.sub_self, hT]
    rfl
  have hhead : headL L = (L.take k.length, b.length, k.length + 2 + D.length, 0) := by
    have h := headL_of (l := L) (n := b.length) (i := D.length) (by omega) (by omega) (by omega) (by rw [hu]; exact hg0) (by rw [hu]; exact hrun) (by omega) (by rw [hu]; rintro (h | h); omega; exact h hg10)
    rw [hu] at h
    exact h
  have htk : L.take k.length = iv k := by rw [hL, show k.length = (iv k).length by rw [iv_len], List.take_left' rfl]
  rw [← hT, ← hL]
  unfold decL
  rw [hhead]
  unfold decH
  dsimp only
  rw [if_pos rfl, if_neg (by omega), htk]
  have hsplit : L = (iv k ++ 32 :: (iv D ++ [10])) ++ (iv b ++ rest) := by
    rw [hL, hT]
    simp
  have hpl : (iv k ++ 32 :: (iv D ++ [10])).length = k.length + 2 + D.length := by
    rw [List.length_append, List.length_cons, List.length_append, iv_len, iv_len]
    show k.length + (D.length + 1 + 1) = _
    omega
  have hbody : (L.take (k.length + 2 + D.length + b.length)).drop (k.length + 2 + D.length) = iv b := by
    rw [hsplit, List.take_append, List.drop_append, hpl]
    rw [List.take_of_length_le (by rw [hpl]; omega), List.drop_of_length_le (by rw [hpl]; omega), hpl]
    rw [show k.length + 2 + D.length + b.length - (k.length + 2 + D.length) = b.length by omega, Nat.sub_self, List.drop_zero, List.nil_append, show b.length = (iv b).length by rw [iv_len], List.take_left' rfl]
  rw [hbody, show k.length + 2 + D.length + b.length = (frameB k b).length by omega]

end Go.Proofs.YtnineihfjbbmpaaGreatDoor.P
