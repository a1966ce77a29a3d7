/- The frames of the protocol: what the decoders answer, in plain words. -/
import Derived.Test.YtnineihfjbbmpaaGreatDoorPx4
namespace Go.Proofs.YtnineihfjbbmpaaGreatDoor.P
open Go.RowKit Go.Proofs.YtnineihfjbbmpaaGreatDoorW.PrintWords Go.Proofs.YtnineihfjbbmpaaGreatDoorW.PrintLast Go.Proofs.YtnineihfjbbmpaaGreatDoorW.PrintMore
set_option exponentiation.threshold 8200
set_option linter.unusedVariables false
set_option linter.unusedSimpArgs false
/-! ### Frames: what both decoders answer -/
def upP (x : Int) : Bool := decide (65 ≤ x) && decide (x ≤ 90)
def dgP (x : Int) : Bool := decide (48 ≤ x) && decide (x ≤ 57)
/-- The number of capital letters that a list begins with. -/
def ups : List Int → Nat
  | [] => 0
  | x :: r => if upP x = true then ups r + 1 else 0
theorem ups_le (l : List Int) : ups l ≤ l.length := by
  induction l with
  | nil => exact Nat.le_refl _
  | cons x r ih =>
    unfold ups
    split
    · rw [List.length_cons]; omega
    · exact Nat.zero_le _
theorem ups_in {l : List Int} {i : Nat} (h : i < ups l) : upP (l.getD i 0) = true := by
  induction l generalizing i with
  | nil => exact absurd h (by simp [ups])
  | cons x r ih =>
    unfold ups at h
    split at h
    · rename_i hx
      cases i with
      | zero => exact hx
      | succ i => exact ih (by omega)
    · omega
theorem ups_out {l : List Int} (h : ups l < l.length) : upP (l.getD (ups l) 0) = false := by
  induction l with
  | nil => simp at h
  | cons x r ih =>
    unfold ups at h ⊢
    split
    · rename_i hx
      rw [if_pos hx, List.length_cons] at h
      exact ih (by omega)
    · rename_i hx
      simpa using hx
/-- The digits: their number's value and how many they are; nothing where they are no frame's. -/
def digS (z : Bool) : Nat → Nat → List Int → Option (Nat × Nat)
  | i, n, [] => some (n, i)
  | i, n, x :: r => if dgP x = true then (if 1048576 < 10 * n + (x - 48).toNat ∨ (1 ≤ i ∧ z = true) then none else digS z (i + 1) (10 * n + (x - 48).toNat) r) else some (n, i)
/-- What a frame's head says: kind, length of the body, its offset, and the error. -/
def headL (l : List Int) : List Int × Nat × Nat × Nat :=
  if 16 < ups l ∨ (ups l < l.length ∧ (ups l = 0 ∨ l.getD (ups l) 0 ≠ 32)) then ([], 0, 0, 3)
  else if ups l = l.length then ([], 0, 0, 9)
  else match digS (l.getD (ups l + 1) 0 == 48) 0 0 (l.drop (ups l + 1)) with
    | none => ([], 0, 0, 3)
    | some (n, i) => if ups l + 1 + i = l.length then ([], 0, 0, 9) else if i = 0 ∨ l.getD (ups l + 1 + i) 0 ≠ 10 then ([], 0, 0, 3) else (l.take (ups l), n, ups l + 2 + i, 0)
/-- What Decode answers: kind, body, length of the frame, error. -/
def decH (l : List Int) (h : List Int × Nat × Nat × Nat) : List Int × List Int × Nat × Nat :=
  if h.2.2.2 = 0 then (if l.length - h.2.2.1 < h.2.1 then ([], [], 0, 9) else (h.1, (l.take (h.2.2.1 + h.2.1)).drop h.2.2.1, h.2.2.1 + h.2.1, 0))
  else ([], [], 0, h.2.2.2)
def decL (l : List Int) : List Int × List Int × Nat × Nat := decH l (headL l)
theorem digS_facts {z : Bool} : ∀ (r : List Int) (i n : Nat) {m j : Nat}, digS z i n r = some (m, j) → n ≤ 1048576 → i ≤ j ∧ j ≤ i + r.length ∧ m ≤ 1048576
  | [], i, n, m, j, h, hn => by
    simp only [digS, Option.some.injEq, Prod.mk.injEq] at h
    obtain ⟨rfl, rfl⟩ := h
    exact ⟨Nat.le_refl _, Nat.le_add_right _ _, hn⟩
  | x :: r, i, n, m, j, h, hn => by
    unfold digS at h
    split at h
    · split at h
      · cases h
      · rename_i hc
        have h1 := digS_facts r _ _ h (by omega)
        rw [List.length_cons]
        omega
    · simp only [Option.some.injEq, Prod.mk.injEq] at h
      obtain ⟨rfl, rfl⟩ := h
      exact ⟨Nat.le_refl _, Nat.le_add_right _ _, hn⟩
theorem headL_facts (l : List Int) : ((headL l).2.2.2 = 0 → 3 ≤ (headL l).2.2.1 ∧ (headL l).2.2.1 ≤ l.length ∧ (headL l).2.1 ≤ 1048576) ∧ ((headL l).2.2.2 = 0 ∨ (headL l).2.2.2 = 3 ∨ (headL l).2.2.2 = 9) := by
  unfold headL
  split
  · exact ⟨fun h => absurd h (by decide), Or.inr (Or.inl rfl)⟩
  split
  · exact ⟨fun h => absurd h (by decide), Or.inr (Or.inr rfl)⟩
  rename_i h1 h2
  split
  · exact ⟨fun h => absurd h (by decide), Or.inr (Or.inl rfl)⟩
  rename_i n i hd
  split
  · exact ⟨fun h => absurd h (by decide), Or.inr (Or.inr rfl)⟩
  split
  · exact ⟨fun h => absurd h (by decide), Or.inr (Or.inl rfl)⟩
  rename_i h3 h4
  have hf := digS_facts _ _ _ hd (by omega)
  have hu := ups_le l
  rw [List.length_drop] at hf
  refine ⟨fun _ => ⟨?_, ?_, hf.2.2⟩, Or.inl rfl⟩
  · show 3 ≤ ups l + 2 + i
    omega
  · show ups l + 2 + i ≤ l.length
    omega
theorem decL_facts (l : List Int) : ((decL l).2.2.2 = 0 → 3 ≤ (decL l).2.2.1 ∧ (decL l).2.2.1 ≤ l.length) ∧ ((decL l).2.2.2 = 0 ∨ (decL l).2.2.2 = 3 ∨ (decL l).2.2.2 = 9) := by
  obtain ⟨h1, h2⟩ := headL_facts l
  unfold decL decH
  split
  · rename_i h0
    have h3 := h1 h0
    split
    · exact ⟨fun h => absurd h (by decide), Or.inr (Or.inr rfl)⟩
    · refine ⟨fun _ => ?_, Or.inl rfl⟩
      show 3 ≤ (headL l).2.2.1 + (headL l).2.1 ∧ (headL l).2.2.1 + (headL l).2.1 ≤ l.length
      omega
  · rename_i h0
    exact ⟨fun h => absurd h h0, h2⟩
theorem rd_nat (l : List Int) (i : Nat) : rd l (i : Int) = l.getD i 0 := by unfold rd; rw [Int.toNat_natCast]
theorem w64n {n : Nat} (h : n < 4611686018427387904) : wrap64 (n : Int) = n := by unfold wrap64; omega
theorem w64s {n : Nat} (h : n < 4611686018427387904) : wrap64 ((n : Int) + 1) = ((n + 1 : Nat) : Int) := by unfold wrap64; omega
theorem upper_f (x : Int) : protocol_upper.f x = some (upP x) := by
  unfold protocol_upper.f upP
  by_cases h : x ≥ 65
  · rw [if_pos h, decide_eq_true (show (65 : Int) ≤ x from h), Bool.true_and]
  · rw [if_neg h, decide_eq_false (show ¬ (65 : Int) ≤ x from h), Bool.false_and]
theorem head_l0 {l : List Int} (hl : l.length < 4611686018427387904) {r : ByteArray × Int × Int × Int} (hr : Ev (fun k => protocol_head.j1 k l (ups l : Nat)) r) :
    ∀ (d i : Nat), ups l - i = d → i ≤ ups l → Ev (fun k => protocol_head.l0 k l (i : Nat)) r := by
  intro d
  induction d with
  | zero =>
    intro i hd hi
    obtain rfl : i = ups l := by omega
    refine Ev.step (fun k => ?_) hr
    rw [protocol_head.l0]
    by_cases hlt : ups l < l.length
    · rw [if_pos (by omega), if_pos (by omega), rd_nat, upper_f, ups_out hlt, Option.bind_some, if_neg (by decide)]
    · rw [if_neg (by omega)]
  | succ d ih =>
    intro i hd hi
    have hu := ups_le l
    refine Ev.step (fun k => ?_) (ih (i + 1) (by omega) (by omega))
    rw [protocol_head.l0, if_pos (by omega), if_pos (by omega), rd_nat, upper_f, ups_in (by omega), Option.bind_some, if_pos rfl, w64s (by omega)]
theorem dgP_true {x : Int} (h : dgP x = true) : 48 ≤ x ∧ x ≤ 57 := by
  unfold dgP at h
  rw [Bool.and_eq_true, decide_eq_true_iff, decide_eq_true_iff] at h
  exact h
theorem dg_step {n : Nat} (hn : n ≤ 1048576) {x : Int} (h : dgP x = true) : wrap64 (wrap64 (10 * (n : Int)) + (x - 48) % 256) = ((10 * n + (x - 48).toNat : Nat) : Int) := by
  have hx := dgP_true h
  rw [show wrap64 (10 * (n : Int)) = 10 * (n : Int) from by unfold wrap64; omega]
  unfold wrap64
  omega
/-- What the digits' loop comes to. -/
def finH (l : List Int) (s : Nat) (kd : ByteArray) : Option (Nat × Nat) → ByteArray × Int × Int × Int
  | none => (⟨#[]⟩, 0, 0, 3)
  | some (n, i) => if s + i = l.length then (⟨#[]⟩, 0, 0, 9) else if i = 0 ∨ l.getD (s + i) 0 ≠ 10 then (⟨#[]⟩, 0, 0, 3) else (kd, (n : Int), ((s + i + 1 : Nat) : Int), 0)
theorem finH_end {l : List Int} {s n i : Nat} {kd : ByteArray} (h : s + i = l.length) : finH l s kd (some (n, i)) = (⟨#[]⟩, 0, 0, 9) := by
  unfold finH
  dsimp only
  rw [if_pos h]
theorem finH_bad {l : List Int} {s n i : Nat} {kd : ByteArray} (h : s + i ≠ l.length) (h2 : i = 0 ∨ l.getD (s + i) 0 ≠ 10) : finH l s kd (some (n, i)) = (⟨#[]⟩, 0, 0, 3) := by
  unfold finH
  dsimp only
  rw [if_neg h, if_pos h2]
theorem finH_ok {l : List Int} {s n i : Nat} {kd : ByteArray} (h : s + i ≠ l.length) (h2 : ¬ (i = 0 ∨ l.getD (s + i) 0 ≠ 10)) : finH l s kd (some (n, i)) = (kd, (n : Int), ((s + i + 1 : Nat) : Int), 0) := by
  unfold finH
  dsimp only
  rw [if_neg h, if_neg h2]
theorem head_l1 {l : List Int} (hl : l.length < 4611686018427387904) (s : Nat) (kd : ByteArray) (z : Bool) (hz : z = (l.getD s 0 == 48)) :
    ∀ (rest : List Int) (i n : Nat), rest = l.drop (s + i) → s + i ≤ l.length → n ≤ 1048576 → Ev (fun k => protocol_head.l1 k l ((s + i : Nat) : Int) kd (n : Int) (s : Int)) (finH l s kd (digS z i n rest)) := by
  intro rest
  induction rest with
  | nil =>
    intro i n hr hi hn
    have hlen : l.length ≤ s + i := List.drop_eq_nil_iff.1 hr.symm
    refine Ev.step (f := fun k => protocol_head.j4 k l ((s + i : Nat) : Int) kd (n : Int) (s : Int) false) (fun k => ?_) (Ev.step (fun k => ?_) (Ev.now _))
    · rw [protocol_head.l1, if_neg (by omega)]
    · rw [protocol_head.j4, if_neg (by decide), if_pos (by omega), digS, finH_end (by omega)]
  | cons x rest ih =>
    intro i n hr hi hn
    have hlt : s + i < l.length := by
      rcases Nat.lt_or_ge (s + i) l.length with h | h
      · exact h
      · rw [List.drop_eq_nil_iff.2 h] at hr; cases hr
    have hx : l.getD (s + i) 0 = x := by
      rw [List.getD_eq_getElem?_getD, ← List.head?_drop, ← hr]; rfl
    have hr2 : rest = l.drop (s + (i + 1)) := by
      rw [← Nat.add_assoc, ← List.tail_drop, ← hr]; rfl
    have e1 : ∀ k, protocol_head.l1 (k + 1) l ((s + i : Nat) : Int) kd (n : Int) (s : Int) = protocol_head.j4 k l ((s + i : Nat) : Int) kd (n : Int) (s : Int) (dgP x) := by
      intro k
      rw [protocol_head.l1, if_pos (by omega), if_pos (by omega), rd_nat, hx]
      unfold dgP
      by_cases h : x ≥ 48
      · rw [if_pos h, decide_eq_true (show (48 : Int) ≤ x from h), Bool.true_and]
      · rw [if_neg h, decide_eq_false (show ¬ (48 : Int) ≤ x from h), Bool.false_and]
    refine Ev.step e1 ?_
    by_cases hdg : dgP x = true
    · rw [hdg]
      have hst := dg_step hn hdg
      by_cases hbig : 1048576 < 10 * n + (x - 48).toNat
      · refine Ev.step (fun k => ?_) (Ev.now _)
        rw [protocol_head.j4, if_pos rfl, if_pos (by omega), if_pos (by omega), rd_nat, hx, hst, if_pos (by omega), digS, if_pos hdg, if_pos (Or.inl hbig)]
        rfl
      · by_cases hi1 : 1 ≤ i
        · by_cases hz1 : z = true
          · refine Ev.step (fun k => ?_) (Ev.now _)
            have h48 : l.getD s 0 = 48 := by rw [hz] at hz1; simpa using hz1
            rw [protocol_head.j4, if_pos rfl, if_pos (by omega), if_pos (by omega), rd_nat, hx, hst, if_neg (by omega), w64s (by omega), w64s (by omega), if_pos (by omega), if_pos (by omega), if_pos (by omega), rd_nat, if_pos h48, digS, if_pos hdg, if_pos (Or.inr ⟨hi1, hz1⟩)]
            rfl
          · have h48 : ¬ l.getD s 0 = 48 := by rw [hz] at hz1; simpa using hz1
            have := ih (i + 1) (10 * n + (x - 48).toNat) hr2 (by omega) (by omega)
            refine Ev.step (fun k => ?_) (by rw [digS, if_pos hdg, if_neg (by rintro (h | h); exact hbig h; exact hz1 h.2)]; exact this)
            rw [protocol_head.j4, if_pos rfl, if_pos (by omega), if_pos (by omega), rd_nat, hx, hst, if_neg (by omega), w64s (by omega), w64s (by omega), if_pos (by omega), if_pos (by omega), if_pos (by omega), rd_nat, if_neg h48]
            rfl
        · have := ih (i + 1) (10 * n + (x - 48).toNat) hr2 (by omega) (by omega)
          refine Ev.step (fun k => ?_) (by rw [digS, if_pos hdg, if_neg (by rintro (h | h); exact hbig h; exact hi1 h.1)]; exact this)
          rw [protocol_head.j4, if_pos rfl, if_pos (by omega), if_pos (by omega), rd_nat, hx, hst, if_neg (by omega), w64s (by omega), w64s (by omega), if_neg (by omega)]
          rfl
    · have hdf : dgP x = false := by simpa using hdg
      rw [hdf]
      refine Ev.step (fun k => ?_) (Ev.now _)
      rw [protocol_head.j4, if_neg (by decide), if_neg (by omega), digS, if_neg hdg]
      by_cases hi0 : i = 0
      · rw [if_pos (by omega), finH_bad (by omega) (Or.inl hi0)]
      · rw [if_neg (by omega), if_pos (by omega), if_pos (by omega), rd_nat, hx]
        by_cases h10 : x = 10
        · rw [if_pos h10, finH_ok (by omega) (by rw [hx]; rintro (h | h); exact hi0 h; exact h h10), w64s (by omega)]
        · rw [if_neg h10, finH_bad (by omega) (Or.inr (by rw [hx]; exact h10))]
/-- The head as the program gives it. -/
def headV (l : List Int) : ByteArray × Int × Int × Int := (strOfNums (headL l).1, ((headL l).2.1 : Int), ((headL l).2.2.1 : Int), ((headL l).2.2.2 : Int))
theorem nats_nil : strOfNums [] = ⟨#[]⟩ := rfl
theorem head_f {l : List Int} (hl : l.length < 4611686018427387904) : Ev (fun k => protocol_head.f k l) (headV l) := by
  have hu := ups_le l
  refine head_l0 hl (i := 0) ?_ _ rfl (Nat.zero_le _)
  have e1 : ∀ k, protocol_head.j1 (k + 1) l (ups l : Nat) = protocol_head.j2 k l (ups l : Nat) (strOfNums (l.take (ups l))) (decide (16 < ups l ∨ (ups l < l.length ∧ (ups l = 0 ∨ l.getD (ups l) 0 ≠ 32)))) := by
    intro k
    rw [protocol_head.j1, if_pos (by omega), if_pos (by omega), Int.toNat_natCast, rd_nat]
    by_cases h16 : 16 < ups l
    · rw [if_pos (by omega), decide_eq_true (Or.inl h16)]
    · rw [if_neg (by omega)]
      by_cases hlt : ups l < l.length
      · rw [if_pos (by omega)]
        by_cases h0 : ups l = 0
        · rw [if_pos (by omega), decide_eq_true (Or.inr ⟨hlt, Or.inl h0⟩)]
        · rw [if_neg (by omega)]
          by_cases h32 : l.getD (ups l) 0 = 32
          · rw [decide_eq_false (by rintro (h | ⟨_, h | h⟩); exact h16 h; exact h0 h; exact h h32), h32]
            rfl
          · rw [decide_eq_true (Or.inr ⟨hlt, Or.inr h32⟩), bne_iff_ne.2 h32]
      · rw [if_neg (by omega), decide_eq_false (by rintro (h | ⟨h, _⟩); exact h16 h; exact hlt h)]
  refine Ev.step e1 ?_
  by_cases hc : 16 < ups l ∨ (ups l < l.length ∧ (ups l = 0 ∨ l.getD (ups l) 0 ≠ 32))
  · refine Ev.step (fun k => ?_) (Ev.now _)
    rw [decide_eq_true hc, protocol_head.j2, if_pos rfl]
    unfold headV headL
    rw [if_pos hc]
    rfl
  · rw [decide_eq_false hc]
    by_cases hlen : ups l = l.length
    · refine Ev.step (fun k => ?_) (Ev.now _)
      rw [protocol_head.j2, if_neg (by decide), if_pos (by omega)]
      unfold headV headL
      rw [if_neg hc, if_pos hlen]
      rfl
    · have h1 := head_l1 hl (ups l + 1) (strOfNums (l.take (ups l))) _ rfl (l.drop (ups l + 1)) 0 0 rfl (by omega) (by omega)
      have e2 : headV l = finH l (ups l + 1) (strOfNums (l.take (ups l))) (digS (l.getD (ups l + 1) 0 == 48) 0 0 (l.drop (ups l + 1))) := by
        unfold headV headL
        rw [if_neg hc, if_neg hlen]
        cases digS (l.getD (ups l + 1) 0 == 48) 0 0 (l.drop (ups l + 1)) with
        | none => rfl
        | some p =>
          obtain ⟨n, i⟩ := p
          unfold finH
          dsimp only
          by_cases h3 : ups l + 1 + i = l.length
          · rw [if_pos h3, if_pos h3]
            rfl
          · rw [if_neg h3, if_neg h3]
            by_cases h4 : i = 0 ∨ l.getD (ups l + 1 + i) 0 ≠ 10
            · rw [if_pos h4, if_pos h4]
              rfl
            · rw [if_neg h4, if_neg h4]
              dsimp only
              rw [show ups l + 2 + i = ups l + 1 + i + 1 by omega]
              rfl
      rw [e2]
      refine Ev.step (fun k => ?_) h1
      rw [protocol_head.j2, if_neg (by decide), if_neg (by omega), w64s (by omega)]
      rfl
/-- What Decode gives. -/
def decV (l : List Int) : ByteArray × ByteArray × Int × Int := (strOfNums (decL l).1, strOfNums (decL l).2.1, ((decL l).2.2.1 : Int), ((decL l).2.2.2 : Int))
theorem decode_f {l : List Int} (hl : l.length < 4611686018427387904) : Ev (fun k => protocol_Decode.f k l) (decV l) := by
  obtain ⟨hf, he⟩ := headL_facts l
  refine Ev.bind (head_f hl) ?_
  show Ev (fun k => if (((headL l).2.2.2 : Nat) : Int) = 0 then protocol_Decode.j0 k l (strOfNums (headL l).1) ((headL l).2.1 : Int) ((headL l).2.2.1 : Int) ((headL l).2.2.2 : Int) (decide (wrap64 ((l.length : Int) - ((headL l).2.2.1 : Int)) < ((headL l).2.1 : Int))) else protocol_Decode.j0 k l (strOfNums (headL l).1) ((headL l).2.1 : Int) ((headL l).2.2.1 : Int) ((headL l).2.2.2 : Int) false) _
  by_cases h0 : (headL l).2.2.2 = 0
  · have h3 := hf h0
    refine Ev.congr (fun k => by rw [if_pos (by omega)]) ?_
    have ew : wrap64 ((l.length : Int) - ((headL l).2.2.1 : Int)) = ((l.length - (headL l).2.2.1 : Nat) : Int) := by unfold wrap64; omega
    rw [ew]
    by_cases hs : l.length - (headL l).2.2.1 < (headL l).2.1
    · refine Ev.step (fun k => ?_) (Ev.now _)
      rw [decide_eq_true (by omega), protocol_Decode.j0, if_pos rfl, if_neg (by decide)]
      unfold decV decL decH
      rw [if_pos h0, if_pos hs]
      rfl
    · refine Ev.step (fun k => ?_) (Ev.now _)
      have ea : wrap64 (((headL l).2.2.1 : Int) + ((headL l).2.1 : Int)) = (((headL l).2.2.1 + (headL l).2.1 : Nat) : Int) := by unfold wrap64; omega
      rw [decide_eq_false (by omega), protocol_Decode.j0, if_neg (by decide), if_pos (by omega), if_pos (by omega), ea, if_pos (by omega), if_pos (by omega), Int.toNat_natCast, Int.toNat_natCast]
      unfold decV decL decH
      rw [if_pos h0, if_neg hs]
      rfl
  · refine Ev.congr (fun k => by rw [if_neg (by omega)]) ?_
    refine Ev.step (fun k => ?_) (Ev.now _)
    rw [protocol_Decode.j0, if_neg (by decide), if_neg (by omega)]
    unfold decV decL decH
    rw [if_neg h0]
    rfl

end Go.Proofs.YtnineihfjbbmpaaGreatDoor.P
