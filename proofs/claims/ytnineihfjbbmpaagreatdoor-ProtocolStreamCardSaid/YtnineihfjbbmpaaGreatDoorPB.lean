/- The frames of the protocol: the reference answers the same. -/
import Derived.Test.YtnineihfjbbmpaaGreatDoorPA
import Derived.Test.YtnineihfjbbmpaaGreatDoorPx5
namespace Go.Proofs.YtnineihfjbbmpaaGreatDoor.P
open Go.RowKit Go.Proofs.YtnineihfjbbmpaaGreatDoorW.PrintWords Go.Proofs.YtnineihfjbbmpaaGreatDoorW.PrintLast Go.Proofs.YtnineihfjbbmpaaGreatDoorW.PrintMore
set_option exponentiation.threshold 8200
set_option linter.unusedVariables false
set_option linter.unusedSimpArgs false
/-! ### The reference's decoder answers the same -/
def finD (l : List Int) (s : Nat) (kd : ByteArray) : Option (Nat × Nat) → ByteArray × ByteArray × Int × Int
  | none => (⟨#[]⟩, ⟨#[]⟩, 0, 3)
  | some (n, i) => if s + i = l.length then (⟨#[]⟩, ⟨#[]⟩, 0, 9) else if i = 0 ∨ l.getD (s + i) 0 ≠ 10 then (⟨#[]⟩, ⟨#[]⟩, 0, 3) else if l.length - (s + i + 1) < n then (⟨#[]⟩, ⟨#[]⟩, 0, 9) else (kd, strOfNums ((l.take (s + i + 1 + n)).drop (s + i + 1)), ((s + i + 1 + n : Nat) : Int), 0)
theorem finD_end {l : List Int} {s n i : Nat} {kd : ByteArray} (h : s + i = l.length) : finD l s kd (some (n, i)) = (⟨#[]⟩, ⟨#[]⟩, 0, 9) := by
  unfold finD
  dsimp only
  rw [if_pos h]
theorem finD_bad {l : List Int} {s n i : Nat} {kd : ByteArray} (h : s + i ≠ l.length) (h2 : i = 0 ∨ l.getD (s + i) 0 ≠ 10) : finD l s kd (some (n, i)) = (⟨#[]⟩, ⟨#[]⟩, 0, 3) := by
  unfold finD
  dsimp only
  rw [if_neg h, if_pos h2]
theorem finD_short {l : List Int} {s n i : Nat} {kd : ByteArray} (h : s + i ≠ l.length) (h2 : ¬ (i = 0 ∨ l.getD (s + i) 0 ≠ 10)) (h3 : l.length - (s + i + 1) < n) : finD l s kd (some (n, i)) = (⟨#[]⟩, ⟨#[]⟩, 0, 9) := by
  unfold finD
  dsimp only
  rw [if_neg h, if_neg h2, if_pos h3]
theorem finD_ok {l : List Int} {s n i : Nat} {kd : ByteArray} (h : s + i ≠ l.length) (h2 : ¬ (i = 0 ∨ l.getD (s + i) 0 ≠ 10)) (h3 : ¬ l.length - (s + i + 1) < n) : finD l s kd (some (n, i)) = (kd, strOfNums ((l.take (s + i + 1 + n)).drop (s + i + 1)), ((s + i + 1 + n : Nat) : Int), 0) := by
  unfold finD
  dsimp only
  rw [if_neg h, if_neg h2, if_neg h3]
theorem refdec_l0 {l : List Int} (hl : l.length < 4611686018427387904) {r : ByteArray × ByteArray × Int × Int} (hr : Ev (fun k => lineageref59_Decode.j1 k l (ups l : Nat)) r) :
    ∀ (d i : Nat), ups l - i = d → i ≤ ups l → Ev (fun k => lineageref59_Decode.l0 k l (i : Nat)) r := by
  intro d
  induction d with
  | zero =>
    intro i hd hi
    obtain rfl : i = ups l := by omega
    refine Ev.step (fun k => ?_) hr
    rw [lineageref59_Decode.l0]
    by_cases hlt : ups l < l.length
    · have hu := ups_out hlt
      rw [if_pos (by omega), if_pos (by omega), rd_nat]
      by_cases h65 : l.getD (ups l) 0 ≥ 65
      · rw [if_pos h65, if_neg (by intro h90; unfold upP at hu; rw [decide_eq_true (show (65 : Int) ≤ _ from h65), decide_eq_true h90] at hu; cases hu)]
      · rw [if_neg h65]
    · rw [if_neg (by omega)]
  | succ d ih =>
    intro i hd hi
    have hu := ups_le l
    refine Ev.step (fun k => ?_) (ih (i + 1) (by omega) (by omega))
    have h1 := ups_in (l := l) (i := i) (by omega)
    unfold upP at h1
    rw [Bool.and_eq_true, decide_eq_true_iff, decide_eq_true_iff] at h1
    rw [lineageref59_Decode.l0, if_pos (by omega), if_pos (by omega), rd_nat, if_pos h1.1, if_pos h1.2, w64s (by omega)]
theorem refdec_l1 {l : List Int} (hl : l.length < 4611686018427387904) (s : Nat) (kd : ByteArray) (z : Bool) (hz : z = (l.getD s 0 == 48)) :
    ∀ (rest : List Int) (i n : Nat), rest = l.drop (s + i) → s + i ≤ l.length → n ≤ 1048576 → Ev (fun k => lineageref59_Decode.l1 k l ((s + i : Nat) : Int) kd (s : Int) (n : Int)) (finD l s kd (digS z i n rest)) := by
  intro rest
  induction rest with
  | nil =>
    intro i n hr hi hn
    have hlen : l.length ≤ s + i := List.drop_eq_nil_iff.1 hr.symm
    refine Ev.step (f := fun k => lineageref59_Decode.j4 k l ((s + i : Nat) : Int) kd (s : Int) (n : Int) false) (fun k => ?_) (Ev.step (fun k => ?_) (Ev.now _))
    · rw [lineageref59_Decode.l1, if_neg (by omega)]
    · rw [lineageref59_Decode.j4, if_neg (by decide), if_pos (by omega), digS, finD_end (by omega)]
  | cons x rest ih =>
    intro i n hr hi hn
    have hlt : s + i < l.length := by
      rcases Nat.lt_or_ge (s + i) l.length with h | h
      · exact h
      · rw [List.drop_eq_nil_iff.2 h] at hr; cases hr
    have hx : l.getD (s + i) 0 = x := by
      rw [List.getD_eq_getElem?_getD, ← List.head?_drop, ← hr]; rfl
    have hr2 : rest = l.drop (s + (i + 1)) := by
      rw [← Nat.add_assoc, ← List.tail_drop, ← hr]; rfl
    have e1 : ∀ k, lineageref59_Decode.l1 (k + 1) l ((s + i : Nat) : Int) kd (s : Int) (n : Int) = lineageref59_Decode.j4 k l ((s + i : Nat) : Int) kd (s : Int) (n : Int) (dgP x) := by
      intro k
      rw [lineageref59_Decode.l1, if_pos (by omega), if_pos (by omega), rd_nat, hx]
      unfold dgP
      by_cases h : x ≥ 48
      · rw [if_pos h, decide_eq_true (show (48 : Int) ≤ x from h), Bool.true_and]
      · rw [if_neg h, decide_eq_false (show ¬ (48 : Int) ≤ x from h), Bool.false_and]
    refine Ev.step e1 ?_
    by_cases hdg : dgP x = true
    · rw [hdg]
      have hst := dg_step hn hdg
      have e2 : ∀ k, lineageref59_Decode.j4 (k + 1) l ((s + i : Nat) : Int) kd (s : Int) (n : Int) true = lineageref59_Decode.j5 k l ((s + i : Nat) : Int) kd (s : Int) (n : Int) (decide (1 ≤ i) && z) := by
        intro k
        rw [lineageref59_Decode.j4, if_pos rfl]
        by_cases hi1 : 1 ≤ i
        · rw [if_pos (by omega), if_pos (by omega), if_pos (by omega), rd_nat, decide_eq_true hi1, Bool.true_and, hz]
        · rw [if_neg (by omega), decide_eq_false hi1, Bool.false_and]
      refine Ev.step e2 ?_
      by_cases hz1 : 1 ≤ i ∧ z = true
      · refine Ev.step (fun k => ?_) (Ev.now _)
        rw [decide_eq_true hz1.1, hz1.2, lineageref59_Decode.j5, if_pos (show (true && true) = true from rfl), digS, if_pos hdg, if_pos (Or.inr ⟨hz1.1, rfl⟩)]
        rfl
      · have hzf : (decide (1 ≤ i) && z) = false := by
          rw [← Bool.not_eq_true, Bool.and_eq_true, decide_eq_true_iff]
          exact hz1
        rw [hzf]
        by_cases hbig : 1048576 < 10 * n + (x - 48).toNat
        · refine Ev.step (fun k => ?_) (Ev.now _)
          rw [lineageref59_Decode.j5, if_neg (by decide), if_pos (by omega), if_pos (by omega), rd_nat, hx, hst, if_pos (by omega), digS, if_pos hdg, if_pos (Or.inl hbig)]
          rfl
        · have := ih (i + 1) (10 * n + (x - 48).toNat) hr2 (by omega) (by omega)
          refine Ev.step (fun k => ?_) (by rw [digS, if_pos hdg, if_neg (by rintro (h | h); exact hbig h; exact hz1 h)]; exact this)
          rw [lineageref59_Decode.j5, if_neg (by decide), if_pos (by omega), if_pos (by omega), rd_nat, hx, hst, if_neg (by omega), w64s (by omega)]
          rfl
    · have hdf : dgP x = false := by simpa using hdg
      rw [hdf]
      by_cases hi0 : i = 0
      · have e3 : ∀ k, lineageref59_Decode.j4 (k + 1) l ((s + i : Nat) : Int) kd (s : Int) (n : Int) false = lineageref59_Decode.j6 k l ((s + i : Nat) : Int) kd (n : Int) true := by
          intro k
          rw [lineageref59_Decode.j4, if_neg (by decide), if_neg (by omega), if_pos (by omega)]
        refine Ev.step e3 (Ev.step (fun k => ?_) (Ev.now _))
        rw [lineageref59_Decode.j6, if_pos rfl, digS, if_neg hdg, finD_bad (by omega) (Or.inl hi0)]
      · have e3 : ∀ k, lineageref59_Decode.j4 (k + 1) l ((s + i : Nat) : Int) kd (s : Int) (n : Int) false = lineageref59_Decode.j6 k l ((s + i : Nat) : Int) kd (n : Int) (x != 10) := by
          intro k
          rw [lineageref59_Decode.j4, if_neg (by decide), if_neg (by omega), if_neg (by omega), if_pos (by omega), if_pos (by omega), rd_nat, hx]
        refine Ev.step e3 (Ev.step (fun k => ?_) (Ev.now _))
        by_cases h10 : x = 10
        · have hne : ¬ (i = 0 ∨ l.getD (s + i) 0 ≠ 10) := by rw [hx]; rintro (h | h); exact hi0 h; exact h h10
          have ew : wrap64 ((l.length : Int) - ((s + i + 1 : Nat) : Int)) = ((l.length - (s + i + 1) : Nat) : Int) := by unfold wrap64; omega
          have ea : wrap64 (((s + i + 1 : Nat) : Int) + (n : Int)) = ((s + i + 1 + n : Nat) : Int) := by unfold wrap64; omega
          have hb : (x != 10) = false := by rw [h10]; rfl
          have hd2 : digS z i n (x :: rest) = some (n, i) := by rw [digS, if_neg hdg]
          rw [lineageref59_Decode.j6, hb, if_neg (by decide), w64s (by omega), ew, hd2]
          by_cases hsh : l.length - (s + i + 1) < n
          · rw [if_pos (by omega), finD_short (by omega) hne hsh]
          · rw [if_neg (by omega), if_pos (by omega), ea, if_pos (by omega), if_pos (by omega), Int.toNat_natCast, Int.toNat_natCast, finD_ok (by omega) hne hsh]
        · rw [lineageref59_Decode.j6, if_pos (bne_iff_ne.2 h10), digS, if_neg hdg, finD_bad (by omega) (Or.inr (by rw [hx]; exact h10))]
theorem refdec_f {l : List Int} (hl : l.length < 4611686018427387904) : Ev (fun k => lineageref59_Decode.f k l) (decV l) := by
  have hu := ups_le l
  refine refdec_l0 hl (i := 0) ?_ _ rfl (Nat.zero_le _)
  have e1 : ∀ k, lineageref59_Decode.j1 (k + 1) l (ups l : Nat) = lineageref59_Decode.j2 k l (ups l : Nat) (strOfNums (l.take (ups l))) (decide (16 < ups l ∨ (ups l = 0 ∧ 0 < l.length))) := by
    intro k
    rw [lineageref59_Decode.j1, if_pos (by omega), if_pos (by omega), Int.toNat_natCast]
    by_cases h16 : 16 < ups l
    · rw [if_pos (by omega), decide_eq_true (Or.inl h16)]
    · rw [if_neg (by omega)]
      by_cases h0 : ups l = 0
      · rw [if_pos (by omega)]
        congr 1
        rw [decide_eq_decide]
        omega
      · rw [if_neg (by omega), decide_eq_false (by omega)]
  refine Ev.step e1 ?_
  by_cases hc0 : 16 < ups l ∨ (ups l = 0 ∧ 0 < l.length)
  · refine Ev.step (fun k => ?_) (Ev.now _)
    have hc : 16 < ups l ∨ (ups l < l.length ∧ (ups l = 0 ∨ l.getD (ups l) 0 ≠ 32)) := by
      rcases hc0 with h | h
      · exact Or.inl h
      · exact Or.inr ⟨by omega, Or.inl h.1⟩
    rw [decide_eq_true hc0, lineageref59_Decode.j2, if_pos rfl]
    unfold decV decL headL
    rw [if_pos hc]
    rfl
  · rw [decide_eq_false hc0]
    by_cases hlen : ups l = l.length
    · have hc : ¬ (16 < ups l ∨ (ups l < l.length ∧ (ups l = 0 ∨ l.getD (ups l) 0 ≠ 32))) := by
        rintro (h | h)
        · exact hc0 (Or.inl h)
        · omega
      refine Ev.step (fun k => ?_) (Ev.now _)
      rw [lineageref59_Decode.j2, if_neg (by decide), if_pos (by omega)]
      unfold decV decL headL
      rw [if_neg hc, if_pos hlen]
      rfl
    · by_cases h32 : l.getD (ups l) 0 = 32
      · have hc : ¬ (16 < ups l ∨ (ups l < l.length ∧ (ups l = 0 ∨ l.getD (ups l) 0 ≠ 32))) := by
          rintro (h | ⟨h1, h | h⟩)
          · exact hc0 (Or.inl h)
          · exact hc0 (Or.inr ⟨h, by omega⟩)
          · exact h h32
        have h1 := refdec_l1 hl (ups l + 1) (strOfNums (l.take (ups l))) _ rfl (l.drop (ups l + 1)) 0 0 rfl (by omega) (by omega)
        have e2 : decV l = finD l (ups l + 1) (strOfNums (l.take (ups l))) (digS (l.getD (ups l + 1) 0 == 48) 0 0 (l.drop (ups l + 1))) := by
          unfold decV decL headL
          rw [if_neg hc, if_neg hlen]
          cases digS (l.getD (ups l + 1) 0 == 48) 0 0 (l.drop (ups l + 1)) with
          | none => rfl
          | some p =>
            obtain ⟨n, i⟩ := p
            dsimp only
            by_cases h3 : ups l + 1 + i = l.length
            · rw [if_pos h3, finD_end h3]
              rfl
            · rw [if_neg h3]
              by_cases h4 : i = 0 ∨ l.getD (ups l + 1 + i) 0 ≠ 10
              · rw [if_pos h4, finD_bad h3 h4]
                rfl
              · rw [if_neg h4, show ups l + 2 + i = ups l + 1 + i + 1 by omega]
                unfold decH
                dsimp only
                rw [if_pos rfl]
                by_cases h5 : l.length - (ups l + 1 + i + 1) < n
                · rw [if_pos h5, finD_short h3 h4 h5]
                  rfl
                · rw [if_neg h5, finD_ok h3 h4 h5]
                  rfl
        rw [e2]
        refine Ev.step (fun k => ?_) h1
        rw [lineageref59_Decode.j2, if_neg (by decide), if_neg (by omega), if_pos (by omega), if_pos (by omega), rd_nat, if_pos h32, w64s (by omega)]
        rfl
      · have hc : 16 < ups l ∨ (ups l < l.length ∧ (ups l = 0 ∨ l.getD (ups l) 0 ≠ 32)) := Or.inr ⟨by omega, Or.inr h32⟩
        refine Ev.step (fun k => ?_) (Ev.now _)
        rw [lineageref59_Decode.j2, if_neg (by decide), if_neg (by omega), if_pos (by omega), if_pos (by omega), rd_nat, if_neg h32]
        unfold decV decL headL
        rw [if_pos hc]
        rfl

end Go.Proofs.YtnineihfjbbmpaaGreatDoor.P
