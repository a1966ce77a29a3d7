/- The reference's All. -/
import Derived.Test.YtnineihfjbbmpaaGreatDoorPN
import Derived.Test.YtnineihfjbbmpaaGreatDoorPx7
namespace Go.Proofs.YtnineihfjbbmpaaGreatDoor.P
open Go.RowKit Go.Proofs.YtnineihfjbbmpaaGreatDoorW.PrintWords Go.Proofs.YtnineihfjbbmpaaGreatDoorW.PrintLast Go.Proofs.YtnineihfjbbmpaaGreatDoorW.PrintMore
set_option exponentiation.threshold 8200
set_option linter.unusedVariables false
set_option linter.unusedSimpArgs false
/-! ### The reference's All, and the two tests for equality -/
theorem all_l0 : ∀ (f : Nat) (l : List Int) (acc : List S23), l.length < f → acc.length + l.length ≤ 1000000 → Ev (fun k => lineageref59_All.l0 k l acc) (acc ++ (allT l).1, ((allT l).2.1.length : Int), (allT l).2.2) := by
  intro f
  induction f with
  | zero => intro l acc h; omega
  | succ f ih =>
    intro l acc hl ha
    have hd := refdec_f (l := l) (by omega)
    rcases (decL_facts l).2 with h | h | h
    · have hf := (decL_facts l).1 h
      have hi := ih (l.drop (decL l).2.2.1) (acc ++ [msg (decL l).1 (decL l).2.1]) (by rw [List.length_drop]; omega) (by rw [List.length_drop, List.length_append, List.length_singleton]; omega)
      rw [allT_ok h]
      dsimp only
      rw [List.append_assoc] at hi
      refine Ev.step (f := fun k => (lineageref59_Decode.f k l).bind fun bt => (if bt.2.2.2 = 3 then (some (acc, (0 : Int), true)) else (if bt.2.2.2 = 0 then (if acc.length < 4398046511104 then (if 0 ≤ bt.2.2.1 then (if bt.2.2.1 ≤ (l.length : Int) then (lineageref59_All.l0 k (l.drop (bt.2.2.1 : Int).toNat) (acc ++ [(⟨bt.1, bt.2.1⟩ : S23)])) else (none)) else (none)) else (none)) else (some (acc, (l.length : Int), false))))) (fun k => by rw [lineageref59_All.l0]) (Ev.bind hd ?_)
      refine Ev.congr (fun k => ?_) hi
      show (if (((decL l).2.2.2 : Nat) : Int) = 3 then _ else if (((decL l).2.2.2 : Nat) : Int) = 0 then _ else _) = _
      rw [h, if_neg (by decide), if_pos (show ((0 : Nat) : Int) = 0 from rfl), if_pos (by omega)]
      show (if (0 : Int) ≤ (((decL l).2.2.1 : Nat) : Int) then (if (((decL l).2.2.1 : Nat) : Int) ≤ (l.length : Int) then _ else _) else _) = _
      rw [if_pos (by omega), if_pos (by omega)]
      show lineageref59_All.l0 k (l.drop (((decL l).2.2.1 : Nat) : Int).toNat) _ = _
      rw [Int.toNat_natCast]
      rfl
    · rw [allT_bad h]
      refine Ev.step (f := fun k => (lineageref59_Decode.f k l).bind fun bt => (if bt.2.2.2 = 3 then (some (acc, (0 : Int), true)) else (if bt.2.2.2 = 0 then (if acc.length < 4398046511104 then (if 0 ≤ bt.2.2.1 then (if bt.2.2.1 ≤ (l.length : Int) then (lineageref59_All.l0 k (l.drop (bt.2.2.1 : Int).toNat) (acc ++ [(⟨bt.1, bt.2.1⟩ : S23)])) else (none)) else (none)) else (none)) else (some (acc, (l.length : Int), false))))) (fun k => by rw [lineageref59_All.l0]) (Ev.bind hd ?_)
      refine Ev.congr (fun k => ?_) (Ev.now _)
      show (if (((decL l).2.2.2 : Nat) : Int) = 3 then _ else if (((decL l).2.2.2 : Nat) : Int) = 0 then _ else _) = _
      rw [h, if_pos (show ((3 : Nat) : Int) = 3 from rfl)]
      show some (acc, (0 : Int), true) = some (acc ++ [], (0 : Int), true)
      rw [List.append_nil]
    · rw [allT_wait h]
      refine Ev.step (f := fun k => (lineageref59_Decode.f k l).bind fun bt => (if bt.2.2.2 = 3 then (some (acc, (0 : Int), true)) else (if bt.2.2.2 = 0 then (if acc.length < 4398046511104 then (if 0 ≤ bt.2.2.1 then (if bt.2.2.1 ≤ (l.length : Int) then (lineageref59_All.l0 k (l.drop (bt.2.2.1 : Int).toNat) (acc ++ [(⟨bt.1, bt.2.1⟩ : S23)])) else (none)) else (none)) else (none)) else (some (acc, (l.length : Int), false))))) (fun k => by rw [lineageref59_All.l0]) (Ev.bind hd ?_)
      refine Ev.congr (fun k => ?_) (Ev.now _)
      show (if (((decL l).2.2.2 : Nat) : Int) = 3 then _ else if (((decL l).2.2.2 : Nat) : Int) = 0 then _ else _) = _
      rw [h, if_neg (by decide), if_neg (by decide)]
      show some (acc, (l.length : Int), false) = some (acc ++ [], (l.length : Int), false)
      rw [List.append_nil]
theorem all_calls (A : Option Addr) (c : Nat) (l : List Int) (w : World) (hC : Kd.C (Kd.int .u8) w A l.length l) (hc : l.length ≤ c) (hl : l.length ≤ 1000000) (ms : List S23) (r : List Int) (b : Bool) (h : allT l = (ms, r, b)) :
    Calls Tryz.prog 14 #[.slice A l.length c] w fun e w' => ∃ A1 c1, e = .returned (.tuple #[.slice A1 ms.length c1, .int .i64 (r.length : Int), .bool b]) ∧ Kd.C k23 w' A1 ms.length ms ∧ ms.length ≤ c1 ∧ Below w.heap.size w w' := by
  have ha := all_l0 (l.length + 1) l [] (by omega) (by simpa using hl)
  rw [h, List.nil_append] at ha
  obtain ⟨k, hk⟩ := ha.rounds
  have hV := Kd.V_mk (e := 5) (base := w.heap.size) (ok := fun k => k < w.heap.size) hc (Kd.C_F (Kd.heap_int .u8) hC)
  refine (lineageref59_All.calls k _ A c l ms _ b w hV hk).mono ?_
  rintro e w' ⟨v, rfl, hR, hb⟩
  obtain ⟨A1, c1, rfl⟩ := Kd.R_slice hR
  have hr := Kd.R_reads' hR
  exact ⟨A1, c1, rfl, hr.2.2, hr.2.1, hb⟩
theorem same_l0 (x : List S23) (hx : x.length < 4611686018427387904) : ∀ (d i : Nat), x.length - i = d → i ≤ x.length → Ev (fun k => lineageref59_Same.l0 k x x (i : Nat)) true := by
  intro d
  induction d with
  | zero =>
    intro i hd hi
    refine Ev.step (fun k => ?_) (Ev.now _)
    rw [lineageref59_Same.l0, if_neg (by omega)]
  | succ d ih =>
    intro i hd hi
    refine Ev.step (fun k => ?_) (ih (i + 1) (by omega) (by omega))
    rw [lineageref59_Same.l0, if_pos (by omega), if_pos (by omega), if_pos (by omega), if_neg (by simp), w64s (by omega)]
theorem same_calls (A0 : Option Addr) (c0 : Nat) (A1 : Option Addr) (c1 : Nat) (x : List S23) (w : World) (h0 : Kd.C k23 w A0 x.length x) (hc0 : x.length ≤ c0) (h1 : Kd.C k23 w A1 x.length x) (hc1 : x.length ≤ c1) (hx : x.length < 4611686018427387904) :
    Calls Tryz.prog 15 #[.slice A0 x.length c0, .slice A1 x.length c1] w fun e w' => e = .returned (.bool true) ∧ Below w.heap.size w w' := by
  have hs := same_l0 x hx x.length 0 (by omega) (by omega)
  obtain ⟨k, hk⟩ := hs.rounds
  have hf : lineageref59_Same.f k x x = some true := by
    unfold lineageref59_Same.f
    rw [if_pos rfl]
    exact hk
  refine (lineageref59_Same.calls k A0 c0 x A1 c1 x true w h0 hc0 h1 hc1 hf).mono ?_
  rintro e w' ⟨rfl, hd⟩
  exact ⟨rfl, hd.below⟩
theorem sameb_l0 (x : List Int) (hx : x.length < 4611686018427387904) : ∀ (d i : Nat), x.length - i = d → i ≤ x.length → Ev (fun k => lineageref13_Same.l0 k x x (i : Nat)) true := by
  intro d
  induction d with
  | zero =>
    intro i hd hi
    refine Ev.step (fun k => ?_) (Ev.now _)
    rw [lineageref13_Same.l0, if_neg (by omega)]
  | succ d ih =>
    intro i hd hi
    refine Ev.step (fun k => ?_) (ih (i + 1) (by omega) (by omega))
    rw [lineageref13_Same.l0, if_pos (by omega), if_pos (by omega), if_pos (by omega), if_pos rfl, w64s (by omega)]
theorem sameb_calls (A0 : Option Addr) (c0 : Nat) (A1 : Option Addr) (c1 : Nat) (x : List Int) (w : World) (h0 : Kd.C (Kd.int .u8) w A0 x.length x) (hc0 : x.length ≤ c0) (h1 : Kd.C (Kd.int .u8) w A1 x.length x) (hc1 : x.length ≤ c1) (hx : x.length < 4611686018427387904) :
    Calls Tryz.prog 9 #[.slice A0 x.length c0, .slice A1 x.length c1] w fun e w' => e = .returned (.bool true) ∧ Below w.heap.size w w' := by
  have hs := sameb_l0 x hx x.length 0 (by omega) (by omega)
  obtain ⟨k, hk⟩ := hs.rounds
  have hf : lineageref13_Same.f k x x = some true := by
    unfold lineageref13_Same.f
    rw [if_pos rfl]
    exact hk
  refine (lineageref13_Same.calls k A0 c0 x A1 c1 x true w h0 hc0 h1 hc1 hf).mono ?_
  rintro e w' ⟨rfl, hd⟩
  exact ⟨rfl, hd.below⟩

end Go.Proofs.YtnineihfjbbmpaaGreatDoor.P
