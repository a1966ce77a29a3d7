/- A part of the proofs of the protocol laws. -/
import Derived.Test.YtnineihfjbbmpaaGreatDoorPH
namespace Go.Proofs.YtnineihfjbbmpaaGreatDoor.P
open Go.RowKit Go.Proofs.YtnineihfjbbmpaaGreatDoorW.PrintWords Go.Proofs.YtnineihfjbbmpaaGreatDoorW.PrintLast Go.Proofs.YtnineihfjbbmpaaGreatDoorW.PrintMore
set_option exponentiation.threshold 8200
set_option linter.unusedVariables false
set_option linter.unusedSimpArgs false
/-! ### Streams -/
/-- A message. -/
def msg (k b : List Int) : S23 := ⟨strOfNums k, strOfNums b⟩
/-- What the frames at the beginning give: the messages, what is left, and whether it is no frame's beginning. -/
def allS : Nat → List Int → List S23 × List Int × Bool
  | 0, l => ([], l, false)
  | f + 1, l => if (decL l).2.2.2 = 9 then ([], l, false) else if (decL l).2.2.2 = 0 then ((msg (decL l).1 (decL l).2.1) :: (allS f (l.drop (decL l).2.2.1)).1, (allS f (l.drop (decL l).2.2.1)).2) else ([], [], true)
/-- .. with rounds enough. -/
def allT (l : List Int) : List S23 × List Int × Bool := allS (l.length + 1) l
theorem allS_more : ∀ (f f' : Nat) (l : List Int), l.length < f → l.length < f' → allS f l = allS f' l := by
  intro f
  induction f with
  | zero => intro f' l h; omega
  | succ f ih =>
    intro f' l h h'
    obtain ⟨f', rfl⟩ : ∃ g, f' = g + 1 := ⟨f' - 1, by omega⟩
    unfold allS
    by_cases h9 : (decL l).2.2.2 = 9
    · rw [if_pos h9, if_pos h9]
    · rw [if_neg h9, if_neg h9]
      by_cases h0 : (decL l).2.2.2 = 0
      · have hf := (decL_facts l).1 h0
        rw [if_pos h0, if_pos h0, ih f' (l.drop (decL l).2.2.1) (by rw [List.length_drop]; omega) (by rw [List.length_drop]; omega)]
      · rw [if_neg h0, if_neg h0]
theorem allT_more {f : Nat} {l : List Int} (h : l.length < f) : allS f l = allT l := allS_more _ _ _ h (Nat.lt_succ_self _)
theorem allT_wait {l : List Int} (h : (decL l).2.2.2 = 9) : allT l = ([], l, false) := by
  unfold allT allS
  rw [if_pos h]
theorem allT_bad {l : List Int} (h : (decL l).2.2.2 = 3) : allT l = ([], [], true) := by
  unfold allT allS
  rw [if_neg (by omega), if_neg (by omega)]
theorem allT_ok {l : List Int} (h : (decL l).2.2.2 = 0) : allT l = ((msg (decL l).1 (decL l).2.1) :: (allT (l.drop (decL l).2.2.1)).1, (allT (l.drop (decL l).2.2.1)).2) := by
  have hf := (decL_facts l).1 h
  conv => lhs; unfold allT allS
  rw [if_neg (by omega), if_pos h, allT_more (by rw [List.length_drop]; omega)]
theorem allT_len : ∀ (f : Nat) (l : List Int), l.length < f → (allT l).1.length ≤ l.length ∧ (allT l).2.1.length ≤ l.length := by
  intro f
  induction f with
  | zero => intro l h; omega
  | succ f ih =>
    intro l hl
    rcases (decL_facts l).2 with h | h | h
    · have hf := (decL_facts l).1 h
      have := ih (l.drop (decL l).2.2.1) (by rw [List.length_drop]; omega)
      rw [List.length_drop] at this
      rw [allT_ok h]
      dsimp only
      rw [List.length_cons]
      omega
    · rw [allT_bad h]
      exact ⟨Nat.zero_le _, Nat.zero_le _⟩
    · rw [allT_wait h]
      exact ⟨Nat.zero_le _, Nat.le_refl _⟩
theorem dec_calls (A : Option Addr) (c : Nat) (l : List Int) (w : World) (hr : Kd.C (Kd.int .u8) w A l.length l) (hc : l.length ≤ c) (hl : l.length < 4611686018427387904) :
    Calls Tryz.prog 10 #[.slice A l.length c] w fun e w' => e = .returned (.tuple #[.agg #[.string (strOfNums (decL l).1), .string (strOfNums (decL l).2.1)], .int .i64 ((decL l).2.2.1 : Int), .int .i64 ((decL l).2.2.2 : Int)]) ∧ Below w.heap.size w w' := by
  obtain ⟨k, hk⟩ := (decode_f hl).rounds
  exact protocol_Decode.calls k A c l _ _ _ _ w hr hc hk
theorem refdec_calls (A : Option Addr) (c : Nat) (l : List Int) (w : World) (hr : Kd.C (Kd.int .u8) w A l.length l) (hc : l.length ≤ c) (hl : l.length < 4611686018427387904) :
    Calls Tryz.prog 11 #[.slice A l.length c] w fun e w' => e = .returned (.tuple #[.agg #[.string (strOfNums (decL l).1), .string (strOfNums (decL l).2.1)], .int .i64 ((decL l).2.2.1 : Int), .int .i64 ((decL l).2.2.2 : Int)]) ∧ Below w.heap.size w w' := by
  obtain ⟨k, hk⟩ := (refdec_f hl).rounds
  exact lineageref59_Decode.calls k A c l _ _ _ _ w hr hc hk
/-! #### A row of the stream's own -/
def cellsU (l : List Int) : List Value := l.map (Value.int .u8)
theorem cellsU_len (l : List Int) : (cellsU l).length = l.length := by unfold cellsU; rw [List.length_map]
theorem cellsU_append (a b : List Int) : cellsU (a ++ b) = cellsU a ++ cellsU b := by unfold cellsU; rw [List.map_append]
theorem cellsU_drop (l : List Int) (k : Nat) : cellsU (l.drop k) = (cellsU l).drop k := by unfold cellsU; rw [List.map_drop]
/-- The stream at block g: what is kept, and whether it is broken; its row is its own. -/
def StS (w : World) (base g : Nat) (r : List Int) (br : Bool) : Prop := base ≤ g ∧ ∃ A c, w.heap[g]? = some (.cells #[.slice A r.length c, .bool br] 55 (0, 0)) ∧ QRow w base 5 1 (.slice A r.length c) r.length (cellsU r)
theorem qrow_C {w : World} {base : Nat} {A : Option Addr} {c : Nat} {r : List Int} (h : QRow w base 5 1 (.slice A r.length c) r.length (cellsU r)) : Kd.C (Kd.int .u8) w A r.length r ∧ r.length ≤ c := by
  obtain ⟨A', c', he, hc⟩ := q_slice h
  injection he with h1 h2 h3
  refine ⟨Kd.C_of_reads (d := (0 : Int)) (h1 := fun _ => rfl) ⟨rfl, q_max h, fun hn => ?_⟩, by omega⟩
  obtain ⟨ad, ha, hcell⟩ := q_cells h hn
  refine ⟨ad, ha, fun j hj => hcell j _ ?_⟩
  unfold cellsU
  rw [List.getElem?_map, List.getD_eq_getElem?_getD, List.getElem?_eq_getElem hj]
  rfl
set_option maxRecDepth 100000 in
theorem append_nothing {w : World} {base : Nat} {A B : Option Addr} {n c d : Nat} {xs : List Value} (h : QRow w base 5 1 (.slice A n c) n xs) :
    (Builtin.append_ #[24, 24] 24 #[.slice A n c, .slice B 0 d]).run Tryz.prog w = .ok (.slice A n c) w := by
  have hc : n ≤ c := by
    obtain ⟨A', c', he, hc⟩ := q_slice h
    injection he with h1 h2 h3
    omega
  obtain ⟨i, hi, hz, hsz, _⟩ := info_parts info5
  clear h
  cases B with
  | none =>
    cases A with
    | none => simp [Builtin.append_, run_underlying Tryz.underlying24, sizeOf, typeInfo, hi, Builtin.lenOf, Builtin.firstCells, hc, storeCells]
    | some a => simp [Builtin.append_, run_underlying Tryz.underlying24, sizeOf, typeInfo, hi, Builtin.lenOf, Builtin.firstCells, hc, storeCells]
  | some b =>
    have hl : (loadCells b 0).run Tryz.prog w = .ok #[] w := run_loadCells_list (P := Tryz.prog) w b [] (fun j v hj => by simp at hj)
    cases A with
    | none => simp [Builtin.append_, run_underlying Tryz.underlying24, sizeOf, typeInfo, hi, Builtin.lenOf, Builtin.firstCells, hc, storeCells, hl]
    | some a => simp [Builtin.append_, run_underlying Tryz.underlying24, sizeOf, typeInfo, hi, Builtin.lenOf, Builtin.firstCells, hc, storeCells, hl]
section
variable {ops : Array Oper} {rest : List Oper} {o : Oper} {a : Act} {Q' : Exit → Act → World → Prop}
set_option maxRecDepth 100000 in
/-- 's.rest = append(s.rest, b...)'. -/
theorem qb_event {W : World} (base : Nat) (hgd : o.guard = none) (s x : Operand) (ho : o.op = .call { callee := .builtin .append, args := #[s, x], argTypes := #[24, 24] }) (hty : o.type = 24)
    (A : Option Addr) (c : Nat) (r : List Int) (B : Option Addr) (d : Nat) (b : List Int) (hs : a.eval s = .slice A r.length c) (hx : a.eval x = .slice B b.length d)
    (HQ : QRow W base 5 1 (.slice A r.length c) r.length (cellsU r)) (HC : Kd.C (Kd.int .u8) W B b.length b) (hl : r.length + b.length ≤ 1000000000) (hbase : base ≤ W.heap.size) (m : List Int) (hm : m = r ++ b)
    (h : ∀ A1 c1 w1, QRow w1 base 5 1 (.slice A1 m.length c1) m.length (cellsU m) → W.grownBy w1 (Value.slice A r.length c).ownBlock → wpList Tryz.prog ops Q' rest (a.put o.dst (.slice A1 m.length c1)) w1) : wpList Tryz.prog ops Q' (o :: rest) a W := by
  subst hm
  have key : ∃ A1 c1 w1, (Builtin.append_ #[24, 24] 24 #[.slice A r.length c, .slice B b.length d]).run Tryz.prog W = .ok (.slice A1 (r ++ b).length c1) w1 ∧ QRow w1 base 5 1 (.slice A1 (r ++ b).length c1) (r ++ b).length (cellsU (r ++ b)) ∧ W.grownBy w1 (Value.slice A r.length c).ownBlock := by
    rcases Nat.eq_zero_or_pos b.length with h0 | h0
    · obtain rfl : b = [] := List.length_eq_zero_iff.1 h0
      refine ⟨A, c, W, ?_, by rw [List.append_nil]; exact HQ, World.grownBy.refl W _⟩
      rw [List.append_nil]
      exact append_nothing HQ
    · obtain ⟨i0, hi, hz0, hz1, hz2⟩ := info_parts info5
      obtain ⟨ad, rfl, hc⟩ := (Kd.reads_of_C (enc := Value.int .u8) (d := (0 : Int)) (h1 := fun _ => rfl) HC).2.2 h0
      obtain ⟨v1, w1, hr, hq, hg, _⟩ := q_append (P := Tryz.prog) W base 24 24 5 i0 (.int .u8 0) 1 1 Tryz.underlying24 hi hz0 hz1 hz2 rfl (by omega) (.slice A r.length c) r.length (cellsU r) HQ ad b.length d (cellsU b) (by rw [cellsU_len]; omega)
        (fun j u hu => by
          have hj : j < b.length := by have := (List.getElem?_eq_some_iff.1 hu).1; rwa [cellsU_len] at this
          rw [hc j hj]
          unfold cellsU at hu
          rw [List.getElem?_map, List.getElem?_eq_getElem hj] at hu
          rw [List.getD_eq_getElem?_getD, List.getElem?_eq_getElem hj]
          exact hu) (fun u hu => by
          unfold cellsU at hu
          obtain ⟨z, _, rfl⟩ := List.mem_map.1 hu
          rfl) h0 (by simp only [maxLen]; omega) (by omega) hbase
      rw [← cellsU_append, ← List.length_append] at hq
      obtain ⟨A1, c1, he, _⟩ := q_slice hq
      subst he
      exact ⟨A1, c1, w1, hr, hq, hg⟩
  obtain ⟨A1, c1, w1, hr, h1, h2⟩ := key
  refine wpList_plain hgd fun K hK => ?_
  unfold Oper.wp execOp
  simp only [ho, hty, resolve, invoke, builtin, Sem.run_bind, Sem.run_pure, Result.andThen_ok, List.map_toArray, List.map_cons, List.map_nil, hs, hx, hr]
  exact hK _ _ (h A1 c1 w1 h1 h2)
end
/-- Blocks of a type stay as they are. -/
def KT (t : TypeId) (w w' : World) : Prop := w.heap.size ≤ w'.heap.size ∧ ∀ (i : Nat) (cs : Array Value) (fr : Nat × Nat), w.heap[i]? = some (.cells cs t fr) → w'.heap[i]? = some (.cells cs t fr)
theorem KT.refl (t : TypeId) (w : World) : KT t w w := ⟨Nat.le_refl _, fun _ _ _ h => h⟩
theorem KT.trans {t : TypeId} {a b c : World} (h : KT t a b) (k : KT t b c) : KT t a c := ⟨Nat.le_trans h.1 k.1, fun i cs fr hh => k.2 i cs fr (h.2 i cs fr hh)⟩
theorem KT.below {t : TypeId} {w w' : World} (hb : Below w.heap.size w w') : KT t w w' := ⟨hb.size, fun i cs fr h => (hb.block i (Array.getElem?_eq_some_iff.1 h).1).trans h⟩
theorem KT.set {t u : TypeId} {w : World} {g : Nat} {cs : Array Value} {fr : Nat × Nat} (h : w.heap[g]? = some (.cells cs u fr)) (hne : u ≠ t) (j : Nat) (v : Value) : KT t w (w.setCell ⟨g, j, none⟩ v) := by
  refine ⟨by simp [World.setCell], fun i cs' fr' hi => ?_⟩
  have hig : i ≠ g := by
    rintro rfl
    rw [h] at hi
    injection hi with hi
    injection hi with _ hi
    exact hne hi
  rw [Below.heap_setCell w ⟨g, j, none⟩ v i hig]
  exact hi
theorem KT.grown {t : TypeId} {w w' : World} {base n : Nat} {v : Value} {xs : List Value} (hg : w.grownBy w' v.ownBlock) (hq : QRow w base 5 1 v n xs) (hne : (5 : TypeId) ≠ t) : KT t w w' := by
  refine ⟨hg.size, fun i cs fr hi => (hg.block i (Array.getElem?_eq_some_iff.1 hi).1 (fun he => ?_)).trans hi⟩
  obtain ⟨_, cells, hc⟩ := q_typed hq i he.symm
  rw [hc] at hi
  injection hi with hi
  injection hi with _ hi
  exact hne hi

end Go.Proofs.YtnineihfjbbmpaaGreatDoor.P
