/- Feed. -/
import Derived.Test.YtnineihfjbbmpaaGreatDoorPI
namespace Go.Proofs.YtnineihfjbbmpaaGreatDoor.P
open Go.RowKit Go.Proofs.YtnineihfjbbmpaaGreatDoorW.PrintWords Go.Proofs.YtnineihfjbbmpaaGreatDoorW.PrintLast Go.Proofs.YtnineihfjbbmpaaGreatDoorW.PrintMore
set_option exponentiation.threshold 8200
set_option linter.unusedVariables false
set_option linter.unusedSimpArgs false
/-! ### Feed -/
theorem decD_calls (A : Option Addr) (c : Nat) (l kd bd : List Int) (n ec : Nat) (ei : Int) (hD : decL l = (kd, bd, n, ec)) (hE : (ec : Int) = ei) (w : World) (hr : Kd.C (Kd.int .u8) w A l.length l) (hc : l.length ≤ c) (hl : l.length < 4611686018427387904) :
    Calls Tryz.prog 10 #[.slice A l.length c] w fun e w' => e = .returned (.tuple #[.agg #[.string (strOfNums kd), .string (strOfNums bd)], .int .i64 (n : Int), .int .i64 ei]) ∧ Below w.heap.size w w' := by
  have h := dec_calls A c l w hr hc hl
  rw [hD, hE] at h
  exact h
/-- What Feed answers: the messages, the error; and what is kept. -/
def feedS (r : List Int) (br : Bool) (b : List Int) : List S23 × Int × List Int × Bool := if br = true then ([], 3, [], true) else ((allT (r ++ b)).1, (if (allT (r ++ b)).2.2 = true then 3 else 0), (allT (r ++ b)).2.1, (allT (r ++ b)).2.2)
def FeedP (base g : Nat) (t : List S23 × Int × List Int × Bool) (w : World) (e : Ending) (w' : World) : Prop :=
  ∃ v, e = .returned (.tuple #[v, .int .i64 t.2.1]) ∧ Kd.R k23 23 w' w.heap.size (fun _ => True) v t.1 ∧ StS w' base g t.2.2.1 t.2.2.2 ∧ Below base w w' ∧ KT 23 w w'
theorem FeedP.intro {base g : Nat} {t : List S23 × Int × List Int × Bool} {w : World} {e : Ending} {w' : World} (h : ∃ v, e = .returned (.tuple #[v, .int .i64 t.2.1]) ∧ Kd.R k23 23 w' w.heap.size (fun _ => True) v t.1 ∧ StS w' base g t.2.2.1 t.2.2.2 ∧ Below base w w' ∧ KT 23 w w') : FeedP base g t w e w' := h
theorem FeedP.eq {base g : Nat} {t t' : List S23 × Int × List Int × Bool} {w : World} {e : Ending} {w' : World} (h : t = t') (k : FeedP base g t w e w') : FeedP base g t' w e w' := h ▸ k
theorem q_below {w w' : World} {base n : Nat} {v : Value} {xs : List Value} (h : QRow w base 5 1 v n xs) (hb : Below w.heap.size w w') : QRow w' base 5 1 v n xs := q_move h (fun k hk => hb.block k (q_lt h k hk))
theorem q_ne55 {w : World} {base n g : Nat} {v : Value} {xs cs : List Value} (h : QRow w base 5 1 v n xs) (hg : w.heap[g]? = some (.cells cs.toArray 55 (0, 0))) : some g ≠ v.ownBlock := by
  intro he
  obtain ⟨_, cells, hc⟩ := q_typed h g he.symm
  rw [hc] at hg
  injection hg with hg
  injection hg with _ hg
  exact absurd hg (by decide)
/-- A store into the stream's block leaves its row. -/
theorem q_set55 {w : World} {base n g j : Nat} {u v : Value} {xs cs : List Value} (h : QRow w base 5 1 v n xs) (hg : w.heap[g]? = some (.cells cs.toArray 55 (0, 0))) : QRow (w.setCell ⟨g, j, none⟩ u) base 5 1 v n xs :=
  q_move h (fun k hk => Below.heap_setCell w ⟨g, j, none⟩ u k (fun e => q_ne55 h hg (by rw [hk]; exact congrArg some e.symm)))
theorem grown_below {base : Nat} {w w' : World} {n : Nat} {v : Value} {xs : List Value} (hg : w.grownBy w' v.ownBlock) (hq : QRow w base 5 1 v n xs) (hb : base ≤ w.heap.size) : Below base w w' :=
  (Below.refl base w).grown hg hb (fun k hk => (q_typed hq k hk).1)
/-- The stream behind the append and its store. -/
theorem stored_facts {w w1 : World} {base g : Nat} {A A1 : Option Addr} {c c1 : Nat} {r m : List Int} {br : Bool} (hK : w.heap[g]? = some (.cells #[.slice A r.length c, .bool br] 55 (0, 0))) (hB : base ≤ g) (hbase : base ≤ w.heap.size)
    (hQ : QRow w base 5 1 (.slice A r.length c) r.length (cellsU r)) (hq : QRow w1 base 5 1 (.slice A1 m.length c1) m.length (cellsU m)) (hg : w.grownBy w1 (Value.slice A r.length c).ownBlock) :
    (w1.setCell ⟨g, 0, none⟩ (.slice A1 m.length c1)).heap[g]? = some (.cells #[.slice A1 m.length c1, .bool br] 55 (0, 0)) ∧ QRow (w1.setCell ⟨g, 0, none⟩ (.slice A1 m.length c1)) base 5 1 (.slice A1 m.length c1) m.length (cellsU m) ∧
      Below base w (w1.setCell ⟨g, 0, none⟩ (.slice A1 m.length c1)) ∧ KT 23 w (w1.setCell ⟨g, 0, none⟩ (.slice A1 m.length c1)) := by
  have hK1 : w1.heap[g]? = some (.cells #[.slice A r.length c, .bool br] 55 (0, 0)) := blk_grown hK hg (q_ne55 (cs := [.slice A r.length c, .bool br]) hQ hK)
  refine ⟨by simpa using blk_set hK1 0 (.slice A1 m.length c1), q_set55 (cs := [.slice A r.length c, .bool br]) hq hK1, ?_, ?_⟩
  · exact (grown_below hg hQ hbase).setCell (p := ⟨g, 0, none⟩) hB _
  · exact (KT.grown hg hQ (by decide)).trans (KT.set hK1 (by decide) 0 _)
/-- The stream when it is broken. -/
theorem kept_end {w w2 : World} {base g : Nat} {v : Value} {br : Bool} (hK : w2.heap[g]? = some (.cells #[v, .bool br] 55 (0, 0))) (hB : base ≤ g) (hb : Below base w w2) (hT : KT 23 w w2) :
    StS (w2.setCell ⟨g, 0, none⟩ (.slice none 0 0)) base g [] br ∧ Below base w (w2.setCell ⟨g, 0, none⟩ (.slice none 0 0)) ∧ KT 23 w (w2.setCell ⟨g, 0, none⟩ (.slice none 0 0)) :=
  ⟨⟨hB, none, 0, by simpa using blk_set hK 0 (.slice none 0 0), q_of_own (own_nil _ _ _ _)⟩, hb.setCell (p := ⟨g, 0, none⟩) hB _, hT.trans (KT.set hK (by decide) 0 _)⟩
theorem boxed {w3 w4 : World} {gb : Nat} (hb : Below w3.heap.size w3 w4) (hge : w3.heap.size ≤ gb) (x y : Value) : Below w3.heap.size w3 ((w4.setCell ⟨gb, 0, none⟩ x).setCell ⟨gb, 1, none⟩ y) :=
  (hb.setCell (p := ⟨gb, 0, none⟩) hge _).setCell (p := ⟨gb, 1, none⟩) hge _
theorem boxed_blk {w4 : World} {gb : Nat} {x0 y0 : ByteArray} (h : w4.heap[gb]? = some (.cells #[.string x0, .string y0] 23 (0, 0))) (x y : ByteArray) : ((w4.setCell ⟨gb, 0, none⟩ (.string x)).setCell ⟨gb, 1, none⟩ (.string y)).heap[gb]? = some (.cells #[.string x, .string y] 23 (0, 0)) :=
  blk_put (cs := #[.string x, .string y0]) (blk_put (cs := #[.string x0, .string y0]) h 0 _ rfl) 1 _ rfl
theorem below_size' {base : Nat} {w w' : World} (h : Below base w w') : w.heap.size ≤ w'.heap.size := h.size
theorem carry {base g : Nat} {w wr w5 : World} {A2 : Option Addr} {c2 : Nat} {m1 : List Int} {br : Bool} {v6 : Value} {acc : List S23} {b0 : Nat} (hb : Below wr.heap.size wr w5) (hK : wr.heap[g]? = some (.cells #[.slice A2 m1.length c2, .bool br] 55 (0, 0)))
    (hQ : QRow wr base 5 1 (.slice A2 m1.length c2) m1.length (cellsU m1)) (hR : Kd.R k23 23 wr b0 (fun _ => True) v6 acc) (hB : Below base w wr) (hT : KT 23 w wr) (hbase : base ≤ wr.heap.size) :
    w5.heap[g]? = some (.cells #[.slice A2 m1.length c2, .bool br] 55 (0, 0)) ∧ QRow w5 base 5 1 (.slice A2 m1.length c2) m1.length (cellsU m1) ∧ Kd.R k23 23 w5 b0 (fun _ => True) v6 acc ∧ Below base w w5 ∧ KT 23 w w5 :=
  ⟨(hb.block g (blk_lt hK)).trans hK, q_below hQ hb, Kd.R_below hR hb, below_then hB hbase hb, hT.trans (KT.below hb)⟩
theorem cut_q {base : Nat} (A : Option Addr) (c : Nat) (m : List Int) (n : Nat) (hn : n ≤ m.length) (hc : m.length ≤ c) : ∃ A3 c3, (∀ W : World, (Instr.slice 24 (.slice A m.length c) (some (.int .i64 (n : Int))) none none).run Tryz.prog W = .ok (.slice A3 (m.drop n).length c3) W) ∧ (∀ W : World, QRow W base 5 1 (.slice A m.length c) m.length (cellsU m) → QRow W base 5 1 (.slice A3 (m.drop n).length c3) (m.drop n).length (cellsU (m.drop n))) := by
  obtain ⟨i, hi, hz, hsz, _⟩ := info_parts info5
  refine ⟨if c = n then A else A.map (·.add (n * 1)), c - n, fun W => ?_, fun W h => ?_⟩
  · have h1 := cut_from (P := Tryz.prog) 24 5 .i64 Tryz.underlying24 hi 1 hsz A m.length c (n : Int) (by omega) (by omega) W
    rw [Int.toNat_natCast] at h1
    rw [List.length_drop]
    exact h1
  · have h2 := q_drop h hn
    rw [List.length_drop, cellsU_drop]
    rw [Nat.mul_one] at h2 ⊢
    exact h2
/-- Behind the append to the messages. -/
theorem after_out {base g : Nat} {w w5 w6 : World} {A2 : Option Addr} {c2 : Nat} {m1 : List Int} {br : Bool} {u6 : Value} {acc : List S23} (hg : w5.grownBy w6 u6.ownBlock) (hR : Kd.R k23 23 w5 w.heap.size (fun _ => True) u6 acc) (hK : w5.heap[g]? = some (.cells #[.slice A2 m1.length c2, .bool br] 55 (0, 0)))
    (hQ : QRow w5 base 5 1 (.slice A2 m1.length c2) m1.length (cellsU m1)) (hB : Below base w w5) (hT : KT 23 w w5) (hsz : w.heap.size ≤ w5.heap.size) (hbase : base ≤ w.heap.size) :
    w6.heap[g]? = some (.cells #[.slice A2 m1.length c2, .bool br] 55 (0, 0)) ∧ QRow w6 base 5 1 (.slice A2 m1.length c2) m1.length (cellsU m1) ∧ Below base w w6 ∧ KT 23 w w6 := by
  have hty := Kd.R_typed hR
  have ne : ∀ (i : Nat) (cs : Array Value) (t : TypeId) (fr : Nat × Nat), w5.heap[i]? = some (.cells cs t fr) → t ≠ 23 → some i ≠ u6.ownBlock := by
    intro i cs t fr hi ht he
    obtain ⟨cells, hc⟩ := hty i he.symm
    rw [hc] at hi
    injection hi with hi
    injection hi with _ hi
    exact ht hi.symm
  refine ⟨blk_grown hK hg (ne g _ _ _ hK (by decide)), q_move hQ (fun k hk => ?_), hB.grown hg (Nat.le_trans hbase hsz) (fun k hk => Nat.le_trans hbase (Kd.R_base hR k hk)), ⟨Nat.le_trans hsz hg.size, fun i cs fr hi => ?_⟩⟩
  · obtain ⟨_, cells, hc⟩ := q_typed hQ k hk
    exact hg.block k (q_lt hQ k hk) (ne k _ _ _ hc (by decide))
  · have hlt := (Array.getElem?_eq_some_iff.1 hi).1
    refine (hg.block i (Nat.lt_of_lt_of_le hlt hsz) (fun he => ?_)).trans (hT.2 i cs fr hi)
    have := Kd.R_base hR i he.symm
    omega
/-- Behind a round. -/
theorem round_end {base g : Nat} {w w6 : World} {A2 : Option Addr} {c2 : Nat} {m1 : List Int} {v9 u : Value} {acc : List S23} {n : Nat} (hK : w6.heap[g]? = some (.cells #[.slice A2 m1.length c2, .bool false] 55 (0, 0)))
    (hQ : QRow w6 base 5 1 (.slice A2 m1.length c2) m1.length (cellsU m1)) (hR : Kd.R k23 23 w6 n (fun _ => True) v9 acc) (hBG : base ≤ g) (hB : Below base w w6) (hT : KT 23 w w6) :
    (w6.setCell ⟨g, 0, none⟩ u).heap[g]? = some (.cells #[u, .bool false] 55 (0, 0)) ∧ QRow (w6.setCell ⟨g, 0, none⟩ u) base 5 1 (.slice A2 m1.length c2) m1.length (cellsU m1) ∧ Kd.R k23 23 (w6.setCell ⟨g, 0, none⟩ u) n (fun _ => True) v9 acc ∧ Below base w (w6.setCell ⟨g, 0, none⟩ u) ∧ KT 23 w (w6.setCell ⟨g, 0, none⟩ u) :=
  ⟨by simpa using blk_set hK 0 u, q_set55 (cs := [.slice A2 m1.length c2, .bool false]) hQ hK, Kd.R_set hR hK (by decide) 0 u, hB.setCell (p := ⟨g, 0, none⟩) hBG _, hT.trans (KT.set hK (by decide) 0 _)⟩
theorem broken_end {base g : Nat} {w w5 : World} {v : Value} {u6 : Value} {acc : List S23} {n : Nat} (hK : w5.heap[g]? = some (.cells #[v, .bool false] 55 (0, 0))) (hR : Kd.R k23 23 w5 n (fun _ => True) u6 acc) (hBG : base ≤ g) (hB : Below base w w5) (hT : KT 23 w w5) :
    StS ((w5.setCell ⟨g, 1, none⟩ (.bool true)).setCell ⟨g, 0, none⟩ (.slice none 0 0)) base g [] true ∧ Kd.R k23 23 ((w5.setCell ⟨g, 1, none⟩ (.bool true)).setCell ⟨g, 0, none⟩ (.slice none 0 0)) n (fun _ => True) u6 acc ∧ Below base w ((w5.setCell ⟨g, 1, none⟩ (.bool true)).setCell ⟨g, 0, none⟩ (.slice none 0 0)) ∧ KT 23 w ((w5.setCell ⟨g, 1, none⟩ (.bool true)).setCell ⟨g, 0, none⟩ (.slice none 0 0)) := by
  have hK1 : (w5.setCell ⟨g, 1, none⟩ (.bool true)).heap[g]? = some (.cells #[v, .bool true] 55 (0, 0)) := by simpa using blk_set hK 1 (.bool true)
  obtain ⟨h1, h2, h3⟩ := kept_end (w := w) hK1 hBG (hB.setCell (p := ⟨g, 1, none⟩) hBG _) (hT.trans (KT.set hK (by decide) 1 _))
  exact ⟨h1, Kd.R_set (Kd.R_set hR hK (by decide) 1 _) hK1 (by decide) 0 _, h2, h3⟩
set_option maxHeartbeats 8000000 in
set_option maxRecDepth 1000000 in
theorem feed_calls (base g : Nat) (r : List Int) (br : Bool) (B : Option Addr) (d : Nat) (b : List Int) (w : World) (hS : StS w base g r br) (hC : Kd.C (Kd.int .u8) w B b.length b) (hd : b.length ≤ d) (hl : r.length + b.length ≤ 1000000) (hbase : base ≤ w.heap.size) (T : List S23 × Int × List Int × Bool) (hTe : feedS r br b = T) :
    Calls Tryz.prog 13 #[.pointer (some ⟨g, 0, none⟩), .slice B b.length d] w fun e w' => FeedP base g T w e w' := by
  have HTE := Aside0.mk hTe
  clear hTe
  obtain ⟨hB, A, c, hK, hQ⟩ := hS
  have z0 : w.cell? ⟨g, 0, none⟩ = some (.slice A r.length c) := (blk_cell hK 0).trans rfl
  have z1 : w.cell? ⟨g, 1, none⟩ = some (.bool br) := (blk_cell hK 1).trans rfl
  have HK := Aside0.mk hK
  have HQ := Aside0.mk hQ
  have HC := Aside0.mk hC
  have HBG := Aside0.mk hB
  have HL := Aside0.mk hl
  have HBA := Aside0.mk hbase
  clear hK hQ hC hB hd hbase
  obtain ⟨m, hm⟩ : ∃ m, m = r ++ b := ⟨_, rfl⟩
  have HM := Aside0.mk hm
  have HML := Aside0.mk (show m.length ≤ 1000000 by rw [hm, List.length_append]; omega)
  clear hm hl
  have HB0 := Aside0.mk (Below.refl base w)
  go_enter Tryz.func13, Tryz.ntmps13
  go_upto_block 0 with ((with_reducible refine gate_builtin (b := .append) (xs := #[.tmp 14, .tmp 15]) rfl ?_); at_builtin; refine qb_event base rfl (.tmp 14) (.tmp 15) rfl rfl A c r B d b rfl rfl HQ.out HC.out (by have := HL.out; omega) HBA.out m HM.out ?_; intro A1 c1 w1 hq hg; have HF := Aside0.mk (stored_facts HK.out HBG.out HBA.out HQ.out hq hg); have hK1 := blk_grown HK.out hg (q_ne55 (cs := [.slice A r.length c, .bool br]) HQ.out HK.out); have y0 : w1.cell? ⟨g, 0, none⟩ = some (.slice A r.length c) := (blk_cell hK1 0).trans rfl; have f0 := blk_frozen hK1 0; clear hK1 hq hg)
  obtain ⟨hK2, hQ2, hB2, hT2⟩ := HF.out
  generalize w1.setCell ⟨g, 0, none⟩ (.slice A1 m.length c1) = w2 at *
  clear y0 f0 HF z0 z1
  have y0 : w2.cell? ⟨g, 0, none⟩ = some (.slice A1 m.length c1) := (blk_cell hK2 0).trans rfl
  have y1 : w2.cell? ⟨g, 1, none⟩ = some (.bool br) := (blk_cell hK2 1).trans rfl
  have f0 := blk_frozen hK2 0
  have HK2 := Aside0.mk hK2
  have HQ2 := Aside0.mk hQ2
  have HB2 := Aside0.mk hB2
  have HT2 := Aside0.mk hT2
  clear hK2 hQ2 hB2 hT2
  have HE2 := Aside0.mk (kept_end HK2.out HBG.out HB2.out HT2.out)
  cases br with
  | true =>
    go_wp2_with fail
    refine wp_loop_rounds 1 ?_
    rw [rounds_succ]
    go_wp2_with fail
    go_ret2
    refine FeedP.eq HTE.out ?_
    exact FeedP.intro ⟨_, rfl, Kd.R_nil _ _ _ _ _, HE2.out.1, HE2.out.2.1, HE2.out.2.2⟩
  | false =>
    clear y0 y1 f0 HE2
    have hfd : feedS r false b = ((allT m).1, (if (allT m).2.2 = true then 3 else 0), (allT m).2.1, (allT m).2.2) := by
      unfold feedS
      rw [if_neg (by decide), HM.out]
    obtain ⟨⟨tm, tr, tb⟩, hT⟩ : ∃ t, allT m = t := ⟨_, rfl⟩
    rw [hT] at hfd
    dsimp only at hfd
    have HT := Aside0.mk hT
    replace HTE := Aside0.mk (hfd.symm.trans HTE.out)
    clear hT hfd
    go_wp2_with fail
    go_loopg [6] m.length (fun kq v6 wr => ∃ (m1 : List Int) (acc : List S23) (A2 : Option Addr) (c2 : Nat), Aside0 (kq = m1.length ∧ m1.length ≤ 1000000) ∧ Aside0 (acc ++ (allT m1).1 = tm ∧ (allT m1).2 = (tr, tb)) ∧ Aside0 (wr.heap[g]? = some (.cells #[.slice A2 m1.length c2, .bool false] 55 (0, 0))) ∧ Aside0 (QRow wr base 5 1 (.slice A2 m1.length c2) m1.length (cellsU m1)) ∧ Aside0 (Kd.R k23 23 wr w.heap.size (fun _ => True) v6 acc) ∧ Aside0 (Below base w wr) ∧ Aside0 (KT 23 w wr) ∧ Aside0 (acc.length + m1.length ≤ 1000000))
    case atStart => exact ⟨m, [], A1, c1, ⟨rfl, HML.out⟩, ⟨by rw [HT.out]; rfl, by rw [HT.out]⟩, HK2, HQ2, ⟨Kd.R_nil _ _ _ _ _⟩, HB2, HT2, ⟨by have := HML.out; simpa using this⟩⟩
    case round =>
      clear HK2 HQ2 HB2 HT2 HT HB0 HM HML HL HC HQ HK
      obtain ⟨m1, acc, A2, c2, Hm, Hf, HK, HQ, HR, HB, HKT, HAL⟩ := hrel
      have y0 : wr.cell? ⟨g, 0, none⟩ = some (.slice A2 m1.length c2) := (blk_cell HK.out 0).trans rfl
      have y1 : wr.cell? ⟨g, 1, none⟩ = some (.bool false) := (blk_cell HK.out 1).trans rfl
      obtain ⟨⟨kd, bd, n, ec⟩, hD⟩ : ∃ t, decL m1 = t := ⟨_, rfl⟩
      have HD := Aside0.mk hD
      clear hD
      have hec : ec = 0 ∨ ec = 3 ∨ ec = 9 := by have := (decL_facts m1).2; rw [HD.out] at this; exact this
      have hei : ∃ ei : Int, (ec : Int) = ei ∧ ((ei = 0 ∧ ec = 0) ∨ (ei = 3 ∧ ec = 3) ∨ (ei = 9 ∧ ec = 9)) := ⟨_, rfl, by omega⟩
      clear hec
      obtain ⟨ei, hE, hei⟩ := hei
      have HE := Aside0.mk hE
      have HEI := Aside0.mk hei
      clear hE hei
      go_wp2_with fail
      refine (decD_calls A2 c2 m1 kd bd n ec ei HD.out HE.out wr (qrow_C HQ.out).1 (qrow_C HQ.out).2 (by have := Hm.out.2; omega)).mono ?_
      rintro e w3 ⟨rfl, hb⟩
      have HB3 := Aside0.mk hb
      clear hb y0 y1
      go_upto_region 5 with ((with_reducible refine gate_dst (N := 7) rfl ?_); refine box_event ?hg (N := 7) ?hd (cs := #[.string (⟨#[]⟩ : ByteArray), .string (⟨#[]⟩ : ByteArray)]) (t := 23) ?hr ?_; (case hd => rfl); (case hg => rfl); (case hr => first | (go_simp; done) | (go_simp; rfl)); intro gb hg w4 hbox hb; have HB4 := Aside0.mk hb; have GE := Aside0.mk (Nat.le_of_eq hg.symm); have HBK := Aside0.mk hbox; have u0 : w4.cell? ⟨gb, 0, none⟩ = some (.string (⟨#[]⟩ : ByteArray)) := (blk_cell hbox 0).trans rfl; have u1 : w4.cell? ⟨gb, 1, none⟩ = some (.string (⟨#[]⟩ : ByteArray)) := (blk_cell hbox 1).trans rfl; have g0 := blk_frozen hbox 0; have g1 := blk_frozen hbox 1; clear hbox hb hg)
      have HB5 := Aside0.mk (below_step HB3.out (boxed HB4.out GE.out (.string (strOfNums kd)) (.string (strOfNums bd))))
      have HBK5 := Aside0.mk (boxed_blk HBK.out (strOfNums kd) (strOfNums bd))
      generalize (w4.setCell ⟨gb, 0, none⟩ (.string (strOfNums kd))).setCell ⟨gb, 1, none⟩ (.string (strOfNums bd)) = w5 at *
      clear u0 u1 g0 g1 HBK HB4 GE
      obtain ⟨hK5, hQ5, hR5, hB5, hT5⟩ := carry HB5.out HK.out HQ.out HR.out HB.out HKT.out (Nat.le_trans HBA.out (below_size' HB.out))
      clear HK HQ HR HB HKT HB3 HB5
      have HK := Aside0.mk hK5
      have HQ := Aside0.mk hQ5
      have HR := Aside0.mk hR5
      have HB := Aside0.mk hB5
      have HKT := Aside0.mk hT5
      clear hK5 hQ5 hR5 hB5 hT5
      have y0 : w5.cell? ⟨g, 0, none⟩ = some (.slice A2 m1.length c2) := (blk_cell HK.out 0).trans rfl
      have y1 : w5.cell? ⟨g, 1, none⟩ = some (.bool false) := (blk_cell HK.out 1).trans rfl
      have f0 := blk_frozen HK.out 0
      have f1 := blk_frozen HK.out 1
      rcases HEI.out with ⟨rfl, rfl⟩ | ⟨rfl, rfl⟩ | ⟨rfl, rfl⟩
      · have hdf := (decL_facts m1).1 (by rw [HD.out])
        rw [HD.out] at hdf
        dsimp only at hdf
        obtain ⟨hf1, hf2⟩ := Hf.out
        rw [allT_ok (by rw [HD.out]), HD.out] at hf1 hf2
        dsimp only at hf1 hf2
        obtain ⟨m2, hm2⟩ : ∃ m2, m2 = m1.drop n := ⟨_, rfl⟩
        rw [← hm2] at hf1 hf2
        obtain ⟨A3, c3, hcut, hcq⟩ := cut_q (base := base) A2 c2 m1 n hdf.2 (qrow_C HQ.out).2
        rw [← hm2] at hcut hcq
        have HCQ := Aside0.mk hcq
        have HM2 := Aside0.mk (show m2.length + 3 ≤ m1.length by rw [hm2, List.length_drop]; omega)
        have HF2 := Aside0.mk (show (acc ++ [(⟨strOfNums kd, strOfNums bd⟩ : S23)]) ++ (allT m2).1 = tm ∧ (allT m2).2 = (tr, tb) from ⟨by rw [List.append_assoc]; exact hf1, hf2⟩)
        have hu23 := Tryz.underlying23
        have v0 : w5.cell? ⟨gb, 0, none⟩ = some (.string (strOfNums kd)) := (blk_cell HBK5.out 0).trans rfl
        have v1 : w5.cell? ⟨gb, 1, none⟩ = some (.string (strOfNums bd)) := (blk_cell HBK5.out 1).trans rfl
        clear hcq hm2 hf1 hf2 hdf Hf f1
        go_wp2_with ((with_reducible refine gate_builtin (b := .append) (xs := #[.tmp 41, .tmp 43]) rfl ?_); at_builtin; refine Kd.R_append k23 (w0 := w5) w.heap.size rfl (.tmp 41) (.tmp 43) 36 23 (.agg #[(.string ⟨#[]⟩), (.string ⟨#[]⟩)]) 32 rfl Tryz.underlying36 info23 rfl (by decide) (by omega) u6 acc (⟨strOfNums kd, strOfNums bd⟩ : S23) [.string (strOfNums kd), .string (strOfNums bd)] (fun _ => True) (fun _ => False) rfl (by first | (go_simp; done) | (go_simp; rfl)) ?aP (fun _ hk => hk.elim) (fun _ _ => trivial) HR.out (Below.refl _ _) (below_size' HB.out) (by have := HAL.out; omega) ?_; (case aP => exact k23_mkM _ _ _ (⟨strOfNums kd, strOfNums bd⟩ : S23)); intro v9 w6 ho hb hg hat; have HR6 := Aside0.mk ho; obtain ⟨hK6, hQ6, hB6, hT6⟩ := after_out hg HR.out HK.out HQ.out HB.out HKT.out (below_size' HB.out) HBA.out; have x0 : w6.cell? ⟨g, 0, none⟩ = some (.slice A2 m1.length c2) := (blk_cell hK6 0).trans rfl; have x1 := blk_frozen hK6 0; have HK6 := Aside0.mk hK6; have HQ6 := Aside0.mk hQ6; have HB6 := Aside0.mk hB6; have HT6 := Aside0.mk hT6; clear ho hb hg hat hK6 hQ6 hB6 hT6)
        have HE := Aside0.mk (round_end (u := .slice A3 m2.length c3) HK6.out HQ6.out HR6.out HBG.out HB6.out HT6.out)
        go_roundg m2.length
        case measure => have := HM2.out; have := Hm.out.1; omega
        case rel => exact ⟨m2, _, A3, c3, ⟨rfl, by have := HM2.out; have := Hm.out.2; omega⟩, HF2, ⟨HE.out.1⟩, ⟨HCQ.out _ HE.out.2.1⟩, ⟨HE.out.2.2.1⟩, ⟨HE.out.2.2.2.1⟩, ⟨HE.out.2.2.2.2⟩, ⟨by have := HM2.out; have := HAL.out; rw [List.length_append, List.length_singleton]; omega⟩⟩
      · obtain ⟨hf1, hf2⟩ := Hf.out
        rw [allT_bad (by rw [HD.out])] at hf1 hf2
        rw [List.append_nil] at hf1
        injection hf2 with h1 h2
        subst hf1
        subst h1
        subst h2
        have HE := Aside0.mk (broken_end HK.out HR.out HBG.out HB.out HKT.out)
        go_wp2_with fail
        go_ret2
        exact FeedP.eq HTE.out (FeedP.intro ⟨_, rfl, HE.out.2.1, HE.out.1, HE.out.2.2.1, HE.out.2.2.2⟩)
      · obtain ⟨hf1, hf2⟩ := Hf.out
        rw [allT_wait (by rw [HD.out])] at hf1 hf2
        rw [List.append_nil] at hf1
        injection hf2 with h1 h2
        subst hf1
        subst h1
        subst h2
        go_wp2_with fail
        go_ret2
        exact FeedP.eq HTE.out (FeedP.intro ⟨_, rfl, HR.out, ⟨HBG.out, _, _, HK.out, HQ.out⟩, HB.out, HKT.out⟩)

end Go.Proofs.YtnineihfjbbmpaaGreatDoor.P
