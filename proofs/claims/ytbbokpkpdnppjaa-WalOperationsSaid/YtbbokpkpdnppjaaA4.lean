/- The disk's apply: a prefix of a pending write becomes durable. -/
import Derived.Test.YtbbokpkpdnppjaaU0
import Derived.Test.YtbbokpkpdnppjaaUA
import Derived.Test.YtbbokpkpdnppjaaA3
namespace Go.Proofs.Ytbbokpkpdnppjaa
open Go.RowKit Go.Proofs.YtbbokpkpdnppjaaW.PrintWords Go.Proofs.YtbbokpkpdnppjaaW.PrintLast Go.Proofs.YtbbokpkpdnppjaaW.PrintMore
attribute [local go_sem] max2_int min2_int max_two min_two
set_option linter.unusedVariables false
set_option linter.unusedSimpArgs false
theorem copy_step {P : Program} {ops : Array Oper} {o : Oper} {a : Act} {w : World} {K : Act → World → Prop} {Q : Exit → Act → World → Prop} {E : Prop} (hgd : o.guard = none) (d s : Operand) (dT sT : TypeId)
  (ho : o.op = .call { callee := .builtin .copy, args := #[d, s], argTypes := #[dT, sT] }) (elem : TypeId) (hu : P.underlying dT = some (.slice elem)) (hsz : (P.info? elem).map (·.size) = some 1)
  (dp sp : Option Addr) (dLen dCap sLen sCap : Nat) (hd : a.eval d = .slice dp dLen dCap) (hs : a.eval s = .slice sp sLen sCap)
  (g off : Nat) (cur : List Value) (t : TypeId) (hg : w.heap[g]? = some (.cells cur.toArray t (0, 0))) (cs : List Value) (hn : cs.length = Nat.min sLen dLen)
  (hpos : 0 < cs.length → dp = some ⟨g, off, none⟩ ∧ ∃ ad, sp = some ad ∧ ∀ j v, cs[j]? = some v → w.cell? (ad.add j) = some v)
  (hfit : off + cs.length ≤ cur.length) (h1 : ∀ v ∈ cs, v.oneCell' = true)
  (h : ∀ w', w'.heap[g]? = some (.cells (splice cur off cs).toArray t (0, 0)) → Kp (fun k => k = g) w w' → K (a.put o.dst (goInt cs.length)) w') :
  if Region.wanted o (yielded ops a.tmps) = true then Oper.wp P o a w K Q else E := by
 have hw : Region.wanted o (yielded ops a.tmps) = true := by simp [Region.wanted, hgd]
 rw [if_pos hw]
 by_cases h0 : cs.length = 0
 ·obtain rfl : cs = [] := List.eq_nil_of_length_eq_zero h0
  have hrun := run_copy_none (P := P) w dT sT o.type elem dp sp dLen dCap sLen sCap hu hsz (by simpa using hn.symm)
  unfold Oper.wp
  simp [execOp, ho, resolve, invoke, builtin, hd, hs, hrun, Result.andThen]
  exact h w (show _ = _ by simpa [splice] using hg) (Kp.refl _ _)
 ·obtain ⟨rfl, ad, rfl, hsrc⟩ := hpos (by omega)
  have hrun := run_copy_row (P := P) w dT sT o.type elem g off dLen dCap ad sLen sCap cur.toArray t cs hu hsz hg hn hsrc (by simpa using hfit) h1
  unfold Oper.wp
  simp [execOp, ho, resolve, invoke, builtin, hd, hs, hrun, Result.andThen]
  exact h _ (show _ = _ by simpa [splice] using setRow_heap w g _ _ t _ hg) ⟨rfl, rfl, rfl, by simp, fun k _ hk => setRow_other w g k _ hk⟩
theorem take_splice {α : Type} (L cs : List α) (off n : Nat) (h : off + cs.length ≤ n) (hn : n ≤ L.length) : (splice L off cs).take n = splice (L.take n) off cs := by
 unfold splice
 rw [List.take_append, List.take_append]
 have h1 : (L.take off).length = off := by simp; omega
 rw [h1, List.take_of_length_le (l := L.take off) (by simp; omega), List.take_of_length_le (l := cs) (by omega), List.take_take, Nat.min_eq_left (by omega), List.drop_take, Nat.sub_sub]
def putAt (dur : List Int) (at_ : Nat) (b : List Int) : List Int := splice dur at_ b
theorem putAt_length (dur : List Int) (at_ : Nat) (b : List Int) (h : at_ + b.length ≤ dur.length) : (putAt dur at_ b).length = dur.length := length_splice _ _ _ h
theorem R_open {w : World} {base : Nat} {ok : Nat → Prop} {v : Value} {xs : List Int} (h : Kd.R (Kd.int .u8) 5 w base ok v xs) (hp : 0 < xs.length) :
  ∃ b cap cur, v = .slice (some ⟨b, 0, none⟩) xs.length cap ∧ w.heap[b]? = some (.cells (List.toArray cur) 5 (0, 0)) ∧ cur.length = cap ∧ xs.length ≤ cap ∧ cap ≤ maxLen ∧ cur.take xs.length = nums .u8 xs ∧ base ≤ b := by
 obtain ⟨_, ho⟩ := Kd.own_of_R (enc := Value.int .u8) (h1 := fun _ => rfl) h
 rcases ho with ⟨_, h0⟩ | ⟨b, cap, cur, rfl, hb, hh, hn, hm, hs, ht⟩
 ·omega
 ·exact ⟨b, cap, cur.toList, rfl, by simpa using hh, by simpa using hs, hn, hm, by simpa [nums, encs] using ht, hb⟩
theorem R_put_at {w w' : World} {base : Nat} {ok : Nat → Prop} {b cap at_ : Nat} {cur : List Value} {xs ys : List Int} (h : Kd.R (Kd.int .u8) 5 w base ok (.slice (some ⟨b, 0, none⟩) xs.length cap) xs)
  (hc : cur.length = cap) (hn : xs.length ≤ cap) (hm : cap ≤ maxLen) (ht : cur.take xs.length = nums .u8 xs) (hb : base ≤ b) (hfit : at_ + ys.length ≤ xs.length)
  (hw : w'.heap[b]? = some (.cells (splice cur at_ (nums .u8 ys)).toArray 5 (0, 0))) : Kd.R (Kd.int .u8) 5 w' base ok (.slice (some ⟨b, 0, none⟩) (putAt xs at_ ys).length cap) (putAt xs at_ ys) := by
 refine Kd.R_of_own (enc := Value.int .u8) ⟨by simp [encs], .inr ⟨b, cap, (splice cur at_ (nums .u8 ys)).toArray, rfl, hb, hw, by rw [putAt_length _ _ _ hfit]; exact hn, hm, ?_, ?_⟩⟩ (fun k hk => h.1 k hk)
 ·have hl : (nums .u8 ys).length = ys.length := nums_length _ _
  simp only [List.size_toArray]
  rw [length_splice _ _ _ (by rw [hl]; omega)]; omega
 ·have hl : (nums .u8 ys).length = ys.length := nums_length _ _
  rw [putAt_length _ _ _ hfit]
  simp only [Nat.mul_one]
  show List.take xs.length (splice cur at_ (nums .u8 ys)) = encs (Value.int .u8) (splice xs at_ ys)
  have e : encs (Value.int .u8) (splice xs at_ ys) = splice (nums .u8 xs) at_ (nums .u8 ys) := by simp [encs, splice, nums]
  rw [e, ← ht]
  exact take_splice cur (nums .u8 ys) at_ xs.length (by omega) (by omega)
theorem DiskIs.reDur {w w1 : World} {base : Nat} {pr sh : Nat → Prop} {g b : Nat} {v0 v1 : Value} {D : Dk} {dur : List Int} (h : DiskIs w base pr sh g v0 v1 D) (hk : Kp (fun k => k = b) w w1) (hb : v0.ownBlock = some b)
  (hd : Kd.R (Kd.int .u8) 5 w1 base pr v0 dur) : DiskIs w1 base pr sh g v0 v1 { D with dur := dur } := by
 obtain ⟨in0, ho0⟩ := Kd.R_own h.dur
 obtain ⟨in1, ho1, hr1⟩ := h.pend
 have hbp : pr b := h.dur.1 b hb
 have hgb : g ≠ b := fun e => own_ne ho0 h.cell (by decide) (by rw [hb, e])
 exact {
  cell := (hk.block g h.lt hgb).trans h.cell
  hbase := h.hbase
  gpr := h.gpr
  dur := hd
  pb := h.pb
  pend := ⟨in1, own_move ho1 (fun k hk1 => hk.block k (own_lt ho1 k hk1) (fun e => by
   rcases own_type_ne ho0 ho1 (by decide) with h2 | h2
   ·rw [hb] at h2; cases h2
   ·exact h2 (by rw [hb, hk1, e]))), hr1.imp_ (fun _ _ hp => hp.step (fun k hk1 hlt => hk.block k hlt (fun e => h.sep k hk1 (e ▸ hbp))) (fun _ h _ => h))⟩
  sep := h.sep
  plt := fun k hp => Nat.lt_of_lt_of_le (h.plt k hp) hk.size
  slt := fun k hp => Nat.lt_of_lt_of_le (h.slt k hp) hk.size }
theorem C_src {k : IntKind} {w : World} {A : Option Addr} {n : Nat} {l : List Int} (h : Kd.C (Kd.int k) w A n l) (m : Nat) (hm : m ≤ l.length) (h0 : 0 < (nums k (l.take m)).length) :
  ∃ ad, A = some ad ∧ ∀ j v, (nums k (l.take m))[j]? = some v → w.cell? (ad.add j) = some v := by
 have hl : l.length = n := h.1
 rw [nums_length, List.length_take] at h0
 obtain ⟨ad, rfl, _⟩ := Kd.at_int h 0 (by omega) (by omega)
 refine ⟨ad, rfl, fun j v hj => ?_⟩
 simp only [nums, List.getElem?_map, Option.map_eq_some_iff] at hj
 obtain ⟨x, hx, rfl⟩ := hj
 have hjm : j < m := by have := (List.getElem?_eq_some_iff.1 hx).1; rw [List.length_take] at this; omega
 rw [List.getElem?_take_of_lt hjm] at hx
 obtain ⟨ad', he, hc⟩ := Kd.at_int h (j : Int) (by omega) (by have := (List.getElem?_eq_some_iff.1 hx).1; omega)
 injection he with he
 subst he
 simp only [rd, Int.toNat_natCast, List.getD_eq_getElem?_getD, hx, Option.getD_some] at hc
 exact hc
def surv (n : Int) (l : List Int) : Nat := (max 0 (min n l.length)).toNat
section
variable {w : World} {base : Nat} {pr sh : Nat → Prop} {g : Nat} {v0 v1 : Value} {D : Dk}
set_option maxRecDepth 100000 in
set_option maxHeartbeats 1000000 in
theorem apply_calls (at_ : Nat) (l : List Int) (A : Option Addr) (c : Nat) (n : Int) (h : DiskIs w base pr sh g v0 v1 D) (hx : at_ + l.length ≤ D.dur.length) (hp : 0 < D.dur.length)
  (hC : Kd.C (Kd.int .u8) w A l.length l) (hc : l.length ≤ c) :
  Calls Try.prog 58 #[.pointer (some ⟨g, 0, none⟩), .agg #[.int .i64 (at_ : Int), .slice A l.length c], .int .i64 n] w fun e w' => e = .returned (.tuple #[]) ∧ DiskIs w' base pr sh g v0 v1 { D with dur := putAt D.dur at_ (l.take (surv n l)) } ∧ Kp pr w w' := by
 obtain ⟨m1, hm0⟩ : ∃ m1 : Int, (if (l.length : Int) < n then (l.length : Int) else n) = m1 := ⟨_, rfl⟩
 obtain ⟨m, hm, hm1, hm2⟩ : ∃ m : Nat, (if 0 < m1 then m1 else 0) = (m : Int) ∧ m ≤ l.length ∧ m = surv n l := by
  refine ⟨surv n l, ?_, ?_, rfl⟩
  ·unfold surv; subst hm0; omega
  ·unfold surv; omega
 have hlen := h.len
 obtain ⟨b, cap, cur, rfl, hblk, hcur, hncap, hcapm, htake, hbb⟩ := R_open h.dur hp
 have H := AM (h.below (below_alloc (Below.refl _ _) (.cells #[.int .i64 (at_ : Int), .slice A l.length c] 93)))
 have H0 := AM h
 have HB2 := AM (show (w.alloc (.cells #[.int .i64 (at_ : Int), .slice A l.length c] 93)).drew.heap[b]? = some (.cells cur.toArray 5 (0, 0)) from ((below_alloc (Below.refl _ _) _ : Below w.heap.size w (w.alloc _)).block b (blk_lt hblk)).trans hblk)
 have hcl := (h.below (below_alloc (Below.refl _ _) (.cells #[.int .i64 (at_ : Int), .slice A l.length c] 93))).cells.1
 have hb0 : (w.alloc (.cells #[.int .i64 (at_ : Int), .slice A l.length c] 93)).cell? ⟨w.heap.size, 0, none⟩ = some (.int .i64 (at_ : Int)) := (blk_cell (heap_alloc_new w _) 0).trans rfl
 have hb1 : (w.alloc (.cells #[.int .i64 (at_ : Int), .slice A l.length c] 93)).cell? ⟨w.heap.size, 1, none⟩ = some (.slice A l.length c) := (blk_cell (heap_alloc_new w _) 1).trans rfl
 have HC := AM hC
 have hbs : b ≠ w.heap.size := by have := blk_lt hblk; omega
 have hbg : b ≠ g := by
  obtain ⟨_, ho⟩ := Kd.R_own h.dur
  exact fun e => own_ne ho h.cell (by decide) (by rw [← e]; rfl)
 have HB := AM hblk
 have HT := AM htake
 have HM2 := AM hm2
 have HCUR := AM hcur
 have HCM := AM hcapm
 have HBB := AM hbb
 have q1 : (0 : Int) ≤ (at_ : Int) := by omega
 have q2 : (at_ : Int) ≤ (D.dur.length : Int) := by omega
 have q3 : (0 : Int) ≤ (m : Int) := by omega
 have q5 : m ≤ c := by omega
 have q4 : (m : Int) ≤ (l.length : Int) := by omega
 clear h hC hblk htake hm2 hcur hcapm hbb
 go_enter Try.func58, Try.ntmps58
 go_wp2_with fail
 refine start_ (n := 17) (S := fun w' => w'.cell? ⟨g, 0, none⟩ = some (.slice (some ⟨b, 0, none⟩) D.dur.length cap) ∧ w'.cell? ⟨w.heap.size, 0, none⟩ = some (.int .i64 (at_ : Int)) ∧ w'.cell? ⟨w.heap.size, 1, none⟩ = some (.slice A l.length c)) (ds := []) #[false, false, false, false, false, false, false, false, false, false, false, false, false, false, false, false, false] (by kernel_rfl) rfl rfl ⟨hcl, hb0, hb1⟩ (fun hHeld => ?_)
 refine pu 0 (some 6) ?_ (bt 17 1) (by kernel_rfl) ?_ ?_ ?_ ?_
 rotate_left
 ·intro w'
  go_simp
  with_reducible rfl
 rotate_left
 ·simp only [pS]
  rfl
 refine pu 1 (some 7) ?_ (bt 17 3) (by kernel_rfl) ?_ ?_ ?_ ?_
 rotate_left
 ·intro w'
  go_simp
  with_reducible rfl
 rotate_left
 ·simp only [pS]
  rfl
 refine pu 2 (some 8) ?_ (bt 17 7) (by kernel_rfl) ?_ ?_ ?_ ?_
 rotate_left
 ·intro w'
  go_simp
  with_reducible rfl
 rotate_left
 ·simp only [pS]
  rfl
 refine tk 3 (some 9) ?_ (bt 17 15) (by kernel_rfl) hHeld ?_ ?_ ?_ ?_
 rotate_left
 ·rintro w' ⟨s0, s1, s2⟩
  go_simp
  with_reducible rfl
 rotate_left
 ·simp only [pS]
  rfl
 refine pu 4 (some 10) ?_ (bt 17 31) (by kernel_rfl) ?_ ?_ ?_ ?_
 rotate_left
 ·intro w'
  go_simp
  with_reducible rfl
 rotate_left
 ·simp only [pS]
  rfl
 refine tk 5 (some 11) ?_ (bt 17 63) (by kernel_rfl) hHeld ?_ ?_ ?_ ?_
 rotate_left
 ·rintro w' ⟨s0, s1, s2⟩
  go_simp
  with_reducible rfl
 rotate_left
 ·simp only [pS]
  rfl
 refine pu 6 (some 12) ?_ (bt 17 127) (by kernel_rfl) ?_ ?_ ?_ ?_
 rotate_left
 ·intro w'
  go_simp
  with_reducible rfl
 rotate_left
 ·simp only [pS]
  rfl
 refine pu 7 (some 13) ?_ (bt 17 255) (by kernel_rfl) ?_ ?_ ?_ ?_
 rotate_left
 ·intro w'
  go_simp
  with_reducible rfl
 rotate_left
 ·simp only [pS]
  rfl
 refine tk 8 (some 14) ?_ (bt 17 511) (by kernel_rfl) hHeld ?_ ?_ ?_ ?_
 rotate_left
 ·rintro w' ⟨s0, s1, s2⟩
  go_simp
  with_reducible rfl
 rotate_left
 ·simp only [pS]
  rfl
 refine pu 9 (some 15) ?_ (bt 17 1023) (by kernel_rfl) ?_ ?_ ?_ ?_
 rotate_left
 ·intro w'
  go_simp
  with_reducible rfl
 rotate_left
 ·simp only [pS]
  rfl
 refine pu 10 (some 16) ?_ (bt 17 2047) (by kernel_rfl) ?_ ?_ ?_ ?_
 rotate_left
 ·intro w'
  go_simp
  with_reducible rfl
 rotate_left
 ·simp only [pS]
  rfl
 refine tk 11 (some 17) ?_ (bt 17 4095) (by kernel_rfl) hHeld ?_ ?_ ?_ ?_
 rotate_left
 ·rintro w' ⟨s0, s1, s2⟩
  go_simp
  with_reducible rfl
 rotate_left
 ·simp only [pS]
  rfl
 refine pu 12 (some 18) ?_ (bt 17 8191) (by kernel_rfl) ?_ ?_ ?_ ?_
 rotate_left
 ·intro w'
  go_simp
  with_reducible rfl
 rotate_left
 ·simp only [pS]
  rfl
 refine pu 13 (some 19) ?_ (bt 17 16383) (by kernel_rfl) ?_ ?_ ?_ ?_
 rotate_left
 ·intro w'
  go_simp
  with_reducible rfl
 rotate_left
 ·simp only [pS]
  rfl
 refine pu 14 (some 20) ?_ (bt 17 32767) (by kernel_rfl) ?_ ?_ ?_ ?_
 rotate_left
 ·intro w'
  go_simp
  with_reducible rfl
 rotate_left
 ·simp only [pS]
  rfl
 refine pu 15 (some 21) ?_ (bt 17 65535) (by kernel_rfl) ?_ ?_ ?_ ?_
 rotate_left
 ·intro w'
  go_simp
  with_reducible rfl
 rotate_left
 ·simp only [pS]
  rfl
 refine one_ (i := 16) (N := some 22) (bt 17 131071) rfl rfl (by kernel_rfl) (by decide) (fun K hK => ?_)
 refine copy_step rfl (.tmp 12) (.tmp 21) 29 29 rfl 5 Try.underlying29 (by kernel_rfl) _ _ _ _ _ _ rfl rfl b at_ cur 5 HB2.out (nums .u8 (l.take m)) ?_ ?_ ?_ ?_ ?_
 ·rw [nums_length, List.length_take]; simp only [Nat.min_def]; split <;> split <;> omega
 ·intro h0
  refine ⟨?_, C_src (Kd.C_drew (Kd.C_alloc HC.out _)) m hm1 h0⟩
  rw [nums_length, List.length_take] at h0
  rw [if_neg (by omega)]
 ·rw [nums_length, List.length_take, HCUR.out]; omega
 ·intro v hv; simp only [nums, List.mem_map] at hv; obtain ⟨x, _, rfl⟩ := hv; rfl
 intro w2 hw2 hk2
 have HW2 := AM hw2
 have HK2 := AM hk2
 have m1_ := cell_kp (w := (w.alloc (.cells #[.int .i64 (at_ : Int), .slice A l.length c] 93)).drew) hcl hk2 (Ne.symm hbg)
 have m2_ := cell_kp (w := (w.alloc (.cells #[.int .i64 (at_ : Int), .slice A l.length c] 93)).drew) hb0 hk2 (Ne.symm hbs)
 have m3_ := cell_kp (w := (w.alloc (.cells #[.int .i64 (at_ : Int), .slice A l.length c] 93)).drew) hb1 hk2 (Ne.symm hbs)
 clear hw2 hk2
 refine hK.out _ _ ⟨m1_, m2_, m3_⟩ (fun hHeld => ?_)
 clear hK K
 refine norm_ (a' := ?_) ?_ ?_
 rotate_left
 ·show Act.put _ (some 22) _ = _
  simp only [pS]
  rfl
 refine done_ (by kernel_rfl) ?_
 go_end0
 have hk0 : Kp (fun k => k = b) (w.alloc (.cells #[.int .i64 (at_ : Int), .slice A l.length c] 93)) w2 := ⟨HK2.out.os, HK2.out.tape, HK2.out.output, HK2.out.size, HK2.out.block⟩
 refine ⟨rfl, ?_, ?_⟩
 ·rw [← HM2.out]
  refine H.out.reDur hk0 rfl ?_
  have hR := R_put_at (w' := w2) (at_ := at_) (ys := l.take m) H.out.dur HCUR.out hncap HCM.out HT.out HBB.out (by rw [List.length_take]; omega) HW2.out
  rw [putAt_length _ _ _ (by rw [List.length_take]; omega)] at hR
  exact hR
 ·refine (Kp.alloc _).trans (hk0.mono (fun k hk => ?_)) (fun _ h => .inl h)
  subst hk
  exact H0.out.dur.1 _ rfl
end
end Go.Proofs.Ytbbokpkpdnppjaa
