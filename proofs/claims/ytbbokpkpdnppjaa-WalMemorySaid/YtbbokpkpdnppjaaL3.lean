/- The log's helpers: concatenating, headers, frames. -/
import Derived.Test.YtbbokpkpdnppjaaL2
namespace Go.Proofs.Ytbbokpkpdnppjaa
open Go.RowKit Go.Proofs.YtbbokpkpdnppjaaW.PrintWords Go.Proofs.YtbbokpkpdnppjaaW.PrintLast Go.Proofs.YtbbokpkpdnppjaaW.PrintMore
set_option linter.unusedVariables false
set_option linter.unusedSimpArgs false

set_option maxRecDepth 100000 in
set_option maxHeartbeats 8000000 in
theorem Concat_calls (b : Nat) (A1 : Option Addr) (c1 : Nat) (l1 : List Int) (A2 : Option Addr) (c2 : Nat) (l2 : List Int) (w : World) (x0 : w.cell? ⟨b, 0, none⟩ = some (.slice A1 l1.length c1)) (x1 : w.cell? ⟨b, 1, none⟩ = some (.slice A2 l2.length c2))
    (C1 : Kd.C (Kd.int .u8) w A1 l1.length l1) (C2 : Kd.C (Kd.int .u8) w A2 l2.length l2) (hl : l1.length + l2.length ≤ 140737488355328) :
    Calls Try.prog 66 #[.slice (some ⟨b, 0, none⟩) 2 2] w fun e w' => ∃ v, e = .returned v ∧ Kd.R (Kd.int .u8) 5 w' w.heap.size (fun _ => True) v (l1 ++ l2) ∧ Below w.heap.size w w' := by
  have HC1 := Aside0.mk C1
  have HC2 := Aside0.mk C2
  have X0 := Aside0.mk x0
  have X1 := Aside0.mk x1
  have hs0 : ((l1.length : Int) + (l2.length : Int)) ≤ 140737488355328 := by omega
  clear C1 C2
  go_enter Try.func66, Try.ntmps66
  go_wp2_with fail
  go_loopw [3, 11] (fun vc vi wr => ((vc = .int .i64 0 ∧ vi = .int .i64 0) ∨ (vc = .int .i64 (l1.length : Int) ∧ vi = .int .i64 1) ∨ (vc = .int .i64 ((l1.length : Int) + (l2.length : Int)) ∧ vi = .int .i64 2)) ∧ w = wr) (fun _ vi _ => 2 - (intOf vi).toNat)
  case atStart => exact ⟨.inl ⟨rfl, rfl⟩, rfl⟩
  case round =>
    obtain ⟨(⟨rfl, rfl⟩ | ⟨rfl, rfl⟩ | ⟨rfl, rfl⟩), rfl⟩ := hrel
    · have h0 : ¬ ((l1.length : Int) < 0) := by omega
      go_wp2_with fail
      go_roundw
      case rel => exact ⟨.inr (.inl ⟨by go_num, by go_num⟩), trivial⟩
      case measure => simp [intOf] <;> decide
    · have h0 : ¬ ((l1.length : Int) + (l2.length : Int) < 0) := by omega
      go_wp2_with fail
      go_roundw
      case rel => exact ⟨.inr (.inr ⟨by go_num, by go_num⟩), trivial⟩
      case measure => simp [intOf] <;> decide
    · go_wp2_with fail
      rw [show ((l1.length : Int) + (l2.length : Int)) = ((l1.length + l2.length : Nat) : Int) from by push_cast; rfl]
      refine (Grow_calls (l1.length + l2.length) w hl).mono ?_
      rintro e w1 ⟨v, rfl, hr, hb⟩
      obtain ⟨Av, cv, rfl⟩ := Kd.R_slice hr
      have HR1 := Aside0.mk hr
      have HB1 := Aside0.mk hb
      clear hr hb
      go_wp2_with fail
      go_loopw [6, 27] (fun vc vi wr => ∃ (Au : Option Addr) (nu cu : Nat), vc = .slice Au nu cu ∧ ((vi = .int .i64 0 ∧ Aside0 (Kd.R (Kd.int .u8) 5 wr w.heap.size (fun _ => True) (.slice Au nu cu) [])) ∨ (vi = .int .i64 1 ∧ Aside0 (Kd.R (Kd.int .u8) 5 wr w.heap.size (fun _ => True) (.slice Au nu cu) l1)) ∨ (vi = .int .i64 2 ∧ Aside0 (Kd.R (Kd.int .u8) 5 wr w.heap.size (fun _ => True) (.slice Au nu cu) (l1 ++ l2)))) ∧ Aside0 (Below w.heap.size w wr)) (fun _ vi _ => 2 - (intOf vi).toNat)
      case atStart => exact ⟨_, _, _, rfl, .inl ⟨rfl, HR1⟩, HB1⟩
      case round =>
        obtain ⟨Au, nu, cu, rfl, (⟨rfl, HO⟩ | ⟨rfl, HO⟩ | ⟨rfl, HO⟩), HB⟩ := hrel
        · have y0 := (HB.out.cell (World.block_lt_of_cell? _ _ X0.out)).trans X0.out
          go_wp2_with ((with_reducible refine gate_builtin (b := .append) (xs := #[.tmp 31, .tmp 32]) rfl ?_); at_builtin; refine Kd.R_append_rows (Kd.int .u8) (w0 := w) w.heap.size rfl (.tmp 31) (.tmp 32) 29 5 (.int .u8 0) 1 rfl Try.underlying29 info5 rfl (by decide) (by omega) (.slice Au nu cu) [] l1 A1 l1.length c1 (fun _ => True) (fun _ => False) rfl rfl HO.out (Kd.C_below HC1.out HB.out) (fun _ _ h => h) (fun _ h => h.elim) (fun _ _ => trivial) HB.out HB.out.size (by simp <;> omega) ?_; intro v2 w2 ho2 hb2 _ _; obtain ⟨A2', c2', rfl⟩ := Kd.R_slice ho2; have HO2 := Aside0.mk ho2; have HB2 := Aside0.mk hb2; clear ho2 hb2)
          go_roundw
          case rel => exact ⟨_, _, _, rfl, .inr (.inl ⟨by go_num, HO2⟩), HB2⟩
          case measure => simp [intOf] <;> decide
        · have y1 := (HB.out.cell (World.block_lt_of_cell? _ _ X1.out)).trans X1.out
          go_wp2_with ((with_reducible refine gate_builtin (b := .append) (xs := #[.tmp 31, .tmp 32]) rfl ?_); at_builtin; refine Kd.R_append_rows (Kd.int .u8) (w0 := w) w.heap.size rfl (.tmp 31) (.tmp 32) 29 5 (.int .u8 0) 1 rfl Try.underlying29 info5 rfl (by decide) (by omega) (.slice Au nu cu) l1 l2 A2 l2.length c2 (fun _ => True) (fun _ => False) rfl rfl HO.out (Kd.C_below HC2.out HB.out) (fun _ _ h => h) (fun _ h => h.elim) (fun _ _ => trivial) HB.out HB.out.size (by simp <;> omega) ?_; intro v2 w2 ho2 hb2 _ _; obtain ⟨A2', c2', rfl⟩ := Kd.R_slice ho2; have HO2 := Aside0.mk ho2; have HB2 := Aside0.mk hb2; clear ho2 hb2)
          go_roundw
          case rel => exact ⟨_, _, _, rfl, .inr (.inr ⟨by go_num, Aside0.mk (by have := HO2.out; rwa [List.length_append] at this)⟩), HB2⟩
          case measure => simp [intOf] <;> decide
        · go_wp2_with fail
          go_ret
          exact ⟨_, rfl, HO.out, HB.out⟩

/-- A number's bytes, the most significant first. -/
def beBytes (n : Int) : Nat → List Int
  | 0 => []
  | k + 1 => (shr .u64 n (8 * (k : Int))) % 256 :: beBytes n k
theorem beBytes_length (n : Int) (k : Nat) : (beBytes n k).length = k := by
  induction k with
  | zero => rfl
  | succ k ih => simp [beBytes, ih]
theorem put_l0 (n : Int) : ∀ (k fuel : Nat) (x : List Int), k ≤ 8 → k < fuel → x.length + k ≤ 140737488355328 → G.wal_put.l0 fuel x n ((k : Int) - 1) = some (x ++ beBytes n k) := by
  intro k
  induction k with
  | zero =>
    intro fuel x _ hf _
    obtain ⟨f, rfl⟩ : ∃ f, fuel = f + 1 := ⟨fuel - 1, by omega⟩
    unfold G.wal_put.l0
    rw [if_neg (by omega)]
    simp [beBytes]
  | succ k ih =>
    intro fuel x h8 hf hl
    obtain ⟨f, rfl⟩ : ∃ f, fuel = f + 1 := ⟨fuel - 1, by omega⟩
    unfold G.wal_put.l0
    have e1 : ((k + 1 : Nat) : Int) - 1 = (k : Int) := by omega
    have e2 : wrap64 (8 * (k : Int)) = 8 * (k : Int) := by unfold wrap64; omega
    have e3 : wrap64 ((k : Int) - 1) = (k : Int) - 1 := by unfold wrap64; omega
    rw [e1, if_pos (by omega), e2, if_pos (by omega), if_pos (by omega), e3, ih f _ (by omega) (by omega) (by simp; omega)]
    simp [beBytes]
theorem put_f (n : Int) (k : Nat) (x : List Int) (h8 : k ≤ 8) (hl : x.length + k ≤ 140737488355328) : G.wal_put.f 9 x n (k : Int) = some (x ++ beBytes n k) := by
  unfold G.wal_put.f
  rw [show wrap64 ((k : Int) - 1) = (k : Int) - 1 from by unfold wrap64; omega]
  exact put_l0 n k 9 x h8 (by omega) hl
/-- The bytes of a header slot. -/
def header (base : Int) : List Int := beBytes (IntKind.u64.wrap base) 8 ++ beBytes (IntKind.u64.wrap (crc (beBytes (IntKind.u64.wrap base) 8))) 4
/-- The bytes of a frame's head. -/
def fhead (lsn : Int) (data : List Int) : List Int := beBytes (data.length : Int) 4 ++ beBytes (IntKind.u64.wrap lsn) 8
/-- The bytes of a frame. -/
def frame (lsn : Int) (data : List Int) : List Int := (fhead lsn data ++ beBytes (IntKind.u64.wrap (crc (fhead lsn data ++ data))) 4) ++ data
theorem header_length (base : Int) : (header base).length = 12 := by simp [header, beBytes_length]
theorem fhead_length (lsn : Int) (data : List Int) : (fhead lsn data).length = 12 := by simp [fhead, beBytes_length]
theorem frame_length (lsn : Int) (data : List Int) : (frame lsn data).length = 16 + data.length := by simp [frame, fhead_length, beBytes_length]; omega

theorem put_calls (v : Value) (x : List Int) (n : Int) (k : Nat) (w0 w : World) (hB : Below w0.heap.size w0 w) (hO : Kd.R (Kd.int .u8) 5 w w0.heap.size (fun k => w0.heap.size ≤ k) v x) (h8 : k ≤ 8) (hl : x.length + k ≤ 140737488355328) :
    Calls Try.prog 64 #[v, .int .u64 n, .int .i64 (k : Int)] w fun e w' => ∃ v', e = .returned v' ∧ Kd.R (Kd.int .u8) 5 w' w0.heap.size (fun k => w0.heap.size ≤ k) v' (x ++ beBytes n k) ∧ Below w0.heap.size w0 w' := by
  refine (G.wal_put.calls 9 (fun k => w0.heap.size ≤ k) v x n (k : Int) _ w0 w hB hO (put_f n k x h8 hl)).mono ?_
  rintro e w' ⟨v', rfl, h1, h2, _⟩
  have := hB.size
  exact ⟨v', rfl, Kd.R_mono h1 (fun k hk => hk.elim id (fun h => by omega)), h2⟩
set_option maxRecDepth 100000 in
set_option maxHeartbeats 8000000 in
theorem header_calls (base : Int) (w : World) :
    Calls Try.prog 77 #[.int .i64 base] w fun e w' => ∃ v, e = .returned v ∧ Kd.R (Kd.int .u8) 5 w' w.heap.size (fun k => w.heap.size ≤ k) v (header base) ∧ Below w.heap.size w w' := by
  go_enter Try.func77, Try.ntmps77
  go_wp2_with fail
  refine (put_calls (.slice none 0 0) [] (IntKind.u64.wrap base) 8 w w (Below.refl _ _) (Kd.R_nil _ _ _ _ _) (by omega) (by simp)).mono ?_
  rintro e w1 ⟨v, rfl, hr, hb⟩
  rw [List.nil_append] at hr
  obtain ⟨A, c, rfl⟩ := Kd.R_slice hr
  have HR := Aside0.mk hr
  have HB := Aside0.mk hb
  clear hr hb
  go_wp2_with fail
  refine (Checksum_calls A c (beBytes (IntKind.u64.wrap base) 8) w1 (Kd.R_reads' HR.out).2.2 (Kd.R_reads' HR.out).2.1).mono ?_
  rintro e w2 ⟨rfl, rfl⟩
  go_wp2_with fail
  refine (put_calls _ _ (IntKind.u64.wrap (crc (beBytes (IntKind.u64.wrap base) 8))) 4 w w1 HB.out HR.out (by omega) (by simp [beBytes_length])).mono ?_
  rintro e w3 ⟨v3, rfl, hr, hb⟩
  have HR3 := Aside0.mk hr
  have HB3 := Aside0.mk hb
  clear hr hb
  go_wp2_with fail
  go_ret
  exact ⟨_, rfl, HR3.out, HB3.out⟩
end Go.Proofs.Ytbbokpkpdnppjaa
