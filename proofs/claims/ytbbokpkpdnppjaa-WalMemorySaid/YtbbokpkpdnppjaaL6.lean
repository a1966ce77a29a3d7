/- The log: the header slots. -/
import Derived.Test.YtbbokpkpdnppjaaL5
namespace Go.Proofs.Ytbbokpkpdnppjaa
open Go.RowKit Go.Proofs.YtbbokpkpdnppjaaW.PrintWords Go.Proofs.YtbbokpkpdnppjaaW.PrintLast Go.Proofs.YtbbokpkpdnppjaaW.PrintMore
set_option linter.unusedVariables false
set_option linter.unusedSimpArgs false

def baseStep (b : List Int) (i : Nat) (sb : Int × Int) : Int × Int :=
  if beVal (((b.take (12 * (i + 1))).drop (12 * i)).take 8) > 4611686018427387904 ∨ (b.take (12 * (i + 1))).drop (12 * i) ≠ header (wrap64 (beVal (((b.take (12 * (i + 1))).drop (12 * i)).take 8))) then sb
  else if sb.1 < 0 ∨ wrap64 (beVal (((b.take (12 * (i + 1))).drop (12 * i)).take 8)) > sb.2 then ((i : Int), wrap64 (beVal (((b.take (12 * (i + 1))).drop (12 * i)).take 8))) else sb
def basesN (b : List Int) : Nat → Int × Int
  | 0 => (-1, 0)
  | i + 1 => baseStep b i (basesN b i)

set_option maxRecDepth 100000 in
set_option maxHeartbeats 8000000 in
theorem bases_calls (A : Option Addr) (c : Nat) (b : List Int) (w : World) (hr : Kd.C (Kd.int .u8) w A b.length b) (hc : b.length ≤ c) (h24 : 24 ≤ b.length) :
    Calls Try.prog 69 #[.slice A b.length c] w fun e w' => e = .returned (.tuple #[.int .i64 (basesN b 2).1, .int .i64 (basesN b 2).2]) ∧ Below w.heap.size w w' := by
  obtain ⟨i05, hi05, _, hsz5, _⟩ := info_parts info5
  have HRB := Aside0.mk hr
  clear hr
  go_enter Try.func69, Try.ntmps69
  go_wp2_with fail
  go_loopw [4, 5, 9] (fun vs vb vi wr => ((vs = .int .i64 (basesN b 0).1 ∧ vb = .int .i64 (basesN b 0).2 ∧ vi = .int .i64 0) ∨ (vs = .int .i64 (basesN b 1).1 ∧ vb = .int .i64 (basesN b 1).2 ∧ vi = .int .i64 1) ∨ (vs = .int .i64 (basesN b 2).1 ∧ vb = .int .i64 (basesN b 2).2 ∧ vi = .int .i64 2)) ∧ Aside0 (Below w.heap.size w wr)) (fun _ _ vi _ => 2 - (intOf vi).toNat)
  case atStart => exact ⟨.inl ⟨rfl, rfl, rfl⟩, Aside0.mk (Below.refl _ _)⟩
  case round =>
    obtain ⟨(⟨rfl, rfl, rfl⟩ | ⟨rfl, rfl, rfl⟩ | ⟨rfl, rfl, rfl⟩), HB⟩ := hrel
    · skip
      obtain ⟨D0, hcut, hA5, hC5⟩ := print_mid_of (P := Try.prog) (Value.int .u8) 0 29 5 .i64 .i64 Try.underlying29 hi05 hsz5 A c b 0 12 (by omega) (by omega) (by omega) hc
      simp only [Int.reduceToNat] at hcut hA5 hC5
      have hsl : ((b.take 12).drop 0).length = 12 := by rw [List.length_drop, List.length_take]; omega
      have hstep : basesN b 1 = baseStep b 0 (basesN b 0) := rfl
      unfold baseStep at hstep
      simp only [Nat.reduceMul, Nat.reduceAdd] at hstep
      have HR := Aside0.mk (Kd.C_below (Kd.C_of_reads (h1 := fun _ => rfl) (hA5 _ (Kd.reads_of_C HRB.out))) HB.out)
      clear hA5
      generalize (b.take 12).drop 0 = s at hcut hC5 hsl hstep HR
      rw [hsl] at hcut hC5
      have HSTEP := Aside0.mk hstep
      clear hstep
      generalize hbs : basesN b 0 = bs at HSTEP ⊢
      obtain ⟨sl, ba⟩ := bs
      have HBS := Aside0.mk hbs
      clear hbs
      have h8 : (s.length : Int) = 12 := by omega
      go_wp2_with fail
      rw [show Value.slice D0 12 (c) = Value.slice D0 s.length (c) from by rw [hsl], show Value.int .i64 8 = Value.int .i64 ((8 : Nat) : Int) from rfl]
      refine (get_calls D0 (c) s 8 wr HR.out (by omega) (by omega)).mono ?_
      rintro e w2 ⟨rfl, rfl⟩
      have HN := Aside0.mk (show beVal (s.take 8) = beVal (s.take 8) from rfl)
      generalize beVal (s.take 8) = n at HN HSTEP ⊢
      by_cases hbig : n > 4611686018427387904
      · have hnew : basesN b 1 = (sl, ba) := by rw [HSTEP.out, if_pos (.inl hbig)]
        go_wp2_with fail
        go_roundw
        case rel => exact ⟨.inr (.inl ⟨by rw [hnew], by rw [hnew], by go_num⟩), HB⟩
        case measure => simp [intOf] <;> decide
      · have hn0 : n < 18446744073709551616 := by omega
        go_wp2_with fail
        refine (header_calls (wrap64 n) wr).mono ?_
        rintro e w3 ⟨v3, rfl, hr3, hb3⟩
        obtain ⟨A3, c3, rfl⟩ := Kd.R_slice hr3
        have HB3 := Aside0.mk (below_step HB.out hb3)
        have HR3 := Aside0.mk hr3
        have HRs := Aside0.mk (Kd.C_below HR.out hb3)
        clear hr3 hb3
        rw [header_length]
        go_wp2_with fail
        rw [show Value.slice D0 12 (c) = Value.slice D0 s.length (c) from by rw [hsl], show Value.slice A3 12 c3 = Value.slice A3 (header (wrap64 n)).length c3 from by rw [header_length]]
        refine (Equal_calls D0 (c) s A3 c3 (header (wrap64 n)) w3 HRs.out (by omega) (Kd.R_reads' HR3.out).2.2 (Kd.R_reads' HR3.out).2.1).mono ?_
        rintro e w4 ⟨rfl, hb4⟩
        have HB4 := Aside0.mk (below_step HB3.out hb4)
        clear hb4
        by_cases heq : s = header (wrap64 n)
        · rw [decide_eq_true heq]
          by_cases h0 : sl < 0
          · have hnew : basesN b 1 = (0, wrap64 n) := by rw [HSTEP.out, if_neg (fun h => h.elim (fun h => by omega) (fun h => h heq)), if_pos (.inl h0)]; rfl
            go_wp2_with fail
            go_roundw
            case rel => exact ⟨.inr (.inl ⟨by rw [hnew], by rw [hnew], by go_num⟩), HB4⟩
            case measure => simp [intOf] <;> decide
          · by_cases h1 : wrap64 n > ba
            · have hnew : basesN b 1 = (0, wrap64 n) := by rw [HSTEP.out, if_neg (fun h => h.elim (fun h => by omega) (fun h => h heq)), if_pos (.inr h1)]; rfl
              go_wp2_with fail
              go_roundw
              case rel => exact ⟨.inr (.inl ⟨by rw [hnew], by rw [hnew], by go_num⟩), HB4⟩
              case measure => simp [intOf] <;> decide
            · have hnew : basesN b 1 = (sl, ba) := by rw [HSTEP.out, if_neg (fun h => h.elim (fun h => by omega) (fun h => h heq)), if_neg (fun h => h.elim (fun h => by omega) (fun h => by omega))]
              go_wp2_with fail
              go_roundw
              case rel => exact ⟨.inr (.inl ⟨by rw [hnew], by rw [hnew], by go_num⟩), HB4⟩
              case measure => simp [intOf] <;> decide
        · have hnew : basesN b 1 = (sl, ba) := by rw [HSTEP.out, if_pos (.inr heq)]
          rw [decide_eq_false heq]
          go_wp2_with fail
          go_roundw
          case rel => exact ⟨.inr (.inl ⟨by rw [hnew], by rw [hnew], by go_num⟩), HB4⟩
          case measure => simp [intOf] <;> decide
    · skip
      obtain ⟨D1, hcut, hA5, hC5⟩ := print_mid_of (P := Try.prog) (Value.int .u8) 0 29 5 .i64 .i64 Try.underlying29 hi05 hsz5 A c b 12 24 (by omega) (by omega) (by omega) hc
      simp only [Int.reduceToNat] at hcut hA5 hC5
      have hsl : ((b.take 24).drop 12).length = 12 := by rw [List.length_drop, List.length_take]; omega
      have hstep : basesN b 2 = baseStep b 1 (basesN b 1) := rfl
      unfold baseStep at hstep
      simp only [Nat.reduceMul, Nat.reduceAdd] at hstep
      have HR := Aside0.mk (Kd.C_below (Kd.C_of_reads (h1 := fun _ => rfl) (hA5 _ (Kd.reads_of_C HRB.out))) HB.out)
      clear hA5
      generalize (b.take 24).drop 12 = s at hcut hC5 hsl hstep HR
      rw [hsl] at hcut hC5
      have HSTEP := Aside0.mk hstep
      clear hstep
      generalize hbs : basesN b 1 = bs at HSTEP ⊢
      obtain ⟨sl, ba⟩ := bs
      have HBS := Aside0.mk hbs
      clear hbs
      have h8 : (s.length : Int) = 12 := by omega
      go_wp2_with fail
      rw [show Value.slice D1 12 (c - 12) = Value.slice D1 s.length (c - 12) from by rw [hsl], show Value.int .i64 8 = Value.int .i64 ((8 : Nat) : Int) from rfl]
      refine (get_calls D1 (c - 12) s 8 wr HR.out (by omega) (by omega)).mono ?_
      rintro e w2 ⟨rfl, rfl⟩
      have HN := Aside0.mk (show beVal (s.take 8) = beVal (s.take 8) from rfl)
      generalize beVal (s.take 8) = n at HN HSTEP ⊢
      by_cases hbig : n > 4611686018427387904
      · have hnew : basesN b 2 = (sl, ba) := by rw [HSTEP.out, if_pos (.inl hbig)]
        go_wp2_with fail
        go_roundw
        case rel => exact ⟨.inr (.inr ⟨by rw [hnew], by rw [hnew], by go_num⟩), HB⟩
        case measure => simp [intOf] <;> decide
      · have hn0 : n < 18446744073709551616 := by omega
        go_wp2_with fail
        refine (header_calls (wrap64 n) wr).mono ?_
        rintro e w3 ⟨v3, rfl, hr3, hb3⟩
        obtain ⟨A3, c3, rfl⟩ := Kd.R_slice hr3
        have HB3 := Aside0.mk (below_step HB.out hb3)
        have HR3 := Aside0.mk hr3
        have HRs := Aside0.mk (Kd.C_below HR.out hb3)
        clear hr3 hb3
        rw [header_length]
        go_wp2_with fail
        rw [show Value.slice D1 12 (c - 12) = Value.slice D1 s.length (c - 12) from by rw [hsl], show Value.slice A3 12 c3 = Value.slice A3 (header (wrap64 n)).length c3 from by rw [header_length]]
        refine (Equal_calls D1 (c - 12) s A3 c3 (header (wrap64 n)) w3 HRs.out (by omega) (Kd.R_reads' HR3.out).2.2 (Kd.R_reads' HR3.out).2.1).mono ?_
        rintro e w4 ⟨rfl, hb4⟩
        have HB4 := Aside0.mk (below_step HB3.out hb4)
        clear hb4
        by_cases heq : s = header (wrap64 n)
        · rw [decide_eq_true heq]
          by_cases h0 : sl < 0
          · have hnew : basesN b 2 = (1, wrap64 n) := by rw [HSTEP.out, if_neg (fun h => h.elim (fun h => by omega) (fun h => h heq)), if_pos (.inl h0)]; rfl
            go_wp2_with fail
            go_roundw
            case rel => exact ⟨.inr (.inr ⟨by rw [hnew], by rw [hnew], by go_num⟩), HB4⟩
            case measure => simp [intOf] <;> decide
          · by_cases h1 : wrap64 n > ba
            · have hnew : basesN b 2 = (1, wrap64 n) := by rw [HSTEP.out, if_neg (fun h => h.elim (fun h => by omega) (fun h => h heq)), if_pos (.inr h1)]; rfl
              go_wp2_with fail
              go_roundw
              case rel => exact ⟨.inr (.inr ⟨by rw [hnew], by rw [hnew], by go_num⟩), HB4⟩
              case measure => simp [intOf] <;> decide
            · have hnew : basesN b 2 = (sl, ba) := by rw [HSTEP.out, if_neg (fun h => h.elim (fun h => by omega) (fun h => h heq)), if_neg (fun h => h.elim (fun h => by omega) (fun h => by omega))]
              go_wp2_with fail
              go_roundw
              case rel => exact ⟨.inr (.inr ⟨by rw [hnew], by rw [hnew], by go_num⟩), HB4⟩
              case measure => simp [intOf] <;> decide
        · have hnew : basesN b 2 = (sl, ba) := by rw [HSTEP.out, if_pos (.inr heq)]
          rw [decide_eq_false heq]
          go_wp2_with fail
          go_roundw
          case rel => exact ⟨.inr (.inr ⟨by rw [hnew], by rw [hnew], by go_num⟩), HB4⟩
          case measure => simp [intOf] <;> decide
    · go_wp2_with fail
      go_ret2
      exact ⟨rfl, HB.out⟩
end Go.Proofs.Ytbbokpkpdnppjaa
