/- The log: the header slots. The log: the bytes behind the end are erased. The log: no frame is there. -/
import Derived.Test.YtbbokpkpdnppjaaU0
import Derived.Test.YtbbokpkpdnppjaaUA
import Derived.Test.YtbbokpkpdnppjaaL5
namespace Go.Proofs.Ytbbokpkpdnppjaa
open Go.RowKit Go.Proofs.YtbbokpkpdnppjaaW.PrintWords Go.Proofs.YtbbokpkpdnppjaaW.PrintLast Go.Proofs.YtbbokpkpdnppjaaW.PrintMore
set_option linter.unusedVariables false
set_option linter.unusedSimpArgs false
def baseStep (b : List Int) (i : Nat) (sb : Int × Int) : Int × Int :=
 if beVal (((b.take (12 * (i + 1))).drop (12 * i)).take 8) > 4611686018427387904 ∨ (b.take (12 * (i + 1))).drop (12 * i) ≠ header (wrap64 (beVal (((b.take (12 * (i + 1))).drop (12 * i)).take 8))) then sb
 else if sb.1 < 0 ∨ wrap64 (beVal (((b.take (12 * (i + 1))).drop (12 * i)).take 8)) > sb.2 then ((i : Int), wrap64 (beVal (((b.take (12 * (i + 1))).drop (12 * i)).take 8))) else sb
def basesN (b : List Int) : Nat → Int × Int
 | 0 => (-1, 0)
 | i + 1 => baseStep b i (basesN b i)
set_option maxRecDepth 100000 in
set_option maxHeartbeats 8000000 in
theorem bases_calls (A : Option Addr) (c : Nat) (b : List Int) (w : World) (hr : Kd.C (Kd.int .u8) w A b.length b) (hc : b.length ≤ c) (h24 : 24 ≤ b.length) :
  Calls Try.prog 69 #[.slice A b.length c] w fun e w' => e = .returned (.tuple #[.int .i64 (basesN b 2).1, .int .i64 (basesN b 2).2]) ∧ Below w.heap.size w w' := by
 obtain ⟨i05, hi05, _, hsz5, _⟩ := info_parts info5
 have HRB := AM hr
 clear hr
 go_enter Try.func69, Try.ntmps69
 go_wp2_with fail
 go_loopw [4, 5, 9] (fun vs vb vi wr => ((vs = .int .i64 (basesN b 0).1 ∧ vb = .int .i64 (basesN b 0).2 ∧ vi = .int .i64 0) ∨ (vs = .int .i64 (basesN b 1).1 ∧ vb = .int .i64 (basesN b 1).2 ∧ vi = .int .i64 1) ∨ (vs = .int .i64 (basesN b 2).1 ∧ vb = .int .i64 (basesN b 2).2 ∧ vi = .int .i64 2)) ∧ Aside0 (Below w.heap.size w wr)) (fun _ _ vi _ => 2 - (intOf vi).toNat)
 case atStart => exact ⟨.inl ⟨rfl, rfl, rfl⟩, AM (Below.refl _ _)⟩
 case round =>
  obtain ⟨(⟨rfl, rfl, rfl⟩ | ⟨rfl, rfl, rfl⟩ | ⟨rfl, rfl, rfl⟩), HB⟩ := hrel
  ·skip
   obtain ⟨D0, hcut, hA5, hC5⟩ := print_mid_of (P := Try.prog) (Value.int .u8) 0 29 5 .i64 .i64 Try.underlying29 hi05 hsz5 A c b 0 12 (by omega) (by omega) (by omega) hc
   simp only [Int.reduceToNat] at hcut hA5 hC5
   have hsl : ((b.take 12).drop 0).length = 12 := by rw [List.length_drop, List.length_take]; omega
   have hstep : basesN b 1 = baseStep b 0 (basesN b 0) := rfl
   unfold baseStep at hstep
   simp only [Nat.reduceMul, Nat.reduceAdd] at hstep
   have HR := AM (Kd.C_below (Kd.C_of_reads (h1 := fun _ => rfl) (hA5 _ (Kd.reads_of_C HRB.out))) HB.out)
   clear hA5
   generalize (b.take 12).drop 0 = s at hcut hC5 hsl hstep HR
   rw [hsl] at hcut hC5
   have HSTEP := AM hstep
   clear hstep
   generalize hbs : basesN b 0 = bs at HSTEP ⊢
   obtain ⟨sl, ba⟩ := bs
   have HBS := AM hbs
   clear hbs
   have h8 : (s.length : Int) = 12 := by omega
   go_wp2_with fail
   rw [show Value.slice D0 12 (c) = Value.slice D0 s.length (c) from by rw [hsl], show Value.int .i64 8 = Value.int .i64 ((8 : Nat) : Int) from rfl]
   refine (get_calls D0 (c) s 8 wr HR.out (by omega) (by omega)).mono ?_
   rintro e w2 ⟨rfl, rfl⟩
   have HN := AM (show beVal (s.take 8) = beVal (s.take 8) from rfl)
   generalize beVal (s.take 8) = n at HN HSTEP ⊢
   by_cases hbig : n > 4611686018427387904
   ·have hnew : basesN b 1 = (sl, ba) := by rw [HSTEP.out, if_pos (.inl hbig)]
    go_wp2_with fail
    go_roundw
    case rel => exact ⟨.inr (.inl ⟨by rw [hnew], by rw [hnew], by go_num⟩), HB⟩
    case measure => simp [intOf] <;> decide
   ·have hn0 : n < 18446744073709551616 := by omega
    go_wp2_with fail
    refine (header_calls (wrap64 n) wr).mono ?_
    rintro e w3 ⟨v3, rfl, hr3, hb3⟩
    obtain ⟨A3, c3, rfl⟩ := Kd.R_slice hr3
    have HB3 := AM (below_step HB.out hb3)
    have HR3 := AM hr3
    have HRs := AM (Kd.C_below HR.out hb3)
    clear hr3 hb3
    rw [header_length]
    go_wp2_with fail
    rw [show Value.slice D0 12 (c) = Value.slice D0 s.length (c) from by rw [hsl], show Value.slice A3 12 c3 = Value.slice A3 (header (wrap64 n)).length c3 from by rw [header_length]]
    refine (Equal_calls D0 (c) s A3 c3 (header (wrap64 n)) w3 HRs.out (by omega) (Kd.R_reads' HR3.out).2.2 (Kd.R_reads' HR3.out).2.1).mono ?_
    rintro e w4 ⟨rfl, hb4⟩
    have HB4 := AM (below_step HB3.out hb4)
    clear hb4
    by_cases heq : s = header (wrap64 n)
    ·rw [decide_eq_true heq]
     by_cases h0 : sl < 0
     ·have hnew : basesN b 1 = (0, wrap64 n) := by rw [HSTEP.out, if_neg (fun h => h.elim (fun h => by omega) (fun h => h heq)), if_pos (.inl h0)]; rfl
      go_wp2_with fail
      go_roundw
      case rel => exact ⟨.inr (.inl ⟨by rw [hnew], by rw [hnew], by go_num⟩), HB4⟩
      case measure => simp [intOf] <;> decide
     ·by_cases h1 : wrap64 n > ba
      ·have hnew : basesN b 1 = (0, wrap64 n) := by rw [HSTEP.out, if_neg (fun h => h.elim (fun h => by omega) (fun h => h heq)), if_pos (.inr h1)]; rfl
       go_wp2_with fail
       go_roundw
       case rel => exact ⟨.inr (.inl ⟨by rw [hnew], by rw [hnew], by go_num⟩), HB4⟩
       case measure => simp [intOf] <;> decide
      ·have hnew : basesN b 1 = (sl, ba) := by rw [HSTEP.out, if_neg (fun h => h.elim (fun h => by omega) (fun h => h heq)), if_neg (fun h => h.elim (fun h => by omega) (fun h => by omega))]
       go_wp2_with fail
       go_roundw
       case rel => exact ⟨.inr (.inl ⟨by rw [hnew], by rw [hnew], by go_num⟩), HB4⟩
       case measure => simp [intOf] <;> decide
    ·have hnew : basesN b 1 = (sl, ba) := by rw [HSTEP.out, if_pos (.inr heq)]
     rw [decide_eq_false heq]
     go_wp2_with fail
     go_roundw
     case rel => exact ⟨.inr (.inl ⟨by rw [hnew], by rw [hnew], by go_num⟩), HB4⟩
     case measure => simp [intOf] <;> decide
  ·skip
   obtain ⟨D1, hcut, hA5, hC5⟩ := print_mid_of (P := Try.prog) (Value.int .u8) 0 29 5 .i64 .i64 Try.underlying29 hi05 hsz5 A c b 12 24 (by omega) (by omega) (by omega) hc
   simp only [Int.reduceToNat] at hcut hA5 hC5
   have hsl : ((b.take 24).drop 12).length = 12 := by rw [List.length_drop, List.length_take]; omega
   have hstep : basesN b 2 = baseStep b 1 (basesN b 1) := rfl
   unfold baseStep at hstep
   simp only [Nat.reduceMul, Nat.reduceAdd] at hstep
   have HR := AM (Kd.C_below (Kd.C_of_reads (h1 := fun _ => rfl) (hA5 _ (Kd.reads_of_C HRB.out))) HB.out)
   clear hA5
   generalize (b.take 24).drop 12 = s at hcut hC5 hsl hstep HR
   rw [hsl] at hcut hC5
   have HSTEP := AM hstep
   clear hstep
   generalize hbs : basesN b 1 = bs at HSTEP ⊢
   obtain ⟨sl, ba⟩ := bs
   have HBS := AM hbs
   clear hbs
   have h8 : (s.length : Int) = 12 := by omega
   go_wp2_with fail
   rw [show Value.slice D1 12 (c - 12) = Value.slice D1 s.length (c - 12) from by rw [hsl], show Value.int .i64 8 = Value.int .i64 ((8 : Nat) : Int) from rfl]
   refine (get_calls D1 (c - 12) s 8 wr HR.out (by omega) (by omega)).mono ?_
   rintro e w2 ⟨rfl, rfl⟩
   have HN := AM (show beVal (s.take 8) = beVal (s.take 8) from rfl)
   generalize beVal (s.take 8) = n at HN HSTEP ⊢
   by_cases hbig : n > 4611686018427387904
   ·have hnew : basesN b 2 = (sl, ba) := by rw [HSTEP.out, if_pos (.inl hbig)]
    go_wp2_with fail
    go_roundw
    case rel => exact ⟨.inr (.inr ⟨by rw [hnew], by rw [hnew], by go_num⟩), HB⟩
    case measure => simp [intOf] <;> decide
   ·have hn0 : n < 18446744073709551616 := by omega
    go_wp2_with fail
    refine (header_calls (wrap64 n) wr).mono ?_
    rintro e w3 ⟨v3, rfl, hr3, hb3⟩
    obtain ⟨A3, c3, rfl⟩ := Kd.R_slice hr3
    have HB3 := AM (below_step HB.out hb3)
    have HR3 := AM hr3
    have HRs := AM (Kd.C_below HR.out hb3)
    clear hr3 hb3
    rw [header_length]
    go_wp2_with fail
    rw [show Value.slice D1 12 (c - 12) = Value.slice D1 s.length (c - 12) from by rw [hsl], show Value.slice A3 12 c3 = Value.slice A3 (header (wrap64 n)).length c3 from by rw [header_length]]
    refine (Equal_calls D1 (c - 12) s A3 c3 (header (wrap64 n)) w3 HRs.out (by omega) (Kd.R_reads' HR3.out).2.2 (Kd.R_reads' HR3.out).2.1).mono ?_
    rintro e w4 ⟨rfl, hb4⟩
    have HB4 := AM (below_step HB3.out hb4)
    clear hb4
    by_cases heq : s = header (wrap64 n)
    ·rw [decide_eq_true heq]
     by_cases h0 : sl < 0
     ·have hnew : basesN b 2 = (1, wrap64 n) := by rw [HSTEP.out, if_neg (fun h => h.elim (fun h => by omega) (fun h => h heq)), if_pos (.inl h0)]; rfl
      go_wp2_with fail
      go_roundw
      case rel => exact ⟨.inr (.inr ⟨by rw [hnew], by rw [hnew], by go_num⟩), HB4⟩
      case measure => simp [intOf] <;> decide
     ·by_cases h1 : wrap64 n > ba
      ·have hnew : basesN b 2 = (1, wrap64 n) := by rw [HSTEP.out, if_neg (fun h => h.elim (fun h => by omega) (fun h => h heq)), if_pos (.inr h1)]; rfl
       go_wp2_with fail
       go_roundw
       case rel => exact ⟨.inr (.inr ⟨by rw [hnew], by rw [hnew], by go_num⟩), HB4⟩
       case measure => simp [intOf] <;> decide
      ·have hnew : basesN b 2 = (sl, ba) := by rw [HSTEP.out, if_neg (fun h => h.elim (fun h => by omega) (fun h => h heq)), if_neg (fun h => h.elim (fun h => by omega) (fun h => by omega))]
       go_wp2_with fail
       go_roundw
       case rel => exact ⟨.inr (.inr ⟨by rw [hnew], by rw [hnew], by go_num⟩), HB4⟩
       case measure => simp [intOf] <;> decide
    ·have hnew : basesN b 2 = (sl, ba) := by rw [HSTEP.out, if_pos (.inr heq)]
     rw [decide_eq_false heq]
     go_wp2_with fail
     go_roundw
     case rel => exact ⟨.inr (.inr ⟨by rw [hnew], by rw [hnew], by go_num⟩), HB4⟩
     case measure => simp [intOf] <;> decide
  ·go_wp2_with fail
   go_ret2
   exact ⟨rfl, HB.out⟩
end Go.Proofs.Ytbbokpkpdnppjaa
namespace Go.Proofs.Ytbbokpkpdnppjaa
open Go.RowKit Go.Proofs.YtbbokpkpdnppjaaW.PrintWords Go.Proofs.YtbbokpkpdnppjaaW.PrintLast Go.Proofs.YtbbokpkpdnppjaaW.PrintMore
set_option linter.unusedVariables false
set_option linter.unusedSimpArgs false
theorem Sts.fenced {w0 W W1 : World} {Q : Nat → Prop} {L : List (Nat × Dk)} (h : Sts w0 W Q L) (hb : Below W.heap.size W W1) : Sts w0 W1 (fun k => Q k ∨ (W.heap.size ≤ k ∧ k < W1.heap.size)) L :=
 h.more hb (fun k hk => hk.elim (fun h1 => ⟨.inl h1, Nat.lt_of_lt_of_le (h.lt k h1) hb.size⟩) (fun h1 => ⟨.inr h1.1, h1.2⟩))
def eraseD (D : Dk) (b : List Int) (at_ : Nat) : Dk × Int :=
 if ∃ x ∈ b.drop at_, x ≠ 0 then (if (D.write (at_ : Int) (List.replicate (b.length - at_) 0)).2 = 0 then (D.write (at_ : Int) (List.replicate (b.length - at_) 0)).1.sync else D.write (at_ : Int) (List.replicate (b.length - at_) 0)) else (D, 0)
set_option maxRecDepth 100000 in
set_option maxHeartbeats 8000000 in
theorem erase_calls {w0 W : World} {Q : Nat → Prop} {R : List (Nat × Dk)} {g : Nat} {D : Dk} (h : Sts w0 W Q ((g, D) :: R)) (hok : D.Ok) (hn : D.pend.length < 1000) (A : Option Addr) (c : Nat) (b : List Int) (at_ : Nat) (hC : Kd.C (Kd.int .u8) W A b.length b) (hc : b.length ≤ c) (hat : at_ ≤ b.length) (hb : b.length ≤ 4194304) :
  Calls Try.prog 71 #[.pointer (some ⟨g, 0, none⟩), .slice A b.length c, .int .i64 (at_ : Int)] W fun e w' => e = .returned (.int .i64 (eraseD D b at_).2) ∧ Sts w0 w' Q ((g, (eraseD D b at_).1) :: R) ∧ KeepP Q W w' := by
 obtain ⟨i05, hi05, _, hsz5, _⟩ := info_parts info5
 obtain ⟨A', hcut, hA5, hC5⟩ := print_drop_of (P := Try.prog) (Value.int .u8) 0 29 5 .i64 Try.underlying29 hi05 hsz5 A c b (at_ : Int) (by omega) (by omega) hc
 simp only [Int.toNat_natCast] at hcut hA5 hC5
 have H := AM h
 have HR := AM (Kd.C_of_reads (h1 := fun _ => rfl) (hA5 _ (Kd.reads_of_C hC)))
 have hdl : (b.drop at_).length = b.length - at_ := List.length_drop
 clear h hA5 hC hi05 hsz5
 rw [hdl] at hcut
 go_enter Try.func71, Try.ntmps71
 go_wp2_with fail
 rw [← hdl]
 refine (ContainsFunc_calls A' (c - at_) (b.drop at_) W HR.out hC5).mono ?_
 rw [hdl]
 rintro e w1 ⟨r, rfl, hr, rfl⟩
 cases r with
 | false =>
  have hno : ¬ ∃ x ∈ b.drop at_, x ≠ 0 := fun hx => by simpa using hr.2 hx
  go_wp2_with fail
  go_ret
  exact ⟨by rw [eraseD, if_neg hno]; rfl, by rw [eraseD, if_neg hno]; exact H.out, KeepP.refl _ _⟩
 | true =>
  have HYES := AM (show ∃ x ∈ b.drop at_, x ≠ 0 from hr.1 rfl)
  clear hr
  have HE := AM (show eraseD D b at_ = if (D.write (at_ : Int) (List.replicate (b.length - at_) 0)).2 = 0 then (D.write (at_ : Int) (List.replicate (b.length - at_) 0)).1.sync else D.write (at_ : Int) (List.replicate (b.length - at_) 0) from by rw [eraseD, if_pos HYES.out])
  go_wp2_with ((with_reducible refine gate_dst (N := 19) rfl ?_); refine Kd.R_make (Kd.int .u8) (w0 := W) W.heap.size 5 rfl (N := 19) rfl 29 (.tmp 18) (.tmp 18) rfl ((b.length : Int) - (at_ : Int)) rfl rfl Try.underlying29 (.int .u8 0) 1 info5 rfl (by decide) (by omega) 0 (ok := fun k => W.heap.size ≤ k) (okp := fun _ => False) rfl (fun _ h => h.elim) (Nat.le_refl _) (by omega) (by simp; omega) (Below.refl _ _) (Nat.le_refl _) ?_; intro v1 W1 ho1 hb1 _ hob; obtain ⟨b1, hob, hbl⟩ := hob; rw [show (((b.length : Int) - (at_ : Int)).toNat) = b.length - at_ from by omega] at ho1; have hbl2 := Kd.R_lt ho1 _ hob; obtain ⟨A1, cz, rfl⟩ := Kd.R_slice ho1; have HCz := AM ho1; have S1 := AM (H.out.fenced hb1); have K1 := AM (H.out.keepP hb1); (simp only [List.length_replicate, Int.toNat_natCast]); clear ho1 hb1)
  have hr1 := Kd.R_reads' HCz.out
  have hblk : ∀ a, A1 = some a → W.heap.size ≤ a.block ∧ a.block < W1.heap.size := fun a ha => by
   subst ha
   have h9 : a.block = b1 := by simpa [Value.ownBlock] using hob
   omega
  have HC1 := AM hr1.2.2
  have hl1 := hr1.1
  have hcz := hr1.2.1
  clear hr1
  generalize hz : List.replicate (b.length - at_) (0 : Int) = z at HC1 HE
  have hzl : z.length ≤ 140737488355328 := by rw [← hz, List.length_replicate]; omega
  have hzn : z.length = b.length - at_ := by rw [← hz, List.length_replicate]
  rw [← hzn]
  refine (S1.out.write 0 rfl hok (at_ : Int) A1 cz z HC1.out (fun a ha _ => .inr (.inr (hblk a ha))) (by simp at hcz; omega) hzl).mono ?_
  rintro e w2 ⟨rfl, hs, hk⟩
  have S2 := AM (show Sts w0 w2 _ ((g, (D.write (at_ : Int) z).1) :: R) from hs)
  have K2 := AM hk
  clear hs hk
  have OK2 := AM (hok.write hn (at_ : Int) z)
  generalize hwr : D.write (at_ : Int) z = wr at HE S2 OK2 ⊢
  obtain ⟨D2, e2⟩ := wr
  by_cases h0 : e2 = 0
  ·subst h0
   have hE : eraseD D b at_ = D2.sync := by rw [HE.out, if_pos rfl]
   go_wp2_with fail
   refine (S2.out.sync 0 rfl OK2.out).mono ?_
   rintro e w3 ⟨rfl, hs, hk⟩
   have S3 := AM (show Sts w0 w3 _ ((g, D2.sync.1) :: R) from hs)
   have K3 := AM hk
   clear hs hk
   go_wp2_with fail
   go_ret
   exact ⟨by rw [hE]; rfl, by rw [hE]; exact S3.out.mono (fun k hk => .inl hk), fun k hk => (K3.out k (.inl hk)).trans ((K2.out k (.inl hk)).trans (K1.out k hk))⟩
  ·have hE : eraseD D b at_ = (D2, e2) := by rw [HE.out, if_neg h0]
   go_wp2_with fail
   go_ret
   exact ⟨by rw [hE]; rfl, by rw [hE]; exact S2.out.mono (fun k hk => .inl hk), fun k hk => (K2.out k (.inl hk)).trans (K1.out k hk)⟩
end Go.Proofs.Ytbbokpkpdnppjaa
namespace Go.Proofs.Ytbbokpkpdnppjaa
open Go.RowKit Go.Proofs.YtbbokpkpdnppjaaW.PrintWords Go.Proofs.YtbbokpkpdnppjaaW.PrintLast Go.Proofs.YtbbokpkpdnppjaaW.PrintMore
set_option linter.unusedVariables false
set_option linter.unusedSimpArgs false
theorem frame0_ne : frame 0 [] ≠ List.replicate 16 0 := by decide +kernel
theorem beVal0 (k : Nat) : beVal (List.replicate k 0) = 0 := by
 unfold beVal
 induction k with
 | zero => rfl
 | succ k ih => rw [List.replicate_succ, List.foldl_cons, show beStep 0 0 = 0 from by decide +kernel]; exact ih
set_option maxRecDepth 100000 in
set_option maxHeartbeats 8000000 in
theorem frames0_calls (m : Nat) (hm : 40 ≤ m) (hm2 : m ≤ 4194304) (A : Option Addr) (c p q : Nat) (W : World) (l : Nat) (hp : W.cell? ⟨p, 0, none⟩ = some (.slice A m c)) (hq : W.cell? ⟨q, 0, none⟩ = some (.int .i64 0)) (hC : Kd.C (Kd.int .u8) W A m (List.replicate m 0)) (hc : m ≤ c) :
  Calls Try.prog 85 #[.func (.yield l) #[] #[], .pointer (some ⟨p, 0, none⟩), .pointer (some ⟨q, 0, none⟩)] W fun e W' => e = .returned (.tuple #[]) ∧ Below W.heap.size W W' := by
 obtain ⟨i05, hi05, _, hsz5, _⟩ := info_parts info5
 have hlen : (List.replicate m (0 : Int)).length = m := List.length_replicate
 obtain ⟨A24, hcut24, hA24, hC24⟩ := print_drop_of (P := Try.prog) (Value.int .u8) 0 29 5 .i64 Try.underlying29 hi05 hsz5 A c (List.replicate m 0) 24 (by omega) (by omega) (by omega)
 obtain ⟨A40, hcut40, hA40, hC40⟩ := print_mid_of (P := Try.prog) (Value.int .u8) 0 29 5 .i64 .i64 Try.underlying29 hi05 hsz5 A c (List.replicate m 0) 40 40 (by omega) (by omega) (by omega) (by omega)
 obtain ⟨Af, hcutf, hAf, hCf⟩ := print_mid_of (P := Try.prog) (Value.int .u8) 0 29 5 .i64 .i64 Try.underlying29 hi05 hsz5 A c (List.replicate m 0) 24 40 (by omega) (by omega) (by omega) (by omega)
 have e24 : (List.replicate m (0 : Int)).drop 24 = List.replicate (m - 24) 0 := by simp
 have e40 : ((List.replicate m (0 : Int)).take 40).drop 40 = [] := by simp; omega
 have ef : ((List.replicate m (0 : Int)).take 40).drop 24 = List.replicate 16 0 := by rw [List.take_replicate, List.drop_replicate, Nat.min_eq_left hm]
 simp only [Int.reduceToNat] at hcut24 hA24 hC24 hcut40 hA40 hC40 hcutf hAf hCf
 rw [e24] at hcut24 hA24 hC24
 rw [e40] at hcut40 hA40 hC40
 rw [ef] at hcutf hAf hCf
 simp only [List.length_replicate, List.length_nil] at hcut24 hA24 hC24 hcut40 hA40 hC40 hcutf hAf hCf
 have HC := AM hC
 have H24 := AM (Kd.C_of_reads (h1 := fun _ => rfl) (hA24 _ (Kd.reads_of_C hC)))
 have H40 := AM (Kd.C_of_reads (h1 := fun _ => rfl) (hA40 _ (Kd.reads_of_C hC)))
 have Hf := AM (Kd.C_of_reads (h1 := fun _ => rfl) (hAf _ (Kd.reads_of_C hC)))
 clear hA24 hA40 hAf hC hi05 hsz5 e24 e40 ef
 go_enter Try.func85, Try.ntmps85
 go_wp2_with fail
 go_loopw [4] (fun va wr => va = .int .i64 24 ∧ W = wr) (fun _ _ => 0)
 case atStart => exact ⟨rfl, rfl⟩
 case round =>
  obtain ⟨rfl, rfl⟩ := hrel
  go_wp2_with fail
  have hg := get_calls A24 (c - 24) (List.replicate (m - 24) 0) 4 W (by rw [List.length_replicate]; exact H24.out) (by rw [List.length_replicate]; omega) (by rw [List.length_replicate]; omega)
  rw [List.length_replicate, List.take_replicate, Nat.min_eq_left (by omega), beVal0] at hg
  refine hg.mono ?_
  clear hg
  rintro e w1 ⟨rfl, rfl⟩
  have h16 : ¬ (0 > (m : Int) - 24 - 16) := by omega
  have hw40 : wrap64 40 = 40 := by unfold wrap64; omega
  go_wp2_with fail
  refine start_ (n := 12) (S := fun w' => w'.cell? ⟨p, 0, none⟩ = some (.slice A m c)) (ds := []) #[false, false, false, false, false, false, false, false, false, false, false, false] (by kernel_rfl) rfl rfl hp (fun hHeld => ?_)
  refine tk 0 (some 37) ?_ (bt 12 1) (by kernel_rfl) hHeld ?_ ?_ ?_ ?_
  rotate_left
  ·intro w' s0
   go_simp
   with_reducible rfl
  rotate_left
  ·simp only [pS]
   rfl
  refine pu 1 (some 38) ?_ (bt 12 3) (by kernel_rfl) ?_ ?_ ?_ ?_
  rotate_left
  ·intro w'
   go_simp
   with_reducible rfl
  rotate_left
  ·simp only [pS]
   rfl
  refine pu 2 (some 39) ?_ (bt 12 7) (by kernel_rfl) ?_ ?_ ?_ ?_
  rotate_left
  ·intro w'
   go_simp
   with_reducible rfl
  rotate_left
  ·simp only [pS]
   rfl
  refine pu 3 (some 40) ?_ (bt 12 15) (by kernel_rfl) ?_ ?_ ?_ ?_
  rotate_left
  ·intro w'
   go_simp
   with_reducible rfl
  rotate_left
  ·simp only [pS]
   rfl
  refine pu 4 (some 41) ?_ (bt 12 31) (by kernel_rfl) ?_ ?_ ?_ ?_
  rotate_left
  ·intro w'
   go_simp
   with_reducible rfl
  rotate_left
  ·simp only [pS]
   rfl
  refine pu 5 (some 42) ?_ (bt 12 63) (by kernel_rfl) ?_ ?_ ?_ ?_
  rotate_left
  ·intro w'
   go_simp
   with_reducible rfl
  rotate_left
  ·simp only [pS]
   rfl
  refine pu 6 (some 43) ?_ (bt 12 127) (by kernel_rfl) ?_ ?_ ?_ ?_
  rotate_left
  ·intro w'
   go_simp
   with_reducible rfl
  rotate_left
  ·simp only [pS]
   rfl
  refine pu 7 (some 44) ?_ (bt 12 255) (by kernel_rfl) ?_ ?_ ?_ ?_
  rotate_left
  ·intro w'
   go_simp
   with_reducible rfl
  rotate_left
  ·simp only [pS]
   rfl
  refine pu 8 (some 45) ?_ (bt 12 511) (by kernel_rfl) ?_ ?_ ?_ ?_
  rotate_left
  ·intro w'
   go_simp
   with_reducible rfl
  rotate_left
  ·simp only [pS]
   rfl
  have hbd : Below W.heap.size W W.drew := below_drew (Below.refl _ _)
  have hpd : W.drew.cell? ⟨p, 0, none⟩ = some (.slice A m c) := hp
  clear hHeld
  generalize W.drew = W2 at hbd hpd ⊢
  have HB2 := AM hbd
  have H402 := AM (Kd.C_below H40.out hbd)
  have Hf2 := AM (Kd.C_below Hf.out hbd)
  clear hbd
  refine one_ (i := 9) (N := some 46) (bt 12 1023) rfl rfl (by kernel_rfl) (by decide) (fun K hK => ?_)
  refine goes_ Try.func34 (by kernel_rfl) rfl #[.int .i64 0, .slice A40 0 (c - 40)] (by rfl) rfl rfl (by (try simp only [List.map_toArray, List.map_cons, List.map_nil]); first | done | rfl) ?_
  refine (Frame_calls 0 A40 (c - 40) [] W2 H402.out (by simp) (by simp)).mono ?_
  rintro e w2 ⟨v2, rfl, hr, hb⟩
  obtain ⟨A2, c2, rfl⟩ := Kd.R_slice hr
  have HR2 := AM hr
  have HB3 := AM (below_step HB2.out hb)
  have Hf3 := AM (Kd.C_below Hf2.out hb)
  have hp2 := (hb.cell (World.block_lt_of_cell? _ _ hpd)).trans hpd
  clear hr hb
  rw [show (frame 0 []).length = 16 from by decide +kernel]
  refine ⟨_, rfl, ?_⟩
  refine hK.out _ _ hp2 (fun hHeld => ?_)
  clear hK K
  refine norm_ (a' := ?_) ?_ ?_
  rotate_left
  ·show Act.put _ (some 46) _ = _
   simp only [pS]
   rfl
  refine one_ (i := 10) (N := some 47) (bt 12 2047) rfl rfl (by kernel_rfl) (by decide) (fun K hK => ?_)
  refine goes_ Try.func84 (by kernel_rfl) rfl #[.slice Af 16 (c - 24), .slice A2 16 c2] (by rfl) rfl rfl (by (try simp only [List.map_toArray, List.map_cons, List.map_nil]); first | done | rfl) ?_
  have hE := Equal_calls Af (c - 24) (List.replicate 16 0) A2 c2 (frame 0 []) w2 (by rw [List.length_replicate]; exact Hf3.out) (by rw [List.length_replicate]; omega) (Kd.R_reads' HR2.out).2.2 (Kd.R_reads' HR2.out).2.1
  rw [List.length_replicate, show (frame 0 []).length = 16 from by decide +kernel, decide_eq_false (fun e => frame0_ne e.symm)] at hE
  refine hE.mono ?_
  clear hE
  rintro e w3 ⟨rfl, hb⟩
  have HB4 := AM (below_step HB3.out hb)
  have hp3 := (hb.cell (World.block_lt_of_cell? _ _ hp2)).trans hp2
  clear hb
  refine ⟨_, rfl, ?_⟩
  refine hK.out _ _ hp3 (fun hHeld => ?_)
  clear hK K
  refine norm_ (a' := ?_) ?_ ?_
  rotate_left
  ·show Act.put _ (some 47) _ = _
   simp only [pS]
   rfl
  refine pu 11 (some 48) ?_ (bt 12 4095) (by kernel_rfl) ?_ ?_ ?_ ?_
  rotate_left
  ·intro w'
   go_simp
   with_reducible rfl
  rotate_left
  ·simp only [pS]
   rfl
  refine done_ (by kernel_rfl) ?_
  go_wp2_with fail
  refine bodyPost_ret (results_none rfl _ _ _) rfl ?_
  exact ⟨rfl, HB4.out⟩
end Go.Proofs.Ytbbokpkpdnppjaa
