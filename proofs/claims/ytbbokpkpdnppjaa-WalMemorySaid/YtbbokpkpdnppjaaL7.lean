/- The log: the bytes behind the end are erased. -/
import Derived.Test.YtbbokpkpdnppjaaL6
namespace Go.Proofs.Ytbbokpkpdnppjaa
open Go.RowKit Go.Proofs.YtbbokpkpdnppjaaW.PrintWords Go.Proofs.YtbbokpkpdnppjaaW.PrintLast Go.Proofs.YtbbokpkpdnppjaaW.PrintMore
set_option linter.unusedVariables false
set_option linter.unusedSimpArgs false

/-- Blocks laid since may be fenced off. -/
theorem Sts.fenced {w0 W W1 : World} {Q : Nat → Prop} {L : List (Nat × Dk)} (h : Sts w0 W Q L) (hb : Below W.heap.size W W1) : Sts w0 W1 (fun k => Q k ∨ (W.heap.size ≤ k ∧ k < W1.heap.size)) L :=
  h.more hb (fun k hk => hk.elim (fun h1 => ⟨.inl h1, Nat.lt_of_lt_of_le (h.lt k h1) hb.size⟩) (fun h1 => ⟨.inr h1.1, h1.2⟩))
def eraseD (D : Dk) (b : List Int) (at_ : Nat) : Dk × Int :=
  if ∃ x ∈ b.drop at_, x ≠ 0 then (if (D.write (at_ : Int) (List.replicate (b.length - at_) 0)).2 = 0 then (D.write (at_ : Int) (List.replicate (b.length - at_) 0)).1.sync else D.write (at_ : Int) (List.replicate (b.length - at_) 0)) else (D, 0)

set_option maxRecDepth 100000 in
set_option maxHeartbeats 8000000 in
theorem erase_calls {w0 W : World} {Q : Nat → Prop} {R : List (Nat × Dk)} {g : Nat} {D : Dk} (h : Sts w0 W Q ((g, D) :: R)) (hok : D.Ok) (hn : D.pend.length < 1000) (A : Option Addr) (c : Nat) (b : List Int) (at_ : Nat) (hC : Kd.C (Kd.int .u8) W A b.length b) (hc : b.length ≤ c) (hat : at_ ≤ b.length) (hb : b.length ≤ 4194304) :
    Calls Try.prog 71 #[.pointer (some ⟨g, 0, none⟩), .slice A b.length c, .int .i64 (at_ : Int)] W fun e w' => e = .returned (.int .i64 (eraseD D b at_).2) ∧ Sts w0 w' Q ((g, (eraseD D b at_).1) :: R) ∧ KeepP Q W w' := by
  obtain ⟨i05, hi05, _, hsz5, _⟩ := info_parts info5
  obtain ⟨A', hcut, hA5, hC5⟩ := print_drop_of (P := Try.prog) (Value.int .u8) 0 29 5 .i64 Try.underlying29 hi05 hsz5 A c b (at_ : Int) (by omega) (by omega) hc
  simp only [Int.toNat_natCast] at hcut hA5 hC5
  have H := Aside0.mk h
  have HR := Aside0.mk (Kd.C_of_reads (h1 := fun _ => rfl) (hA5 _ (Kd.reads_of_C hC)))
  have hdl : (b.drop at_).length = b.length - at_ := List.length_drop
  clear h hA5 hC hi05 hsz5
  rw [hdl] at hcut
  go_enter Try.func71, Try.ntmps71
  go_wp2_with fail
  rw [← hdl]
  refine (ContainsFunc_calls A' (c - at_) (b.drop at_) W HR.out hC5).mono ?_
  rw [hdl]
  rintro e w1 ⟨r, rfl, hr, rfl⟩
  cases r with
  | false =>
    have hno : ¬ ∃ x ∈ b.drop at_, x ≠ 0 := fun hx => by simpa using hr.2 hx
    go_wp2_with fail
    go_ret
    exact ⟨by rw [eraseD, if_neg hno]; rfl, by rw [eraseD, if_neg hno]; exact H.out, KeepP.refl _ _⟩
  | true =>
    have HYES := Aside0.mk (show ∃ x ∈ b.drop at_, x ≠ 0 from hr.1 rfl)
    clear hr
    have HE := Aside0.mk (show eraseD D b at_ = if (D.write (at_ : Int) (List.replicate (b.length - at_) 0)).2 = 0 then (D.write (at_ : Int) (List.replicate (b.length - at_) 0)).1.sync else D.write (at_ : Int) (List.replicate (b.length - at_) 0) from by rw [eraseD, if_pos HYES.out])
    go_wp2_with ((with_reducible refine gate_dst (N := 19) rfl ?_); refine Kd.R_make (Kd.int .u8) (w0 := W) W.heap.size 5 rfl (N := 19) rfl 29 (.tmp 18) (.tmp 18) rfl ((b.length : Int) - (at_ : Int)) rfl rfl Try.underlying29 (.int .u8 0) 1 info5 rfl (by decide) (by omega) 0 (ok := fun k => W.heap.size ≤ k) (okp := fun _ => False) rfl (fun _ h => h.elim) (Nat.le_refl _) (by omega) (by simp; omega) (Below.refl _ _) (Nat.le_refl _) ?_; intro v1 W1 ho1 hb1 _ hob; obtain ⟨b1, hob, hbl⟩ := hob; rw [show (((b.length : Int) - (at_ : Int)).toNat) = b.length - at_ from by omega] at ho1; have hbl2 := Kd.R_lt ho1 _ hob; obtain ⟨A1, cz, rfl⟩ := Kd.R_slice ho1; have HCz := Aside0.mk ho1; have S1 := Aside0.mk (H.out.fenced hb1); have K1 := Aside0.mk (H.out.keepP hb1); (simp only [List.length_replicate, Int.toNat_natCast]); clear ho1 hb1)
    have hr1 := Kd.R_reads' HCz.out
    have hblk : ∀ a, A1 = some a → W.heap.size ≤ a.block ∧ a.block < W1.heap.size := fun a ha => by
      subst ha
      have h9 : a.block = b1 := by simpa [Value.ownBlock] using hob
      omega
    have HC1 := Aside0.mk hr1.2.2
    have hl1 := hr1.1
    have hcz := hr1.2.1
    clear hr1
    generalize hz : List.replicate (b.length - at_) (0 : Int) = z at HC1 HE
    have hzl : z.length ≤ 140737488355328 := by rw [← hz, List.length_replicate]; omega
    have hzn : z.length = b.length - at_ := by rw [← hz, List.length_replicate]
    rw [← hzn]
    refine (S1.out.write 0 rfl hok (at_ : Int) A1 cz z HC1.out (fun a ha _ => .inr (.inr (hblk a ha))) (by simp at hcz; omega) hzl).mono ?_
    rintro e w2 ⟨rfl, hs, hk⟩
    have S2 := Aside0.mk (show Sts w0 w2 _ ((g, (D.write (at_ : Int) z).1) :: R) from hs)
    have K2 := Aside0.mk hk
    clear hs hk
    have OK2 := Aside0.mk (hok.write hn (at_ : Int) z)
    generalize hwr : D.write (at_ : Int) z = wr at HE S2 OK2 ⊢
    obtain ⟨D2, e2⟩ := wr
    by_cases h0 : e2 = 0
    · subst h0
      have hE : eraseD D b at_ = D2.sync := by rw [HE.out, if_pos rfl]
      go_wp2_with fail
      refine (S2.out.sync 0 rfl OK2.out).mono ?_
      rintro e w3 ⟨rfl, hs, hk⟩
      have S3 := Aside0.mk (show Sts w0 w3 _ ((g, D2.sync.1) :: R) from hs)
      have K3 := Aside0.mk hk
      clear hs hk
      go_wp2_with fail
      go_ret
      exact ⟨by rw [hE]; rfl, by rw [hE]; exact S3.out.mono (fun k hk => .inl hk), fun k hk => (K3.out k (.inl hk)).trans ((K2.out k (.inl hk)).trans (K1.out k hk))⟩
    · have hE : eraseD D b at_ = (D2, e2) := by rw [HE.out, if_neg h0]
      go_wp2_with fail
      go_ret
      exact ⟨by rw [hE]; rfl, by rw [hE]; exact S2.out.mono (fun k hk => .inl hk), fun k hk => (K2.out k (.inl hk)).trans (K1.out k hk)⟩
end Go.Proofs.Ytbbokpkpdnppjaa
