/- The log: no frame is there. -/
import Derived.Test.YtbbokpkpdnppjaaL7
namespace Go.Proofs.Ytbbokpkpdnppjaa
open Go.RowKit Go.Proofs.YtbbokpkpdnppjaaW.PrintWords Go.Proofs.YtbbokpkpdnppjaaW.PrintLast Go.Proofs.YtbbokpkpdnppjaaW.PrintMore
set_option linter.unusedVariables false
set_option linter.unusedSimpArgs false

theorem frame0_ne : frame 0 [] ≠ List.replicate 16 0 := by decide +kernel
theorem header0_ne : header 0 ≠ List.replicate 12 0 := by decide +kernel
theorem beVal0 (k : Nat) : beVal (List.replicate k 0) = 0 := by
  unfold beVal
  induction k with
  | zero => rfl
  | succ k ih => rw [List.replicate_succ, List.foldl_cons, show beStep 0 0 = 0 from by decide +kernel]; exact ih

set_option maxRecDepth 100000 in
set_option maxHeartbeats 8000000 in
theorem frames0_calls (m : Nat) (hm : 40 ≤ m) (hm2 : m ≤ 4194304) (A : Option Addr) (c p q : Nat) (W : World) (l : Nat) (hp : W.cell? ⟨p, 0, none⟩ = some (.slice A m c)) (hq : W.cell? ⟨q, 0, none⟩ = some (.int .i64 0)) (hC : Kd.C (Kd.int .u8) W A m (List.replicate m 0)) (hc : m ≤ c) :
    Calls Try.prog 85 #[.func (.yield l) #[] #[], .pointer (some ⟨p, 0, none⟩), .pointer (some ⟨q, 0, none⟩)] W fun e W' => e = .returned (.tuple #[]) ∧ Below W.heap.size W W' := by
  obtain ⟨i05, hi05, _, hsz5, _⟩ := info_parts info5
  have hlen : (List.replicate m (0 : Int)).length = m := List.length_replicate
  obtain ⟨A24, hcut24, hA24, hC24⟩ := print_drop_of (P := Try.prog) (Value.int .u8) 0 29 5 .i64 Try.underlying29 hi05 hsz5 A c (List.replicate m 0) 24 (by omega) (by omega) (by omega)
  obtain ⟨A40, hcut40, hA40, hC40⟩ := print_mid_of (P := Try.prog) (Value.int .u8) 0 29 5 .i64 .i64 Try.underlying29 hi05 hsz5 A c (List.replicate m 0) 40 40 (by omega) (by omega) (by omega) (by omega)
  obtain ⟨Af, hcutf, hAf, hCf⟩ := print_mid_of (P := Try.prog) (Value.int .u8) 0 29 5 .i64 .i64 Try.underlying29 hi05 hsz5 A c (List.replicate m 0) 24 40 (by omega) (by omega) (by omega) (by omega)
  have e24 : (List.replicate m (0 : Int)).drop 24 = List.replicate (m - 24) 0 := by simp
  have e40 : ((List.replicate m (0 : Int)).take 40).drop 40 = [] := by simp; omega
  have ef : ((List.replicate m (0 : Int)).take 40).drop 24 = List.replicate 16 0 := by rw [List.take_replicate, List.drop_replicate, Nat.min_eq_left hm]
  simp only [Int.reduceToNat] at hcut24 hA24 hC24 hcut40 hA40 hC40 hcutf hAf hCf
  rw [e24] at hcut24 hA24 hC24
  rw [e40] at hcut40 hA40 hC40
  rw [ef] at hcutf hAf hCf
  simp only [List.length_replicate, List.length_nil] at hcut24 hA24 hC24 hcut40 hA40 hC40 hcutf hAf hCf
  have HC := Aside0.mk hC
  have H24 := Aside0.mk (Kd.C_of_reads (h1 := fun _ => rfl) (hA24 _ (Kd.reads_of_C hC)))
  have H40 := Aside0.mk (Kd.C_of_reads (h1 := fun _ => rfl) (hA40 _ (Kd.reads_of_C hC)))
  have Hf := Aside0.mk (Kd.C_of_reads (h1 := fun _ => rfl) (hAf _ (Kd.reads_of_C hC)))
  clear hA24 hA40 hAf hC hi05 hsz5 e24 e40 ef
  go_enter Try.func85, Try.ntmps85
  go_wp2_with fail
  go_loopw [4] (fun va wr => va = .int .i64 24 ∧ W = wr) (fun _ _ => 0)
  case atStart => exact ⟨rfl, rfl⟩
  case round =>
    obtain ⟨rfl, rfl⟩ := hrel
    go_wp2_with fail
    have hg := get_calls A24 (c - 24) (List.replicate (m - 24) 0) 4 W (by rw [List.length_replicate]; exact H24.out) (by rw [List.length_replicate]; omega) (by rw [List.length_replicate]; omega)
    rw [List.length_replicate, List.take_replicate, Nat.min_eq_left (by omega), beVal0] at hg
    refine hg.mono ?_
    clear hg
    rintro e w1 ⟨rfl, rfl⟩
    have h16 : ¬ (0 > (m : Int) - 24 - 16) := by omega
    have hw40 : wrap64 40 = 40 := by unfold wrap64; omega
    go_wp2_with fail
    refine start_ (n := 12) (S := fun w' => w'.cell? ⟨p, 0, none⟩ = some (.slice A m c)) (ds := []) #[false, false, false, false, false, false, false, false, false, false, false, false] (by kernel_rfl) rfl rfl hp (fun hHeld => ?_)
    refine take_ (i := 0) (N := some 37) (v := ?_) (a' := ?_) #[true, false, false, false, false, false, false, false, false, false, false, false] rfl rfl (by kernel_rfl) (fun _ _ _ h => h) (Or.inl ⟨by rfl, ?_⟩) hHeld ?_ ?_
    rotate_left
    · intro w' s0
      go_simp
      with_reducible rfl
    rotate_left
    · simp only [Act.put, List.setIfInBounds_toArray, List.set_cons_zero, List.set_cons_succ, i64_w, i32_w]
      rfl
    refine pure_ (i := 1) (N := some 38) (v := ?_) (a' := ?_) #[true, true, false, false, false, false, false, false, false, false, false, false] rfl rfl (by kernel_rfl) (fun _ _ _ h => h) (Or.inl ⟨by rfl, ?_⟩) ?_ ?_
    rotate_left
    · intro w'
      go_simp
      with_reducible rfl
    rotate_left
    · simp only [Act.put, List.setIfInBounds_toArray, List.set_cons_zero, List.set_cons_succ, i64_w, i32_w]
      rfl
    refine pure_ (i := 2) (N := some 39) (v := ?_) (a' := ?_) #[true, true, true, false, false, false, false, false, false, false, false, false] rfl rfl (by kernel_rfl) (fun _ _ _ h => h) (Or.inl ⟨by rfl, ?_⟩) ?_ ?_
    rotate_left
    · intro w'
      go_simp
      with_reducible rfl
    rotate_left
    · simp only [Act.put, List.setIfInBounds_toArray, List.set_cons_zero, List.set_cons_succ, i64_w, i32_w]
      rfl
    refine pure_ (i := 3) (N := some 40) (v := ?_) (a' := ?_) #[true, true, true, true, false, false, false, false, false, false, false, false] rfl rfl (by kernel_rfl) (fun _ _ _ h => h) (Or.inl ⟨by rfl, ?_⟩) ?_ ?_
    rotate_left
    · intro w'
      go_simp
      with_reducible rfl
    rotate_left
    · simp only [Act.put, List.setIfInBounds_toArray, List.set_cons_zero, List.set_cons_succ, i64_w, i32_w]
      rfl
    refine pure_ (i := 4) (N := some 41) (v := ?_) (a' := ?_) #[true, true, true, true, true, false, false, false, false, false, false, false] rfl rfl (by kernel_rfl) (fun _ _ _ h => h) (Or.inl ⟨by rfl, ?_⟩) ?_ ?_
    rotate_left
    · intro w'
      go_simp
      with_reducible rfl
    rotate_left
    · simp only [Act.put, List.setIfInBounds_toArray, List.set_cons_zero, List.set_cons_succ, i64_w, i32_w]
      rfl
    refine pure_ (i := 5) (N := some 42) (v := ?_) (a' := ?_) #[true, true, true, true, true, true, false, false, false, false, false, false] rfl rfl (by kernel_rfl) (fun _ _ _ h => h) (Or.inl ⟨by rfl, ?_⟩) ?_ ?_
    rotate_left
    · intro w'
      go_simp
      with_reducible rfl
    rotate_left
    · simp only [Act.put, List.setIfInBounds_toArray, List.set_cons_zero, List.set_cons_succ, i64_w, i32_w]
      rfl
    refine pure_ (i := 6) (N := some 43) (v := ?_) (a' := ?_) #[true, true, true, true, true, true, true, false, false, false, false, false] rfl rfl (by kernel_rfl) (fun _ _ _ h => h) (Or.inl ⟨by rfl, ?_⟩) ?_ ?_
    rotate_left
    · intro w'
      go_simp
      with_reducible rfl
    rotate_left
    · simp only [Act.put, List.setIfInBounds_toArray, List.set_cons_zero, List.set_cons_succ, i64_w, i32_w]
      rfl
    refine pure_ (i := 7) (N := some 44) (v := ?_) (a' := ?_) #[true, true, true, true, true, true, true, true, false, false, false, false] rfl rfl (by kernel_rfl) (fun _ _ _ h => h) (Or.inl ⟨by rfl, ?_⟩) ?_ ?_
    rotate_left
    · intro w'
      go_simp
      with_reducible rfl
    rotate_left
    · simp only [Act.put, List.setIfInBounds_toArray, List.set_cons_zero, List.set_cons_succ, i64_w, i32_w]
      rfl
    refine pure_ (i := 8) (N := some 45) (v := ?_) (a' := ?_) #[true, true, true, true, true, true, true, true, true, false, false, false] rfl rfl (by kernel_rfl) (fun _ _ _ h => h) (Or.inl ⟨by rfl, ?_⟩) ?_ ?_
    rotate_left
    · intro w'
      go_simp
      with_reducible rfl
    rotate_left
    · simp only [Act.put, List.setIfInBounds_toArray, List.set_cons_zero, List.set_cons_succ, i64_w, i32_w]
      rfl
    have hbd : Below W.heap.size W W.drew := below_drew (Below.refl _ _)
    have hpd : W.drew.cell? ⟨p, 0, none⟩ = some (.slice A m c) := hp
    clear hHeld
    generalize W.drew = W2 at hbd hpd ⊢
    have HB2 := Aside0.mk hbd
    have H402 := Aside0.mk (Kd.C_below H40.out hbd)
    have Hf2 := Aside0.mk (Kd.C_below Hf.out hbd)
    clear hbd
    refine one_ (i := 9) (N := some 46) #[true, true, true, true, true, true, true, true, true, true, false, false] rfl rfl (by kernel_rfl) (by decide) (fun K hK => ?_)
    refine goes_ Try.func34 (by kernel_rfl) rfl #[.int .i64 0, .slice A40 0 (c - 40)] (by rfl) rfl rfl (by (try simp only [List.map_toArray, List.map_cons, List.map_nil]); first | done | rfl) ?_
    refine (Frame_calls 0 A40 (c - 40) [] W2 H402.out (by simp) (by simp)).mono ?_
    rintro e w2 ⟨v2, rfl, hr, hb⟩
    obtain ⟨A2, c2, rfl⟩ := Kd.R_slice hr
    have HR2 := Aside0.mk hr
    have HB3 := Aside0.mk (below_step HB2.out hb)
    have Hf3 := Aside0.mk (Kd.C_below Hf2.out hb)
    have hp2 := (hb.cell (World.block_lt_of_cell? _ _ hpd)).trans hpd
    clear hr hb
    rw [show (frame 0 []).length = 16 from by decide +kernel]
    refine ⟨_, rfl, ?_⟩
    refine hK.out _ _ hp2 (fun hHeld => ?_)
    clear hK K
    refine norm_ (a' := ?_) ?_ ?_
    rotate_left
    · show Act.put _ (some 46) _ = _
      simp only [Act.put, List.setIfInBounds_toArray, List.set_cons_zero, List.set_cons_succ, i64_w, i32_w]
      rfl
    refine one_ (i := 10) (N := some 47) #[true, true, true, true, true, true, true, true, true, true, true, false] rfl rfl (by kernel_rfl) (by decide) (fun K hK => ?_)
    refine goes_ Try.func84 (by kernel_rfl) rfl #[.slice Af 16 (c - 24), .slice A2 16 c2] (by rfl) rfl rfl (by (try simp only [List.map_toArray, List.map_cons, List.map_nil]); first | done | rfl) ?_
    have hE := Equal_calls Af (c - 24) (List.replicate 16 0) A2 c2 (frame 0 []) w2 (by rw [List.length_replicate]; exact Hf3.out) (by rw [List.length_replicate]; omega) (Kd.R_reads' HR2.out).2.2 (Kd.R_reads' HR2.out).2.1
    rw [List.length_replicate, show (frame 0 []).length = 16 from by decide +kernel, decide_eq_false (fun e => frame0_ne e.symm)] at hE
    refine hE.mono ?_
    clear hE
    rintro e w3 ⟨rfl, hb⟩
    have HB4 := Aside0.mk (below_step HB3.out hb)
    have hp3 := (hb.cell (World.block_lt_of_cell? _ _ hp2)).trans hp2
    clear hb
    refine ⟨_, rfl, ?_⟩
    refine hK.out _ _ hp3 (fun hHeld => ?_)
    clear hK K
    refine norm_ (a' := ?_) ?_ ?_
    rotate_left
    · show Act.put _ (some 47) _ = _
      simp only [Act.put, List.setIfInBounds_toArray, List.set_cons_zero, List.set_cons_succ, i64_w, i32_w]
      rfl
    refine pure_ (i := 11) (N := some 48) (v := ?_) (a' := ?_) #[true, true, true, true, true, true, true, true, true, true, true, true] rfl rfl (by kernel_rfl) (fun _ _ _ h => h) (Or.inl ⟨by rfl, ?_⟩) ?_ ?_
    rotate_left
    · intro w'
      go_simp
      with_reducible rfl
    rotate_left
    · simp only [Act.put, List.setIfInBounds_toArray, List.set_cons_zero, List.set_cons_succ, i64_w, i32_w]
      rfl
    refine done_ (by kernel_rfl) ?_
    go_wp2_with fail
    refine bodyPost_ret (results_none rfl _ _ _) rfl ?_
    exact ⟨rfl, HB4.out⟩
end Go.Proofs.Ytbbokpkpdnppjaa
