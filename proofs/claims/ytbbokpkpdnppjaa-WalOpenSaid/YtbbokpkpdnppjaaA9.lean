/- The disk's New and Clone. -/
import Derived.Test.YtbbokpkpdnppjaaA8
namespace Go.Proofs.Ytbbokpkpdnppjaa
open Go.RowKit Go.Proofs.YtbbokpkpdnppjaaW.PrintWords Go.Proofs.YtbbokpkpdnppjaaW.PrintLast Go.Proofs.YtbbokpkpdnppjaaW.PrintMore
attribute [local go_sem] max2_int min2_int max_two min_two
set_option linter.unusedVariables false
set_option linter.unusedSimpArgs false

theorem New_bad (n : Int) (w : World) (h : n < 1 ∨ 4194304 < n) :
    Calls Try.prog 15 #[.int .i64 n] w fun e w' => e = .returned (.tuple #[.pointer none, .int .i64 2]) ∧ w = w' := by
  rcases h with h | h
  · go_enter Try.func15, Try.ntmps15
    go_wp2
    go_ret2
    exact ⟨rfl, rfl⟩
  · have h1 : ¬ n < 1 := by omega
    go_enter Try.func15, Try.ntmps15
    go_wp2
    go_ret2
    exact ⟨rfl, rfl⟩

def Dk.fresh (n : Nat) : Dk := ⟨List.replicate n 0, [], -1, false⟩

def NewPost (w : World) (n : Nat) (e : Ending) (w' : World) : Prop := ∃ g pr, e = .returned (.tuple #[.pointer (some ⟨g, 0, none⟩), .int .i64 0]) ∧ IsDisk w' w.heap.size pr (fun _ => False) g (Dk.fresh n) ∧ (∀ k, pr k → w.heap.size ≤ k) ∧ Below w.heap.size w w'

theorem New_good (n : Nat) (w : World) (h1 : 1 ≤ n) (h2 : n ≤ 4194304) :
    Calls Try.prog 15 #[.int .i64 (n : Int)] w (NewPost w n) := by
  have hm := print_make (P := Try.prog) 29 5 .u8 1 Try.underlying29 info5 (by omega) n (by omega)
  have ho := own_made w w.heap.size 5 .u8 n (Nat.le_refl _) (by omega)
  have HO := Aside0.mk ho
  have HN := Aside0.mk (show 1 ≤ n ∧ n ≤ 4194304 from ⟨h1, h2⟩)
  have t1 : ¬ ((n : Int) < 1) := by omega
  have t2 : ¬ (4194304 < (n : Int)) := by omega
  clear ho h1 h2
  go_enter Try.func15, Try.ntmps15
  go_wp2
  go_ret2
  have hb2 := heap_alloc_new (w.alloc (.cells (madeCells #[.int .u8 0] n) 5)) (.cells #[.slice (some ⟨w.heap.size, 0, none⟩) n n, .slice none 0 0, .int .i64 (-1), .bool false] 89)
  refine ⟨w.heap.size + 1, fun k => k = w.heap.size ∨ k = w.heap.size + 1, rfl, ⟨.slice (some ⟨w.heap.size, 0, none⟩) n n, .slice none 0 0, ?_⟩, ?_, below_alloc (below_alloc (Below.refl _ _) _) _⟩
  · exact {
      cell := by simpa [Dk.fresh] using hb2
      hbase := by omega
      gpr := .inr rfl
      dur := by
        have := Kd.R_of_own (enc := Value.int .u8) (h1 := fun _ => rfl) (xs := List.replicate n 0) (ok := fun k => k = w.heap.size ∨ k = w.heap.size + 1) (by rw [List.length_replicate]; exact HO.out) (fun k hk => .inl (by simpa [Value.ownBlock] using hk.symm))
        exact Kd.R_alloc this _
      pb := fun k hk => by simp [Value.ownBlock] at hk
      pend := OwnRow.none_ _ _ _ _ _
      sep := fun k hk => hk.elim
      plt := fun k hk => by simp only [World.size_alloc]; rcases hk with rfl | rfl <;> omega
      slt := fun k hk => hk.elim }
  · rintro k (rfl | rfl) <;> omega

set_option maxRecDepth 100000 in
set_option maxHeartbeats 400000 in
theorem wrClone_calls {w : World} {base : Nat} {sh : Nat → Prop} {v : Value} {l : List Wr} (h : OwnRow (WrK w sh) 93 2 w base v l) (hn : l.length ≤ 1000) :
    Calls Try.prog 63 #[v] w fun e w' => ∃ v', e = .returned v' ∧ OwnRow (WrK w' sh) 93 2 w' w.heap.size v' l ∧ Below w.heap.size w w' := by
  obtain ⟨i0, hi0, hz0, hz1, hz2⟩ := info_parts info93
  obtain ⟨inner, ho, hr⟩ := h
  have hil := hr.1
  by_cases hv : v = .slice none 0 0
  · subst hv
    have hl : l = [] := by
      rcases ho.2 with ⟨_, h0⟩ | ⟨g, cap, cur, e, _⟩
      · exact List.eq_nil_of_length_eq_zero h0
      · injection e with e; cases e
    subst hl
    have he := fun (w : World) => Lib.run_eql_slice_nil (P := Try.prog) w 87 93 none 0 0 0 0 Try.underlying87
    clear ho hr hil hn
    go_enter Try.func63, Try.ntmps63
    go_wp2
    go_ret
    exact ⟨_, rfl, OwnRow.none_ _ _ _ _ _, Below.refl _ _⟩
  · obtain ⟨b, cap, rfl⟩ : ∃ b cap, v = .slice (some ⟨b, 0, none⟩) l.length cap := by
      rcases ho.2 with ⟨e, _⟩ | ⟨g, cap, cur, e, _⟩
      · exact absurd e hv
      · exact ⟨g, cap, e⟩
    have he := fun (w : World) => Lib.run_eql_slice_nil (P := Try.prog) w 87 93 (some ⟨b, 0, none⟩) l.length cap 0 0 Try.underlying87
    have hcells : ∀ j u, inner[j]? = some u → (w.alloc (.cells #[] 93)).cell? ((⟨b, 0, none⟩ : Addr).add j) = some u := fun j u hu => alloc_cell (ho.cells (g := b) rfl j u hu)
    have hone : ∀ u ∈ inner, u.oneCell' = true := by
      intro u hu
      obtain ⟨j, hj, hju⟩ := List.getElem_of_mem hu
      have hjl : j / 2 < l.length := by omega
      obtain ⟨A, c, hcs, _⟩ := hr.2 (j / 2) _ (List.getElem?_eq_getElem hjl)
      have h2 : ((inner.drop (j / 2 * 2)).take 2)[j % 2]? = some u := by
        rw [List.getElem?_take_of_lt (by omega), List.getElem?_drop, show j / 2 * 2 + j % 2 = j by omega, List.getElem?_eq_getElem hj, hju]
      rw [hcs] at h2
      rcases (show j % 2 = 0 ∨ j % 2 = 1 by omega) with e | e
      · rw [e] at h2; simp at h2; subst h2; rfl
      · rw [e] at h2; simp at h2; subst h2; rfl
    have HL := World.ownsRow_lit (base := w.heap.size) (e := 93) (size := 2) w #[] 0 (Nat.le_refl _) (by simp [maxLen]) (by simp)
    have HLA := Aside0.mk HL
    have HCE := Aside0.mk hcells
    have HON := Aside0.mk hone
    have HIL := Aside0.mk hil
    have HN := Aside0.mk hn
    have HR := Aside0.mk hr
    clear ho hr hv hil hn hcells hone HL
    go_enter Try.func63, Try.ntmps63
    go_wp2_with (at_builtin; go_loud (refine wpList_append_own _ rfl (.tmp 5) (.tmp 6) 87 rfl w.heap.size 93 i0 _ 2 32 Try.underlying87 hi0 hz0 hz1 hz2 rfl (by decide) (.slice (some ⟨w.heap.size, 0, none⟩) 0 0) 0 [] rfl HLA.out ⟨b, 0, none⟩ l.length cap inner rfl HIL.out HCE.out HON.out (by have := HN.out; simp only [maxLen]; omega) (by have := HN.out; omega) (by simp) ?_; intro v' w' hown' hgrow _; have HOWN := Aside0.mk hown'; have HG := Aside0.mk hgrow; clear hown' hgrow))
    go_ret
    have hlow : Below w.heap.size w w' := (below_alloc (Below.refl _ _) (.cells #[] 93)).grown HG.out (by simp) (fun k hk => by simp [Value.ownBlock] at hk; omega)
    refine ⟨v', rfl, ⟨inner, by simpa using HOWN.out, HR.out.imp_ (fun x cs hx => hx.step (fun k _ hlt => hlow.block k hlt) (fun _ h _ => h))⟩, hlow⟩

section
variable {w : World} {base : Nat} {pr sh : Nat → Prop} {g : Nat} {v0 v1 : Value} {D : Dk}
set_option maxRecDepth 100000 in
set_option maxHeartbeats 2000000 in
theorem Clone_calls (h : IsDisk w base pr sh g D) (hok : D.Ok) (hb : base ≤ w.heap.size) (hlim : D.dur.length ≤ 140737488355328) :
    Calls Try.prog 32 #[.pointer (some ⟨g, 0, none⟩)] w fun e w' => ∃ g' pr', e = .returned (.pointer (some ⟨g', 0, none⟩)) ∧ IsDisk w' base pr' sh g' D ∧ (∀ k, pr' k → w.heap.size ≤ k) ∧ Below w.heap.size w w' := by
  obtain ⟨v0, v1, h⟩ := h
  obtain ⟨c0, c1, c2, c3, f0, f1, f2, f3⟩ := h.cells
  obtain ⟨A0, cp0, rfl, hcp0, hC0⟩ := h.v0_form
  have H := Aside0.mk h
  have HOK := Aside0.mk hok
  have HL := Aside0.mk hlim
  have HBB := Aside0.mk hb
  have HC0 := Aside0.mk hC0
  clear h hok hb hlim hC0 f0 f1 f2 f3
  go_enter Try.func32, Try.ntmps32
  go_wp2_with fail
  refine start_ (n := 21) (S := fun w' => w'.cell? ⟨g, 0, none⟩ = some (.slice A0 D.dur.length cp0) ∧ w'.cell? ⟨g, 1, none⟩ = some v1 ∧ w'.cell? ⟨g, 2, none⟩ = some (.int .i64 D.cnt) ∧ w'.cell? ⟨g, 3, none⟩ = some (.bool D.failed)) (ds := []) #[false, false, false, false, false, false, false, false, false, false, false, false, false, false, false, false, false, false, false, false, false] (by kernel_rfl) rfl rfl ⟨c0, c1, c2, c3⟩ (fun hHeld => ?_)
  refine pure_ (i := 0) (N := some 3) (v := ?_) (a' := ?_) #[true, false, false, false, false, false, false, false, false, false, false, false, false, false, false, false, false, false, false, false, false] rfl rfl (by kernel_rfl) (fun _ _ _ h => h) (Or.inl ⟨by rfl, ?_⟩) ?_ ?_
  rotate_left
  · intro w'
    go_simp
    with_reducible rfl
  rotate_left
  · simp only [Act.put, List.setIfInBounds_toArray, List.set_cons_zero, List.set_cons_succ, i64_w, i32_w]
    rfl
  refine pure_ (i := 1) (N := some 4) (v := ?_) (a' := ?_) #[true, true, false, false, false, false, false, false, false, false, false, false, false, false, false, false, false, false, false, false, false] rfl rfl (by kernel_rfl) (fun _ _ _ h => h) (Or.inl ⟨by rfl, ?_⟩) ?_ ?_
  rotate_left
  · intro w'
    go_simp
    with_reducible rfl
  rotate_left
  · simp only [Act.put, List.setIfInBounds_toArray, List.set_cons_zero, List.set_cons_succ, i64_w, i32_w]
    rfl
  refine pure_ (i := 2) (N := some 5) (v := ?_) (a' := ?_) #[true, true, true, false, false, false, false, false, false, false, false, false, false, false, false, false, false, false, false, false, false] rfl rfl (by kernel_rfl) (fun _ _ _ h => h) (Or.inl ⟨by rfl, ?_⟩) ?_ ?_
  rotate_left
  · intro w'
    go_simp
    with_reducible rfl
  rotate_left
  · simp only [Act.put, List.setIfInBounds_toArray, List.set_cons_zero, List.set_cons_succ, i64_w, i32_w]
    rfl
  refine take_ (i := 3) (N := some 6) (v := ?_) (a' := ?_) #[true, true, true, true, false, false, false, false, false, false, false, false, false, false, false, false, false, false, false, false, false] rfl rfl (by kernel_rfl) (fun _ _ _ h => h) (Or.inl ⟨by rfl, ?_⟩) hHeld ?_ ?_
  rotate_left
  · rintro w' ⟨s0, s1, s2, s3⟩
    go_simp
    with_reducible rfl
  rotate_left
  · simp only [Act.put, List.setIfInBounds_toArray, List.set_cons_zero, List.set_cons_succ, i64_w, i32_w]
    rfl
  refine pure_ (i := 5) (N := some 8) (v := ?_) (a' := ?_) #[true, true, true, true, false, true, false, false, false, false, false, false, false, false, false, false, false, false, false, false, false] rfl rfl (by kernel_rfl) (fun _ _ _ h => h) (Or.inl ⟨by rfl, ?_⟩) ?_ ?_
  rotate_left
  · intro w'
    go_simp
    with_reducible rfl
  rotate_left
  · simp only [Act.put, List.setIfInBounds_toArray, List.set_cons_zero, List.set_cons_succ, i64_w, i32_w]
    rfl
  refine pure_ (i := 6) (N := some 9) (v := ?_) (a' := ?_) #[true, true, true, true, false, true, true, false, false, false, false, false, false, false, false, false, false, false, false, false, false] rfl rfl (by kernel_rfl) (fun _ _ _ h => h) (Or.inl ⟨by rfl, ?_⟩) ?_ ?_
  rotate_left
  · intro w'
    go_simp
    with_reducible rfl
  rotate_left
  · simp only [Act.put, List.setIfInBounds_toArray, List.set_cons_zero, List.set_cons_succ, i64_w, i32_w]
    rfl
  refine pure_ (i := 7) (N := some 10) (v := ?_) (a' := ?_) #[true, true, true, true, false, true, true, true, false, false, false, false, false, false, false, false, false, false, false, false, false] rfl rfl (by kernel_rfl) (fun _ _ _ h => h) (Or.inl ⟨by rfl, ?_⟩) ?_ ?_
  rotate_left
  · intro w'
    go_simp
    with_reducible rfl
  rotate_left
  · simp only [Act.put, List.setIfInBounds_toArray, List.set_cons_zero, List.set_cons_succ, i64_w, i32_w]
    rfl
  refine take_ (i := 8) (N := some 11) (v := ?_) (a' := ?_) #[true, true, true, true, false, true, true, true, true, false, false, false, false, false, false, false, false, false, false, false, false] rfl rfl (by kernel_rfl) (fun _ _ _ h => h) (Or.inl ⟨by rfl, ?_⟩) hHeld ?_ ?_
  rotate_left
  · rintro w' ⟨s0, s1, s2, s3⟩
    go_simp
    with_reducible rfl
  rotate_left
  · simp only [Act.put, List.setIfInBounds_toArray, List.set_cons_zero, List.set_cons_succ, i64_w, i32_w]
    rfl
  refine pure_ (i := 10) (N := some 13) (v := ?_) (a' := ?_) #[true, true, true, true, false, true, true, true, true, false, true, false, false, false, false, false, false, false, false, false, false] rfl rfl (by kernel_rfl) (fun _ _ _ h => h) (Or.inl ⟨by rfl, ?_⟩) ?_ ?_
  rotate_left
  · intro w'
    go_simp
    with_reducible rfl
  rotate_left
  · simp only [Act.put, List.setIfInBounds_toArray, List.set_cons_zero, List.set_cons_succ, i64_w, i32_w]
    rfl
  refine pure_ (i := 11) (N := some 14) (v := ?_) (a' := ?_) #[true, true, true, true, false, true, true, true, true, false, true, true, false, false, false, false, false, false, false, false, false] rfl rfl (by kernel_rfl) (fun _ _ _ h => h) (Or.inl ⟨by rfl, ?_⟩) ?_ ?_
  rotate_left
  · intro w'
    go_simp
    with_reducible rfl
  rotate_left
  · simp only [Act.put, List.setIfInBounds_toArray, List.set_cons_zero, List.set_cons_succ, i64_w, i32_w]
    rfl
  refine pure_ (i := 12) (N := some 15) (v := ?_) (a' := ?_) #[true, true, true, true, false, true, true, true, true, false, true, true, true, false, false, false, false, false, false, false, false] rfl rfl (by kernel_rfl) (fun _ _ _ h => h) (Or.inl ⟨by rfl, ?_⟩) ?_ ?_
  rotate_left
  · intro w'
    go_simp
    with_reducible rfl
  rotate_left
  · simp only [Act.put, List.setIfInBounds_toArray, List.set_cons_zero, List.set_cons_succ, i64_w, i32_w]
    rfl
  refine take_ (i := 13) (N := some 16) (v := ?_) (a' := ?_) #[true, true, true, true, false, true, true, true, true, false, true, true, true, true, false, false, false, false, false, false, false] rfl rfl (by kernel_rfl) (fun _ _ _ h => h) (Or.inl ⟨by rfl, ?_⟩) hHeld ?_ ?_
  rotate_left
  · rintro w' ⟨s0, s1, s2, s3⟩
    go_simp
    with_reducible rfl
  rotate_left
  · simp only [Act.put, List.setIfInBounds_toArray, List.set_cons_zero, List.set_cons_succ, i64_w, i32_w]
    rfl
  refine pure_ (i := 14) (N := some 17) (v := ?_) (a' := ?_) #[true, true, true, true, false, true, true, true, true, false, true, true, true, true, true, false, false, false, false, false, false] rfl rfl (by kernel_rfl) (fun _ _ _ h => h) (Or.inl ⟨by rfl, ?_⟩) ?_ ?_
  rotate_left
  · intro w'
    go_simp
    with_reducible rfl
  rotate_left
  · simp only [Act.put, List.setIfInBounds_toArray, List.set_cons_zero, List.set_cons_succ, i64_w, i32_w]
    rfl
  refine pure_ (i := 15) (N := some 18) (v := ?_) (a' := ?_) #[true, true, true, true, false, true, true, true, true, false, true, true, true, true, true, true, false, false, false, false, false] rfl rfl (by kernel_rfl) (fun _ _ _ h => h) (Or.inl ⟨by rfl, ?_⟩) ?_ ?_
  rotate_left
  · intro w'
    go_simp
    with_reducible rfl
  rotate_left
  · simp only [Act.put, List.setIfInBounds_toArray, List.set_cons_zero, List.set_cons_succ, i64_w, i32_w]
    rfl
  refine pure_ (i := 16) (N := some 19) (v := ?_) (a' := ?_) #[true, true, true, true, false, true, true, true, true, false, true, true, true, true, true, true, true, false, false, false, false] rfl rfl (by kernel_rfl) (fun _ _ _ h => h) (Or.inl ⟨by rfl, ?_⟩) ?_ ?_
  rotate_left
  · intro w'
    go_simp
    with_reducible rfl
  rotate_left
  · simp only [Act.put, List.setIfInBounds_toArray, List.set_cons_zero, List.set_cons_succ, i64_w, i32_w]
    rfl
  refine take_ (i := 17) (N := some 20) (v := ?_) (a' := ?_) #[true, true, true, true, false, true, true, true, true, false, true, true, true, true, true, true, true, true, false, false, false] rfl rfl (by kernel_rfl) (fun _ _ _ h => h) (Or.inl ⟨by rfl, ?_⟩) hHeld ?_ ?_
  rotate_left
  · rintro w' ⟨s0, s1, s2, s3⟩
    go_simp
    with_reducible rfl
  rotate_left
  · simp only [Act.put, List.setIfInBounds_toArray, List.set_cons_zero, List.set_cons_succ, i64_w, i32_w]
    rfl
  refine one_ (i := 4) (N := some 7) #[true, true, true, true, true, true, true, true, true, false, true, true, true, true, true, true, true, true, false, false, false] rfl rfl (by kernel_rfl) (by decide) (fun K hK => ?_)
  refine goes_ Try.func55 (by kernel_rfl) rfl #[.slice A0 D.dur.length cp0] (by rfl) rfl rfl (by (try simp only [List.map_toArray, List.map_cons, List.map_nil]); first | done | rfl) ?_
  refine (bytesClone_calls A0 cp0 D.dur _ (Kd.C_drew HC0.out) hcp0 HL.out).mono ?_
  rintro e w1 ⟨vd, rfl, ho, hb1⟩
  refine ⟨_, rfl, ?_⟩
  have HB1 := Aside0.mk (show Below w.heap.size w w1 from ⟨hb1.os, hb1.tape, hb1.output, hb1.size, hb1.block⟩)
  have HO1 := Aside0.mk (show Kd.R (Kd.int .u8) 5 w1 w.heap.size (fun _ => True) vd D.dur from ho)
  clear ho hb1
  obtain ⟨Ad, cd, ed⟩ := Kd.R_slice HO1.out
  subst ed
  obtain ⟨k0, k1, k2, k3, _⟩ := (H.out.below HB1.out).cells
  refine hK.out _ _ ⟨k0, k1, k2, k3⟩ (fun hHeld => ?_)
  clear hK K
  refine norm_ (a' := ?_) ?_ ?_
  rotate_left
  · show Act.put _ (some 7) _ = _
    simp only [Act.put, List.setIfInBounds_toArray, List.set_cons_zero, List.set_cons_succ, i64_w, i32_w]
    rfl
  refine one_ (i := 9) (N := some 12) #[true, true, true, true, true, true, true, true, true, true, true, true, true, true, true, true, true, true, false, false, false] rfl rfl (by kernel_rfl) (by decide) (fun K hK => ?_)
  refine goes_ Try.func63 (by kernel_rfl) rfl #[v1] (by rfl) rfl rfl (by (try simp only [List.map_toArray, List.map_cons, List.map_nil]); first | done | rfl) ?_
  refine (wrClone_calls (H.out.below HB1.out).pend HOK.out.few).mono ?_
  rintro e w2 ⟨vp, rfl, ho, hb2⟩
  refine ⟨_, rfl, ?_⟩
  have HB2 := Aside0.mk hb2
  have HO2 := Aside0.mk ho
  clear ho hb2
  obtain ⟨Ap, cp, ep, _⟩ := OwnRow.slice_ HO2.out
  subst ep
  obtain ⟨m0, m1, m2, m3, _⟩ := ((H.out.below HB1.out).below HB2.out).cells
  refine hK.out _ _ ⟨m0, m1, m2, m3⟩ (fun hHeld => ?_)
  clear hK K
  refine norm_ (a' := ?_) ?_ ?_
  rotate_left
  · show Act.put _ (some 12) _ = _
    simp only [Act.put, List.setIfInBounds_toArray, List.set_cons_zero, List.set_cons_succ, i64_w, i32_w]
    rfl
  refine pure_ (i := 18) (N := some 21) (v := ?_) (a' := ?_) #[true, true, true, true, true, true, true, true, true, true, true, true, true, true, true, true, true, true, true, false, false] rfl rfl (by kernel_rfl) (fun _ _ _ h => h) (Or.inl ⟨by rfl, ?_⟩) ?_ ?_
  rotate_left
  · intro w'
    go_simp
    with_reducible rfl
  rotate_left
  · simp only [Act.put, List.setIfInBounds_toArray, List.set_cons_zero, List.set_cons_succ, i64_w, i32_w]
    rfl
  refine one_ (i := 19) (N := some 22) #[true, true, true, true, true, true, true, true, true, true, true, true, true, true, true, true, true, true, true, true, false] rfl rfl (by kernel_rfl) (by decide) (fun K hK => ?_)
  refine value_ (w1 := w2.alloc (.cells #[.slice Ad D.dur.length cd, .slice Ap D.pend.length cp, .int .i64 D.cnt, .bool D.failed] 89)) (v := .pointer (some ⟨w2.heap.size, 0, none⟩)) (by rfl) rfl (by go_simp; try rfl) ?_
  refine hK.out _ _ ⟨alloc_cell m0, alloc_cell m1, alloc_cell m2, alloc_cell m3⟩ (fun hHeld => ?_)
  clear hK K
  refine norm_ (a' := ?_) ?_ ?_
  rotate_left
  · show Act.put _ (some 22) _ = _
    simp only [Act.put, List.setIfInBounds_toArray, List.set_cons_zero, List.set_cons_succ, i64_w, i32_w]
    rfl
  refine pure_ (i := 20) (N := some 2) (v := ?_) (a' := ?_) #[true, true, true, true, true, true, true, true, true, true, true, true, true, true, true, true, true, true, true, true, true] rfl rfl (by kernel_rfl) (fun _ _ _ h => h) (Or.inl ⟨by rfl, ?_⟩) ?_ ?_
  rotate_left
  · intro w'
    go_simp
    with_reducible rfl
  rotate_left
  · simp only [Act.put, List.setIfInBounds_toArray, List.set_cons_zero, List.set_cons_succ, i64_w, i32_w]
    rfl
  refine done_ (by kernel_rfl) ?_
  go_wp2
  go_ret
  have hb1 := HB1.out
  have hb2 := HB2.out
  have hs1 := hb1.size
  have hs2 := hb2.size
  have hlow : Below w.heap.size w w2 := hb1.trans ⟨hb2.os, hb2.tape, hb2.output, hb2.size, fun k hk => hb2.block k (by omega)⟩
  have hlow3 : Below w.heap.size w (w2.alloc (.cells #[.slice Ad D.dur.length cd, .slice Ap D.pend.length cp, .int .i64 D.cnt, .bool D.failed] 89)) := hlow.alloc (by omega) _
  refine ⟨w2.heap.size, fun k => k = w2.heap.size ∨ (Value.slice Ad D.dur.length cd).ownBlock = some k ∨ (Value.slice Ap D.pend.length cp).ownBlock = some k, rfl, ⟨.slice Ad D.dur.length cd, .slice Ap D.pend.length cp, ?_⟩, ?_, hlow3⟩
  · exact {
      cell := heap_alloc_new _ _
      hbase := by have := HBB.out; omega
      gpr := .inl rfl
      dur := Kd.R_alloc (Kd.R_mono (Kd.R_lower (Kd.R_below (R_own_ok HO1.out) hb2) HBB.out) (fun k hk => .inr (.inl hk))) _
      pb := fun k hk => .inr (.inr hk)
      pend := by
        obtain ⟨inner, ho, hr⟩ := HO2.out
        exact ⟨inner, (pw_own_below (own_weaken ho (by have := HBB.out; omega)) (below_alloc (Below.refl _ _) _)), hr.imp_ (fun x cs hx => hx.step (fun k _ hlt => (below_alloc (Below.refl _ _) _ : Below w2.heap.size w2 (w2.alloc _)).block k hlt) (fun _ h _ => h))⟩
      sep := fun k hk => by
        have h1 := H.out.slt k hk
        rintro (rfl | h2 | h2)
        · omega
        · have := Kd.R_base HO1.out k h2; omega
        · obtain ⟨inner, ho, hr⟩ := HO2.out
          have := own_base ho k h2; omega
      plt := fun k hk => by
        simp only [World.size_alloc]
        rcases hk with rfl | h2 | h2
        · omega
        · have := Kd.R_lt HO1.out k h2; omega
        · obtain ⟨inner, ho, hr⟩ := HO2.out
          have := own_lt ho k h2; omega
      slt := fun k hk => by simp only [World.size_alloc]; have := H.out.slt k hk; omega }
  · rintro k (rfl | h2 | h2)
    · omega
    · exact Kd.R_base HO1.out k h2
    · obtain ⟨inner, ho, hr⟩ := HO2.out
      have := own_base ho k h2; omega
end
end Go.Proofs.Ytbbokpkpdnppjaa
