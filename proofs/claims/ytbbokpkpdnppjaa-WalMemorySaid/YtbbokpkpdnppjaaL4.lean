/- The log's frames. -/
import Derived.Test.YtbbokpkpdnppjaaL3
namespace Go.Proofs.Ytbbokpkpdnppjaa
open Go.RowKit Go.Proofs.YtbbokpkpdnppjaaW.PrintWords Go.Proofs.YtbbokpkpdnppjaaW.PrintLast Go.Proofs.YtbbokpkpdnppjaaW.PrintMore
set_option linter.unusedVariables false
set_option linter.unusedSimpArgs false

set_option maxRecDepth 100000 in
set_option maxHeartbeats 8000000 in
theorem Frame_calls (lsn : Int) (A : Option Addr) (c : Nat) (data : List Int) (w : World) (hC : Kd.C (Kd.int .u8) w A data.length data) (hc : data.length ≤ c) (hl : data.length ≤ 140737488355312) :
    Calls Try.prog 34 #[.int .i64 lsn, .slice A data.length c] w fun e w' => ∃ v, e = .returned v ∧ Kd.R (Kd.int .u8) 5 w' w.heap.size (fun k => w.heap.size ≤ k) v (frame lsn data) ∧ Below w.heap.size w w' := by
  have HC := Aside0.mk hC
  clear hC
  go_enter Try.func34, Try.ntmps34
  go_wp2_with fail
  refine (put_calls (.slice none 0 0) [] (data.length : Int) 4 w w (Below.refl _ _) (Kd.R_nil _ _ _ _ _) (by omega) (by simp)).mono ?_
  rintro e w1 ⟨v, rfl, hr, hb⟩
  rw [List.nil_append] at hr
  have HR := Aside0.mk hr
  have HB := Aside0.mk hb
  clear hr hb
  go_wp2_with fail
  refine (put_calls _ _ (IntKind.u64.wrap lsn) 8 w w1 HB.out HR.out (by omega) (by simp [beBytes_length])).mono ?_
  rintro e w2 ⟨v2, rfl, hr, hb⟩
  replace hr : Kd.R (Kd.int .u8) 5 w2 w.heap.size (fun k => w.heap.size ≤ k) v2 (fhead lsn data) := hr
  have hlen := fhead_length lsn data
  have hfr : ∀ H, H = fhead lsn data → frame lsn data = (H ++ beBytes (IntKind.u64.wrap (crc (H ++ data))) 4) ++ data := fun H e => by subst e; rfl
  have FR := Aside0.mk hfr
  clear hfr
  generalize hH : fhead lsn data = H at hr hlen
  obtain ⟨A2, c2, rfl⟩ := Kd.R_slice hr
  have HR2 := Aside0.mk hr
  have HB2 := Aside0.mk hb
  have HH := Aside0.mk hH
  have HLEN := Aside0.mk hlen
  clear hr hb hH hlen HR HB
  go_wp2_with fail
  have hal : Below w2.heap.size w2 (w2.alloc (.cells #[.slice A2 H.length c2, .slice A data.length c] 29)) := below_alloc (Below.refl _ _) _
  have hx3 : (w2.alloc (.cells #[.slice A2 H.length c2, .slice A data.length c] 29)).heap[w2.heap.size]? = some (.cells #[.slice A2 H.length c2, .slice A data.length c] 29 (0, 0)) := heap_alloc_new w2 _
  generalize (w2.alloc (.cells #[.slice A2 H.length c2, .slice A data.length c] 29)) = w3 at hal hx3 ⊢
  have HB3 := Aside0.mk (below_step HB2.out hal)
  have HR3 := Aside0.mk (Kd.R_below HR2.out hal)
  refine (Concat_calls w2.heap.size A2 c2 H A c data w3 ((blk_cell hx3 0).trans rfl) ((blk_cell hx3 1).trans rfl) (Kd.R_reads' HR3.out).2.2 (Kd.C_below HC.out HB3.out) (by have := HLEN.out; omega)).mono ?_
  clear hal hx3
  rintro e w4 ⟨v4, rfl, hr, hb⟩
  obtain ⟨A4, c4, rfl⟩ := Kd.R_slice hr
  have HR4 := Aside0.mk hr
  have HB4 := Aside0.mk (below_step HB3.out hb)
  have HRH4 := Aside0.mk (Kd.R_below HR3.out hb)
  clear hr hb HR2 HB2 HR3 HB3
  generalize hcat : H ++ data = CC at HR4 ⊢
  have HCAT := Aside0.mk hcat
  clear hcat
  go_wp2_with fail
  refine (Checksum_calls A4 c4 CC w4 (Kd.R_reads' HR4.out).2.2 (Kd.R_reads' HR4.out).2.1).mono ?_
  rintro e w5 ⟨rfl, rfl⟩
  go_wp2_with fail
  refine (put_calls _ _ (IntKind.u64.wrap (crc CC)) 4 w w4 HB4.out HRH4.out (by omega) (by have := HLEN.out; omega)).mono ?_
  rintro e w6 ⟨v6, rfl, hr, hb⟩
  obtain ⟨A6, c6, rfl⟩ := Kd.R_slice hr
  have h6 : (H ++ beBytes (IntKind.u64.wrap (crc CC)) 4).length = 16 := by rw [List.length_append, HLEN.out, beBytes_length]
  rw [h6] at hr ⊢
  generalize hH6 : H ++ beBytes (IntKind.u64.wrap (crc CC)) 4 = H6 at hr h6
  have HR6 := Aside0.mk hr
  have HB6 := Aside0.mk hb
  have HH6 := Aside0.mk hH6
  clear hr hb hH6 HR4 HB4 HRH4
  go_wp2_with ((with_reducible refine gate_builtin (b := .append) (xs := #[.tmp 22, .tmp 23]) rfl ?_); at_builtin; refine Kd.R_append_rows (Kd.int .u8) (w0 := w) w.heap.size rfl (.tmp 22) (.tmp 23) 29 5 (.int .u8 0) 1 rfl Try.underlying29 info5 rfl (by decide) (by omega) (.slice A6 16 c6) H6 data A data.length c (fun k => w.heap.size ≤ k) (fun _ => False) rfl rfl HR6.out (Kd.C_below HC.out HB6.out) (fun _ _ h => h) (fun _ h => h.elim) (fun k hk => Nat.le_trans HB6.out.size hk) HB6.out HB6.out.size (by rw [h6]; omega) ?_; intro v7 w7 ho7 hb7 _ _; have HO7 := Aside0.mk ho7; have HB7 := Aside0.mk hb7; clear ho7 hb7)
  go_ret
  refine ⟨_, rfl, ?_, HB7.out⟩
  rw [FR.out H HH.out.symm, HCAT.out, HH6.out]
  exact HO7.out
end Go.Proofs.Ytbbokpkpdnppjaa
