/- The disk's Read. -/
import Derived.Test.YtbbokpkpdnppjaaU0
import Derived.Test.YtbbokpkpdnppjaaUA
import Derived.Test.YtbbokpkpdnppjaaA7
namespace Go.Proofs.Ytbbokpkpdnppjaa
open Go.RowKit Go.Proofs.YtbbokpkpdnppjaaW.PrintWords Go.Proofs.YtbbokpkpdnppjaaW.PrintLast Go.Proofs.YtbbokpkpdnppjaaW.PrintMore
attribute [local go_sem] max2_int min2_int max_two min_two
set_option linter.unusedVariables false
set_option linter.unusedSimpArgs false
def Dk.now (D : Dk) : List Int := layAll D.dur D.pend
def Dk.read (D : Dk) (at_ n : Int) : List Int × Int :=
 if D.failed then ([], 11) else if insd D.dur.length at_ n = false then ([], 2) else ((D.now.drop at_.toNat).take n.toNat, 0)
theorem C_src' {k : IntKind} {w : World} {A : Option Addr} {n : Nat} {l : List Int} (h : Kd.C (Kd.int k) w A n l) (h0 : 0 < (nums k l).length) :
  ∃ ad, A = some ad ∧ ∀ j v, (nums k l)[j]? = some v → w.cell? (ad.add j) = some v := by
 have := C_src h l.length (Nat.le_refl _) (by rwa [List.take_length])
 rwa [List.take_length] at this
theorem bytesClone_at (A : Option Addr) (c n : Nat) (l : List Int) (w : World) (hn : l.length = n) (hr : Kd.C (Kd.int .u8) w A n l) (hc : n ≤ c) (hlim : n ≤ 140737488355328) :
  Calls Try.prog 55 #[.slice A n c] w fun e w' => ∃ v0_ : Value, e = .returned v0_ ∧ Kd.R (Kd.int .u8) 5 w' w.heap.size (fun _ => True) v0_ l ∧ Below w.heap.size w w' := by
 subst hn
 exact bytesClone_calls A c l w hr hc hlim
theorem C_cut {k : IntKind} {w : World} {A : Option Addr} {n : Nat} {l : List Int} (h : Kd.C (Kd.int k) w A n l) (p q : Nat) (hp : p ≤ q) (hq : q ≤ n) (A1 : Option Addr) (hA : p < q → A1 = A.map (·.add p)) :
  Kd.C (Kd.int k) w A1 (q - p) ((l.take q).drop p) := by
 have hl : l.length = n := h.1
 have hm := h.2.1
 refine ⟨by simp; omega, by omega, fun h0 => ?_⟩
 obtain ⟨ad, rfl, hc⟩ := h.2.2 (by omega)
 refine ⟨ad.add p, by rw [hA (by omega)]; rfl, fun j x hj => ?_⟩
 rw [List.getElem?_drop] at hj
 have hlt : p + j < q := by have := (List.getElem?_eq_some_iff.1 hj).1; simp at this; omega
 rw [List.getElem?_take_of_lt hlt] at hj
 obtain ⟨c, hc1, hc2, hc3⟩ := hc _ _ hj
 refine ⟨c, hc1, hc2, fun i u hu => ?_⟩
 rw [add_add]
 have := hc3 i u hu
 rwa [show p + (j * (Kd.int k).sz + i) = (p + j) * (Kd.int k).sz + i by show p + (j * 1 + i) = (p + j) * 1 + i; omega]
theorem cut_mid (A : Option Addr) (n c p q : Nat) (hpq : p ≤ q) (hqc : q ≤ c) (q' : Int) (hq' : (q : Int) = q') :
  ∃ A', (∀ W : World, (Instr.slice 29 (.slice A n c) (some (.int .i64 (p : Int))) (some (.int .i64 q')) none).run Try.prog W = .ok (.slice A' (q - p) (c - p)) W) ∧ (p < c → A' = A.map (·.add p)) := by
 subst hq'
 refine ⟨if c = p then A else A.map (·.add p), fun W => ?_, fun h => if_neg (by omega)⟩
 obtain ⟨i, hi, hz⟩ := Option.map_eq_some_iff.1 info5
 simp only [Prod.mk.injEq] at hz
 have hel : Try.prog.elem 29 = 5 := by simp [Program.elem, Try.underlying29]
 have hu : Try.prog.underlying 29 = some (.slice (Try.prog.elem 29)) := by rw [hel]; exact Try.underlying29
 rw [run_slice_lh W 29 A n c hu .i64 .i64 (p : Int) (q : Int) (by omega) (by omega) (by omega), hel]
 simp [sizeOf, typeInfo, hi, hz.2.1, sliced, Result.andThen]
theorem cut_from (A : Option Addr) (n c p : Nat) (hp : p ≤ n) (hc : n ≤ c) :
  ∃ A', (∀ W : World, (Instr.slice 29 (.slice A n c) (some (.int .i64 (p : Int))) none none).run Try.prog W = .ok (.slice A' (n - p) (c - p)) W) ∧ (p < c → A' = A.map (·.add p)) := by
 refine ⟨if c = p then A else A.map (·.add p), fun W => ?_, fun h => if_neg (by omega)⟩
 obtain ⟨i, hi, hz⟩ := Option.map_eq_some_iff.1 info5
 simp only [Prod.mk.injEq] at hz
 have hel : Try.prog.elem 29 = 5 := by simp [Program.elem, Try.underlying29]
 have hu : Try.prog.underlying 29 = some (.slice (Try.prog.elem 29)) := by rw [hel]; exact Try.underlying29
 rw [run_slice_l W 29 A n c hu .i64 (p : Int) (by omega) (by omega), hel]
 simp [sizeOf, typeInfo, hi, hz.2.1, sliced, Result.andThen]
section
variable {w : World} {base : Nat} {pr sh : Nat → Prop} {g : Nat} {v0 v1 : Value} {D : Dk}
theorem Read_bad (at_ n : Int) (h : IsDisk w base pr sh g D) (hb : D.failed = true ∨ insd D.dur.length at_ n = false) :
  Calls Try.prog 18 #[.pointer (some ⟨g, 0, none⟩), .int .i64 at_, .int .i64 n] w fun e w' => e = .returned (.tuple #[.slice none 0 0, .int .i64 (D.read at_ n).2]) ∧ w = w' := by
 have hI := AM (inside_calls at_ n h)
 obtain ⟨v0, v1, h⟩ := h
 obtain ⟨c0, c1, c2, c3, f0, f1, f2, f3⟩ := h.cells
 clear h
 cases hf : D.failed with
 | true =>
  rw [hf] at c3
  have HF := AM hf
  clear hf hb
  go_enter Try.func18, Try.ntmps18
  go_wp2
  go_ret2
  exact ⟨by simp [Dk.read, HF.out], rfl⟩
 | false =>
  rw [hf] at c3
  have hi : insd D.dur.length at_ n = false := by rcases hb with h | h; rw [hf] at h; cases h; exact h
  have HF := AM hf
  have HI := AM hi
  rw [hi] at hI
  clear hf hb hi
  go_enter Try.func18, Try.ntmps18
  go_wp2_with (first | (go_at_call 54; refine hI.out.mono ?_; rintro e w' ⟨rfl, rfl⟩))
  go_ret2
  exact ⟨by simp [Dk.read, HF.out, HI.out], rfl⟩
set_option maxRecDepth 100000 in
set_option maxHeartbeats 4000000 in
theorem Read_good (a m : Nat) (h : IsDisk w base pr sh g D) (hok : D.Ok) (hf : D.failed = false) (ham : a + m ≤ D.dur.length) (hlim : D.dur.length ≤ 140737488355328) :
  Calls Try.prog 18 #[.pointer (some ⟨g, 0, none⟩), .int .i64 (a : Int), .int .i64 (m : Int)] w fun e w' => ∃ v, e = .returned (.tuple #[v, .int .i64 0]) ∧ Kd.R (Kd.int .u8) 5 w' w.heap.size (fun _ => True) v ((D.now.drop a).take m) ∧ Below w.heap.size w w' := by
 have hI := inside_calls (a : Int) (m : Int) h
 have hi : insd D.dur.length (a : Int) (m : Int) = true := by simp [insd]; omega
 rw [hi] at hI
 have HI := AM hI
 clear hI hi
 obtain ⟨v0, v1, h⟩ := h
 obtain ⟨c0, c1, c2, c3, f0, f1, f2, f3⟩ := h.cells
 rw [hf] at c3
 obtain ⟨A1, cp1, rfl, hcp1⟩ := h.v1_form
 have hpos := hok.pos
 have hlen := h.len
 obtain ⟨_, _, hv0, _, hC0⟩ := h.v0_form
 obtain ⟨b, cap, cur, rfl, hblk, hcur, hncap, hcapm, htake, hbb⟩ := R_open h.dur hpos
 injection hv0 with hA hl hcc
 subst hA; subst hcc
 have H := AM h
 have HOK := AM hok
 have HL := AM hlim
 have hn := hok.few
 obtain ⟨A0, hcut0, hA0⟩ := cut_mid (some ⟨b, 0, none⟩) D.dur.length cap a (a + m) (by omega) (by omega) ((a : Int) + (m : Int)) (by omega)
 rw [show a + m - a = m by omega] at hcut0
 have HC0 := AM (C_cut hC0 a (a + m) (by omega) (by omega) A0 (fun h => hA0 (by omega)))
 rw [show a + m - a = m by omega] at HC0
 clear hA0
 have s1 : (0 : Int) ≤ (a : Int) := by omega
 have s2 : (a : Int) ≤ (a : Int) + (m : Int) := by omega
 have s3 : (a : Int) + (m : Int) ≤ (cap : Int) := by omega
 have s4 : (a : Int) + (m : Int) ≤ 9223372036854775807 := by omega
 clear h hok hlim hf c0 c2 f0 f1 f2 f3 hC0 hblk hcur hcapm htake hbb
 have hc0 := H.out.cells.1
 go_enter Try.func18, Try.ntmps18
 go_wp2_with (first | (go_at_call 54; refine HI.out.mono ?_; rintro e w' ⟨rfl, rfl⟩) | (go_at_call 55; refine (bytesClone_at A0 (cap - a) m ((D.dur.take (a + m)).drop a) _ (by simp; omega) HC0.out (by omega) (by have := HL.out; omega)).mono ?_; rintro e w1 ⟨v, rfl, ho, hb⟩; have k1 := (H.out.below hb).cells.2.1; obtain ⟨Av, cv, ev⟩ : ∃ Av cv, v = .slice Av m cv := by { obtain ⟨Av, cv, e⟩ := Kd.R_slice ho; exact ⟨Av, cv, by rw [e]; congr 1; simp; omega⟩ }; subst ev; have HO := AM ho; have HB := AM hb; clear ho hb))
 go_loopw [37] (fun i wr => ∃ k : Nat, k ≤ D.pend.length ∧ i = .int .i64 (k : Int) ∧ Aside0 (Kd.R (Kd.int .u8) 5 wr w.heap.size (fun _ => True) (.slice Av m cv) (((layAll D.dur (D.pend.take k)).drop a).take m)) ∧ Aside0 (Below w.heap.size w wr)) (fun i _ => D.pend.length - (intOf i).toNat)
 case atStart => exact ⟨0, Nat.zero_le _, rfl, ⟨by have := HO.out; rw [List.take_drop]; simpa [layAll] using this⟩, HB⟩
 case round =>
  clear k1 c3 hc0 hcut0 HB HO HC0
  obtain ⟨k, hk, rfl, HR, HW⟩ := hrel
  by_cases hlt : k < D.pend.length
  ·obtain ⟨pb, pcap, A', c', e, hc0, hc1, hcl, hC⟩ := (H.out.below HW.out).elem k hlt
   injection e with e1 e2 e3
   subst e1; subst e3
   have hfit := HOK.out.fit D.pend[k] (List.getElem_mem hlt)
   have hLlen : (layAll D.dur (D.pend.take k)).length = D.dur.length := layAll_length _ _ (fun x hx => HOK.out.fit x (List.mem_of_mem_take hx))
   have htk : layAll D.dur (D.pend.take (k + 1)) = putAt (layAll D.dur (D.pend.take k)) (D.pend[k]).at_.toNat (D.pend[k]).data := by rw [List.take_succ_eq_append_getElem hlt, layAll_snoc]
   obtain ⟨⟨xa, xl⟩, hx⟩ : ∃ x, D.pend[k] = x := ⟨_, rfl⟩
   rw [hx] at hc0 hc1 hcl hC hfit htk
   simp only at hc0 hc1 hcl hC hfit htk
   obtain ⟨x, rfl⟩ := Int.eq_ofNat_of_zero_le hfit.1
   rw [Int.toNat_natCast] at htk
   obtain ⟨L, hL⟩ : ∃ L, layAll D.dur (D.pend.take k) = L := ⟨_, rfl⟩
   rw [hL] at htk hLlen HR
   obtain ⟨f, hf⟩ : ∃ f, f = max a x := ⟨_, rfl⟩
   obtain ⟨t, ht⟩ : ∃ t, t = min (a + m) (x + xl.length) := ⟨_, rfl⟩
   have hwin := win_put L xl x a m f t (by omega) (by omega) hf ht
   have hf1 : a ≤ f ∧ x ≤ f ∧ (f = a ∨ f = x) := by subst hf; rcases Nat.le_total a x with h | h <;> simp [Nat.max_eq_right, Nat.max_eq_left, h]
   have ht1 : t ≤ a + m ∧ t ≤ x + xl.length ∧ (t = a + m ∨ t = x + xl.length) := by subst ht; rcases Nat.le_total (a + m) (x + xl.length) with h | h <;> simp [Nat.min_eq_right, Nat.min_eq_left, h]
   have hmax : (if a < x then (x : Int) else (a : Int)) = (f : Int) := by subst hf; split <;> omega
   have hmin : (if (x : Int) + (xl.length : Int) < (a : Int) + (m : Int) then (x : Int) + (xl.length : Int) else (a : Int) + (m : Int)) = (t : Int) := by subst ht; omega
   have hsum1 : IntKind.i64.wrap ((a : Int) + (m : Int)) = (a : Int) + (m : Int) := IntWalk.i64_in _ (by omega)
   have hsum2 : IntKind.i64.wrap ((x : Int) + (xl.length : Int)) = (x : Int) + (xl.length : Int) := IntWalk.i64_in _ (by omega)
   have HC := AM (Kd.C_alloc hC (.cells #[.int .i64 (x : Int), .slice A' xl.length c'] 93))
   have hb0 : (wr.alloc (.cells #[.int .i64 (x : Int), .slice A' xl.length c'] 93)).cell? ⟨wr.heap.size, 0, none⟩ = some (.int .i64 (x : Int)) := (blk_cell (heap_alloc_new wr _) 0).trans rfl
   have hb1 : (wr.alloc (.cells #[.int .i64 (x : Int), .slice A' xl.length c'] 93)).cell? ⟨wr.heap.size, 1, none⟩ = some (.slice A' xl.length c') := (blk_cell (heap_alloc_new wr _) 1).trans rfl
   have HLL := AM hLlen
   have HFIT := AM hfit
   have HTK := AM htk
   have HWIN := AM hwin
   have HF1 := AM hf1
   have HT1 := AM ht1
   clear hx htk hLlen hfit hC hf ht hwin hf1 ht1
   go_wp2_with (fail)
   refine start_ (n := 16) (S := fun w' => w'.cell? ⟨wr.heap.size, 0, none⟩ = some (.int .i64 (x : Int)) ∧ w'.cell? ⟨wr.heap.size, 1, none⟩ = some (.slice A' xl.length c')) (ds := []) #[false, false, false, false, false, false, false, false, false, false, false, false, false, false, false, false] (by kernel_rfl) rfl rfl ⟨hb0, hb1⟩ (fun hHeld => ?_)
   refine pu 0 (some 41) ?_ (bt 16 1) (by kernel_rfl) ?_ ?_ ?_ ?_
   rotate_left
   ·intro w'
    go_simp
    with_reducible rfl
   rotate_left
   ·simp only [pS]
    rfl
   refine pu 1 (some 42) ?_ (bt 16 3) (by kernel_rfl) ?_ ?_ ?_ ?_
   rotate_left
   ·intro w'
    go_simp
    with_reducible rfl
   rotate_left
   ·simp only [pS]
    rfl
   refine tk 2 (some 43) ?_ (bt 16 7) (by kernel_rfl) hHeld ?_ ?_ ?_ ?_
   rotate_left
   ·rintro w' ⟨s0, s1⟩
    go_simp
    with_reducible rfl
   rotate_left
   ·simp only [pS]
    rfl
   refine pu 3 (some 44) ?_ (bt 16 15) (by kernel_rfl) ?_ ?_ ?_ ?_
   rotate_left
   ·intro w'
    go_simp
    with_reducible rfl
   rotate_left
   ·simp only [pS]
    rfl
   refine pu 4 (some 45) ?_ (bt 16 31) (by kernel_rfl) ?_ ?_ ?_ ?_
   rotate_left
   ·intro w'
    go_simp
    with_reducible rfl
   rotate_left
   ·simp only [pS]
    rfl
   refine pu 5 (some 46) ?_ (bt 16 63) (by kernel_rfl) ?_ ?_ ?_ ?_
   rotate_left
   ·intro w'
    go_simp
    with_reducible rfl
   rotate_left
   ·simp only [pS]
    rfl
   refine pu 6 (some 47) ?_ (bt 16 127) (by kernel_rfl) ?_ ?_ ?_ ?_
   rotate_left
   ·intro w'
    go_simp
    with_reducible rfl
   rotate_left
   ·simp only [pS]
    rfl
   refine pu 7 (some 48) ?_ (bt 16 255) (by kernel_rfl) ?_ ?_ ?_ ?_
   rotate_left
   ·intro w'
    go_simp
    with_reducible rfl
   rotate_left
   ·simp only [pS]
    rfl
   refine tk 8 (some 49) ?_ (bt 16 511) (by kernel_rfl) hHeld ?_ ?_ ?_ ?_
   rotate_left
   ·rintro w' ⟨s0, s1⟩
    go_simp
    with_reducible rfl
   rotate_left
   ·simp only [pS]
    rfl
   refine pu 9 (some 50) ?_ (bt 16 1023) (by kernel_rfl) ?_ ?_ ?_ ?_
   rotate_left
   ·intro w'
    go_simp
    with_reducible rfl
   rotate_left
   ·simp only [pS]
    rfl
   refine tk 10 (some 51) ?_ (bt 16 2047) (by kernel_rfl) hHeld ?_ ?_ ?_ ?_
   rotate_left
   ·rintro w' ⟨s0, s1⟩
    go_simp
    with_reducible rfl
   rotate_left
   ·simp only [pS]
    rfl
   refine pu 11 (some 52) ?_ (bt 16 4095) (by kernel_rfl) ?_ ?_ ?_ ?_
   rotate_left
   ·intro w'
    go_simp
    with_reducible rfl
   rotate_left
   ·simp only [pS]
    rfl
   refine pu 12 (some 53) ?_ (bt 16 8191) (by kernel_rfl) ?_ ?_ ?_ ?_
   rotate_left
   ·intro w'
    go_simp
    with_reducible rfl
   rotate_left
   ·simp only [pS]
    rfl
   refine pu 13 (some 54) ?_ (bt 16 16383) (by kernel_rfl) ?_ ?_ ?_ ?_
   rotate_left
   ·intro w'
    go_simp
    with_reducible rfl
   rotate_left
   ·simp only [pS]
    rfl
   refine pu 14 (some 11) ?_ (bt 16 32767) (by kernel_rfl) ?_ ?_ ?_ ?_
   rotate_left
   ·intro w'
    go_simp
    with_reducible rfl
   rotate_left
   ·simp only [pS]
    rfl
   refine pu 15 (some 12) ?_ (bt 16 65535) (by kernel_rfl) ?_ ?_ ?_ ?_
   rotate_left
   ·intro w'
    go_simp
    with_reducible rfl
   rotate_left
   ·simp only [pS]
    rfl
   refine done_ (by kernel_rfl) ?_
   clear hmax hmin hsum1 hsum2
   by_cases hft : f < t
   ·have g1 := HF1.out
    have g2 := HT1.out
    have g3 := HFIT.out
    have hml : ((L.drop a).take m).length = m := by have := HLL.out; simp; omega
    obtain ⟨o, ho⟩ : ∃ o, o = f - a := ⟨_, rfl⟩
    obtain ⟨p, hp⟩ : ∃ p, p = f - x := ⟨_, rfl⟩
    obtain ⟨q, hq⟩ : ∃ q, q = t - x := ⟨_, rfl⟩
    have hd1 : IntKind.i64.wrap ((f : Int) - (a : Int)) = (o : Int) := by rw [IntWalk.i64_in _ (by omega)]; omega
    have hd2 : IntKind.i64.wrap ((f : Int) - (x : Int)) = (p : Int) := by rw [IntWalk.i64_in _ (by omega)]; omega
    have hd3 : IntKind.i64.wrap ((t : Int) - (x : Int)) = (q : Int) := by rw [IntWalk.i64_in _ (by omega)]; omega
    obtain ⟨ob, ocap, ocur, hv, hoblk, hocur, hocap, hocm, hotake, hobb⟩ := R_open HR.out (by omega)
    have HRR := HR.out
    injection hv with hv1 hv2 hv3
    subst hv1; subst hv3
    rw [hml] at hocap hotake
    obtain ⟨A2, hcut2, hA2⟩ := cut_from (some ⟨ob, 0, none⟩) m cv o (by omega) hocap
    have hA2' : A2 = some ⟨ob, o, none⟩ := by rw [hA2 (by omega)]; simp only [Option.map_some, Addr.add_lit, Nat.zero_add]
    subst hA2'
    obtain ⟨A3, hcut3, hA3⟩ := cut_mid A' xl.length c' p q (by omega) (by omega) (q : Int) rfl
    have HC3 := AM (C_cut HC.out p q (by omega) (by omega) A3 (fun h => hA3 (by omega)))
    have hobw : ob < wr.heap.size := blk_lt hoblk
    have hne : wr.heap.size ≠ ob := by omega
    have HB2 := AM (show (wr.alloc (.cells #[.int .i64 (x : Int), .slice A' xl.length c'] 93)).drew.drew.heap[ob]? = some (.cells ocur.toArray 5 (0, 0)) from ((below_alloc (Below.refl _ _) _ : Below wr.heap.size wr (wr.alloc _)).block ob hobw).trans hoblk)
    have HOCUR := AM hocur
    have HOCAP := AM hocap
    have HOCM := AM hocm
    have HOT := AM hotake
    have HOB := AM hobb
    have HML := AM hml
    have HHQ := AM (show o = f - a ∧ p = f - x ∧ q = t - x from ⟨ho, hp, hq⟩)
    clear g1 g2 g3 hA2 hA3 hoblk hocur hocap hocm hotake hobb ho hp hq hv2 hml HRR
    go_wp2_with (fail)
    refine start_ (n := 17) (S := fun w' => w'.cell? ⟨wr.heap.size, 0, none⟩ = some (.int .i64 (x : Int)) ∧ w'.cell? ⟨wr.heap.size, 1, none⟩ = some (.slice A' xl.length c')) (ds := []) #[false, false, false, false, false, false, false, false, false, false, false, false, false, false, false, false, false] (by kernel_rfl) rfl rfl ⟨hb0, hb1⟩ (fun hHeld => ?_)
    refine pu 0 (some 58) ?_ (bt 17 1) (by kernel_rfl) ?_ ?_ ?_ ?_
    rotate_left
    ·intro w'
     go_simp
     with_reducible rfl
    rotate_left
    ·simp only [pS]
     rfl
    refine pu 1 (some 59) ?_ (bt 17 3) (by kernel_rfl) ?_ ?_ ?_ ?_
    rotate_left
    ·intro w'
     go_simp
     with_reducible rfl
    rotate_left
    ·simp only [pS]
     rfl
    refine pu 2 (some 60) ?_ (bt 17 7) (by kernel_rfl) ?_ ?_ ?_ ?_
    rotate_left
    ·intro w'
     go_simp
     with_reducible rfl
    rotate_left
    ·simp only [pS]
     rfl
    refine pu 3 (some 61) ?_ (bt 17 15) (by kernel_rfl) ?_ ?_ ?_ ?_
    rotate_left
    ·intro w'
     go_simp
     with_reducible rfl
    rotate_left
    ·simp only [pS]
     rfl
    refine pu 4 (some 62) ?_ (bt 17 31) (by kernel_rfl) ?_ ?_ ?_ ?_
    rotate_left
    ·intro w'
     go_simp
     with_reducible rfl
    rotate_left
    ·simp only [pS]
     rfl
    refine pu 5 (some 63) ?_ (bt 17 63) (by kernel_rfl) ?_ ?_ ?_ ?_
    rotate_left
    ·intro w'
     go_simp
     with_reducible rfl
    rotate_left
    ·simp only [pS]
     rfl
    refine tk 6 (some 64) ?_ (bt 17 127) (by kernel_rfl) hHeld ?_ ?_ ?_ ?_
    rotate_left
    ·rintro w' ⟨s0, s1⟩
     go_simp
     with_reducible rfl
    rotate_left
    ·simp only [pS]
     rfl
    refine pu 7 (some 65) ?_ (bt 17 255) (by kernel_rfl) ?_ ?_ ?_ ?_
    rotate_left
    ·intro w'
     go_simp
     with_reducible rfl
    rotate_left
    ·simp only [pS]
     rfl
    refine pu 8 (some 66) ?_ (bt 17 511) (by kernel_rfl) ?_ ?_ ?_ ?_
    rotate_left
    ·intro w'
     go_simp
     with_reducible rfl
    rotate_left
    ·simp only [pS]
     rfl
    refine tk 9 (some 67) ?_ (bt 17 1023) (by kernel_rfl) hHeld ?_ ?_ ?_ ?_
    rotate_left
    ·rintro w' ⟨s0, s1⟩
     go_simp
     with_reducible rfl
    rotate_left
    ·simp only [pS]
     rfl
    refine pu 10 (some 68) ?_ (bt 17 2047) (by kernel_rfl) ?_ ?_ ?_ ?_
    rotate_left
    ·intro w'
     go_simp
     with_reducible rfl
    rotate_left
    ·simp only [pS]
     rfl
    refine pu 11 (some 69) ?_ (bt 17 4095) (by kernel_rfl) ?_ ?_ ?_ ?_
    rotate_left
    ·intro w'
     go_simp
     with_reducible rfl
    rotate_left
    ·simp only [pS]
     rfl
    refine pu 12 (some 70) ?_ (bt 17 8191) (by kernel_rfl) ?_ ?_ ?_ ?_
    rotate_left
    ·intro w'
     go_simp
     with_reducible rfl
    rotate_left
    ·simp only [pS]
     rfl
    refine tk 13 (some 71) ?_ (bt 17 16383) (by kernel_rfl) hHeld ?_ ?_ ?_ ?_
    rotate_left
    ·rintro w' ⟨s0, s1⟩
     go_simp
     with_reducible rfl
    rotate_left
    ·simp only [pS]
     rfl
    refine pu 14 (some 72) ?_ (bt 17 32767) (by kernel_rfl) ?_ ?_ ?_ ?_
    rotate_left
    ·intro w'
     go_simp
     with_reducible rfl
    rotate_left
    ·simp only [pS]
     rfl
    refine pu 15 (some 73) ?_ (bt 17 65535) (by kernel_rfl) ?_ ?_ ?_ ?_
    rotate_left
    ·intro w'
     go_simp
     with_reducible rfl
    rotate_left
    ·simp only [pS]
     rfl
    refine one_ (i := 16) (N := some 74) (bt 17 131071) rfl rfl (by kernel_rfl) (by decide) (fun K hK => ?_)
    refine copy_step rfl (.tmp 62) (.tmp 73) 29 29 rfl 5 Try.underlying29 (by kernel_rfl) _ _ _ _ _ _ rfl rfl ob o ocur 5 HB2.out (nums .u8 ((xl.take q).drop p)) ?_ ?_ ?_ ?_ ?_
    ·have := HT1.out; have := HF1.out; have := HHQ.out; rw [nums_length, List.length_drop, List.length_take]; simp only [Nat.min_def]; split <;> split <;> omega
    ·intro h0
     exact ⟨rfl, C_src' (Kd.C_drew (Kd.C_drew HC3.out)) h0⟩
    ·have := HT1.out; have := HF1.out; have := HHQ.out; have := HOCUR.out; have := HOCAP.out; rw [nums_length, List.length_drop, List.length_take]; omega
    ·intro v hv; simp only [nums, List.mem_map] at hv; obtain ⟨x, _, rfl⟩ := hv; rfl
    intro w2 hw2 hk2
    have HW2 := AM hw2
    have HK2 := AM hk2
    have m1_ := cell_kp (w := (wr.alloc (.cells #[.int .i64 (x : Int), .slice A' xl.length c'] 93)).drew.drew) hb0 hk2 hne
    have m2_ := cell_kp (w := (wr.alloc (.cells #[.int .i64 (x : Int), .slice A' xl.length c'] 93)).drew.drew) hb1 hk2 hne
    clear hw2 hk2
    refine hK.out _ _ ⟨m1_, m2_⟩ (fun hHeld => ?_)
    clear hK K
    refine norm_ (a' := ?_) ?_ ?_
    rotate_left
    ·show Act.put _ (some 74) _ = _
     simp only [pS]
     rfl
    refine done_ (by kernel_rfl) ?_
    go_wp2
    go_roundw
    case rel =>
     refine ⟨k + 1, by omega, by go_num, ⟨?_⟩, ⟨?_⟩⟩
     ·have e := HHQ.out
      rw [HTK.out, HWIN.out, if_pos hft, ← e.1, ← e.2.1, ← e.2.2]
      have hR := HR.out
      have hlen : ((xl.take q).drop p).length = q - p := by simp; have := HT1.out; omega
      have hR' : Kd.R (Kd.int .u8) 5 wr w.heap.size (fun _ => True) (.slice (some ⟨ob, 0, none⟩) ((L.drop a).take m).length cv) ((L.drop a).take m) := by rw [HML.out]; exact hR
      have hfin := R_put_at (w' := w2) (at_ := o) (ys := (xl.take q).drop p) hR' HOCUR.out (by rw [HML.out]; exact HOCAP.out) HOCM.out (by rw [HML.out]; exact HOT.out) HOB.out (by rw [HML.out, hlen]; have := HT1.out; have := HF1.out; omega) HW2.out
      rw [putAt_length _ _ _ (by rw [HML.out, hlen]; have := HT1.out; have := HF1.out; omega), HML.out] at hfin
      exact hfin
     ·exact HK2.out.below (below_drew (below_drew (below_step HW.out (below_alloc (Below.refl _ _) _)))) (fun k h => h ▸ HOB.out) (by have := HW.out.size; simp; omega)
    case measure => simp [intOf]; omega
   ·go_wp2
    go_roundw
    case rel =>
     refine ⟨k + 1, by omega, by go_num, ⟨?_⟩, ⟨below_drew (below_step HW.out (below_alloc (Below.refl _ _) _))⟩⟩
     rw [HTK.out, HWIN.out, if_neg hft]
     exact Kd.R_drew (Kd.R_alloc HR.out _)
    case measure => simp [intOf]; omega
  ·have HKK := AM (show k = D.pend.length by omega)
   go_wp2
   go_ret2
   refine ⟨_, rfl, ?_, HW.out⟩
   have := HR.out
   rw [HKK.out, List.take_length] at this
   exact this
end
end Go.Proofs.Ytbbokpkpdnppjaa
