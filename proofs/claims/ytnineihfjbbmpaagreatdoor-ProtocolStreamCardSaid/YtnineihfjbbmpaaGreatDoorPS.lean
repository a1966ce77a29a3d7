/- The law of streams. -/
import Derived.Test.YtnineihfjbbmpaaGreatDoorPR
namespace Go.Proofs.YtnineihfjbbmpaaGreatDoor.P
open Go.RowKit Go.Proofs.YtnineihfjbbmpaaGreatDoorW.PrintWords Go.Proofs.YtnineihfjbbmpaaGreatDoorW.PrintLast Go.Proofs.YtnineihfjbbmpaaGreatDoorW.PrintMore
set_option exponentiation.threshold 8200
set_option linter.unusedVariables false
set_option linter.unusedSimpArgs false
/-! ### The law of streams -/
theorem feedT_calls (base g : Nat) (r : List Int) (br : Bool) (B : Option Addr) (d : Nat) (b : List Int) (w : World) (hS : StS w base g r br) (hC : Kd.C (Kd.int .u8) w B b.length b) (hd : b.length ≤ d) (hl : r.length + b.length ≤ 1000000) (hbase : base ≤ w.heap.size) (ms : List S23) (ec : Int) (r2 : List Int) (b2 : Bool) (hT : feedS r br b = (ms, ec, r2, b2)) :
    Calls Tryz.prog 13 #[.pointer (some ⟨g, 0, none⟩), .slice B b.length d] w fun e w' => ∃ A1 c1, e = .returned (.tuple #[.slice A1 ms.length c1, .int .i64 ec]) ∧ Kd.C k23 w' A1 ms.length ms ∧ ms.length ≤ c1 ∧ StS w' base g r2 b2 ∧ Below base w w' ∧ KT 23 w w' := by
  refine (feed_calls base g r br B d b w hS hC hd hl hbase _ hT).mono ?_
  rintro e w' ⟨v, rfl, hR, hS1, hb, hk⟩
  obtain ⟨A1, c1, rfl⟩ := Kd.R_slice hR
  have hr := Kd.R_reads' hR
  exact ⟨A1, c1, rfl, hr.2.2, hr.2.1, hS1, hb, hk⟩
set_option maxHeartbeats 16000000 in
set_option maxRecDepth 1000000 in
attribute [local go_sem] max2_int min2_int in
theorem streamLaw (A : Option Addr) (c : Nat) (l : List Int) (A1 : Option Addr) (c1 : Nat) (q : List Int) (w : World) (hC : Kd.C (Kd.int .u8) w A l.length l) (hc : l.length ≤ c) (hC1 : Kd.C (Kd.int .u8) w A1 q.length q) (hc1 : q.length ≤ c1) (hq : ∀ x ∈ q, 0 ≤ x ∧ x ≤ 255) (h : Env w) :
    Calls Tryz.prog 5 #[.slice A l.length c, .slice A1 q.length c1] w fun e w' => e = .returned (.bool true) ∧ Below w.heap.size w w' := by
  have HE := Aside0.mk h
  have HC := Aside0.mk hC
  have HH := Aside0.mk hc
  have HC1 := Aside0.mk hC1
  have HH1 := Aside0.mk hc1
  have HQ := Aside0.mk hq
  have HB := Aside0.mk (Below.refl w.heap.size w)
  clear h hC hc hC1 hc1 hq
  by_cases h400 : (400 : Int) < (l.length : Int)
  · go_enter Tryz.func5, Tryz.ntmps5
    go_wp2_with fail
    refine (awake_calls w HE.out).mono ?_
    rintro e w1 ⟨rfl, hb⟩
    replace HB := Aside0.mk (below_step HB.out hb)
    clear hb
    go_wp2_with fail
    refine (awake_calls w1 (HE.out.below HB.out)).mono ?_
    rintro e w2 ⟨rfl, hb⟩
    replace HB := Aside0.mk (below_step HB.out hb)
    clear hb
    go_wp2_with fail
    go_ret
    exact ⟨rfl, HB.out⟩
  by_cases h20 : (20 : Int) < (q.length : Int)
  · go_enter Tryz.func5, Tryz.ntmps5
    go_wp2_with fail
    refine (awake_calls w HE.out).mono ?_
    rintro e w1 ⟨rfl, hb⟩
    replace HB := Aside0.mk (below_step HB.out hb)
    clear hb
    go_wp2_with fail
    refine (awake_calls w1 (HE.out.below HB.out)).mono ?_
    rintro e w2 ⟨rfl, hb⟩
    replace HB := Aside0.mk (below_step HB.out hb)
    clear hb
    go_wp2_with fail
    go_ret
    exact ⟨rfl, HB.out⟩
  have HL := Aside0.mk (show l.length ≤ 400 by omega)
  have HQL := Aside0.mk (show q.length ≤ 20 by omega)
  go_enter Tryz.func5, Tryz.ntmps5
  go_wp2_with fail
  refine (awake_calls w HE.out).mono ?_
  rintro e w1 ⟨rfl, hb⟩
  replace HB := Aside0.mk (below_step HB.out hb)
  clear hb
  go_wp2_with fail
  refine (newStream_calls w.heap.size w1 (below_size HB.out)).mono ?_
  rintro e w2 ⟨g, rfl, hS, hb⟩
  replace HB := Aside0.mk (below_step HB.out hb)
  have HS := Aside0.mk hS
  clear hb hS h400 h20
  go_wp2_with ((with_reducible refine gate_dst (N := 31) rfl ?_); refine Kd.R_lit k23 _ 23 ?hg (N := 31) ?hd (xs := ([] : List S23)) (inner := []) (ok := fun _ => True) (okp := fun _ => True) ?hr ?hp (fun _ hk => hk) trivial (Below.refl _ _) (Nat.le_refl _) (by simp) ?_; (case hd => rfl); (case hg => rfl); (case hr => first | (go_simp; done) | (go_simp; rfl)); (case hp => exact (Reps.none _ _)); intro va wa hoa hba hga hnewa; have HR := Aside0.mk (Kd.R_lower hoa (below_size HB.out)); have HB3 := Aside0.mk (below_step HB.out hba); have HS3 := Aside0.mk (HS.out.below hba); clear hoa hba hga hnewa)
  go_loopg [6, 7, 8] (q.length + 1) (fun kq v6 v7 v8 wr => ∃ (i p : Nat) (acc : List S23) (r : List Int) (br : Bool), v7 = .int .i64 (p : Int) ∧ v8 = .int .i64 (i : Int) ∧ Aside0 (kq + i = q.length + 1 ∧ p ≤ l.length ∧ (i = q.length + 1 → p = l.length) ∧ allT (l.take p) = (acc, r, br)) ∧ Aside0 (StS wr w.heap.size g r br) ∧ Aside0 (Kd.R k23 23 wr w.heap.size (fun _ => True) v6 acc) ∧ Aside0 (Below w.heap.size w wr))
  case atStart => exact ⟨0, 0, [], [], false, rfl, rfl, ⟨by omega, Nat.zero_le _, fun h => by omega, rfl⟩, HS3, HR, HB3⟩
  case round =>
    clear HS HB HR HB3 HS3
    obtain ⟨i, p, acc, r, br, rfl, rfl, HI, HS, HR, HB⟩ := hrel
    obtain ⟨A6, c6, rfl⟩ := Kd.R_slice HR.out
    by_cases hi : i = q.length + 1
    · have hin : ¬ (i : Int) ≤ (q.length : Int) := by omega
      have hp : p = l.length := HI.out.2.2.1 hi
      have hT : allT l = (acc, r, br) := by
        have := HI.out.2.2.2
        rwa [hp, List.take_length] at this
      obtain ⟨ec, hec⟩ : ∃ ec : Int, ec = if br = true then 3 else 0 := ⟨_, rfl⟩
      have hF : feedS [] false l = (acc, ec, r, br) := by
        unfold feedS
        rw [if_neg (by decide), List.nil_append, hT, hec]
      have HF := Aside0.mk hF
      have HAL := Aside0.mk (show acc.length ≤ 400 by
        have h1 := (allT_len (l.length + 1) l (by omega)).1
        rw [hT] at h1
        have := HL.out
        exact Nat.le_trans h1 this)
      clear hT hF hp hi HI hec
      go_wp2_with fail
      refine (newStream_calls w.heap.size wr (below_size HB.out)).mono ?_
      rintro e w4 ⟨g2, rfl, hS2, hb⟩
      replace HB := Aside0.mk (below_step HB.out hb)
      replace HR := Aside0.mk (Kd.R_below HR.out hb)
      have HS2 := Aside0.mk hS2
      clear hb hS2
      go_wp2_with fail
      refine (feedT_calls w.heap.size g2 [] false A c l w4 HS2.out (Kd.C_below HC.out HB.out) HH.out (by have := HL.out; simp only [List.length_nil]; omega) (below_size HB.out) acc ec r br HF.out).mono ?_
      rintro e w5 ⟨A5, c5, rfl, hC5, hl5, _, hb, hk⟩
      replace HB := Aside0.mk (HB.out.trans hb)
      replace HR := Aside0.mk (R_KT HR.out hk)
      have HC5 := Aside0.mk hC5
      have HH5 := Aside0.mk hl5
      clear hb hk hC5 hl5
      go_wp2_with fail
      refine (same_calls A6 c6 A5 c5 acc w5 (Kd.R_reads' HR.out).2.2 (Kd.R_reads' HR.out).2.1 HC5.out HH5.out (by have := HAL.out; omega)).mono ?_
      rintro e w6 ⟨rfl, hb⟩
      replace HB := Aside0.mk (below_step HB.out hb)
      clear hb
      go_wp2_with fail
      go_ret
      exact ⟨rfl, HB.out⟩
    · have hile : i ≤ q.length := by have := HI.out.1; omega
      have hin : (i : Int) ≤ (q.length : Int) := by omega
      have HIN := Aside0.mk hile
      by_cases hlt : i < q.length
      · have hlt' : (i : Int) < (q.length : Int) := by omega
        obtain ⟨ad, rfl, hx⟩ := Kd.at_int (Kd.C_below HC1.out HB.out) (i : Int) (by omega) hlt'
        simp only [Int.toNat_natCast] at hx
        have hxr : 0 ≤ rd q (i : Int) ∧ rd q (i : Int) ≤ 255 := by
          refine HQ.out _ ?_
          rw [rd_nat, List.getD_eq_getElem?_getD, List.getElem?_eq_getElem hlt]
          exact List.getElem_mem hlt
        obtain ⟨xn, hxn⟩ := Int.eq_ofNat_of_zero_le hxr.1
        rw [hxn] at hx hxr
        obtain ⟨nx, hnx⟩ : ∃ nx, nx = min (p + xn) l.length := ⟨_, rfl⟩
        have hpl0 := HI.out.2.1
        have hnl : nx ≤ l.length := by omega
        have hpn : p ≤ nx := by omega
        have hmin : min ((p : Int) + (xn : Int)) (l.length : Int) = (nx : Int) := by omega
        have hxb : (xn : Int) ≤ 255 := by omega
        have HLAST := Aside0.mk (show i + 1 = q.length + 1 → nx = l.length from fun h => by omega)
        clear hxn hxr hnx hpl0 hi hile
        obtain ⟨ch, hch⟩ : ∃ ch, ch = (l.take nx).drop p := ⟨_, rfl⟩
        obtain ⟨pr, hpr⟩ : ∃ pr, pr = l.take nx := ⟨_, rfl⟩
        obtain ⟨A', hcut, hcC, hcl⟩ := cut_mid A c l p nx hpn hnl HH.out
        obtain ⟨hcut2, hcC2, hcl2⟩ := cut_pre A c l nx hnl HH.out
        rw [← hch] at hcut hcC hcl
        rw [← hpr] at hcut2 hcC2 hcl2
        have hpp : l.take p ++ ch = pr := by rw [hch, hpr, take_chunk hpn]
        obtain ⟨⟨acc2, r2, b2⟩, hT2⟩ : ∃ t, allT pr = t := ⟨_, rfl⟩
        obtain ⟨ms, hF, hms⟩ := feed_chunk (m2 := acc2) (r2 := r2) (b2 := b2) (l.take p) ch HI.out.2.2.2 (by rw [hpp]; exact hT2)
        have hpl : pr.length = nx := by rw [hpr, List.length_take]; omega
        have hcl3 : ch.length ≤ 400 := by
          have := HL.out
          rw [hch, List.length_drop, List.length_take]
          omega
        have hrl : r.length ≤ 400 := by
          have h1 := (allT_len ((l.take p).length + 1) (l.take p) (by omega)).2
          rw [HI.out.2.2.2] at h1
          have := HL.out
          have h2 : (l.take p).length ≤ l.length := by rw [List.length_take]; omega
          exact Nat.le_trans h1 (Nat.le_trans h2 this)
        have hal : acc2.length ≤ 400 := by
          have h1 := (allT_len (pr.length + 1) pr (by omega)).1
          rw [hT2] at h1
          have := HL.out
          have h3 : acc2.length ≤ pr.length := h1
          omega
        have hal2 : acc.length + ms.length ≤ 400 := by rw [← List.length_append, hms]; exact hal
        have HCC := Aside0.mk (hcC wr (Kd.C_below HC.out HB.out))
        have HCL := Aside0.mk hcl
        have HCC2 := Aside0.mk hcC2
        have HCL2 := Aside0.mk hcl2
        have HT2 := Aside0.mk hT2
        have HF := Aside0.mk hF
        have HMS := Aside0.mk hms
        have HCH := Aside0.mk hcl3
        have HRL := Aside0.mk hrl
        have HAL := Aside0.mk hal
        have HAL2 := Aside0.mk hal2
        have HPL := Aside0.mk hpl
        have HPR := Aside0.mk hpr
        have HNL := Aside0.mk hnl
        have hpn' : (p : Int) ≤ (nx : Int) := by omega
        have hnl' : (nx : Int) ≤ (l.length : Int) := by omega
        clear hch hpr hcC hcl hcC2 hcl2 hT2 hF hms hcl3 hrl hal hal2 hpl hpp hnl hpn
        cases b2 with
        | false =>
          have HF2 := Aside0.mk (show feedS r br ch = (ms, 0, r2, false) from HF.out)
          clear HF
          go_wp2_with fail
          refine (feedT_calls w.heap.size g r br A' (c - p) ch wr HS.out HCC.out HCL.out (by have := HCH.out; have := HRL.out; omega) (below_size HB.out) ms 0 r2 false HF2.out).mono ?_
          rintro e w4 ⟨A7, c7, rfl, hC7, hl7, hS4, hb, hk⟩
          replace HB := Aside0.mk (HB.out.trans hb)
          replace HR := Aside0.mk (R_KT HR.out hk)
          replace HS := Aside0.mk hS4
          have HC7 := Aside0.mk hC7
          have HH7 := Aside0.mk hl7
          clear hb hk hC7 hl7 hS4
          go_wp2_with ((with_reducible refine gate_builtin (b := .append) (xs := #[.tmp 63, .tmp 64]) rfl ?_); at_builtin; refine Kd.R_append_rows k23 (w0 := w4) w.heap.size rfl (.tmp 63) (.tmp 64) 36 23 (.agg #[(.string ⟨#[]⟩), (.string ⟨#[]⟩)]) 32 rfl Tryz.underlying36 info23 rfl (by decide) (by omega) (.slice A6 acc.length c6) acc ms A7 ms.length c7 (fun _ => True) (fun _ => False) rfl rfl HR.out HC7.out (fun x cs h => by rw [k23_open h]; exact k23_mkM _ _ _ x) (fun _ h => h.elim) (fun _ _ => trivial) (Below.refl _ _) (below_size HB.out) (by have := HAL2.out; omega) ?_; intro v9 w5 ho _ hg _; rw [HMS.out] at ho; obtain ⟨A9, c9, rfl⟩ := Kd.R_slice ho; have HS5 := Aside0.mk (st_out HS.out HR.out hg); have HB5 := Aside0.mk (HB.out.grown hg (below_size HB.out) (Kd.R_base HR.out)); have HR5 := Aside0.mk ho; clear ho hg)
          refine (all_calls A c pr w5 (HCC2.out w5 (Kd.C_below HC.out HB5.out)) HCL2.out (by have := HPL.out; have := HL.out; have := HNL.out; omega) acc2 r2 false HT2.out).mono ?_
          rintro e w6 ⟨A10, c10, rfl, hC10, hl10, hb⟩
          replace HB := Aside0.mk (below_step HB5.out hb)
          replace HR := Aside0.mk (Kd.R_below HR5.out hb)
          replace HS := Aside0.mk (HS5.out.below hb)
          have HC10 := Aside0.mk hC10
          have HH10 := Aside0.mk hl10
          clear hb hC10 hl10 HB5 HR5 HS5
          go_wp2_with fail
          refine (same_calls A9 c9 A10 c10 acc2 w6 (Kd.R_reads' HR.out).2.2 (Kd.R_reads' HR.out).2.1 HC10.out HH10.out (by have := HAL.out; omega)).mono ?_
          rintro e w7 ⟨rfl, hb⟩
          replace HB := Aside0.mk (below_step HB.out hb)
          replace HR := Aside0.mk (Kd.R_below HR.out hb)
          replace HS := Aside0.mk (HS.out.below hb)
          clear hb
          go_wp2_with fail
          refine (pending_calls w.heap.size g r2 false w7 HS.out).mono ?_
          rintro e w8 ⟨rfl, rfl⟩
          go_wp2_with fail
          go_roundg (q.length - i)
          case measure => have := HI.out.1; have := HIN.out; omega
          case rel => exact ⟨i + 1, nx, acc2, r2, false, rfl, by go_num, ⟨by have := HI.out.1; have := HIN.out; omega, HNL.out, (by have h1_ := HLAST.out; intro h2_; first | exact h1_ h2_ | rfl), by rw [← HPR.out]; exact HT2.out⟩, HS, HR, HB⟩
        | true =>
          have HF2 := Aside0.mk (show feedS r br ch = (ms, 3, r2, true) from HF.out)
          clear HF
          go_wp2_with fail
          refine (feedT_calls w.heap.size g r br A' (c - p) ch wr HS.out HCC.out HCL.out (by have := HCH.out; have := HRL.out; omega) (below_size HB.out) ms 3 r2 true HF2.out).mono ?_
          rintro e w4 ⟨A7, c7, rfl, hC7, hl7, hS4, hb, hk⟩
          replace HB := Aside0.mk (HB.out.trans hb)
          replace HR := Aside0.mk (R_KT HR.out hk)
          replace HS := Aside0.mk hS4
          have HC7 := Aside0.mk hC7
          have HH7 := Aside0.mk hl7
          clear hb hk hC7 hl7 hS4
          go_wp2_with ((with_reducible refine gate_builtin (b := .append) (xs := #[.tmp 63, .tmp 64]) rfl ?_); at_builtin; refine Kd.R_append_rows k23 (w0 := w4) w.heap.size rfl (.tmp 63) (.tmp 64) 36 23 (.agg #[(.string ⟨#[]⟩), (.string ⟨#[]⟩)]) 32 rfl Tryz.underlying36 info23 rfl (by decide) (by omega) (.slice A6 acc.length c6) acc ms A7 ms.length c7 (fun _ => True) (fun _ => False) rfl rfl HR.out HC7.out (fun x cs h => by rw [k23_open h]; exact k23_mkM _ _ _ x) (fun _ h => h.elim) (fun _ _ => trivial) (Below.refl _ _) (below_size HB.out) (by have := HAL2.out; omega) ?_; intro v9 w5 ho _ hg _; rw [HMS.out] at ho; obtain ⟨A9, c9, rfl⟩ := Kd.R_slice ho; have HS5 := Aside0.mk (st_out HS.out HR.out hg); have HB5 := Aside0.mk (HB.out.grown hg (below_size HB.out) (Kd.R_base HR.out)); have HR5 := Aside0.mk ho; clear ho hg)
          refine (all_calls A c pr w5 (HCC2.out w5 (Kd.C_below HC.out HB5.out)) HCL2.out (by have := HPL.out; have := HL.out; have := HNL.out; omega) acc2 r2 true HT2.out).mono ?_
          rintro e w6 ⟨A10, c10, rfl, hC10, hl10, hb⟩
          replace HB := Aside0.mk (below_step HB5.out hb)
          replace HR := Aside0.mk (Kd.R_below HR5.out hb)
          replace HS := Aside0.mk (HS5.out.below hb)
          have HC10 := Aside0.mk hC10
          have HH10 := Aside0.mk hl10
          clear hb hC10 hl10 HB5 HR5 HS5
          go_wp2_with fail
          refine (same_calls A9 c9 A10 c10 acc2 w6 (Kd.R_reads' HR.out).2.2 (Kd.R_reads' HR.out).2.1 HC10.out HH10.out (by have := HAL.out; omega)).mono ?_
          rintro e w7 ⟨rfl, hb⟩
          replace HB := Aside0.mk (below_step HB.out hb)
          replace HR := Aside0.mk (Kd.R_below HR.out hb)
          replace HS := Aside0.mk (HS.out.below hb)
          clear hb
          go_wp2_with fail
          refine (pending_calls w.heap.size g r2 true w7 HS.out).mono ?_
          rintro e w8 ⟨rfl, rfl⟩
          go_wp2_with fail
          go_roundg (q.length - i)
          case measure => have := HI.out.1; have := HIN.out; omega
          case rel => exact ⟨i + 1, nx, acc2, r2, true, rfl, by go_num, ⟨by have := HI.out.1; have := HIN.out; omega, HNL.out, (by have h1_ := HLAST.out; intro h2_; first | exact h1_ h2_ | rfl), by rw [← HPR.out]; exact HT2.out⟩, HS, HR, HB⟩
      · have hlt' : ¬ (i : Int) < (q.length : Int) := by omega
        have hpl0 := HI.out.2.1
        have hnl : l.length ≤ l.length := Nat.le_refl _
        have hpn : p ≤ l.length := by omega
        have HLAST := Aside0.mk (show i + 1 = q.length + 1 → l.length = l.length from fun h => rfl)
        clear hpl0 hi hile
        obtain ⟨ch, hch⟩ : ∃ ch, ch = (l.take l.length).drop p := ⟨_, rfl⟩
        obtain ⟨pr, hpr⟩ : ∃ pr, pr = l.take l.length := ⟨_, rfl⟩
        obtain ⟨A', hcut, hcC, hcl⟩ := cut_mid A c l p l.length hpn hnl HH.out
        obtain ⟨hcut2, hcC2, hcl2⟩ := cut_pre A c l l.length hnl HH.out
        rw [← hch] at hcut hcC hcl
        rw [← hpr] at hcut2 hcC2 hcl2
        have hpp : l.take p ++ ch = pr := by rw [hch, hpr, take_chunk hpn]
        obtain ⟨⟨acc2, r2, b2⟩, hT2⟩ : ∃ t, allT pr = t := ⟨_, rfl⟩
        obtain ⟨ms, hF, hms⟩ := feed_chunk (m2 := acc2) (r2 := r2) (b2 := b2) (l.take p) ch HI.out.2.2.2 (by rw [hpp]; exact hT2)
        have hpl : pr.length = l.length := by rw [hpr, List.length_take]; omega
        have hcl3 : ch.length ≤ 400 := by
          have := HL.out
          rw [hch, List.length_drop, List.length_take]
          omega
        have hrl : r.length ≤ 400 := by
          have h1 := (allT_len ((l.take p).length + 1) (l.take p) (by omega)).2
          rw [HI.out.2.2.2] at h1
          have := HL.out
          have h2 : (l.take p).length ≤ l.length := by rw [List.length_take]; omega
          exact Nat.le_trans h1 (Nat.le_trans h2 this)
        have hal : acc2.length ≤ 400 := by
          have h1 := (allT_len (pr.length + 1) pr (by omega)).1
          rw [hT2] at h1
          have := HL.out
          have h3 : acc2.length ≤ pr.length := h1
          omega
        have hal2 : acc.length + ms.length ≤ 400 := by rw [← List.length_append, hms]; exact hal
        have HCC := Aside0.mk (hcC wr (Kd.C_below HC.out HB.out))
        have HCL := Aside0.mk hcl
        have HCC2 := Aside0.mk hcC2
        have HCL2 := Aside0.mk hcl2
        have HT2 := Aside0.mk hT2
        have HF := Aside0.mk hF
        have HMS := Aside0.mk hms
        have HCH := Aside0.mk hcl3
        have HRL := Aside0.mk hrl
        have HAL := Aside0.mk hal
        have HAL2 := Aside0.mk hal2
        have HPL := Aside0.mk hpl
        have HPR := Aside0.mk hpr
        have HNL := Aside0.mk hnl
        have hpn' : (p : Int) ≤ (l.length : Int) := by omega
        have hnl' : (l.length : Int) ≤ (l.length : Int) := by omega
        clear hch hpr hcC hcl hcC2 hcl2 hT2 hF hms hcl3 hrl hal hal2 hpl hpp hnl hpn
        cases b2 with
        | false =>
          have HF2 := Aside0.mk (show feedS r br ch = (ms, 0, r2, false) from HF.out)
          clear HF
          go_wp2_with fail
          refine (feedT_calls w.heap.size g r br A' (c - p) ch wr HS.out HCC.out HCL.out (by have := HCH.out; have := HRL.out; omega) (below_size HB.out) ms 0 r2 false HF2.out).mono ?_
          rintro e w4 ⟨A7, c7, rfl, hC7, hl7, hS4, hb, hk⟩
          replace HB := Aside0.mk (HB.out.trans hb)
          replace HR := Aside0.mk (R_KT HR.out hk)
          replace HS := Aside0.mk hS4
          have HC7 := Aside0.mk hC7
          have HH7 := Aside0.mk hl7
          clear hb hk hC7 hl7 hS4
          go_wp2_with ((with_reducible refine gate_builtin (b := .append) (xs := #[.tmp 63, .tmp 64]) rfl ?_); at_builtin; refine Kd.R_append_rows k23 (w0 := w4) w.heap.size rfl (.tmp 63) (.tmp 64) 36 23 (.agg #[(.string ⟨#[]⟩), (.string ⟨#[]⟩)]) 32 rfl Tryz.underlying36 info23 rfl (by decide) (by omega) (.slice A6 acc.length c6) acc ms A7 ms.length c7 (fun _ => True) (fun _ => False) rfl rfl HR.out HC7.out (fun x cs h => by rw [k23_open h]; exact k23_mkM _ _ _ x) (fun _ h => h.elim) (fun _ _ => trivial) (Below.refl _ _) (below_size HB.out) (by have := HAL2.out; omega) ?_; intro v9 w5 ho _ hg _; rw [HMS.out] at ho; obtain ⟨A9, c9, rfl⟩ := Kd.R_slice ho; have HS5 := Aside0.mk (st_out HS.out HR.out hg); have HB5 := Aside0.mk (HB.out.grown hg (below_size HB.out) (Kd.R_base HR.out)); have HR5 := Aside0.mk ho; clear ho hg)
          refine (all_calls A c pr w5 (HCC2.out w5 (Kd.C_below HC.out HB5.out)) HCL2.out (by have := HPL.out; have := HL.out; have := HNL.out; omega) acc2 r2 false HT2.out).mono ?_
          rintro e w6 ⟨A10, c10, rfl, hC10, hl10, hb⟩
          replace HB := Aside0.mk (below_step HB5.out hb)
          replace HR := Aside0.mk (Kd.R_below HR5.out hb)
          replace HS := Aside0.mk (HS5.out.below hb)
          have HC10 := Aside0.mk hC10
          have HH10 := Aside0.mk hl10
          clear hb hC10 hl10 HB5 HR5 HS5
          go_wp2_with fail
          refine (same_calls A9 c9 A10 c10 acc2 w6 (Kd.R_reads' HR.out).2.2 (Kd.R_reads' HR.out).2.1 HC10.out HH10.out (by have := HAL.out; omega)).mono ?_
          rintro e w7 ⟨rfl, hb⟩
          replace HB := Aside0.mk (below_step HB.out hb)
          replace HR := Aside0.mk (Kd.R_below HR.out hb)
          replace HS := Aside0.mk (HS.out.below hb)
          clear hb
          go_wp2_with fail
          refine (pending_calls w.heap.size g r2 false w7 HS.out).mono ?_
          rintro e w8 ⟨rfl, rfl⟩
          go_wp2_with fail
          go_roundg (q.length - i)
          case measure => have := HI.out.1; have := HIN.out; omega
          case rel => exact ⟨i + 1, l.length, acc2, r2, false, rfl, by go_num, ⟨by have := HI.out.1; have := HIN.out; omega, HNL.out, (by have h1_ := HLAST.out; intro h2_; first | exact h1_ h2_ | rfl), by rw [← HPR.out]; exact HT2.out⟩, HS, HR, HB⟩
        | true =>
          have HF2 := Aside0.mk (show feedS r br ch = (ms, 3, r2, true) from HF.out)
          clear HF
          go_wp2_with fail
          refine (feedT_calls w.heap.size g r br A' (c - p) ch wr HS.out HCC.out HCL.out (by have := HCH.out; have := HRL.out; omega) (below_size HB.out) ms 3 r2 true HF2.out).mono ?_
          rintro e w4 ⟨A7, c7, rfl, hC7, hl7, hS4, hb, hk⟩
          replace HB := Aside0.mk (HB.out.trans hb)
          replace HR := Aside0.mk (R_KT HR.out hk)
          replace HS := Aside0.mk hS4
          have HC7 := Aside0.mk hC7
          have HH7 := Aside0.mk hl7
          clear hb hk hC7 hl7 hS4
          go_wp2_with ((with_reducible refine gate_builtin (b := .append) (xs := #[.tmp 63, .tmp 64]) rfl ?_); at_builtin; refine Kd.R_append_rows k23 (w0 := w4) w.heap.size rfl (.tmp 63) (.tmp 64) 36 23 (.agg #[(.string ⟨#[]⟩), (.string ⟨#[]⟩)]) 32 rfl Tryz.underlying36 info23 rfl (by decide) (by omega) (.slice A6 acc.length c6) acc ms A7 ms.length c7 (fun _ => True) (fun _ => False) rfl rfl HR.out HC7.out (fun x cs h => by rw [k23_open h]; exact k23_mkM _ _ _ x) (fun _ h => h.elim) (fun _ _ => trivial) (Below.refl _ _) (below_size HB.out) (by have := HAL2.out; omega) ?_; intro v9 w5 ho _ hg _; rw [HMS.out] at ho; obtain ⟨A9, c9, rfl⟩ := Kd.R_slice ho; have HS5 := Aside0.mk (st_out HS.out HR.out hg); have HB5 := Aside0.mk (HB.out.grown hg (below_size HB.out) (Kd.R_base HR.out)); have HR5 := Aside0.mk ho; clear ho hg)
          refine (all_calls A c pr w5 (HCC2.out w5 (Kd.C_below HC.out HB5.out)) HCL2.out (by have := HPL.out; have := HL.out; have := HNL.out; omega) acc2 r2 true HT2.out).mono ?_
          rintro e w6 ⟨A10, c10, rfl, hC10, hl10, hb⟩
          replace HB := Aside0.mk (below_step HB5.out hb)
          replace HR := Aside0.mk (Kd.R_below HR5.out hb)
          replace HS := Aside0.mk (HS5.out.below hb)
          have HC10 := Aside0.mk hC10
          have HH10 := Aside0.mk hl10
          clear hb hC10 hl10 HB5 HR5 HS5
          go_wp2_with fail
          refine (same_calls A9 c9 A10 c10 acc2 w6 (Kd.R_reads' HR.out).2.2 (Kd.R_reads' HR.out).2.1 HC10.out HH10.out (by have := HAL.out; omega)).mono ?_
          rintro e w7 ⟨rfl, hb⟩
          replace HB := Aside0.mk (below_step HB.out hb)
          replace HR := Aside0.mk (Kd.R_below HR.out hb)
          replace HS := Aside0.mk (HS.out.below hb)
          clear hb
          go_wp2_with fail
          refine (pending_calls w.heap.size g r2 true w7 HS.out).mono ?_
          rintro e w8 ⟨rfl, rfl⟩
          go_wp2_with fail
          go_roundg (q.length - i)
          case measure => have := HI.out.1; have := HIN.out; omega
          case rel => exact ⟨i + 1, l.length, acc2, r2, true, rfl, by go_num, ⟨by have := HI.out.1; have := HIN.out; omega, HNL.out, (by have h1_ := HLAST.out; intro h2_; first | exact h1_ h2_ | rfl), by rw [← HPR.out]; exact HT2.out⟩, HS, HR, HB⟩

end Go.Proofs.YtnineihfjbbmpaaGreatDoor.P
