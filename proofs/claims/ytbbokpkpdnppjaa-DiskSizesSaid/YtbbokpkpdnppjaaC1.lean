/- The walk of DiskSizes. -/
import Derived.Test.YtbbokpkpdnppjaaB2
namespace Go.Proofs.Ytbbokpkpdnppjaa
open Go.RowKit Go.Proofs.YtbbokpkpdnppjaaW.PrintWords Go.Proofs.YtbbokpkpdnppjaaW.PrintLast Go.Proofs.YtbbokpkpdnppjaaW.PrintMore
set_option linter.unusedVariables false
set_option linter.unusedSimpArgs false

theorem Right_calls (n : Int) (w : World) : Calls Try.prog 16 #[.int .i64 n] w fun e w' => e = .returned (.bool (decide (1 ≤ n) && decide (n ≤ 4194304))) ∧ w = w' := by
  by_cases h : 1 ≤ n
  · go_enter Try.func16, Try.ntmps16
    go_wp2
    go_ret
    exact ⟨by simp [h], rfl⟩
  · go_enter Try.func16, Try.ntmps16
    go_wp2
    go_ret
    exact ⟨by simp; omega, rfl⟩

/-- A read's slice, its bytes where it has some. -/
theorem St.got_form {W : World} {l : List Int} {v : Value} {w' : World} (hR : Kd.R (Kd.int .u8) 5 w' W.heap.size (fun _ => True) v l) : ∃ A c, v = .slice A l.length c ∧ Kd.C (Kd.int .u8) w' A l.length l := by
  obtain ⟨A, c, e, _, hC⟩ := Kd.R_reads hR
  exact ⟨A, c, e, hC⟩

set_option maxRecDepth 100000 in
set_option maxHeartbeats 4000000 in
theorem DiskSizes_calls (n : Int) (w : World) : Calls Try.prog 3 #[.int .i64 n] w fun e w' => e = .returned (.bool true) ∧ Below w.heap.size w w' := by
  by_cases hbig : 65536 < n ∧ n ≤ 4194304
  · obtain ⟨h1, h2⟩ := hbig
    go_enter Try.func3, Try.ntmps3
    go_wp2_with (first | (go_at_call 14; refine (awake13 _).mono ?_; rintro e w1 ⟨rfl, hb⟩; have HB := Aside0.mk hb; clear hb))
    go_ret
    exact ⟨rfl, HB.out⟩
  · by_cases hgood : 1 ≤ n ∧ n ≤ 65536
    · obtain ⟨h1, h2⟩ := hgood
      obtain ⟨m, rfl⟩ := Int.eq_ofNat_of_zero_le (show 0 ≤ n by omega)
      have g1 : 1 ≤ m := by omega
      have g2 : m ≤ 65536 := by omega
      have hlt : ¬ (65536 < (m : Int)) := by omega
      have OK0 := Aside0.mk (Dk.fresh_ok m (by omega) (by omega))
      have E1 := Aside0.mk (show (Dk.fresh m).read ((m : Int) - 1) 1 = ([0], 0) by
        have e : insd (Dk.fresh m).dur.length ((m : Int) - 1) 1 = true := by simp [insd, Dk.fresh]; omega
        simp only [Dk.read, e]
        simp only [Dk.fresh, Dk.now, layAll, List.foldl_nil, Bool.false_eq_true, if_false, List.drop_replicate, List.take_replicate, Prod.mk.injEq, and_true]
        rw [show min (1 : Int).toNat (m - ((m : Int) - 1).toNat) = 1 by omega]
        rfl)
      have E2 := Aside0.mk (show (Dk.fresh m).read (m : Int) 0 = ([], 0) by
        have e : insd (Dk.fresh m).dur.length (m : Int) 0 = true := by simp [insd, Dk.fresh]
        simp only [Dk.read, e]
        simp [Dk.fresh, Dk.now])
      have E3 := Aside0.mk (show (Dk.fresh m).read (m : Int) 1 = ([], 2) by
        have e : insd (Dk.fresh m).dur.length (m : Int) 1 = false := by simp [insd, Dk.fresh]
        simp only [Dk.read, e]
        simp [Dk.fresh])
      have E4 := Aside0.mk (show (Dk.fresh m).write (m : Int) [] = ((Dk.fresh m).burnt.wrote m [], 0) by
        have e : insd (Dk.fresh m).dur.length (m : Int) ([] : List Int).length = true := by simp [insd, Dk.fresh]
        simp only [Dk.write, e]
        simp [Dk.fresh])
      have OK1 := Aside0.mk (show ((Dk.fresh m).burnt.wrote m []).Ok by have := OK0.out.write (by simp [Dk.fresh]) (m : Int) []; rwa [E4.out] at this)
      have E5 := Aside0.mk (show (((Dk.fresh m).burnt.wrote m []).write (m : Int) [1]).2 = 2 by
        have e : insd ((Dk.fresh m).burnt.wrote m []).dur.length (m : Int) ([1] : List Int).length = false := by simp [insd, Dk.fresh, Dk.wrote, Dk.burnt]
        simp only [Dk.write, e]
        simp [Dk.fresh, Dk.wrote, Dk.burnt])
      have HG := Aside0.mk (show 1 ≤ m ∧ m ≤ 4194304 by omega)
      clear hbig
      go_enter Try.func3, Try.ntmps3
      go_wp2_with fail
      refine (awake13 _).mono ?_
      rintro e w0 ⟨rfl, hb⟩
      have HB0 := Aside0.mk hb
      clear hb
      go_wp2_with fail
      refine (St.new (w0 := w) m HB0.out HG.out.1 HG.out.2).mono ?_
      rintro e w1 ⟨g, rfl, hs⟩
      have S1 := Aside0.mk hs
      clear hs
      go_wp2_with fail
      refine (Right_calls (m : Int) _).mono ?_
      rw [show (decide (1 ≤ (m : Int)) && decide ((m : Int) ≤ 4194304)) = true by have := HG.out; simp; omega]
      rintro e w' ⟨rfl, rfl⟩
      go_wp2_with fail
      refine (S1.out.size).mono ?_
      rw [show (Dk.fresh m).dur.length = m by simp [Dk.fresh]]
      rintro e w' ⟨rfl, rfl⟩
      go_wp2_with fail
      refine (S1.out.read ((m : Int) - 1) 1 OK0.out).mono ?_
      rw [E1.out]
      rintro e w2 ⟨v, rfl, hR, hB⟩
      obtain ⟨A, c, rfl, hC⟩ := St.got_form hR
      obtain ⟨ad, rfl, hcell⟩ := Kd.at_int hC 0 (by decide) (by decide)
      have S2 := Aside0.mk (S1.out.step hB)
      have HCELL := Aside0.mk hcell
      clear hR hB hC hcell
      go_wp2_with fail
      refine (S2.out.read (m : Int) 0 OK0.out).mono ?_
      rw [E2.out]
      rintro e w3 ⟨v, rfl, hR, hB⟩
      obtain ⟨A, c', rfl, hC⟩ := St.got_form hR
      have S3 := Aside0.mk (S2.out.step hB)
      have HCELL2 := Aside0.mk (pw_cell_below hB HCELL.out)
      clear hR hB hC HCELL
      go_wp2_with fail
      refine (S3.out.read (m : Int) 1 OK0.out).mono ?_
      rw [E3.out]
      rintro e w4 ⟨v, rfl, hR, hB⟩
      obtain ⟨A', c'', rfl, hC⟩ := St.got_form hR
      have S4 := Aside0.mk (S3.out.step hB)
      have hcell : w4.cell? (ad.add 0) = some (.int .u8 0) := pw_cell_below hB HCELL2.out
      have ha0 : ad.add 0 = ad := by simp [Addr.add]
      rw [ha0] at hcell
      clear hR hB hC HCELL2 ha0
      go_wp2_with fail
      refine (S4.out.write_arg (m : Int) none 0 [] OK0.out (Kd.C_nil _ _) (Nat.le_refl _) (by decide)).mono ?_
      rw [E4.out]
      rintro e w5 ⟨rfl, hs⟩
      have S5 := Aside0.mk hs
      clear hs hcell
      go_wp2_with fail
      refine (S5.out.write_lit (m : Int) _ _ [1] rfl OK1.out (by decide)).mono ?_
      rw [E5.out]
      rintro e w6 ⟨rfl, hs⟩
      have S6 := Aside0.mk hs
      clear hs
      go_wp2_with fail
      go_ret
      exact ⟨rfl, S6.out.bel⟩
    · have hbad : n < 1 ∨ 4194304 < n := by omega
      have HBAD := Aside0.mk hbad
      have hr : (decide (1 ≤ n) && decide (n ≤ 4194304)) = false := by simp; omega
      have HR := Aside0.mk hr
      by_cases hp : 65536 < n
      · have hq : ¬ n ≤ 4194304 := by omega
        clear hbig hgood hbad hr
        go_enter Try.func3, Try.ntmps3
        go_wp2_with (first | (go_at_call 14; refine (awake13 _).mono ?_; rintro e w1 ⟨rfl, hb⟩; have HB := Aside0.mk hb; clear hb) | (go_at_call 15; refine (New_bad n _ HBAD.out).mono ?_; rintro e w' ⟨rfl, rfl⟩) | (go_at_call 16; refine (Right_calls n _).mono ?_; rw [HR.out]; rintro e w' ⟨rfl, rfl⟩))
        go_ret
        exact ⟨rfl, HB.out⟩
      · clear hbig hgood hbad hr
        go_enter Try.func3, Try.ntmps3
        go_wp2_with (first | (go_at_call 14; refine (awake13 _).mono ?_; rintro e w1 ⟨rfl, hb⟩; have HB := Aside0.mk hb; clear hb) | (go_at_call 15; refine (New_bad n _ HBAD.out).mono ?_; rintro e w' ⟨rfl, rfl⟩) | (go_at_call 16; refine (Right_calls n _).mono ?_; rw [HR.out]; rintro e w' ⟨rfl, rfl⟩))
        go_ret
        exact ⟨rfl, HB.out⟩
end Go.Proofs.Ytbbokpkpdnppjaa
