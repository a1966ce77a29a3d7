-- PRINTED by print.py (a twelfth state) out of the translation. Not trusted: Lean checks it.
import Derived.Test.YtbbokpkpdnppjaaUA
import Derived.Test.YtbbokpkpdnppjaaGx0
import Derived.Test.YtbbokpkpdnppjaaGx1
namespace Go.Proofs.Ytbbokpkpdnppjaa.G
open Go.RowKit Go.Proofs.YtbbokpkpdnppjaaW.PrintWords Go.Proofs.YtbbokpkpdnppjaaW.PrintLast Go.Proofs.YtbbokpkpdnppjaaW.PrintMore
attribute [local go_sem] max2_int min2_int max_two min_two max_three min_three max_four min_four   -- for this text's walks alone
set_option linter.unusedVariables false
set_option linter.unusedSimpArgs false
/-! ### lineageref15_Same: function 40 -/
def lineageref15_Same.l0 : Nat → List (S73) → List (S73) → Int → Option (Bool)
 | 0, _, _, _ => none
 | k + 1, x0, x1, x5 => if x5 < (x0.length : Int) then (if 0 ≤ x5 then (if x5 < (x1.length : Int) then (if ((rd_T73 x0 x5).f0) = ((rd_T73 x1 x5).f0) then ((lineageref13_Same.f k ((rd_T73 x0 x5).f1) ((rd_T73 x1 x5).f1)).bind fun t233 => (if t233 = true then (lineageref15_Same.l0 k x0 x1 (wrap64 (x5 + 1))) else (some false))) else (some false)) else (none)) else (none)) else (some true)
def lineageref15_Same.f (k : Nat) (l0 : List (S73)) (l1 : List (S73)) : Option (Bool) := if (l0.length : Int) = (l1.length : Int) then (lineageref15_Same.l0 k l0 l1 0) else (some false)
theorem lineageref15_Same.mono_l : ∀ k, (∀ y0 y1 y2, LeO (lineageref15_Same.l0 k y0 y1 y2) (lineageref15_Same.l0 (k + 1) y0 y1 y2))
 | 0 => fun _ _ _ r h => by simp [lineageref15_Same.l0] at h
 | k + 1 => by
  have ih0 := lineageref15_Same.mono_l k
  ·intro y0 y1 y2
   unfold lineageref15_Same.l0
   repeat' first
   | (with_reducible exact ih0 _ _ _)
   | (with_reducible exact lineageref13_Same.mono _ _ _)
   | (with_reducible exact LeO.refl _)
   | (with_reducible exact LeO.none _)
   | (with_reducible refine LeO.ite ?_ ?_)
   | (with_reducible refine LeO.bind ?_ (fun _ => ?_))
   | exact ih0 _ _ _
   | exact lineageref13_Same.mono _ _ _
   | exact LeO.none _
   | refine LeO.ite ?_ ?_
   | refine LeO.bind ?_ (fun _ => ?_)
theorem lineageref15_Same.mono : ∀ a0 a1 k, LeO (lineageref15_Same.f k a0 a1) (lineageref15_Same.f (k + 1) a0 a1) := by
 intro a0 a1 k
 have ih0 := lineageref15_Same.mono_l k
 unfold lineageref15_Same.f
 repeat' first
   | (with_reducible exact ih0 _ _ _)
   | (with_reducible exact lineageref13_Same.mono _ _ _)
   | (with_reducible exact LeO.refl _)
   | (with_reducible exact LeO.none _)
   | (with_reducible refine LeO.ite ?_ ?_)
   | (with_reducible refine LeO.bind ?_ (fun _ => ?_))
   | exact ih0 _ _ _
   | exact lineageref13_Same.mono _ _ _
   | exact LeO.none _
   | refine LeO.ite ?_ ?_
   | refine LeO.bind ?_ (fun _ => ?_)
set_option maxHeartbeats 8000000 in
set_option maxRecDepth 100000 in
theorem lineageref15_Same.calls (k : Nat) (A0 : Option Addr) (c0 : Nat) (l0 : List (S73)) (A1 : Option Addr) (c1 : Nat) (l1 : List (S73)) (r : Bool) (w : World) (hr0 : Kd.C k73 w A0 l0.length l0) (hc0 : l0.length ≤ c0) (hr1 : Kd.C k73 w A1 l1.length l1) (hc1 : l1.length ≤ c1) (h : lineageref15_Same.f k l0 l1 = some r) :
  Calls Try.prog 40 #[.slice A0 l0.length c0, .slice A1 l1.length c1] w fun e w' => e = .returned (.bool r) ∧ Drawn0 w w' := by
 have HR0 := AM hr0
 have HC0 := AM hc0
 clear hr0 hc0
 have HR1 := AM hr1
 have HC1 := AM hc1
 clear hr1 hc1
 have H : (if (l0.length : Int) = (l1.length : Int) then (lineageref15_Same.l0 k l0 l1 0) else (some false)) = some r := h
 clear h
 by_cases c3 : (l0.length : Int) = (l1.length : Int)
 ·rw [if_pos c3] at H
  have c3b0 : ((l0.length : Int) == (l1.length : Int)) = true := beq_iff_eq.mpr c3
  have c3b1 : ((l0.length : Int) != (l1.length : Int)) = false := bne_eq_false_iff_eq.mpr c3
  have c3b2 : (l0.length == l1.length) = true := by first | simpa using c3 | (simp at c3 ⊢; omega)
  clear c3
  have H' := AM H
  clear H
  go_enter Try.func40, Try.ntmps40
  go_wp2
  repeat (go_quiet (fail); try go_wp2)
  go_loopg [5] k (fun kq v5 w' => ∃ (x5_1 : Int), v5 = .int .i64 x5_1 ∧ Aside0 (lineageref15_Same.l0 kq l0 l1 x5_1 = some r) ∧ Aside0 (kq ≤ k) ∧ Drawn0 w w')
  case atStart => exact ⟨(0), (by first | rfl | (simp; done) | (simp [*]; done)), H', ⟨Nat.le_refl _⟩, by repeat (first | exact Drawn0.refl _ | apply Drawn0.step)⟩
  case round =>
   clear H'
   try clear c1
   try clear p2
   try clear c3
   try clear c3b0
   try clear c3b1
   try clear c3b2
   obtain ⟨x5_1, rfl, HA, HK1, ⟨m1, rfl⟩⟩ := hrel
   cases gk with
   | zero => exact absurd HA.out (by simp [lineageref15_Same.l0])
   | succ k1 =>
    have H := HA.out
    clear HA
    simp only [lineageref15_Same.l0] at H
    by_cases c4 : x5_1 < (l0.length : Int)
    ·rw [if_pos c4] at H
     have c4b0 : decide (x5_1 < (l0.length : Int)) = true := decide_eq_true c4
     clear c4
     by_cases c5 : 0 ≤ x5_1
     ·rw [if_pos c5] at H
      have c5b0 : decide (0 ≤ x5_1) = true := decide_eq_true c5
      clear c5
      by_cases c6 : x5_1 < (l1.length : Int)
      ·rw [if_pos c6] at H
       have c6b0 : decide (x5_1 < (l1.length : Int)) = true := decide_eq_true c6
       clear c6
       by_cases c7 : ((rd_T73 l0 x5_1).f0) = ((rd_T73 l1 x5_1).f0)
       ·rw [if_pos c7] at H
        have c7b0 : (((rd_T73 l0 x5_1).f0) == ((rd_T73 l1 x5_1).f0)) = true := beq_iff_eq.mpr c7
        have c7b1 : (((rd_T73 l0 x5_1).f0) != ((rd_T73 l1 x5_1).f0)) = false := bne_eq_false_iff_eq.mpr c7
        clear c7
        replace H := Option.bind_eq_some_iff.mp H
        obtain ⟨t233, A80, H⟩ := H
        replace H : (if t233 = true then (lineageref15_Same.l0 k1 l0 l1 (wrap64 (x5_1 + 1))) else (some false)) = some r := H
        have A8 := AM A80
        clear A80
        by_cases c9 : t233 = true
        ·subst c9
         have H1 : (lineageref15_Same.l0 k1 l0 l1 (wrap64 (x5_1 + 1))) = some r := by rw [if_pos rfl] at H; exact H
         clear H
         have H := H1
         clear H1
         have H' := AM H
         clear H
         have p229 : 0 ≤ (x5_1 : Int) := of_decide_eq_true (by first | (with_reducible assumption) | assumption)
         have q229 : x5_1 < (l0.length : Int) := of_decide_eq_true (by first | (with_reducible assumption) | assumption)
         obtain ⟨ad229, A229_1, c229_1, e229, hx229_0, hx229_1, hl229_1, hi229_1⟩ := at_T73 HR0.out x5_1 p229 q229
         cases e229
         have HR229_1 := AM hi229_1
         have HC229_1 := AM hl229_1
         clear hi229_1 hl229_1
         replace p229 := eq_true p229
         replace q229 := eq_true q229
         have p230 : 0 ≤ (x5_1 : Int) := of_decide_eq_true (by first | (with_reducible assumption) | assumption)
         have q230 : x5_1 < (l1.length : Int) := of_decide_eq_true (by first | (with_reducible assumption) | assumption)
         obtain ⟨ad230, A230_1, c230_1, e230, hx230_0, hx230_1, hl230_1, hi230_1⟩ := at_T73 HR1.out x5_1 p230 q230
         cases e230
         have HR230_1 := AM hi230_1
         have HC230_1 := AM hl230_1
         clear hi230_1 hl230_1
         replace p230 := eq_true p230
         replace q230 := eq_true q230
         have p231 : 0 ≤ (x5_1 : Int) := of_decide_eq_true (by first | (with_reducible assumption) | assumption)
         have q231 : x5_1 < (l0.length : Int) := of_decide_eq_true (by first | (with_reducible assumption) | assumption)
         obtain ⟨ad231, A231_1, c231_1, e231, hx231_0, hx231_1, hl231_1, hi231_1⟩ := at_T73 HR0.out x5_1 p231 q231
         obtain rfl : ad229 = ad231 := (by injection e231)
         have HR231_1 := AM hi231_1
         have HC231_1 := AM hl231_1
         clear hi231_1 hl231_1
         replace p231 := eq_true p231
         replace q231 := eq_true q231
         have ea_ := Option.some.inj (hx229_1.symm.trans hx231_1)
         injection ea_ with ea_ en_ ec_
         subst ea_
         subst ec_
         clear en_
         have p232 : 0 ≤ (x5_1 : Int) := of_decide_eq_true (by first | (with_reducible assumption) | assumption)
         have q232 : x5_1 < (l1.length : Int) := of_decide_eq_true (by first | (with_reducible assumption) | assumption)
         obtain ⟨ad232, A232_1, c232_1, e232, hx232_0, hx232_1, hl232_1, hi232_1⟩ := at_T73 HR1.out x5_1 p232 q232
         obtain rfl : ad230 = ad232 := (by injection e232)
         have HR232_1 := AM hi232_1
         have HC232_1 := AM hl232_1
         clear hi232_1 hl232_1
         replace p232 := eq_true p232
         replace q232 := eq_true q232
         have ea_ := Option.some.inj (hx230_1.symm.trans hx232_1)
         injection ea_ with ea_ en_ ec_
         subst ea_
         subst ec_
         clear en_
         go_wp2_with (first | (go_at_call 23; (with_reducible refine (lineageref13_Same.calls k1 _ _ ((rd_T73 l0 x5_1).f1) _ _ ((rd_T73 l1 x5_1).f1) true _ ?side1 ?side2 ?side3 ?side4 A8.out).mono ?_); (case side1 => repeat (first | exact HR231_1.out | (with_reducible refine Kd.C_alloc ?_ _) | (with_reducible refine Kd.C_drewN ?_ _) | (with_reducible refine Kd.C_drew ?_))); (case side2 => exact HC231_1.out); (case side3 => repeat (first | exact HR232_1.out | (with_reducible refine Kd.C_alloc ?_ _) | (with_reducible refine Kd.C_drewN ?_ _) | (with_reducible refine Kd.C_drew ?_))); (case side4 => exact HC232_1.out); rintro e w' ⟨rfl, ⟨nd, rfl⟩⟩; (try first | exact ⟨rfl, _, World.drewN_drewN _ _ _⟩ | exact ⟨rfl, _, Eq.trans (World.drewN_drewN _ _ _) (congrArg (World.drewN _) (Nat.add_assoc _ _ _))⟩)))
         repeat (go_quiet (first | (go_at_call 23; (with_reducible refine (lineageref13_Same.calls k1 _ _ ((rd_T73 l0 x5_1).f1) _ _ ((rd_T73 l1 x5_1).f1) true _ ?side1 ?side2 ?side3 ?side4 A8.out).mono ?_); (case side1 => repeat (first | exact HR231_1.out | (with_reducible refine Kd.C_alloc ?_ _) | (with_reducible refine Kd.C_drewN ?_ _) | (with_reducible refine Kd.C_drew ?_))); (case side2 => exact HC231_1.out); (case side3 => repeat (first | exact HR232_1.out | (with_reducible refine Kd.C_alloc ?_ _) | (with_reducible refine Kd.C_drewN ?_ _) | (with_reducible refine Kd.C_drew ?_))); (case side4 => exact HC232_1.out); rintro e w' ⟨rfl, ⟨nd, rfl⟩⟩; (try first | exact ⟨rfl, _, World.drewN_drewN _ _ _⟩ | exact ⟨rfl, _, Eq.trans (World.drewN_drewN _ _ _) (congrArg (World.drewN _) (Nat.add_assoc _ _ _))⟩))); try go_wp2_with (first | (go_at_call 23; (with_reducible refine (lineageref13_Same.calls k1 _ _ ((rd_T73 l0 x5_1).f1) _ _ ((rd_T73 l1 x5_1).f1) true _ ?side1 ?side2 ?side3 ?side4 A8.out).mono ?_); (case side1 => repeat (first | exact HR231_1.out | (with_reducible refine Kd.C_alloc ?_ _) | (with_reducible refine Kd.C_drewN ?_ _) | (with_reducible refine Kd.C_drew ?_))); (case side2 => exact HC231_1.out); (case side3 => repeat (first | exact HR232_1.out | (with_reducible refine Kd.C_alloc ?_ _) | (with_reducible refine Kd.C_drewN ?_ _) | (with_reducible refine Kd.C_drew ?_))); (case side4 => exact HC232_1.out); rintro e w' ⟨rfl, ⟨nd, rfl⟩⟩; (try first | exact ⟨rfl, _, World.drewN_drewN _ _ _⟩ | exact ⟨rfl, _, Eq.trans (World.drewN_drewN _ _ _) (congrArg (World.drewN _) (Nat.add_assoc _ _ _))⟩))))
         go_roundg k1
         case measure => have := HK1.out; omega
         case rel => exact ⟨(wrap64 (x5_1 + 1)), (by first | rfl | (simp; done) | (simp [*]; done)), H', ⟨by have := HK1.out; omega⟩, by repeat (first | exact Drawn0.refl _ | apply Drawn0.step)⟩
        ·replace c9 := Bool.eq_false_iff.mpr c9
         subst c9
         have H1 : (some false) = some r := by rw [if_neg (show ¬ (false = true) by decide)] at H; exact H
         clear H
         have H := H1
         clear H1
         obtain rfl := Option.some.inj H
         have p229 : 0 ≤ (x5_1 : Int) := of_decide_eq_true (by first | (with_reducible assumption) | assumption)
         have q229 : x5_1 < (l0.length : Int) := of_decide_eq_true (by first | (with_reducible assumption) | assumption)
         obtain ⟨ad229, A229_1, c229_1, e229, hx229_0, hx229_1, hl229_1, hi229_1⟩ := at_T73 HR0.out x5_1 p229 q229
         cases e229
         have HR229_1 := AM hi229_1
         have HC229_1 := AM hl229_1
         clear hi229_1 hl229_1
         replace p229 := eq_true p229
         replace q229 := eq_true q229
         have p230 : 0 ≤ (x5_1 : Int) := of_decide_eq_true (by first | (with_reducible assumption) | assumption)
         have q230 : x5_1 < (l1.length : Int) := of_decide_eq_true (by first | (with_reducible assumption) | assumption)
         obtain ⟨ad230, A230_1, c230_1, e230, hx230_0, hx230_1, hl230_1, hi230_1⟩ := at_T73 HR1.out x5_1 p230 q230
         cases e230
         have HR230_1 := AM hi230_1
         have HC230_1 := AM hl230_1
         clear hi230_1 hl230_1
         replace p230 := eq_true p230
         replace q230 := eq_true q230
         have p231 : 0 ≤ (x5_1 : Int) := of_decide_eq_true (by first | (with_reducible assumption) | assumption)
         have q231 : x5_1 < (l0.length : Int) := of_decide_eq_true (by first | (with_reducible assumption) | assumption)
         obtain ⟨ad231, A231_1, c231_1, e231, hx231_0, hx231_1, hl231_1, hi231_1⟩ := at_T73 HR0.out x5_1 p231 q231
         obtain rfl : ad229 = ad231 := (by injection e231)
         have HR231_1 := AM hi231_1
         have HC231_1 := AM hl231_1
         clear hi231_1 hl231_1
         replace p231 := eq_true p231
         replace q231 := eq_true q231
         have ea_ := Option.some.inj (hx229_1.symm.trans hx231_1)
         injection ea_ with ea_ en_ ec_
         subst ea_
         subst ec_
         clear en_
         have p232 : 0 ≤ (x5_1 : Int) := of_decide_eq_true (by first | (with_reducible assumption) | assumption)
         have q232 : x5_1 < (l1.length : Int) := of_decide_eq_true (by first | (with_reducible assumption) | assumption)
         obtain ⟨ad232, A232_1, c232_1, e232, hx232_0, hx232_1, hl232_1, hi232_1⟩ := at_T73 HR1.out x5_1 p232 q232
         obtain rfl : ad230 = ad232 := (by injection e232)
         have HR232_1 := AM hi232_1
         have HC232_1 := AM hl232_1
         clear hi232_1 hl232_1
         replace p232 := eq_true p232
         replace q232 := eq_true q232
         have ea_ := Option.some.inj (hx230_1.symm.trans hx232_1)
         injection ea_ with ea_ en_ ec_
         subst ea_
         subst ec_
         clear en_
         go_wp2_with (first | (go_at_call 23; (with_reducible refine (lineageref13_Same.calls k1 _ _ ((rd_T73 l0 x5_1).f1) _ _ ((rd_T73 l1 x5_1).f1) false _ ?side1 ?side2 ?side3 ?side4 A8.out).mono ?_); (case side1 => repeat (first | exact HR231_1.out | (with_reducible refine Kd.C_alloc ?_ _) | (with_reducible refine Kd.C_drewN ?_ _) | (with_reducible refine Kd.C_drew ?_))); (case side2 => exact HC231_1.out); (case side3 => repeat (first | exact HR232_1.out | (with_reducible refine Kd.C_alloc ?_ _) | (with_reducible refine Kd.C_drewN ?_ _) | (with_reducible refine Kd.C_drew ?_))); (case side4 => exact HC232_1.out); rintro e w' ⟨rfl, ⟨nd, rfl⟩⟩; (try first | exact ⟨rfl, _, World.drewN_drewN _ _ _⟩ | exact ⟨rfl, _, Eq.trans (World.drewN_drewN _ _ _) (congrArg (World.drewN _) (Nat.add_assoc _ _ _))⟩)))
         repeat (go_quiet (first | (go_at_call 23; (with_reducible refine (lineageref13_Same.calls k1 _ _ ((rd_T73 l0 x5_1).f1) _ _ ((rd_T73 l1 x5_1).f1) false _ ?side1 ?side2 ?side3 ?side4 A8.out).mono ?_); (case side1 => repeat (first | exact HR231_1.out | (with_reducible refine Kd.C_alloc ?_ _) | (with_reducible refine Kd.C_drewN ?_ _) | (with_reducible refine Kd.C_drew ?_))); (case side2 => exact HC231_1.out); (case side3 => repeat (first | exact HR232_1.out | (with_reducible refine Kd.C_alloc ?_ _) | (with_reducible refine Kd.C_drewN ?_ _) | (with_reducible refine Kd.C_drew ?_))); (case side4 => exact HC232_1.out); rintro e w' ⟨rfl, ⟨nd, rfl⟩⟩; (try first | exact ⟨rfl, _, World.drewN_drewN _ _ _⟩ | exact ⟨rfl, _, Eq.trans (World.drewN_drewN _ _ _) (congrArg (World.drewN _) (Nat.add_assoc _ _ _))⟩))); try go_wp2_with (first | (go_at_call 23; (with_reducible refine (lineageref13_Same.calls k1 _ _ ((rd_T73 l0 x5_1).f1) _ _ ((rd_T73 l1 x5_1).f1) false _ ?side1 ?side2 ?side3 ?side4 A8.out).mono ?_); (case side1 => repeat (first | exact HR231_1.out | (with_reducible refine Kd.C_alloc ?_ _) | (with_reducible refine Kd.C_drewN ?_ _) | (with_reducible refine Kd.C_drew ?_))); (case side2 => exact HC231_1.out); (case side3 => repeat (first | exact HR232_1.out | (with_reducible refine Kd.C_alloc ?_ _) | (with_reducible refine Kd.C_drewN ?_ _) | (with_reducible refine Kd.C_drew ?_))); (case side4 => exact HC232_1.out); rintro e w' ⟨rfl, ⟨nd, rfl⟩⟩; (try first | exact ⟨rfl, _, World.drewN_drewN _ _ _⟩ | exact ⟨rfl, _, Eq.trans (World.drewN_drewN _ _ _) (congrArg (World.drewN _) (Nat.add_assoc _ _ _))⟩))))
         go_ret
         exact ⟨by first | rfl | (simp; done) | (simp [*]; done), by repeat (first | exact Drawn0.refl _ | apply Drawn0.step)⟩
       ·rw [if_neg c7] at H
        have c7b0 : (((rd_T73 l0 x5_1).f0) == ((rd_T73 l1 x5_1).f0)) = false := beq_eq_false_iff_ne.mpr c7
        have c7b1 : (((rd_T73 l0 x5_1).f0) != ((rd_T73 l1 x5_1).f0)) = true := bne_iff_ne.mpr c7
        obtain rfl := Option.some.inj H
        have p229 : 0 ≤ (x5_1 : Int) := of_decide_eq_true (by first | (with_reducible assumption) | assumption)
        have q229 : x5_1 < (l0.length : Int) := of_decide_eq_true (by first | (with_reducible assumption) | assumption)
        obtain ⟨ad229, A229_1, c229_1, e229, hx229_0, hx229_1, hl229_1, hi229_1⟩ := at_T73 HR0.out x5_1 p229 q229
        cases e229
        have HR229_1 := AM hi229_1
        have HC229_1 := AM hl229_1
        clear hi229_1 hl229_1
        replace p229 := eq_true p229
        replace q229 := eq_true q229
        have p230 : 0 ≤ (x5_1 : Int) := of_decide_eq_true (by first | (with_reducible assumption) | assumption)
        have q230 : x5_1 < (l1.length : Int) := of_decide_eq_true (by first | (with_reducible assumption) | assumption)
        obtain ⟨ad230, A230_1, c230_1, e230, hx230_0, hx230_1, hl230_1, hi230_1⟩ := at_T73 HR1.out x5_1 p230 q230
        cases e230
        have HR230_1 := AM hi230_1
        have HC230_1 := AM hl230_1
        clear hi230_1 hl230_1
        replace p230 := eq_true p230
        replace q230 := eq_true q230
        go_wp2
        repeat (go_quiet (fail); try go_wp2)
        go_ret
        exact ⟨by first | rfl | (simp; done) | (simp [*]; done), by repeat (first | exact Drawn0.refl _ | apply Drawn0.step)⟩
      ·rw [if_neg c6] at H
       exact absurd H (by simp)
     ·rw [if_neg c5] at H
      exact absurd H (by simp)
    ·rw [if_neg c4] at H
     have c4b0 : decide (x5_1 < (l0.length : Int)) = false := decide_eq_false c4
     clear c4
     obtain rfl := Option.some.inj H
     go_wp2
     repeat (go_quiet (fail); try go_wp2)
     go_ret
     exact ⟨by first | rfl | (simp; done) | (simp [*]; done), by repeat (first | exact Drawn0.refl _ | apply Drawn0.step)⟩
 ·rw [if_neg c3] at H
  have c3b0 : ((l0.length : Int) == (l1.length : Int)) = false := beq_eq_false_iff_ne.mpr c3
  have c3b1 : ((l0.length : Int) != (l1.length : Int)) = true := bne_iff_ne.mpr c3
  have c3b2 : (l0.length == l1.length) = false := by first | simpa using c3 | (simp at c3 ⊢; omega)
  obtain rfl := Option.some.inj H
  go_enter Try.func40, Try.ntmps40
  go_wp2
  repeat (go_quiet (fail); try go_wp2)
  go_ret
  exact ⟨by first | rfl | (simp; done) | (simp [*]; done), by repeat (first | exact Drawn0.refl _ | apply Drawn0.step)⟩
-- NOT PRINTED: function 42 (lineagelaw15_contents)
-- NOT PRINTED: function 11 (lineagelaw15_WalOpen)
-- NOT PRINTED: function 58 (disk_Disk_apply)
-- NOT PRINTED: function 22 (disk_Disk_Crash)
end Go.Proofs.Ytbbokpkpdnppjaa.G
