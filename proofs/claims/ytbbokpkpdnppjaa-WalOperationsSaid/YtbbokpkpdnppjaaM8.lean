/- The log: a round of Open's loop. -/
import Derived.Test.YtbbokpkpdnppjaaU0
import Derived.Test.YtbbokpkpdnppjaaUA
import Derived.Test.YtbbokpkpdnppjaaM7
namespace Go.Proofs.Ytbbokpkpdnppjaa
open Go.RowKit Go.Proofs.YtbbokpkpdnppjaaW.PrintWords Go.Proofs.YtbbokpkpdnppjaaW.PrintLast Go.Proofs.YtbbokpkpdnppjaaW.PrintMore
set_option linter.unusedVariables false
set_option linter.unusedSimpArgs false
attribute [local go_sem] Oper.semAt_some
inductive Path (b : List Int) (base : Int) : Nat → List G.S73 → Prop
 | nil : Path b base 24 []
 | snoc {at_ : Nat} {rs : List G.S73} {n : Nat} (h : Path b base at_ rs) (hf : frameAt b base at_ = some n) : Path b base (at_ + 16 + n) (rs ++ [⟨base + at_ - 24, (b.take (at_ + 16 + n)).drop (at_ + 16)⟩])
theorem frameAt_le {b : List Int} {base : Int} {at_ n : Nat} (h : frameAt b base at_ = some n) : at_ + 16 + n ≤ b.length := by
 unfold frameAt at h
 split at h
 ·rename_i hc
  cases h
  omega
 ·cases h
theorem Path.le {b : List Int} {base : Int} {at_ : Nat} {rs : List G.S73} (h24 : 24 ≤ b.length) (h : Path b base at_ rs) : at_ ≤ b.length ∧ 24 ≤ at_ ∧ rs.length ≤ at_ := by
 induction h with
 | nil => exact ⟨h24, Nat.le_refl _, by simp⟩
 | snoc h hf ih => exact ⟨frameAt_le hf, by omega, by simp; omega⟩
def OpenJ (b : List Int) (base : Int) (w0 Wn : World) (Q1 : Nat → Prop) (g gd l : Nat) (slot : Int) (D : Dk) (rec : Loop) (at_ : Nat) (rs : List G.S73) (W' : World) : Prop :=
 Path b base at_ rs ∧ (∀ k, k < Wn.heap.size → k ≠ g → k ≠ l → W'.heap[k]? = Wn.heap[k]?) ∧ W'.heap[l]? = some (.loop rec) ∧ ∃ Q' rok, (∀ k, Q1 k → Q' k) ∧ (∀ k, rok k → Wn.heap.size ≤ k) ∧ LogS w0 W' Q' rok g gd ⟨slot, base, base + at_ - 24, base, rs⟩ D
theorem OpenJ.below {b : List Int} {base : Int} {w0 Wn : World} {Q1 : Nat → Prop} {g gd l : Nat} {slot : Int} {D : Dk} {rec : Loop} {at_ : Nat} {rs : List G.S73} {W W' : World} (hs : Wn.heap.size ≤ W.heap.size) (h : OpenJ b base w0 Wn Q1 g gd l slot D rec at_ rs W) (hb : Below W.heap.size W W') : OpenJ b base w0 Wn Q1 g gd l slot D rec at_ rs W' := by
 obtain ⟨h1, h2, h3, Q', rok, h4, h5, h6⟩ := h
 exact ⟨h1, fun k hk hg hl => (hb.block k (by omega)).trans (h2 k hk hg hl), (hb.block l (Array.getElem?_eq_some_iff.1 h3).1).trans h3, Q', rok, h4, h5, h6.step hb⟩
theorem OpenJ.put {b : List Int} {base : Int} {w0 Wn : World} {Q1 : Nat → Prop} {g gd l : Nat} {slot : Int} {D : Dk} {rec : Loop} {at_ : Nat} {rs : List G.S73} {W : World} (hl : Q1 l) (hw : w0.heap.size ≤ l) (hn : l < Wn.heap.size) (hg : l ≠ g) (h : OpenJ b base w0 Wn Q1 g gd l slot D rec at_ rs W) (rec' : Loop) : OpenJ b base w0 Wn Q1 g gd l slot D rec' at_ rs (W.putObj l (.loop rec')) := by
 obtain ⟨h1, h2, h3, Q', rok, h4, h5, hs, v, h6, h7, h8, h9, h10⟩ := h
 refine ⟨h1, fun k hk hg hl' => (World.putObj_heap_other hl').trans (h2 k hk hg hl'), World.putObj_heap_same (Array.getElem?_eq_some_iff.1 h3).1, Q', rok, h4, h5, hs.putD l (h4 l hl) hw _, v, (World.putObj_heap_other (Ne.symm hg)).trans h6, ?_, h8, h9, h10⟩
 exact Kd.N_step h7 (fun k hk _ => World.putObj_heap_other (fun e => by have := h5 k hk; omega))
def rangeOf : Code → Option (Code × Code)
 | .rangeFunc _ _ a b => some (a, b)
 | .seq x y => (rangeOf x).orElse (fun _ => rangeOf y)
 | .block _ c => rangeOf c
 | _ => none
set_option maxRecDepth 100000 in
set_option maxHeartbeats 8000000 in
theorem open_round {b : List Int} {base : Int} (hb0 : 0 ≤ base) (hb1 : base ≤ 4611686018427387904) (h24 : 24 ≤ b.length) (hm : b.length ≤ 4194304) {w0 Wn : World} {Q1 : Nat → Prop} {g gd l b6 : Nat} {slot : Int} {D : Dk} (hl : Q1 l) (hw : w0.heap.size ≤ l) (hn : l < Wn.heap.size) (hg : l ≠ g) (hg6 : b6 ≠ g) (hl6 : b6 ≠ l)
  (h6 : Wn.heap[b6]? = some (.cells #[.pointer (some ⟨g, 0, none⟩)] 59 (0, 0)))
  (u0 u1 u2 u3 u4 u5 u7 u8 u9 u10 u11 u12 u13 u14 u15 u16 u17 u18 u19 u20 u21 u22 u23 u24 u25 u26 u27 u28 u29 u30 u31 u32 u33 u34 u35 u36 u37 u38 u39 u40 u41 u42 u43 u44 u45 u46 u47 u48 u49 u50 u51 u52 u53 u54 u55 u56 u57 u58 u59 u60 u61 u62 u63 u64 u65 u66 u67 u68 u69 u70 u71 u72 u73 u74 u75 u76 u77 u78 u79 u80 u81 u82 u83 u84 u85 u86 u87 u88 u89 u90 u91 u92 u93 u94 u95 u96 u97 : Value) (assign body : Code) (hcode : Try.f36.body.bind rangeOf = some (assign, body)) (fn m Dd : Nat)
  {at_ : Nat} {rs : List G.S73} {n : Nat} {W W' : World} {Ac : Option Addr} {cc : Nat} (hs : Wn.heap.size ≤ W.heap.size)
  (hJ : OpenJ b base w0 Wn Q1 g gd l slot D { state := .ready, pending := none, fn := fn, tmps := (u0 :: u1 :: u2 :: u3 :: u4 :: u5 :: .pointer (some ⟨b6, 0, none⟩) :: u7 :: u8 :: u9 :: u10 :: u11 :: u12 :: u13 :: u14 :: u15 :: u16 :: u17 :: u18 :: u19 :: u20 :: u21 :: u22 :: u23 :: u24 :: u25 :: u26 :: u27 :: u28 :: u29 :: u30 :: u31 :: u32 :: u33 :: u34 :: u35 :: u36 :: u37 :: u38 :: u39 :: u40 :: u41 :: u42 :: u43 :: u44 :: u45 :: u46 :: u47 :: u48 :: u49 :: u50 :: u51 :: u52 :: u53 :: u54 :: u55 :: u56 :: u57 :: u58 :: u59 :: u60 :: u61 :: u62 :: u63 :: u64 :: u65 :: u66 :: u67 :: u68 :: u69 :: u70 :: u71 :: u72 :: u73 :: u74 :: u75 :: u76 :: u77 :: u78 :: u79 :: u80 :: u81 :: u82 :: u83 :: u84 :: u85 :: u86 :: u87 :: u88 :: u89 :: u90 :: u91 :: u92 :: u93 :: u94 :: u95 :: u96 :: u97 :: []).toArray, params := #[58], assign := assign, body := body, defers := Dd } at_ rs W) (hb : Below W.heap.size W W')
  (hf : frameAt b base at_ = some n) (hr : Kd.R (Kd.int .u8) 5 W' W.heap.size (fun _ => True) (.slice Ac n cc) ((b.take (at_ + 16 + n)).drop (at_ + 16))) :
  YieldAt Fence.wide m Try.prog l #[.agg #[.int .i64 (base + at_ - 24), .slice Ac n cc]] W' fun e W1 => e = .returned (.bool true) ∧ Wn.heap.size ≤ W1.heap.size ∧ OpenJ b base w0 Wn Q1 g gd l slot D { state := .ready, pending := none, fn := fn, tmps := (u0 :: u1 :: u2 :: u3 :: u4 :: u5 :: .pointer (some ⟨b6, 0, none⟩) :: u7 :: u8 :: u9 :: u10 :: u11 :: u12 :: u13 :: u14 :: u15 :: u16 :: u17 :: u18 :: u19 :: u20 :: u21 :: u22 :: u23 :: u24 :: u25 :: u26 :: u27 :: u28 :: u29 :: u30 :: u31 :: u32 :: u33 :: u34 :: u35 :: u36 :: u37 :: u38 :: u39 :: u40 :: u41 :: u42 :: u43 :: u44 :: u45 :: u46 :: u47 :: u48 :: u49 :: u50 :: u51 :: u52 :: u53 :: u54 :: u55 :: u56 :: u57 :: u58 :: u59 :: u60 :: u61 :: u62 :: u63 :: u64 :: u65 :: u66 :: u67 :: u68 :: u69 :: u70 :: u71 :: u72 :: u73 :: u74 :: u75 :: u76 :: u77 :: u78 :: u79 :: u80 :: u81 :: u82 :: u83 :: u84 :: u85 :: u86 :: u87 :: u88 :: u89 :: u90 :: u91 :: u92 :: u93 :: u94 :: u95 :: u96 :: u97 :: []).toArray, params := #[58], assign := assign, body := body, defers := Dd } (at_ + 16 + n) (rs ++ [⟨base + at_ - 24, (b.take (at_ + 16 + n)).drop (at_ + 16)⟩]) W1 := by
 have hl' : W'.heap[l]? = _ := (hb.block l (Array.getElem?_eq_some_iff.1 hJ.2.2.1).1).trans hJ.2.2.1
 have hy : (Instr.yield l #[.agg #[.int .i64 (base + at_ - 24), .slice Ac n cc]]).run Try.prog W' = .ok (.round l fn (u0 :: u1 :: u2 :: u3 :: u4 :: u5 :: .pointer (some ⟨b6, 0, none⟩) :: u7 :: u8 :: u9 :: u10 :: u11 :: u12 :: u13 :: u14 :: u15 :: u16 :: u17 :: u18 :: u19 :: u20 :: u21 :: u22 :: u23 :: u24 :: u25 :: u26 :: u27 :: u28 :: u29 :: u30 :: u31 :: u32 :: u33 :: u34 :: u35 :: u36 :: u37 :: u38 :: u39 :: u40 :: u41 :: u42 :: u43 :: u44 :: u45 :: u46 :: u47 :: u48 :: u49 :: u50 :: u51 :: u52 :: u53 :: u54 :: u55 :: u56 :: u57 :: .agg #[.int .i64 (base + at_ - 24), .slice Ac n cc] :: u59 :: u60 :: u61 :: u62 :: u63 :: u64 :: u65 :: u66 :: u67 :: u68 :: u69 :: u70 :: u71 :: u72 :: u73 :: u74 :: u75 :: u76 :: u77 :: u78 :: u79 :: u80 :: u81 :: u82 :: u83 :: u84 :: u85 :: u86 :: u87 :: u88 :: u89 :: u90 :: u91 :: u92 :: u93 :: u94 :: u95 :: u96 :: u97 :: []).toArray assign body) W' := by
  rw [run_yield hl' rfl]
  simp
 refine ⟨fn, (u0 :: u1 :: u2 :: u3 :: u4 :: u5 :: .pointer (some ⟨b6, 0, none⟩) :: u7 :: u8 :: u9 :: u10 :: u11 :: u12 :: u13 :: u14 :: u15 :: u16 :: u17 :: u18 :: u19 :: u20 :: u21 :: u22 :: u23 :: u24 :: u25 :: u26 :: u27 :: u28 :: u29 :: u30 :: u31 :: u32 :: u33 :: u34 :: u35 :: u36 :: u37 :: u38 :: u39 :: u40 :: u41 :: u42 :: u43 :: u44 :: u45 :: u46 :: u47 :: u48 :: u49 :: u50 :: u51 :: u52 :: u53 :: u54 :: u55 :: u56 :: u57 :: .agg #[.int .i64 (base + at_ - 24), .slice Ac n cc] :: u59 :: u60 :: u61 :: u62 :: u63 :: u64 :: u65 :: u66 :: u67 :: u68 :: u69 :: u70 :: u71 :: u72 :: u73 :: u74 :: u75 :: u76 :: u77 :: u78 :: u79 :: u80 :: u81 :: u82 :: u83 :: u84 :: u85 :: u86 :: u87 :: u88 :: u89 :: u90 :: u91 :: u92 :: u93 :: u94 :: u95 :: u96 :: u97 :: []).toArray, assign, body, hy, roundIn_of_wpIn trivial ?_⟩
 clear hy
 have hdl : ((b.take (at_ + 16 + n)).drop (at_ + 16)).length = n := by have := frameAt_le hf; rw [List.length_drop, List.length_take]; omega
 have hpl := hJ.1.le h24
 have hfl := frameAt_le hf
 have hpath := hJ.1.snoc hf
 generalize (b.take (at_ + 16 + n)).drop (at_ + 16) = data at hdl hr hpath ⊢
 subst hdl
 obtain ⟨h1, hk1, hl1, Q', rok, hq1, hro1, hs1, v, hg1, hn1, hr1, hQg, hwg⟩ := hJ
 obtain ⟨Av, cv, rfl⟩ := Kd.N_slice hn1
 generalize hnv : rs.length = nv at hg1 hn1
 have hsz := hb.size
 have hgW := blk_lt hg1
 have hlW := (Array.getElem?_eq_some_iff.1 hl1).1
 obtain ⟨b7, hb7⟩ : ∃ b7, b7 = W'.heap.size := ⟨_, rfl⟩
 have hba : Below W'.heap.size W' (W'.alloc (.cells #[.int .i64 (base + at_ - 24), .slice Ac data.length cc] 73)) := below_alloc (Below.refl _ _) _
 have hBa : (W'.alloc (.cells #[.int .i64 (base + at_ - 24), .slice Ac data.length cc] 73)).heap[b7]? = some (.cells #[.int .i64 (base + at_ - 24), .slice Ac data.length cc] 73 (0, 0)) := by rw [hb7]; exact heap_alloc_new W' _
 have hza : (W'.alloc (.cells #[.int .i64 (base + at_ - 24), .slice Ac data.length cc] 73)).heap.size = b7 + 1 := by rw [hb7, World.size_alloc]
 have hcode' := hcode
 simp only [Try.f36, Option.bind_some, rangeOf, Option.orElse, Option.some.injEq, Prod.mk.injEq] at hcode'
 obtain ⟨hca, hcb⟩ := hcode'
 generalize hrec : ({ state := .ready, pending := none, fn := fn, tmps := (u0 :: u1 :: u2 :: u3 :: u4 :: u5 :: .pointer (some ⟨b6, 0, none⟩) :: u7 :: u8 :: u9 :: u10 :: u11 :: u12 :: u13 :: u14 :: u15 :: u16 :: u17 :: u18 :: u19 :: u20 :: u21 :: u22 :: u23 :: u24 :: u25 :: u26 :: u27 :: u28 :: u29 :: u30 :: u31 :: u32 :: u33 :: u34 :: u35 :: u36 :: u37 :: u38 :: u39 :: u40 :: u41 :: u42 :: u43 :: u44 :: u45 :: u46 :: u47 :: u48 :: u49 :: u50 :: u51 :: u52 :: u53 :: u54 :: u55 :: u56 :: u57 :: u58 :: u59 :: u60 :: u61 :: u62 :: u63 :: u64 :: u65 :: u66 :: u67 :: u68 :: u69 :: u70 :: u71 :: u72 :: u73 :: u74 :: u75 :: u76 :: u77 :: u78 :: u79 :: u80 :: u81 :: u82 :: u83 :: u84 :: u85 :: u86 :: u87 :: u88 :: u89 :: u90 :: u91 :: u92 :: u93 :: u94 :: u95 :: u96 :: u97 :: []).toArray, params := #[58], assign := assign, body := body, defers := Dd } : Loop) = rec at hl1 hl' ⊢
 have hready : rec.state = .ready := by rw [← hrec]
 have hback : ({ ({ rec with state := .busy } : Loop) with state := if (none : Option Code).isNone then .ready else .done, pending := none } : Loop) = rec := by rw [← hrec]; rfl
 rw [← hca, ← hcb]
 have HRECS := AM (And.intro hrec (And.intro hca hcb))
 clear hrec hca hcb hcode
 have h0W : ∀ k, (Value.slice Ac data.length cc).ownBlock = some k → W.heap.size ≤ k ∧ k < W'.heap.size := fun k hk => ⟨Kd.R_base hr k hk, Kd.R_lt hr k hk⟩
 have hCc := (Kd.R_reads' hr).2.1
 have hFC : Kd.F (Kd.int .u8) W' (fun k => (Value.slice Ac data.length cc).ownBlock = some k) Ac data.length data := Kd.R_F (R_own_ok hr)
 have hS1 := hs1.fenced hb
 have hN1 := Kd.N_below hn1 hb
 have hS2 := hS1.fenced hba
 have HS2 := AM hS2
 have HG1 := AM ((hb.block g hgW).trans hg1)
 have HN1 := AM hN1
 have HFC := AM hFC
 have HOWN := AM h0W
 have HQ1 := AM hq1
 have HRO1 := AM hro1
 have HRO := AM hr1
 have HK1 := AM (show ∀ k, k < Wn.heap.size → k ≠ g → k ≠ l → W'.heap[k]? = Wn.heap[k]? from fun k hk hg hl => (hb.block k (by omega)).trans (hk1 k hk hg hl))
 have HL1 := AM hl'
 have HPATH := AM hpath
 have HBA := AM (And.intro hba hBa)
 have HBACK := AM hback
 have HQL := AM (show ∀ k, Q' k → k < W.heap.size from fun k hk => hs1.lt k hk)
 clear hr hS1 hS2 hN1 hFC h0W hq1 hro1 hr1 hk1 hg1 hn1 hs1 hl1 hl' h1 hpath hb hba hBa hback
 gi_wp2_with fail
 rw [← hb7]
 generalize hWa : W'.alloc (.cells #[.int .i64 (base + at_ - 24), .slice Ac data.length cc] 73) = Wa at hza HBA HS2 ⊢
 clear hWa
 have hLa : Wa.heap[l]? = some (.loop rec) := (HBA.out.1.block l (by omega)).trans HL1.out
 refine ⟨_, run_beginRound hLa hready, ?_⟩
 have hSb := HS2.out.putD l (.inl (.inl (HQ1.out l hl))) hw (.loop { rec with state := .busy })
 have hKb : ∀ k, k < b7 → k ≠ l → (Wa.putObj l (.loop { rec with state := .busy })).heap[k]? = W'.heap[k]? := fun k hk hl => (World.putObj_heap_other hl).trans (HBA.out.1.block k (by omega))
 have hBb : (Wa.putObj l (.loop { rec with state := .busy })).heap[b7]? = some (.cells #[.int .i64 (base + at_ - 24), .slice Ac data.length cc] 73 (0, 0)) := (World.putObj_heap_other (by omega)).trans HBA.out.2
 have hLb : (Wa.putObj l (.loop { rec with state := .busy })).heap[l]? = some (.loop { rec with state := .busy }) := World.putObj_heap_same (Array.getElem?_eq_some_iff.1 hLa).1
 have hzb : (Wa.putObj l (.loop { rec with state := .busy })).heap.size = b7 + 1 := by rw [← hza]; simp
 rw [← hb7] at hSb
 generalize Wa.putObj l (.loop { rec with state := .busy }) = Wb at hSb hKb hBb hLb hzb ⊢
 have HSb := AM hSb
 have HKb := AM hKb
 have HBb := AM hBb
 have HLb := AM hLb
 clear hSb hKb hBb hLb hLa HS2 HBA
 have hgb7 : g < b7 := by have := blk_lt HG1.out; omega
 have hlb7 : l < b7 := by omega
 have h6b7 : b6 < b7 := by have := blk_lt h6; omega
 have hWb7 : W.heap.size ≤ b7 := by omega
 have hW7 : W'.heap.size = b7 := hb7.symm
 have h6n := blk_lt h6
 clear hb7
 have hXb : Wb.heap[b6]? = some (.cells #[.pointer (some ⟨g, 0, none⟩)] 59 (0, 0)) := (HKb.out b6 h6b7 hl6).trans ((HK1.out b6 h6n hg6 hl6).trans h6)
 have hGb := (HKb.out g hgb7 (Ne.symm hg)).trans HG1.out
 have hOK := AM (show ∀ k, rok k → k ≠ b6 ∧ k ≠ b7 ∧ k ≠ l ∧ k < W.heap.size from fun k hk => by
  have h1 := HRO1.out k hk
  have h2 := HQL.out k (HRO.out k hk).1
  omega)
 have HXb := AM hXb
 have HGb := AM hGb
 clear hXb hGb
 gi_wp2_with fail
 refine start_in (S := fun w' => w'.cell? ⟨b6, 0, none⟩ = some (.pointer (some ⟨g, 0, none⟩)) ∧ w'.cell? ⟨g, 5, none⟩ = some (.slice Av nv cv) ∧ w'.cell? ⟨b7, 0, none⟩ = some (.int .i64 (base + (at_ : Int) - 24)) ∧ w'.cell? ⟨b7, 1, none⟩ = some (.slice Ac data.length cc)) (ds := [10]) (k := 11) l m (bt 11 0) (by kernel_rfl) (fun ⟨_, _, hx⟩ => hx) (by kernel_rfl) rfl rfl ⟨(blk_cell (w := Wb) HXb.out 0).trans rfl, (blk_cell (w := Wb) HGb.out 5).trans rfl, (blk_cell (w := Wb) HBb.out 0).trans rfl, (blk_cell (w := Wb) HBb.out 1).trans rfl⟩ (fun hHeld => ?_)
 have hbd : Below Wb.heap.size Wb Wb.drew := below_drew (Below.refl _ _)
 have HSd := AM (HSb.out.step hbd)
 have HKd := AM (show ∀ k, k < b7 → k ≠ l → Wb.drew.heap[k]? = W'.heap[k]? from HKb.out)
 have hBd : Wb.drew.heap[b7]? = some (.cells #[.int .i64 (base + (at_ : Int) - 24), .slice Ac data.length cc] 73 (0, 0)) := HBb.out
 have HLd := AM (show Wb.drew.heap[l]? = some (.loop { rec with state := .busy }) from HLb.out)
 have hXd : Wb.drew.heap[b6]? = some (.cells #[.pointer (some ⟨g, 0, none⟩)] 59 (0, 0)) := HXb.out
 have hGd : Wb.drew.heap[g]? = some (.cells #[.pointer (some ⟨gd, 0, none⟩), .int .i64 slot, .int .i64 base, .int .i64 (base + (at_ : Int) - 24), .int .i64 base, .slice Av nv cv] 108 (0, 0)) := HGb.out
 have hzd : Wb.drew.heap.size = b7 + 1 := hzb
 clear hHeld hbd hzb HSb HKb HBb HLb HXb HGb
 generalize Wb.drew = Wd at HSd HKd hBd HLd hXd hGd hzd ⊢
 have HBd := AM hBd
 have HXd := AM hXd
 have HGd := AM hGd
 clear hBd hXd hGd
 have x6 := (blk_cell HXd.out 0).trans rfl
 have y0 := (blk_cell HBd.out 0).trans rfl
 have y1 := (blk_cell HBd.out 1).trans rfl
 have F0 := (blk_cell HGd.out 0).trans rfl
 have F1 := (blk_cell HGd.out 1).trans rfl
 have F2 := (blk_cell HGd.out 2).trans rfl
 have F3 := (blk_cell HGd.out 3).trans rfl
 have F4 := (blk_cell HGd.out 4).trans rfl
 have F5 := (blk_cell HGd.out 5).trans rfl
 have f0 := blk_frozen HGd.out 0
 have f1 := blk_frozen HGd.out 1
 have f2 := blk_frozen HGd.out 2
 have f3 := blk_frozen HGd.out 3
 have f4 := blk_frozen HGd.out 4
 have f5 := blk_frozen HGd.out 5
 have HNd := AM (Kd.N_step HN1.out (w1 := Wd) (fun k hk hlt => HKd.out k (hW7 ▸ hlt) (hOK.out k hk).2.2.1))
 have HFd := AM (Kd.F_step HFC.out (W1 := Wd) (fun k hk hlt => HKd.out k (hW7 ▸ hlt) (fun e => by have h1 := (HOWN.out k hk).1; omega)))
 have hHeld : Wd.cell? ⟨b6, 0, none⟩ = some (.pointer (some ⟨g, 0, none⟩)) ∧ Wd.cell? ⟨g, 5, none⟩ = some (.slice Av nv cv) ∧ Wd.cell? ⟨b7, 0, none⟩ = some (.int .i64 (base + (at_ : Int) - 24)) ∧ Wd.cell? ⟨b7, 1, none⟩ = some (.slice Ac data.length cc) := ⟨x6, F5, y0, y1⟩
 refine tk 0 (some 59) ?_ (bt 11 1) (by kernel_rfl) hHeld ?_ ?_ ?_ ?_
 rotate_left
 ·rintro w' ⟨s0, s1, s2, s3⟩
  go_simp
  with_reducible rfl
 rotate_left
 ·simp only [pS]
  rfl
 refine tk 1 (some 60) ?_ (bt 11 3) (by kernel_rfl) hHeld ?_ ?_ ?_ ?_
 rotate_left
 ·rintro w' ⟨s0, s1, s2, s3⟩
  go_simp
  with_reducible rfl
 rotate_left
 ·simp only [pS]
  rfl
 refine pu 2 (some 61) ?_ (bt 11 7) (by kernel_rfl) ?_ ?_ ?_ ?_
 rotate_left
 ·intro w'
  go_simp
  with_reducible rfl
 rotate_left
 ·simp only [pS]
  rfl
 refine pu 3 (some 62) ?_ (bt 11 15) (by kernel_rfl) ?_ ?_ ?_ ?_
 rotate_left
 ·intro w'
  go_simp
  with_reducible rfl
 rotate_left
 ·simp only [pS]
  rfl
 refine tk 4 (some 63) ?_ (bt 11 31) (by kernel_rfl) hHeld ?_ ?_ ?_ ?_
 rotate_left
 ·rintro w' ⟨s0, s1, s2, s3⟩
  go_simp
  with_reducible rfl
 rotate_left
 ·simp only [pS]
  rfl
 refine tk 5 (some 64) ?_ (bt 11 63) (by kernel_rfl) hHeld ?_ ?_ ?_ ?_
 rotate_left
 ·rintro w' ⟨s0, s1, s2, s3⟩
  go_simp
  with_reducible rfl
 rotate_left
 ·simp only [pS]
  rfl
 refine one_ (i := 6) (N := some 65) (bt 11 127) rfl rfl (by kernel_rfl) (by decide) (fun K hK => ?_)
 refine value_ (w1 := Wd.alloc (.cells #[.int .i64 (base + (at_ : Int) - 24), .slice Ac data.length cc] 73)) (v := .slice (some ⟨Wd.heap.size, 0, none⟩) 1 1) (by rfl) rfl (by go_simp; try rfl) ?_
 have hal : Below Wd.heap.size Wd (Wd.alloc (.cells #[.int .i64 (base + (at_ : Int) - 24), .slice Ac data.length cc] 73)) := below_alloc (Below.refl _ _) _
 have x6 := (hal.cell (p := ⟨b6, 0, none⟩) (World.block_lt_of_cell? _ _ x6)).trans x6
 have F5 := (hal.cell (p := ⟨g, 5, none⟩) (World.block_lt_of_cell? _ _ F5)).trans F5
 have y0 := (hal.cell (p := ⟨b7, 0, none⟩) (World.block_lt_of_cell? _ _ y0)).trans y0
 have y1 := (hal.cell (p := ⟨b7, 1, none⟩) (World.block_lt_of_cell? _ _ y1)).trans y1
 clear hal
 refine hK.out _ _ ⟨x6, F5, y0, y1⟩ (fun hHeld => ?_)
 clear hK K
 refine norm_ (a' := ?_) ?_ ?_
 rotate_left
 ·show Act.put _ (some 65) _ = _
  simp only [pS]
  rfl
 refine one_ (i := 7) (N := some 66) (bt 11 255) rfl rfl (by kernel_rfl) (by decide) (fun K hK => ?_)
 refine Kd.N_append_step G.k73 (w0 := w0) (W := Wd) w0.heap.size (by rfl) (.tmp 63) (.tmp 65) 62 73 (.agg #[.int .i64 0, .slice none 0 0]) 32 rfl Try.underlying62 G.info73 rfl (by decide) (by omega) (.slice Av nv cv) rs ⟨(base + (at_ : Int) - 24), data⟩ [.int .i64 (base + (at_ : Int) - 24), .slice Ac data.length cc] (fun k => rok k ∨ W.heap.size ≤ k) (fun k => (Value.slice Ac data.length cc).ownBlock = some k) rfl rfl (G.k73_mkF Wd _ ⟨(base + (at_ : Int) - 24), data⟩ hCc HFd.out) (fun k hk => ⟨.inr (HOWN.out k hk).1, fun e => by have h1 := (HOWN.out k hk).1; have h2 := (hOK.out k (HNd.out.1 k e.symm)).2.2.2; omega⟩) (fun k hk => .inr (by omega)) (Kd.N_mono HNd.out (fun k hk => .inl hk)) HSd.out.bel HSd.out.bel.size (by omega) ?_
 intro v1 Wj hn _ hg _
 obtain ⟨A1, c1, rfl⟩ := Kd.N_slice hn
 rw [List.length_append, hnv, List.length_singleton] at hn ⊢
 have Nj := AM hn
 have hown : ∀ b, (Value.slice Av nv cv).ownBlock = some b → Q' b ∧ rok b ∧ b ≠ g ∧ w0.heap.size ≤ b := fun b hb => ⟨(HRO.out b (HNd.out.1 b hb)).1, HNd.out.1 b hb, (HRO.out b (HNd.out.1 b hb)).2, Kd.N_base HNd.out b hb⟩
 have Sj := AM (HSd.out.grownMore hg (fun b hb => ⟨.inl (.inl (hown b hb).1), (hown b hb).2.2.2⟩))
 have hszj := hg.size
 have KJ := AM (show ∀ k, k < b7 + 1 → ¬ rok k → Wj.heap[k]? = Wd.heap[k]? from fun k hk hr => hg.block k (hzd ▸ hk) (fun e => hr (hown k e.symm).2.1))
 clear hn hg hown
 have Gj := AM ((KJ.out g (by omega) (fun hr => (HRO.out g hr).2 rfl)).trans HGd.out)
 have Xj := AM ((KJ.out b6 (by omega) (fun hr => (hOK.out b6 hr).1 rfl)).trans HXd.out)
 have Bj := AM ((KJ.out b7 (by omega) (fun hr => (hOK.out b7 hr).2.1 rfl)).trans HBd.out)
 have Lj := AM ((KJ.out l (by omega) (fun hr => (hOK.out l hr).2.2.1 rfl)).trans HLd.out)
 clear x6 y0 y1
 clear F0 F1 F2 F3 F4 F5 f0 f1 f2 f3 f4 f5
 have x6 := (blk_cell Xj.out 0).trans rfl
 have y0 := (blk_cell Bj.out 0).trans rfl
 have y1 := (blk_cell Bj.out 1).trans rfl
 have F0 := (blk_cell Gj.out 0).trans rfl
 have F1 := (blk_cell Gj.out 1).trans rfl
 have F2 := (blk_cell Gj.out 2).trans rfl
 have F3 := (blk_cell Gj.out 3).trans rfl
 have F4 := (blk_cell Gj.out 4).trans rfl
 have F5 := (blk_cell Gj.out 5).trans rfl
 have f0 := blk_frozen Gj.out 0
 have f1 := blk_frozen Gj.out 1
 have f2 := blk_frozen Gj.out 2
 have f3 := blk_frozen Gj.out 3
 have f4 := blk_frozen Gj.out 4
 have f5 := blk_frozen Gj.out 5
 refine hK.out _ _ ⟨x6, F5, y0, y1⟩ (fun hHeld => ?_)
 clear hK K
 refine norm_ (a' := ?_) ?_ ?_
 rotate_left
 ·show Act.put _ (some 66) _ = _
  simp only [pS]
  rfl
 refine pu 8 (some 67) ?_ (bt 11 511) (by kernel_rfl) ?_ ?_ ?_ ?_
 rotate_left
 ·intro w'
  go_simp
  with_reducible rfl
 rotate_left
 ·simp only [pS]
  rfl
 refine pu 9 (some 68) ?_ (bt 11 1023) (by kernel_rfl) ?_ ?_ ?_ ?_
 rotate_left
 ·intro w'
  go_simp
  with_reducible rfl
 rotate_left
 ·simp only [pS]
  rfl
 refine last_ (i := 10) (N := none) (bt 11 2047) rfl rfl (by kernel_rfl) (by decide) (fun K hK => ?_)
 refine skip_ (w1 := ?_) (by rfl) rfl ?_ ?_
 rotate_left
 ·go_simp
  first | rfl | exact ⟨rfl, rfl⟩
 have hGk := blk_put (cs := #[.pointer (some ⟨gd, 0, none⟩), .int .i64 slot, .int .i64 base, .int .i64 (base + (at_ : Int) - 24), .int .i64 base, .slice Av nv cv]) Gj.out 5 (.slice A1 (nv + 1) c1) (cs' := #[.pointer (some ⟨gd, 0, none⟩), .int .i64 slot, .int .i64 base, .int .i64 (base + (at_ : Int) - 24), .int .i64 base, .slice A1 (nv + 1) c1]) rfl
 have hSk := Sj.out.poke g (.inl (.inl (.inl hQg))) hwg 5 (.slice A1 (nv + 1) c1)
 have hNk := Kd.N_far (Kd.N_bound Nj.out) (p := ⟨g, 5, none⟩) (fun k hk e => hk.1.elim (fun h1 => (HRO.out k h1).2 e) (fun h1 => by have h4 : k = g := e; omega)) (.slice A1 (nv + 1) c1)
 have hKk : ∀ k, k ≠ g → (Wj.setCell ⟨g, 5, none⟩ (.slice A1 (nv + 1) c1)).heap[k]? = Wj.heap[k]? := fun k hkg => Below.heap_setCell Wj ⟨g, 5, none⟩ _ k hkg
 have hzk : (Wj.setCell ⟨g, 5, none⟩ (.slice A1 (nv + 1) c1)).heap.size = Wj.heap.size := World.size_setCell _ _ _
 clear x6 y0 y1
 clear F0 F1 F2 F3 F4 F5 f0 f1 f2 f3 f4 f5
 generalize Wj.setCell ⟨g, 5, none⟩ (.slice A1 (nv + 1) c1) = Wk at hGk hSk hNk hKk hzk ⊢
 have Gk := AM hGk
 have Sk := AM hSk
 have Nk := AM hNk
 have Kk := AM hKk
 clear hGk hSk hNk hKk
 have x6 := (blk_cell ((Kk.out b6 hg6).trans Xj.out) 0).trans rfl
 have y0 := (blk_cell ((Kk.out b7 (Ne.symm (Nat.ne_of_lt hgb7))).trans Bj.out) 0).trans rfl
 have y1 := (blk_cell ((Kk.out b7 (Ne.symm (Nat.ne_of_lt hgb7))).trans Bj.out) 1).trans rfl
 have F0 := (blk_cell Gk.out 0).trans rfl
 have F1 := (blk_cell Gk.out 1).trans rfl
 have F2 := (blk_cell Gk.out 2).trans rfl
 have F3 := (blk_cell Gk.out 3).trans rfl
 have F4 := (blk_cell Gk.out 4).trans rfl
 have F5 := (blk_cell Gk.out 5).trans rfl
 have f0 := blk_frozen Gk.out 0
 have f1 := blk_frozen Gk.out 1
 have f2 := blk_frozen Gk.out 2
 have f3 := blk_frozen Gk.out 3
 have f4 := blk_frozen Gk.out 4
 have f5 := blk_frozen Gk.out 5
 refine hK.out _ _ ?_
 clear hK K
 refine done_ (by kernel_rfl) ?_
 gi_wp2_with fail
 have hend : base + (at_ : Int) - 24 + 16 + (data.length : Int) = base + ((at_ + 16 + data.length : Nat) : Int) - 24 := by omega
 rw [hend]
 have hLm : (Wk.setCell ⟨g, 3, none⟩ (.int .i64 (base + ((at_ + 16 + data.length : Nat) : Int) - 24))).heap[l]? = some (.loop { rec with state := .busy }) := (Below.heap_setCell Wk ⟨g, 3, none⟩ _ l hg).trans ((Kk.out l hg).trans Lj.out)
 have hgW' : g < W.heap.size := HQL.out g hQg
 refine ⟨_, _, run_endRound none hLm, rfl, ?_, ?_⟩
 ·have hzz : ((Wk.setCell ⟨g, 3, none⟩ (.int .i64 (base + ((at_ + 16 + data.length : Nat) : Int) - 24))).putObj l (.loop { ({ rec with state := .busy } : Loop) with state := if (none : Option Code).isNone then .ready else .done, pending := none })).heap.size = Wj.heap.size := by rw [← hzk]; simp
  rw [hzz]
  omega
 ·refine ⟨HPATH.out, fun k hk hg' hl' => ?_, ?_, _, fun k => (rok k ∨ W.heap.size ≤ k) ∧ k < Wj.heap.size, ?_, ?_, (Sk.out.poke g (.inl (.inl (.inl hQg))) hwg 3 (.int .i64 (base + ((at_ + 16 + data.length : Nat) : Int) - 24))).putD l (.inl (.inl (.inl (HQ1.out l hl)))) hw _, .slice A1 (nv + 1) c1, ?_, ?_, ?_, .inl (.inl (.inl hQg)), hwg⟩
  ·have hr : ¬ rok k := fun h => by have := HRO1.out k h; omega
   rw [World.putObj_heap_other hl', Below.heap_setCell Wk ⟨g, 3, none⟩ _ k hg', Kk.out k hg', KJ.out k (by omega) hr, HKd.out k (by omega) hl', HK1.out k hk hg' hl']
  ·exact (World.putObj_heap_same (Array.getElem?_eq_some_iff.1 hLm).1).trans (by rw [HBACK.out])
  ·exact fun k hk => .inl (.inl (.inl (HQ1.out k hk)))
  ·exact fun k hk => hk.1.elim (fun h => HRO1.out k h) (fun h => Nat.le_trans hs h)
  ·exact (World.putObj_heap_other (Ne.symm hg)).trans (blk_put (cs := #[.pointer (some ⟨gd, 0, none⟩), .int .i64 slot, .int .i64 base, .int .i64 (base + (at_ : Int) - 24), .int .i64 base, .slice A1 (nv + 1) c1]) Gk.out 3 _ (cs' := #[.pointer (some ⟨gd, 0, none⟩), .int .i64 slot, .int .i64 base, .int .i64 (base + ((at_ + 16 + data.length : Nat) : Int) - 24), .int .i64 base, .slice A1 (nv + 1) c1]) rfl)
  ·exact Kd.N_step (Kd.N_far Nk.out (p := ⟨g, 3, none⟩) (fun k hk e => hk.1.elim (fun h1 => (HRO.out k h1).2 e) (fun h1 => by have h4 : k = g := e; omega)) _) (fun k hk _ => World.putObj_heap_other (fun e => by
    have h1 : Wn.heap.size ≤ k := hk.1.elim (fun h => HRO1.out k h) (fun h => Nat.le_trans hs h)
    omega))
  ·intro k hk
   rcases hk.1 with h1 | h1
   ·exact ⟨.inl (.inl (.inl (HRO.out k h1).1)), (HRO.out k h1).2⟩
   ·refine ⟨?_, fun e => by omega⟩
    rcases Nat.lt_or_ge k W'.heap.size with h2 | h2
    ·exact .inl (.inl (.inr ⟨h1, by omega⟩))
    ·rcases Nat.lt_or_ge k (b7 + 1) with h3 | h3
     ·exact .inl (.inr ⟨by omega, by omega⟩)
     ·exact .inr ⟨by omega, hk.2⟩
end Go.Proofs.Ytbbokpkpdnppjaa
