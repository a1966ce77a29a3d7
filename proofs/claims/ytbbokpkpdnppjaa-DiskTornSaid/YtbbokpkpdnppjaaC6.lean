/- A written disk after a crash. -/
import Derived.Test.YtbbokpkpdnppjaaC5
namespace Go.Proofs.Ytbbokpkpdnppjaa
open Go.RowKit Go.Proofs.YtbbokpkpdnppjaaW.PrintWords Go.Proofs.YtbbokpkpdnppjaaW.PrintLast Go.Proofs.YtbbokpkpdnppjaaW.PrintMore
set_option linter.unusedVariables false
set_option linter.unusedSimpArgs false

/-- Each pending write is one of the list's, and lies inside. -/
def From (m : Nat) (l : List P.S44) (D : Dk) : Prop := ∀ y ∈ D.pend, y.data.length ≤ 64 ∧ ∃ x ∈ l, x.f1 = y.at_ ∧ x.f3 = y.data ∧ insd m x.f1 x.f3.length = true
theorem wrD_from (m : Nat) (data : List Int) (l : List P.S44) (h1 : 1 ≤ m) (h2 : m ≤ 64) (hd : data.length ≤ m) (hl : l.length ≤ 20) (hl2 : ∀ x ∈ l, x.f3.length ≤ 64) (k : Nat) (hk : k ≤ l.length) :
    From m l (wrD m data (l.take k)) ∧ (wrD m data (l.take k)).dur = (wr0 m data).dur := by
  induction k with
  | zero => exact ⟨fun y hy => by simp [wrD, (wr0_calm m data h1 h2 hd).2.2.2.1] at hy, rfl⟩
  | succ k ih =>
    obtain ⟨i1, i2⟩ := ih (by omega)
    have hc := (wrD_take m data l k h1 h2 hd hl).1
    have e2 : l.take (k + 1) = l.take k ++ [l[k]] := by rw [List.take_add_one, List.getElem?_eq_getElem (by omega)]; rfl
    have e3 : wrD m data (l.take k ++ [l[k]]) = put1 (wrD m data (l.take k)) l[k] := by rw [wrD, wrD, List.foldl_append]; rfl
    rw [e2, e3]
    unfold put1
    cases hi : insd (wrD m data (l.take k)).dur.length l[k].f1 l[k].f3.length with
    | true =>
      rw [write_good hc.failed hc.cnt _ _ hi]
      refine ⟨fun y hy => ?_, i2⟩
      simp only [Dk.wrote, List.mem_append, List.mem_singleton] at hy
      rcases hy with hy | rfl
      · exact i1 y hy
      · rw [hc.len] at hi
        exact ⟨hl2 _ (List.getElem_mem _), l[k], List.getElem_mem _, rfl, rfl, hi⟩
    | false =>
      have e : (wrD m data (l.take k)).write l[k].f1 l[k].f3 = (wrD m data (l.take k), 2) := by simp [Dk.write, hc.failed, hi]
      rw [e]
      exact ⟨i1, i2⟩
theorem tear_whole (d : List Int) (y : Wr) (n : Int) (h : (y.data.length : Int) ≤ n) : tear d (y, n) = putAt d y.at_.toNat y.data := by
  unfold tear
  have : surv n y.data = y.data.length := by unfold surv; omega
  rw [this, List.take_length]
theorem tearAll_whole (n : Int) : ∀ (ps : List Wr) (ss : List Int) (d : List Int), ps.length ≤ ss.length → (∀ y ∈ ps, (y.data.length : Int) ≤ n) → (∀ s ∈ ss, s = n) → tearAll d (ps.zip ss) = layAll d ps := by
  intro ps
  induction ps with
  | nil => intro ss d _ _ _; rfl
  | cons y ps ih =>
    intro ss d hlen hy hs
    cases ss with
    | nil => simp at hlen
    | cons s ss =>
      have e := hs s (by simp)
      subst e
      simp only [List.length_cons] at hlen
      have := ih ss (tear d (y, s)) (by omega) (fun z hz => hy z (by simp [hz])) (fun z hz => hs z (by simp [hz]))
      rw [tear_whole d y s (hy y (by simp))] at this
      simpa [tearAll, layAll, tear_whole d y s (hy y (by simp))] using this
theorem tearAll_get (n : Nat) : ∀ (ps : List (Wr × Int)) (d : List Int), d.length = n → (∀ x ∈ ps, 0 ≤ x.1.at_ ∧ x.1.at_ + x.1.data.length ≤ n) → ∀ i, (tearAll d ps).getD i 0 = d.getD i 0 ∨ ∃ x ∈ ps, x.1.at_ ≤ (i : Int) ∧ (i : Int) - x.1.at_ < x.1.data.length ∧ (tearAll d ps).getD i 0 = rd x.1.data ((i : Int) - x.1.at_) := by
  intro ps
  induction ps with
  | nil => intro d _ _ i; exact .inl rfl
  | cons x ps ih =>
    intro d hd h i
    have hx := h x (by simp)
    have hl : (tear d x).length = n := by rw [tear_length _ _ (by rw [hd]; exact hx), hd]
    rcases ih (tear d x) hl (fun z hz => h z (by simp [hz])) i with e | ⟨z, hz, h1, h2, h3⟩
    · have e0 : (tearAll d (x :: ps)).getD i 0 = (tear d x).getD i 0 := e
      rw [e0]
      have hs := surv_le x.2 x.1.data
      have hlt : (x.1.data.take (surv x.2 x.1.data)).length = surv x.2 x.1.data := by rw [List.length_take]; omega
      have e1 : (tear d x).getD i 0 = _ := getD_put d (x.1.data.take (surv x.2 x.1.data)) x.1.at_.toNat (by rw [hlt]; omega) i
      rw [hlt] at e1
      by_cases hc : x.1.at_.toNat ≤ i ∧ i < x.1.at_.toNat + surv x.2 x.1.data
      · rw [if_pos hc] at e1
        refine .inr ⟨x, by simp, by omega, by omega, ?_⟩
        rw [e1, rd, show ((i : Int) - x.1.at_).toNat = i - x.1.at_.toNat by omega]
        simp only [List.getD_eq_getElem?_getD]
        rw [List.getElem?_take_of_lt (by omega)]
      · rw [if_neg hc] at e1
        exact .inl e1
    · exact .inr ⟨z, by simp [hz], h1, h2, h3⟩

theorem wrote_spec (l : List P.S44) (m i : Nat) (b : Int) (hm : m ≤ 64) (hi : i < m) (hl : l.length ≤ 20) (h : ∃ x ∈ l, hit m x i ∧ rd x.f3 ((i : Int) - x.f1) = b) : ∃ k, P.lineagelaw13_wrote.f k l (m : Int) (i : Int) b = some true := by
  have key : ∀ (n j : Nat), n + j = l.length → (∃ t, j ≤ t ∧ ∃ ht : t < l.length, hit m l[t] i ∧ rd l[t].f3 ((i : Int) - l[t].f1) = b) → P.lineagelaw13_wrote.l0 (n + 1) l (m : Int) (i : Int) b (j : Int) = some true := by
    intro n
    induction n with
    | zero => rintro j hj ⟨t, h1, h2, _⟩; omega
    | succ n ih =>
      rintro j hj ⟨t, h1, h2, h3, h4⟩
      unfold P.lineagelaw13_wrote.l0
      rw [if_pos (by omega), if_pos (by omega), rd_T44_get l j (by omega)]
      have next : ¬ (hit m l[j] i ∧ rd l[j].f3 ((i : Int) - l[j].f1) = b) → P.lineagelaw13_wrote.l0 (n + 1) l (m : Int) (i : Int) b (wrap64 ((j : Int) + 1)) = some true := fun hn => by
        rw [wrap64_in _ (by omega) (by omega)]
        refine ih (j + 1) (by omega) ⟨t, ?_, h2, h3, h4⟩
        by_cases e : t = j
        · subst e; exact absurd ⟨h3, h4⟩ hn
        · omega
      by_cases c0 : l[j].f1 ≥ 0
      · rw [if_pos c0]
        by_cases c1 : l[j].f1 ≤ (m : Int)
        · rw [if_pos c1, wrap64_in ((m : Int) - l[j].f1) (by omega) (by omega)]
          by_cases c2 : (l[j].f3.length : Int) ≤ (m : Int) - l[j].f1
          · rw [if_pos c2]
            by_cases c3 : (i : Int) ≥ l[j].f1
            · rw [if_pos c3, wrap64_in ((i : Int) - l[j].f1) (by omega) (by omega)]
              by_cases c4 : (i : Int) - l[j].f1 < (l[j].f3.length : Int)
              · rw [if_pos c4, if_pos (by omega)]
                by_cases c5 : rd l[j].f3 ((i : Int) - l[j].f1) = b
                · rw [if_pos c5]
                · rw [if_neg c5]; exact next (fun h => c5 h.2)
              · rw [if_neg c4]; exact next (fun h => c4 h.1.2.2.2.2)
            · rw [if_neg c3]; exact next (fun h => c3 h.1.2.2.2.1)
          · rw [if_neg c2]; exact next (fun h => c2 h.1.2.2.1)
        · rw [if_neg c1]; exact next (fun h => c1 h.1.2.1)
      · rw [if_neg c0]; exact next (fun h => c0 h.1.1)
  obtain ⟨x, hx, h1, h2⟩ := h
  obtain ⟨t, ht, rfl⟩ := List.getElem_of_mem hx
  exact ⟨l.length + 1, key l.length 0 (by omega) ⟨t, by omega, ht, h1, h2⟩⟩

/-- The three crashes of DiskTorn. -/
theorem torn_all {m : Nat} {data : List Int} {l : List P.S44} (h1 : 1 ≤ m) (h2 : m ≤ 64) (hd : data.length ≤ m) (hl : l.length ≤ 20) (hl2 : ∀ x ∈ l, x.f3.length ≤ 64) : ((wrD m data l).crashed (List.replicate 20 64)).now = (wrD m data l).now := by
  have hf := (wrD_from m data l h1 h2 hd hl hl2 l.length (Nat.le_refl _)).1
  have ht := (wrD_take m data l l.length h1 h2 hd hl).2
  rw [List.take_length] at hf ht
  show layAll (tearAll (wrD m data l).dur ((wrD m data l).pend.zip (List.replicate 20 64))) [] = _
  rw [tearAll_whole 64 _ _ _ (by simpa using ht) (fun y hy => by have := (hf y hy).1; omega) (fun s hs => (List.mem_replicate.1 hs).2)]
  rfl
theorem wr0_dur (m : Nat) (data : List Int) (hd : data.length ≤ m) (i : Nat) : (wr0 m data).dur.getD i 0 = data.getD i 0 := wr0_now m data hd i
theorem torn_none {m : Nat} {data : List Int} {l : List P.S44} (h1 : 1 ≤ m) (h2 : m ≤ 64) (hd : data.length ≤ m) (hl : l.length ≤ 20) (hl2 : ∀ x ∈ l, x.f3.length ≤ 64) (i : Nat) : ((wrD m data l).crashed []).now.getD i 0 = data.getD i 0 := by
  have hf := (wrD_from m data l h1 h2 hd hl hl2 l.length (Nat.le_refl _)).2
  rw [List.take_length] at hf
  show (layAll (tearAll (wrD m data l).dur ((wrD m data l).pend.zip [])) []).getD i 0 = _
  rw [List.zip_nil_right]
  show (wrD m data l).dur.getD i 0 = _
  rw [hf]
  exact wr0_dur m data hd i
theorem torn_some {m : Nat} {data : List Int} {l : List P.S44} (h1 : 1 ≤ m) (h2 : m ≤ 64) (hd : data.length ≤ m) (hl : l.length ≤ 20) (hl2 : ∀ x ∈ l, x.f3.length ≤ 64) (ss : List Int) (i : Nat) (him : i < m) :
    ((wrD m data l).crashed ss).now.getD i 0 = data.getD i 0 ∨ ∃ k, P.lineagelaw13_wrote.f k l (m : Int) (i : Int) (((wrD m data l).crashed ss).now.getD i 0) = some true := by
  have hf := wrD_from m data l h1 h2 hd hl hl2 l.length (Nat.le_refl _)
  have hc := (wrD_take m data l l.length h1 h2 hd hl).1
  rw [List.take_length] at hf hc
  have e : ((wrD m data l).crashed ss).now = tearAll (wrD m data l).dur ((wrD m data l).pend.zip ss) := rfl
  rw [e]
  rcases tearAll_get m ((wrD m data l).pend.zip ss) (wrD m data l).dur hc.len (fun x hx => by have := hc.ok.zip ss x hx; rwa [hc.len] at this) i with h | ⟨x, hx, q1, q2, q3⟩
  · exact .inl (by rw [h, hf.2]; exact wr0_dur m data hd i)
  · right
    obtain ⟨_, z, hz, e1, e2, e3⟩ := hf.1 x.1 (List.of_mem_zip hx).1
    refine wrote_spec l m i _ h2 him hl ⟨z, hz, ?_, ?_⟩
    · simp only [insd, Bool.and_eq_true, decide_eq_true_eq] at e3
      exact ⟨e3.1, e3.2.2.1, e3.2.2.2, by rw [e1]; exact q1, by rw [e1, e2]; exact q2⟩
    · rw [q3, e1, e2]
end Go.Proofs.Ytbbokpkpdnppjaa
