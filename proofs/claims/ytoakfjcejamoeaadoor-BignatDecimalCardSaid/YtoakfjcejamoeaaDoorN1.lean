/- Numbers as lists of limbs: the plain part. -/
namespace Go.Proofs.YtoakfjcejamoeaaDoor.Bn

/-- The value of a list of limbs, the lowest first. -/
def nv : List Int → Nat
  | [] => 0
  | x :: l => x.toNat + 4294967296 * nv l
def Limbs (l : List Int) : Prop := ∀ x ∈ l, 0 ≤ x ∧ x < 4294967296
/-- The limbs of a number, without leading zeros. -/
def limbs (n : Nat) : List Int := if n = 0 then [] else ((n % 4294967296 : Nat) : Int) :: limbs (n / 4294967296)
termination_by n
decreasing_by omega
/-- Without leading zeros. -/
def trimL : List Int → List Int
  | [] => []
  | x :: l => if trimL l = [] ∧ x = 0 then [] else x :: trimL l

theorem Limbs.nil : Limbs [] := fun x h => by simp at h
theorem Limbs.cons {x : Int} {l : List Int} (h : Limbs (x :: l)) : (0 ≤ x ∧ x < 4294967296) ∧ Limbs l := ⟨h x (by simp), fun y hy => h y (by simp [hy])⟩
theorem Limbs.mk {x : Int} {l : List Int} (hx : 0 ≤ x ∧ x < 4294967296) (h : Limbs l) : Limbs (x :: l) := fun y hy => by
  rcases List.mem_cons.1 hy with rfl | h2
  · exact hx
  · exact h y h2
theorem Limbs.append {a b : List Int} (ha : Limbs a) (hb : Limbs b) : Limbs (a ++ b) := fun x hx => by
  rcases List.mem_append.1 hx with h | h
  · exact ha x h
  · exact hb x h
theorem Limbs.left {a b : List Int} (h : Limbs (a ++ b)) : Limbs a := fun x hx => h x (by simp [hx])
theorem Limbs.right {a b : List Int} (h : Limbs (a ++ b)) : Limbs b := fun x hx => h x (by simp [hx])
theorem Limbs.take {l : List Int} (h : Limbs l) (n : Nat) : Limbs (l.take n) := fun x hx => h x (List.mem_of_mem_take hx)
theorem Limbs.drop {l : List Int} (h : Limbs l) (n : Nat) : Limbs (l.drop n) := fun x hx => h x (List.mem_of_mem_drop hx)
theorem Limbs.set {l : List Int} (h : Limbs l) (i : Nat) (v : Int) (hv : 0 ≤ v ∧ v < 4294967296) : Limbs (l.set i v) := fun x hx => by
  rcases List.mem_or_eq_of_mem_set hx with h1 | h1
  · exact h x h1
  · subst h1; exact hv
theorem Limbs.replicate (n : Nat) : Limbs (List.replicate n 0) := fun x hx => by
  have := List.eq_of_mem_replicate hx
  omega
theorem Limbs.get {l : List Int} (h : Limbs l) (i : Nat) (hi : i < l.length) : 0 ≤ l[i] ∧ l[i] < 4294967296 := h _ (List.getElem_mem hi)

theorem nv_lt {l : List Int} (h : Limbs l) : nv l < 4294967296 ^ l.length := by
  induction l with
  | nil => simp [nv]
  | cons x l ih =>
    have h1 := h.cons
    have h2 := ih h1.2
    simp only [nv, List.length_cons, Nat.pow_succ]
    generalize 4294967296 ^ l.length = P at h2 ⊢
    omega
theorem nv_append (a b : List Int) : nv (a ++ b) = nv a + 4294967296 ^ a.length * nv b := by
  induction a with
  | nil => simp [nv]
  | cons x l ih =>
    simp only [List.cons_append, nv, ih, List.length_cons, Nat.pow_succ]
    grind
theorem nv_replicate (n : Nat) : nv (List.replicate n 0) = 0 := by
  induction n with
  | zero => rfl
  | succ n ih => simp [List.replicate_succ, nv, ih]
theorem nv_set {l : List Int} (i : Nat) (v : Int) (hi : i < l.length) : nv (l.set i v) + 4294967296 ^ i * (l[i]).toNat = nv l + 4294967296 ^ i * v.toNat := by
  induction l generalizing i with
  | nil => simp at hi
  | cons x l ih =>
    cases i with
    | zero => simp [nv]; omega
    | succ i =>
      have := ih i (by simpa using hi)
      simp only [List.set_cons_succ, nv, List.getElem_cons_succ, Nat.pow_succ]
      grind
theorem limbs_zero : limbs 0 = [] := by rw [limbs]; rfl
theorem limbs_pos {n : Nat} (h : n ≠ 0) : limbs n = ((n % 4294967296 : Nat) : Int) :: limbs (n / 4294967296) := by
  rw [limbs, if_neg h]
theorem limbs_nil {n : Nat} : limbs n = [] ↔ n = 0 := by
  constructor
  · intro h
    apply Classical.byContradiction
    intro h0
    rw [limbs_pos h0] at h
    cases h
  · rintro rfl
    exact limbs_zero
theorem limbs_cons (x : Int) (n : Nat) (hx : 0 ≤ x ∧ x < 4294967296) : limbs (x.toNat + 4294967296 * n) = if n = 0 ∧ x = 0 then [] else x :: limbs n := by
  by_cases h : n = 0 ∧ x = 0
  · obtain ⟨rfl, rfl⟩ := h
    simpa using limbs_zero
  · rw [if_neg h, limbs_pos (by omega)]
    congr 1
    · omega
    · congr 1; omega
theorem limbs_limbs (n : Nat) : Limbs (limbs n) := by
  induction n using Nat.strongRecOn with
  | ind n ih =>
    by_cases h : n = 0
    · subst h; rw [limbs_zero]; exact Limbs.nil
    · rw [limbs_pos h]
      exact Limbs.mk (by omega) (ih _ (by omega))
theorem nv_limbs (n : Nat) : nv (limbs n) = n := by
  induction n using Nat.strongRecOn with
  | ind n ih =>
    by_cases h : n = 0
    · subst h; rw [limbs_zero]; rfl
    · rw [limbs_pos h]
      simp only [nv]
      rw [ih _ (by omega)]
      omega
theorem trimL_eq {l : List Int} (h : Limbs l) : trimL l = limbs (nv l) := by
  induction l with
  | nil => simp [trimL, nv, limbs_zero]
  | cons x l ih =>
    have h1 := h.cons
    simp only [trimL, nv]
    rw [limbs_cons x _ h1.1, ih h1.2]
    by_cases h0 : nv l = 0 ∧ x = 0
    · rw [if_pos h0, if_pos ⟨limbs_nil.2 h0.1, h0.2⟩]
    · rw [if_neg h0, if_neg (fun hh => h0 ⟨limbs_nil.1 hh.1, hh.2⟩)]
theorem trimL_snoc_zero (l : List Int) : trimL (l ++ [0]) = trimL l := by
  induction l with
  | nil => simp [trimL]
  | cons x l ih => simp only [List.cons_append, trimL, ih]
theorem trimL_snoc {l : List Int} {x : Int} (hx : x ≠ 0) : trimL (l ++ [x]) = l ++ [x] := by
  induction l with
  | nil => simp [trimL, hx]
  | cons y l ih => simp only [List.cons_append, trimL, ih]; simp
/-- A list without leading zeros. -/
def Nrm (l : List Int) : Prop := Limbs l ∧ limbs (nv l) = l
theorem nrm_limbs (n : Nat) : Nrm (limbs n) := ⟨limbs_limbs n, by rw [nv_limbs]⟩
theorem nrm_nil : Nrm [] := ⟨Limbs.nil, by simp [nv, limbs_zero]⟩
theorem Nrm.inj {a b : List Int} (ha : Nrm a) (hb : Nrm b) (h : nv a = nv b) : a = b := by rw [← ha.2, ← hb.2, h]
theorem nrm_of_last {l : List Int} (h : Limbs l) (hl : l = [] ∨ l.getLast? ≠ some 0) : Nrm l := by
  refine ⟨h, ?_⟩
  rw [← trimL_eq h]
  rcases List.eq_nil_or_concat l with rfl | ⟨m, x, rfl⟩
  · rfl
  · rw [List.concat_eq_append] at hl ⊢
    apply trimL_snoc
    rintro rfl
    rcases hl with hl | hl
    · simp at hl
    · simp at hl
theorem limbs_len (n k : Nat) : (limbs n).length ≤ k ↔ n < 4294967296 ^ k := by
  induction k generalizing n with
  | zero =>
    by_cases h : n = 0
    · subst h; simp [limbs_zero]
    · rw [limbs_pos h]; simp; omega
  | succ k ih =>
    by_cases h : n = 0
    · subst h; simp [limbs_zero, Nat.pow_pos]
    · rw [limbs_pos h, List.length_cons, Nat.pow_succ]
      have := ih (n / 4294967296)
      rw [Nat.div_lt_iff_lt_mul (by omega)] at this
      omega
theorem nv_ge {l : List Int} (h : Nrm l) (hl : l ≠ []) : 4294967296 ^ (l.length - 1) ≤ nv l := by
  have h1 := limbs_len (nv l) (l.length - 1)
  rw [h.2] at h1
  have : 0 < l.length := List.length_pos_iff.2 hl
  omega
theorem nv_zero {l : List Int} (h : Nrm l) : nv l = 0 ↔ l = [] := by
  rw [← limbs_nil, h.2]
theorem limbs_last (n : Nat) : limbs n = [] ∨ (limbs n).getLast? ≠ some 0 := by
  induction n using Nat.strongRecOn with
  | ind n ih =>
    by_cases h : n = 0
    · left; exact limbs_nil.2 h
    · right
      rw [limbs_pos h]
      by_cases h2 : n / 4294967296 = 0
      · rw [h2, limbs_zero]
        simp
        omega
      · have h3 := ih _ (show n / 4294967296 < n by omega)
        rcases h3 with h3 | h3
        · exact absurd (limbs_nil.1 h3) h2
        · rw [limbs_pos h2] at h3 ⊢
          simpa [List.getLast?_cons_cons] using h3
end Go.Proofs.YtoakfjcejamoeaaDoor.Bn
