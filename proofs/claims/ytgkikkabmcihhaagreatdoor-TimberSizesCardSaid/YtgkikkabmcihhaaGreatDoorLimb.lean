import Derived.Test.YtgkikkabmcihhaaGreatDoorNum
namespace Kp

/-- The number that limbs of a base show, the least one ahead. -/
def lval (B : Int) : List Int → Int
  | [] => 0
  | x :: r => x + B * lval B r
/-- Each one is a digit of the base. -/
def Dig (B : Int) (l : List Int) : Prop := ∀ x ∈ l, 0 ≤ x ∧ x < B

theorem ediv_lt_of {n B : Int} (hn : 0 < n) (hB : 2 ≤ B) : n / B < n :=
  Int.ediv_lt_of_lt_mul (by omega) (by
    have : n * 2 ≤ n * B := Int.mul_le_mul_of_nonneg_left hB (by omega)
    omega)

/-- The limbs of a number, without zeros at the end. -/
def limbs (B n : Int) : List Int := if _h : n ≤ 0 ∨ B < 2 then [] else n % B :: limbs B (n / B)
termination_by n.toNat
decreasing_by
  have h1 : 0 < n := by omega
  have h2 : 2 ≤ B := by omega
  have h3 := ediv_lt_of h1 h2
  omega

theorem limbs_zero {B n : Int} (h : n ≤ 0) : limbs B n = [] := by rw [limbs, dif_pos (Or.inl h)]
theorem limbs_pos {B n : Int} (hB : 2 ≤ B) (h : 0 < n) : limbs B n = n % B :: limbs B (n / B) := by rw [limbs, dif_neg (by omega)]

theorem Dig.nil {B : Int} : Dig B [] := by intro x hx; cases hx
theorem Dig.cons {B x : Int} {l : List Int} (h0 : 0 ≤ x) (h1 : x < B) (h : Dig B l) : Dig B (x :: l) := by
  intro y hy
  rcases List.mem_cons.1 hy with rfl | hy
  · exact ⟨h0, h1⟩
  · exact h y hy
theorem Dig.append {B : Int} {l m : List Int} (h : Dig B l) (k : Dig B m) : Dig B (l ++ m) := by
  intro x hx
  rcases List.mem_append.1 hx with hx | hx
  · exact h x hx
  · exact k x hx
theorem Dig.one {B x : Int} (h0 : 0 ≤ x) (h1 : x < B) : Dig B [x] := Dig.cons h0 h1 Dig.nil
theorem Dig.take {B : Int} {l : List Int} (h : Dig B l) (k : Nat) : Dig B (l.take k) := fun x hx => h x (List.mem_of_mem_take hx)
theorem Dig.drop {B : Int} {l : List Int} (h : Dig B l) (k : Nat) : Dig B (l.drop k) := fun x hx => h x (List.mem_of_mem_drop hx)
theorem Dig.get {B : Int} {l : List Int} (h : Dig B l) (hB : 0 < B) (k : Nat) : 0 ≤ l.getD k 0 ∧ l.getD k 0 < B := by
  by_cases hk : k < l.length
  · rw [List.getD_eq_getElem?_getD, List.getElem?_eq_getElem hk]
    exact h _ (List.getElem_mem hk)
  · rw [List.getD_eq_getElem?_getD, List.getElem?_eq_none (by omega)]
    exact ⟨Int.le_refl 0, hB⟩

theorem lval_append (B : Int) (l m : List Int) : lval B (l ++ m) = lval B l + B ^ l.length * lval B m := by
  induction l with
  | nil => simp [lval]
  | cons x r ih =>
    simp only [List.cons_append, lval, ih, List.length_cons, Int.pow_succ]
    rw [Int.mul_add, Int.mul_comm (B ^ r.length) B, Int.mul_assoc]
    omega

theorem lval_snoc (B : Int) (l : List Int) (x : Int) : lval B (l ++ [x]) = lval B l + B ^ l.length * x := by
  rw [lval_append]; simp [lval]

theorem getD_def (l : List Int) (k : Nat) : l[k]?.getD 0 = l.getD k 0 := (List.getD_eq_getElem?_getD).symm

theorem take_succ_getD {l : List Int} {k : Nat} (h : k < l.length) : l.take (k + 1) = l.take k ++ [l.getD k 0] := by
  rw [List.take_succ_eq_append_getElem h, List.getD_eq_getElem?_getD, List.getElem?_eq_getElem h]; rfl

theorem lval_take_succ (B : Int) (l : List Int) (k : Nat) : lval B (l.take (k + 1)) = lval B (l.take k) + B ^ k * l.getD k 0 := by
  by_cases h : k < l.length
  · rw [take_succ_getD h, lval_snoc, List.length_take, Nat.min_eq_left (by omega)]
  · rw [List.take_of_length_le (by omega), List.take_of_length_le (by omega), List.getD_eq_getElem?_getD, List.getElem?_eq_none (by omega)]
    simp

theorem lval_nonneg {B : Int} (hB : 0 ≤ B) : ∀ {l : List Int}, Dig B l → 0 ≤ lval B l
  | [], _ => Int.le_refl 0
  | x :: r, h => by
    have h1 := lval_nonneg hB (l := r) (fun y hy => h y (by simp [hy]))
    have h2 := h x (by simp)
    have h3 : 0 ≤ B * lval B r := Int.mul_nonneg hB h1
    simp only [lval]; omega

theorem lval_lt {B : Int} (hB : 0 < B) : ∀ {l : List Int}, Dig B l → lval B l < B ^ l.length
  | [], _ => by simp [lval]
  | x :: r, h => by
    have h1 := lval_lt hB (l := r) (fun y hy => h y (by simp [hy]))
    have h2 := h x (by simp)
    have h3 : B * (lval B r + 1) ≤ B * B ^ r.length := Int.mul_le_mul_of_nonneg_left (by omega) (by omega)
    rw [Int.mul_add] at h3
    simp only [lval, List.length_cons, Int.pow_succ]
    rw [Int.mul_comm (B ^ r.length) B]; omega

theorem limbs_dig {B : Int} (hB : 2 ≤ B) (n : Int) : Dig B (limbs B n) := by
  generalize hk : n.toNat = k
  induction k using Nat.strongRecOn generalizing n with
  | _ k ih =>
    by_cases h : n ≤ 0
    · rw [limbs_zero h]; exact Dig.nil
    · rw [limbs_pos hB (by omega)]
      have := ediv_lt_of (show 0 < n by omega) hB
      exact Dig.cons (Int.emod_nonneg _ (by omega)) (Int.emod_lt_of_pos _ (by omega)) (ih (n / B).toNat (by omega) (n / B) rfl)

theorem lval_limbs {B : Int} (hB : 2 ≤ B) (n : Int) (hn : 0 ≤ n) : lval B (limbs B n) = n := by
  generalize hk : n.toNat = k
  induction k using Nat.strongRecOn generalizing n with
  | _ k ih =>
    by_cases h : n ≤ 0
    · rw [limbs_zero h]; simp [lval]; omega
    · rw [limbs_pos hB (by omega)]
      have := ediv_lt_of (show 0 < n by omega) hB
      simp only [lval]
      rw [ih (n / B).toNat (by omega) (n / B) (Int.ediv_nonneg hn (by omega)) rfl]
      have := Int.emod_add_mul_ediv n B
      omega

/-- Limbs without a zero at the end are those of their number. -/
theorem limbs_unique {B : Int} (hB : 2 ≤ B) : ∀ (l : List Int), Dig B l → l.getLast? ≠ some 0 → limbs B (lval B l) = l
  | [], _, _ => limbs_zero (Int.le_refl 0)
  | x :: r, h, hl => by
    have hx := h x (by simp)
    have hr : Dig B r := fun y hy => h y (by simp [hy])
    have hr0 := lval_nonneg (by omega) hr
    have hlr : r.getLast? ≠ some 0 := by
      cases r with
      | nil => simp
      | cons y t => rw [List.getLast?_cons_cons] at hl; exact hl
    have ih := limbs_unique hB r hr hlr
    have hpos : 0 < lval B (x :: r) := by
      simp only [lval]
      cases r with
      | nil =>
        simp only [List.getLast?_singleton, ne_eq, Option.some.injEq] at hl
        simp [lval]; omega
      | cons y t =>
        have : lval B (y :: t) ≠ 0 := by
          intro e; rw [e, limbs_zero (Int.le_refl 0)] at ih; cases ih
        have : B * 1 ≤ B * lval B (y :: t) := Int.mul_le_mul_of_nonneg_left (by omega) (by omega)
        omega
    rw [limbs_pos hB hpos]
    simp only [lval]
    rw [Int.add_mul_emod_self_left, Int.add_mul_ediv_left _ _ (by omega), Int.emod_eq_of_lt hx.1 hx.2, Int.ediv_eq_zero_of_lt hx.1 hx.2, Int.zero_add, ih]

theorem limbs_last {B : Int} (hB : 2 ≤ B) (n : Int) : (limbs B n).getLast? ≠ some 0 := by
  generalize hk : n.toNat = k
  induction k using Nat.strongRecOn generalizing n with
  | _ k ih =>
    by_cases h : n ≤ 0
    · rw [limbs_zero h]; simp
    · rw [limbs_pos hB (by omega)]
      have := ediv_lt_of (show 0 < n by omega) hB
      have i := ih (n / B).toNat (by omega) (n / B) rfl
      by_cases h2 : n / B ≤ 0
      · rw [limbs_zero h2]
        have h3 := Int.emod_add_mul_ediv n B
        have h4 := Int.ediv_nonneg (show 0 ≤ n by omega) (show 0 ≤ B by omega)
        have h5 : n / B = 0 := by omega
        rw [h5] at h3
        simp only [List.getLast?_singleton, ne_eq, Option.some.injEq]
        omega
      · rw [limbs_pos hB (by omega)] at i ⊢
        rw [List.getLast?_cons_cons]; exact i

theorem limbs_len_le {B : Int} (hB : 2 ≤ B) (k : Nat) : ∀ (n : Int), n < B ^ k → (limbs B n).length ≤ k := by
  induction k with
  | zero => intro n h; rw [limbs_zero (by simpa using Int.lt_add_one_iff.1 (by simpa using h))]; simp
  | succ k ih =>
    intro n h
    by_cases h0 : n ≤ 0
    · rw [limbs_zero h0]; simp
    · rw [limbs_pos hB (by omega)]
      have := ih (n / B) (Int.ediv_lt_of_lt_mul (by omega) (by rw [← Int.pow_succ]; exact h))
      simp only [List.length_cons]; omega

theorem pow_pos' {B : Int} (hB : 0 < B) (k : Nat) : 0 < B ^ k := Int.pow_pos hB
theorem pow_mono {B : Int} (hB : 1 ≤ B) {j k : Nat} (h : j ≤ k) : B ^ j ≤ B ^ k := by
  obtain ⟨d, rfl⟩ := Nat.exists_eq_add_of_le h
  rw [Int.pow_add]
  have h1 : 0 < B ^ j := Int.pow_pos (by omega)
  have h2 : 0 < B ^ d := Int.pow_pos (by omega)
  have := Int.mul_le_mul_of_nonneg_left (show (1 : Int) ≤ B ^ d by omega) (show 0 ≤ B ^ j by omega)
  omega

theorem limbs_len_ge {B : Int} (hB : 2 ≤ B) (n : Int) (hn : 0 ≤ n) (k : Nat) (h : (limbs B n).length ≤ k) : n < B ^ k := by
  have h1 := lval_lt (by omega) (limbs_dig hB n)
  rw [lval_limbs hB n hn] at h1
  have h2 : B ^ (limbs B n).length ≤ B ^ k := pow_mono (by omega) h
  omega

/-- Without the zeros at the end. -/
def ltrim : List Int → List Int
  | [] => []
  | x :: r => if x = 0 ∧ ltrim r = [] then [] else x :: ltrim r

theorem lval_ltrim (B : Int) : ∀ l, lval B (ltrim l) = lval B l
  | [] => rfl
  | x :: r => by
    have ih := lval_ltrim B r
    simp only [ltrim]
    split
    · next h => rw [h.2] at ih; simp only [lval] at *; rw [← ih, h.1]; simp
    · simp only [lval, ih]

theorem ltrim_dig {B : Int} : ∀ {l}, Dig B l → Dig B (ltrim l)
  | [], h => h
  | x :: r, h => by
    have ih := ltrim_dig (l := r) (fun y hy => h y (by simp [hy]))
    have hx := h x (by simp)
    simp only [ltrim]
    split
    · exact Dig.nil
    · exact Dig.cons hx.1 hx.2 ih

theorem ltrim_last : ∀ l, (ltrim l).getLast? ≠ some 0
  | [] => by simp [ltrim]
  | x :: r => by
    have ih := ltrim_last r
    simp only [ltrim]
    split
    · simp
    · next h =>
      cases hr : ltrim r with
      | nil => rw [hr] at h; simp only [and_true] at h; simp [h]
      | cons y t => rw [hr] at ih; rw [List.getLast?_cons_cons]; exact ih

theorem ltrim_eq {B : Int} (hB : 2 ≤ B) {l : List Int} (h : Dig B l) : ltrim l = limbs B (lval B l) := by
  rw [← lval_ltrim B l, limbs_unique hB _ (ltrim_dig h) (ltrim_last l)]

theorem ltrim_snoc_zero (l : List Int) : ltrim (l ++ [0]) = ltrim l := by
  induction l with
  | nil => simp [ltrim]
  | cons x r ih => simp only [List.cons_append, ltrim, ih]

theorem ltrim_snoc (l : List Int) (x : Int) (h : x ≠ 0) : ltrim (l ++ [x]) = l ++ [x] := by
  induction l with
  | nil => simp [ltrim, h]
  | cons y r ih => simp [List.cons_append, ltrim, ih]

end Kp
