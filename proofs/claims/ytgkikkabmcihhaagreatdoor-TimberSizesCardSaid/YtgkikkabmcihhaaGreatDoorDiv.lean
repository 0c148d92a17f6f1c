import Derived.Test.YtgkikkabmcihhaaGreatDoorArith
namespace Kp

theorem lval_inj {B : Int} (hB : 2 ≤ B) : ∀ {l m : List Int}, Dig B l → Dig B m → l.length = m.length → lval B l = lval B m → l = m
  | [], [], _, _, _, _ => rfl
  | [], y :: m, _, _, h, _ => by simp at h
  | x :: l, [], _, _, h, _ => by simp at h
  | x :: l, y :: m, hl, hm, h, e => by
    have hx := hl x (by simp)
    have hy := hm y (by simp)
    simp only [lval] at e
    have e1 : (x + B * lval B l) % B = (y + B * lval B m) % B := by rw [e]
    have e2 : (x + B * lval B l) / B = (y + B * lval B m) / B := by rw [e]
    rw [Int.add_mul_emod_self_left, Int.add_mul_emod_self_left, Int.emod_eq_of_lt hx.1 hx.2, Int.emod_eq_of_lt hy.1 hy.2] at e1
    rw [Int.add_mul_ediv_left _ _ (by omega), Int.add_mul_ediv_left _ _ (by omega), Int.ediv_eq_zero_of_lt hx.1 hx.2, Int.ediv_eq_zero_of_lt hy.1 hy.2] at e2
    have := lval_inj hB (fun z hz => hl z (by simp [hz])) (fun z hz => hm z (by simp [hz])) (by simpa using h) (show lval B l = lval B m by omega)
    rw [e1, this]

theorem lval_split (B : Int) (l : List Int) (j : Nat) (hj : j ≤ l.length) : lval B l = lval B (l.take j) + B ^ j * lval B (l.drop j) := by
  have := lval_append B (l.take j) (l.drop j)
  rw [List.take_append_drop, List.length_take, Nat.min_eq_left hj] at this
  exact this

theorem getD_drop (l : List Int) (j k : Nat) : (l.drop j).getD k 0 = l.getD (j + k) 0 := by
  rw [List.getD_eq_getElem?_getD, List.getElem?_drop, ← List.getD_eq_getElem?_getD]

/-- Where the places from k on are zeros, the number is that of the places below. -/
theorem lval_zero_from (B : Int) : ∀ (l : List Int) (k : Nat), (∀ i, k ≤ i → l.getD i 0 = 0) → lval B l = lval B (l.take k)
  | [], _, _ => by simp
  | x :: r, 0, h => by
    have ih := lval_zero_from B r 0 (fun i _ => by have := h (i + 1) (by omega); simpa using this)
    have h0 := h 0 (by omega)
    simp only [List.getD_cons_zero] at h0
    simp only [List.take_zero, lval] at *
    rw [ih, h0]; simp
  | x :: r, k + 1, h => by
    have ih := lval_zero_from B r k (fun i hi => by have := h (i + 1) (by omega); simpa using this)
    simp only [List.take_succ_cons, lval, ih]

theorem zero_from_of_lt {B : Int} (hB : 2 ≤ B) {l : List Int} (hl : Dig B l) (k : Nat) (h : lval B l < B ^ k) : ∀ i, k ≤ i → l.getD i 0 = 0 := by
  intro i hi
  by_cases hlt : i < l.length
  · have hs := lval_split B l i (by omega)
    rw [lval_drop_pred B l i hlt] at hs
    have h1 := lval_nonneg (show 0 ≤ B by omega) (hl.take i)
    have h2 := lval_nonneg (show 0 ≤ B by omega) (hl.drop (i + 1))
    have h3 := hl.get (by omega) i
    have h4 := pow_mono (show 1 ≤ B by omega) hi
    have h5 : 0 ≤ B * lval B (l.drop (i + 1)) := Int.mul_nonneg (by omega) h2
    by_cases e : l.getD i 0 = 0
    · exact e
    · have h6 : B ^ i * 1 ≤ B ^ i * (l.getD i 0 + B * lval B (l.drop (i + 1))) := Int.mul_le_mul_of_nonneg_left (by omega) (Int.le_of_lt (pow_pos' (by omega) _))
      omega
  · rw [List.getD_eq_getElem?_getD, List.getElem?_eq_none (by omega)]; rfl

theorem lt_of_zero_from {B : Int} (hB : 2 ≤ B) {l : List Int} (hl : Dig B l) (k : Nat) (h : ∀ i, k ≤ i → l.getD i 0 = 0) : lval B l < B ^ k := by
  rw [lval_zero_from B l k h]
  have h1 := lval_lt (show 0 < B by omega) (hl.take k)
  have h2 := pow_mono (show 1 ≤ B by omega) (show (l.take k).length ≤ k by rw [List.length_take]; omega)
  omega

theorem getD_set (l : List Int) (j k : Nat) (x : Int) (h : j ≠ k) : (l.set j x).getD k 0 = l.getD k 0 := by
  rw [List.getD_eq_getElem?_getD, List.getElem?_set_ne h, ← List.getD_eq_getElem?_getD]

/-- q times v is being taken from the places from j on: behind i rounds. -/
structure TakeInv (B : Int) (u v : List Int) (j : Nat) (q : Int) (i : Nat) (u' : List Int) (c : Int) : Prop where
  len : u'.length = u.length
  dig : Dig B u'
  c0 : 0 ≤ c
  c1 : c ≤ q
  val : lval B u' = lval B u - B ^ j * (q * lval B (v.take i)) + B ^ (j + i) * c
  high : ∀ k, j + i ≤ k → u'.getD k 0 = u.getD k 0

theorem TakeInv.start {B : Int} {u v : List Int} (hu : Dig B u) (j : Nat) {q : Int} (hq : 0 ≤ q) : TakeInv B u v j q 0 u 0 :=
  ⟨rfl, hu, by omega, hq, by simp [lval], fun _ _ => rfl⟩

theorem TakeInv.bound {B : Int} (hB : 2 ≤ B) {u v : List Int} (hv : Dig B v) {j : Nat} {q : Int} {i : Nat} {u' : List Int} {c : Int} (h : TakeInv B u v j q i u' c) :
    -(q * B) ≤ u'.getD (j + i) 0 - c - q * v.getD i 0 ∧ u'.getD (j + i) 0 - c - q * v.getD i 0 < B ∧ 0 ≤ q * v.getD i 0 ∧ q * v.getD i 0 ≤ q * (B - 1) := by
  have h1 := h.dig.get (show 0 < B by omega) (j + i)
  have h2 := hv.get (show 0 < B by omega) i
  have hc0 := h.c0
  have hc1 := h.c1
  have h3 : 0 ≤ q * v.getD i 0 := Int.mul_nonneg (by omega) h2.1
  have h4 : q * v.getD i 0 ≤ q * (B - 1) := Int.mul_le_mul_of_nonneg_left (by omega) (by omega)
  have h5 : q * (B - 1) = q * B - q := by grind
  omega

theorem TakeInv.stepPos {B : Int} (hB : 2 ≤ B) {u v : List Int} (hv : Dig B v) {j : Nat} {q : Int} {i : Nat} {u' : List Int} {c : Int} (h : TakeInv B u v j q i u' c)
    (hi : j + i < u.length) (hn : 0 ≤ u'.getD (j + i) 0 - c - q * v.getD i 0) :
    TakeInv B u v j q (i + 1) (u'.set (j + i) (u'.getD (j + i) 0 - c - q * v.getD i 0)) 0 := by
  have hb := h.bound hB hv
  refine ⟨by simp [h.len], h.dig.set _ hn hb.2.1, by omega, by have := h.c0; have := h.c1; omega, ?_, ?_⟩
  · rw [lval_set B u' (j + i) _ (by have := h.len; omega), lval_take_succ, h.val]
    have e : B ^ (j + i) = B ^ j * B ^ i := Int.pow_add ..
    rw [e]
    grind
  · intro k hk
    rw [getD_set _ _ _ _ (by omega)]; exact h.high k (by omega)

theorem TakeInv.stepNeg {B : Int} (hB : 2 ≤ B) {u v : List Int} (hv : Dig B v) {j : Nat} {q : Int} {i : Nat} {u' : List Int} {c : Int} (h : TakeInv B u v j q i u' c)
    (hi : j + i < u.length) (_hn : u'.getD (j + i) 0 - c - q * v.getD i 0 < 0) :
    TakeInv B u v j q (i + 1) (u'.set (j + i) (u'.getD (j + i) 0 - c - q * v.getD i 0 + (-(u'.getD (j + i) 0 - c - q * v.getD i 0) + B - 1) / B * B))
      ((-(u'.getD (j + i) 0 - c - q * v.getD i 0) + B - 1) / B) := by
  have hb := h.bound hB hv
  have hl := lval_set B u' (j + i) (u'.getD (j + i) 0 - c - q * v.getD i 0 + (-(u'.getD (j + i) 0 - c - q * v.getD i 0) + B - 1) / B * B) (by have := h.len; omega)
  have hval := h.val
  have ht := lval_take_succ B v i
  have hlen := h.len
  have hdig := h.dig
  generalize hw : u'.getD (j + i) 0 = w at *
  generalize hz : v.getD i 0 = z at *
  have hm := Int.emod_add_mul_ediv (-(w - c - q * z) + B - 1) B
  have hm0 := Int.emod_nonneg (-(w - c - q * z) + B - 1) (show B ≠ 0 by omega)
  have hm1 := Int.emod_lt_of_pos (-(w - c - q * z) + B - 1) (show 0 < B by omega)
  have hd0 : 0 ≤ (-(w - c - q * z) + B - 1) / B := Int.ediv_nonneg (by omega) (by omega)
  have hd1 : (-(w - c - q * z) + B - 1) / B ≤ q := by
    have : (-(w - c - q * z) + B - 1) / B < q + 1 := Int.ediv_lt_of_lt_mul (by omega) (by rw [Int.add_mul]; omega)
    omega
  generalize (-(w - c - q * z) + B - 1) / B = d at *
  generalize (-(w - c - q * z) + B - 1) % B = m at *
  have e1 : d * B = B * d := Int.mul_comm ..
  refine ⟨by simp [hlen], hdig.set _ (by omega) (by omega), hd0, hd1, ?_, ?_⟩
  · rw [hl, ht, hval]
    have e : B ^ (j + i) = B ^ j * B ^ i := Int.pow_add ..
    have e2 : B ^ (j + (i + 1)) = B ^ j * B ^ i * B := by rw [← Nat.add_assoc, Int.pow_succ, e]
    rw [e, e2]
    grind
  · intro k hk
    rw [getD_set _ _ _ _ (by omega)]; exact h.high k (by omega)

/-- What a window is: the places from j on are less than base times v. -/
theorem TakeInv.enough {B : Int} (hB : 2 ≤ B) {u v : List Int} (hu : Dig B u) (hv : Dig B v) {j : Nat} (hj : j ≤ u.length) {q : Int} {i : Nat} (hi : v.length < i) {u' : List Int} {c : Int} (h : TakeInv B u v j q i u' c)
    (hX : lval B (u.drop j) < B * lval B v) (hq : q * lval B v ≤ lval B (u.drop j)) :
    c = 0 ∧ lval B u' = lval B u - B ^ j * (q * lval B v) ∧ lval B (u'.drop j) = lval B (u.drop j) - q * lval B v := by
  have hval := h.val
  rw [List.take_of_length_le (l := v) (by omega)] at hval
  have hV := lval_lt (show 0 < B by omega) hv
  have hs := lval_split B u j hj
  have h1 := lval_nonneg (show 0 ≤ B by omega) (hu.take j)
  have h1' := lval_lt (show 0 < B by omega) (hu.take j)
  rw [List.length_take, Nat.min_eq_left hj] at h1'
  have hpj := pow_pos' (show 0 < B by omega) j
  have hXi : lval B (u.drop j) < B ^ i := by
    have e : B * lval B v < B * B ^ v.length := Int.mul_lt_mul_of_pos_left hV (by omega)
    rw [Int.mul_comm B (B ^ v.length), show B ^ v.length * B = B ^ (v.length + 1) from (Int.pow_succ ..).symm] at e
    have := pow_mono (show 1 ≤ B by omega) (show v.length + 1 ≤ i by omega)
    omega
  have hz := zero_from_of_lt hB (hu.drop j) i hXi
  have hz' : ∀ k, j + i ≤ k → u'.getD k 0 = 0 := by
    intro k hk
    rw [h.high k hk]
    have := hz (k - j) (by omega)
    rw [getD_drop, show j + (k - j) = k by omega] at this
    exact this
  have hu' := lt_of_zero_from hB h.dig (j + i) hz'
  have h2 : B ^ j * (q * lval B v) ≤ B ^ j * lval B (u.drop j) := Int.mul_le_mul_of_nonneg_left hq (by omega)
  have hc : c = 0 := by
    have hc0 := h.c0
    by_cases e : 1 ≤ c
    · have : B ^ (j + i) * 1 ≤ B ^ (j + i) * c := Int.mul_le_mul_of_nonneg_left e (Int.le_of_lt (pow_pos' (by omega) _))
      omega
    · omega
  subst hc
  have hval' : lval B u' = lval B u - B ^ j * (q * lval B v) := by rw [hval]; simp
  refine ⟨rfl, hval', ?_⟩
  have hs' := lval_split B u' j (by have := h.len; omega)
  have h3 := lval_nonneg (show 0 ≤ B by omega) (h.dig.take j)
  have h3' := lval_lt (show 0 < B by omega) (h.dig.take j)
  rw [List.length_take, Nat.min_eq_left (by have := h.len; omega)] at h3'
  have e1 : lval B u' = lval B (u.take j) + B ^ j * (lval B (u.drop j) - q * lval B v) := by
    rw [hval', hs, Int.mul_sub]; omega
  have e2 : (lval B (u'.take j) + B ^ j * lval B (u'.drop j)) / B ^ j = (lval B (u.take j) + B ^ j * (lval B (u.drop j) - q * lval B v)) / B ^ j := by rw [← hs', e1]
  rw [Int.add_mul_ediv_left _ _ (by omega), Int.add_mul_ediv_left _ _ (by omega), Int.ediv_eq_zero_of_lt h3 h3', Int.ediv_eq_zero_of_lt h1 h1'] at e2
  omega

theorem TakeInv.tooMuch {B : Int} (hB : 2 ≤ B) {u v : List Int} (hu : Dig B u) {j : Nat} (hj : j ≤ u.length) {q : Int} {i : Nat} (hi : v.length < i) {u' : List Int} {c : Int} (h : TakeInv B u v j q i u' c)
    (hq : lval B (u.drop j) < q * lval B v) : 0 < c := by
  have hval := h.val
  rw [List.take_of_length_le (l := v) (by omega)] at hval
  have hs := lval_split B u j hj
  have h1' := lval_lt (show 0 < B by omega) (hu.take j)
  rw [List.length_take, Nat.min_eq_left hj] at h1'
  have h2 := lval_nonneg (show 0 ≤ B by omega) h.dig
  have h3 : B ^ j * (lval B (u.drop j) + 1) ≤ B ^ j * (q * lval B v) := Int.mul_le_mul_of_nonneg_left (by omega) (Int.le_of_lt (pow_pos' (by omega) _))
  rw [Int.mul_add] at h3
  have hc0 := h.c0
  by_cases e : c = 0
  · subst e; simp at hval; omega
  · omega

/-- q times v is being given back: behind i rounds. -/
structure BackInv (B : Int) (u v : List Int) (j : Nat) (q : Int) (i : Nat) (u' : List Int) (c : Int) : Prop where
  len : u'.length = u.length
  dig : Dig B u'
  c0 : 0 ≤ c
  c1 : c ≤ q
  val : lval B u' + B ^ (j + i) * c = lval B u + B ^ j * (q * lval B (v.take i))
  high : ∀ k, j + i ≤ k → u'.getD k 0 = u.getD k 0

theorem BackInv.start {B : Int} {u v : List Int} (hu : Dig B u) (j : Nat) {q : Int} (hq : 0 ≤ q) : BackInv B u v j q 0 u 0 :=
  ⟨rfl, hu, by omega, hq, by simp [lval], fun _ _ => rfl⟩

theorem BackInv.bound {B : Int} (hB : 2 ≤ B) {u v : List Int} (hv : Dig B v) {j : Nat} {q : Int} {i : Nat} {u' : List Int} {c : Int} (h : BackInv B u v j q i u' c) :
    0 ≤ u'.getD (j + i) 0 + q * v.getD i 0 + c ∧ u'.getD (j + i) 0 + q * v.getD i 0 + c < (q + 1) * B ∧ 0 ≤ q * v.getD i 0 ∧ q * v.getD i 0 ≤ q * (B - 1) := by
  have h1 := h.dig.get (show 0 < B by omega) (j + i)
  have h2 := hv.get (show 0 < B by omega) i
  have hc0 := h.c0
  have hc1 := h.c1
  have h3 : 0 ≤ q * v.getD i 0 := Int.mul_nonneg (by omega) h2.1
  have h4 : q * v.getD i 0 ≤ q * (B - 1) := Int.mul_le_mul_of_nonneg_left (by omega) (by omega)
  have h5 : q * (B - 1) = q * B - q := by grind
  have h6 : (q + 1) * B = q * B + B := by grind
  omega

theorem BackInv.step {B : Int} (hB : 2 ≤ B) {u v : List Int} (hv : Dig B v) {j : Nat} {q : Int} {i : Nat} {u' : List Int} {c : Int} (h : BackInv B u v j q i u' c)
    (hi : j + i < u.length) :
    BackInv B u v j q (i + 1) (u'.set (j + i) ((u'.getD (j + i) 0 + q * v.getD i 0 + c) % B)) ((u'.getD (j + i) 0 + q * v.getD i 0 + c) / B) := by
  have hb := h.bound hB hv
  have hl := lval_set B u' (j + i) ((u'.getD (j + i) 0 + q * v.getD i 0 + c) % B) (by have := h.len; omega)
  have hval := h.val
  have ht := lval_take_succ B v i
  have hlen := h.len
  have hdig := h.dig
  have hc0 := h.c0
  have hc1 := h.c1
  generalize hw : u'.getD (j + i) 0 = w at *
  generalize hz : v.getD i 0 = z at *
  have hm := Int.emod_add_mul_ediv (w + q * z + c) B
  have hm0 := Int.emod_nonneg (w + q * z + c) (show B ≠ 0 by omega)
  have hm1 := Int.emod_lt_of_pos (w + q * z + c) (show 0 < B by omega)
  have hd0 : 0 ≤ (w + q * z + c) / B := Int.ediv_nonneg (by omega) (by omega)
  have hd1 : (w + q * z + c) / B < q + 1 := Int.ediv_lt_of_lt_mul (by omega) (by omega)
  generalize (w + q * z + c) / B = d at *
  generalize (w + q * z + c) % B = m at *
  refine ⟨by simp [hlen], hdig.set _ hm0 hm1, hd0, by omega, ?_, ?_⟩
  · rw [hl, ht]
    have e : B ^ (j + i) = B ^ j * B ^ i := Int.pow_add ..
    have e2 : B ^ (j + (i + 1)) = B ^ j * B ^ i * B := by rw [← Nat.add_assoc, Int.pow_succ, e]
    rw [e, e2]
    rw [e] at hval
    grind
  · intro k hk
    rw [getD_set _ _ _ _ (by omega)]; exact h.high k (by omega)

/-- What was taken and given back is as it was. -/
theorem BackInv.undone {B : Int} (hB : 2 ≤ B) {u v : List Int} (hu : Dig B u) (hv : Dig B v) {j : Nat} {q : Int} {i : Nat} (hi : v.length < i) {u1 u2 : List Int} {c1 c2 : Int}
    (h1 : TakeInv B u v j q i u1 c1) (h2 : BackInv B u1 v j q i u2 c2) (hX : lval B (u.drop j) < B * lval B v) : u2 = u := by
  have hv1 := h1.val
  have hv2 := h2.val
  rw [List.take_of_length_le (l := v) (by omega)] at hv1 hv2
  have hV := lval_lt (show 0 < B by omega) hv
  have hXi : lval B (u.drop j) < B ^ i := by
    have e : B * lval B v < B * B ^ v.length := Int.mul_lt_mul_of_pos_left hV (by omega)
    rw [Int.mul_comm B (B ^ v.length), show B ^ v.length * B = B ^ (v.length + 1) from (Int.pow_succ ..).symm] at e
    have := pow_mono (show 1 ≤ B by omega) (show v.length + 1 ≤ i by omega)
    omega
  have hz := zero_from_of_lt hB (hu.drop j) i hXi
  have hz0 : ∀ k, j + i ≤ k → u.getD k 0 = 0 := by
    intro k hk
    have := hz (k - j) (by omega)
    rw [getD_drop, show j + (k - j) = k by omega] at this
    exact this
  have hz2 : ∀ k, j + i ≤ k → u2.getD k 0 = 0 := fun k hk => by rw [h2.high k hk, h1.high k hk, hz0 k hk]
  have l0 := lt_of_zero_from hB hu (j + i) hz0
  have l2 := lt_of_zero_from hB h2.dig (j + i) hz2
  have n0 := lval_nonneg (show 0 ≤ B by omega) hu
  have n2 := lval_nonneg (show 0 ≤ B by omega) h2.dig
  have e : lval B u2 + B ^ (j + i) * c2 = lval B u + B ^ (j + i) * c1 := by omega
  have e1 : (lval B u2 + B ^ (j + i) * c2) % B ^ (j + i) = (lval B u + B ^ (j + i) * c1) % B ^ (j + i) := by rw [e]
  rw [Int.add_mul_emod_self_left, Int.add_mul_emod_self_left, Int.emod_eq_of_lt n2 l2, Int.emod_eq_of_lt n0 l0] at e1
  exact lval_inj hB h2.dig hu (by rw [h2.len, h1.len]) e1

/-- The quotient's places from j on are found. -/
structure DivInv (B : Int) (N V : Int) (j : Nat) (u qs : List Int) (n : Nat) : Prop where
  len : u.length = qs.length + n
  dig : Dig B u
  digq : Dig B qs
  low : ∀ k, k < j → qs.getD k 0 = 0
  val : lval B u + B ^ j * (lval B (qs.drop j) * V) = N
  top : lval B (u.drop j) < V

theorem DivInv.window {B : Int} (hB : 2 ≤ B) {N V : Int} {j : Nat} {u qs : List Int} {n : Nat} (h : DivInv B N V (j + 1) u qs n) (hj : j < qs.length) :
    0 ≤ lval B (u.drop j) ∧ lval B (u.drop j) < B * V := by
  have h1 := lval_drop_pred B u j (by have := h.len; omega)
  have h2 := h.top
  have h3 := h.dig.get (show 0 < B by omega) j
  have h4 := lval_nonneg (show 0 ≤ B by omega) (h.dig.drop (j + 1))
  have h5 : B * (lval B (u.drop (j + 1)) + 1) ≤ B * V := Int.mul_le_mul_of_nonneg_left (by omega) (by omega)
  rw [Int.mul_add] at h5
  have h6 : 0 ≤ B * lval B (u.drop (j + 1)) := Int.mul_nonneg (by omega) h4
  omega

theorem DivInv.step {B : Int} (hB : 2 ≤ B) {N V : Int} (hV : 0 < V) {j : Nat} {u qs : List Int} {n : Nat} (h : DivInv B N V (j + 1) u qs n) (hj : j < qs.length) {u' : List Int}
    (hl : u'.length = u.length) (hd : Dig B u') (h1 : lval B u' = lval B u - B ^ j * (lval B (u.drop j) / V * V)) (h2 : lval B (u'.drop j) = lval B (u.drop j) - lval B (u.drop j) / V * V) :
    DivInv B N V j u' (qs.set j (lval B (u.drop j) / V)) n := by
  have hw := h.window hB hj
  have hq0 : 0 ≤ lval B (u.drop j) / V := Int.ediv_nonneg hw.1 (by omega)
  have hq1 : lval B (u.drop j) / V < B := Int.ediv_lt_of_lt_mul hV hw.2
  refine ⟨by rw [hl, h.len]; simp, hd, h.digq.set _ hq0 hq1, ?_, ?_, ?_⟩
  · intro k hk
    rw [getD_set _ _ _ _ (by omega)]; exact h.low k (by omega)
  · rw [lval_drop_pred B _ j (by simpa using hj), List.drop_set_of_lt (by omega), List.getD_eq_getElem?_getD, List.getElem?_set_self hj, Option.getD_some, h1, ← h.val]
    have e : B ^ (j + 1) = B ^ j * B := Int.pow_succ ..
    rw [e]
    generalize lval B (u.drop j) / V = q at *
    grind
  · rw [h2]
    have := Int.emod_add_mul_ediv (lval B (u.drop j)) V
    have := Int.emod_lt_of_pos (lval B (u.drop j)) hV
    have e : lval B (u.drop j) / V * V = V * (lval B (u.drop j) / V) := Int.mul_comm ..
    omega

theorem DivInv.done {B : Int} (hB : 2 ≤ B) {N V : Int} {u qs : List Int} {n : Nat} (h : DivInv B N V 0 u qs n) :
    ltrim qs = limbs B (N / V) ∧ ltrim u = limbs B (N % V) := by
  have h1 := h.val
  have h2 := h.top
  simp only [List.drop_zero, Int.pow_zero, Int.one_mul] at h1 h2
  have h3 := lval_nonneg (show 0 ≤ B by omega) h.dig
  obtain ⟨e1, e2⟩ := ediv_emod_of h3 h2 (show N = lval B qs * V + lval B u by omega)
  exact ⟨by rw [ltrim_eq hB h.digq, e1], by rw [ltrim_eq hB h.dig, e2]⟩

/-- The estimate of a quotient: q and what is left, r, of the upper two limbs; it is not less than the quotient. -/
structure EstInv (X V v1 top q r : Int) : Prop where
  eq : q * v1 + r = top
  r0 : 0 ≤ r
  ge : X / V ≤ q

theorem top_bounds {B : Int} (hB : 2 ≤ B) {l : List Int} (hl : Dig B l) {n : Nat} (h : lval B l < B ^ (n + 1)) :
    B ^ n * l.getD n 0 ≤ lval B l ∧ lval B l < B ^ n * (l.getD n 0 + 1) := by
  have hz := zero_from_of_lt hB hl (n + 1) h
  rw [lval_zero_from B l (n + 1) hz, lval_take_succ]
  have h1 := lval_nonneg (show 0 ≤ B by omega) (hl.take n)
  have h2 := lval_lt (show 0 < B by omega) (hl.take n)
  have h3 := pow_mono (show 1 ≤ B by omega) (show (l.take n).length ≤ n by rw [List.length_take]; omega)
  rw [Int.mul_add]
  omega

theorem top_bounds2 {B : Int} (hB : 2 ≤ B) {l : List Int} (hl : Dig B l) {n : Nat} (h : lval B l < B ^ (n + 2)) :
    B ^ n * (l.getD (n + 1) 0 * B + l.getD n 0) ≤ lval B l ∧ lval B l < B ^ n * (l.getD (n + 1) 0 * B + l.getD n 0 + 1) := by
  have hz := zero_from_of_lt hB hl (n + 2) h
  rw [lval_zero_from B l (n + 2) hz, lval_take_succ, lval_take_succ, Int.pow_succ]
  have h1 := lval_nonneg (show 0 ≤ B by omega) (hl.take n)
  have h2 := lval_lt (show 0 < B by omega) (hl.take n)
  have h3 := pow_mono (show 1 ≤ B by omega) (show (l.take n).length ≤ n by rw [List.length_take]; omega)
  have e1 : B ^ n * (l.getD (n + 1) 0 * B + l.getD n 0) = B ^ n * l.getD n 0 + B ^ n * B * l.getD (n + 1) 0 := by grind
  have e2 : B ^ n * (l.getD (n + 1) 0 * B + l.getD n 0 + 1) = B ^ n * l.getD n 0 + B ^ n * B * l.getD (n + 1) 0 + B ^ n := by grind
  omega

theorem top_bounds3 {B : Int} (hB : 2 ≤ B) {l : List Int} (hl : Dig B l) {n : Nat} (h : lval B l < B ^ (n + 3)) :
    B ^ n * ((l.getD (n + 2) 0 * B + l.getD (n + 1) 0) * B + l.getD n 0) ≤ lval B l ∧ lval B l < B ^ n * ((l.getD (n + 2) 0 * B + l.getD (n + 1) 0) * B + l.getD n 0 + 1) := by
  have hz := zero_from_of_lt hB hl (n + 3) h
  rw [lval_zero_from B l (n + 3) hz, lval_take_succ, lval_take_succ, lval_take_succ, show B ^ (n + 2) = B ^ n * B * B by rw [Int.pow_succ, Int.pow_succ], show B ^ (n + 1) = B ^ n * B from Int.pow_succ ..]
  have h1 := lval_nonneg (show 0 ≤ B by omega) (hl.take n)
  have h2 := lval_lt (show 0 < B by omega) (hl.take n)
  have h3 := pow_mono (show 1 ≤ B by omega) (show (l.take n).length ≤ n by rw [List.length_take]; omega)
  have e1 : B ^ n * ((l.getD (n + 2) 0 * B + l.getD (n + 1) 0) * B + l.getD n 0) = B ^ n * l.getD n 0 + B ^ n * B * l.getD (n + 1) 0 + B ^ n * B * B * l.getD (n + 2) 0 := by grind
  have e2 : B ^ n * ((l.getD (n + 2) 0 * B + l.getD (n + 1) 0) * B + l.getD n 0 + 1) = B ^ n * l.getD n 0 + B ^ n * B * l.getD (n + 1) 0 + B ^ n * B * B * l.getD (n + 2) 0 + B ^ n := by grind
  omega

/-- A quotient of upper parts is not less. -/
theorem quot_le {P X V t s : Int} (hP : 0 < P) (hX : X < P * (t + 1)) (hV : P * s ≤ V) (hs : 0 < s) (hX0 : 0 ≤ X) : X / V ≤ t / s := by
  have hV0 : 0 < V := by have := Int.mul_pos hP hs; omega
  have hq := Int.mul_ediv_self_le (x := X) (k := V) (by omega)
  have hq0 : 0 ≤ X / V := Int.ediv_nonneg hX0 (by omega)
  generalize X / V = q at *
  have h1 : q * (P * s) ≤ q * V := Int.mul_le_mul_of_nonneg_left hV hq0
  have h2 : P * (q * s) < P * (t + 1) := by
    have e : P * (q * s) = q * (P * s) := by grind
    rw [Int.mul_comm V q] at hq
    omega
  have h3 : q * s < t + 1 := Int.lt_of_mul_lt_mul_left h2 (by omega)
  rw [Int.le_ediv_iff_mul_le hs]
  omega

theorem EstInv.start {X V v1 top : Int} (hv : 0 < v1) (h : X / V ≤ top / v1) : EstInv X V v1 top (top / v1) (top % v1) :=
  ⟨by have := Int.emod_add_mul_ediv top v1; rw [Int.mul_comm] at this; omega, Int.emod_nonneg _ (by omega), h⟩

/-- One less, where the estimate is too great by what the next limbs show. -/
theorem EstInv.next {P B X V v1 v2 u2 top q r : Int} (h : EstInv X V v1 top q r) (hv1 : 0 < v1)
    (hP : 0 < P) (hX0 : 0 ≤ X) (hX : X < P * (top * B + u2 + 1)) (hV : P * (v1 * B + v2) ≤ V) (hs : 0 < v1 * B + v2) (hqB : X / V < B)
    (hc : B ≤ q ∨ r * B + u2 < q * v2) : EstInv X V v1 top (q - 1) (r + v1) := by
  have hr0 := h.r0
  have hge := h.ge
  refine ⟨by have := h.eq; rw [Int.sub_mul]; omega, by omega, ?_⟩
  rcases hc with hc | hc
  · omega
  · have h1 := quot_le hP hX hV hs hX0
    have h2 : (top * B + u2) / (v1 * B + v2) < q := Int.ediv_lt_of_lt_mul hs (by
      have e := h.eq
      have : q * (v1 * B + v2) = (q * v1) * B + q * v2 := by grind
      rw [this]
      have e2 : top * B = (q * v1) * B + r * B := by rw [← e]; grind
      omega)
    omega

end Kp
