import Derived.Test.YtgkikkabmcihhaaGreatDoorLimb
namespace Kp

/-- Sums, limb by limb: behind i rounds. -/
structure PlusInv (B : Int) (a b : List Int) (i : Nat) (o : List Int) (c : Int) : Prop where
  len : o.length = i
  dig : Dig B o
  c0 : 0 ≤ c
  c1 : c ≤ 1
  val : lval B o + B ^ i * c = lval B (a.take i) + lval B (b.take i)

theorem PlusInv.start (B : Int) (a b : List Int) : PlusInv B a b 0 [] 0 := ⟨rfl, Dig.nil, by omega, by omega, by simp [lval]⟩

theorem PlusInv.step {B : Int} (hB : 2 ≤ B) {a b : List Int} (ha : Dig B a) (hb : Dig B b) {i : Nat} {o : List Int} {c : Int} (h : PlusInv B a b i o c) :
    PlusInv B a b (i + 1) (o ++ [(a.getD i 0 + b.getD i 0 + c) % B]) ((a.getD i 0 + b.getD i 0 + c) / B) := by
  have h1 := ha.get (by omega) i
  have h2 := hb.get (by omega) i
  have hc0 := h.c0
  have hc1 := h.c1
  have hm := Int.emod_add_mul_ediv (a.getD i 0 + b.getD i 0 + c) B
  have hm0 := Int.emod_nonneg (a.getD i 0 + b.getD i 0 + c) (show B ≠ 0 by omega)
  have hm1 := Int.emod_lt_of_pos (a.getD i 0 + b.getD i 0 + c) (show 0 < B by omega)
  refine ⟨by simp [h.len], h.dig.append (Dig.one hm0 hm1), Int.ediv_nonneg (by omega) (by omega), ?_, ?_⟩
  · have : (a.getD i 0 + b.getD i 0 + c) / B < 2 := Int.ediv_lt_of_lt_mul (by omega) (by omega)
    omega
  · rw [lval_snoc, lval_take_succ, lval_take_succ, h.len, Int.pow_succ]
    have hv := h.val
    generalize a.getD i 0 = x at *
    generalize b.getD i 0 = y at *
    generalize (x + y + c) % B = m at *
    generalize (x + y + c) / B = d at *
    have : m + B * d = x + y + c := hm
    grind

theorem PlusInv.done {B : Int} (hB : 2 ≤ B) {a b : List Int} (ha : Dig B a) (hb : Dig B b) {i : Nat} {o : List Int} {c : Int} (h : PlusInv B a b i o c)
    (hla : a.length < i) (hlb : b.length < i) : ltrim o = limbs B (lval B a + lval B b) := by
  have hv := h.val
  rw [List.take_of_length_le (by omega), List.take_of_length_le (by omega)] at hv
  have h1 := lval_lt (by omega) ha
  have h2 := lval_lt (by omega) hb
  have h3 := pow_mono (show 1 ≤ B by omega) (show a.length ≤ i - 1 by omega)
  have h4 := pow_mono (show 1 ≤ B by omega) (show b.length ≤ i - 1 by omega)
  have h5 : B ^ i = B ^ (i - 1) * B := by rw [← Int.pow_succ]; congr 1; omega
  have h6 : B ^ (i - 1) * 2 ≤ B ^ (i - 1) * B := Int.mul_le_mul_of_nonneg_left hB (Int.le_of_lt (pow_pos' (by omega) _))
  have h7 := lval_nonneg (show 0 ≤ B by omega) h.dig
  have hc : c = 0 := by
    have hc0 := h.c0; have hc1 := h.c1
    by_cases e : c = 1
    · subst e; omega
    · omega
  subst hc
  rw [ltrim_eq hB h.dig]; congr 1; omega

/-- Differences, limb by limb: behind i rounds. -/
structure MinusInv (B : Int) (a b : List Int) (i : Nat) (o : List Int) (c : Int) : Prop where
  len : o.length = i
  dig : Dig B o
  c0 : 0 ≤ c
  c1 : c ≤ 1
  val : lval B o = lval B (a.take i) - lval B (b.take i) + B ^ i * c

theorem MinusInv.start (B : Int) (a b : List Int) : MinusInv B a b 0 [] 0 := ⟨rfl, Dig.nil, by omega, by omega, by simp [lval]⟩

theorem MinusInv.stepPos {B : Int} (hB : 2 ≤ B) {a b : List Int} (ha : Dig B a) (hb : Dig B b) {i : Nat} {o : List Int} {c : Int} (h : MinusInv B a b i o c)
    (hn : 0 ≤ a.getD i 0 - b.getD i 0 - c) : MinusInv B a b (i + 1) (o ++ [a.getD i 0 - b.getD i 0 - c]) 0 := by
  have h1 := ha.get (by omega) i
  have h2 := hb.get (by omega) i
  have hc0 := h.c0
  refine ⟨by simp [h.len], h.dig.append (Dig.one hn (by omega)), by omega, by omega, ?_⟩
  rw [lval_snoc, lval_take_succ, lval_take_succ, h.len, Int.pow_succ]
  have hv := h.val
  grind

theorem MinusInv.stepNeg {B : Int} (hB : 2 ≤ B) {a b : List Int} (ha : Dig B a) (hb : Dig B b) {i : Nat} {o : List Int} {c : Int} (h : MinusInv B a b i o c)
    (hn : a.getD i 0 - b.getD i 0 - c < 0) : MinusInv B a b (i + 1) (o ++ [a.getD i 0 - b.getD i 0 - c + B]) 1 := by
  have h1 := ha.get (by omega) i
  have h2 := hb.get (by omega) i
  have hc1 := h.c1
  refine ⟨by simp [h.len], h.dig.append (Dig.one (by omega) (by omega)), by omega, by omega, ?_⟩
  rw [lval_snoc, lval_take_succ, lval_take_succ, h.len, Int.pow_succ]
  have hv := h.val
  grind

theorem MinusInv.done {B : Int} (hB : 2 ≤ B) {a b : List Int} (hle : lval B b ≤ lval B a) {i : Nat} {o : List Int} {c : Int} (h : MinusInv B a b i o c)
    (hla : a.length ≤ i) (hlb : b.length ≤ i) : ltrim o = limbs B (lval B a - lval B b) := by
  have hv := h.val
  rw [List.take_of_length_le (by omega), List.take_of_length_le (by omega)] at hv
  have h2 := lval_lt (by omega) h.dig
  rw [h.len] at h2
  have hc : c = 0 := by
    have hc0 := h.c0; have hc1 := h.c1
    by_cases e : c = 1
    · subst e; omega
    · omega
  subst hc
  rw [ltrim_eq hB h.dig]; congr 1; omega

/-- Where two lists of limbs are compared from their ends. -/
theorem lval_lt_of_drop {B : Int} (hB : 2 ≤ B) {a b : List Int} (ha : Dig B a) (hb : Dig B b) {i : Nat} (hl : a.length = b.length) (hi : i < a.length)
    (he : a.drop (i + 1) = b.drop (i + 1)) (hlt : a.getD i 0 < b.getD i 0) : lval B a < lval B b := by
  have e1 : a = a.take i ++ (a.getD i 0 :: a.drop (i + 1)) := by
    rw [List.getD_eq_getElem?_getD, List.getElem?_eq_getElem hi, Option.getD_some, ← List.drop_eq_getElem_cons, List.take_append_drop]
  have e2 : b = b.take i ++ (b.getD i 0 :: b.drop (i + 1)) := by
    rw [List.getD_eq_getElem?_getD, List.getElem?_eq_getElem (by omega), Option.getD_some, ← List.drop_eq_getElem_cons, List.take_append_drop]
  rw [e1, e2, lval_append, lval_append, List.length_take, List.length_take, Nat.min_eq_left (by omega), Nat.min_eq_left (by omega)]
  rw [← he]
  simp only [lval]
  have h1 := lval_lt (show 0 < B by omega) (ha.take i)
  have h2 := lval_nonneg (show 0 ≤ B by omega) (hb.take i)
  rw [List.length_take, Nat.min_eq_left (by omega)] at h1
  generalize lval B (a.drop (i + 1)) = t at *
  generalize lval B (a.take i) = p at *
  generalize lval B (b.take i) = q at *
  generalize a.getD i 0 = x at *
  generalize b.getD i 0 = y at *
  have h3 : B ^ i * (x + B * t) + B ^ i ≤ B ^ i * (y + B * t) := by
    have := Int.mul_le_mul_of_nonneg_left (show x + B * t + 1 ≤ y + B * t by omega) (Int.le_of_lt (pow_pos' (show 0 < B by omega) i))
    rw [Int.mul_add (B ^ i) (x + B * t) 1] at this
    omega
  omega

theorem limbs_len_lt {B : Int} (hB : 2 ≤ B) {x y : Int} (hx : 0 ≤ x) (h : (limbs B x).length < (limbs B y).length) : x < y := by
  by_cases hle : y ≤ x
  · have h1 := limbs_len_ge hB x hx _ (Nat.le_refl _)
    have := limbs_len_le hB _ y (show y < B ^ (limbs B x).length by omega)
    omega
  · omega

/-- Products: behind k rounds of the round i. -/
structure TimesInv (B : Int) (a b : List Int) (i k : Nat) (o : List Int) (c : Int) : Prop where
  len : o.length = a.length + b.length + 1
  dig : Dig B o
  c0 : 0 ≤ c
  c1 : c < B
  val : lval B o + B ^ (i + k) * c = lval B (a.take i) * lval B b + B ^ i * (a.getD i 0 * lval B (b.take k))

theorem lval_zeros (B : Int) (n : Nat) : lval B (List.replicate n 0) = 0 := by
  induction n with
  | zero => rfl
  | succ n ih => simp [List.replicate_succ, lval, ih]

theorem TimesInv.start (B : Int) (hB : 2 ≤ B) (a b : List Int) : TimesInv B a b 0 0 (List.replicate (a.length + b.length + 1) 0) 0 :=
  ⟨by simp, fun x hx => by have := List.eq_of_mem_replicate hx; omega, by omega, by omega, by rw [lval_zeros]; simp [lval]⟩

theorem lval_set (B : Int) : ∀ (l : List Int) (j : Nat) (x : Int), j < l.length → lval B (l.set j x) = lval B l + B ^ j * (x - l.getD j 0)
  | y :: r, 0, x, _ => by simp [lval]; omega
  | y :: r, j + 1, x, h => by
    have ih := lval_set B r j x (by simpa using h)
    simp only [List.set_cons_succ, lval, List.getD_cons_succ]
    rw [ih, Int.pow_succ]
    generalize r.getD j 0 = z
    grind

theorem Dig.set {B : Int} {l : List Int} (h : Dig B l) (j : Nat) {x : Int} (h0 : 0 ≤ x) (h1 : x < B) : Dig B (l.set j x) := by
  intro y hy
  rcases List.mem_or_eq_of_mem_set hy with hy | rfl
  · exact h y hy
  · exact ⟨h0, h1⟩

theorem mul_lt_sq {B x y : Int} (hx0 : 0 ≤ x) (hx : x < B) (hy0 : 0 ≤ y) (hy : y < B) : 0 ≤ x * y ∧ x * y ≤ (B - 1) * (B - 1) :=
  ⟨Int.mul_nonneg hx0 hy0, Int.mul_le_mul (by omega) (by omega) hy0 (by omega)⟩

theorem TimesInv.bound {B : Int} (hB : 2 ≤ B) {a b : List Int} (ha : Dig B a) (hb : Dig B b) {i k : Nat} {o : List Int} {c : Int} (h : TimesInv B a b i k o c) :
    0 ≤ o.getD (i + k) 0 + a.getD i 0 * b.getD k 0 + c ∧ o.getD (i + k) 0 + a.getD i 0 * b.getD k 0 + c < B * B := by
  have h1 := ha.get (by omega) i
  have h2 := hb.get (by omega) k
  have h3 := h.dig.get (by omega) (i + k)
  have h4 := mul_lt_sq h1.1 h1.2 h2.1 h2.2
  have h5 := h.c0
  have h6 := h.c1
  have : (B - 1) * (B - 1) = B * B - 2 * B + 1 := by grind
  omega

theorem TimesInv.step {B : Int} (hB : 2 ≤ B) {a b : List Int} (ha : Dig B a) (hb : Dig B b) {i k : Nat} {o : List Int} {c : Int} (h : TimesInv B a b i k o c)
    (hi : i < a.length) (hk : k ≤ b.length) :
    TimesInv B a b i (k + 1) (o.set (i + k) ((o.getD (i + k) 0 + a.getD i 0 * b.getD k 0 + c) % B)) ((o.getD (i + k) 0 + a.getD i 0 * b.getD k 0 + c) / B) := by
  obtain ⟨hb1, hb2⟩ := h.bound hB ha hb
  have hlen := h.len
  have hv := h.val
  have hs := lval_set B o (i + k) ((o.getD (i + k) 0 + a.getD i 0 * b.getD k 0 + c) % B) (by omega)
  have ht := lval_take_succ B b k
  generalize hn : o.getD (i + k) 0 + a.getD i 0 * b.getD k 0 + c = n at *
  have hm := Int.emod_add_mul_ediv n B
  have hm0 := Int.emod_nonneg n (show B ≠ 0 by omega)
  have hm1 := Int.emod_lt_of_pos n (show 0 < B by omega)
  refine ⟨by simp [hlen], h.dig.set _ hm0 hm1, Int.ediv_nonneg hb1 (by omega), Int.ediv_lt_of_lt_mul (by omega) hb2, ?_⟩
  rw [hs, ht, show i + (k + 1) = (i + k) + 1 from rfl, Int.pow_succ]
  rw [Int.pow_add] at hv ⊢
  generalize o.getD (i + k) 0 = u at *
  generalize a.getD i 0 = x at *
  generalize b.getD k 0 = y at *
  generalize n % B = m at *
  generalize n / B = d at *
  grind

theorem TimesInv.next {B : Int} (hB : 2 ≤ B) {a b : List Int} (ha : Dig B a) (hb : Dig B b) {i : Nat} {o : List Int} {c : Int} (h : TimesInv B a b i (b.length + 1) o c)
    : TimesInv B a b (i + 1) 0 o 0 := by
  have hv := h.val
  rw [List.take_of_length_le (l := b) (by omega)] at hv
  have e : lval B (a.take i) * lval B b + B ^ i * (a.getD i 0 * lval B b) = lval B (a.take (i + 1)) * lval B b := by
    rw [lval_take_succ, Int.add_mul, Int.mul_assoc]
  rw [e] at hv
  have h1 := lval_lt (show 0 < B by omega) (ha.take (i + 1))
  have h2 := lval_lt (show 0 < B by omega) hb
  have h3 := lval_nonneg (show 0 ≤ B by omega) (ha.take (i + 1))
  have h4 := lval_nonneg (show 0 ≤ B by omega) hb
  have h5 := lval_nonneg (show 0 ≤ B by omega) h.dig
  have h6 := pow_mono (show 1 ≤ B by omega) (show (a.take (i + 1)).length ≤ i + 1 by rw [List.length_take]; omega)
  have hc : c = 0 := by
    have hc0 := h.c0
    by_cases e0 : 1 ≤ c
    · have h7 : B ^ (i + (b.length + 1)) * 1 ≤ B ^ (i + (b.length + 1)) * c := Int.mul_le_mul_of_nonneg_left e0 (Int.le_of_lt (pow_pos' (by omega) _))
      have h8 : lval B (a.take (i + 1)) * lval B b < B ^ (i + 1) * B ^ b.length := by
        by_cases hz : lval B b = 0
        · rw [hz, Int.mul_zero]; exact Int.mul_pos (pow_pos' (by omega) _) (pow_pos' (by omega) _)
        · exact Int.mul_lt_mul (by omega) (by omega) (by omega) (Int.le_of_lt (pow_pos' (by omega) _))
      rw [← Int.pow_add, show i + 1 + b.length = i + (b.length + 1) by omega] at h8
      omega
    · omega
  subst hc
  refine ⟨h.len, h.dig, by omega, by omega, ?_⟩
  simp only [List.take_zero, lval]
  rw [← hv]; simp

theorem TimesInv.done {B : Int} (hB : 2 ≤ B) {a b : List Int} {o : List Int} (h : TimesInv B a b a.length 0 o 0) :
    ltrim o = limbs B (lval B a * lval B b) := by
  have hv := h.val
  simp only [List.take_length, List.take_zero, lval] at hv
  rw [ltrim_eq hB h.dig]; congr 1; simpa using hv

/-- Division by a single limb, from the greatest one on: what lies from j on is done. -/
structure ShortInv (B : Int) (a : List Int) (d : Int) (j : Nat) (q : List Int) (r : Int) : Prop where
  len : q.length = a.length
  dig : Dig B q
  r0 : 0 ≤ r
  r1 : r < d
  val : lval B (a.drop j) = lval B (q.drop j) * d + r
  low : ∀ k, k < j → q.getD k 0 = 0

theorem ShortInv.start (B : Int) (hB : 2 ≤ B) (a : List Int) (d : Int) (hd : 0 < d) : ShortInv B a d a.length (List.replicate a.length 0) 0 :=
  ⟨by simp, fun x hx => by have := List.eq_of_mem_replicate hx; omega, by omega, by omega, by rw [List.drop_of_length_le (by omega), List.drop_of_length_le (by simp)]; simp [lval], fun k _ => by
    rw [List.getD_eq_getElem?_getD, List.getElem?_replicate]; split <;> rfl⟩

theorem lval_drop_pred (B : Int) (a : List Int) (j : Nat) (hj : j < a.length) : lval B (a.drop j) = a.getD j 0 + B * lval B (a.drop (j + 1)) := by
  rw [List.drop_eq_getElem_cons hj, List.getD_eq_getElem?_getD, List.getElem?_eq_getElem hj]; rfl

theorem ShortInv.bound {B : Int} (hB : 2 ≤ B) {a : List Int} (ha : Dig B a) {d : Int} {j : Nat} {q : List Int} {r : Int} (h : ShortInv B a d (j + 1) q r) (hd1 : d ≤ B) :
    0 ≤ a.getD j 0 + r * B ∧ a.getD j 0 + r * B < B * B := by
  have h1 := ha.get (by omega) j
  have h2 : 0 ≤ r * B := Int.mul_nonneg h.r0 (by omega)
  have h3 : r * B ≤ (B - 1) * B := Int.mul_le_mul_of_nonneg_right (by have := h.r1; omega) (by omega)
  have : (B - 1) * B = B * B - B := by grind
  omega

theorem ShortInv.step {B : Int} (hB : 2 ≤ B) {a : List Int} (ha : Dig B a) {d : Int} (hd : 0 < d) {j : Nat} {q : List Int} {r : Int} (h : ShortInv B a d (j + 1) q r)
    (hj : j < a.length) : ShortInv B a d j (q.set j ((a.getD j 0 + r * B) / d)) ((a.getD j 0 + r * B) % d) := by
  have h1 := ha.get (by omega) j
  have hr0 := h.r0
  have hr1 := h.r1
  have h2 : 0 ≤ r * B := Int.mul_nonneg hr0 (by omega)
  have h3 : r * B ≤ (d - 1) * B := Int.mul_le_mul_of_nonneg_right (by omega) (by omega)
  have h4 : (d - 1) * B = B * d - B := by grind
  have hlen := h.len
  refine ⟨by simp [hlen], h.dig.set _ (Int.ediv_nonneg (by omega) (by omega)) (Int.ediv_lt_of_lt_mul hd (by omega)), Int.emod_nonneg _ (by omega), Int.emod_lt_of_pos _ hd, ?_, ?_⟩
  · have hm := Int.emod_add_mul_ediv (a.getD j 0 + r * B) d
    rw [lval_drop_pred B a j hj, lval_drop_pred B _ j (by simpa using (by omega)), h.val]
    rw [List.drop_set_of_lt (by omega)]
    rw [List.getD_eq_getElem?_getD (l := q.set _ _), List.getElem?_set_self (by omega), Option.getD_some]
    generalize a.getD j 0 = x at *
    generalize (x + r * B) % d = m at *
    generalize (x + r * B) / d = e at *
    grind
  · intro k hk
    rw [List.getD_eq_getElem?_getD, List.getElem?_set_ne (by omega), ← List.getD_eq_getElem?_getD]
    exact h.low k (by omega)

theorem ediv_emod_of {a d q r : Int} (h0 : 0 ≤ r) (h1 : r < d) (h : a = q * d + r) : a / d = q ∧ a % d = r := by
  have hd : 0 < d := by omega
  subst h
  constructor
  · rw [Int.add_comm, Int.mul_comm, Int.add_mul_ediv_left _ _ (by omega), Int.ediv_eq_zero_of_lt h0 h1]; omega
  · rw [Int.add_comm, Int.mul_comm, Int.add_mul_emod_self_left, Int.emod_eq_of_lt h0 h1]

theorem ShortInv.done {B : Int} (hB : 2 ≤ B) {a : List Int} {d : Int} (hd1 : d ≤ B) {q : List Int} {r : Int} (h : ShortInv B a d 0 q r) :
    ltrim q = limbs B (lval B a / d) ∧ r = lval B a % d ∧ ltrim [r] = limbs B (lval B a % d) := by
  have hv := h.val
  simp only [List.drop_zero] at hv
  obtain ⟨h1, h2⟩ := ediv_emod_of h.r0 h.r1 hv
  have hr1 := h.r1
  refine ⟨by rw [ltrim_eq hB h.dig, h1], h2.symm, ?_⟩
  rw [ltrim_eq hB (Dig.one h.r0 (by omega)), h2]; simp [lval]

end Kp
