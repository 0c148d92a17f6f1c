/-
  RefM QA QB QC QD QE QF QG QH QI QJ QK QL QM, one behind the other.
-/
import Derived.Test.YtgkikkabmcihhaaGreatDoorMA
import Derived.Test.YtgkikkabmcihhaaGreatDoorSD
import Derived.Laws.IdiomStrings

namespace Kp

theorem ref_est {B : Int} (hB : 2 ≤ B) {r v : List Int} (hr : Dig B r) (hv : Dig B v) {n : Nat} (hn : v.length = n + 2) (hR : lval B r < B * lval B v) {num top : Int}
    (hnum : num = (r.getD (n + 2) 0 * B + r.getD (n + 1) 0) * B + r.getD n 0) (htop : top = v.getD (n + 1) 0 * B + v.getD n 0) :
    0 ≤ num ∧ num < B * (top + 1) ∧ 0 ≤ top ∧ 0 ≤ num / (top + 1) ∧ num / (top + 1) < B ∧ num / (top + 1) * lval B v ≤ lval B r := by
  have hV := lval_lt (show 0 < B by omega) hv
  rw [hn] at hV
  have hP := pow_pos' (show 0 < B by omega) n
  have hR2 : lval B r < B ^ (n + 3) := by
    have : B * lval B v < B * B ^ (n + 2) := Int.mul_lt_mul_of_pos_left hV (by omega)
    rw [Int.mul_comm B (B ^ (n + 2)), show B ^ (n + 2) * B = B ^ (n + 3) from (Int.pow_succ ..).symm] at this
    omega
  obtain ⟨b1, b2⟩ := top_bounds3 hB hr hR2
  obtain ⟨c1, c2⟩ := top_bounds2 hB hv hV
  rw [← hnum] at b1 b2
  rw [← htop] at c1 c2
  have g0 := hr.get (show 0 < B by omega) n
  have g1 := hr.get (show 0 < B by omega) (n + 1)
  have g2 := hr.get (show 0 < B by omega) (n + 2)
  have k0 := hv.get (show 0 < B by omega) n
  have k1 := hv.get (show 0 < B by omega) (n + 1)
  have hnum0 : 0 ≤ num := by
    rw [hnum]
    have h1 : 0 ≤ r.getD (n + 2) 0 * B := Int.mul_nonneg g2.1 (by omega)
    have h2 : 0 ≤ (r.getD (n + 2) 0 * B + r.getD (n + 1) 0) * B := Int.mul_nonneg (by omega) (by omega)
    omega
  have htop0 : 0 ≤ top := by
    rw [htop]
    have h1 : 0 ≤ v.getD (n + 1) 0 * B := Int.mul_nonneg k1.1 (by omega)
    omega
  have hlt : num < B * (top + 1) := by
    refine Int.lt_of_mul_lt_mul_left (a := B ^ n) ?_ (Int.le_of_lt hP)
    have h1 : B * lval B v < B * (B ^ n * (top + 1)) := Int.mul_lt_mul_of_pos_left c2 (by omega)
    have e : B * (B ^ n * (top + 1)) = B ^ n * (B * (top + 1)) := by grind
    omega
  have hg0 : 0 ≤ num / (top + 1) := Int.ediv_nonneg hnum0 (by omega)
  have hgB : num / (top + 1) < B := Int.ediv_lt_of_lt_mul (by omega) hlt
  have hgm : num / (top + 1) * (top + 1) ≤ num := Int.ediv_mul_le _ (by omega)
  refine ⟨hnum0, hlt, htop0, hg0, hgB, ?_⟩
  generalize num / (top + 1) = g at *
  have h1 : g * lval B v ≤ g * (B ^ n * (top + 1)) := Int.mul_le_mul_of_nonneg_left (by omega) hg0
  have h2 : B ^ n * (g * (top + 1)) ≤ B ^ n * num := Int.mul_le_mul_of_nonneg_left hgm (Int.le_of_lt hP)
  have e : g * (B ^ n * (top + 1)) = B ^ n * (g * (top + 1)) := by grind
  omega

end Kp

namespace Go.Proofs.YtgkikkabmcihhaaGreatDoor
open Go.RowKit Kp
open Go.Lib (decDigits)

set_option maxHeartbeats 400000 in
theorem ref01_limb (l : List Int) (hln : l.length < 4611686018427387904) (v : Value) (i : Nat) (hi : i < 4611686018427387904) (w : World) (hl : IntSl w v l) :
    Calls Tryz.prog 278 #[v, .int .i64 i] w fun e w' => e = .returned (.int .i64 (l.getD i 0)) ∧ w' = w := by
  rcases hl.cases with ⟨rfl, a, cap, rfl⟩ | ⟨b, o, cap, rfl, hcap, h0, hA⟩
  · have hd : decide ((i : Int) < 0) = false := by simp
    go_enter Tryz.func278, Tryz.ntmps278
    go_wp2
    go_ret
    exact ⟨rfl, rfl⟩
  · by_cases hlt : i < l.length
    · have hi0 : (0 : Int) ≤ (i : Int) := by omega
      have hil : (i : Int) < (l.length : Int) := by omega
      have hc := hA.2 i hlt
      generalize l.getD i 0 = x at *
      go_enter Tryz.func278, Tryz.ntmps278
      go_wp2
      go_ret
      exact ⟨rfl, rfl⟩
    · have hd : decide ((i : Int) < (l.length : Int)) = false := by simp; omega
      have e : l.getD i 0 = 0 := by rw [List.getD_eq_getElem?_getD, List.getElem?_eq_none (by omega)]; rfl
      rw [e]
      go_enter Tryz.func278, Tryz.ntmps278
      go_wp2
      go_ret
      exact ⟨rfl, rfl⟩

theorem ref01_limb_q (l : List Int) (hln : l.length < 4611686018427387904) (v : Value) (i : Nat) (hi : i < 4611686018427387904) (w : World) (hl : IntSl w v l) :
    Calls Tryz.prog 278 #[v, .int .i64 i] w fun e w' => e = .returned (.int .i64 (l.getD i 0)) ∧ Q w w' :=
  (ref01_limb l hln v i hi w hl).mono fun e w' h => ⟨h.1, by rw [h.2]; exact Q.refl w⟩

set_option maxHeartbeats 400000 in
theorem ref01_trim_s (l : List Int) (hln : l.length < 4611686018427387904) (a : Option Addr) (cap : Nat) (w : World) (hl : IntSl w (.slice a l.length cap) l) :
    Calls Tryz.prog 276 #[.slice a l.length cap] w fun e w' => e = .returned (.slice a (ltrim l).length cap) ∧ w' = w := by
  have hA : l.length ≤ cap ∧ (0 < l.length → ∃ b o, a = some ⟨b, o, none⟩ ∧ IntAt w b o l) := by
    obtain ⟨a', cap', e, hcap, hc⟩ := hl
    injection e with e1 e2 e3
    subst e1 e3
    exact ⟨hcap, hc⟩
  obtain ⟨hcap, hA⟩ := hA
  have HA := Lib.hid hA
  clear hl hA
  obtain ⟨r, hr⟩ : ∃ r, (ltrim l).length = r := ⟨_, rfl⟩
  rw [hr]
  have HR := Lib.hid hr
  clear hr
  go_enter Tryz.func276, Tryz.ntmps276
  go_wp2
  go_loop [3] (fun x => ∃ m : Nat, m ≤ l.length ∧ x = .int .i64 m ∧ Hid (ltrim (l.take m) = ltrim l)) (fun x => (intOf x).toNat)
  case atStart => exact ⟨l.length, Nat.le_refl _, rfl, Lib.hid (by rw [List.take_length])⟩
  case round =>
    obtain ⟨m, hm, rfl, HT⟩ := hrel
    by_cases hm0 : m = 0
    · subst hm0
      obtain rfl : r = 0 := by rw [← HR.out, ← HT.out]; rfl
      go_wp2
      go_ret
      exact ⟨rfl, rfl⟩
    · obtain ⟨k, rfl⟩ : ∃ k, m = k + 1 := ⟨m - 1, by omega⟩
      obtain ⟨b, o, rfl, hA⟩ := HA.out (by omega)
      have hc := hA.2 k (by omega)
      have hk0 : (0 : Int) ≤ (k : Int) := by omega
      have hk1 : (k : Int) < (l.length : Int) := by omega
      have hw1 := Go.IntWalk.i64_in ((k : Int)) (by omega)
      by_cases hz : l.getD k 0 = 0
      · rw [hz] at hc
        have HN : Hid (ltrim (l.take k) = ltrim l) := Lib.hid (by rw [← ltrim_take l k (by omega) hz]; exact HT.out)
        clear hz
        go_wp2
        go_round
        case rel => exact ⟨k, by omega, by go_num, HN⟩
        case measure => simp [intOf]
      · obtain rfl : r = k + 1 := by
          rw [← HR.out, ← HT.out, ltrim_done l (k + 1) hm (.inr (by simpa using hz)), List.length_take]; omega
        have hzb : (l.getD k 0 == 0) = false := by rw [beq_eq_false_iff_ne]; exact hz
        clear hz
        generalize l.getD k 0 = x at *
        go_wp2
        go_ret
        exact ⟨rfl, rfl⟩

theorem ref01_trim (l : List Int) (hln : l.length < 4611686018427387904) (v : Value) (w : World) (hl : IntSl w v l) :
    Calls Tryz.prog 276 #[v] w fun e w' => ∃ v', e = .returned v' ∧ IntSl w v' (ltrim l) ∧ w' = w := by
  obtain ⟨a, cap, rfl, hc⟩ := id hl
  refine (ref01_trim_s l hln a cap w hl).mono ?_
  rintro e w' ⟨rfl, rfl⟩
  have h := ltrim_take_len l
  have h2 := hl.take h.1
  rw [h.2] at h2
  exact ⟨_, rfl, h2, rfl⟩

/-- The number that the digits of a string show, its signs passed over. -/
def skipV (s : Str) : Nat := nval (s.filter (fun c => c != 45))
theorem skipV_snoc_minus (s : Str) : skipV (s ++ [45]) = skipV s := by unfold skipV; rw [List.filter_append]; simp
theorem skipV_snoc_dig (s : Str) (c : UInt8) (h : isDig c = true) : skipV (s ++ [c]) = 10 * skipV s + (c.toNat - 48) := by
  have hc : (c != 45) = true := by
    rw [bne_iff_ne]; intro e; subst e; exact absurd h (by decide)
  unfold skipV
  rw [List.filter_append, show [c].filter (fun c => c != 45) = [c] by simp [List.filter, hc], nval_snoc]
theorem skipV_lt (n : Nat) : ∀ (s : Str), s.length = n → (∀ c ∈ s, c = 45 ∨ isDig c = true) → skipV s < 10 ^ n := by
  induction n with
  | zero =>
    intro s h _
    obtain rfl := List.length_eq_zero_iff.1 h
    exact (show skipV [] < 10 ^ 0 by rw [show skipV [] = 0 from rfl]; decide)
  | succ n ih =>
    intro s hs h
    have hlt : n < s.length := by omega
    have e : s = s.take n ++ [s[n]] := by
      rw [← List.take_succ_eq_append_getElem hlt, List.take_of_length_le (by omega)]
    have h1 := ih (s.take n) (by rw [List.length_take]; omega) (fun x hx => h x (List.mem_of_mem_take hx))
    rw [e, Nat.pow_succ]
    rcases h s[n] (List.getElem_mem hlt) with h45 | hd
    · rw [h45, skipV_snoc_minus]; omega
    · rw [skipV_snoc_dig _ _ hd]
      have := (isDig_iff s[n]).1 hd
      omega

set_option maxHeartbeats 1000000 in
theorem ref01_small (s : Str) (hc : ∀ c ∈ s, c = 45 ∨ isDig c = true) (hne : 0 < s.length) (hl : s.length ≤ 17) (z : Int) (hz : (at0 s 0 = 45 ∧ z = -(skipV s : Int)) ∨ (at0 s 0 ≠ 45 ∧ z = (skipV s : Int))) (w : World) :
    Calls Tryz.prog 275 #[.string ⟨s.toArray⟩] w fun e w' => e = .returned (.tuple #[.int .i64 z, .bool true]) ∧ w' = w := by
  have HC := Lib.hid (fun k (hk : k < s.length) => hc (at0 s k) (by rw [at0_get s k hk]; exact List.getElem_mem hk))
  have HLT := Lib.hid (fun k (hk : k ≤ s.length) => skipV_lt k (s.take k) (by rw [List.length_take]; omega) (fun c h => hc c (List.mem_of_mem_take h)))
  have HZ := Lib.hid hz
  have HTK : Hid (∀ k (hk : k < s.length), s.take (k + 1) = s.take k ++ [at0 s k]) := Lib.hid (fun k hk => by rw [List.take_succ_eq_append_getElem hk, at0_get s k hk])
  have HALL : Hid (s.take s.length = s) := Lib.hid List.take_length
  clear hc hz
  go_enter Tryz.func275, Tryz.ntmps275
  go_wp2
  go_loop [4, 5] (fun n i => ∃ k : Nat, k ≤ s.length ∧ i = .int .i64 k ∧ n = .int .i64 (skipV (s.take k))) (fun _ i => s.length - (intOf i).toNat)
  case atStart => exact ⟨0, by omega, rfl, rfl⟩
  case round =>
    obtain ⟨k, hk, rfl, rfl⟩ := hrel
    by_cases hlt : k < s.length
    · have hv := HLT.out k hk
      have hp : 10 ^ k ≤ 10 ^ 16 := Nat.pow_le_pow_right (by decide) (by omega)
      have hv2 : skipV (s.take k) < 10000000000000000 := Nat.lt_of_lt_of_le hv hp
      clear hv hp
      rcases HC.out k hlt with h45 | hd
      · have hb : (((at0 s k).toNat : Int) == 45) = true := by rw [h45]; rfl
        have hb' := bne_of_t hb
        have HS : Hid (skipV (s.take (k + 1)) = skipV (s.take k)) := Lib.hid (by rw [HTK.out k hlt, h45, skipV_snoc_minus])
        clear h45
        generalize skipV (s.take k) = V at *
        go_wp2
        go_round
        case rel => exact ⟨k + 1, by omega, by go_num, by rw [HS.out]⟩
        case measure => simp [intOf]; omega
      · have hd2 := (isDig_iff _).1 hd
        have hb : (((at0 s k).toNat : Int) == 45) = false := ne45 (fun e => by rw [e] at hd; exact absurd hd (by decide))
        have hb' := bne_of_f hb
        have HS : Hid (skipV (s.take (k + 1)) = 10 * skipV (s.take k) + ((at0 s k).toNat - 48)) := Lib.hid (by rw [HTK.out k hlt, skipV_snoc_dig _ _ hd])
        clear hd
        generalize skipV (s.take k) = V at *
        go_wp2
        go_round
        case rel => exact ⟨k + 1, by omega, by go_num, by rw [HS.out]; go_num⟩
        case measure => simp [intOf]; omega
    · obtain rfl : k = s.length := by omega
      rw [HALL.out]
      have hv := HLT.out s.length (Nat.le_refl _)
      rw [HALL.out] at hv
      have hp : 10 ^ s.length ≤ 10 ^ 17 := Nat.pow_le_pow_right (by decide) hl
      have hv2 : skipV s < 100000000000000000 := Nat.lt_of_lt_of_le hv hp
      clear hv hp
      rcases HZ.out with ⟨hm, rfl⟩ | ⟨hm, rfl⟩
      · have hb : (((at0 s 0).toNat : Int) == 45) = true := by rw [hm]; rfl
        clear hm HZ
        go_wp2
        go_ret2
        exact ⟨rfl, rfl⟩
      · have hb : (((at0 s 0).toNat : Int) == 45) = false := ne45 hm
        clear hm HZ
        go_wp2
        go_ret2
        exact ⟨rfl, rfl⟩

/-- What an integer's text looks like. -/
theorem itoa_chars (x : Int) : (∀ c ∈ Lib.itoa x, c = 45 ∨ isDig c = true) ∧ 0 < (Lib.itoa x).length ∧ ((at0 (Lib.itoa x) 0 = 45 ∧ x = -(skipV (Lib.itoa x) : Int)) ∨ (at0 (Lib.itoa x) 0 ≠ 45 ∧ x = (skipV (Lib.itoa x) : Int))) := by
  have hf : ∀ n, (decDigits n).filter (fun c => c != 45) = decDigits n := fun n => by
    rw [List.filter_eq_self]
    intro c hc
    have := decDigits_dig n c hc
    rw [bne_iff_ne]; intro e; subst e; exact absurd this (by decide)
  have hne : 0 < (Lib.itoa x).length := by
    rcases Nat.eq_zero_or_pos (Lib.itoa x).length with h0 | h0
    · exact absurd (List.length_eq_zero_iff.1 h0) (itoa_ne _)
    · exact h0
  have hh := head_at0 (s := Lib.itoa x) (by intro e; rw [e] at hne; simp at hne)
  have hi := head_itoa x []
  rw [List.append_nil, hh] at hi
  by_cases h : x < 0
  · rw [itoa_neg h] at *
    refine ⟨fun c hc => ?_, hne, .inl ⟨Option.some.inj (hi.2 h), ?_⟩⟩
    · rcases List.mem_cons.1 hc with rfl | hc
      · exact .inl rfl
      · exact .inr (decDigits_dig _ c hc)
    · unfold skipV
      rw [show (45 :: decDigits x.natAbs).filter (fun c => c != 45) = decDigits x.natAbs by rw [List.filter_cons_of_neg (by simp), hf], nval_decDigits]
      omega
  · rw [itoa_nonneg (by omega)] at *
    refine ⟨fun c hc => .inr (decDigits_dig _ c hc), hne, .inr ⟨fun e => h (hi.1 (by rw [e])), ?_⟩⟩
    unfold skipV
    rw [hf, nval_decDigits]
    omega

theorem ref01_small_itoa (x : Int) (hl : (Lib.itoa x).length ≤ 17) (w : World) :
    Calls Tryz.prog 275 #[.string ⟨(Lib.itoa x).toArray⟩] w fun e w' => e = .returned (.tuple #[.int .i64 x, .bool true]) ∧ w' = w := by
  obtain ⟨h1, h2, h3⟩ := itoa_chars x
  exact ref01_small _ h1 h2 hl x h3 w

set_option maxHeartbeats 400000 in
theorem ref01_small_long (s : Str) (hl : 17 < s.length) (hl2 : s.length ≤ 1000000000) (w : World) :
    Calls Tryz.prog 275 #[.string ⟨s.toArray⟩] w fun e w' => e = .returned (.tuple #[.int .i64 0, .bool false]) ∧ w' = w := by
  have h : (17 : Int) < (s.length : Int) := by omega
  go_enter Tryz.func275, Tryz.ntmps275
  go_wp2
  go_ret2
  exact ⟨rfl, rfl⟩

set_option maxHeartbeats 400000 in
theorem ref01_two (x y : Int) (hx : (Lib.itoa x).length ≤ 17) (hy : (Lib.itoa y).length ≤ 17) (w : World) :
    Calls Tryz.prog 225 #[.string ⟨(Lib.itoa x).toArray⟩, .string ⟨(Lib.itoa y).toArray⟩] w fun e w' => e = .returned (.tuple #[.int .i64 x, .int .i64 y, .bool true]) ∧ w' = w := by
  have H1 := Lib.hid (fun w => ref01_small_itoa x hx w)
  have H2 := Lib.hid (fun w => ref01_small_itoa y hy w)
  generalize Lib.itoa x = X at *
  generalize Lib.itoa y = Y at *
  go_enter Tryz.func225, Tryz.ntmps225
  go_wp2_with fail
  refine (H1.out _).mono ?_
  rintro e w1 ⟨rfl, rfl⟩
  go_wp2_with fail
  refine (H2.out _).mono ?_
  rintro e w2 ⟨rfl, rfl⟩
  go_wp2
  go_ret3
  exact ⟨rfl, rfl⟩

set_option maxHeartbeats 400000 in
/-- two, where one of the texts is long. -/
theorem ref01_two_long (x y : Int) (hx : lim x = false) (hy : lim y = false) (h : 17 < (Lib.itoa x).length ∨ 17 < (Lib.itoa y).length) (w : World) :
    Calls Tryz.prog 225 #[.string ⟨(Lib.itoa x).toArray⟩, .string ⟨(Lib.itoa y).toArray⟩] w fun e w' => (∃ a b : Int, e = .returned (.tuple #[.int .i64 a, .int .i64 b, .bool false])) ∧ w' = w := by
  have lx := itoa_len x hx
  have ly := itoa_len y hy
  by_cases h1 : 17 < (Lib.itoa x).length
  · have H1 := Lib.hid (fun w => ref01_small_long (Lib.itoa x) h1 (by omega) w)
    generalize Lib.itoa x = X at *
    generalize Lib.itoa y = Y at *
    go_enter Tryz.func225, Tryz.ntmps225
    go_wp2_with fail
    refine (H1.out _).mono ?_
    rintro e w1 ⟨rfl, rfl⟩
    go_wp2
    go_ret3
    exact ⟨⟨_, _, rfl⟩, rfl⟩
  · have H1 := Lib.hid (fun w => ref01_small_itoa x (by omega) w)
    have H2 := Lib.hid (fun w => ref01_small_long (Lib.itoa y) (by omega) (by omega) w)
    generalize Lib.itoa x = X at *
    generalize Lib.itoa y = Y at *
    go_enter Tryz.func225, Tryz.ntmps225
    go_wp2_with fail
    refine (H1.out _).mono ?_
    rintro e w1 ⟨rfl, rfl⟩
    go_wp2_with fail
    refine (H2.out _).mono ?_
    rintro e w2 ⟨rfl, rfl⟩
    go_wp2
    go_ret3
    exact ⟨⟨_, _, rfl⟩, rfl⟩

/-- The first digit of an integer's text. -/
theorem itoa_first (x : Int) (hx : lim x = false) : (x < 0 ∧ at0 (Lib.itoa x) 0 = 45 ∧ 1 < (Lib.itoa x).length ∧ at0 (Lib.itoa x) 1 ≠ 48 ∧ (Lib.itoa x).length ≤ 301 ∧ ∀ k, 1 ≤ k → k < (Lib.itoa x).length → isDig (at0 (Lib.itoa x) k) = true) ∨
    (0 ≤ x ∧ at0 (Lib.itoa x) 0 ≠ 45 ∧ 0 < (Lib.itoa x).length ∧ (at0 (Lib.itoa x) 0 = 48 → (Lib.itoa x).length = 1) ∧ (Lib.itoa x).length ≤ 300 ∧ ∀ k, k < (Lib.itoa x).length → isDig (at0 (Lib.itoa x) k) = true) := by
  have h1 := ichk_itoa x
  rw [hx, if_neg (by decide)] at h1
  have hlen : (unsig (Lib.itoa x)).length ≤ 300 := by
    have h2 := itoa_of_form (ichk_ne_eleven x)
    rcases Nat.lt_or_ge 300 (unsig (Lib.itoa x)).length with h | h
    · have := h2.2.2 h; rw [h1] at this; cases this
    · exact h
  rw [unsig_itoa] at hlen
  obtain ⟨-, hne, -⟩ := itoa_chars x
  by_cases h : x < 0
  · have e := itoa_neg h
    have hnz : (decDigits x.natAbs).head? ≠ some 48 := decDigits_head x.natAbs (by omega)
    rw [e]
    have hd : 0 < (decDigits x.natAbs).length := by
      rcases Nat.eq_zero_or_pos (decDigits x.natAbs).length with h0 | h0
      · have := nval_decDigits x.natAbs
        rw [List.length_eq_zero_iff.1 h0] at this
        have h3 : nval [] = 0 := rfl
        omega
      · exact h0
    refine .inl ⟨h, rfl, by simp; omega, fun e2 => hnz ?_, by simp; omega, fun k hk1 hk2 => ?_⟩
    · obtain ⟨c, r, hcr⟩ : ∃ c r, decDigits x.natAbs = c :: r := by
        cases hh : decDigits x.natAbs with
        | nil => rw [hh] at hd; simp at hd
        | cons c r => exact ⟨c, r, rfl⟩
      rw [hcr] at e2 ⊢
      have : at0 (45 :: c :: r) 1 = c := rfl
      rw [this] at e2
      rw [e2]; rfl
    · rw [at0_get _ k hk2]
      obtain ⟨k', rfl⟩ : ∃ k', k = k' + 1 := ⟨k - 1, by omega⟩
      exact decDigits_dig _ _ (by rw [List.getElem_cons_succ]; exact List.getElem_mem _)
  · have e := itoa_nonneg (show 0 ≤ x by omega)
    rw [e] at hne ⊢
    have hxn : x.toNat = x.natAbs := by omega
    refine .inr ⟨by omega, fun e2 => ?_, hne, fun e2 => ?_, by rw [hxn]; exact hlen, fun k hk => by rw [at0_get _ k hk]; exact decDigits_dig _ _ (List.getElem_mem hk)⟩
    · have := decDigits_dig x.toNat (at0 (decDigits x.toNat) 0) (by rw [at0_get _ 0 hne]; exact List.getElem_mem hne)
      rw [e2] at this; exact absurd this (by decide)
    · have hh := head_at0 (s := decDigits x.toNat) (by intro e3; rw [e3] at hne; simp at hne)
      rw [e2] at hh
      rcases Nat.eq_zero_or_pos x.toNat with h0 | h0
      · rw [h0]; simp [decDigits]
      · exact absurd hh (decDigits_head x.toNat h0)

theorem ne48 {c : UInt8} (h : c ≠ 48) : ((c.toNat : Int) == 48) = false := by
  have h2 : c.toNat ≠ 48 := fun e => h (UInt8.toNat_inj.1 e)
  rw [beq_eq_false_iff_ne]; omega

set_option maxHeartbeats 1000000 in
theorem ref01_Check (x : Int) (hx : lim x = false) (w : World) :
    Calls Tryz.prog 274 #[.string ⟨(Lib.itoa x).toArray⟩] w fun e w' => e = .returned (.int .i64 0) ∧ w' = w := by
  rcases itoa_first x hx with ⟨-, h0, h1, h2, h3, h4⟩ | ⟨-, h0, h1, h2, h3, h4⟩
  · have hb : (((at0 (Lib.itoa x) 0).toNat : Int) == 45) = true := by rw [h0]; rfl
    have hb1 := ne48 h2
    have HD := Lib.hid (fun k a b => (isDig_iff _).1 (h4 k a b))
    have HN : Hid (1 < (Lib.itoa x).length) := Lib.hid h1
    have hn1 : ((1 : Int) == ((Lib.itoa x).length : Int)) = false := by rw [beq_eq_false_iff_ne]; omega
    have hn2 : (0 : Int) < ((Lib.itoa x).length : Int) := by omega
    have hn3 : (1 : Int) < ((Lib.itoa x).length : Int) := by omega
    have hn4 : ((Lib.itoa x).length : Int) ≤ 301 := by omega
    clear h0 h2 h4
    generalize Lib.itoa x = s at *
    go_enter Tryz.func274, Tryz.ntmps274
    go_wp2
    go_loop [4] (fun i => ∃ k : Nat, 1 ≤ k ∧ k ≤ s.length ∧ i = .int .i64 k) (fun i => s.length - (intOf i).toNat)
    case atStart => exact ⟨1, by omega, by omega, rfl⟩
    case round =>
      obtain ⟨k, hk1, hk, rfl⟩ := hrel
      by_cases hlt : k < s.length
      · obtain ⟨d1, d2⟩ := HD.out k hk1 hlt
        have d1' : ¬ (at0 s k).toNat < 48 := by omega
        go_wp2
        go_round
        case rel => exact ⟨k + 1, by omega, by omega, by go_num⟩
        case measure => simp [intOf]; omega
      · obtain rfl : k = s.length := by omega
        go_wp2
        go_ret
        exact ⟨rfl, rfl⟩
  · have hb : (((at0 (Lib.itoa x) 0).toNat : Int) == 45) = false := ne45 h0
    have HD := Lib.hid (fun k b => (isDig_iff _).1 (h4 k b))
    have hn0 : ((0 : Int) == ((Lib.itoa x).length : Int)) = false := by rw [beq_eq_false_iff_ne]; omega
    have hn2 : (0 : Int) < ((Lib.itoa x).length : Int) := by omega
    have hn4 : ((Lib.itoa x).length : Int) ≤ 300 := by omega
    have hway : (((at0 (Lib.itoa x) 0).toNat : Int) == 48) = false ∨ ((((at0 (Lib.itoa x) 0).toNat : Int) == 48) = true ∧ ¬ (1 : Int) < ((Lib.itoa x).length : Int)) := by
      by_cases h : at0 (Lib.itoa x) 0 = 48
      · exact .inr ⟨by rw [h]; rfl, by have := h2 h; omega⟩
      · exact .inl (ne48 h)
    clear h0 h2 h4
    generalize Lib.itoa x = s at *
    go_enter Tryz.func274, Tryz.ntmps274
    rcases hway with hw | ⟨hw, hw2⟩
    all_goals go_wp2
    all_goals go_loop [4] (fun i => ∃ k : Nat, k ≤ s.length ∧ i = .int .i64 k) (fun i => s.length - (intOf i).toNat)
    all_goals first
      | (exact ⟨0, by omega, rfl⟩)
      | (obtain ⟨k, hk, rfl⟩ := hrel
         by_cases hlt : k < s.length
         · obtain ⟨d1, d2⟩ := HD.out k hlt
           have d1' : ¬ (at0 s k).toNat < 48 := by omega
           go_wp2
           go_round
           case rel => exact ⟨k + 1, by omega, by go_num⟩
           case measure => simp [intOf]; omega
         · obtain rfl : k = s.length := by omega
           go_wp2
           go_ret
           exact ⟨rfl, rfl⟩)

set_option maxHeartbeats 400000 in
theorem ref01_both (x y : Int) (hx : lim x = false) (hy : lim y = false) (w : World) :
    Calls Tryz.prog 224 #[.string ⟨(Lib.itoa x).toArray⟩, .string ⟨(Lib.itoa y).toArray⟩] w fun e w' => e = .returned (.int .i64 0) ∧ w' = w := by
  have H1 := Lib.hid (fun w => ref01_Check x hx w)
  have H2 := Lib.hid (fun w => ref01_Check y hy w)
  generalize Lib.itoa x = X at *
  generalize Lib.itoa y = Y at *
  go_enter Tryz.func224, Tryz.ntmps224
  go_wp2_with fail
  refine (H1.out _).mono ?_
  rintro e w1 ⟨rfl, rfl⟩
  go_wp2_with fail
  refine (H2.out _).mono ?_
  rintro e w2 ⟨rfl, rfl⟩
  go_wp2
  go_ret
  exact ⟨rfl, rfl⟩

/-- Ints at the beginning of a block from B on. -/
def IntB (B : Nat) (w : World) (v : Value) (l : List Int) : Prop := ∃ b cap, v = .slice (some ⟨b, 0, none⟩) l.length cap ∧ l.length ≤ cap ∧ B ≤ b ∧ IntAt w b 0 l
theorem IntB.sl {B : Nat} {w : World} {v : Value} {l : List Int} (h : IntB B w v l) : IntSl w v l := by
  obtain ⟨b, cap, rfl, hc, -, hA⟩ := h
  exact ⟨_, cap, rfl, hc, fun _ => ⟨b, 0, rfl, hA⟩⟩
theorem IntB.keep {B : Nat} {w w' : World} {v : Value} {l : List Int} (h : IntB B w v l) (hq : Q w w') : IntB B w' v l := by
  obtain ⟨b, cap, rfl, hc, hb, hA⟩ := h
  exact ⟨b, cap, rfl, hc, hb, hA.keep hq hA.1⟩
theorem IntB.low {B B' : Nat} {w : World} {v : Value} {l : List Int} (h : IntB B w v l) (hb : B' ≤ B) : IntB B' w v l := by
  obtain ⟨b, cap, e, hc, h1, hA⟩ := h
  exact ⟨b, cap, e, hc, Nat.le_trans hb h1, hA⟩
theorem IntB.other {B g : Nat} {w : World} {v : Value} {l : List Int} (h : IntB B w v l) (hg : g < B) (i : Nat) (x : Value) : IntB B (w.setCell ⟨g, i, none⟩ x) v l := by
  obtain ⟨b, cap, e, hc, h1, hb, hi⟩ := h
  refine ⟨b, cap, e, hc, h1, by simpa [World.setCell] using hb, fun j hj => ?_⟩
  rw [World.cell?_setCell_far _ _ _ _ (show g ≠ b by omega)]
  exact hi j hj
theorem intB_of {w : World} {B g n cap : Nat} {l : List Int} (h : w.ownsRow B 3 1 (.slice (some ⟨g, 0, none⟩) n cap) n (intVs l)) (hn : l.length = n) : IntB B w (.slice (some ⟨g, 0, none⟩) n cap) l := by
  subst hn
  rcases h.2 with ⟨e, -⟩ | ⟨g', cap', cur, e, hg, hc, hcap, _⟩
  · cases e
  · injection e with e1 e2 e3
    injection e1 with e4
    injection e4 with e5
    subst e5 e3
    exact ⟨_, _, rfl, hcap, hg, (Array.getElem?_eq_some_iff.1 hc).1, fun i hi => by rw [Nat.zero_add, h.cellAt i (by omega), intVs_at l i hi]⟩

/-- trim of a row of one's own. -/
theorem ref01_trim_b (l : List Int) (hln : l.length < 4611686018427387904) (B : Nat) (v : Value) (w : World) (hl : IntB B w v l) :
    Calls Tryz.prog 276 #[v] w fun e w' => ∃ v', e = .returned v' ∧ IntB B w v' (ltrim l) ∧ w' = w := by
  have hsl := hl.sl
  obtain ⟨b, cap, rfl, hc, hb, hA⟩ := hl
  refine (ref01_trim_s l hln _ cap w hsl).mono ?_
  rintro e w' ⟨rfl, rfl⟩
  have h := ltrim_take_len l
  refine ⟨_, rfl, ⟨b, cap, rfl, by omega, hb, hA.1, fun i hi => ?_⟩, rfl⟩
  rw [hA.2 i (by omega), ← h.2]
  congr 2
  rw [List.getD_eq_getElem?_getD, List.getD_eq_getElem?_getD, List.getElem?_take_of_lt (by omega)]

end Go.Proofs.YtgkikkabmcihhaaGreatDoor

namespace Go.Proofs.YtgkikkabmcihhaaGreatDoor
open Go.RowKit Kp
open Go.Lib (decDigits)

/-- The base of the reference's limbs. -/
abbrev RB6 : Int := 1000000

theorem plus_c_zero {B : Int} (hB : 2 ≤ B) {a b : List Int} (ha : Dig B a) (hb : Dig B b) {i : Nat} {o : List Int} {c : Int} (h : PlusInv B a b i o c) (hla : a.length < i) (hlb : b.length < i) : c = 0 := by
  have hv := h.val
  rw [List.take_of_length_le (by omega), List.take_of_length_le (by omega)] at hv
  have h1 := lval_lt (by omega) ha
  have h2 := lval_lt (by omega) hb
  have h3 := pow_mono (show 1 ≤ B by omega) (show a.length ≤ i - 1 by omega)
  have h4 := pow_mono (show 1 ≤ B by omega) (show b.length ≤ i - 1 by omega)
  have h5 : B ^ i = B ^ (i - 1) * B := by rw [← Int.pow_succ]; congr 1; omega
  have h6 : B ^ (i - 1) * 2 ≤ B ^ (i - 1) * B := Int.mul_le_mul_of_nonneg_left hB (Int.le_of_lt (pow_pos' (by omega) _))
  have h7 := lval_nonneg (show 0 ≤ B by omega) h.dig
  have hc0 := h.c0
  have hc1 := h.c1
  by_cases e : c = 1
  · subst e; omega
  · omega

set_option maxRecDepth 100000 in
set_option maxHeartbeats 4000000 in
theorem ref01_plus (a b : List Int) (da : Dig RB6 a) (db : Dig RB6 b) (ha : a.length ≤ 100000) (hb : b.length ≤ 100000) (v1 v2 : Value) (w : World) (h1 : IntSl w v1 a) (h2 : IntSl w v2 b) :
    Calls Tryz.prog 282 #[v1, v2] w fun e w' => ∃ v', e = .returned v' ∧ IntB w.heap.size w' v' (limbs RB6 (lval RB6 a + lval RB6 b)) ∧ Q w w' := by
  obtain ⟨i0, hi, hz0, hz1, hz2⟩ := info_parts infoInt
  have H1 := Lib.hid h1
  have H2 := Lib.hid h2
  obtain ⟨a1, c1, rfl, -, -⟩ := h1
  obtain ⟨a2, c2, rfl, -, -⟩ := h2
  obtain ⟨n, hn⟩ : ∃ n : Nat, max a.length b.length = n := ⟨_, rfl⟩
  have hna : a.length ≤ n := by omega
  have hnb : b.length ≤ n := by omega
  have hn1 : n ≤ 100000 := by omega
  clear hn
  have hrow0 := World.ownsRow_lit (base := w.heap.size) (e := 3) (size := 1) w #[] 0 (Nat.le_refl _) (by decide) (by decide)
  have hq0 : Q w (w.alloc (.cells #[] 3)) := (Below.refl _ w).alloc (Nat.le_refl _) _
  go_enter Tryz.func282, Tryz.ntmps282
  go_wp2
  go_loopw [5, 6, 7] (fun ov cv iv wr => ∃ (i : Nat) (o : List Int) (c : Int) (v : Value), i ≤ n + 1 ∧ v = ov ∧ cv = .int .i64 c ∧ iv = .int .i64 i ∧ Hid (PlusInv RB6 a b i o c) ∧ Hid (wr.ownsRow w.heap.size 3 1 v o.length (intVs o)) ∧ Q w wr ∧ Hid (∃ g cap, v = .slice (some ⟨g, 0, none⟩) o.length cap)) (fun _ _ iv _ => n + 1 - (intOf iv).toNat)
  case atStart => exact ⟨0, [], 0, _, by omega, rfl, rfl, rfl, Lib.hid (PlusInv.start RB6 a b), Lib.hid hrow0, hq0, Lib.hid ⟨_, _, rfl⟩⟩
  case round =>
    obtain ⟨i, o, c, v, hi1, rfl, rfl, rfl, HInv, HO, hQ, HF⟩ := hrel
    by_cases g1 : i < a.length
    · have k1 : (i : Int) < (a.length : Int) := by omega
      have hin : i < n + 1 := by omega
      have hol := HInv.out.len
      have gx := da.get (by decide) i
      have gy := db.get (by decide) i
      have gc0 := HInv.out.c0
      have gc1 := HInv.out.c1
      have HN := Lib.hid (HInv.out.step (by decide) da db)
      have HLa := ref01_limb a (by omega) _ i (by omega) wr (H1.out.keep hQ)
      have HLb := ref01_limb b (by omega) _ i (by omega) wr (H2.out.keep hQ)
      generalize a.getD i 0 = x1 at *
      generalize b.getD i 0 = x2 at *
      have HLa := Lib.hid HLa
      have HLb := Lib.hid HLb
      have hb6 : RB6 = 1000000 := rfl
      rw [hb6] at gx gy
      have hw1 := Go.IntWalk.i64_in (x1 + x2) (by omega)
      have hw2 := Go.IntWalk.i64_in (x1 + x2 + c) (by omega)
      have hm0 : 0 ≤ x1 + x2 + c := by omega
      go_wp2_with fail
      refine HLa.out.mono ?_
      rintro e w1 ⟨rfl, rfl⟩
      go_wp2_with fail
      refine HLb.out.mono ?_
      rintro e w1 ⟨rfl, rfl⟩
      have ho := HO.out
      have hws := hQ.size
      go_wp2_with (at_builtin; refine wpList_append_own _ rfl (.tmp 35) (.tmp 38) 163 rfl w.heap.size 3 i0 _ 1 8 Tryz.underlying163 hi hz0 hz1 hz2 rfl (by decide) _ o.length (intVs o) rfl (ho.alloc _) ⟨w1.heap.size, 0, none⟩ 1 1 [.int .i64 ((x1 + x2 + c) % 1000000)] rfl rfl (cell_one_new _ _ _) (by simp [Value.oneCell']) (by unfold maxLen; omega) (by omega) (by simp; omega) ?_)
      intro v' w2 hown' hgrow _
      have hq2 : Q w w2 := (hQ.alloc hws _).grown hgrow (by simp; omega) (fun j hj => (ho.lt j hj).1)
      have HO2 : Hid (w2.ownsRow w.heap.size 3 1 v' (o ++ [(x1 + x2 + c) % 1000000]).length (intVs (o ++ [(x1 + x2 + c) % 1000000]))) := Lib.hid (by rw [intVs_snoc, List.length_append, hol]; exact hown')
      have HF2 : Hid (∃ g cap, v' = .slice (some ⟨g, 0, none⟩) (o ++ [(x1 + x2 + c) % 1000000]).length cap) := Lib.hid (by obtain ⟨g, cap, e, -, -⟩ := HO2.out.form (by simp); exact ⟨g, cap, e⟩)
      clear hown' hgrow ho HO HLa HLb HF
      go_wp2
      go_roundw
      case rel => exact ⟨i + 1, o ++ [(x1 + x2 + c) % 1000000], (x1 + x2 + c) / 1000000, v', by omega, rfl, rfl, by go_num, HN, HO2, hq2, HF2⟩
      case measure => simp [intOf]; omega
    · have k1 : ¬ (i : Int) < (a.length : Int) := by omega
      by_cases g2 : i < b.length
      · have k2 : (i : Int) < (b.length : Int) := by omega
        have hin : i < n + 1 := by omega
        have hol := HInv.out.len
        have gx := da.get (by decide) i
        have gy := db.get (by decide) i
        have gc0 := HInv.out.c0
        have gc1 := HInv.out.c1
        have HN := Lib.hid (HInv.out.step (by decide) da db)
        have HLa := ref01_limb a (by omega) _ i (by omega) wr (H1.out.keep hQ)
        have HLb := ref01_limb b (by omega) _ i (by omega) wr (H2.out.keep hQ)
        generalize a.getD i 0 = x1 at *
        generalize b.getD i 0 = x2 at *
        have HLa := Lib.hid HLa
        have HLb := Lib.hid HLb
        have hb6 : RB6 = 1000000 := rfl
        rw [hb6] at gx gy
        have hw1 := Go.IntWalk.i64_in (x1 + x2) (by omega)
        have hw2 := Go.IntWalk.i64_in (x1 + x2 + c) (by omega)
        have hm0 : 0 ≤ x1 + x2 + c := by omega
        go_wp2_with fail
        refine HLa.out.mono ?_
        rintro e w1 ⟨rfl, rfl⟩
        go_wp2_with fail
        refine HLb.out.mono ?_
        rintro e w1 ⟨rfl, rfl⟩
        have ho := HO.out
        have hws := hQ.size
        go_wp2_with (at_builtin; refine wpList_append_own _ rfl (.tmp 35) (.tmp 38) 163 rfl w.heap.size 3 i0 _ 1 8 Tryz.underlying163 hi hz0 hz1 hz2 rfl (by decide) _ o.length (intVs o) rfl (ho.alloc _) ⟨w1.heap.size, 0, none⟩ 1 1 [.int .i64 ((x1 + x2 + c) % 1000000)] rfl rfl (cell_one_new _ _ _) (by simp [Value.oneCell']) (by unfold maxLen; omega) (by omega) (by simp; omega) ?_)
        intro v' w2 hown' hgrow _
        have hq2 : Q w w2 := (hQ.alloc hws _).grown hgrow (by simp; omega) (fun j hj => (ho.lt j hj).1)
        have HO2 : Hid (w2.ownsRow w.heap.size 3 1 v' (o ++ [(x1 + x2 + c) % 1000000]).length (intVs (o ++ [(x1 + x2 + c) % 1000000]))) := Lib.hid (by rw [intVs_snoc, List.length_append, hol]; exact hown')
        have HF2 : Hid (∃ g cap, v' = .slice (some ⟨g, 0, none⟩) (o ++ [(x1 + x2 + c) % 1000000]).length cap) := Lib.hid (by obtain ⟨g, cap, e, -, -⟩ := HO2.out.form (by simp); exact ⟨g, cap, e⟩)
        clear hown' hgrow ho HO HLa HLb HF
        go_wp2
        go_roundw
        case rel => exact ⟨i + 1, o ++ [(x1 + x2 + c) % 1000000], (x1 + x2 + c) / 1000000, v', by omega, rfl, rfl, by go_num, HN, HO2, hq2, HF2⟩
        case measure => simp [intOf]; omega
      · have k2 : ¬ (i : Int) < (b.length : Int) := by omega
        by_cases g3 : 0 < c
        · have hin : i < n + 1 := by
            rcases Nat.lt_or_ge i (n + 1) with h | h
            · exact h
            · exfalso
              have hd := plus_c_zero (by decide) da db HInv.out (by omega) (by omega)
              omega
          have hol := HInv.out.len
          have gx := da.get (by decide) i
          have gy := db.get (by decide) i
          have gc0 := HInv.out.c0
          have gc1 := HInv.out.c1
          have HN := Lib.hid (HInv.out.step (by decide) da db)
          have HLa := ref01_limb a (by omega) _ i (by omega) wr (H1.out.keep hQ)
          have HLb := ref01_limb b (by omega) _ i (by omega) wr (H2.out.keep hQ)
          generalize a.getD i 0 = x1 at *
          generalize b.getD i 0 = x2 at *
          have HLa := Lib.hid HLa
          have HLb := Lib.hid HLb
          have hb6 : RB6 = 1000000 := rfl
          rw [hb6] at gx gy
          have hw1 := Go.IntWalk.i64_in (x1 + x2) (by omega)
          have hw2 := Go.IntWalk.i64_in (x1 + x2 + c) (by omega)
          have hm0 : 0 ≤ x1 + x2 + c := by omega
          go_wp2_with fail
          refine HLa.out.mono ?_
          rintro e w1 ⟨rfl, rfl⟩
          go_wp2_with fail
          refine HLb.out.mono ?_
          rintro e w1 ⟨rfl, rfl⟩
          have ho := HO.out
          have hws := hQ.size
          go_wp2_with (at_builtin; refine wpList_append_own _ rfl (.tmp 35) (.tmp 38) 163 rfl w.heap.size 3 i0 _ 1 8 Tryz.underlying163 hi hz0 hz1 hz2 rfl (by decide) _ o.length (intVs o) rfl (ho.alloc _) ⟨w1.heap.size, 0, none⟩ 1 1 [.int .i64 ((x1 + x2 + c) % 1000000)] rfl rfl (cell_one_new _ _ _) (by simp [Value.oneCell']) (by unfold maxLen; omega) (by omega) (by simp; omega) ?_)
          intro v' w2 hown' hgrow _
          have hq2 : Q w w2 := (hQ.alloc hws _).grown hgrow (by simp; omega) (fun j hj => (ho.lt j hj).1)
          have HO2 : Hid (w2.ownsRow w.heap.size 3 1 v' (o ++ [(x1 + x2 + c) % 1000000]).length (intVs (o ++ [(x1 + x2 + c) % 1000000]))) := Lib.hid (by rw [intVs_snoc, List.length_append, hol]; exact hown')
          have HF2 : Hid (∃ g cap, v' = .slice (some ⟨g, 0, none⟩) (o ++ [(x1 + x2 + c) % 1000000]).length cap) := Lib.hid (by obtain ⟨g, cap, e, -, -⟩ := HO2.out.form (by simp); exact ⟨g, cap, e⟩)
          clear hown' hgrow ho HO HLa HLb HF
          go_wp2
          go_roundw
          case rel => exact ⟨i + 1, o ++ [(x1 + x2 + c) % 1000000], (x1 + x2 + c) / 1000000, v', by omega, rfl, rfl, by go_num, HN, HO2, hq2, HF2⟩
          case measure => simp [intOf]; omega
        · have hc0 : c = 0 := by have := HInv.out.c0; omega
          have hst := HInv.out.step (by decide) da db
          rw [List.getD_eq_getElem?_getD, List.getElem?_eq_none (by omega), List.getD_eq_getElem?_getD, List.getElem?_eq_none (by omega), hc0] at hst
          have hdone := PlusInv.done (by decide) da db hst (by omega) (by omega)
          rw [show ((none : Option Int).getD 0 + (none : Option Int).getD 0 + 0) % RB6 = 0 by decide, ltrim_snoc_zero] at hdone
          have HD := Lib.hid hdone
          have hol := HInv.out.len
          have hO := HO.out
          obtain ⟨g5, cap5, rfl⟩ := HF.out
          rw [hol] at hO
          have hsl := intB_of hO hol
          clear hst hdone hO
          go_wp2_with fail
          refine (ref01_trim_b o (by omega) _ _ _ hsl).mono ?_
          rintro e w1 ⟨v', rfl, hs, rfl⟩
          rw [HD.out] at hs
          go_wp2
          go_ret
          exact ⟨_, rfl, hs, hQ⟩

set_option maxRecDepth 100000 in
set_option maxHeartbeats 4000000 in
theorem ref01_minus (a b : List Int) (da : Dig RB6 a) (db : Dig RB6 b) (ha : a.length ≤ 100000) (hbl : b.length ≤ a.length) (hle : lval RB6 b ≤ lval RB6 a) (v1 v2 : Value) (w : World) (h1 : IntSl w v1 a) (h2 : IntSl w v2 b) :
    Calls Tryz.prog 279 #[v1, v2] w fun e w' => ∃ v', e = .returned v' ∧ IntB w.heap.size w' v' (limbs RB6 (lval RB6 a - lval RB6 b)) ∧ Q w w' := by
  obtain ⟨i0, hi, hz0, hz1, hz2⟩ := info_parts infoInt
  have H1 := Lib.hid h1
  have H2 := Lib.hid h2
  obtain ⟨a1, c1, rfl, -, k1⟩ := h1
  obtain ⟨a2, c2, rfl, -, -⟩ := h2
  have hrow0 := World.ownsRow_lit (base := w.heap.size) (e := 3) (size := 1) w #[] 0 (Nat.le_refl _) (by decide) (by decide)
  have hq0 : Q w (w.alloc (.cells #[] 3)) := (Below.refl _ w).alloc (Nat.le_refl _) _
  go_enter Tryz.func279, Tryz.ntmps279
  go_wp2
  go_loopw [5, 6, 7] (fun ov cv iv wr => ∃ (i : Nat) (o : List Int) (c : Int) (v : Value), i ≤ a.length ∧ v = ov ∧ cv = .int .i64 c ∧ iv = .int .i64 i ∧ Hid (MinusInv RB6 a b i o c) ∧ Hid (wr.ownsRow w.heap.size 3 1 v o.length (intVs o)) ∧ Q w wr ∧ Hid (∃ g cap, v = .slice (some ⟨g, 0, none⟩) o.length cap)) (fun _ _ iv _ => a.length - (intOf iv).toNat)
  case atStart => exact ⟨0, [], 0, _, by omega, rfl, rfl, rfl, Lib.hid (MinusInv.start RB6 a b), Lib.hid hrow0, hq0, Lib.hid ⟨_, _, rfl⟩⟩
  case round =>
    obtain ⟨i, o, c, v, hi1, rfl, rfl, rfl, HInv, HO, hQ, HF⟩ := hrel
    by_cases g1 : i < a.length
    · obtain ⟨b1, o1, rfl, hA⟩ := k1 (by omega)
      have hi0 : (0 : Int) ≤ (i : Int) := by omega
      have k2 : (i : Int) < (a.length : Int) := by omega
      have hol := HInv.out.len
      have gx := da.get (by decide) i
      have gy := db.get (by decide) i
      have gc0 := HInv.out.c0
      have gc1 := HInv.out.c1
      have hax : wr.drew.cell? ⟨b1, o1 + i, none⟩ = some (.int .i64 (a.getD i 0)) := (hA.keep hQ hA.1).2 i g1
      have HL := Lib.hid (fun W (hW : Q wr W) => ref01_limb_q b (by omega) _ i (by omega) W (H2.out.keep (Q.trans hQ hW)))
      have hways : (Hid (MinusInv RB6 a b (i + 1) (o ++ [a.getD i 0 - b.getD i 0 - c]) 0) ∧ 0 ≤ a.getD i 0 - b.getD i 0 - c) ∨ (Hid (MinusInv RB6 a b (i + 1) (o ++ [a.getD i 0 - b.getD i 0 - c + 1000000]) 1) ∧ a.getD i 0 - b.getD i 0 - c < 0) := by
        by_cases h : 0 ≤ a.getD i 0 - b.getD i 0 - c
        · exact .inl ⟨Lib.hid (HInv.out.stepPos (by decide) da db h), h⟩
        · exact .inr ⟨Lib.hid (HInv.out.stepNeg (by decide) da db (by omega)), by omega⟩
      generalize a.getD i 0 = x1 at *
      generalize b.getD i 0 = x2 at *
      have hb6 : RB6 = 1000000 := rfl
      rw [hb6] at gx gy
      have hw1 := Go.IntWalk.i64_in (x1 - x2) (by omega)
      have hw2 := Go.IntWalk.i64_in (x1 - x2 - c) (by omega)
      go_wp2_with fail
      refine wp_steadily 11 rfl (by kernel_rfl) rfl ?_
      refine steadily_value (i := 0) (v := ?_) rfl rfl (by kernel_rfl) (by kernel_rfl) (fun _ _ _ h => h) (by rfl) ?_ ?_
      rotate_left
      · (intro w' hq; go_simp; try with_reducible rfl)
      simp only [Act.put, List.setIfInBounds_toArray, List.set_cons_zero, List.set_cons_succ]
      refine steadily_value (i := 1) (v := ?_) rfl rfl (by kernel_rfl) (by kernel_rfl) (fun _ _ _ h => h) (by rfl) ?_ ?_
      rotate_left
      · (intro w' hq; go_simp; try with_reducible rfl)
      simp only [Act.put, List.setIfInBounds_toArray, List.set_cons_zero, List.set_cons_succ]
      refine steadily_value (i := 2) (v := ?_) rfl rfl (by kernel_rfl) (by kernel_rfl) (fun _ _ _ h => h) (by rfl) ?_ ?_
      rotate_left
      · (intro w' hq; go_simp; try with_reducible rfl)
      simp only [Act.put, List.setIfInBounds_toArray, List.set_cons_zero, List.set_cons_succ]
      refine steadily_value (i := 3) (v := ?_) rfl rfl (by kernel_rfl) (by kernel_rfl) (fun _ _ _ h => h) (by rfl) ?_ ?_
      rotate_left
      · (intro w' hq; have hc0 := qcell hq hax; go_simp; try with_reducible rfl)
      simp only [Act.put, List.setIfInBounds_toArray, List.set_cons_zero, List.set_cons_succ]
      refine steadily_value (i := 4) (v := ?_) rfl rfl (by kernel_rfl) (by kernel_rfl) (fun _ _ _ h => h) (by rfl) ?_ ?_
      rotate_left
      · (intro w' hq; go_simp; try with_reducible rfl)
      simp only [Act.put, List.setIfInBounds_toArray, List.set_cons_zero, List.set_cons_succ]
      refine steadily_value (i := 5) (v := ?_) rfl rfl (by kernel_rfl) (by kernel_rfl) (fun _ _ _ h => h) (by rfl) ?_ ?_
      rotate_left
      · (intro w' hq; go_simp; try with_reducible rfl)
      simp only [Act.put, List.setIfInBounds_toArray, List.set_cons_zero, List.set_cons_succ]
      refine steadily_call (i := 6) (v := _) rfl rfl (by kernel_rfl) (by kernel_rfl) (fun _ _ _ h => h) (by rfl) ?_ (fun w' hq => HL.out w' (Below.trans (Below.drew (Q.refl wr)) hq)) ?_
      · (intro w' hq; go_simp; try with_reducible rfl)
      simp only [Act.put, List.setIfInBounds_toArray, List.set_cons_zero, List.set_cons_succ]
      refine steadily_value (i := 7) (v := ?_) rfl rfl (by kernel_rfl) (by kernel_rfl) (fun _ _ _ h => h) (by rfl) ?_ ?_
      rotate_left
      · (intro w' hq; go_simp; try with_reducible rfl)
      simp only [Act.put, List.setIfInBounds_toArray, List.set_cons_zero, List.set_cons_succ]
      refine steadily_value (i := 8) (v := ?_) rfl rfl (by kernel_rfl) (by kernel_rfl) (fun _ _ _ h => h) (by rfl) ?_ ?_
      rotate_left
      · (intro w' hq; go_simp; try with_reducible rfl)
      simp only [Act.put, List.setIfInBounds_toArray, List.set_cons_zero, List.set_cons_succ]
      refine steadily_value (i := 9) (v := ?_) rfl rfl (by kernel_rfl) (by kernel_rfl) (fun _ _ _ h => h) (by rfl) ?_ ?_
      rotate_left
      · (intro w' hq; go_simp; try with_reducible rfl)
      simp only [Act.put, List.setIfInBounds_toArray, List.set_cons_zero, List.set_cons_succ]
      refine steadily_value (i := 10) (v := ?_) rfl rfl (by kernel_rfl) (by kernel_rfl) (fun _ _ _ h => h) (by rfl) ?_ ?_
      rotate_left
      · (intro w' hq; go_simp; try with_reducible rfl)
      simp only [Act.put, List.setIfInBounds_toArray, List.set_cons_zero, List.set_cons_succ]
      refine steadily_done (by kernel_rfl) (fun w3 hq3 => ?_)
      simp only [List.drop_succ_cons, List.drop_nil]
      have hqq : Q wr w3 := Below.trans (Below.drew (Q.refl wr)) hq3
      have hQ3 := Q.trans hQ hqq
      rcases hways with ⟨HN, hn⟩ | ⟨HN, hn⟩
      · have hn' : ¬ x1 - x2 - c < 0 := by omega
        have ho := ownsRow_keep HO.out hqq
        have hws := hQ3.size
        go_wp2_with (at_builtin; refine wpList_append_own _ rfl (.tmp 30) (.tmp 32) 163 rfl w.heap.size 3 i0 _ 1 8 Tryz.underlying163 hi hz0 hz1 hz2 rfl (by decide) _ o.length (intVs o) rfl (ho.alloc _) ⟨w3.heap.size, 0, none⟩ 1 1 [.int .i64 (x1 - x2 - c)] rfl rfl (cell_one_new _ _ _) (by simp [Value.oneCell']) (by unfold maxLen; omega) (by omega) (by simp; omega) ?_)
        intro v' w2 hown' hgrow _
        have hq2 : Q w w2 := (hQ3.alloc hws _).grown hgrow (by simp; omega) (fun j hj => (ho.lt j hj).1)
        have HO2 : Hid (w2.ownsRow w.heap.size 3 1 v' (o ++ [x1 - x2 - c]).length (intVs (o ++ [x1 - x2 - c]))) := Lib.hid (by rw [intVs_snoc, List.length_append, hol]; exact hown')
        have HF2 : Hid (∃ g cap, v' = .slice (some ⟨g, 0, none⟩) (o ++ [x1 - x2 - c]).length cap) := Lib.hid (by obtain ⟨g, cap, e, -, -⟩ := HO2.out.form (by simp); exact ⟨g, cap, e⟩)
        clear hown' hgrow ho HO HL HF
        go_wp2
        go_roundw
        case rel => exact ⟨i + 1, o ++ [x1 - x2 - c], 0, v', by omega, rfl, rfl, by go_num, HN, HO2, hq2, HF2⟩
        case measure => simp [intOf]; omega
      · have hw3 := Go.IntWalk.i64_in (x1 - x2 - c + 1000000) (by omega)
        have ho := ownsRow_keep HO.out hqq
        have hws := hQ3.size
        go_wp2_with (at_builtin; refine wpList_append_own _ rfl (.tmp 30) (.tmp 32) 163 rfl w.heap.size 3 i0 _ 1 8 Tryz.underlying163 hi hz0 hz1 hz2 rfl (by decide) _ o.length (intVs o) rfl (ho.alloc _) ⟨w3.heap.size, 0, none⟩ 1 1 [.int .i64 (x1 - x2 - c + 1000000)] rfl rfl (cell_one_new _ _ _) (by simp [Value.oneCell']) (by unfold maxLen; omega) (by omega) (by simp; omega) ?_)
        intro v' w2 hown' hgrow _
        have hq2 : Q w w2 := (hQ3.alloc hws _).grown hgrow (by simp; omega) (fun j hj => (ho.lt j hj).1)
        have HO2 : Hid (w2.ownsRow w.heap.size 3 1 v' (o ++ [x1 - x2 - c + 1000000]).length (intVs (o ++ [x1 - x2 - c + 1000000]))) := Lib.hid (by rw [intVs_snoc, List.length_append, hol]; exact hown')
        have HF2 : Hid (∃ g cap, v' = .slice (some ⟨g, 0, none⟩) (o ++ [x1 - x2 - c + 1000000]).length cap) := Lib.hid (by obtain ⟨g, cap, e, -, -⟩ := HO2.out.form (by simp); exact ⟨g, cap, e⟩)
        clear hown' hgrow ho HO HL HF
        go_wp2
        go_roundw
        case rel => exact ⟨i + 1, o ++ [x1 - x2 - c + 1000000], 1, v', by omega, rfl, rfl, by go_num, HN, HO2, hq2, HF2⟩
        case measure => simp [intOf]; omega
    · obtain rfl : i = a.length := by omega
      have hol := HInv.out.len
      have hdone := HInv.out.done (by decide) hle (Nat.le_refl _) hbl
      have HD := Lib.hid hdone
      have hO := HO.out
      obtain ⟨g5, cap5, rfl⟩ := HF.out
      rw [hol] at hO
      have hsl := intB_of hO hol
      clear hdone hO
      go_wp2_with fail
      refine (ref01_trim_b o (by omega) _ _ _ hsl).mono ?_
      rintro e w1 ⟨v', rfl, hs, rfl⟩
      rw [HD.out] at hs
      go_wp2
      go_ret
      exact ⟨_, rfl, hs, hQ⟩

end Go.Proofs.YtgkikkabmcihhaaGreatDoor

namespace Go.Proofs.YtgkikkabmcihhaaGreatDoor
open Go.RowKit Kp
open Go.Lib (decDigits)

theorem times_c_zero {B : Int} (hB : 2 ≤ B) {a b : List Int} (ha : Dig B a) (hb : Dig B b) {i : Nat} {o : List Int} {c : Int} (h : TimesInv B a b i (b.length + 1) o c) : c = 0 := by
  have hv := h.val
  rw [List.take_of_length_le (l := b) (by omega)] at hv
  have e : lval B (a.take i) * lval B b + B ^ i * (a.getD i 0 * lval B b) = lval B (a.take (i + 1)) * lval B b := by
    rw [lval_take_succ, Int.add_mul, Int.mul_assoc]
  rw [e] at hv
  have h1 := lval_lt (show 0 < B by omega) (ha.take (i + 1))
  have h2 := lval_lt (show 0 < B by omega) hb
  have h3 := lval_nonneg (show 0 ≤ B by omega) (ha.take (i + 1))
  have h4 := lval_nonneg (show 0 ≤ B by omega) hb
  have h5 := lval_nonneg (show 0 ≤ B by omega) h.dig
  have h6 := pow_mono (show 1 ≤ B by omega) (show (a.take (i + 1)).length ≤ i + 1 by rw [List.length_take]; omega)
  have hc0 := h.c0
  by_cases e0 : 1 ≤ c
  · have h7 : B ^ (i + (b.length + 1)) * 1 ≤ B ^ (i + (b.length + 1)) * c := Int.mul_le_mul_of_nonneg_left e0 (Int.le_of_lt (pow_pos' (by omega) _))
    have h8 : lval B (a.take (i + 1)) * lval B b < B ^ (i + 1) * B ^ b.length := by
      by_cases hz : lval B b = 0
      · rw [hz, Int.mul_zero]; exact Int.mul_pos (pow_pos' (by omega) _) (pow_pos' (by omega) _)
      · exact Int.mul_lt_mul (by omega) (by omega) (by omega) (Int.le_of_lt (pow_pos' (by omega) _))
    rw [← Int.pow_add, show i + 1 + b.length = i + (b.length + 1) by omega] at h8
    omega
  · omega

/-- A round may end as soon as there is no carry. -/
theorem times_stop {a b : List Int} (ha : Dig RB6 a) (hb : Dig RB6 b) {i k : Nat} {o : List Int} (hi : i < a.length) (hk1 : b.length ≤ k) (hk2 : k ≤ b.length + 1) (h : TimesInv RB6 a b i k o 0) : TimesInv RB6 a b (i + 1) 0 o 0 := by
  rcases (show k = b.length ∨ k = b.length + 1 by omega) with rfl | rfl
  · have hs := h.step (by decide) ha hb hi (Nat.le_refl _)
    have hu := h.dig.get (by decide) (i + b.length)
    have hy : b.getD b.length 0 = 0 := by rw [List.getD_eq_getElem?_getD, List.getElem?_eq_none (by omega)]; rfl
    have hlen := h.len
    rw [hy, Int.mul_zero, Int.add_zero, Int.add_zero, Int.emod_eq_of_lt hu.1 hu.2, Int.ediv_eq_zero_of_lt hu.1 hu.2] at hs
    have he : o.set (i + b.length) (o.getD (i + b.length) 0) = o := by
      apply List.ext_getElem?
      intro j
      rw [List.getElem?_set]
      split
      · next e =>
        subst e
        rw [if_pos (by omega), List.getD_eq_getElem?_getD, List.getElem?_eq_getElem (by omega)]; rfl
      · rfl
    rw [he] at hs
    exact hs.next (by decide) ha hb
  · exact h.next (by decide) ha hb

set_option maxRecDepth 100000 in
set_option maxHeartbeats 4000000 in
theorem ref01_times (a b : List Int) (da : Dig RB6 a) (db : Dig RB6 b) (ha : a.length ≤ 100000) (hb : b.length ≤ 100000) (v1 v2 : Value) (w : World) (h1 : IntSl w v1 a) (h2 : IntSl w v2 b) :
    Calls Tryz.prog 280 #[v1, v2] w fun e w' => ∃ v', e = .returned v' ∧ IntB w.heap.size w' v' (limbs RB6 (lval RB6 a * lval RB6 b)) ∧ Q w w' := by
  obtain ⟨i0, hi, hz0, hz1, hz2⟩ := info_parts infoInt
  have H1 := Lib.hid h1
  have H2 := Lib.hid h2
  obtain ⟨a1, c1, rfl, -, k1⟩ := h1
  obtain ⟨a2, c2, rfl, -, -⟩ := h2
  obtain ⟨n, hn⟩ : ∃ n : Nat, a.length + b.length + 1 = n := ⟨_, rfl⟩
  have hn2 : (a.length : Int) + (b.length : Int) + 1 = (n : Int) := by omega
  have hna : n ≤ 300000 := by omega
  obtain ⟨W5, hmk, hown, hgr⟩ := run_make_full (P := Tryz.prog) w w.heap.size 163 3 i0 _ 1 Tryz.underlying163 hi hz0 hz1 .i64 .i64 n (by rw [hz2]; omega) (by unfold maxLen; omega) (Nat.le_refl _)
  rw [show (Value.int .i64 0).cells = #[Value.int .i64 0] from rfl, Nat.mul_one, toList_madeCells_one, intVs_zeros] at hown
  have hq5 : Q w W5 := (Below.refl _ w).grown hgr (Nat.le_refl _) (fun k hk => by cases hk)
  have HS : Hid (TimesInv RB6 a b 0 0 (List.replicate n 0) 0) := Lib.hid (by rw [← hn]; exact TimesInv.start RB6 (by decide) a b)
  have HO := Lib.hid hown
  clear hgr hown
  generalize hg : w.heap.size = g at *
  go_enter Tryz.func280, Tryz.ntmps280
  go_wp2
  go_loopw [6] (fun iv wr => ∃ (i : Nat) (o : List Int), i ≤ a.length ∧ iv = .int .i64 i ∧ Hid (TimesInv RB6 a b i 0 o 0) ∧ Hid (wr.ownsRow g 3 1 (.slice (some ⟨g, 0, none⟩) n n) n (intVs o)) ∧ Q w wr) (fun iv _ => a.length - (intOf iv).toNat)
  case atStart => exact ⟨0, _, by omega, rfl, HS, HO, hq5⟩
  case round =>
    obtain ⟨i, o, hi1, rfl, HT, HO1, hQ⟩ := hrel
    by_cases hlt : i < a.length
    · obtain ⟨b1, o1, rfl, hA⟩ := k1 (by omega)
      have hi0 : (0 : Int) ≤ (i : Int) := by omega
      have hil : (i : Int) < (a.length : Int) := by omega
      have HAX0 : ∀ W, Q w W → W.cell? ⟨b1, o1 + i, none⟩ = some (.int .i64 (a.getD i 0)) := fun W hW => (hA.keep hW hA.1).2 i hlt
      have gx := da.get (by decide) i
      have HLb : Hid (∀ (k : Nat), k ≤ 200000 → ∀ W, Q w W → Calls Tryz.prog 278 #[.slice a2 b.length c2, .int .i64 k] W fun e w' => e = .returned (.int .i64 (b.getD k 0)) ∧ Q W w') := Lib.hid (fun k hk W hW => ref01_limb_q b (by omega) _ k (by omega) W (H2.out.keep hW))
      generalize hx : a.getD i 0 = x at *
      have HX := Lib.hid hx
      have HAX := Lib.hid HAX0
      clear hx HAX0
      go_wp2
      go_loopw [7, 8] (fun cv kv wl => ∃ (k : Nat) (o : List Int) (c : Int), k ≤ b.length + 1 ∧ cv = .int .i64 c ∧ kv = .int .i64 k ∧ Hid (TimesInv RB6 a b i k o c) ∧ Hid (wl.ownsRow g 3 1 (.slice (some ⟨g, 0, none⟩) n n) n (intVs o)) ∧ Q w wl) (fun _ kv _ => b.length + 1 - (intOf kv).toNat)
      case atStart => exact ⟨0, o, 0, by omega, rfl, rfl, HT, HO1, hQ⟩
      case round =>
        obtain ⟨k, o, c, hk1, rfl, rfl, HT, HO1, hQ⟩ := hrel
        by_cases hlk : k < b.length
        · have hkl : (k : Int) < (b.length : Int) := by omega
          have hkb : k ≤ b.length := by omega
          have hk0 : (0 : Int) ≤ (k : Int) := by omega
          have hbd := HT.out.bound (by decide) da db
          have hst := Lib.hid (HT.out.step (by decide) da db hlt hkb)
          have hol := HT.out.len
          have gy := db.get (by decide) k
          have gu := HT.out.dig.get (by decide) (i + k)
          have gc0 := HT.out.c0
          have gc1 := HT.out.c1
          have hcell := HO1.out.cellAt (i + k) (by omega)
          rw [intVs_at o (i + k) (by omega)] at hcell
          have HL := Lib.hid (HLb.out k (by omega))
          rw [HX.out] at hbd hst
          have hxy := mul_lt_sq gx.1 gx.2 gy.1 gy.2
          generalize b.getD k 0 = y at *
          generalize o.getD (i + k) 0 = u at *
          have hpb : (RB6 - 1) * (RB6 - 1) = 999998000001 := by decide
          have hpb2 : RB6 * RB6 = 1000000000000 := by decide
          rw [hpb] at hxy
          rw [hpb2] at hbd
          have hw1 := Go.IntWalk.i64_in ((i : Int) + (k : Int)) (by omega)
          have hw2 := Go.IntWalk.i64_in (x * y) (by omega)
          have hw3 := Go.IntWalk.i64_in (u + x * y) (by omega)
          have hw4 := Go.IntWalk.i64_in (u + x * y + c) (by omega)
          have hik0 : (0 : Int) ≤ (i : Int) + (k : Int) := by omega
          have hikn : (i : Int) + (k : Int) < (n : Int) := by omega
          have hik : ((i : Int) + (k : Int)).toNat = i + k := by omega
          have hcd : wr.drew.cell? ⟨g, i + k, none⟩ = some (.int .i64 u) := hcell
          have hax2 : wr.drew.cell? ⟨b1, o1 + i, none⟩ = some (.int .i64 x) := HAX.out wr hQ
          go_wp2_with fail
          refine wp_steadily 18 rfl (by kernel_rfl) rfl ?_
          refine steadily_value (i := 0) (v := ?_) rfl rfl (by kernel_rfl) (by kernel_rfl) (fun _ _ _ h => h) (by rfl) ?_ ?_
          rotate_left
          · (intro w' hq; go_simp; try with_reducible rfl)
          simp only [Act.put, List.setIfInBounds_toArray, List.set_cons_zero, List.set_cons_succ]
          refine steadily_value (i := 1) (v := ?_) rfl rfl (by kernel_rfl) (by kernel_rfl) (fun _ _ _ h => h) (by rfl) ?_ ?_
          rotate_left
          · (intro w' hq; go_simp; try with_reducible rfl)
          simp only [Act.put, List.setIfInBounds_toArray, List.set_cons_zero, List.set_cons_succ]
          refine steadily_value (i := 2) (v := ?_) rfl rfl (by kernel_rfl) (by kernel_rfl) (fun _ _ _ h => h) (by rfl) ?_ ?_
          rotate_left
          · (intro w' hq; go_simp; try with_reducible rfl)
          simp only [Act.put, List.setIfInBounds_toArray, List.set_cons_zero, List.set_cons_succ]
          refine steadily_value (i := 3) (v := ?_) rfl rfl (by kernel_rfl) (by kernel_rfl) (fun _ _ _ h => h) (by rfl) ?_ ?_
          rotate_left
          · (intro w' hq; go_simp; try with_reducible rfl)
          simp only [Act.put, List.setIfInBounds_toArray, List.set_cons_zero, List.set_cons_succ]
          refine steadily_value (i := 4) (v := ?_) rfl rfl (by kernel_rfl) (by kernel_rfl) (fun _ _ _ h => h) (by rfl) ?_ ?_
          rotate_left
          · (intro w' hq; go_simp; try with_reducible rfl)
          simp only [Act.put, List.setIfInBounds_toArray, List.set_cons_zero, List.set_cons_succ]
          refine steadily_value (i := 5) (v := ?_) rfl rfl (by kernel_rfl) (by kernel_rfl) (fun _ _ _ h => h) (by rfl) ?_ ?_
          rotate_left
          · (intro w' hq; have hc0 := qcell hq hcd; go_simp; try with_reducible rfl)
          simp only [Act.put, List.setIfInBounds_toArray, List.set_cons_zero, List.set_cons_succ]
          refine steadily_value (i := 6) (v := ?_) rfl rfl (by kernel_rfl) (by kernel_rfl) (fun _ _ _ h => h) (by rfl) ?_ ?_
          rotate_left
          · (intro w' hq; go_simp; try with_reducible rfl)
          simp only [Act.put, List.setIfInBounds_toArray, List.set_cons_zero, List.set_cons_succ]
          refine steadily_value (i := 7) (v := ?_) rfl rfl (by kernel_rfl) (by kernel_rfl) (fun _ _ _ h => h) (by rfl) ?_ ?_
          rotate_left
          · (intro w' hq; go_simp; try with_reducible rfl)
          simp only [Act.put, List.setIfInBounds_toArray, List.set_cons_zero, List.set_cons_succ]
          refine steadily_value (i := 8) (v := ?_) rfl rfl (by kernel_rfl) (by kernel_rfl) (fun _ _ _ h => h) (by rfl) ?_ ?_
          rotate_left
          · (intro w' hq; go_simp; try with_reducible rfl)
          simp only [Act.put, List.setIfInBounds_toArray, List.set_cons_zero, List.set_cons_succ]
          refine steadily_value (i := 9) (v := ?_) rfl rfl (by kernel_rfl) (by kernel_rfl) (fun _ _ _ h => h) (by rfl) ?_ ?_
          rotate_left
          · (intro w' hq; have hc0 := qcell hq hax2; go_simp; try with_reducible rfl)
          simp only [Act.put, List.setIfInBounds_toArray, List.set_cons_zero, List.set_cons_succ]
          refine steadily_value (i := 10) (v := ?_) rfl rfl (by kernel_rfl) (by kernel_rfl) (fun _ _ _ h => h) (by rfl) ?_ ?_
          rotate_left
          · (intro w' hq; go_simp; try with_reducible rfl)
          simp only [Act.put, List.setIfInBounds_toArray, List.set_cons_zero, List.set_cons_succ]
          refine steadily_value (i := 11) (v := ?_) rfl rfl (by kernel_rfl) (by kernel_rfl) (fun _ _ _ h => h) (by rfl) ?_ ?_
          rotate_left
          · (intro w' hq; go_simp; try with_reducible rfl)
          simp only [Act.put, List.setIfInBounds_toArray, List.set_cons_zero, List.set_cons_succ]
          refine steadily_call (i := 12) (v := _) rfl rfl (by kernel_rfl) (by kernel_rfl) (fun _ _ _ h => h) (by rfl) ?_ (fun w' hq => HL.out w' (Below.trans (Below.drew hQ) (hq.mono hQ.size))) ?_
          · (intro w' hq; go_simp; try with_reducible rfl)
          simp only [Act.put, List.setIfInBounds_toArray, List.set_cons_zero, List.set_cons_succ]
          refine steadily_value (i := 13) (v := ?_) rfl rfl (by kernel_rfl) (by kernel_rfl) (fun _ _ _ h => h) (by rfl) ?_ ?_
          rotate_left
          · (intro w' hq; go_simp; try with_reducible rfl)
          simp only [Act.put, List.setIfInBounds_toArray, List.set_cons_zero, List.set_cons_succ]
          refine steadily_value (i := 14) (v := ?_) rfl rfl (by kernel_rfl) (by kernel_rfl) (fun _ _ _ h => h) (by rfl) ?_ ?_
          rotate_left
          · (intro w' hq; go_simp; try with_reducible rfl)
          simp only [Act.put, List.setIfInBounds_toArray, List.set_cons_zero, List.set_cons_succ]
          refine steadily_value (i := 15) (v := ?_) rfl rfl (by kernel_rfl) (by kernel_rfl) (fun _ _ _ h => h) (by rfl) ?_ ?_
          rotate_left
          · (intro w' hq; go_simp; try with_reducible rfl)
          simp only [Act.put, List.setIfInBounds_toArray, List.set_cons_zero, List.set_cons_succ]
          refine steadily_value (i := 16) (v := ?_) rfl rfl (by kernel_rfl) (by kernel_rfl) (fun _ _ _ h => h) (by rfl) ?_ ?_
          rotate_left
          · (intro w' hq; go_simp; try with_reducible rfl)
          simp only [Act.put, List.setIfInBounds_toArray, List.set_cons_zero, List.set_cons_succ]
          refine steadily_value (i := 17) (v := ?_) rfl rfl (by kernel_rfl) (by kernel_rfl) (fun _ _ _ h => h) (by rfl) ?_ ?_
          rotate_left
          · (intro w' hq; go_simp; try with_reducible rfl)
          simp only [Act.put, List.setIfInBounds_toArray, List.set_cons_zero, List.set_cons_succ]
          refine steadily_done (by kernel_rfl) (fun w3 hq3 => ?_)
          simp only [List.drop_succ_cons, List.drop_nil]
          have hqq : Q wr w3 := Below.trans ((Below.refl wr.heap.size wr).drew) hq3
          have hr3 := ownsRow_keep HO1.out hqq
          have hc3 := hr3.cellAt (i + k) (by omega)
          have hf3 := hr3.frozenAt (i + k)
          have hl3 : (intVs o)[i + k]? = some (.int .i64 (o.getD (i + k) 0)) := intVs_at o (i + k) (by omega)
          rw [hl3] at hc3
          obtain ⟨hr4, -⟩ := hr3.stored (i + k) (.int .i64 ((u + x * y + c) % 1000000))
          rw [intVs_set] at hr4
          have HR := Lib.hid hr4
          have hQ4 : Q w (w3.setCell ⟨g, i + k, none⟩ (.int .i64 ((u + x * y + c) % 1000000))) := (Q.trans hQ hqq).setCell (p := ⟨g, i + k, none⟩) (by rw [hg]; exact Nat.le_refl _) _
          clear hr3 hr4 hl3
          generalize hnn : u + x * y + c = N at *
          have hN0 : 0 ≤ N := hbd.1
          have hN1 : N < 1000000000000 := hbd.2
          go_wp2
          go_roundw
          case rel => exact ⟨k + 1, _, _, by omega, rfl, by go_num, hst, HR, hQ4⟩
          case measure => simp [intOf]; omega
        · have hkl : ¬ (k : Int) < (b.length : Int) := by omega
          by_cases hcp : 0 < c
          · have hkb : k ≤ b.length := by
              rcases (show k ≤ b.length ∨ k = b.length + 1 by omega) with h | rfl
              · exact h
              · have := times_c_zero (by decide) da db HT.out
                omega
            have hk0 : (0 : Int) ≤ (k : Int) := by omega
            have hbd := HT.out.bound (by decide) da db
            have hst := Lib.hid (HT.out.step (by decide) da db hlt hkb)
            have hol := HT.out.len
            have gy := db.get (by decide) k
            have gu := HT.out.dig.get (by decide) (i + k)
            have gc0 := HT.out.c0
            have gc1 := HT.out.c1
            have hcell := HO1.out.cellAt (i + k) (by omega)
            rw [intVs_at o (i + k) (by omega)] at hcell
            have HL := Lib.hid (HLb.out k (by omega))
            rw [HX.out] at hbd hst
            have hxy := mul_lt_sq gx.1 gx.2 gy.1 gy.2
            generalize b.getD k 0 = y at *
            generalize o.getD (i + k) 0 = u at *
            have hpb : (RB6 - 1) * (RB6 - 1) = 999998000001 := by decide
            have hpb2 : RB6 * RB6 = 1000000000000 := by decide
            rw [hpb] at hxy
            rw [hpb2] at hbd
            have hw1 := Go.IntWalk.i64_in ((i : Int) + (k : Int)) (by omega)
            have hw2 := Go.IntWalk.i64_in (x * y) (by omega)
            have hw3 := Go.IntWalk.i64_in (u + x * y) (by omega)
            have hw4 := Go.IntWalk.i64_in (u + x * y + c) (by omega)
            have hik0 : (0 : Int) ≤ (i : Int) + (k : Int) := by omega
            have hikn : (i : Int) + (k : Int) < (n : Int) := by omega
            have hik : ((i : Int) + (k : Int)).toNat = i + k := by omega
            have hcd : wr.drew.cell? ⟨g, i + k, none⟩ = some (.int .i64 u) := hcell
            have hax2 : wr.drew.cell? ⟨b1, o1 + i, none⟩ = some (.int .i64 x) := HAX.out wr hQ
            go_wp2_with fail
            refine wp_steadily 18 rfl (by kernel_rfl) rfl ?_
            refine steadily_value (i := 0) (v := ?_) rfl rfl (by kernel_rfl) (by kernel_rfl) (fun _ _ _ h => h) (by rfl) ?_ ?_
            rotate_left
            · (intro w' hq; go_simp; try with_reducible rfl)
            simp only [Act.put, List.setIfInBounds_toArray, List.set_cons_zero, List.set_cons_succ]
            refine steadily_value (i := 1) (v := ?_) rfl rfl (by kernel_rfl) (by kernel_rfl) (fun _ _ _ h => h) (by rfl) ?_ ?_
            rotate_left
            · (intro w' hq; go_simp; try with_reducible rfl)
            simp only [Act.put, List.setIfInBounds_toArray, List.set_cons_zero, List.set_cons_succ]
            refine steadily_value (i := 2) (v := ?_) rfl rfl (by kernel_rfl) (by kernel_rfl) (fun _ _ _ h => h) (by rfl) ?_ ?_
            rotate_left
            · (intro w' hq; go_simp; try with_reducible rfl)
            simp only [Act.put, List.setIfInBounds_toArray, List.set_cons_zero, List.set_cons_succ]
            refine steadily_value (i := 3) (v := ?_) rfl rfl (by kernel_rfl) (by kernel_rfl) (fun _ _ _ h => h) (by rfl) ?_ ?_
            rotate_left
            · (intro w' hq; go_simp; try with_reducible rfl)
            simp only [Act.put, List.setIfInBounds_toArray, List.set_cons_zero, List.set_cons_succ]
            refine steadily_value (i := 4) (v := ?_) rfl rfl (by kernel_rfl) (by kernel_rfl) (fun _ _ _ h => h) (by rfl) ?_ ?_
            rotate_left
            · (intro w' hq; go_simp; try with_reducible rfl)
            simp only [Act.put, List.setIfInBounds_toArray, List.set_cons_zero, List.set_cons_succ]
            refine steadily_value (i := 5) (v := ?_) rfl rfl (by kernel_rfl) (by kernel_rfl) (fun _ _ _ h => h) (by rfl) ?_ ?_
            rotate_left
            · (intro w' hq; have hc0 := qcell hq hcd; go_simp; try with_reducible rfl)
            simp only [Act.put, List.setIfInBounds_toArray, List.set_cons_zero, List.set_cons_succ]
            refine steadily_value (i := 6) (v := ?_) rfl rfl (by kernel_rfl) (by kernel_rfl) (fun _ _ _ h => h) (by rfl) ?_ ?_
            rotate_left
            · (intro w' hq; go_simp; try with_reducible rfl)
            simp only [Act.put, List.setIfInBounds_toArray, List.set_cons_zero, List.set_cons_succ]
            refine steadily_value (i := 7) (v := ?_) rfl rfl (by kernel_rfl) (by kernel_rfl) (fun _ _ _ h => h) (by rfl) ?_ ?_
            rotate_left
            · (intro w' hq; go_simp; try with_reducible rfl)
            simp only [Act.put, List.setIfInBounds_toArray, List.set_cons_zero, List.set_cons_succ]
            refine steadily_value (i := 8) (v := ?_) rfl rfl (by kernel_rfl) (by kernel_rfl) (fun _ _ _ h => h) (by rfl) ?_ ?_
            rotate_left
            · (intro w' hq; go_simp; try with_reducible rfl)
            simp only [Act.put, List.setIfInBounds_toArray, List.set_cons_zero, List.set_cons_succ]
            refine steadily_value (i := 9) (v := ?_) rfl rfl (by kernel_rfl) (by kernel_rfl) (fun _ _ _ h => h) (by rfl) ?_ ?_
            rotate_left
            · (intro w' hq; have hc0 := qcell hq hax2; go_simp; try with_reducible rfl)
            simp only [Act.put, List.setIfInBounds_toArray, List.set_cons_zero, List.set_cons_succ]
            refine steadily_value (i := 10) (v := ?_) rfl rfl (by kernel_rfl) (by kernel_rfl) (fun _ _ _ h => h) (by rfl) ?_ ?_
            rotate_left
            · (intro w' hq; go_simp; try with_reducible rfl)
            simp only [Act.put, List.setIfInBounds_toArray, List.set_cons_zero, List.set_cons_succ]
            refine steadily_value (i := 11) (v := ?_) rfl rfl (by kernel_rfl) (by kernel_rfl) (fun _ _ _ h => h) (by rfl) ?_ ?_
            rotate_left
            · (intro w' hq; go_simp; try with_reducible rfl)
            simp only [Act.put, List.setIfInBounds_toArray, List.set_cons_zero, List.set_cons_succ]
            refine steadily_call (i := 12) (v := _) rfl rfl (by kernel_rfl) (by kernel_rfl) (fun _ _ _ h => h) (by rfl) ?_ (fun w' hq => HL.out w' (Below.trans (Below.drew hQ) (hq.mono hQ.size))) ?_
            · (intro w' hq; go_simp; try with_reducible rfl)
            simp only [Act.put, List.setIfInBounds_toArray, List.set_cons_zero, List.set_cons_succ]
            refine steadily_value (i := 13) (v := ?_) rfl rfl (by kernel_rfl) (by kernel_rfl) (fun _ _ _ h => h) (by rfl) ?_ ?_
            rotate_left
            · (intro w' hq; go_simp; try with_reducible rfl)
            simp only [Act.put, List.setIfInBounds_toArray, List.set_cons_zero, List.set_cons_succ]
            refine steadily_value (i := 14) (v := ?_) rfl rfl (by kernel_rfl) (by kernel_rfl) (fun _ _ _ h => h) (by rfl) ?_ ?_
            rotate_left
            · (intro w' hq; go_simp; try with_reducible rfl)
            simp only [Act.put, List.setIfInBounds_toArray, List.set_cons_zero, List.set_cons_succ]
            refine steadily_value (i := 15) (v := ?_) rfl rfl (by kernel_rfl) (by kernel_rfl) (fun _ _ _ h => h) (by rfl) ?_ ?_
            rotate_left
            · (intro w' hq; go_simp; try with_reducible rfl)
            simp only [Act.put, List.setIfInBounds_toArray, List.set_cons_zero, List.set_cons_succ]
            refine steadily_value (i := 16) (v := ?_) rfl rfl (by kernel_rfl) (by kernel_rfl) (fun _ _ _ h => h) (by rfl) ?_ ?_
            rotate_left
            · (intro w' hq; go_simp; try with_reducible rfl)
            simp only [Act.put, List.setIfInBounds_toArray, List.set_cons_zero, List.set_cons_succ]
            refine steadily_value (i := 17) (v := ?_) rfl rfl (by kernel_rfl) (by kernel_rfl) (fun _ _ _ h => h) (by rfl) ?_ ?_
            rotate_left
            · (intro w' hq; go_simp; try with_reducible rfl)
            simp only [Act.put, List.setIfInBounds_toArray, List.set_cons_zero, List.set_cons_succ]
            refine steadily_done (by kernel_rfl) (fun w3 hq3 => ?_)
            simp only [List.drop_succ_cons, List.drop_nil]
            have hqq : Q wr w3 := Below.trans ((Below.refl wr.heap.size wr).drew) hq3
            have hr3 := ownsRow_keep HO1.out hqq
            have hc3 := hr3.cellAt (i + k) (by omega)
            have hf3 := hr3.frozenAt (i + k)
            have hl3 : (intVs o)[i + k]? = some (.int .i64 (o.getD (i + k) 0)) := intVs_at o (i + k) (by omega)
            rw [hl3] at hc3
            obtain ⟨hr4, -⟩ := hr3.stored (i + k) (.int .i64 ((u + x * y + c) % 1000000))
            rw [intVs_set] at hr4
            have HR := Lib.hid hr4
            have hQ4 : Q w (w3.setCell ⟨g, i + k, none⟩ (.int .i64 ((u + x * y + c) % 1000000))) := (Q.trans hQ hqq).setCell (p := ⟨g, i + k, none⟩) (by rw [hg]; exact Nat.le_refl _) _
            clear hr3 hr4 hl3
            generalize hnn : u + x * y + c = N at *
            have hN0 : 0 ≤ N := hbd.1
            have hN1 : N < 1000000000000 := hbd.2
            go_wp2
            go_roundw
            case rel => exact ⟨k + 1, _, _, by omega, rfl, by go_num, hst, HR, hQ4⟩
            case measure => simp [intOf]; omega
          · obtain rfl : c = 0 := by have := HT.out.c0; omega
            have HN := Lib.hid (times_stop da db hlt (by omega) hk1 HT.out)
            go_wp2
            go_roundw
            case rel => exact ⟨i + 1, o, by omega, by go_num, HN, HO1, hQ⟩
            case measure => simp [intOf]; omega
    · obtain rfl : i = a.length := by omega
      have hT := HT.out.done (by decide)
      have hol : o.length = n := by rw [HT.out.len]; exact hn
      have hsl := intB_of HO1.out hol
      have hTr := ref01_trim_b o (by omega) _ _ wr hsl
      rw [hT] at hTr
      have HTr := Lib.hid hTr
      clear hTr hT hsl
      go_wp2_with fail
      refine HTr.out.mono ?_
      rintro e w1 ⟨v', rfl, hs, rfl⟩
      go_wp2
      go_ret
      exact ⟨_, rfl, hs, hQ⟩

end Go.Proofs.YtgkikkabmcihhaaGreatDoor

namespace Go.Proofs.YtgkikkabmcihhaaGreatDoor
open Go.RowKit Kp
open Go.Lib (decDigits)

theorem drop_pred_eq {a b : List Int} {k : Nat} (ha : k < a.length) (hb : k < b.length) (h : a.drop (k + 1) = b.drop (k + 1)) (he : a.getD k 0 = b.getD k 0) : a.drop k = b.drop k := by
  rw [List.drop_eq_getElem_cons ha, List.drop_eq_getElem_cons hb, h]
  rw [List.getD_eq_getElem?_getD, List.getD_eq_getElem?_getD, List.getElem?_eq_getElem ha, List.getElem?_eq_getElem hb] at he
  congr 1

set_option maxRecDepth 100000 in
set_option maxHeartbeats 2000000 in
theorem ref01_size_eq (a b : List Int) (hl : a.length = b.length) (ha : a.length ≤ 100000) (da : Dig RB6 a) (db : Dig RB6 b) (v1 v2 : Value) (w : World) (i1 : IntSl w v1 a) (i2 : IntSl w v2 b) :
    Calls Tryz.prog 281 #[v1, v2] w fun e w' => ∃ z, e = .returned (.int .i64 z) ∧ CmpOf (lval RB6 a) (lval RB6 b) z ∧ Q w w' := by
  obtain ⟨a1, c1, rfl, -, k1⟩ := i1
  obtain ⟨a2, c2, rfl, -, k2⟩ := i2
  have hlz : ((a.length : Int) != (b.length : Int)) = false := by rw [hl]; simp
  have hlen : (b.length : Int) = (a.length : Int) := by omega
  have hw0 := Go.IntWalk.i64_in ((a.length : Int) - 1) (by omega)
  have HLT := Lib.hid (fun k (hk : k < a.length) (hd : a.drop (k + 1) = b.drop (k + 1)) (h : a.getD k 0 < b.getD k 0) => lval_lt_of_drop (B := RB6) (by decide) da db hl hk hd h)
  have HGT := Lib.hid (fun k (hk : k < a.length) (hd : a.drop (k + 1) = b.drop (k + 1)) (h : b.getD k 0 < a.getD k 0) => lval_lt_of_drop (B := RB6) (by decide) db da hl.symm (by omega) hd.symm h)
  have HL := Lib.hid hl
  clear hl
  go_enter Tryz.func281, Tryz.ntmps281
  go_wp2
  go_loopw [5] (fun iv wr => ∃ k : Nat, k ≤ a.length ∧ iv = .int .i64 ((k : Int) - 1) ∧ Q w wr ∧ Hid (a.drop k = b.drop k)) (fun iv _ => (intOf iv + 1).toNat)
  case atStart => exact ⟨a.length, Nat.le_refl _, rfl, Q.refl _, Lib.hid (by rw [List.drop_of_length_le (Nat.le_refl _), List.drop_of_length_le (by rw [HL.out]; exact Nat.le_refl _)])⟩
  case round =>
    obtain ⟨k, hk, rfl, hQ, HD⟩ := hrel
    cases k with
    | zero =>
      have HC : Hid (CmpOf (lval RB6 a) (lval RB6 b) 0) := Lib.hid (by
        have h : a = b := by simpa using HD.out
        rw [h]; exact ⟨by simp, by simp⟩)
      go_wp2
      go_ret
      exact ⟨_, rfl, HC.out, hQ⟩
    | succ k =>
      have ek : ((k + 1 : Nat) : Int) - 1 = (k : Int) := by omega
      rw [ek]
      have hk0 : (0 : Int) ≤ (k : Int) := by omega
      have hkn : (k : Int) < (a.length : Int) := by omega
      have hw1 := Go.IntWalk.i64_in ((k : Int) - 1) (by omega)
      obtain ⟨b1, o1, rfl, hA⟩ := k1 (by omega)
      obtain ⟨b2, o2, rfl, hB⟩ := k2 (by rw [← HL.out]; omega)
      have hax := (hA.keep hQ hA.1).2 k (by omega)
      have hbx := (hB.keep hQ hB.1).2 k (by rw [← HL.out]; omega)
      have HL1 := Lib.hid (HLT.out k (by omega) HD.out)
      have HG1 := Lib.hid (HGT.out k (by omega) HD.out)
      have HE1 := Lib.hid (fun h => drop_pred_eq (a := a) (b := b) (k := k) (by omega) (by rw [← HL.out]; omega) HD.out h)
      have HKL : Hid (k ≤ a.length) := Lib.hid (by omega)
      generalize hax0 : a.getD k 0 = x at *
      generalize hbx0 : b.getD k 0 = y at *
      clear hax0 hbx0
      rcases Int.lt_trichotomy x y with h | h | h
      · have HC : Hid (CmpOf (lval RB6 a) (lval RB6 b) (-1)) := Lib.hid (by
          have h2 := HL1.out h
          exact ⟨⟨fun _ => h2, fun _ => by omega⟩, ⟨fun e => by omega, fun e => by omega⟩⟩)
        clear HL1 HG1 HE1
        go_wp2
        go_quiet (fail)
        go_wp2
        go_ret
        exact ⟨_, rfl, HC.out, Below.drewN hQ _⟩
      · have HN := Lib.hid (HE1.out h)
        have h1 : ¬ x < y := by omega
        have h2 : ¬ y < x := by omega
        clear HL1 HG1 HE1 h
        go_wp2
        go_quiet (fail)
        go_wp2
        go_quiet (fail)
        go_wp2
        go_roundw
        case rel => exact ⟨k, HKL.out, by go_num, Below.drewN hQ _, HN⟩
        case measure => simp [intOf]
      · have HC : Hid (CmpOf (lval RB6 a) (lval RB6 b) 1) := Lib.hid (by
          have h2 := HG1.out h
          exact ⟨⟨fun e => by omega, fun e => by omega⟩, ⟨fun e => by omega, fun e => by omega⟩⟩)
        have h1 : ¬ x < y := by omega
        clear HL1 HG1 HE1
        go_wp2
        go_quiet (fail)
        go_wp2
        go_quiet (fail)
        go_wp2
        go_ret
        exact ⟨_, rfl, HC.out, Below.drewN (Below.drewN hQ _) _⟩

set_option maxHeartbeats 1000000 in
/-- size at the limbs of two numbers. -/
theorem ref01_size (x y : Int) (hx : 0 ≤ x) (hy : 0 ≤ y) (lx : (limbs RB6 x).length ≤ 100000) (_ly : (limbs RB6 y).length ≤ 100000) (v1 v2 : Value) (w : World) (i1 : IntSl w v1 (limbs RB6 x)) (i2 : IntSl w v2 (limbs RB6 y)) :
    Calls Tryz.prog 281 #[v1, v2] w fun e w' => ∃ z, e = .returned (.int .i64 z) ∧ CmpOf x y z ∧ Q w w' := by
  have e1 := lval_limbs (B := RB6) (by decide) x hx
  have e2 := lval_limbs (B := RB6) (by decide) y hy
  by_cases hl : (limbs RB6 x).length = (limbs RB6 y).length
  · refine (ref01_size_eq _ _ hl lx (limbs_dig (by decide) x) (limbs_dig (by decide) y) v1 v2 w i1 i2).mono ?_
    rintro e w' ⟨z, rfl, hz, hq⟩
    rw [e1, e2] at hz
    exact ⟨z, rfl, hz, hq⟩
  · obtain ⟨z, hz, HC⟩ : ∃ z : Int, (((limbs RB6 x).length < (limbs RB6 y).length ∧ z = -1) ∨ ((limbs RB6 y).length < (limbs RB6 x).length ∧ z = 1)) ∧ Hid (CmpOf x y z) := by
      rcases Nat.lt_or_gt_of_ne hl with h | h
      · have h2 := limbs_len_lt (by decide) hx h
        exact ⟨-1, .inl ⟨h, rfl⟩, Lib.hid ⟨⟨fun _ => h2, fun _ => by omega⟩, ⟨fun e => by omega, fun e => by omega⟩⟩⟩
      · have h2 := limbs_len_lt (by decide) hy h
        exact ⟨1, .inr ⟨h, rfl⟩, Lib.hid ⟨⟨fun e => by omega, fun e => by omega⟩, ⟨fun e => by omega, fun e => by omega⟩⟩⟩
    obtain ⟨a1, c1, rfl, -, -⟩ := i1
    obtain ⟨a2, c2, rfl, -, -⟩ := i2
    generalize (limbs RB6 x).length = m at *
    generalize (limbs RB6 y).length = k at *
    have hb : ((m : Int) != (k : Int)) = true := by rw [bne_iff_ne]; omega
    rcases hz with ⟨h, rfl⟩ | ⟨h, rfl⟩
    · have h2 : (m : Int) < (k : Int) := by omega
      go_enter Tryz.func281, Tryz.ntmps281
      go_wp2
      go_ret
      exact ⟨_, rfl, HC.out, Q.refl _⟩
    · have h2 : ¬ (m : Int) < (k : Int) := by omega
      go_enter Tryz.func281, Tryz.ntmps281
      go_wp2
      go_ret
      exact ⟨_, rfl, HC.out, Q.refl _⟩

end Go.Proofs.YtgkikkabmcihhaaGreatDoor

namespace Go.Proofs.YtgkikkabmcihhaaGreatDoor
open Go.RowKit Kp
open Go.Lib (decDigits)

set_option maxRecDepth 100000 in
set_option maxHeartbeats 4000000 in
theorem ref01_short (a : List Int) (d : Int) (da : Dig RB6 a) (hd0 : 0 < d) (hd1 : d < RB6) (ha : a.length ≤ 100000) (v1 : Value) (w : World) (i1 : IntSl w v1 a) :
    Calls Tryz.prog 277 #[v1, .int .i64 d] w fun e w' => ∃ q r, e = .returned (.tuple #[q, r]) ∧ IntSl w' q (limbs RB6 (lval RB6 a / d)) ∧ IntSl w' r (limbs RB6 (lval RB6 a % d)) ∧ Q w w' := by
  obtain ⟨i0, hi, hz0, hz1, hz2⟩ := info_parts infoInt
  have H1 := Lib.hid i1
  obtain ⟨a1, c1, rfl, -, k1⟩ := i1
  obtain ⟨n, hn⟩ : ∃ n : Nat, a.length = n := ⟨_, rfl⟩
  have hna : n ≤ 100000 := by omega
  obtain ⟨W5, hmk, hown, hgr⟩ := run_make_full (P := Tryz.prog) w w.heap.size 163 3 i0 _ 1 Tryz.underlying163 hi hz0 hz1 .i64 .i64 n (by rw [hz2]; omega) (by unfold maxLen; omega) (Nat.le_refl _)
  rw [show (Value.int .i64 0).cells = #[Value.int .i64 0] from rfl, Nat.mul_one, toList_madeCells_one, intVs_zeros] at hown
  have hq5 : Q w W5 := (Below.refl _ w).grown hgr (Nat.le_refl _) (fun k hk => by cases hk)
  have HS : Hid (ShortInv RB6 a d n (List.replicate n 0) 0) := Lib.hid (by rw [← hn]; exact ShortInv.start RB6 (by decide) a d hd0)
  have HO := Lib.hid hown
  have hdz : (d == 0) = false := by rw [beq_eq_false_iff_ne]; omega
  have hb6 : RB6 = 1000000 := rfl
  rw [hb6] at hd1
  have HB6 := Lib.hid hb6
  clear hb6
  have hw0 := Go.IntWalk.i64_in ((n : Int) - 1) (by omega)
  clear hgr hown
  have HN := Lib.hid hn
  rw [hn] at H1 k1 ⊢
  generalize hg : w.heap.size = g at *
  clear hn
  go_enter Tryz.func277, Tryz.ntmps277
  go_wp2
  go_loopw [7, 8] (fun rv iv wr => ∃ (k : Nat) (q : List Int) (r : Int), k ≤ n ∧ rv = .int .i64 r ∧ iv = .int .i64 ((k : Int) - 1) ∧ Hid (ShortInv RB6 a d k q r) ∧ Hid (wr.ownsRow g 3 1 (.slice (some ⟨g, 0, none⟩) n n) n (intVs q)) ∧ Q w wr) (fun _ iv _ => (intOf iv + 1).toNat)
  case atStart => exact ⟨n, _, 0, Nat.le_refl _, rfl, rfl, HS, HO, hq5⟩
  case round =>
    obtain ⟨k, q, r, hk, rfl, rfl, HI, HO1, hQ⟩ := hrel
    cases k with
    | zero =>
      have hol : q.length = n := by rw [HI.out.len]; exact HN.out
      obtain ⟨d1, d2, d3⟩ := HI.out.done (by decide) (show d ≤ RB6 by rw [show RB6 = 1000000 from rfl]; omega)
      have hsl := intSl_of (v := .slice (some ⟨g, 0, none⟩) n n) (l := q) (by rw [hol]; exact HO1.out)
      have ht1 := ref01_trim q (by omega) _ wr hsl
      rw [d1] at ht1
      have HT1 := Lib.hid ht1
      have HT2 := Lib.hid (fun w (h : IntSl w (.slice (some ⟨wr.heap.size, 0, none⟩) 1 1) [r]) => ref01_trim [r] (by simp) _ w h)
      have HD3 := Lib.hid d3
      clear ht1 d1 d2 d3 hsl
      go_wp2_with fail
      refine HT1.out.mono ?_
      rintro e w1 ⟨v', rfl, hs, rfl⟩
      have HSQ := Lib.hid hs
      obtain ⟨qa, qc, rfl, -, -⟩ := hs
      go_wp2_with fail
      refine (HT2.out _ (intSl_one _ r)).mono ?_
      rintro e w2 ⟨v2, rfl, hs2, rfl⟩
      rw [HD3.out] at hs2
      have hqa := HSQ.out.keep ((Below.refl _ w1).alloc (Nat.le_refl _) (Obj.cells #[.int .i64 r] 3))
      have HSA := Lib.hid hqa
      have HSB := Lib.hid hs2
      obtain ⟨ra, rc, rfl, -, -⟩ := hs2
      clear hqa
      go_wp2
      go_ret2
      exact ⟨_, _, rfl, HSA.out, HSB.out, hQ.alloc hQ.size _⟩
    | succ k =>
      have ek : ((k + 1 : Nat) : Int) - 1 = (k : Int) := by omega
      rw [ek]
      have hk0 : (0 : Int) ≤ (k : Int) := by omega
      have hkn : (k : Int) < (n : Int) := by omega
      have hw1 := Go.IntWalk.i64_in ((k : Int) - 1) (by omega)
      obtain ⟨b1, o1, rfl, hA⟩ := k1 (by omega)
      have hax := (hA.keep hQ hA.1).2 k (by have := HN.out; omega)
      have hbd := HI.out.bound (by decide) da (show d ≤ RB6 by rw [show RB6 = 1000000 from rfl]; omega)
      have hst := HI.out.step (by decide) da hd0 (by have := HN.out; omega)
      have hol : q.length = n := by rw [HI.out.len]; exact HN.out
      have hr0 := HI.out.r0
      have hr1 := HI.out.r1
      have gx := da.get (by decide) k
      generalize a.getD k 0 = x at *
      rw [show RB6 = 1000000 from rfl] at hbd gx
      have hpb2 : (1000000 : Int) * 1000000 = 1000000000000 := by decide
      rw [hpb2] at hbd
      have ecm : x + r * RB6 = r * 1000000 + x := by rw [show RB6 = 1000000 from rfl]; omega
      rw [ecm] at hst
      have ecm2 : x + r * 1000000 = r * 1000000 + x := by omega
      rw [ecm2] at hbd
      have HST := Lib.hid hst
      have hw2 := Go.IntWalk.i64_in (r * 1000000) (by omega)
      have hw3 := Go.IntWalk.i64_in (r * 1000000 + x) (by omega)
      have hr3 := HO1.out
      have hc3 := hr3.cellAt k (by omega)
      have hf3 := hr3.frozenAt k
      rw [intVs_at q k (by omega)] at hc3
      obtain ⟨hr4, -⟩ := hr3.stored k (.int .i64 ((r * 1000000 + x) / d))
      rw [intVs_set] at hr4
      have HR := Lib.hid hr4
      have hQ4 : Q w (wr.setCell ⟨g, k, none⟩ (.int .i64 ((r * 1000000 + x) / d))) := hQ.setCell (p := ⟨g, k, none⟩) (by rw [hg]; exact Nat.le_refl _) _
      clear hst hr3 hr4 ecm ecm2 hpb2
      generalize hnn : r * 1000000 + x = N at *
      have hN0 : 0 ≤ N := hbd.1
      have hN1 : N < 1000000000000 := hbd.2
      have hq1 : 0 ≤ N / d := Int.ediv_nonneg hN0 (by omega)
      have hq2 : N / d ≤ N := Int.ediv_le_self _ hN0
      go_wp2
      go_roundw
      case rel => exact ⟨k, _, _, by omega, by go_num, by go_num, HST, HR, hQ4⟩
      case measure => simp [intOf]

end Go.Proofs.YtgkikkabmcihhaaGreatDoor

namespace Go.Proofs.YtgkikkabmcihhaaGreatDoor
open Go.RowKit Kp
open Go.Lib (decDigits)

theorem limbs_len_le_of {x y : Int} (hy : 0 ≤ y) (h : x ≤ y) : (limbs RB6 x).length ≤ (limbs RB6 y).length := by
  rcases Nat.lt_or_ge (limbs RB6 y).length (limbs RB6 x).length with h1 | h1
  · have := limbs_len_lt (B := RB6) (by decide) hy h1
    omega
  · exact h1
theorem ltrim_cons_limbs {x R : Int} (hx0 : 0 ≤ x) (hx1 : x < RB6) (hR : 0 ≤ R) : ltrim (x :: limbs RB6 R) = limbs RB6 (x + R * RB6) := by
  rw [ltrim_eq (by decide) (Dig.cons hx0 hx1 (limbs_dig (by decide) R))]
  congr 1
  show x + RB6 * lval RB6 (limbs RB6 R) = _
  rw [lval_limbs (by decide) R hR, Int.mul_comm]
theorem alloc_le (w : World) (o : Obj) : w.heap.size ≤ (w.alloc o).heap.size := by simp
theorem limbs_one {g : Int} : lval RB6 [g] = g := by simp [lval]
theorem lt_of_mul_le {g Y R : Int} (h1 : g * Y ≤ R) (h2 : R < RB6 * Y) (hY : 0 < Y) : g < RB6 := by
  rcases Int.lt_or_le g RB6 with h | h
  · exact h
  · exfalso
    have := Int.mul_le_mul_of_nonneg_right h (Int.le_of_lt hY)
    omega

set_option maxRecDepth 100000 in
set_option maxHeartbeats 4000000 in
theorem ref01_divide_long (a : List Int) (Y : Int) (m : Nat) (da : Dig RB6 a) (hY : 0 < Y) (hly : (limbs RB6 Y).length = m + 2) (ha : a.length ≤ 50000) (hm : m ≤ 50000) (v1 v2 : Value) (w : World) (i1 : IntSl w v1 a) (i2 : IntSl w v2 (limbs RB6 Y)) :
    Calls Tryz.prog 227 #[v1, v2] w fun e w' => ∃ q r, e = .returned (.tuple #[q, r]) ∧ IntSl w' q (limbs RB6 (lval RB6 a / Y)) ∧ IntSl w' r (limbs RB6 (lval RB6 a % Y)) ∧ Q w w' := by
  obtain ⟨i0, hi, hz0, hz1, hz2⟩ := info_parts infoInt
  have H1 := Lib.hid i1
  have H2 := Lib.hid i2
  obtain ⟨a1, c1, rfl, -, k1⟩ := i1
  obtain ⟨a2, c2, rfl, -, k2⟩ := i2
  obtain ⟨b2, o2, rfl, hB⟩ := k2 (by omega)
  obtain ⟨n, hn⟩ : ∃ n : Nat, a.length = n := ⟨_, rfl⟩
  have hna : n ≤ 50000 := by omega
  have db := limbs_dig (B := RB6) (by decide) Y
  have hbY := lval_limbs (B := RB6) (by decide) Y (by omega)
  have gy1 := db.get (by decide) (m + 1)
  have gy0 := db.get (by decide) m
  have hb1 : w.drew.cell? ⟨b2, o2 + (m + 1), none⟩ = some (.int .i64 ((limbs RB6 Y).getD (m + 1) 0)) := hB.2 (m + 1) (by omega)
  have hb0 : w.drew.cell? ⟨b2, o2 + m, none⟩ = some (.int .i64 ((limbs RB6 Y).getD m 0)) := hB.2 m (by omega)
  rw [show RB6 = 1000000 from rfl] at gy1 gy0
  have HEST := Lib.hid (fun (R : Int) (hR0 : 0 ≤ R) (hR : R < RB6 * Y) => ref_est (B := RB6) (by decide) (limbs_dig (by decide) R) db hly (by rw [lval_limbs (by decide) R hR0, hbY]; exact hR) rfl rfl)
  have HNY : Hid (∀ l, l = limbs RB6 Y → l.length = m + 2) := Lib.hid (fun l h => by rw [h]; exact hly)
  generalize hy1 : (limbs RB6 Y).getD (m + 1) 0 = y1 at *
  generalize hy0 : (limbs RB6 Y).getD m 0 = y0 at *
  generalize hnb : (limbs RB6 Y).length = nb at *
  have hw1 := Go.IntWalk.i64_in ((nb : Int) - 1) (by omega)
  have hw2 := Go.IntWalk.i64_in ((nb : Int) - 2) (by omega)
  have hw3 := Go.IntWalk.i64_in (y1 * 1000000) (by omega)
  have hw4 := Go.IntWalk.i64_in (y1 * 1000000 + y0) (by omega)
  have e1 : ((nb : Int) - 1).toNat = m + 1 := by omega
  have e2 : ((nb : Int) - 2).toNat = m := by omega
  have p1 : 0 ≤ (nb : Int) - 1 := by omega
  have p2 : 0 ≤ (nb : Int) - 2 := by omega
  have p3 : (nb : Int) - 1 < (nb : Int) := by omega
  have p4 : (nb : Int) - 2 < (nb : Int) := by omega
  have p5 : (1 : Int) ≤ (nb : Int) := by omega
  have p6 : (2 : Int) ≤ (nb : Int) := by omega
  have hnb1 : ((nb : Int) == 1) = false := by rw [beq_eq_false_iff_ne]; omega
  have HN := Lib.hid hn
  have HNB := Lib.hid hly
  rw [hn] at H1 k1 ⊢
  clear hy1 hy0 hnb hly hn
  go_enter Tryz.func227, Tryz.ntmps227
  go_wp2_with fail
  refine wp_steadily 13 rfl (by kernel_rfl) rfl ?_
  refine steadily_value (i := 0) (v := ?_) rfl rfl (by kernel_rfl) (by kernel_rfl) (fun _ _ _ h => h) (by rfl) ?_ ?_
  rotate_left
  · (intro w' hq; go_simp; try with_reducible rfl)
  simp only [Act.put, List.setIfInBounds_toArray, List.set_cons_zero, List.set_cons_succ]
  refine steadily_value (i := 1) (v := ?_) rfl rfl (by kernel_rfl) (by kernel_rfl) (fun _ _ _ h => h) (by rfl) ?_ ?_
  rotate_left
  · (intro w' hq; go_simp; try with_reducible rfl)
  simp only [Act.put, List.setIfInBounds_toArray, List.set_cons_zero, List.set_cons_succ]
  refine steadily_value (i := 2) (v := ?_) rfl rfl (by kernel_rfl) (by kernel_rfl) (fun _ _ _ h => h) (by rfl) ?_ ?_
  rotate_left
  · (intro w' hq; go_simp; try with_reducible rfl)
  simp only [Act.put, List.setIfInBounds_toArray, List.set_cons_zero, List.set_cons_succ]
  refine steadily_value (i := 3) (v := ?_) rfl rfl (by kernel_rfl) (by kernel_rfl) (fun _ _ _ h => h) (by rfl) ?_ ?_
  rotate_left
  · (intro w' hq; go_simp; try with_reducible rfl)
  simp only [Act.put, List.setIfInBounds_toArray, List.set_cons_zero, List.set_cons_succ]
  refine steadily_value (i := 4) (v := ?_) rfl rfl (by kernel_rfl) (by kernel_rfl) (fun _ _ _ h => h) (by rfl) ?_ ?_
  rotate_left
  · (intro w' hq; have hc0 := qcell hq hb1; go_simp; try with_reducible rfl)
  simp only [Act.put, List.setIfInBounds_toArray, List.set_cons_zero, List.set_cons_succ]
  refine steadily_value (i := 5) (v := ?_) rfl rfl (by kernel_rfl) (by kernel_rfl) (fun _ _ _ h => h) (by rfl) ?_ ?_
  rotate_left
  · (intro w' hq; go_simp; try with_reducible rfl)
  simp only [Act.put, List.setIfInBounds_toArray, List.set_cons_zero, List.set_cons_succ]
  refine steadily_value (i := 6) (v := ?_) rfl rfl (by kernel_rfl) (by kernel_rfl) (fun _ _ _ h => h) (by rfl) ?_ ?_
  rotate_left
  · (intro w' hq; go_simp; try with_reducible rfl)
  simp only [Act.put, List.setIfInBounds_toArray, List.set_cons_zero, List.set_cons_succ]
  refine steadily_value (i := 7) (v := ?_) rfl rfl (by kernel_rfl) (by kernel_rfl) (fun _ _ _ h => h) (by rfl) ?_ ?_
  rotate_left
  · (intro w' hq; go_simp; try with_reducible rfl)
  simp only [Act.put, List.setIfInBounds_toArray, List.set_cons_zero, List.set_cons_succ]
  refine steadily_value (i := 8) (v := ?_) rfl rfl (by kernel_rfl) (by kernel_rfl) (fun _ _ _ h => h) (by rfl) ?_ ?_
  rotate_left
  · (intro w' hq; go_simp; try with_reducible rfl)
  simp only [Act.put, List.setIfInBounds_toArray, List.set_cons_zero, List.set_cons_succ]
  refine steadily_value (i := 9) (v := ?_) rfl rfl (by kernel_rfl) (by kernel_rfl) (fun _ _ _ h => h) (by rfl) ?_ ?_
  rotate_left
  · (intro w' hq; go_simp; try with_reducible rfl)
  simp only [Act.put, List.setIfInBounds_toArray, List.set_cons_zero, List.set_cons_succ]
  refine steadily_value (i := 10) (v := ?_) rfl rfl (by kernel_rfl) (by kernel_rfl) (fun _ _ _ h => h) (by rfl) ?_ ?_
  rotate_left
  · (intro w' hq; have hc0 := qcell hq hb0; go_simp; try with_reducible rfl)
  simp only [Act.put, List.setIfInBounds_toArray, List.set_cons_zero, List.set_cons_succ]
  refine steadily_value (i := 11) (v := ?_) rfl rfl (by kernel_rfl) (by kernel_rfl) (fun _ _ _ h => h) (by rfl) ?_ ?_
  rotate_left
  · (intro w' hq; go_simp; try with_reducible rfl)
  simp only [Act.put, List.setIfInBounds_toArray, List.set_cons_zero, List.set_cons_succ]
  refine steadily_value (i := 12) (v := ?_) rfl rfl (by kernel_rfl) (by kernel_rfl) (fun _ _ _ h => h) (by rfl) ?_ ?_
  rotate_left
  · (intro w' hq; go_simp; try with_reducible rfl)
  simp only [Act.put, List.setIfInBounds_toArray, List.set_cons_zero, List.set_cons_succ]
  refine steadily_done (by kernel_rfl) (fun w3 hq3 => ?_)
  simp only [List.drop_succ_cons, List.drop_nil]
  have hQ3 : Q w w3 := Below.trans (Below.drew (Q.refl _)) hq3
  obtain ⟨W5, hmk, hown, hgr⟩ := run_make_full (P := Tryz.prog) w3 w3.heap.size 163 3 i0 _ 1 Tryz.underlying163 hi hz0 hz1 .i64 .i64 n (by rw [hz2]; omega) (by unfold maxLen; omega) (Nat.le_refl _)
  rw [show (Value.int .i64 0).cells = #[Value.int .i64 0] from rfl, Nat.mul_one, toList_madeCells_one, intVs_zeros] at hown
  have hq5 : Q w3 W5 := (Below.refl _ w3).grown hgr (Nat.le_refl _) (fun k hk => by cases hk)
  have hQ5 : Q w W5 := Q.trans hQ3 hq5
  have HS : Hid (ShortInv RB6 a Y n (List.replicate n 0) 0) := Lib.hid (by rw [← HN.out]; exact ShortInv.start RB6 (by decide) a Y hY)
  have hlt5 : w3.heap.size < W5.heap.size := by
    rcases hown.2 with ⟨e, -⟩ | ⟨g', cap', cur, e, hg, hc, -⟩
    · cases e
    · injection e with e4 e5 e6
      injection e4 with e7
      injection e7 with e8
      rw [e8]
      exact (Array.getElem?_eq_some_iff.1 hc).1
  have hgw : w.heap.size ≤ w3.heap.size := hQ3.size
  have hro := hown.alloc (.cells #[] 3)
  have HO := Lib.hid hro
  have hQ6 : Q w (W5.alloc (.cells #[] 3)) := hQ5.alloc hQ5.size _
  have HR0 : Hid (IntB (w3.heap.size + 1) (W5.alloc (.cells #[] 3)) (.slice (some ⟨W5.heap.size, 0, none⟩) 0 0) (limbs RB6 0)) := Lib.hid (by
    have h := World.ownsRow_lit (base := W5.heap.size) (e := 3) (size := 1) W5 #[] 0 (Nat.le_refl _) (by decide) (by decide)
    have h2 := intB_of (l := limbs RB6 0) (by rw [limbs_zero (Int.le_refl _)]; exact h) (by rw [limbs_zero (Int.le_refl _)]; rfl)
    exact h2.low hlt5)
  have hwn := Go.IntWalk.i64_in ((n : Int) - 1) (by omega)
  clear hgr hown hro hb1 hb0 hq3 e1 e2 p1 p2 p3 p4
  generalize hg : w3.heap.size = g at *
  clear hg
  go_wp2
  go_loopw [9, 10] (fun rv iv wr => ∃ (k : Nat) (q : List Int) (R : Int), k ≤ n ∧ iv = .int .i64 ((k : Int) - 1) ∧ Hid (ShortInv RB6 a Y k q R) ∧ Hid (wr.ownsRow g 3 1 (.slice (some ⟨g, 0, none⟩) n n) n (intVs q)) ∧ Q w wr ∧ Hid (IntB (g + 1) wr rv (limbs RB6 R))) (fun _ iv _ => (intOf iv + 1).toNat)
  case atStart => exact ⟨n, _, 0, Nat.le_refl _, rfl, HS, HO, hQ6, HR0⟩
  case round =>
    obtain ⟨k, q, R, hk, rfl, HI, HO1, hQ, HR⟩ := hrel
    cases k with
    | zero =>
      have hol : q.length = n := by rw [HI.out.len]; exact HN.out
      have hv := HI.out.val
      simp only [List.drop_zero] at hv
      obtain ⟨d1, d2⟩ := ediv_emod_of HI.out.r0 HI.out.r1 hv
      have hlt : ltrim q = limbs RB6 (lval RB6 a / Y) := by rw [ltrim_eq (by decide) HI.out.dig, d1]
      have hsl := intB_of HO1.out hol
      have ht1 := ref01_trim_b q (by omega) _ _ wr hsl
      rw [hlt] at ht1
      have HT1 := Lib.hid ht1
      have hre : limbs RB6 R = limbs RB6 (lval RB6 a % Y) := by rw [d2]
      have hr0 := HR.out
      rw [hre] at hr0
      have HRE := Lib.hid hr0.sl
      obtain ⟨rb, rc, rfl, -, -, -⟩ := hr0
      clear ht1 hsl hlt hv d1 d2 hre HR
      go_wp2_with fail
      refine HT1.out.mono ?_
      rintro e w1 ⟨v', rfl, hs, rfl⟩
      have HSQ := Lib.hid hs.sl
      obtain ⟨qb, qc, rfl, -, -, -⟩ := hs
      go_wp2
      go_ret2
      exact ⟨_, _, rfl, HSQ.out, HRE.out, hQ⟩
    | succ k =>
      have ek : ((k + 1 : Nat) : Int) - 1 = (k : Int) := by omega
      rw [ek]
      have hk0 : (0 : Int) ≤ (k : Int) := by omega
      have hkn : (k : Int) < (n : Int) := by omega
      have hw5 := Go.IntWalk.i64_in ((k : Int) - 1) (by omega)
      obtain ⟨b1, o1, rfl, hA⟩ := k1 (by omega)
      have hax := (hA.keep hQ hA.1).2 k (by have := HN.out; omega)
      have gx := da.get (by decide) k
      have HST := Lib.hid (fun (h : k < a.length) => HI.out.step (by decide) da hY h)
      have hrr0 := HI.out.r0
      have hrr1 := HI.out.r1
      generalize a.getD k 0 = x at *
      have hwg : w.heap.size ≤ g := by omega
      have HLT := Lib.hid (ltrim_cons_limbs gx.1 gx.2 hrr0)
      have hR1 : x + R * RB6 < RB6 * Y := by
        have h1 : R * RB6 ≤ (Y - 1) * RB6 := Int.mul_le_mul_of_nonneg_right (by omega) (by decide)
        have h2 : (Y - 1) * RB6 = RB6 * Y - RB6 := by rw [Int.sub_mul, Int.mul_comm]; omega
        omega
      have hR0 : 0 ≤ x + R * RB6 := by
        have h1 : 0 ≤ R * RB6 := Int.mul_nonneg hrr0 (by decide)
        omega
      have hE := HEST.out (x + R * RB6) hR0 hR1
      rw [lval_limbs (by decide) _ hR0, hbY] at hE
      have HLE := Lib.hid (limbs_len_le_of (x := R) (y := x + R * RB6) hR0 (by
        have h1 : R * 1 ≤ R * RB6 := Int.mul_le_mul_of_nonneg_left (by decide) hrr0
        omega))
      have HLN : Hid ((limbs RB6 R).length ≤ 60000) := Lib.hid (by
        have h1 := limbs_len_le_of (x := R) (y := Y) (by omega) (by omega)
        have h2 := HNY.out _ rfl
        omega)
      have HLN1 : Hid ((limbs RB6 (x + R * RB6)).length ≤ 60001) := Lib.hid (by
        rw [← HLT.out]
        have h1 := (ltrim_take_len (x :: limbs RB6 R)).1
        have h2 := HLN.out
        simp only [List.length_cons] at h1
        omega)
      have D1 := limbs_dig (B := RB6) (by decide) (x + R * RB6)
      have hV1 := Lib.hid (lval_limbs (B := RB6) (by decide) (x + R * RB6) hR0)
      generalize hR1e : x + R * RB6 = R1 at *
      have HX1 := Lib.hid hR1e
      clear hR1e
      have hgrb := hQ.size
      obtain ⟨rb, rc, rfl, hrc, hrb, hrA⟩ := HR.out
      have hgS : g + 1 ≤ wr.heap.size := Nat.le_trans (by omega) (Nat.le_of_lt hrA.1)
      have hlit := World.ownsRow_lit (base := g + 1) (e := 3) (size := 1) wr #[.int .i64 x] 1 hgS (by decide) rfl
      have hnews : ∀ j u, (intVs (limbs RB6 R))[j]? = some u → (wr.alloc (.cells #[.int .i64 x] 3)).cell? ((⟨rb, 0, none⟩ : Addr).add j) = some u := fun j u hu => by
        have hj : j < (limbs RB6 R).length := by rw [← intVs_len]; exact (List.getElem?_eq_some_iff.1 hu).1
        have hadd : (⟨rb, 0, none⟩ : Addr).add j = ⟨rb, 0 + j, none⟩ := by unfold Addr.add; split <;> simp_all
        have h1 := ((Below.refl wr.heap.size wr).alloc (Nat.le_refl _) (.cells #[.int .i64 x] 3)).cell (p := ⟨rb, 0 + j, none⟩) hrA.1
        rw [hadd, h1, hrA.2 j hj, ← intVs_at _ _ hj, hu]
      have hone : ∀ u ∈ intVs (limbs RB6 R), u.oneCell' = true := fun u hu => by
        obtain ⟨z, -, rfl⟩ := List.mem_map.1 hu
        rfl
      have hln60 := HLN.out
      have hnl : (intVs (limbs RB6 R)).length = (limbs RB6 R).length * 1 := by rw [intVs_len, Nat.mul_one]
      go_wp2_with (at_builtin; go_loud (refine wpList_append_own _ rfl (.tmp 51) (.tmp 52) 163 rfl (g + 1) 3 i0 _ 1 8 Tryz.underlying163 hi hz0 hz1 hz2 rfl (by decide) (.slice (some ⟨wr.heap.size, 0, none⟩) 1 1) 1 [.int .i64 x] rfl hlit ⟨rb, 0, none⟩ (limbs RB6 R).length rc (intVs (limbs RB6 R)) rfl hnl hnews hone (by unfold maxLen; omega) (by omega) (by simp; omega) ?_); intro v4 w4 hown4 hgrow4 _)
      have hq4 : Q wr w4 := ((Below.refl wr.heap.size wr).alloc (Nat.le_refl _) _).grown hgrow4 (by simp) (fun j hj => by cases hj; exact Nat.le_refl _)
      have hQ4 := Q.trans hQ hq4
      obtain ⟨g4, cap4, rfl, -, -⟩ := hown4.form (by omega)
      have hb4 := intB_of (l := x :: limbs RB6 R) hown4 (by rw [List.length_cons]; omega)
      have htr := ref01_trim_b (x :: limbs RB6 R) (by rw [List.length_cons]; omega) _ _ w4 hb4
      rw [HLT.out] at htr
      have HTR := Lib.hid htr
      clear htr hb4 hown4 hgrow4 hlit hnews hone hnl hln60 hax
      go_wp2_with fail
      refine HTR.out.mono ?_
      rintro e w5 ⟨v5, rfl, hb5, rfl⟩
      have HB5 := Lib.hid hb5
      have hx2 := D1.get (by decide) (m + 2)
      have hx1 := D1.get (by decide) (m + 1)
      have hx0 := D1.get (by decide) m
      have hl2 := ref01_limb (limbs RB6 R1) (by have := HLN1.out; omega) v5 (m + 2) (by omega) w5 hb5.sl
      have hl1 := ref01_limb (limbs RB6 R1) (by have := HLN1.out; omega) v5 (m + 1) (by omega) w5 hb5.sl
      have hl0 := ref01_limb (limbs RB6 R1) (by have := HLN1.out; omega) v5 m (by omega) w5 hb5.sl
      have hNB := HNB.out
      rw [show ((m + 2 : Nat) : Int) = (nb : Int) by omega] at hl2
      rw [show ((m + 1 : Nat) : Int) = (nb : Int) - 1 by omega] at hl1
      rw [show ((m : Nat) : Int) = (nb : Int) - 2 by omega] at hl0
      clear hNB
      have HV5 := Lib.hid (limbs_len_le_of (x := R1) (y := R1) hR0 (Int.le_refl _))
      generalize (limbs RB6 R1).getD (m + 2) 0 = x2 at *
      generalize (limbs RB6 R1).getD (m + 1) 0 = x1 at *
      generalize (limbs RB6 R1).getD m 0 = x0 at *
      have HL2 := Lib.hid hl2
      have HL1 := Lib.hid hl1
      have HL0 := Lib.hid hl0
      clear hl2 hl1 hl0
      obtain ⟨g5, c5, rfl, -, -, -⟩ := hb5
      have HR1 := Lib.hid hR1
      have HD1 := Lib.hid D1
      clear hR1 D1
      rw [show RB6 = 1000000 from rfl] at hx2 hx1 hx0 hE
      have hv1 := Go.IntWalk.i64_in (x2 * 1000000) (by omega)
      have hv2 := Go.IntWalk.i64_in (x2 * 1000000 + x1) (by omega)
      have hv3 := Go.IntWalk.i64_in ((x2 * 1000000 + x1) * 1000000) (by omega)
      have hv4 := Go.IntWalk.i64_in ((x2 * 1000000 + x1) * 1000000 + x0) (by omega)
      have hv5 := Go.IntWalk.i64_in (y1 * 1000000 + y0 + 1) (by omega)
      obtain ⟨hE0, hE1, hE2, hE3, hE4, hE5⟩ := hE
      have hDz : ((y1 * 1000000 + y0 + 1) == 0) = false := by rw [beq_eq_false_iff_ne]; omega
      have hNle : (x2 * 1000000 + x1) * 1000000 + x0 ≤ 1000000000000000000 := by omega
      generalize hNN : (x2 * 1000000 + x1) * 1000000 + x0 = N at *
      generalize hDD : y1 * 1000000 + y0 + 1 = D at *
      have hND : N / D ≤ N := Int.ediv_le_self _ hE0
      have HTI := Lib.hid (fun W (hW : Q w W) => ref01_times (limbs RB6 Y) [N / D] (limbs_dig (by decide) Y) (Dig.cons hE3 hE4 (by intro x hx; cases hx)) (by rw [HNY.out _ rfl]; omega) (by rw [List.length_singleton]; decide) (.slice (some ⟨b2, o2, none⟩) nb c2) (.slice (some ⟨W.heap.size, 0, none⟩) 1 1) (W.alloc (.cells #[.int .i64 (N / D)] 3)) (H2.out.keep (hW.alloc hW.size _)) (intSl_one W (N / D)))
      have HSZ := Lib.hid (fun (R2 : Int) (h0 : 0 ≤ R2) (h1 : R2 ≤ R1) (v : Value) W (i1 : IntSl W v (limbs RB6 R2)) (hW : Q w W) => ref01_size R2 Y h0 (by omega) (by have := limbs_len_le_of (x := R2) (y := R1) (by omega) h1; have := HLN1.out; omega) (by rw [HNY.out _ rfl]; omega) v (.slice (some ⟨b2, o2, none⟩) nb c2) W i1 (H2.out.keep hW))
      have HMI := Lib.hid (fun (R2 z : Int) (h0 : 0 ≤ z) (h1 : z ≤ R2) (h2 : R2 ≤ R1) (v v2 : Value) W (i1 : IntSl W v (limbs RB6 R2)) (i2 : IntSl W v2 (limbs RB6 z)) => ref01_minus (limbs RB6 R2) (limbs RB6 z) (limbs_dig (by decide) R2) (limbs_dig (by decide) z) (by have := limbs_len_le_of (x := R2) (y := R1) (by omega) h2; have := HLN1.out; omega) (limbs_len_le_of (by omega) h1) (by rw [lval_limbs (by decide) R2 (by omega), lval_limbs (by decide) z h0]; exact h1) v v2 W i1 i2)
      have HKP := Lib.hid (fun W (hW : Q wr W) => ownsRow_keep HO1.out hW)
      have hQ5 : Q wr w5 := hq4
      have HB5k := HB5
      obtain ⟨G0, hG0⟩ : ∃ G0, N / D = G0 := ⟨_, rfl⟩
      rw [hG0] at HTI hE5 hE3 hE4
      have hGb : G0 ≤ 1000000 := by omega
      go_wp2_with fail
      refine HL2.out.mono ?_
      rintro e w6 ⟨rfl, rfl⟩
      go_wp2_with fail
      refine HL1.out.mono ?_
      rintro e w7 ⟨rfl, rfl⟩
      go_wp2_with fail
      refine HL0.out.mono ?_
      rintro e w8 ⟨rfl, rfl⟩
      go_wp2_with fail
      refine (HTI.out _ hQ4).mono ?_
      rintro e w9 ⟨v9, rfl, hb9, hq9⟩
      rw [lval_limbs (by decide) Y (by omega), limbs_one] at hb9
      have hq9' : Q wr w9 := Below.trans (hQ5.alloc hQ5.size _) (hq9.mono (Nat.le_trans hQ5.size (alloc_le _ _)))
      have hgz : 0 ≤ Y * G0 := Int.mul_nonneg (by omega) hE3
      have hgl : Y * G0 ≤ R1 := by rw [Int.mul_comm]; exact hE5
      have HM9 := Lib.hid (HMI.out R1 (Y * G0) hgz hgl (Int.le_refl _) (.slice (some ⟨g5, 0, none⟩) (limbs RB6 R1).length c5) v9 w9 (HB5.out.sl.keep (Below.trans ((Q.refl w8).alloc (Nat.le_refl _) _) (hq9.mono (alloc_le _ _)))) hb9.sl)
      obtain ⟨g9, c9, rfl, -, -, -⟩ := hb9
      go_wp2_with fail
      refine HM9.out.mono ?_
      rintro e w10 ⟨v10, rfl, hb10, hq10⟩
      rw [lval_limbs (by decide) R1 hR0, lval_limbs (by decide) (Y * G0) hgz] at hb10
      have hq10' : Q wr w10 := Below.trans hq9' (hq10.mono hq9'.size)
      have HB10 : Hid (IntB (g + 1) w10 v10 (limbs RB6 (R1 - Y * G0))) := Lib.hid (hb10.low (by have := hq9'.size; omega))
      have hge10 : G0 * Y + (R1 - Y * G0) = R1 := by rw [Int.mul_comm G0 Y]; omega
      go_wp2
      go_loopw [9, 11] (fun rv gv wi => ∃ (G R2 : Int), 0 ≤ G ∧ gv = .int .i64 G ∧ 0 ≤ R2 ∧ Hid (G * Y + R2 = R1) ∧ Hid (IntB (g + 1) wi rv (limbs RB6 R2)) ∧ Q wr wi) (fun _ gv _ => (1000000 - intOf gv).toNat)
      case atStart => exact ⟨G0, R1 - Y * G0, hE3, rfl, by omega, Lib.hid hge10, HB10, hq10'⟩
      case round =>
        obtain ⟨G, R2, hG, rfl, hR2, HE2, HI2, hQi⟩ := hrel
        have hGY : 0 ≤ G * Y := Int.mul_nonneg hG (by omega)
        have hR2le : R2 ≤ R1 := by have := HE2.out; omega
        have hGlt := lt_of_mul_le (show G * Y ≤ R1 by have := HE2.out; omega) HR1.out hY
        have HS2 := Lib.hid (HSZ.out R2 hR2 hR2le _ _ HI2.out.sl (Q.trans hQ hQi))
        have HQ5 := Lib.hid hQi
        obtain ⟨g7, c7, rfl, -, -, -⟩ := HI2.out
        go_wp2_with fail
        refine HS2.out.mono ?_
        rintro e w11 ⟨z, rfl, hz, hq11⟩
        have hQ11 := Q.trans hQi hq11
        have hE2 := HE2.out
        by_cases hzz : z < 0
        · have hlt2 : R2 < Y := hz.1.1 hzz
          obtain ⟨d1, d2⟩ := ediv_emod_of hR2 hlt2 hE2.symm
          have hst := HST.out (by have := HN.out; omega)
          rw [d1, d2] at hst
          have HSTEP := Lib.hid hst
          have hr3 := HKP.out _ hQ11
          have hol : q.length = n := by rw [HI.out.len]; exact HN.out
          have hc3 := hr3.cellAt k (by omega)
          have hf3 := hr3.frozenAt k
          rw [intVs_at q k (by omega)] at hc3
          obtain ⟨hr4, -⟩ := hr3.stored k (.int .i64 G)
          rw [intVs_set] at hr4
          have HR4 := Lib.hid hr4
          have hQ12 : Q w (w11.setCell ⟨g, k, none⟩ (.int .i64 G)) := (Q.trans hQ hQ11).setCell (p := ⟨g, k, none⟩) hwg _
          have HB12 := Lib.hid ((HI2.out.keep hq11).other (g := g) (by omega) k (.int .i64 G))
          have hzn : ¬ 0 ≤ z := by omega
          clear hst hr3 hr4 d1 d2 hE2 hz
          go_wp2
          go_roundw
          case rel => exact ⟨k, _, R2, by omega, by go_num, HSTEP, HR4, hQ12, HB12⟩
          case measure => simp [intOf]
        · have hle2 : Y ≤ R2 := by
            rcases Int.lt_or_le R2 Y with h | h
            · exact absurd (hz.1.2 h) hzz
            · exact h
          have hz0 : 0 ≤ z := by omega
          have HM12 := Lib.hid (HMI.out R2 Y (by omega) hle2 hR2le (.slice (some ⟨g7, 0, none⟩) (limbs RB6 R2).length c7) (.slice (some ⟨b2, o2, none⟩) nb c2) w11 (HI2.out.sl.keep hq11) (H2.out.keep (Q.trans hQ hQ11)))
          have hwG := Go.IntWalk.i64_in (G + 1) (by rw [show RB6 = 1000000 from rfl] at hGlt; omega)
          have hng : Hid ((G + 1) * Y + (R2 - Y) = R1) := Lib.hid (by rw [Int.add_mul]; omega)
          have hG1 : 0 ≤ G + 1 := by omega
          have hG6 : G < 1000000 := hGlt
          have hR2' : 0 ≤ R2 - Y := by omega
          have HYE := Lib.hid (lval_limbs (B := RB6) (by decide) Y (by omega))
          have HRE := Lib.hid (lval_limbs (B := RB6) (by decide) R2 hR2)
          clear hE2 hz
          go_wp2_with fail
          refine HM12.out.mono ?_
          rintro e w13 ⟨v13, rfl, hb13, hq13⟩
          rw [HYE.out, HRE.out] at hb13
          have hQ13 := Q.trans hQ11 hq13
          have HB13 := Lib.hid (hb13.low (B' := g + 1) (by have := hQ11.size; omega))
          go_wp2
          go_roundw
          case rel => exact ⟨G + 1, R2 - Y, hG1, by go_num, hR2', hng, HB13, hQ13⟩
          case measure => simp [intOf]; omega

end Go.Proofs.YtgkikkabmcihhaaGreatDoor

namespace Go.Proofs.YtgkikkabmcihhaaGreatDoor
open Go.RowKit Kp
open Go.Lib (decDigits)

/-- j limbs of six digits are read from the end. -/
structure Read6 (s : Str) (j : Nat) (o : List Int) : Prop where
  len : o.length = j
  dig : Dig RB6 o
  val : lval RB6 o = nval (s.drop (s.length - 6 * j))
theorem Read6.start (s : Str) : Read6 s 0 [] := ⟨rfl, Dig.nil, by rw [List.drop_of_length_le (by omega)]; rfl⟩
theorem nval_chunk (s : Str) {a b : Nat} (hab : a ≤ b) (_hb : b ≤ s.length) : nval (s.drop a) = nval ((s.drop a).take (b - a)) * 10 ^ (s.length - b) + nval (s.drop b) := by
  have e : s.drop a = (s.drop a).take (b - a) ++ s.drop b := by
    have h := (List.take_append_drop (b - a) (s.drop a)).symm
    rw [List.drop_drop, show a + (b - a) = b by omega] at h
    exact h
  conv => lhs; rw [e]
  rw [nval_append, List.length_drop]
theorem chunk_lt {s : Str} (hd : AllDig s) (a k : Nat) (hk : k ≤ 6) : nval ((s.drop a).take k) < 1000000 := by
  have h := nval_lt ((s.drop a).take k) (fun c hc => hd c (List.mem_of_mem_drop (List.mem_of_mem_take hc)))
  have h2 : 10 ^ ((s.drop a).take k).length ≤ 10 ^ 6 := Nat.pow_le_pow_right (by decide) (by rw [List.length_take]; omega)
  have e : (10 : Nat) ^ 6 = 1000000 := by decide
  omega
theorem Read6.step {s : Str} (hd : AllDig s) {j : Nat} {o : List Int} (h : Read6 s j o) (hj : 6 * j < s.length) {a : Nat} (ha : a = s.length - 6 * (j + 1)) :
    Read6 s (j + 1) (o ++ [(nval ((s.drop a).take (s.length - 6 * j - a)) : Int)]) := by
  have hlt := chunk_lt hd a (s.length - 6 * j - a) (by omega)
  refine ⟨by simp [h.len], h.dig.append (Dig.one (by omega) (show _ < RB6 by rw [show RB6 = 1000000 from rfl]; omega)), ?_⟩
  rw [lval_snoc, h.val, h.len, ← ha, nval_chunk s (a := a) (b := s.length - 6 * j) (by omega) (by omega)]
  have e : (RB6 : Int) ^ j = 10 ^ (s.length - (s.length - 6 * j)) := by
    rw [show RB6 = (10 : Int) ^ 6 by decide, ← Int.pow_mul]; congr 1; omega
  rw [e]
  push_cast
  rw [Int.mul_comm, Int.add_comm]
theorem Read6.done {s : Str} {j : Nat} {o : List Int} (h : Read6 s j o) (hj : s.length ≤ 6 * j) : ltrim o = limbs RB6 (nval s) := by
  rw [ltrim_eq (by decide) h.dig, h.val, show s.length - 6 * j = 0 by omega, List.drop_zero]
theorem chunk_snoc {s : Str} {a k : Nat} (h : a + k < s.length) : nval ((s.drop a).take (k + 1)) = 10 * nval ((s.drop a).take k) + ((at0 s (a + k)).toNat - 48) := by
  have hl : k < (s.drop a).length := by rw [List.length_drop]; omega
  rw [nval_take_succ hl]
  congr 2
  rw [at0_get _ _ hl, at0_get _ _ h, List.getElem_drop]

theorem ret_big (tmps : Array Value) (W : World) (b : Nat) (x y : Value) (n : Nat) (fn : Func) (hf : fn.results = #[.cell n 251]) (hp : tmps.getD n undef = .pointer (some ⟨b, 0, none⟩))
    (c0 : W.cell? ⟨b, 0, none⟩ = some x) (c1 : W.cell? ⟨b, 1, none⟩ = some y) :
    (results fn tmps).run Tryz.prog W = .ok (.agg #[x, y]) W := by
  simp only [Array.getD_eq_getD_getElem?] at hp
  simp [results, hf, go_sem, hp, c0, c1]

set_option maxRecDepth 100000 in
set_option maxHeartbeats 4000000 in
theorem ref01_read (s rest : Str) (mi : Bool) (hs : (mi = true ∧ s = 45 :: rest) ∨ (mi = false ∧ s = rest ∧ at0 s 0 ≠ 45)) (hd : AllDig rest) (hne : 0 < rest.length) (hl : rest.length ≤ 100000) (w : World) :
    Calls Tryz.prog 226 #[.string ⟨s.toArray⟩] w fun e w' => ∃ v, e = .returned (.agg #[.bool mi, v]) ∧ IntSl w' v (limbs RB6 (nval rest)) ∧ Q w w' := by
  obtain ⟨i0, hi, hz0, hz1, hz2⟩ := info_parts infoInt
  obtain ⟨W0, hW0⟩ : ∃ W0, (w.alloc (.cells [.bool false, .slice none 0 0].toArray 251)).alloc (.cells [.bool false, .slice none 0 0].toArray 251) = W0 := ⟨_, rfl⟩
  have B1 : Blk W0 w.heap.size [.bool false, .slice none 0 0] 251 := by rw [← hW0]; exact (Blk.new w _ _).alloc _
  have B2 : Blk W0 (w.heap.size + 1) [.bool false, .slice none 0 0] 251 := by
    have := Blk.new (w.alloc (.cells [.bool false, .slice none 0 0].toArray 251)) [.bool false, .slice none 0 0] 251
    rw [World.size_alloc, hW0] at this; exact this
  have hq0 : Q w W0 := by rw [← hW0]; exact ((Below.refl _ w).alloc (Nat.le_refl _) _).alloc (by simp) _
  have hs0 : W0.heap.size = w.heap.size + 2 := by rw [← hW0]; simp
  have f0 := B2.frozen 0
  have f1 := B2.frozen 1
  have x0 := B2.cell 0
  have x1 := B2.cell 1
  simp only [List.getElem?_cons_zero, List.getElem?_cons_succ] at x0 x1
  obtain ⟨W1, hW1⟩ : ∃ W1, (W0.setCell ⟨w.heap.size + 1, 0, none⟩ (.bool false)).setCell ⟨w.heap.size + 1, 1, none⟩ (.slice none 0 0) = W1 := ⟨_, rfl⟩
  have B21 : Blk W1 (w.heap.size + 1) [.bool false, .slice none 0 0] 251 := by rw [← hW1]; exact (B2.set 0 (.bool false)).set 1 (.slice none 0 0)
  have B11 : Blk W1 w.heap.size [.bool false, .slice none 0 0] 251 := by rw [← hW1]; exact (B1.setOther (by omega) _ _).setOther (by omega) _ _
  have hq1 : Q w W1 := by rw [← hW1]; exact (hq0.setCell (p := ⟨w.heap.size + 1, 0, none⟩) (by simp) _).setCell (p := ⟨w.heap.size + 1, 1, none⟩) (by simp) _
  have hs1 : W1.heap.size = w.heap.size + 2 := by rw [← hW1]; simp [World.setCell, hs0]
  have HD := Lib.hid hd
  have HST := Lib.hid (fun j o (h : Read6 rest j o) (hj : 6 * j < rest.length) a ha => h.step hd hj (a := a) ha)
  have HCL := Lib.hid (fun a k (hk : k ≤ 6) => chunk_lt hd a k hk)
  have hw0 := Go.IntWalk.i64_in (rest.length : Int) (by omega)
  obtain ⟨W2, hW2⟩ : ∃ W2, (if mi then W1.setCell ⟨w.heap.size + 1, 0, none⟩ (.bool true) else W1) = W2 := ⟨_, rfl⟩
  have B22 : Blk W2 (w.heap.size + 1) [.bool mi, .slice none 0 0] 251 := by
    cases mi
    · rw [← hW2]; exact B21
    · rw [← hW2]; exact B21.set 0 (.bool true)
  have B12 : Blk W2 w.heap.size [.bool false, .slice none 0 0] 251 := by
    cases mi
    · rw [← hW2]; exact B11
    · rw [← hW2]; exact B11.setOther (by omega) _ _
  have hq2 : Q w W2 := by
    cases mi
    · rw [← hW2]; exact hq1
    · rw [← hW2]; exact hq1.setCell (p := ⟨w.heap.size + 1, 0, none⟩) (by simp) _
  have hs2 : W2.heap.size = w.heap.size + 2 := by
    cases mi
    · rw [← hW2]; exact hs1
    · rw [← hW2]; simp [World.setCell, hs1]
  have g0 := B21.frozen 0
  have y0 := B21.cell 0
  simp only [List.getElem?_cons_zero] at y0
  rcases hs with ⟨hmi, rfl⟩ | ⟨hmi, rfl, hm⟩
  · have hb : (((at0 (45 :: rest) 0).toNat : Int) == 45) = true := rfl
    have hsl : 0 < (45 :: rest).length := by simp
    have hex : (⟨(45 :: rest).toArray⟩ : ByteArray).extract 1 (rest.length + 1) = ⟨rest.toArray⟩ := by
      have := ba_drop (45 :: rest) 1
      rw [List.length_cons] at this
      rw [this]; rfl
    have hW2' : W1.setCell ⟨w.heap.size + 1, 0, none⟩ (.bool true) = W2 := by rw [← hW2, hmi]; rfl
    clear hW2 hmi
    go_enter Tryz.func226, Tryz.ntmps226
    go_wp2_with fail
    clear hb hsl hW0 hW1 hW2' y0 g0 x0 x1 f0 f1 B1 B2 B11 B21 hq0 hq1 hw0 hs0 hs1 hex
    go_loopw [4] (fun ev wr => ∃ (j : Nat) (o : List Int) (v : Value), ev = .int .i64 ((rest.length : Int) - 6 * j) ∧ 6 * j < rest.length + 6 ∧ Hid (Read6 rest j o) ∧ Hid (wr.ownsRow (w.heap.size + 2) 3 1 v o.length (intVs o)) ∧ Blk wr w.heap.size [.bool false, .slice none 0 0] 251 ∧ Blk wr (w.heap.size + 1) [.bool mi, v] 251 ∧ Q w wr ∧ w.heap.size + 2 ≤ wr.heap.size) (fun ev _ => (intOf ev + 6).toNat)
    case atStart => exact ⟨0, [], _, by simp, by omega, Lib.hid (Read6.start rest), Lib.hid (World.ownsRow_nil _ _ _ _), B12, B22, hq2, by omega⟩
    case round =>
      obtain ⟨j, o, v, rfl, hj, HR, HO, hB1, hB2, hQ, hsz⟩ := hrel
      by_cases hlt : 6 * j < rest.length
      · obtain ⟨E, hE⟩ : ∃ E : Nat, rest.length - 6 * j = E := ⟨_, rfl⟩
        have hE2 : (rest.length : Int) - 6 * j = (E : Int) := by omega
        have h1 : 0 < (E : Int) := by omega
        have hw3 := Go.IntWalk.i64_in ((E : Int) - 6) (by omega)
        have HNX : Hid ((E : Int) - 6 = (rest.length : Int) - 6 * ((j + 1 : Nat) : Int)) := Lib.hid (by omega)
        obtain ⟨a, ha⟩ : ∃ a, a = rest.length - 6 * (j + 1) := ⟨_, rfl⟩
        have hmax : max 0 ((E : Int) - 6) = (a : Int) := by omega
        have HS := HST.out j o HR.out hlt a ha
        rw [hE] at HS
        have HS := Lib.hid HS
        have hae : a ≤ E := by omega
        have ha6 : E - a ≤ 6 := by omega
        have HEL : Hid (E ≤ rest.length) := Lib.hid (by omega)
        have hol : o.length = j := HR.out.len
        rw [hE2]
        clear hE hE2 ha
        go_wp2
        go_loopw [5, 6] (fun nv iv wi => ∃ (k : Nat) (N : Int), a + k ≤ E ∧ nv = .int .i64 N ∧ 0 ≤ N ∧ N < 1000000 ∧ Hid (N = nval ((rest.drop a).take k)) ∧ iv = .int .i64 ((a : Int) + k) ∧ wi = wr) (fun _ iv _ => (E - intOf iv).toNat)
        case atStart => exact ⟨0, 0, by omega, rfl, by omega, by omega, Lib.hid (by rfl), by simp⟩
        case round =>
          obtain ⟨k, N, hk, rfl, hN0, hN1, HN, rfl, rfl⟩ := hrel
          by_cases hlk : a + k < E
          · have hEL := HEL.out
            have hdd : isDig (at0 rest (a + k)) = true := by rw [at0_get rest (a + k) (by omega)]; exact HD.out _ (List.getElem_mem _)
            have hd2 := (isDig_iff _).1 hdd
            have hsn := HN.out
            have hcs := chunk_snoc (s := rest) (a := a) (k := k) (by omega)
            have hcl := HCL.out a (k + 1) (by omega)
            have HN2 : Hid (10 * N + (((at0 rest (a + k)).toNat : Int) - 48) = nval ((rest.drop a).take (k + 1))) := Lib.hid (by rw [hsn]; omega)
            have hN2 : 10 * N + (((at0 rest (a + k)).toNat : Int) - 48) < 1000000 := by have := HN2.out; omega
            have hN3 : 0 ≤ 10 * N + (((at0 rest (a + k)).toNat : Int) - 48) := by omega
            obtain ⟨J, hJ⟩ : ∃ J, a + k = J := ⟨_, rfl⟩
            have hJ2 : (a : Int) + (k : Int) = (J : Int) := by omega
            have hJl : (J : Int) < (rest.length : Int) := by omega
            have hJ0 : (0 : Int) ≤ (J : Int) := by omega
            have hJE : (J : Int) < (E : Int) := by omega
            have HJN : Hid ((J : Int) + 1 = (a : Int) + ((k + 1 : Nat) : Int)) := Lib.hid (by omega)
            have HJ3 : Hid (a + (k + 1) ≤ E) := Lib.hid (by omega)
            have hwj := Go.IntWalk.i64_in ((J : Int) + 1) (by omega)
            rw [hJ] at hd2 HN2 hN2 hN3
            clear hsn hcs hcl hdd hEL HN
            rw [hJ2]
            clear hJ2 hJ
            go_wp2
            go_roundw
            case rel => exact ⟨k + 1, _, HJ3.out, by go_num, hN3, hN2, HN2, by rw [← HJN.out], trivial⟩
            case measure => simp [intOf]; omega
          · have hkE : (a : Int) + (k : Int) = (E : Int) := by omega
            obtain rfl : k = E - a := by omega
            have HSN := HS.out
            rw [← HN.out] at HSN
            have HSN := Lib.hid HSN
            have ho := HO.out
            have x1 := hB2.cell 1
            have f1 := hB2.frozen 1
            simp only [List.getElem?_cons_zero, List.getElem?_cons_succ] at x1
            rw [hkE]
            clear hkE
            go_wp2_with (at_builtin; refine wpList_append_own _ rfl (.tmp 37) (.tmp 39) 163 rfl (w.heap.size + 2) 3 i0 _ 1 8 Tryz.underlying163 hi hz0 hz1 hz2 rfl (by decide) _ o.length (intVs o) rfl (ho.alloc _) ⟨wr.heap.size, 0, none⟩ 1 1 [.int .i64 N] rfl rfl (cell_one_new _ _ _) (by simp [Value.oneCell']) (by unfold maxLen; omega) (by omega) (by simp; omega) ?_)
            intro v' w2 hown' hgrow _
            have hqb : Below (w.heap.size + 2) wr w2 := ((Below.refl _ wr).alloc hsz _).grown hgrow (by simp; omega) (fun j hj => (ho.lt j hj).1)
            have hq2 : Q w w2 := (hQ.alloc hQ.size _).grown hgrow (by simp; omega) (fun j hj => by have := (ho.lt j hj).1; omega)
            have HO2 : Hid (w2.ownsRow (w.heap.size + 2) 3 1 v' (o ++ [N]).length (intVs (o ++ [N]))) := Lib.hid (by rw [intVs_snoc, List.length_append, hol]; exact hown')
            obtain ⟨g', cap', rfl, hg', -⟩ := HO2.out.form (by simp)
            have C1 := hB1.keep hqb (by omega)
            have C2 := hB2.keep hqb (by omega)
            have y1 := C2.cell 1
            have g1 := C2.frozen 1
            simp only [List.getElem?_cons_zero, List.getElem?_cons_succ] at y1
            have hoL : (o ++ [N]).length = j + 1 := by rw [List.length_append, hol]; rfl
            have HOL := Lib.hid hoL
            rw [hoL] at HO2 ⊢
            have D1 := C1.setOther (b' := w.heap.size + 1) (by omega) 1 (.slice (some ⟨g', 0, none⟩) (j + 1) cap')
            have D2 := C2.set 1 (.slice (some ⟨g', 0, none⟩) (j + 1) cap')
            have hO3 := ownsRow_far HO2.out (b := w.heap.size + 1) (by omega) 1 (.slice (some ⟨g', 0, none⟩) (j + 1) cap')
            have HO3 : Hid ((w2.setCell ⟨w.heap.size + 1, 1, none⟩ (.slice (some ⟨g', 0, none⟩) (j + 1) cap')).ownsRow (w.heap.size + 2) 3 1 (.slice (some ⟨g', 0, none⟩) (j + 1) cap') (o ++ [N]).length (intVs (o ++ [N]))) := Lib.hid (by rw [hoL]; exact hO3)
            have hQ3 : Q w (w2.setCell ⟨w.heap.size + 1, 1, none⟩ (.slice (some ⟨g', 0, none⟩) (j + 1) cap')) := hq2.setCell (p := ⟨w.heap.size + 1, 1, none⟩) (by simp) _
            have hsz3 : w.heap.size + 2 ≤ (w2.setCell ⟨w.heap.size + 1, 1, none⟩ (.slice (some ⟨g', 0, none⟩) (j + 1) cap')).heap.size := by rw [show ∀ (W : World) p x, (W.setCell p x).heap.size = W.heap.size from fun W p x => by simp [World.setCell]]; have := hqb.size; omega
            have HJ7 : Hid (6 * (j + 1) < rest.length + 6) := Lib.hid (by omega)
            clear hown' hgrow ho HO hO3 HO2 C1 x1 f1 hoL
            go_wp2
            go_roundw
            case rel => exact ⟨j + 1, _, _, by rw [HNX.out], HJ7.out, HSN, HO3, D1, D2, hQ3, hsz3⟩
            case measure => simp [intOf]; omega
      · have h1 : ¬ 0 < (rest.length : Int) - 6 * j := by omega
        have hdn := HR.out.done (by omega)
        obtain ⟨g', cap', rfl, hg', -⟩ := HO.out.form (by have := HR.out.len; omega)
        have hib := intB_of HO.out rfl
        have htr := ref01_trim_b o (by have := HR.out.len; omega) _ _ wr hib
        rw [hdn] at htr
        have HTR := Lib.hid htr
        have y1 := hB2.cell 1
        simp only [List.getElem?_cons_zero, List.getElem?_cons_succ] at y1
        clear hib htr hdn HR HO
        go_wp2_with fail
        refine HTR.out.mono ?_
        rintro e w5 ⟨v5, rfl, hb5, rfl⟩
        have hb6 := ((hb5.other (g := w.heap.size + 1) (by omega) 1 v5).other (g := w.heap.size) (by omega) 0 (.bool mi)).other (g := w.heap.size) (by omega) 1 v5
        have HB6 := Lib.hid hb6.sl
        obtain ⟨b5, c5, rfl, -, -, -⟩ := hb5
        have g1 := hB2.frozen 1
        have E2 := hB2.set 1 (.slice (some ⟨b5, 0, none⟩) (limbs RB6 (nval rest)).length c5)
        have E1 := hB1.setOther (b' := w.heap.size + 1) (by omega) 1 (.slice (some ⟨b5, 0, none⟩) (limbs RB6 (nval rest)).length c5)
        have e20 := E2.cell 0
        have e21 := E2.cell 1
        have e10 := E1.cell 0
        have e11 := E1.cell 1
        have k0 := E1.frozen 0
        have k1 := E1.frozen 1
        simp only [List.getElem?_cons_zero, List.getElem?_cons_succ, List.set_cons_succ, List.set_cons_zero] at e20 e21 e10 e11
        have F1 := (E1.set 0 (.bool mi)).set 1 (.slice (some ⟨b5, 0, none⟩) (limbs RB6 (nval rest)).length c5)
        have hQ6 : Q w (((w5.setCell ⟨w.heap.size + 1, 1, none⟩ (.slice (some ⟨b5, 0, none⟩) (limbs RB6 (nval rest)).length c5)).setCell ⟨w.heap.size, 0, none⟩ (.bool mi)).setCell ⟨w.heap.size, 1, none⟩ (.slice (some ⟨b5, 0, none⟩) (limbs RB6 (nval rest)).length c5)) :=
          ((hQ.setCell (p := ⟨w.heap.size + 1, 1, none⟩) (by simp) _).setCell (p := ⟨w.heap.size, 0, none⟩) (by simp) _).setCell (p := ⟨w.heap.size, 1, none⟩) (by simp) _
        clear hb6 HTR
        go_wp2
        refine bodyPost_ret (ret_big _ _ w.heap.size _ _ 2 _ rfl rfl (F1.cell 0) (F1.cell 1)) rfl ⟨_, rfl, HB6.out, hQ6⟩
  · have hb := ne45 hm
    have hsl : 0 < s.length := hne
    have hW2' : W1 = W2 := by rw [← hW2, hmi]; rfl
    clear hW2 hmi hm
    go_enter Tryz.func226, Tryz.ntmps226
    go_wp2_with fail
    clear hb hsl hW0 hW1 y0 g0 x0 x1 f0 f1 B1 B2 B11 B21 hq0 hq1 hw0 hs0 hs1
    clear hW2'
    go_loopw [4] (fun ev wr => ∃ (j : Nat) (o : List Int) (v : Value), ev = .int .i64 ((s.length : Int) - 6 * j) ∧ 6 * j < s.length + 6 ∧ Hid (Read6 s j o) ∧ Hid (wr.ownsRow (w.heap.size + 2) 3 1 v o.length (intVs o)) ∧ Blk wr w.heap.size [.bool false, .slice none 0 0] 251 ∧ Blk wr (w.heap.size + 1) [.bool mi, v] 251 ∧ Q w wr ∧ w.heap.size + 2 ≤ wr.heap.size) (fun ev _ => (intOf ev + 6).toNat)
    case atStart => exact ⟨0, [], _, by simp, by omega, Lib.hid (Read6.start s), Lib.hid (World.ownsRow_nil _ _ _ _), B12, B22, hq2, by omega⟩
    case round =>
      obtain ⟨j, o, v, rfl, hj, HR, HO, hB1, hB2, hQ, hsz⟩ := hrel
      by_cases hlt : 6 * j < s.length
      · obtain ⟨E, hE⟩ : ∃ E : Nat, s.length - 6 * j = E := ⟨_, rfl⟩
        have hE2 : (s.length : Int) - 6 * j = (E : Int) := by omega
        have h1 : 0 < (E : Int) := by omega
        have hw3 := Go.IntWalk.i64_in ((E : Int) - 6) (by omega)
        have HNX : Hid ((E : Int) - 6 = (s.length : Int) - 6 * ((j + 1 : Nat) : Int)) := Lib.hid (by omega)
        obtain ⟨a, ha⟩ : ∃ a, a = s.length - 6 * (j + 1) := ⟨_, rfl⟩
        have hmax : max 0 ((E : Int) - 6) = (a : Int) := by omega
        have HS := HST.out j o HR.out hlt a ha
        rw [hE] at HS
        have HS := Lib.hid HS
        have hae : a ≤ E := by omega
        have ha6 : E - a ≤ 6 := by omega
        have HEL : Hid (E ≤ s.length) := Lib.hid (by omega)
        have hol : o.length = j := HR.out.len
        rw [hE2]
        clear hE hE2 ha
        go_wp2
        go_loopw [5, 6] (fun nv iv wi => ∃ (k : Nat) (N : Int), a + k ≤ E ∧ nv = .int .i64 N ∧ 0 ≤ N ∧ N < 1000000 ∧ Hid (N = nval ((s.drop a).take k)) ∧ iv = .int .i64 ((a : Int) + k) ∧ wi = wr) (fun _ iv _ => (E - intOf iv).toNat)
        case atStart => exact ⟨0, 0, by omega, rfl, by omega, by omega, Lib.hid (by rfl), by simp⟩
        case round =>
          obtain ⟨k, N, hk, rfl, hN0, hN1, HN, rfl, rfl⟩ := hrel
          by_cases hlk : a + k < E
          · have hEL := HEL.out
            have hdd : isDig (at0 s (a + k)) = true := by rw [at0_get s (a + k) (by omega)]; exact HD.out _ (List.getElem_mem _)
            have hd2 := (isDig_iff _).1 hdd
            have hsn := HN.out
            have hcs := chunk_snoc (s := s) (a := a) (k := k) (by omega)
            have hcl := HCL.out a (k + 1) (by omega)
            have HN2 : Hid (10 * N + (((at0 s (a + k)).toNat : Int) - 48) = nval ((s.drop a).take (k + 1))) := Lib.hid (by rw [hsn]; omega)
            have hN2 : 10 * N + (((at0 s (a + k)).toNat : Int) - 48) < 1000000 := by have := HN2.out; omega
            have hN3 : 0 ≤ 10 * N + (((at0 s (a + k)).toNat : Int) - 48) := by omega
            obtain ⟨J, hJ⟩ : ∃ J, a + k = J := ⟨_, rfl⟩
            have hJ2 : (a : Int) + (k : Int) = (J : Int) := by omega
            have hJl : (J : Int) < (s.length : Int) := by omega
            have hJ0 : (0 : Int) ≤ (J : Int) := by omega
            have hJE : (J : Int) < (E : Int) := by omega
            have HJN : Hid ((J : Int) + 1 = (a : Int) + ((k + 1 : Nat) : Int)) := Lib.hid (by omega)
            have HJ3 : Hid (a + (k + 1) ≤ E) := Lib.hid (by omega)
            have hwj := Go.IntWalk.i64_in ((J : Int) + 1) (by omega)
            rw [hJ] at hd2 HN2 hN2 hN3
            clear hsn hcs hcl hdd hEL HN
            rw [hJ2]
            clear hJ2 hJ
            go_wp2
            go_roundw
            case rel => exact ⟨k + 1, _, HJ3.out, by go_num, hN3, hN2, HN2, by rw [← HJN.out], trivial⟩
            case measure => simp [intOf]; omega
          · have hkE : (a : Int) + (k : Int) = (E : Int) := by omega
            obtain rfl : k = E - a := by omega
            have HSN := HS.out
            rw [← HN.out] at HSN
            have HSN := Lib.hid HSN
            have ho := HO.out
            have x1 := hB2.cell 1
            have f1 := hB2.frozen 1
            simp only [List.getElem?_cons_zero, List.getElem?_cons_succ] at x1
            rw [hkE]
            clear hkE
            go_wp2_with (at_builtin; refine wpList_append_own _ rfl (.tmp 37) (.tmp 39) 163 rfl (w.heap.size + 2) 3 i0 _ 1 8 Tryz.underlying163 hi hz0 hz1 hz2 rfl (by decide) _ o.length (intVs o) rfl (ho.alloc _) ⟨wr.heap.size, 0, none⟩ 1 1 [.int .i64 N] rfl rfl (cell_one_new _ _ _) (by simp [Value.oneCell']) (by unfold maxLen; omega) (by omega) (by simp; omega) ?_)
            intro v' w2 hown' hgrow _
            have hqb : Below (w.heap.size + 2) wr w2 := ((Below.refl _ wr).alloc hsz _).grown hgrow (by simp; omega) (fun j hj => (ho.lt j hj).1)
            have hq2 : Q w w2 := (hQ.alloc hQ.size _).grown hgrow (by simp; omega) (fun j hj => by have := (ho.lt j hj).1; omega)
            have HO2 : Hid (w2.ownsRow (w.heap.size + 2) 3 1 v' (o ++ [N]).length (intVs (o ++ [N]))) := Lib.hid (by rw [intVs_snoc, List.length_append, hol]; exact hown')
            obtain ⟨g', cap', rfl, hg', -⟩ := HO2.out.form (by simp)
            have C1 := hB1.keep hqb (by omega)
            have C2 := hB2.keep hqb (by omega)
            have y1 := C2.cell 1
            have g1 := C2.frozen 1
            simp only [List.getElem?_cons_zero, List.getElem?_cons_succ] at y1
            have hoL : (o ++ [N]).length = j + 1 := by rw [List.length_append, hol]; rfl
            have HOL := Lib.hid hoL
            rw [hoL] at HO2 ⊢
            have D1 := C1.setOther (b' := w.heap.size + 1) (by omega) 1 (.slice (some ⟨g', 0, none⟩) (j + 1) cap')
            have D2 := C2.set 1 (.slice (some ⟨g', 0, none⟩) (j + 1) cap')
            have hO3 := ownsRow_far HO2.out (b := w.heap.size + 1) (by omega) 1 (.slice (some ⟨g', 0, none⟩) (j + 1) cap')
            have HO3 : Hid ((w2.setCell ⟨w.heap.size + 1, 1, none⟩ (.slice (some ⟨g', 0, none⟩) (j + 1) cap')).ownsRow (w.heap.size + 2) 3 1 (.slice (some ⟨g', 0, none⟩) (j + 1) cap') (o ++ [N]).length (intVs (o ++ [N]))) := Lib.hid (by rw [hoL]; exact hO3)
            have hQ3 : Q w (w2.setCell ⟨w.heap.size + 1, 1, none⟩ (.slice (some ⟨g', 0, none⟩) (j + 1) cap')) := hq2.setCell (p := ⟨w.heap.size + 1, 1, none⟩) (by simp) _
            have hsz3 : w.heap.size + 2 ≤ (w2.setCell ⟨w.heap.size + 1, 1, none⟩ (.slice (some ⟨g', 0, none⟩) (j + 1) cap')).heap.size := by rw [show ∀ (W : World) p x, (W.setCell p x).heap.size = W.heap.size from fun W p x => by simp [World.setCell]]; have := hqb.size; omega
            have HJ7 : Hid (6 * (j + 1) < s.length + 6) := Lib.hid (by omega)
            clear hown' hgrow ho HO hO3 HO2 C1 x1 f1 hoL
            go_wp2
            go_roundw
            case rel => exact ⟨j + 1, _, _, by rw [HNX.out], HJ7.out, HSN, HO3, D1, D2, hQ3, hsz3⟩
            case measure => simp [intOf]; omega
      · have h1 : ¬ 0 < (s.length : Int) - 6 * j := by omega
        have hdn := HR.out.done (by omega)
        obtain ⟨g', cap', rfl, hg', -⟩ := HO.out.form (by have := HR.out.len; omega)
        have hib := intB_of HO.out rfl
        have htr := ref01_trim_b o (by have := HR.out.len; omega) _ _ wr hib
        rw [hdn] at htr
        have HTR := Lib.hid htr
        have y1 := hB2.cell 1
        simp only [List.getElem?_cons_zero, List.getElem?_cons_succ] at y1
        clear hib htr hdn HR HO
        go_wp2_with fail
        refine HTR.out.mono ?_
        rintro e w5 ⟨v5, rfl, hb5, rfl⟩
        have hb6 := ((hb5.other (g := w.heap.size + 1) (by omega) 1 v5).other (g := w.heap.size) (by omega) 0 (.bool mi)).other (g := w.heap.size) (by omega) 1 v5
        have HB6 := Lib.hid hb6.sl
        obtain ⟨b5, c5, rfl, -, -, -⟩ := hb5
        have g1 := hB2.frozen 1
        have E2 := hB2.set 1 (.slice (some ⟨b5, 0, none⟩) (limbs RB6 (nval s)).length c5)
        have E1 := hB1.setOther (b' := w.heap.size + 1) (by omega) 1 (.slice (some ⟨b5, 0, none⟩) (limbs RB6 (nval s)).length c5)
        have e20 := E2.cell 0
        have e21 := E2.cell 1
        have e10 := E1.cell 0
        have e11 := E1.cell 1
        have k0 := E1.frozen 0
        have k1 := E1.frozen 1
        simp only [List.getElem?_cons_zero, List.getElem?_cons_succ, List.set_cons_succ, List.set_cons_zero] at e20 e21 e10 e11
        have F1 := (E1.set 0 (.bool mi)).set 1 (.slice (some ⟨b5, 0, none⟩) (limbs RB6 (nval s)).length c5)
        have hQ6 : Q w (((w5.setCell ⟨w.heap.size + 1, 1, none⟩ (.slice (some ⟨b5, 0, none⟩) (limbs RB6 (nval s)).length c5)).setCell ⟨w.heap.size, 0, none⟩ (.bool mi)).setCell ⟨w.heap.size, 1, none⟩ (.slice (some ⟨b5, 0, none⟩) (limbs RB6 (nval s)).length c5)) :=
          ((hQ.setCell (p := ⟨w.heap.size + 1, 1, none⟩) (by simp) _).setCell (p := ⟨w.heap.size, 0, none⟩) (by simp) _).setCell (p := ⟨w.heap.size, 1, none⟩) (by simp) _
        clear hb6 HTR
        go_wp2
        refine bodyPost_ret (ret_big _ _ w.heap.size _ _ 2 _ rfl rfl (F1.cell 0) (F1.cell 1)) rfl ⟨_, rfl, HB6.out, hQ6⟩

end Go.Proofs.YtgkikkabmcihhaaGreatDoor

namespace Go.Proofs.YtgkikkabmcihhaaGreatDoor
open Go.RowKit Kp
open Go.Lib (decDigits)

/-- Bytes as cells. -/
def bytVs (l : Str) : List Value := l.map fun c => .int .u8 (c.toNat : Int)
theorem bytVs_len (l : Str) : (bytVs l).length = l.length := by simp [bytVs]
theorem bytVs_at (l : Str) (j : Nat) (hj : j < l.length) : (bytVs l)[j]? = some (.int .u8 ((at0 l j).toNat : Int)) := by
  unfold bytVs; rw [List.getElem?_map, List.getElem?_eq_getElem hj, at0_get l j hj]; rfl
theorem bytVs_set (l : Str) (j : Nat) (c : UInt8) : (bytVs l).set j (.int .u8 (c.toNat : Int)) = bytVs (l.set j c) := by simp [bytVs, List.map_set]
theorem bytVs_zeros (n : Nat) : List.replicate n (Value.int .u8 0) = bytVs (List.replicate n 0) := by simp [bytVs]
theorem bytVs_conv {w : World} {B g n cap : Nat} {l : Str} (h : w.ownsRow B 5 1 (.slice (some ⟨g, 0, none⟩) n cap) n (bytVs l)) (hn : l.length = n) (k : Nat) (hk : k ≤ n) (c : Nat) :
    (convert 88 9 (.slice (some ⟨g, k, none⟩) (n - k) c)).run Tryz.prog w = .ok (.string ⟨(l.drop k).toArray⟩) w := by
  have e : n - k = (l.drop k).length := by rw [List.length_drop, hn]
  rw [e]
  refine run_convert_bytes_back w 88 9 5 ⟨g, k, none⟩ c (l.drop k) Tryz.underlying88 Tryz.underlying5 Tryz.underlying9 (fun j hj => ?_)
  have hadd : (⟨g, k, none⟩ : Addr).add j = ⟨g, k + j, none⟩ := by unfold Addr.add; split <;> simp_all
  rw [List.length_drop] at hj
  rw [hadd, h.cellAt (k + j) (by omega), bytVs_at l (k + j) (by omega), List.getElem_drop, at0_get]

/-- Limb i of X is being written: m of its digits stand, n is left of it. -/
structure Wr6 (X : Int) (l : List Int) (out : Str) (i m : Nat) (n : Int) : Prop where
  len : out.length = 6 * l.length
  dig : AllDig (out.drop (6 * l.length - (6 * i + m)))
  n0 : 0 ≤ n
  n1 : n < 10 ^ (6 - m)
  val : X = nval (out.drop (6 * l.length - (6 * i + m))) + 10 ^ (6 * i + m) * (n + 10 ^ (6 - m) * lval RB6 (l.drop (i + 1)))
structure Wo6 (X : Int) (l : List Int) (out : Str) (i : Nat) : Prop where
  len : out.length = 6 * l.length
  dig : AllDig (out.drop (6 * l.length - 6 * i))
  val : X = nval (out.drop (6 * l.length - 6 * i)) + 10 ^ (6 * i) * lval RB6 (l.drop i)
theorem Wo6.start {X : Int} {l : List Int} (h : lval RB6 l = X) : Wo6 X l (List.replicate (6 * l.length) 0) 0 :=
  ⟨by simp, (by rw [List.drop_of_length_le (by simp)]; intro c hc; cases hc), by rw [List.drop_of_length_le (by simp), List.drop_zero, h]; simp [nval, nvalF]⟩
theorem Wo6.open' {X : Int} {l : List Int} {out : Str} {i : Nat} (h : Wo6 X l out i) (hd : Dig RB6 l) (hi : i < l.length) : Wr6 X l out i 0 (l.getD i 0) := by
  have hg := hd.get (by decide) i
  refine ⟨h.len, h.dig, hg.1, ?_, ?_⟩
  · exact hg.2
  · have := h.val
    rw [lval_drop_pred RB6 l i hi] at this
    exact this
theorem Wr6.close {X : Int} {l : List Int} {out : Str} {i : Nat} {n : Int} (h : Wr6 X l out i 6 n) : Wo6 X l out (i + 1) := by
  have h0 := h.n0
  have h1 := h.n1
  rw [show (10 : Int) ^ (6 - 6) = 1 by decide] at h1
  obtain rfl : n = 0 := by omega
  have hv := h.val
  rw [show (10 : Int) ^ (6 - 6) = 1 by decide, Int.zero_add, Int.one_mul] at hv
  exact ⟨h.len, h.dig, hv⟩
theorem u8_ofInt {n : Int} (h0 : 0 ≤ n) (h1 : n < 256) : ((UInt8.ofNat n.toNat).toNat : Int) = n := by
  rw [UInt8.toNat_ofNat_of_lt' (by show n.toNat < 256; omega)]; omega
theorem Wr6.step {X : Int} {l : List Int} {out : Str} {i m : Nat} {n : Int} (h : Wr6 X l out i m n) (hm : m < 6) (hi : i < l.length) {p : Nat} (hp : p = 6 * l.length - (6 * i + m) - 1) :
    p < 6 * l.length ∧ Wr6 X l (out.set p (UInt8.ofNat (48 + n % 10).toNat)) i (m + 1) (n / 10) := by
  have hn0 := h.n0
  have hn1 := h.n1
  have hl := h.len
  have hpp : p + 1 = 6 * l.length - (6 * i + m) := by omega
  have hc := u8_ofInt (n := 48 + n % 10) (by omega) (by omega)
  generalize UInt8.ofNat (48 + n % 10).toNat = c at *
  have hlt : p < out.length := by omega
  have e : (out.set p c).drop p = c :: out.drop (p + 1) := by
    rw [List.drop_eq_getElem_cons (by simpa using hlt), List.getElem_set_self]
    congr 1
    rw [List.drop_set_of_lt (by omega)]
  have hpow : (10 : Int) ^ (6 - m) = 10 * 10 ^ (6 - (m + 1)) := by
    rw [show 6 - m = (6 - (m + 1)) + 1 by omega, Int.pow_succ, Int.mul_comm]
  have hpow2 : (10 : Int) ^ (6 * i + (m + 1)) = 10 ^ (6 * i + m) * 10 := by
    rw [show 6 * i + (m + 1) = (6 * i + m) + 1 by omega, Int.pow_succ]
  have hd := h.dig
  have hv := h.val
  rw [← hpp] at hd hv
  have hcd : isDig c = true := (isDig_iff _).2 (by omega)
  refine ⟨by omega, by simpa using hl, ?_, by omega, ?_, ?_⟩
  · rw [show 6 * l.length - (6 * i + (m + 1)) = p by omega, e]
    intro x hx
    rcases List.mem_cons.1 hx with rfl | hx
    · exact hcd
    · exact hd x hx
  · rw [hpow] at hn1
    omega
  · rw [show 6 * l.length - (6 * i + (m + 1)) = p by omega, e, nval_cons, List.length_drop, show out.length - (p + 1) = 6 * i + m by omega, hpow2]
    rw [hpow, Int.mul_assoc] at hv
    generalize 10 ^ (6 - (m + 1)) * lval RB6 (l.drop (i + 1)) = R at *
    have hcn : ((c.toNat - 48 : Nat) : Int) = n % 10 := by omega
    push_cast
    rw [hcn, hv]
    have hdm : n = 10 * (n / 10) + n % 10 := by omega
    generalize n / 10 = q at *
    generalize n % 10 = r at *
    subst hdm
    generalize (10 : Int) ^ (6 * i + m) = Pw at *
    grind

def slLen : Value → Nat
  | .slice _ n _ => n
  | _ => 0
theorem strip_next {X : Int} {out : Str} {k : Nat} (hX : 0 < X) (hk : k < out.length) (h : X = nval (out.drop k)) (hc : at0 out k = 48) : k + 1 < out.length ∧ X = nval (out.drop (k + 1)) := by
  rw [List.drop_eq_getElem_cons hk, nval_cons, ← at0_get out k hk, hc] at h
  simp only [show (48 : UInt8).toNat - 48 = 0 from rfl, Nat.zero_mul, Nat.zero_add] at h
  refine ⟨?_, h⟩
  rcases Nat.lt_or_ge (k + 1) out.length with h1 | h1
  · exact h1
  · rw [List.drop_of_length_le h1] at h
    simp [nval, nvalF] at h
    omega
theorem strip_done {X : Int} {out : Str} {k : Nat} (hd : AllDig out) (hk : k < out.length) (h : X = nval (out.drop k)) (hc : at0 out k ≠ 48) : out.drop k = decDigits X.toNat := by
  have h1 : X.toNat = nval (out.drop k) := by omega
  rw [h1]
  refine (decDigits_nval _ (by intro e; have := congrArg List.length e; rw [List.length_drop] at this; simp at this; omega) (fun c hc => hd c (List.mem_of_mem_drop hc)) (fun e => ?_)).symm
  rw [List.drop_eq_getElem_cons hk] at e
  have e2 : some out[k] = some 48 := e
  exact absurd ((at0_get out k hk).trans (Option.some.inj e2)) hc

set_option maxRecDepth 100000 in
set_option maxHeartbeats 4000000 in
theorem ref01_write_pos (X : Int) (hX : 0 < X) (hl : (limbs RB6 X).length ≤ 100000) (v : Value) (w : World) (i1 : IntSl w v (limbs RB6 X)) :
    Calls Tryz.prog 228 #[.agg #[.bool false, v]] w fun e w' => e = .returned (.string ⟨(decDigits X.toNat).toArray⟩) ∧ Q w w' := by
  obtain ⟨i0, hi, hz0, hz1, hz2⟩ := info_parts infoByte
  have d6 := limbs_dig (B := RB6) (by decide) X
  have hlv := lval_limbs (B := RB6) (by decide) X (by omega)
  have hn0 : 0 < (limbs RB6 X).length := by rw [limbs_pos (by decide) hX]; simp
  generalize limbs RB6 X = l at *
  obtain ⟨a1, c1, rfl, -, k1⟩ := i1
  obtain ⟨b, o, rfl, hA⟩ := k1 hn0
  obtain ⟨L, hL⟩ : ∃ L, l.length = L := ⟨_, rfl⟩
  have HL := Lib.hid hL
  have HS0 := Lib.hid (Wo6.start (X := X) (l := l) hlv)
  rw [hL] at hn0 hl HS0 ⊢
  have hAt := Lib.hid hA
  clear k1 hA hlv hL
  obtain ⟨n, hn⟩ : ∃ n, 6 * L = n := ⟨_, rfl⟩
  have hn2 : 6 * (L : Int) = (n : Int) := by omega
  have hnl : n ≤ 600000 := by omega
  rw [hn] at HS0
  obtain ⟨W0, hW0⟩ : ∃ W0, w.alloc (.cells [.bool false, .slice (some ⟨b, o, none⟩) L c1].toArray 251) = W0 := ⟨_, rfl⟩
  have B1 : Blk W0 w.heap.size [.bool false, .slice (some ⟨b, o, none⟩) L c1] 251 := by rw [← hW0]; exact Blk.new w _ _
  have hq0 : Q w W0 := by rw [← hW0]; exact (Below.refl _ w).alloc (Nat.le_refl _) _
  have hs0 : W0.heap.size = w.heap.size + 1 := by rw [← hW0]; simp
  obtain ⟨W5, hmk, hown, hgr⟩ := run_make_full (P := Tryz.prog) W0 W0.heap.size 88 5 i0 _ 1 Tryz.underlying88 hi hz0 hz1 .i64 .i64 n (by rw [hz2]; omega) (by unfold maxLen; omega) (Nat.le_refl _)
  rw [show (Value.int .u8 0).cells = #[Value.int .u8 0] from rfl, Nat.mul_one, toList_madeCells_one, bytVs_zeros] at hown
  have hq5 : Q w W5 := hq0.grown hgr hq0.size (fun k hk => by cases hk)
  have B5 : Blk W5 w.heap.size [.bool false, .slice (some ⟨b, o, none⟩) L c1] 251 := B1.keep ((Below.refl W0.heap.size W0).grown hgr (Nat.le_refl _) (fun k hk => by cases hk)) B1.lt
  have hg5 : W0.heap.size < W5.heap.size := (hown.lt W0.heap.size rfl).2
  have x1 := B1.cell 1
  simp only [List.getElem?_cons_zero, List.getElem?_cons_succ] at x1
  have hL0 : ((L : Int) == 0) = false := by rw [beq_eq_false_iff_ne]; omega
  rw [hs0] at hmk hown hg5
  obtain ⟨g, hgg⟩ : ∃ g, w.heap.size + 1 = g := ⟨_, rfl⟩
  have hgne : g ≠ w.heap.size := by omega
  have hgw : w.heap.size ≤ g := by omega
  rw [hgg] at hmk hown hg5 hs0
  have HO := Lib.hid hown
  clear hown hgr
  clear hgg
  go_enter Tryz.func228, Tryz.ntmps228
  go_wp2_with fail
  clear hmk x1 hW0 B1 hq0 hs0
  go_loopw [4] (fun iv wr => ∃ (i : Nat) (out : Str), i ≤ L ∧ iv = .int .i64 i ∧ Hid (Wo6 X l out i) ∧ Hid (wr.ownsRow g 5 1 (.slice (some ⟨g, 0, none⟩) n n) n (bytVs out)) ∧ Blk wr w.heap.size [.bool false, .slice (some ⟨b, o, none⟩) L c1] 251 ∧ Q w wr) (fun iv _ => L - (intOf iv).toNat)
  case atStart => exact ⟨0, _, by omega, rfl, HS0, HO, B5, hq5⟩
  case round =>
    obtain ⟨i, out, hiL, rfl, HI, HO1, hB, hQ⟩ := hrel
    have x1 := hB.cell 1
    simp only [List.getElem?_cons_zero, List.getElem?_cons_succ] at x1
    by_cases hlt : i < L
    · have hi0 : (0 : Int) ≤ (i : Int) := by omega
      have hil : (i : Int) < (L : Int) := by omega
      have hlen := HL.out
      have hop := HI.out.open' d6 (by omega)
      have hax := (hAt.out.keep hQ hAt.out.1).2 i (by omega)
      have gx := d6.get (by decide) i
      rw [show RB6 = 1000000 from rfl] at gx
      generalize l.getD i 0 = x at *
      have HOP := Lib.hid hop
      clear hop hlen
      go_wp2
      go_loopw [5, 6] (fun nv kv wi => ∃ (m : Nat) (N : Int) (out : Str), m ≤ 6 ∧ nv = .int .i64 N ∧ kv = .int .i64 ((m : Int) + 1) ∧ 0 ≤ N ∧ N < 1000000 ∧ Hid (Wr6 X l out i m N) ∧ Hid (wi.ownsRow g 5 1 (.slice (some ⟨g, 0, none⟩) n n) n (bytVs out)) ∧ Blk wi w.heap.size [.bool false, .slice (some ⟨b, o, none⟩) L c1] 251 ∧ Q w wi) (fun _ kv _ => (7 - intOf kv).toNat)
      case atStart => exact ⟨0, x, out, by omega, rfl, by simp, gx.1, gx.2, HOP, HO1, hB, hQ⟩
      case round =>
        obtain ⟨m, N, out, hm, rfl, rfl, hN0, hN1, HI, HO1, hB, hQ⟩ := hrel
        by_cases hm6 : m < 6
        · have hle : (m : Int) + 1 ≤ 6 := by omega
          obtain ⟨p, hp⟩ : ∃ p, p = 6 * l.length - (6 * i + m) - 1 := ⟨_, rfl⟩
          have hlen := HL.out
          obtain ⟨hpl, hst⟩ := HI.out.step hm6 (by omega) hp
          have hw1 := Go.IntWalk.i64_in (6 * (i : Int)) (by omega)
          have hw2 := Go.IntWalk.i64_in ((n : Int) - 6 * (i : Int)) (by omega)
          have hpe : (n : Int) - 6 * (i : Int) - ((m : Int) + 1) = (p : Int) := by omega
          have hp0 : (0 : Int) ≤ (p : Int) := by omega
          have hpn : (p : Int) < (n : Int) := by omega
          have hw3 := Go.IntWalk.i64_in (p : Int) (by omega)
          have hw4 := Go.IntWalk.i64_in (48 + N % 10) (by omega)
          have hw5 := Go.IntWalk.u8_in (48 + N % 10) (by omega)
          have hw6 := Go.IntWalk.i64_in ((m : Int) + 1 + 1) (by omega)
          have hr3 := HO1.out
          have hol : out.length = n := by rw [HI.out.len]; omega
          have hc3 := hr3.cellAt p (by omega)
          have hf3 := hr3.frozenAt p
          rw [bytVs_at out p (by omega)] at hc3
          obtain ⟨hr4, -⟩ := hr3.stored p (.int .u8 (48 + N % 10))
          have hc := u8_ofInt (n := 48 + N % 10) (by omega) (by omega)
          have hr5 := hr4
          rw [← hc, bytVs_set] at hr5
          rw [hc] at hr5
          have HR5 := Lib.hid hr5
          have HST := Lib.hid hst
          have hB4 := hB.setOther (b' := g) hgne p (.int .u8 (48 + N % 10))
          have hQ4 : Q w (wr.setCell ⟨g, p, none⟩ (.int .u8 (48 + N % 10))) := hQ.setCell (p := ⟨g, p, none⟩) hgw _
          have hN2 : 0 ≤ N / 10 := by omega
          have hN3 : N / 10 < 1000000 := by omega
          clear hr3 hr4 hr5 hc hst hlen hp
          go_wp2
          go_roundw
          case rel => exact ⟨m + 1, _, _, by omega, by go_num, by go_num, hN2, hN3, HST, HR5, hB4, hQ4⟩
          case measure => simp [intOf]; omega
        · obtain rfl : m = 6 := by omega
          have HC := Lib.hid HI.out.close
          have hw1 := Go.IntWalk.i64_in ((i : Int) + 1) (by omega)
          go_wp2
          go_roundw
          case rel => exact ⟨i + 1, out, by omega, by go_num, HC, HO1, hB, hQ⟩
          case measure => simp [intOf]; omega
    · obtain rfl : i = L := by omega
      have hlen := HL.out
      have hv := HI.out.val
      have hdg := HI.out.dig
      have hol : out.length = n := by rw [HI.out.len]; omega
      rw [hlen, show 6 * i - 6 * i = 0 by omega, List.drop_zero] at hdg
      rw [hlen, show 6 * i - 6 * i = 0 by omega, List.drop_of_length_le (l := l) (by omega)] at hv
      simp only [lval, Int.mul_zero, Int.add_zero] at hv
      have HV0 : Hid (X = nval (out.drop 0)) := Lib.hid hv
      have HDG := Lib.hid hdg
      have HOL := Lib.hid hol
      have hn0' : 0 < n := by omega
      have hQw := hQ
      have hf1 := hB.cell 0
      simp only [List.getElem?_cons_zero] at hf1
      clear hlen hv hdg hol HI
      go_wp2
      go_loopw [3] (fun sv wi => ∃ k r, k + (r + 1) = n ∧ sv = .slice (some ⟨g, k, none⟩) (r + 1) (r + 1) ∧ Hid (X = nval (out.drop k)) ∧ wi = wr) (fun sv _ => slLen sv)
      case atStart => exact ⟨0, n - 1, by omega, by rw [show n - 1 + 1 = n by omega], HV0, rfl⟩
      case round =>
        obtain ⟨k, r, hk, rfl, HV, rfl⟩ := hrel
        have hc := HO1.out.cellAt k (by omega)
        rw [bytVs_at out k (by rw [HOL.out]; omega)] at hc
        have h1r : (1 : Int) ≤ ((r + 1 : Nat) : Int) := by omega
        have h0r : (0 : Int) < ((r + 1 : Nat) : Int) := by omega
        by_cases h48 : at0 out k = 48
        · have hb : (((at0 out k).toNat : Int) == 48) = true := by rw [h48]; rfl
          obtain ⟨hn1, hn2⟩ := strip_next hX (by rw [HOL.out]; omega) HV.out h48
          rw [HOL.out] at hn1
          have HN2 := Lib.hid hn2
          clear hn2 h48
          go_wp2
          go_roundw
          case rel => exact ⟨k + 1, r - 1, by omega, by rw [show r - 1 + 1 = r by omega], HN2, trivial⟩
          case measure => simp [slLen]
        · have hb := ne48 h48
          have hcv := bytVs_conv HO1.out HOL.out k (by omega) (r + 1)
          rw [show n - k = r + 1 by omega, strip_done HDG.out (by rw [HOL.out]; omega) HV.out h48] at hcv
          clear h48
          go_wp2
          go_ret
          exact ⟨rfl, hQ⟩

end Go.Proofs.YtgkikkabmcihhaaGreatDoor

namespace Go.Proofs.YtgkikkabmcihhaaGreatDoor
open Go.RowKit Kp
open Go.Lib (decDigits)

theorem lim_lt6 {x : Int} (h : lim x = false) : (x.natAbs : Int) < RB6 ^ 50 := by
  have h1 := (lim_false x).1 h
  have e : (RB6 : Int) ^ 50 = (big : Int) := by
    obtain ⟨m, hm⟩ : ∃ m, maxD = m := ⟨_, rfl⟩
    have hm3 : 6 * 50 = m := by rw [← hm, maxD_eq]
    unfold big
    rw [show RB6 = (10 : Int) ^ 6 by decide, ← Int.pow_mul, hm3, hm]
    push_cast; rfl
  rw [e]; exact_mod_cast h1
theorem len6_of {z : Int} {k : Nat} (h : z < RB6 ^ k) : (limbs RB6 z).length ≤ k := limbs_len_le (by decide) k z h
theorem len6_lim {x : Int} (h : lim x = false) : (limbs RB6 x).length ≤ 50 := len6_of (by have := lim_lt6 h; omega)
theorem limbs6_len_zero {z : Int} (hz : 0 ≤ z) : (limbs RB6 z).length = 0 ↔ z = 0 := by
  constructor
  · intro h
    rcases Int.lt_or_eq_of_le hz with h1 | h1
    · rw [limbs_pos (by decide) h1] at h; simp at h
    · exact h1.symm
  · rintro rfl; rw [limbs_zero (Int.le_refl _)]; rfl

/-- Two operations may come up: both ways are gone. -/
theorem steadily_pair {P : Program} {l : List Oper} {R : Exit → Act → World → Prop} {md : Region.Mode} {n i j : Nat} {oi oj : Oper} {f : Nat} {ls : Array Bool} {a : Act} {w : World} (hi : l[i]? = some oi) (hj : l[j]? = some oj) (hin : decide (i < n) = true) (hjn : decide (j < n) = true)
    (hr : Region.ready md l.toArray ls = [i, j]) (hwi : Region.wanted oi (yielded l.toArray a.tmps) = true) (hwj : Region.wanted oj (yielded l.toArray a.tmps) = true)
    (h1 : ∀ w', Q w w' → ∀ K : Act → World → Prop, (∀ v w'', Q w' w'' → Steadily P md l R n f (ls.setIfInBounds i true) (a.put oi.dst v) w'' → K (a.put oi.dst v) w'') → Oper.wp P oi a w' K R)
    (h2 : ∀ w', Q w w' → ∀ K : Act → World → Prop, (∀ v w'', Q w' w'' → Steadily P md l R n f (ls.setIfInBounds j true) (a.put oj.dst v) w'' → K (a.put oj.dst v) w'') → Oper.wp P oj a w' K R) : Steadily P md l R n (f + 1) ls a w := fun hB inv => by
  refine ⟨fun h => (by rw [h] at hr; cases hr), fun k hk => ?_⟩
  rw [hr] at hk
  rcases (by simpa using hk : k = i ∨ k = j) with rfl | rfl
  · have hr' : k ∈ Region.ready md l.toArray ls := by rw [hr]; simp
    have hin' : k < n := by simpa using hin
    refine ⟨hin', fun w' hq => ?_⟩
    unfold wpOp
    simp only [at_list hi]
    rw [if_pos hwi]
    exact .inl (h1 w' hq _ fun v w'' hq' hS => ⟨hq', hS hB (inv.set hr' hin')⟩)
  · have hr' : k ∈ Region.ready md l.toArray ls := by rw [hr]; simp
    have hin' : k < n := by simpa using hjn
    refine ⟨hin', fun w' hq => ?_⟩
    unfold wpOp
    simp only [at_list hj]
    rw [if_pos hwj]
    exact .inl (h2 w' hq _ fun v w'' hq' hS => ⟨hq', hS hB (inv.set hr' hin')⟩)
/-- A call and the making of memory: both ways are gone. -/
theorem steadily_call_alloc {P : Program} {l : List Oper} {R : Exit → Act → World → Prop} {md : Region.Mode} {n i j : Nat} {oi oj : Oper} {f : Nat} {ls : Array Bool} {a : Act} {w : World} {g : FuncId} {args : Array Value} (o : Obj) (hi : l[i]? = some oi) (hj : l[j]? = some oj) (hin : decide (i < n) = true) (hjn : decide (j < n) = true)
    (hr : Region.ready md l.toArray ls = [i, j]) (hwi : Region.wanted oi (yielded l.toArray a.tmps) = true) (hwj : Region.wanted oj (yielded l.toArray a.tmps) = true)
    (hx : ∀ w', Q w w' → (execOp a.eval oi).run P w' = .ok (.enter g args) w')
    (hy : ∀ w', Q w w' → (execOp a.eval oj).run P w' = .ok (.value (.pointer (some ⟨w'.heap.size, 0, none⟩))) (w'.alloc o))
    (hc : ∀ w', Q w w' → Calls P g args w' fun e w'' => ∃ v, e = .returned v ∧ Q w' w'' ∧ Steadily P md l R n f (ls.setIfInBounds i true) (a.put oi.dst v) w'')
    (h : ∀ w', Q w w' → Steadily P md l R n f (ls.setIfInBounds j true) (a.put oj.dst (.pointer (some ⟨w'.heap.size, 0, none⟩))) (w'.alloc o)) : Steadily P md l R n (f + 1) ls a w :=
  steadily_pair hi hj hin hjn hr hwi hwj (fun w' hq K hK => by
    unfold Oper.wp
    rw [hx w' hq]
    refine (hc w' hq).mono fun e w'' he => ?_
    obtain ⟨v, rfl, h1, h2⟩ := he
    exact hK v w'' h1 h2) (fun w' hq K hK => by
    unfold Oper.wp
    rw [hy w' hq]
    exact hK _ _ ((Below.refl _ _).alloc (Nat.le_refl _) _) (h w' hq))

set_option maxHeartbeats 400000 in
theorem ref01_write (x : Int) (hx : 0 ≤ x) (hl : (limbs RB6 x).length ≤ 100000) (v : Value) (w : World) (i1 : IntSl w v (limbs RB6 x)) :
    Calls Tryz.prog 228 #[.agg #[.bool false, v]] w fun e w' => e = .returned (.string ⟨(Lib.itoa x).toArray⟩) ∧ Q w w' := by
  by_cases h0 : x = 0
  · subst h0
    have hz : (limbs RB6 0).length = 0 := by rw [limbs_zero (Int.le_refl _)]; rfl
    obtain ⟨a1, c1, rfl, -, -⟩ := i1
    rw [hz, itoa_zero]
    have B1 := Blk.new w [.bool false, .slice a1 0 c1] 251
    have x1 := B1.cell 1
    simp only [List.getElem?_cons_zero, List.getElem?_cons_succ] at x1
    have hq0 : Q w (w.alloc (.cells [.bool false, .slice a1 0 c1].toArray 251)) := (Below.refl _ w).alloc (Nat.le_refl _) _
    go_enter Tryz.func228, Tryz.ntmps228
    go_wp2
    go_ret
    exact ⟨rfl, hq0⟩
  · rw [itoa_nonneg hx]
    exact ref01_write_pos x (by omega) hl v w i1

set_option maxHeartbeats 400000 in
theorem ref01_result (x : Int) (hx : 0 ≤ x) (hm : lim x = false) (v : Value) (w : World) (i1 : IntSl w v (limbs RB6 x)) :
    Calls Tryz.prog 231 #[.agg #[.bool false, v]] w fun e w' => e = .returned (.tuple #[.string ⟨(Lib.itoa x).toArray⟩, .int .i64 0]) ∧ Q w w' := by
  have HW := Lib.hid (fun W (hq : Q w W) => ref01_write x hx (by have := len6_lim hm; omega) v W (i1.keep hq))
  have HC := Lib.hid (fun W => ref01_Check x hm W)
  have hq0 : Q w (w.alloc (.cells [.bool false, v].toArray 251)) := (Below.refl _ w).alloc (Nat.le_refl _) _
  obtain ⟨a1, c1, rfl, -, -⟩ := i1
  have B1 := Blk.new w [.bool false, .slice a1 (limbs RB6 x).length c1] 251
  have x0 := B1.cell 0
  have x1 := B1.cell 1
  simp only [List.getElem?_cons_zero, List.getElem?_cons_succ] at x0 x1
  generalize (limbs RB6 x).length = n at *
  generalize Lib.itoa x = s at *
  go_enter Tryz.func231, Tryz.ntmps231
  go_wp2_with fail
  refine (HW.out _ hq0).mono ?_
  rintro e w1 ⟨rfl, hq1⟩
  go_wp2_with fail
  refine (HC.out _).mono ?_
  rintro e w2 ⟨rfl, rfl⟩
  have hQ := Q.trans hq0 hq1
  go_wp2
  go_ret2
  exact ⟨rfl, hQ⟩

set_option maxRecDepth 100000 in
set_option maxHeartbeats 1000000 in
theorem ref01_add (x y : Int) (hx : 0 ≤ x) (hy : 0 ≤ y) (lx : (limbs RB6 x).length ≤ 50000) (ly : (limbs RB6 y).length ≤ 50000) (v1 v2 : Value) (w : World) (h1 : IntSl w v1 (limbs RB6 x)) (h2 : IntSl w v2 (limbs RB6 y)) :
    Calls Tryz.prog 230 #[.agg #[.bool false, v1], .agg #[.bool false, v2]] w fun e w' => ∃ v, e = .returned (.agg #[.bool false, v]) ∧ IntSl w' v (limbs RB6 (x + y)) ∧ Q w w' := by
  have I1 := Lib.hid h1
  have I2 := Lib.hid h2
  obtain ⟨a1, c1, rfl, -, -⟩ := h1
  obtain ⟨a2, c2, rfl, -, -⟩ := h2
  go_enter Tryz.func230, Tryz.ntmps230
  go_wp2_with fail
  obtain ⟨W0, hW0⟩ : ∃ W0, ((w.alloc (.cells [.bool false, .slice a1 (limbs RB6 x).length c1].toArray 251)).alloc (.cells [.bool false, .slice a2 (limbs RB6 y).length c2].toArray 251)).alloc (.cells [.bool false, .slice none 0 0].toArray 251) = W0 := ⟨_, rfl⟩
  have hq0 : Q w W0 := by rw [← hW0]; exact (((Below.refl _ w).alloc (Nat.le_refl _) _).alloc (by simp) _).alloc (by simp; omega) _
  have B1 : Blk W0 w.heap.size [.bool false, .slice a1 (limbs RB6 x).length c1] 251 := by
    rw [← hW0]; exact ((Blk.new w _ _).alloc _).alloc _
  have B2 : Blk W0 (w.heap.size + 1) [.bool false, .slice a2 (limbs RB6 y).length c2] 251 := by
    have := (Blk.new (w.alloc (.cells [.bool false, .slice a1 (limbs RB6 x).length c1].toArray 251)) [.bool false, .slice a2 (limbs RB6 y).length c2] 251).alloc (.cells [.bool false, .slice none 0 0].toArray 251)
    rw [World.size_alloc, hW0] at this; exact this
  have B3 : Blk W0 (w.heap.size + 1 + 1) [.bool false, .slice none 0 0] 251 := by
    have := Blk.new ((w.alloc (.cells [.bool false, .slice a1 (limbs RB6 x).length c1].toArray 251)).alloc (.cells [.bool false, .slice a2 (limbs RB6 y).length c2].toArray 251)) [.bool false, .slice none 0 0] 251
    rw [World.size_alloc, World.size_alloc, hW0] at this; exact this
  rw [hW0]
  have d0 := B1.drew.cell 0
  have d1 := B1.drew.cell 1
  have d2 := B2.drew.cell 1
  simp only [List.getElem?_cons_zero, List.getElem?_cons_succ] at d0 d1 d2
  have HC : Hid (∀ W, Q W0 W → Calls Tryz.prog 282 #[.slice a1 (limbs RB6 x).length c1, .slice a2 (limbs RB6 y).length c2] W fun e w' => ∃ v', e = .returned v' ∧ IntSl w' v' (limbs RB6 (x + y)) ∧ Q W w') := Lib.hid (fun W hW => by
    refine (ref01_plus (limbs RB6 x) (limbs RB6 y) (limbs_dig (by decide) x) (limbs_dig (by decide) y) (by omega) (by omega) _ _ W (I1.out.keep (Q.trans hq0 hW)) (I2.out.keep (Q.trans hq0 hW))).mono ?_
    rintro e w' ⟨v', rfl, hb, hq⟩
    rw [lval_limbs (by decide) x hx, lval_limbs (by decide) y hy] at hb
    exact ⟨v', rfl, hb.sl, hq⟩)
  clear hW0
  refine wp_steadily 8 rfl (by kernel_rfl) rfl ?_
  refine steadily_value (i := 0) (v := ?_) rfl rfl (by kernel_rfl) (by kernel_rfl) (fun _ _ _ h => h) (by rfl) ?_ ?_
  rotate_left
  · (intro w' hq; go_simp; try with_reducible rfl)
  simp only [Act.put, List.setIfInBounds_toArray, List.set_cons_zero, List.set_cons_succ]
  refine steadily_value (i := 1) (v := ?_) rfl rfl (by kernel_rfl) (by kernel_rfl) (fun _ _ _ h => h) (by rfl) ?_ ?_
  rotate_left
  · (intro w' hq; have hc0 := qcell hq d0; go_simp; try with_reducible rfl)
  simp only [Act.put, List.setIfInBounds_toArray, List.set_cons_zero, List.set_cons_succ]
  refine steadily_value (i := 2) (v := ?_) rfl rfl (by kernel_rfl) (by kernel_rfl) (fun _ _ _ h => h) (by rfl) ?_ ?_
  rotate_left
  · (intro w' hq; go_simp; try with_reducible rfl)
  simp only [Act.put, List.setIfInBounds_toArray, List.set_cons_zero, List.set_cons_succ]
  refine steadily_value (i := 3) (v := ?_) rfl rfl (by kernel_rfl) (by kernel_rfl) (fun _ _ _ h => h) (by rfl) ?_ ?_
  rotate_left
  · (intro w' hq; have hc0 := qcell hq d1; go_simp; try with_reducible rfl)
  simp only [Act.put, List.setIfInBounds_toArray, List.set_cons_zero, List.set_cons_succ]
  refine steadily_value (i := 4) (v := ?_) rfl rfl (by kernel_rfl) (by kernel_rfl) (fun _ _ _ h => h) (by rfl) ?_ ?_
  rotate_left
  · (intro w' hq; go_simp; try with_reducible rfl)
  simp only [Act.put, List.setIfInBounds_toArray, List.set_cons_zero, List.set_cons_succ]
  refine steadily_value (i := 5) (v := ?_) rfl rfl (by kernel_rfl) (by kernel_rfl) (fun _ _ _ h => h) (by rfl) ?_ ?_
  rotate_left
  · (intro w' hq; have hc0 := qcell hq d2; go_simp; try with_reducible rfl)
  simp only [Act.put, List.setIfInBounds_toArray, List.set_cons_zero, List.set_cons_succ]
  refine steadily_only (i := 6) rfl rfl (by kernel_rfl) (by rfl) ?_ (fun w' hq => (HC.out w' (Below.trans (Below.drew (Q.refl W0)) hq)).mono ?_)
  · (intro w' hq; go_simp; try with_reducible rfl)
  rintro e w2 ⟨v', rfl, hs, hq2⟩
  have HS := Lib.hid hs
  obtain ⟨a3, c3, rfl, -, -⟩ := hs
  refine ⟨_, rfl, hq2, ?_⟩
  simp only [Act.put, List.setIfInBounds_toArray, List.set_cons_zero, List.set_cons_succ]
  refine steadily_value (i := 7) (v := ?_) rfl rfl (by kernel_rfl) (by kernel_rfl) (fun _ _ _ h => h) (by rfl) ?_ ?_
  rotate_left
  · (intro w' hq; go_simp; try with_reducible rfl)
  simp only [Act.put, List.setIfInBounds_toArray, List.set_cons_zero, List.set_cons_succ]
  refine steadily_done (by kernel_rfl) (fun w3 hq3 => ?_)
  simp only [List.drop_succ_cons, List.drop_zero]
  have hqq : Q W0 w3 := Q.trans (Q.trans (Below.trans (Below.drew (Q.refl W0)) hq) hq2) hq3
  have B3' := B3.keep hqq B3.lt
  have l3 := B3'.lt
  have x0 := B3'.cell 0
  have x1 := B3'.cell 1
  have f0 := B3'.frozen 0
  have f1 := B3'.frozen 1
  simp only [List.getElem?_cons_zero, List.getElem?_cons_succ] at x0 x1
  have B4 := (B3'.set 0 (.bool false)).set 1 (.slice a3 (limbs RB6 (x + y)).length c3)
  have hqw : Q w ((w3.setCell ⟨w.heap.size + 1 + 1, 0, none⟩ (.bool false)).setCell ⟨w.heap.size + 1 + 1, 1, none⟩ (.slice a3 (limbs RB6 (x + y)).length c3)) :=
    ((Q.trans hq0 hqq).setCell (p := ⟨w.heap.size + 1 + 1, 0, none⟩) (by simp; omega) _).setCell (p := ⟨w.heap.size + 1 + 1, 1, none⟩) (by simp; omega) _
  go_wp2
  refine bodyPost_ret (ret_big _ _ (w.heap.size + 1 + 1) _ _ 4 _ rfl rfl (B4.cell 0) (B4.cell 1)) rfl ⟨_, rfl, ?_, hqw⟩
  exact ((HS.out.keep hq3).beside B3' 0 _).beside (B3'.set 0 (.bool false)) 1 _

set_option maxRecDepth 100000 in
set_option maxHeartbeats 1000000 in
theorem ref01_mul (m : Bool) (x y : Int) (hx : 0 ≤ x) (hy : 0 ≤ y) (lx : (limbs RB6 x).length ≤ 50000) (ly : (limbs RB6 y).length ≤ 50000) (v1 v2 : Value) (w : World) (h1 : IntSl w v1 (limbs RB6 x)) (h2 : IntSl w v2 (limbs RB6 y)) :
    Calls Tryz.prog 283 #[.agg #[.bool m, v1], .agg #[.bool m, v2]] w fun e w' => ∃ v, e = .returned (.agg #[.bool false, v]) ∧ IntSl w' v (limbs RB6 (x * y)) ∧ Q w w' := by
  have I1 := Lib.hid h1
  have I2 := Lib.hid h2
  obtain ⟨a1, c1, rfl, -, -⟩ := h1
  obtain ⟨a2, c2, rfl, -, -⟩ := h2
  have hmm : (m != m) = false := by simp
  go_enter Tryz.func283, Tryz.ntmps283
  go_wp2_with fail
  obtain ⟨W0, hW0⟩ : ∃ W0, ((w.alloc (.cells [.bool m, .slice a1 (limbs RB6 x).length c1].toArray 251)).alloc (.cells [.bool m, .slice a2 (limbs RB6 y).length c2].toArray 251)).alloc (.cells [.bool false, .slice none 0 0].toArray 251) = W0 := ⟨_, rfl⟩
  have hq0 : Q w W0 := by rw [← hW0]; exact (((Below.refl _ w).alloc (Nat.le_refl _) _).alloc (by simp) _).alloc (by simp; omega) _
  have B1 : Blk W0 w.heap.size [.bool m, .slice a1 (limbs RB6 x).length c1] 251 := by
    rw [← hW0]; exact ((Blk.new w _ _).alloc _).alloc _
  have B2 : Blk W0 (w.heap.size + 1) [.bool m, .slice a2 (limbs RB6 y).length c2] 251 := by
    have := (Blk.new (w.alloc (.cells [.bool m, .slice a1 (limbs RB6 x).length c1].toArray 251)) [.bool m, .slice a2 (limbs RB6 y).length c2] 251).alloc (.cells [.bool false, .slice none 0 0].toArray 251)
    rw [World.size_alloc, hW0] at this; exact this
  have B3 : Blk W0 (w.heap.size + 1 + 1) [.bool false, .slice none 0 0] 251 := by
    have := Blk.new ((w.alloc (.cells [.bool m, .slice a1 (limbs RB6 x).length c1].toArray 251)).alloc (.cells [.bool m, .slice a2 (limbs RB6 y).length c2].toArray 251)) [.bool false, .slice none 0 0] 251
    rw [World.size_alloc, World.size_alloc, hW0] at this; exact this
  rw [hW0]
  have d0 := B1.drew.cell 0
  have d1 := B1.drew.cell 1
  have e0 := B2.drew.cell 0
  have e1 := B2.drew.cell 1
  simp only [List.getElem?_cons_zero, List.getElem?_cons_succ] at d0 d1 e0 e1
  have HC : Hid (∀ W, Q W0 W → Calls Tryz.prog 280 #[.slice a1 (limbs RB6 x).length c1, .slice a2 (limbs RB6 y).length c2] W fun e w' => ∃ v', e = .returned v' ∧ IntSl w' v' (limbs RB6 (x * y)) ∧ Q W w') := Lib.hid (fun W hW => by
    refine (ref01_times (limbs RB6 x) (limbs RB6 y) (limbs_dig (by decide) x) (limbs_dig (by decide) y) (by omega) (by omega) _ _ W (I1.out.keep (Q.trans hq0 hW)) (I2.out.keep (Q.trans hq0 hW))).mono ?_
    rintro e w' ⟨v', rfl, hb, hq⟩
    rw [lval_limbs (by decide) x hx, lval_limbs (by decide) y hy] at hb
    exact ⟨v', rfl, hb.sl, hq⟩)
  have hways0 : ∀ ln, (limbs RB6 (x * y)).length = ln → ((ln : Int) == 0) = true ∨ ((ln : Int) == 0) = false := fun ln _ => by cases ((ln : Int) == 0) <;> simp
  clear hW0
  refine wp_steadily 12 rfl (by kernel_rfl) rfl ?_
  refine steadily_value (i := 0) (v := ?_) rfl rfl (by kernel_rfl) (by kernel_rfl) (fun _ _ _ h => h) (by rfl) ?_ ?_
  rotate_left
  · (intro w' hq; go_simp; try with_reducible rfl)
  simp only [Act.put, List.setIfInBounds_toArray, List.set_cons_zero, List.set_cons_succ]
  refine steadily_value (i := 1) (v := ?_) rfl rfl (by kernel_rfl) (by kernel_rfl) (fun _ _ _ h => h) (by rfl) ?_ ?_
  rotate_left
  · (intro w' hq; have hc0 := qcell hq d0; go_simp; try with_reducible rfl)
  simp only [Act.put, List.setIfInBounds_toArray, List.set_cons_zero, List.set_cons_succ]
  refine steadily_value (i := 2) (v := ?_) rfl rfl (by kernel_rfl) (by kernel_rfl) (fun _ _ _ h => h) (by rfl) ?_ ?_
  rotate_left
  · (intro w' hq; go_simp; try with_reducible rfl)
  simp only [Act.put, List.setIfInBounds_toArray, List.set_cons_zero, List.set_cons_succ]
  refine steadily_value (i := 3) (v := ?_) rfl rfl (by kernel_rfl) (by kernel_rfl) (fun _ _ _ h => h) (by rfl) ?_ ?_
  rotate_left
  · (intro w' hq; have hc0 := qcell hq e0; go_simp; try with_reducible rfl)
  simp only [Act.put, List.setIfInBounds_toArray, List.set_cons_zero, List.set_cons_succ]
  refine steadily_value (i := 4) (v := ?_) rfl rfl (by kernel_rfl) (by kernel_rfl) (fun _ _ _ h => h) (by rfl) ?_ ?_
  rotate_left
  · (intro w' hq; go_simp; try with_reducible rfl)
  simp only [Act.put, List.setIfInBounds_toArray, List.set_cons_zero, List.set_cons_succ]
  refine steadily_value (i := 5) (v := ?_) rfl rfl (by kernel_rfl) (by kernel_rfl) (fun _ _ _ h => h) (by rfl) ?_ ?_
  rotate_left
  · (intro w' hq; go_simp; try with_reducible rfl)
  simp only [Act.put, List.setIfInBounds_toArray, List.set_cons_zero, List.set_cons_succ]
  refine steadily_value (i := 6) (v := ?_) rfl rfl (by kernel_rfl) (by kernel_rfl) (fun _ _ _ h => h) (by rfl) ?_ ?_
  rotate_left
  · (intro w' hq; have hc0 := qcell hq d1; go_simp; try with_reducible rfl)
  simp only [Act.put, List.setIfInBounds_toArray, List.set_cons_zero, List.set_cons_succ]
  refine steadily_value (i := 7) (v := ?_) rfl rfl (by kernel_rfl) (by kernel_rfl) (fun _ _ _ h => h) (by rfl) ?_ ?_
  rotate_left
  · (intro w' hq; go_simp; try with_reducible rfl)
  simp only [Act.put, List.setIfInBounds_toArray, List.set_cons_zero, List.set_cons_succ]
  refine steadily_value (i := 8) (v := ?_) rfl rfl (by kernel_rfl) (by kernel_rfl) (fun _ _ _ h => h) (by rfl) ?_ ?_
  rotate_left
  · (intro w' hq; have hc0 := qcell hq e1; go_simp; try with_reducible rfl)
  simp only [Act.put, List.setIfInBounds_toArray, List.set_cons_zero, List.set_cons_succ]
  refine steadily_call_alloc (i := 9) (j := 11) (.cells #[.bool false, .slice none 0 0] 251) rfl rfl rfl rfl (by kernel_rfl) (by rfl) (by rfl) ?_ ?_ (fun w' hq => (HC.out w' (Below.trans (Below.drew (Q.refl W0)) hq)).mono ?_) (fun w' hq => ?_)
  · (intro w' hq; go_simp; try with_reducible rfl)
  · (intro w' hq; go_simp; try with_reducible rfl)
  · rintro e w2 ⟨v', rfl, hs, hq2⟩
    have HS := Lib.hid hs
    obtain ⟨a3, c3, rfl, -, -⟩ := hs
    refine ⟨_, rfl, hq2, ?_⟩
    simp only [Act.put, List.setIfInBounds_toArray, List.set_cons_zero, List.set_cons_succ]
    refine steadily_value (i := 10) (v := ?_) rfl rfl (by kernel_rfl) (by kernel_rfl) (fun _ _ _ h => h) (by rfl) ?_ ?_
    rotate_left
    · (intro w' hq; go_simp; try with_reducible rfl)
    simp only [Act.put, List.setIfInBounds_toArray, List.set_cons_zero, List.set_cons_succ]
    refine steadily_alloc (i := 11) (.cells #[.bool false, .slice none 0 0] 251) rfl rfl (by kernel_rfl) (by rfl) ?_ (fun w1 hq1 => ?_)
    · (intro w' hq; go_simp; try with_reducible rfl)
    simp only [Act.put, List.setIfInBounds_toArray, List.set_cons_zero, List.set_cons_succ]
    refine steadily_done (by kernel_rfl) (fun W4 hq4 => ?_)
    simp only [List.drop_succ_cons, List.drop_zero]
    have hq01 : Q W0 w1 := Q.trans (Q.trans (Below.trans (Below.drew (Q.refl W0)) hq) hq2) hq1
    have hqq : Q W0 W4 := Q.trans (hq01.alloc hq01.size _) hq4
    have BX := (Blk.new w1 [.bool false, .slice none 0 0] 251).keep hq4 (by simp)
    have HS4 := Lib.hid ((HS.out.keep hq1).keep (Below.trans ((Below.refl w1.heap.size w1).alloc (Nat.le_refl _) _) (hq4.mono (alloc_le _ _))))
    have hbs : W0.heap.size ≤ w1.heap.size := hq01.size
    have hB3l := B3.lt
    generalize w1.heap.size = bx at *
    obtain ⟨ln, hln⟩ : ∃ ln, (limbs RB6 (x * y)).length = ln := ⟨_, rfl⟩
    rw [hln] at HS4 ⊢
    have hways := hways0 ln hln
    clear hln hq4 hq1 hq01 HS hq2 hq
    have hQb : Q w W4 := Q.trans hq0 hqq
    have B3' := B3.keep hqq B3.lt
    have l3 := B3'.lt
    have x0 := BX.cell 0
    have x1 := BX.cell 1
    have f0 := BX.frozen 0
    have f1 := BX.frozen 1
    simp only [List.getElem?_cons_zero, List.getElem?_cons_succ] at x0 x1
    have hbxq : w.heap.size + 1 + 1 < bx := by omega
    have BX2 := (BX.set 0 (.bool false)).set 1 (.slice a3 ln c3)
    have B32 := (B3'.setOther (b' := bx) (by omega) 0 (.bool false)).setOther (b' := bx) (by omega) 1 (.slice a3 ln c3)
    have HS2 := (HS4.out.beside BX 0 (.bool false)).beside (BX.set 0 (.bool false)) 1 (.slice a3 ln c3)
    have hQ2 : Q w ((W4.setCell ⟨bx, 0, none⟩ (.bool false)).setCell ⟨bx, 1, none⟩ (.slice a3 ln c3)) := (hQb.setCell (p := ⟨bx, 0, none⟩) (by simp; omega) _).setCell (p := ⟨bx, 1, none⟩) (by simp; omega) _
    generalize hW5 : (W4.setCell ⟨bx, 0, none⟩ (.bool false)).setCell ⟨bx, 1, none⟩ (.slice a3 ln c3) = W5 at *
    have y0 := BX2.cell 0
    have y1 := BX2.cell 1
    have g0 := BX2.frozen 0
    have k0 := B32.frozen 0
    have k1 := B32.frozen 1
    have z0 := B32.cell 0
    have z1 := B32.cell 1
    simp only [List.set_cons_zero, List.set_cons_succ, List.getElem?_cons_zero, List.getElem?_cons_succ] at y0 y1 z0 z1
    rcases hways with hz | hz
    · have B33 := B32.setOther (b' := bx) (by omega) 0 (.bool false)
      have m0 := B33.frozen 0
      have m1 := B33.frozen 1
      have n0 := B33.cell 0
      have n1 := B33.cell 1
      have BX3 := BX2.set 0 (.bool false)
      have p0 := BX3.cell 0
      have p1 := BX3.cell 1
      simp only [List.set_cons_zero, List.set_cons_succ, List.getElem?_cons_zero, List.getElem?_cons_succ] at n0 n1 p0 p1
      have F := (B33.set 0 (.bool false)).set 1 (.slice a3 ln c3)
      have HF := Lib.hid (((HS2.beside BX2 0 (.bool false)).beside B33 0 (.bool false)).beside (B33.set 0 (.bool false)) 1 (.slice a3 ln c3))
      have hQ3 : Q w (((W5.setCell ⟨bx, 0, none⟩ (.bool false)).setCell ⟨w.heap.size + 1 + 1, 0, none⟩ (.bool false)).setCell ⟨w.heap.size + 1 + 1, 1, none⟩ (.slice a3 ln c3)) := ((hQ2.setCell (p := ⟨bx, 0, none⟩) (by simp; omega) _).setCell (p := ⟨w.heap.size + 1 + 1, 0, none⟩) (by simp; omega) _).setCell (p := ⟨w.heap.size + 1 + 1, 1, none⟩) (by simp; omega) _
      clear HS2
      go_wp2
      exact bodyPost_ret (ret_big _ _ (w.heap.size + 1 + 1) _ _ 4 _ rfl rfl (F.cell 0) (F.cell 1)) rfl ⟨_, rfl, HF.out, hQ3⟩
    · have F := (B32.set 0 (.bool false)).set 1 (.slice a3 ln c3)
      have HF := Lib.hid ((HS2.beside B32 0 (.bool false)).beside (B32.set 0 (.bool false)) 1 (.slice a3 ln c3))
      have hQ3 : Q w ((W5.setCell ⟨w.heap.size + 1 + 1, 0, none⟩ (.bool false)).setCell ⟨w.heap.size + 1 + 1, 1, none⟩ (.slice a3 ln c3)) := (hQ2.setCell (p := ⟨w.heap.size + 1 + 1, 0, none⟩) (by simp; omega) _).setCell (p := ⟨w.heap.size + 1 + 1, 1, none⟩) (by simp; omega) _
      clear HS2
      go_wp2
      exact bodyPost_ret (ret_big _ _ (w.heap.size + 1 + 1) _ _ 4 _ rfl rfl (F.cell 0) (F.cell 1)) rfl ⟨_, rfl, HF.out, hQ3⟩
  · simp only [Act.put, List.setIfInBounds_toArray, List.set_cons_zero, List.set_cons_succ]
    have hq0w : Q W0 w' := Below.trans (Below.drew (Q.refl W0)) hq
    have hqa : Q W0 (w'.alloc (.cells #[.bool false, .slice none 0 0] 251)) := hq0w.alloc hq0w.size _
    have BX0 := Blk.new w' [.bool false, .slice none 0 0] 251
    refine steadily_only (i := 9) rfl rfl (by kernel_rfl) (by rfl) ?_ (fun w8 hq8 => (HC.out w8 (Q.trans hqa hq8)).mono ?_)
    · (intro w' hq; go_simp; try with_reducible rfl)
    rintro e w2 ⟨v', rfl, hs, hq2⟩
    have HS := Lib.hid hs
    obtain ⟨a3, c3, rfl, -, -⟩ := hs
    refine ⟨_, rfl, hq2, ?_⟩
    simp only [Act.put, List.setIfInBounds_toArray, List.set_cons_zero, List.set_cons_succ]
    refine steadily_value (i := 10) (v := ?_) rfl rfl (by kernel_rfl) (by kernel_rfl) (fun _ _ _ h => h) (by rfl) ?_ ?_
    rotate_left
    · (intro w' hq; go_simp; try with_reducible rfl)
    simp only [Act.put, List.setIfInBounds_toArray, List.set_cons_zero, List.set_cons_succ]
    refine steadily_done (by kernel_rfl) (fun W4 hq4 => ?_)
    simp only [List.drop_succ_cons, List.drop_zero]
    have hq24 : Q (w'.alloc (.cells #[.bool false, .slice none 0 0] 251)) W4 := Q.trans (Q.trans hq8 hq2) hq4
    have hqq : Q W0 W4 := Q.trans hqa hq24
    have BX := BX0.keep hq24 BX0.lt
    have HS4 := Lib.hid (HS.out.keep hq4)
    have hbs : W0.heap.size ≤ w'.heap.size := hq0w.size
    have hB3l := B3.lt
    clear hq24 hqa BX0 hq8 hq2 hq4 hq0w
    generalize w'.heap.size = bx at *
    obtain ⟨ln, hln⟩ : ∃ ln, (limbs RB6 (x * y)).length = ln := ⟨_, rfl⟩
    rw [hln] at HS4 ⊢
    have hways := hways0 ln hln
    clear hln HS hq
    have hQb : Q w W4 := Q.trans hq0 hqq
    have B3' := B3.keep hqq B3.lt
    have l3 := B3'.lt
    have x0 := BX.cell 0
    have x1 := BX.cell 1
    have f0 := BX.frozen 0
    have f1 := BX.frozen 1
    simp only [List.getElem?_cons_zero, List.getElem?_cons_succ] at x0 x1
    have hbxq : w.heap.size + 1 + 1 < bx := by omega
    have BX2 := (BX.set 0 (.bool false)).set 1 (.slice a3 ln c3)
    have B32 := (B3'.setOther (b' := bx) (by omega) 0 (.bool false)).setOther (b' := bx) (by omega) 1 (.slice a3 ln c3)
    have HS2 := (HS4.out.beside BX 0 (.bool false)).beside (BX.set 0 (.bool false)) 1 (.slice a3 ln c3)
    have hQ2 : Q w ((W4.setCell ⟨bx, 0, none⟩ (.bool false)).setCell ⟨bx, 1, none⟩ (.slice a3 ln c3)) := (hQb.setCell (p := ⟨bx, 0, none⟩) (by simp; omega) _).setCell (p := ⟨bx, 1, none⟩) (by simp; omega) _
    generalize hW5 : (W4.setCell ⟨bx, 0, none⟩ (.bool false)).setCell ⟨bx, 1, none⟩ (.slice a3 ln c3) = W5 at *
    have y0 := BX2.cell 0
    have y1 := BX2.cell 1
    have g0 := BX2.frozen 0
    have k0 := B32.frozen 0
    have k1 := B32.frozen 1
    have z0 := B32.cell 0
    have z1 := B32.cell 1
    simp only [List.set_cons_zero, List.set_cons_succ, List.getElem?_cons_zero, List.getElem?_cons_succ] at y0 y1 z0 z1
    rcases hways with hz | hz
    · have B33 := B32.setOther (b' := bx) (by omega) 0 (.bool false)
      have m0 := B33.frozen 0
      have m1 := B33.frozen 1
      have n0 := B33.cell 0
      have n1 := B33.cell 1
      have BX3 := BX2.set 0 (.bool false)
      have p0 := BX3.cell 0
      have p1 := BX3.cell 1
      simp only [List.set_cons_zero, List.set_cons_succ, List.getElem?_cons_zero, List.getElem?_cons_succ] at n0 n1 p0 p1
      have F := (B33.set 0 (.bool false)).set 1 (.slice a3 ln c3)
      have HF := Lib.hid (((HS2.beside BX2 0 (.bool false)).beside B33 0 (.bool false)).beside (B33.set 0 (.bool false)) 1 (.slice a3 ln c3))
      have hQ3 : Q w (((W5.setCell ⟨bx, 0, none⟩ (.bool false)).setCell ⟨w.heap.size + 1 + 1, 0, none⟩ (.bool false)).setCell ⟨w.heap.size + 1 + 1, 1, none⟩ (.slice a3 ln c3)) := ((hQ2.setCell (p := ⟨bx, 0, none⟩) (by simp; omega) _).setCell (p := ⟨w.heap.size + 1 + 1, 0, none⟩) (by simp; omega) _).setCell (p := ⟨w.heap.size + 1 + 1, 1, none⟩) (by simp; omega) _
      clear HS2
      go_wp2
      exact bodyPost_ret (ret_big _ _ (w.heap.size + 1 + 1) _ _ 4 _ rfl rfl (F.cell 0) (F.cell 1)) rfl ⟨_, rfl, HF.out, hQ3⟩
    · have F := (B32.set 0 (.bool false)).set 1 (.slice a3 ln c3)
      have HF := Lib.hid ((HS2.beside B32 0 (.bool false)).beside (B32.set 0 (.bool false)) 1 (.slice a3 ln c3))
      have hQ3 : Q w ((W5.setCell ⟨w.heap.size + 1 + 1, 0, none⟩ (.bool false)).setCell ⟨w.heap.size + 1 + 1, 1, none⟩ (.slice a3 ln c3)) := (hQ2.setCell (p := ⟨w.heap.size + 1 + 1, 0, none⟩) (by simp; omega) _).setCell (p := ⟨w.heap.size + 1 + 1, 1, none⟩) (by simp; omega) _
      clear HS2
      go_wp2
      exact bodyPost_ret (ret_big _ _ (w.heap.size + 1 + 1) _ _ 4 _ rfl rfl (F.cell 0) (F.cell 1)) rfl ⟨_, rfl, HF.out, hQ3⟩

end Go.Proofs.YtgkikkabmcihhaaGreatDoor

namespace Go.Proofs.YtgkikkabmcihhaaGreatDoor
open Go.RowKit Kp
open Go.Lib (decDigits)

theorem ref01_read_itoa (x : Int) (hx : lim x = false) (w : World) :
    Calls Tryz.prog 226 #[.string ⟨(Lib.itoa x).toArray⟩] w fun e w' => ∃ v, e = .returned (.agg #[.bool (decide (x < 0)), v]) ∧ IntSl w' v (limbs RB6 (x.natAbs : Int)) ∧ Q w w' := by
  have hne : 0 < (decDigits x.natAbs).length := List.length_pos_iff.2 (decDigits_ne _)
  have hlen : (decDigits x.natAbs).length ≤ 100000 := by
    have := itoa_abs_len x
    have := itoa_len x hx
    omega
  have h := ref01_read (Lib.itoa x) (decDigits x.natAbs) (decide (x < 0)) (by
    by_cases h : x < 0
    · exact .inl ⟨by simpa using h, itoa_neg h⟩
    · refine .inr ⟨by simpa using h, by rw [itoa_nonneg (by omega), show x.toNat = x.natAbs by omega], ?_⟩
      rw [itoa_nonneg (by omega)]
      intro e
      have hh := head_at0 (s := decDigits x.toNat) (decDigits_ne _)
      rw [e] at hh
      exact decDigits_head_ne_minus _ hh) (decDigits_dig _) hne hlen w
  rw [nval_decDigits] at h
  exact h

theorem abs_lt_len (x : Int) : x.natAbs < 10 ^ (Lib.itoa x).length := Nat.lt_of_lt_of_le (lt_pow_dec x.natAbs) (Nat.pow_le_pow_right (by decide) (itoa_abs_len x))
theorem abs_lt17 {x : Int} (h : (Lib.itoa x).length ≤ 17) : x.natAbs < 100000000000000000 := by
  have h1 := abs_lt_len x
  have h2 : 10 ^ (Lib.itoa x).length ≤ 10 ^ 17 := Nat.pow_le_pow_right (by decide) h
  have e : (10 : Nat) ^ 17 = 100000000000000000 := by decide
  omega

set_option maxHeartbeats 1000000 in
theorem ref01_Add (x y : Int) (hx : 0 ≤ x) (hy : 0 ≤ y) (lx : lim x = false) (ly : lim y = false) (lz : lim (x + y) = false) (w : World) (hE : Env w) :
    Calls Tryz.prog 229 #[.string ⟨(Lib.itoa x).toArray⟩, .string ⟨(Lib.itoa y).toArray⟩] w fun e w' => e = .returned (.tuple #[.string ⟨(Lib.itoa (x + y)).toArray⟩, .int .i64 0]) ∧ Q w w' := by
  have HB := Lib.hid (fun w => ref01_both x y lx ly w)
  by_cases hs : (Lib.itoa x).length ≤ 17 ∧ (Lib.itoa y).length ≤ 17
  · have HT := Lib.hid (fun w => ref01_two x y hs.1 hs.2 w)
    have bx := abs_lt17 hs.1
    have bz := abs_lt17 hs.2
    have hw1 := Go.IntWalk.i64_in (x + y) (by omega)
    have HI := Lib.hid (lib_Itoa (x + y) (by omega) (by omega) w hE)
    clear hs
    generalize Lib.itoa x = X at *
    generalize Lib.itoa y = Y at *
    go_enter Tryz.func229, Tryz.ntmps229
    go_wp2_with fail
    refine (HB.out _).mono ?_
    rintro e w1 ⟨rfl, rfl⟩
    go_wp2_with fail
    refine (HT.out _).mono ?_
    rintro e w2 ⟨rfl, rfl⟩
    go_wp2_with fail
    refine HI.out.mono ?_
    rintro e w3 ⟨rfl, hq⟩
    go_wp2
    go_ret2
    exact ⟨rfl, hq⟩
  · have HT := Lib.hid (fun w => ref01_two_long x y lx ly (by omega) w)
    have HR1 := Lib.hid (ref01_read_itoa x lx w)
    have HR2 := Lib.hid (fun w => ref01_read_itoa y ly w)
    have h1 : decide (x < 0) = false := by simpa using hx
    have h2 : decide (y < 0) = false := by simpa using hy
    rw [h1, show ((x.natAbs : Nat) : Int) = x by omega] at HR1
    rw [h2, show ((y.natAbs : Nat) : Int) = y by omega] at HR2
    have HA := Lib.hid (fun v1 v2 w i1 i2 => ref01_add x y hx hy (by have := len6_lim lx; omega) (by have := len6_lim ly; omega) v1 v2 w i1 i2)
    have HZ := Lib.hid (fun v w i => ref01_result (x + y) (by omega) lz v w i)
    clear hs
    generalize Lib.itoa x = X at *
    generalize Lib.itoa y = Y at *
    go_enter Tryz.func229, Tryz.ntmps229
    go_wp2_with fail
    refine (HB.out _).mono ?_
    rintro e w1 ⟨rfl, rfl⟩
    go_wp2_with fail
    refine (HT.out _).mono ?_
    rintro e w2 ⟨⟨a, b, rfl⟩, rfl⟩
    go_wp2_with fail
    refine HR1.out.mono ?_
    rintro e w3 ⟨v1, rfl, hs1, hq3⟩
    have S1 := Lib.hid hs1
    obtain ⟨a1, c1, rfl, -, -⟩ := hs1
    go_wp2_with fail
    refine (HR2.out _).mono ?_
    rintro e w4 ⟨v2, rfl, hs2, hq4⟩
    have S2 := Lib.hid hs2
    obtain ⟨a2, c2, rfl, -, -⟩ := hs2
    go_wp2_with fail
    refine (HA.out _ _ _ (S1.out.keep hq4) S2.out).mono ?_
    rintro e w5 ⟨v3, rfl, hs3, hq5⟩
    have S3 := Lib.hid hs3
    obtain ⟨a3, c3, rfl, -, -⟩ := hs3
    go_wp2_with fail
    refine (HZ.out _ _ S3.out).mono ?_
    rintro e w6 ⟨rfl, hq6⟩
    have hQ := Q.trans (Q.trans (Q.trans hq3 hq4) hq5) hq6
    go_wp2
    go_ret2
    exact ⟨rfl, hQ⟩

theorem mul_lt18 {x y : Int} (h : (Lib.itoa x).length + (Lib.itoa y).length ≤ 18) : (x * y).natAbs < 1000000000000000000 := by
  have h1 := abs_lt_len x
  have h2 := abs_lt_len y
  have h3 : 10 ^ ((Lib.itoa x).length + (Lib.itoa y).length) ≤ 10 ^ 18 := Nat.pow_le_pow_right (by decide) h
  have e : (10 : Nat) ^ 18 = 1000000000000000000 := by decide
  rw [Int.natAbs_mul]
  rw [Nat.pow_add] at h3
  have h4 : x.natAbs * y.natAbs < 10 ^ (Lib.itoa x).length * 10 ^ (Lib.itoa y).length := Nat.mul_lt_mul'' h1 h2
  omega
theorem natAbs_mul_same {x y : Int} (h : x < 0 ↔ y < 0) : (x.natAbs : Int) * (y.natAbs : Int) = x * y ∧ 0 ≤ x * y := by
  by_cases hx : x < 0
  · have hy := h.1 hx
    rw [show ((x.natAbs : Nat) : Int) = -x by omega, show ((y.natAbs : Nat) : Int) = -y by omega, Int.neg_mul_neg]
    exact ⟨rfl, by rw [← Int.neg_mul_neg]; exact Int.mul_nonneg (by omega) (by omega)⟩
  · have hy : ¬ y < 0 := fun e => hx (h.2 e)
    rw [show ((x.natAbs : Nat) : Int) = x by omega, show ((y.natAbs : Nat) : Int) = y by omega]
    exact ⟨rfl, Int.mul_nonneg (by omega) (by omega)⟩

set_option maxHeartbeats 1000000 in
theorem ref01_Mul (x y : Int) (hxy : x < 0 ↔ y < 0) (lx : lim x = false) (ly : lim y = false) (lz : lim (x * y) = false) (w : World) (hE : Env w) :
    Calls Tryz.prog 232 #[.string ⟨(Lib.itoa x).toArray⟩, .string ⟨(Lib.itoa y).toArray⟩] w fun e w' => e = .returned (.tuple #[.string ⟨(Lib.itoa (x * y)).toArray⟩, .int .i64 0]) ∧ Q w w' := by
  have HB := Lib.hid (fun w => ref01_both x y lx ly w)
  have nx := itoa_len x lx
  have ny := itoa_len y ly
  by_cases hs : ((Lib.itoa x).length ≤ 17 ∧ (Lib.itoa y).length ≤ 17) ∧ (Lib.itoa x).length + (Lib.itoa y).length ≤ 18
  · obtain ⟨hs, h18⟩ := hs
    have HT := Lib.hid (fun w => ref01_two x y hs.1 hs.2 w)
    have bz := mul_lt18 h18
    have hw1 := Go.IntWalk.i64_in (x * y) (by omega)
    have HI := Lib.hid (lib_Itoa (x * y) (by omega) (by omega) w hE)
    have h19 : ((Lib.itoa x).length : Int) + ((Lib.itoa y).length : Int) ≤ 18 := by omega
    clear hs
    generalize Lib.itoa x = X at *
    generalize Lib.itoa y = Y at *
    go_enter Tryz.func232, Tryz.ntmps232
    go_wp2_with fail
    refine (HB.out _).mono ?_
    rintro e w1 ⟨rfl, rfl⟩
    go_wp2_with fail
    refine (HT.out _).mono ?_
    rintro e w2 ⟨rfl, rfl⟩
    go_wp2_with fail
    refine HI.out.mono ?_
    rintro e w3 ⟨rfl, hq⟩
    go_wp2
    go_ret2
    exact ⟨rfl, hq⟩
  · have HR1 := Lib.hid (ref01_read_itoa x lx w)
    have HR2 := Lib.hid (fun w => ref01_read_itoa y ly w)
    have h2 : decide (y < 0) = decide (x < 0) := by simp [hxy]
    rw [h2] at HR2
    have HA := Lib.hid (fun m v1 v2 w i1 i2 => ref01_mul m (x.natAbs : Int) (y.natAbs : Int) (by omega) (by omega) (by have := len6_lim (x := (x.natAbs : Int)) (lim_le lx (by omega)); omega) (by have := len6_lim (x := (y.natAbs : Int)) (lim_le ly (by omega)); omega) v1 v2 w i1 i2)
    rw [(natAbs_mul_same hxy).1] at HA
    have HZ := Lib.hid (fun v w i => ref01_result (x * y) (natAbs_mul_same hxy).2 lz v w i)
    have hT : Hid (∀ w, Calls Tryz.prog 225 #[.string ⟨(Lib.itoa x).toArray⟩, .string ⟨(Lib.itoa y).toArray⟩] w fun e w' => (∃ a b : Int, ∃ c : Bool, e = .returned (.tuple #[.int .i64 a, .int .i64 b, .bool c]) ∧ (c = true → (18 : Int) < ((Lib.itoa x).length : Int) + ((Lib.itoa y).length : Int))) ∧ w' = w) := Lib.hid (fun w => by
      by_cases h : (Lib.itoa x).length ≤ 17 ∧ (Lib.itoa y).length ≤ 17
      · refine (ref01_two x y h.1 h.2 w).mono ?_
        rintro e w' ⟨rfl, rfl⟩
        exact ⟨⟨_, _, true, rfl, fun _ => by omega⟩, rfl⟩
      · refine (ref01_two_long x y lx ly (by omega) w).mono ?_
        rintro e w' ⟨⟨a, b, rfl⟩, rfl⟩
        exact ⟨⟨_, _, false, rfl, fun e => by cases e⟩, rfl⟩)
    clear hs
    generalize decide (x < 0) = mi at *
    generalize Lib.itoa x = X at *
    generalize Lib.itoa y = Y at *
    go_enter Tryz.func232, Tryz.ntmps232
    go_wp2_with fail
    refine (HB.out _).mono ?_
    rintro e w1 ⟨rfl, rfl⟩
    go_wp2_with fail
    refine (hT.out _).mono ?_
    rintro e w2 ⟨⟨a, b, c, rfl, hc⟩, rfl⟩
    have hways : c = false ∨ (c = true ∧ ¬ ((X.length : Int) + (Y.length : Int) ≤ 18)) := by
      cases c
      · exact .inl rfl
      · exact .inr ⟨rfl, by have := hc rfl; omega⟩
    clear hc
    rcases hways with rfl | ⟨rfl, h18⟩
    all_goals
      go_wp2_with fail
      refine HR1.out.mono ?_
      rintro e w3 ⟨v1, rfl, hs1, hq3⟩
      have S1 := Lib.hid hs1
      obtain ⟨a1, c1, rfl, -, -⟩ := hs1
      go_wp2_with fail
      refine (HR2.out _).mono ?_
      rintro e w4 ⟨v2, rfl, hs2, hq4⟩
      have S2 := Lib.hid hs2
      obtain ⟨a2, c2, rfl, -, -⟩ := hs2
      go_wp2_with fail
      refine (HA.out _ _ _ _ (S1.out.keep hq4) S2.out).mono ?_
      rintro e w5 ⟨v3, rfl, hs3, hq5⟩
      have S3 := Lib.hid hs3
      obtain ⟨a3, c3, rfl, -, -⟩ := hs3
      go_wp2_with fail
      refine (HZ.out _ _ S3.out).mono ?_
      rintro e w6 ⟨rfl, hq6⟩
      have hQ := Q.trans (Q.trans (Q.trans hq3 hq4) hq5) hq6
      go_wp2
      go_ret2
      exact ⟨rfl, hQ⟩

end Go.Proofs.YtgkikkabmcihhaaGreatDoor

namespace Go.Proofs.YtgkikkabmcihhaaGreatDoor
open Go.RowKit Kp
open Go.Lib (decDigits)

/-- divide, whatever the length of the divisor. -/
theorem ref01_divide (x y : Int) (hx : 0 ≤ x) (hy : 0 < y) (lx : (limbs RB6 x).length ≤ 50000) (ly : (limbs RB6 y).length ≤ 50000) (v1 v2 : Value) (w : World) (i1 : IntSl w v1 (limbs RB6 x)) (i2 : IntSl w v2 (limbs RB6 y)) :
    Calls Tryz.prog 227 #[v1, v2] w fun e w' => ∃ q r, e = .returned (.tuple #[q, r]) ∧ IntSl w' q (limbs RB6 (x / y)) ∧ IntSl w' r (limbs RB6 (x % y)) ∧ Q w w' := by
  have ex := lval_limbs (B := RB6) (by decide) x hx
  obtain ⟨m, hm⟩ : ∃ m, (limbs RB6 y).length = m := ⟨_, rfl⟩
  cases m with
  | zero => have := (limbs6_len_zero (by omega)).1 hm; omega
  | succ m =>
    cases m with
    | succ m =>
      have h := ref01_divide_long (limbs RB6 x) y m (limbs_dig (by decide) x) hy hm (by omega) (by omega) v1 v2 w i1 i2
      rw [ex] at h
      exact h
    | zero =>
      have hl1 : limbs RB6 y = [y % RB6] := by
        rw [limbs_pos (by decide) hy] at hm ⊢
        simp only [List.length_cons] at hm
        rw [List.length_eq_zero_iff.1 (by omega : (limbs RB6 (y / RB6)).length = 0)]
      have hyB : y < RB6 := by
        have := limbs_len_ge (B := RB6) (by decide) y (by omega) 1 (by omega)
        rwa [Int.pow_one] at this
      have hye : y % RB6 = y := Int.emod_eq_of_lt (by omega) hyB
      rw [hye] at hl1
      rw [hl1] at i2
      have HS := Lib.hid (fun w i => ref01_short (limbs RB6 x) y (limbs_dig (by decide) x) hy hyB (by omega) v1 w i)
      rw [ex] at HS
      have I1 := Lib.hid i1
      obtain ⟨a1, c1, rfl, -, -⟩ := i1
      obtain ⟨a2, c2, rfl, -, k2⟩ := i2
      obtain ⟨b2, o2, rfl, hB⟩ := k2 (by simp)
      have hc := hB.2 0 (by simp)
      simp only [List.getD_cons_zero, Nat.add_zero, List.length_cons, List.length_nil, Nat.zero_add] at hc ⊢
      clear hl1 hm hye
      generalize (limbs RB6 x).length = n at *
      go_enter Tryz.func227, Tryz.ntmps227
      go_wp2_with fail
      refine (HS.out _ I1.out).mono ?_
      rintro e w1 ⟨q, r, rfl, h1, h2, hq⟩
      have H1 := Lib.hid h1
      have H2 := Lib.hid h2
      obtain ⟨a3, c3, rfl, -, -⟩ := h1
      obtain ⟨a4, c4, rfl, -, -⟩ := h2
      go_wp2
      go_ret2
      exact ⟨_, _, rfl, H1.out, H2.out, hq⟩

theorem two_blks (w : World) (z0 z1 y0 y1 : Value) (T : TypeId) : let W := (w.alloc (.cells [z0, z1].toArray T)).alloc (.cells [y0, y1].toArray T)
    Blk W w.heap.size [z0, z1] T ∧ Blk W (w.heap.size + 1) [y0, y1] T ∧ Q w W ∧ W.heap.size = w.heap.size + 2 := by
  refine ⟨(Blk.new w _ _).alloc _, ?_, ((Below.refl _ w).alloc (Nat.le_refl _) _).alloc (by simp) _, by simp⟩
  have := Blk.new (w.alloc (.cells [z0, z1].toArray T)) [y0, y1] T
  rwa [World.size_alloc] at this

set_option maxRecDepth 100000 in
set_option maxHeartbeats 2000000 in
theorem ref01_Divide (x y : Int) (hx : 0 ≤ x) (hy : 0 < y) (lx : lim x = false) (ly : lim y = false) (w : World) (hE : Env w) :
    Calls Tryz.prog 156 #[.string ⟨(Lib.itoa x).toArray⟩, .string ⟨(Lib.itoa y).toArray⟩] w fun e w' => e = .returned (.tuple #[.string ⟨(Lib.itoa (x / y)).toArray⟩, .string ⟨(Lib.itoa (x % y)).toArray⟩, .int .i64 0]) ∧ Q w w' := by
  have HB := Lib.hid (fun w => ref01_both x y lx ly w)
  have hy48 : (Lib.itoa y == [48]) = false := by
    rw [beq_eq_false_iff_ne, ← itoa_zero]; exact fun e => absurd (itoa_inj e) (by omega)
  have hq0 : 0 ≤ x / y := Int.ediv_nonneg hx (by omega)
  have hqx : x / y ≤ x := Int.ediv_le_self _ hx
  have hr0 : 0 ≤ x % y := Int.emod_nonneg _ (by omega)
  have hry : x % y < y := Int.emod_lt_of_pos _ hy
  have hyz : (y == 0) = false := by rw [beq_eq_false_iff_ne]; omega
  by_cases hs : (Lib.itoa x).length ≤ 17 ∧ (Lib.itoa y).length ≤ 17
  · have HT := Lib.hid (fun w => ref01_two x y hs.1 hs.2 w)
    have bx := abs_lt17 hs.1
    have bz := abs_lt17 hs.2
    have HI1 := Lib.hid (fun w hw => lib_Itoa (x / y) (by omega) (by omega) w hw)
    have HI2 := Lib.hid (fun w hw => lib_Itoa (x % y) (by omega) (by omega) w hw)
    have hr1 : decide (x % y < 0) = false := by simp; omega
    have hy1 : decide (y < 0) = false := by simp; omega
    have hx1 : x ≤ 1000000000000000000 := by omega
    clear hs bx bz
    generalize Lib.itoa x = X at *
    generalize Lib.itoa y = Y at *
    have hways : (x % y != 0) = true ∨ (x % y != 0) = false := by cases (x % y != 0) <;> simp
    go_enter Tryz.func156, Tryz.ntmps156
    go_wp2_with fail
    refine (HB.out _).mono ?_
    rintro e w1 ⟨rfl, rfl⟩
    go_wp2_with fail
    refine (HT.out _).mono ?_
    rintro e w2 ⟨rfl, rfl⟩
    go_wp2
    go_quiet (fail)
    have hqn : Q w2 (w2.drewN nq) := Below.drewN (Q.refl _) _
    rcases hways with hz | hz
    all_goals
      go_wp2_with fail
      refine (HI1.out _ (hE.q hqn)).mono ?_
      rintro e w3 ⟨rfl, hq3⟩
      go_wp2_with fail
      refine (HI2.out _ (hE.q (Q.trans hqn hq3))).mono ?_
      rintro e w4 ⟨rfl, hq4⟩
      have hQ := Q.trans (Q.trans hqn hq3) hq4
      go_wp2
      go_ret3
      exact ⟨rfl, hQ⟩
  · have HT := Lib.hid (fun w => ref01_two_long x y lx ly (by omega) w)
    have HR1 := Lib.hid (ref01_read_itoa x lx w)
    have HR2 := Lib.hid (fun w => ref01_read_itoa y ly w)
    have h1 : decide (x < 0) = false := by simpa using hx
    have h2 : decide (y < 0) = false := by simp; omega
    rw [h1, show ((x.natAbs : Nat) : Int) = x by omega] at HR1
    rw [h2, show ((y.natAbs : Nat) : Int) = y by omega] at HR2
    have HD := Lib.hid (fun v1 v2 w i1 i2 => ref01_divide x y hx hy (by have := len6_lim lx; omega) (by have := len6_lim ly; omega) v1 v2 w i1 i2)
    have HZ1 := Lib.hid (fun v w i => ref01_result (x / y) hq0 (lim_le lx (by omega)) v w i)
    have HZ2 := Lib.hid (fun v w i => ref01_write (x % y) hr0 (by have := len6_lim (x := x % y) (lim_le ly (by omega)); omega) v w i)
    have hways : (0 : Int) < ((limbs RB6 (x % y)).length : Int) ∨ ¬ (0 : Int) < ((limbs RB6 (x % y)).length : Int) := Classical.em _
    clear hs
    generalize Lib.itoa x = X at *
    generalize Lib.itoa y = Y at *
    go_enter Tryz.func156, Tryz.ntmps156
    go_wp2_with fail
    refine (HB.out _).mono ?_
    rintro e w1 ⟨rfl, rfl⟩
    go_wp2_with fail
    refine (HT.out _).mono ?_
    rintro e w2 ⟨⟨a, b, rfl⟩, rfl⟩
    go_wp2_with fail
    refine HR1.out.mono ?_
    rintro e w3 ⟨v1, rfl, hs1, hq3⟩
    have S1 := Lib.hid hs1
    obtain ⟨a1, c1, rfl, -, -⟩ := hs1
    generalize (limbs RB6 x).length = n1 at *
    go_wp2_with fail
    refine (HR2.out _).mono ?_
    rintro e w4 ⟨v2, rfl, hs2, hq4⟩
    have S2 := Lib.hid hs2
    obtain ⟨a2, c2, rfl, -, -⟩ := hs2
    generalize (limbs RB6 y).length = n2 at *
    obtain ⟨BX, BY, hqa, hsa⟩ := two_blks w4 (.bool false) (.slice a1 n1 c1) (.bool false) (.slice a2 n2 c2) 251
    go_wp2_with fail
    generalize hW5 : (w4.alloc (.cells [.bool false, .slice a1 n1 c1].toArray 251)).alloc (.cells [.bool false, .slice a2 n2 c2].toArray 251) = W5 at *
    have x0 := BX.cell 0
    refine (HD.out _ _ _ ((S1.out.keep hq4).keep hqa) (S2.out.keep hqa)).mono ?_
    rintro e w6 ⟨q, r, rfl, hs3, hs4, hq6⟩
    have S3 := Lib.hid hs3
    have S4 := Lib.hid hs4
    obtain ⟨a3, c3, rfl, -, -⟩ := hs3
    obtain ⟨a4, c4, rfl, -, -⟩ := hs4
    have CX := BX.keep hq6 BX.lt
    have CY := BY.keep hq6 BY.lt
    generalize (limbs RB6 (x / y)).length = n3 at *
    generalize (limbs RB6 (x % y)).length = n4 at *
    have d0 := CX.cell 0
    have e0 := CY.cell 0
    simp only [List.getElem?_cons_zero] at d0 e0
    obtain ⟨BU, BV, hqu, hsu⟩ := two_blks w6 (.bool false) (.slice a3 n3 c3) (.bool false) (.slice a4 n4 c4) 251
    have DX := (CX.alloc (.cells [.bool false, .slice a3 n3 c3].toArray 251)).alloc (.cells [.bool false, .slice a4 n4 c4].toArray 251)
    have DY := (CY.alloc (.cells [.bool false, .slice a3 n3 c3].toArray 251)).alloc (.cells [.bool false, .slice a4 n4 c4].toArray 251)
    have g0 := DX.cell 0
    have k0 := DY.cell 0
    have u0 := BU.cell 0
    have u1 := BU.cell 1
    have y0 := BV.cell 0
    have y1 := BV.cell 1
    simp only [List.getElem?_cons_zero, List.getElem?_cons_succ] at g0 k0 u0 u1 y0 y1
    rcases hways with hz | hz
    all_goals
      go_wp2_with fail
      refine (HZ1.out _ _ (S3.out.keep hqu)).mono ?_
      rintro e w7 ⟨rfl, hq7⟩
      have BV7 := BV.keep hq7 BV.lt
      have y0 := BV7.cell 0
      have y1 := BV7.cell 1
      simp only [List.getElem?_cons_zero, List.getElem?_cons_succ] at y0 y1
      go_wp2_with fail
      refine (HZ2.out _ _ ((S4.out.keep hqu).keep hq7)).mono ?_
      rintro e w8 ⟨rfl, hq8⟩
      have hQ := Q.trans (Q.trans (Q.trans (Q.trans (Q.trans (Q.trans hq3 hq4) hqa) hq6) hqu) hq7) hq8
      go_wp2
      go_ret3
      exact ⟨rfl, hQ⟩

set_option maxHeartbeats 1000000 in
theorem ref01_negative_zero (a : Option Addr) (c : Nat) (w : World) :
    Calls Tryz.prog 284 #[.agg #[.bool false, .slice a 0 c]] w fun e w' => e = .returned (.agg #[.bool false, .slice a 0 c]) ∧ Q w w' := by
  obtain ⟨B1, B2, hq0, hs0⟩ := two_blks w (.bool false) (.slice a 0 c) (.bool false) (.slice none 0 0) 251
  have x0 := B1.cell 0
  have x1 := B1.cell 1
  have y0 := B2.cell 0
  have y1 := B2.cell 1
  have f0 := B2.frozen 0
  have f1 := B2.frozen 1
  simp only [List.getElem?_cons_zero, List.getElem?_cons_succ] at x0 x1 y0 y1
  generalize hW0 : (w.alloc (.cells [.bool false, .slice a 0 c].toArray 251)).alloc (.cells [.bool false, .slice none 0 0].toArray 251) = W0 at *
  have F := (B2.set 0 (.bool false)).set 1 (.slice a 0 c)
  have hQ : Q w ((W0.setCell ⟨w.heap.size + 1, 0, none⟩ (.bool false)).setCell ⟨w.heap.size + 1, 1, none⟩ (.slice a 0 c)) := (hq0.setCell (p := ⟨w.heap.size + 1, 0, none⟩) (by simp) _).setCell (p := ⟨w.heap.size + 1, 1, none⟩) (by simp) _
  go_enter Tryz.func284, Tryz.ntmps284
  go_wp2
  exact bodyPost_ret (ret_big _ _ (w.heap.size + 1) _ _ 2 _ rfl rfl (F.cell 0) (F.cell 1)) rfl ⟨rfl, hQ⟩

set_option maxHeartbeats 1000000 in
/-- Compare of an integer that is not negative with 0. -/
theorem ref01_Compare_zero (x : Int) (hx : 0 ≤ x) (lx : lim x = false) (w : World) :
    Calls Tryz.prog 233 #[.string ⟨(Lib.itoa x).toArray⟩, .string ⟨[48].toArray⟩] w fun e w' => e = .returned (.tuple #[.int .i64 (if x = 0 then 0 else 1), .int .i64 0]) ∧ Q w w' := by
  have l0 : lim 0 = false := lim_bd (n := 1) (by decide) (by decide)
  have HB := Lib.hid (fun w => ref01_both x 0 lx l0 w)
  rw [itoa_zero] at HB
  by_cases hs : (Lib.itoa x).length ≤ 17
  · have HT := Lib.hid (fun w => ref01_two x 0 hs (by rw [itoa_zero]; decide) w)
    rw [itoa_zero] at HT
    clear hs
    generalize Lib.itoa x = X at *
    by_cases h0 : x = 0
    · subst h0
      go_enter Tryz.func233, Tryz.ntmps233
      go_wp2_with fail
      refine (HB.out _).mono ?_
      rintro e w1 ⟨rfl, rfl⟩
      go_wp2_with fail
      refine (HT.out _).mono ?_
      rintro e w2 ⟨rfl, rfl⟩
      go_wp2
      go_ret2
      exact ⟨rfl, Q.refl _⟩
    · rw [if_neg h0]
      have h1 : ¬ x < 0 := by omega
      have h2 : 0 < x := by omega
      go_enter Tryz.func233, Tryz.ntmps233
      go_wp2_with fail
      refine (HB.out _).mono ?_
      rintro e w1 ⟨rfl, rfl⟩
      go_wp2_with fail
      refine (HT.out _).mono ?_
      rintro e w2 ⟨rfl, rfl⟩
      go_wp2
      go_ret2
      exact ⟨rfl, Q.refl _⟩
  · have h0 : ¬ x = 0 := fun e => hs (by rw [e, itoa_zero]; decide)
    have HT := Lib.hid (fun w => ref01_two_long x 0 lx l0 (by omega) w)
    have HR1 := Lib.hid (ref01_read_itoa x lx w)
    have HR2 := Lib.hid (fun w => ref01_read_itoa 0 l0 w)
    have h1 : decide (x < 0) = false := by simpa using hx
    rw [h1, show ((x.natAbs : Nat) : Int) = x by omega] at HR1
    rw [show decide ((0 : Int) < 0) = false by decide, show (((0 : Int).natAbs : Nat) : Int) = 0 by rfl, itoa_zero] at HR2
    rw [itoa_zero] at HT
    have HA := Lib.hid (fun v1 v2 w i1 i2 => ref01_add x 0 hx (Int.le_refl _) (by have := len6_lim lx; omega) (by have := len6_lim l0; omega) v1 v2 w i1 i2)
    rw [Int.add_zero] at HA
    have hz0 : (limbs RB6 0).length = 0 := by rw [limbs_zero (Int.le_refl _)]; rfl
    have hxn : ((limbs RB6 x).length : Int) ≠ 0 := fun e => h0 ((limbs6_len_zero hx).1 (by omega))
    have hxz : (((limbs RB6 x).length : Int) == 0) = false := by rw [beq_eq_false_iff_ne]; exact hxn
    rw [if_neg h0]
    clear hs hxn
    generalize Lib.itoa x = X at *
    go_enter Tryz.func233, Tryz.ntmps233
    go_wp2_with fail
    refine (HB.out _).mono ?_
    rintro e w1 ⟨rfl, rfl⟩
    go_wp2_with fail
    refine (HT.out _).mono ?_
    rintro e w2 ⟨⟨a, b, rfl⟩, rfl⟩
    go_wp2_with fail
    refine HR1.out.mono ?_
    rintro e w3 ⟨v1, rfl, hs1, hq3⟩
    have S1 := Lib.hid hs1
    obtain ⟨a1, c1, rfl, -, -⟩ := hs1
    go_wp2_with fail
    refine (HR2.out _).mono ?_
    rintro e w4 ⟨v2, rfl, hs2, hq4⟩
    have S2 := Lib.hid hs2
    obtain ⟨a2, c2, rfl, -, -⟩ := hs2
    rw [hz0]
    rw [hz0] at S2
    go_wp2_with fail
    refine (ref01_negative_zero a2 c2 w4).mono ?_
    rintro e w5 ⟨rfl, hq5⟩
    go_wp2_with fail
    refine (HA.out _ _ _ ((S1.out.keep hq4).keep hq5) (by
      have := S2.out.keep hq5
      exact this)).mono ?_
    rintro e w6 ⟨v3, rfl, hs3, hq6⟩
    obtain ⟨a3, c3, rfl, -, -⟩ := hs3
    have B1 := Blk.new w6 [.bool false, .slice a3 (limbs RB6 x).length c3] 251
    have x0 := B1.cell 0
    have x1 := B1.cell 1
    simp only [List.getElem?_cons_zero, List.getElem?_cons_succ] at x0 x1
    have hq7 := Q.trans (Q.trans (Q.trans hq3 hq4) hq5) hq6
    have hQ := hq7.alloc hq7.size (.cells [.bool false, .slice a3 (limbs RB6 x).length c3].toArray 251)
    go_wp2
    go_ret2
    exact ⟨rfl, hQ⟩

end Go.Proofs.YtgkikkabmcihhaaGreatDoor

namespace Go.Proofs.YtgkikkabmcihhaaGreatDoor
open Go.RowKit Kp
open Go.Lib (decDigits)

theorem field_big (m : Bool) (a : Option Addr) (n c : Nat) (w : World) : (Instr.field 251 (.agg #[.bool m, .slice a n c]) 1).run Tryz.prog w = .ok (.slice a n c) w := by kernel_rfl
/-- The number that a slice of limbs holds. -/
def slV6 (w : World) (v : Value) : Nat := match v with
  | .slice (some a) n _ => (lval RB6 ((List.range n).map fun i => match w.cell? ⟨a.block, a.off + i, none⟩ with | some (.int _ x) => x | _ => 0)).toNat
  | _ => 0
theorem slV6_of {w : World} {v : Value} {l : List Int} (h : IntSl w v l) : slV6 w v = (lval RB6 l).toNat := by
  rcases h.cases with ⟨rfl, a, cap, rfl⟩ | ⟨b, o, cap, rfl, hcap, h0, hA⟩
  · cases a <;> rfl
  · unfold slV6
    simp only
    congr 2
    refine List.ext_getElem (by simp) fun i h1 h2 => ?_
    rw [List.getElem_map, List.getElem_range, hA.2 i h2, List.getD_eq_getElem?_getD, List.getElem?_eq_getElem h2]
    rfl
theorem slV6_num {w : World} {v : Value} {n : Nat} (h : IntSl w v (limbs RB6 (n : Int))) : slV6 w v = n := by
  rw [slV6_of h, lval_limbs (by decide) _ (by omega)]; omega

set_option maxHeartbeats 1000000 in
theorem ref01_Gcd_short (x y : Nat) (lx : (Lib.itoa (x : Int)).length ≤ 17) (ly : (Lib.itoa (y : Int)).length ≤ 17) (w : World) (hE : Env w) :
    Calls Tryz.prog 153 #[.string ⟨(Lib.itoa (x : Int)).toArray⟩, .string ⟨(Lib.itoa (y : Int)).toArray⟩] w fun e w' => e = .returned (.tuple #[.string ⟨(Lib.itoa (Nat.gcd x y : Int)).toArray⟩, .int .i64 0]) ∧ Q w w' := by
  have bx := abs_lt17 lx
  have bz := abs_lt17 ly
  rw [Int.natAbs_natCast] at bx bz
  have HB := Lib.hid (fun w => ref01_both (x : Int) (y : Int) (lim_small (by omega)) (lim_small (by omega)) w)
  have HT := Lib.hid (fun w => ref01_two (x : Int) (y : Int) lx ly w)
  obtain ⟨g, hg⟩ : ∃ g, Nat.gcd x y = g := ⟨_, rfl⟩
  rw [hg]
  have HG := Lib.hid hg
  clear hg lx ly
  generalize Lib.itoa (x : Int) = X at *
  generalize Lib.itoa (y : Int) = Y at *
  go_enter Tryz.func153, Tryz.ntmps153
  go_wp2_with fail
  refine (HB.out _).mono ?_
  rintro e w1 ⟨rfl, rfl⟩
  go_wp2_with fail
  refine (HT.out _).mono ?_
  rintro e w2 ⟨rfl, rfl⟩
  go_wp2
  go_loopw [7, 8] (fun u v wr => ∃ (a b : Nat), u = .int .i64 a ∧ v = .int .i64 b ∧ a < 100000000000000000 ∧ b < 100000000000000000 ∧ Hid (Nat.gcd a b = g) ∧ Q w2 wr) (fun _ v _ => (intOf v).toNat)
  case atStart => exact ⟨x, y, rfl, rfl, bx, bz, HG, Q.refl _⟩
  case round =>
    obtain ⟨a, b, rfl, rfl, ha, hb, HG, hQ⟩ := hrel
    by_cases h0 : b = 0
    · subst h0
      have hga := HG.out
      rw [Nat.gcd_zero_right] at hga
      subst hga
      have hmx : max (a : Int) (-(a : Int)) = (a : Int) := by omega
      have hw1 := Go.IntWalk.i64_in (-(a : Int)) (by omega)
      have HI := Lib.hid (lib_Itoa (a : Int) (by omega) (by omega) wr (hE.q hQ))
      go_wp2_with fail
      refine HI.out.mono ?_
      rintro e w3 ⟨rfl, hq3⟩
      have hQ3 := Q.trans hQ hq3
      go_wp2
      go_ret2
      exact ⟨rfl, hQ3⟩
    · have hbz : ((b : Int) == 0) = false := by rw [beq_eq_false_iff_ne]; omega
      have hbz2 : ((b : Int) != 0) = true := bne_of_f hbz
      have hm : (a : Int) % (b : Int) = ((a % b : Nat) : Int) := by simp
      have hlt := Nat.mod_lt a (show 0 < b by omega)
      have HG2 : Hid (Nat.gcd b (a % b) = g) := Lib.hid (by rw [← gcd_step]; exact HG.out)
      go_wp2
      go_quiet (fail)
      go_wp2
      go_roundw
      case rel => exact ⟨b, a % b, rfl, by go_num, hb, by omega, HG2, Below.drewN hQ _⟩
      case measure => simp [intOf]; omega

set_option maxRecDepth 100000 in
set_option maxHeartbeats 1000000 in
theorem ref01_Gcd_long (x y : Nat) (lx : lim (x : Int) = false) (ly : lim (y : Int) = false) (hl : 17 < (Lib.itoa (x : Int)).length ∨ 17 < (Lib.itoa (y : Int)).length) (w : World) :
    Calls Tryz.prog 153 #[.string ⟨(Lib.itoa (x : Int)).toArray⟩, .string ⟨(Lib.itoa (y : Int)).toArray⟩] w fun e w' => e = .returned (.tuple #[.string ⟨(Lib.itoa (Nat.gcd x y : Int)).toArray⟩, .int .i64 0]) ∧ Q w w' := by
  have HB := Lib.hid (fun w => ref01_both (x : Int) (y : Int) lx ly w)
  have HT := Lib.hid (fun w => ref01_two_long (x : Int) (y : Int) lx ly hl w)
  have HR1 := Lib.hid (ref01_read_itoa (x : Int) lx w)
  have HR2 := Lib.hid (fun w => ref01_read_itoa (y : Int) ly w)
  rw [show decide ((x : Int) < 0) = false by simp, Int.natAbs_natCast] at HR1
  rw [show decide ((y : Int) < 0) = false by simp, Int.natAbs_natCast] at HR2
  obtain ⟨g, hg⟩ : ∃ g, Nat.gcd x y = g := ⟨_, rfl⟩
  rw [hg]
  have HG := Lib.hid hg
  have HLX := Lib.hid lx
  have HLY := Lib.hid ly
  clear hg hl lx ly
  generalize Lib.itoa (x : Int) = X at *
  generalize Lib.itoa (y : Int) = Y at *
  go_enter Tryz.func153, Tryz.ntmps153
  go_wp2_with fail
  refine (HB.out _).mono ?_
  rintro e w1 ⟨rfl, rfl⟩
  go_wp2_with fail
  refine (HT.out _).mono ?_
  rintro e w2 ⟨⟨a, b, rfl⟩, rfl⟩
  go_wp2_with fail
  refine HR1.out.mono ?_
  rintro e w3 ⟨v1, rfl, hs1, hq3⟩
  have S1 := Lib.hid hs1
  obtain ⟨a1, c1, rfl, -, -⟩ := hs1
  generalize (limbs RB6 (x : Int)).length = n1 at *
  have hf1 := field_big false a1 n1 c1
  go_wp2_with fail
  refine (HR2.out _).mono ?_
  rintro e w4 ⟨v2, rfl, hs2, hq4⟩
  have S1' := Lib.hid (S1.out.keep hq4)
  have S2 := Lib.hid hs2
  obtain ⟨a2, c2, rfl, -, -⟩ := hs2
  generalize hn2 : (limbs RB6 (y : Int)).length = n2 at *
  have HL2 := Lib.hid hn2
  have hf2 := field_big false a2 n2 c2
  have hQ4 := Q.trans hq3 hq4
  clear hn2 HB HT HR1 HR2 S1
  go_wp2_with fail
  go_loopw [10, 11] (fun u v wr => ∃ (p q n1 n2 c1 c2 : Nat) (a1 a2 : Option Addr), u = .slice a1 n1 c1 ∧ v = .slice a2 n2 c2 ∧ Hid (IntSl wr (.slice a1 n1 c1) (limbs RB6 (p : Int))) ∧ Hid (IntSl wr (.slice a2 n2 c2) (limbs RB6 (q : Int))) ∧ Hid ((limbs RB6 (p : Int)).length ≤ 50) ∧ Hid ((limbs RB6 (q : Int)).length ≤ 50) ∧ Hid ((limbs RB6 (q : Int)).length = n2) ∧ Hid (Nat.gcd p q = g) ∧ Q w2 wr) (fun _ v wr => slV6 wr v)
  case atStart => exact ⟨x, y, n1, n2, c1, c2, a1, a2, rfl, rfl, S1', S2, Lib.hid (len6_lim HLX.out), Lib.hid (len6_lim HLY.out), HL2, HG, hQ4⟩
  case round =>
    clear S1' S2 HLX HLY HL2 hQ4 hq4 hq3 hf1 hf2 HG
    obtain ⟨p, q, k1, k2, e1, e2, b1, b2, rfl, rfl, M1, M2, HN1, HN2, HK, HG, hQ⟩ := hrel
    by_cases h0 : k2 = 0
    · subst h0
      have hq0 : q = 0 := by
        have := (limbs6_len_zero (z := (q : Int)) (by omega)).1 HK.out
        omega
      subst hq0
      have hg := HG.out
      rw [Nat.gcd_zero_right] at hg
      subst hg
      have HW := Lib.hid (ref01_write (p : Int) (by omega) (by have := HN1.out; omega) _ wr M1.out)
      go_wp2_with fail
      refine HW.out.mono ?_
      rintro e w5 ⟨rfl, hq5⟩
      have hQ5 := Q.trans hQ hq5
      go_wp2
      go_ret2
      exact ⟨rfl, hQ5⟩
    · have hq0 : 0 < q := by
        by_cases h : q = 0
        · exact absurd (by have := (limbs6_len_zero (z := (q : Int)) (by omega)).2 (by omega); rw [HK.out] at this; exact this) h0
        · omega
      have hk2 : (0 : Int) < (k2 : Int) := by omega
      have HD := Lib.hid (ref01_divide (p : Int) (q : Int) (by omega) (by omega) (by have := HN1.out; omega) (by have := HN2.out; omega) _ _ wr M1.out M2.out)
      have hsv := slV6_num M2.out
      clear h0
      go_wp2_with fail
      refine HD.out.mono ?_
      rintro e w5 ⟨qv, rv, rfl, hqv, hr, hq5⟩
      obtain ⟨a9, c9, rfl, -, -⟩ := hqv
      rw [show (p : Int) % (q : Int) = ((p % q : Nat) : Int) by rfl] at hr
      have M3 := Lib.hid hr
      have hmd := Nat.mod_lt p hq0
      have HN3 : Hid ((limbs RB6 ((p % q : Nat) : Int)).length ≤ 50) := Lib.hid (by
        have h1 := limbs_len_le_of (x := ((p % q : Nat) : Int)) (y := (q : Int)) (by omega) (by omega)
        have := HN2.out
        omega)
      obtain ⟨a3, c3, rfl, -, -⟩ := hr
      have hsv3 := slV6_num M3.out
      generalize hn3 : (limbs RB6 ((p % q : Nat) : Int)).length = n3 at *
      have HL3 := Lib.hid hn3
      have M2' := Lib.hid (M2.out.keep hq5)
      have hQ5 := Q.trans hQ hq5
      have HG' : Hid (Nat.gcd q (p % q) = g) := Lib.hid (by rw [← gcd_step]; exact HG.out)
      have HN3' : Hid ((limbs RB6 ((p % q : Nat) : Int)).length ≤ 50) := Lib.hid (by rw [HL3.out]; exact HN3.out)
      clear hn3 HD M1 M2 HG HN3
      go_wp2
      go_roundw
      case rel => exact ⟨q, p % q, _, _, _, _, _, _, rfl, rfl, M2', M3, HN2, HN3', HL3, HG', hQ5⟩
      case measure => rw [hsv, hsv3]; exact hmd

/-- Gcd. -/
theorem ref01_Gcd (x y : Nat) (lx : lim (x : Int) = false) (ly : lim (y : Int) = false) (w : World) (hE : Env w) :
    Calls Tryz.prog 153 #[.string ⟨(Lib.itoa (x : Int)).toArray⟩, .string ⟨(Lib.itoa (y : Int)).toArray⟩] w fun e w' => e = .returned (.tuple #[.string ⟨(Lib.itoa (Nat.gcd x y : Int)).toArray⟩, .int .i64 0]) ∧ Q w w' := by
  by_cases hl : 17 < (Lib.itoa (x : Int)).length ∨ 17 < (Lib.itoa (y : Int)).length
  · exact ref01_Gcd_long x y lx ly hl w
  · exact ref01_Gcd_short x y (by omega) (by omega) w hE

end Go.Proofs.YtgkikkabmcihhaaGreatDoor

namespace Go.Proofs.YtgkikkabmcihhaaGreatDoor
open Go.RowKit Kp
open Go.Lib (decDigits)

theorem limbs6_two : limbs RB6 2 = [2] := by rw [limbs_pos (by decide) (by decide)]; rw [limbs_zero (by decide)]; rfl
theorem zerosS_succ (k : Nat) : (49 :: zerosS k) ++ [48] = 49 :: zerosS (k + 1) := by
  unfold zerosS; rw [List.cons_append, ← List.replicate_succ']
theorem newton_less {n r : Nat} (h : n < r * r) : (r + n / r) / 2 < r := by
  have hr : 0 < r := by
    rcases Nat.eq_zero_or_pos r with rfl | h0
    · omega
    · exact h0
  have := (Nat.div_lt_iff_lt_mul hr).2 h
  omega

set_option maxRecDepth 100000 in
set_option maxHeartbeats 2000000 in
theorem ref01_Root (n : Nat) (hn0 : 0 < n) (hx : lim (n : Int) = false) (w : World) :
    Calls Tryz.prog 237 #[.string ⟨(Lib.itoa (n : Int)).toArray⟩] w fun e w' => e = .returned (.tuple #[.string ⟨(Lib.itoa (isqrt n : Int)).toArray⟩, .int .i64 0]) ∧ Q w w' := by
  have hlen := itoa_len (n : Int) hx
  have HC := Lib.hid (fun w => ref01_Check (n : Int) hx w)
  have HR := Lib.hid (fun w => ref01_read_itoa (n : Int) hx w)
  rw [show decide ((n : Int) < 0) = false by simp, Int.natAbs_natCast] at HR
  have HST := Lib.hid (start_pow (len_pow n))
  have HLX := Lib.hid hx
  obtain ⟨rt, hrt⟩ : ∃ rt, isqrt n = rt := ⟨_, rfl⟩
  rw [hrt]
  have HRT := Lib.hid hrt
  clear hrt
  obtain ⟨L, hL⟩ : ∃ L, (Lib.itoa (n : Int)).length = L := ⟨_, rfl⟩
  rw [hL] at HST hlen
  obtain ⟨M, hM⟩ : ∃ M, (L + 1) / 2 = M := ⟨_, rfl⟩
  rw [hM] at HST
  have hM2 : ((L : Int) + 1) / 2 = (M : Int) := by omega
  have hMb : M ≤ 151 := by omega
  have hw1 := Go.IntWalk.i64_in ((L : Int) + 1) (by omega)
  have hM3 := Go.IntWalk.i64_in (M : Int) (by omega)
  clear hM
  go_enter Tryz.func237, Tryz.ntmps237
  go_wp2_with fail
  refine (HC.out _).mono ?_
  rintro e w1 ⟨rfl, rfl⟩
  go_wp2_with fail
  refine (HR.out _).mono ?_
  rintro e w2 ⟨v1, rfl, hs1, hq2⟩
  have S1 := Lib.hid hs1
  obtain ⟨a1, c1, rfl, -, -⟩ := hs1
  generalize (limbs RB6 (n : Int)).length = n1 at *
  have B1 := Blk.new w2 [.bool false, .slice a1 n1 c1] 251
  have x0 := B1.cell 0
  simp only [List.getElem?_cons_zero] at x0
  have hqa : Q w1 (w2.alloc (.cells [.bool false, .slice a1 n1 c1].toArray 251)) := hq2.alloc hq2.size _
  have hqb : Q w2 (w2.alloc (.cells [.bool false, .slice a1 n1 c1].toArray 251)) := (Q.refl w2).alloc (Nat.le_refl _) _
  go_wp2_with fail
  generalize hW3 : w2.alloc (.cells [.bool false, .slice a1 n1 c1].toArray 251) = W3 at *
  have S1' := Lib.hid (S1.out.keep hqb)
  clear hW3 hqb S1 x0 HC HR
  go_loopw [6, 7] (fun pv iv wr => ∃ (k : Nat) (s : Str), k ≤ M ∧ pv = .string ⟨s.toArray⟩ ∧ iv = .int .i64 k ∧ Hid (s = 49 :: zerosS k) ∧ wr = W3) (fun _ iv _ => M - (intOf iv).toNat)
  case atStart => exact ⟨0, [49], by omega, rfl, rfl, Lib.hid rfl, rfl⟩
  case round =>
    obtain ⟨k, s, hk, rfl, rfl, HS, rfl⟩ := hrel
    by_cases hlt : k < M
    · have hkm : (k : Int) < (M : Int) := by omega
      have hsl : s.length = k + 1 := by rw [HS.out, List.length_cons, zerosS_len]
      have hadd := add_rule Tryz.prog s [48] (by rw [hsl]; simp; omega) wr
      have HS2 : Hid (s ++ [48] = 49 :: zerosS (k + 1)) := Lib.hid (by rw [HS.out]; exact zerosS_succ k)
      have hw2 := Go.IntWalk.i64_in ((k : Int) + 1) (by omega)
      clear hsl
      go_wp2
      go_roundw
      case rel => exact ⟨k + 1, _, by omega, rfl, by go_num, HS2, trivial⟩
      case measure => simp [intOf]; omega
    · obtain rfl : k = M := by omega
      have hnv : nval s = 10 ^ k ∧ AllDig s := by rw [HS.out]; exact ⟨(ten_text k).2, (ten_text k).1⟩
      have hsl : s.length = k + 1 := by rw [HS.out, List.length_cons, zerosS_len]
      have HRD := Lib.hid (fun w => ref01_read s s false (.inr ⟨rfl, rfl, by rw [HS.out]; show (49 : UInt8) ≠ 45; decide⟩) hnv.2 (by omega) (by omega) w)
      rw [hnv.1] at HRD
      have hr0 : 0 < 10 ^ k := Nat.pow_pos (by decide)
      have HLR : Hid ((limbs RB6 ((10 ^ k : Nat) : Int)).length ≤ 100) := Lib.hid (len6_of (by
        have h1 : (10 ^ k : Nat) ≤ 10 ^ 151 := Nat.pow_le_pow_right (by decide) hMb
        have h2 : (10 ^ 151 : Nat) < 1000000 ^ 100 := by decide
        have h3 : RB6 ^ 100 = ((1000000 ^ 100 : Nat) : Int) := by decide
        rw [h3]; exact Int.ofNat_lt.2 (Nat.lt_of_le_of_lt h1 h2)))
      clear hnv hsl
      generalize 10 ^ k = r0 at *
      have HB1 := Lib.hid (fun W (h : Q wr W) => B1.keep h B1.lt)
      have HS1 := Lib.hid (fun W (h : Q wr W) => S1'.out.keep h)
      go_wp2_with fail
      refine (HRD.out _).mono ?_
      rintro e w4 ⟨v2, rfl, hs2, hq4⟩
      have S2 := Lib.hid hs2
      obtain ⟨a2, c2, rfl, -, -⟩ := hs2
      generalize hn2 : (limbs RB6 (r0 : Int)).length = n2 at *
      have HN2 := Lib.hid hn2
      have hf2 := field_big false a2 n2 c2
      have HLR' : Hid ((limbs RB6 (r0 : Int)).length ≤ 100) := Lib.hid (by rw [HN2.out]; exact HLR.out)
      clear hn2 HRD HN2 HLR
      obtain ⟨WB, rfl⟩ : ∃ W, W = wr := ⟨_, rfl⟩
      go_wp2_with fail
      go_loopw [8] (fun u wi => ∃ (r k2 c : Nat) (a : Option Addr), u = .slice a k2 c ∧ 0 < r ∧ Hid (IntSl wi (.slice a k2 c) (limbs RB6 (r : Int))) ∧ Hid ((limbs RB6 (r : Int)).length ≤ 100) ∧ Hid (n < (r + 1) * (r + 1)) ∧ Q WB wi) (fun u wi => slV6 wi u)
      case atStart => exact ⟨r0, n2, c2, a2, rfl, hr0, S2, HLR', HST, hq4⟩
      case round =>
        clear HST HLR' S2 hf2 hr0 hq4
        obtain ⟨r, k2, c, a, rfl, hr0, MR, HLr, HG, hQ⟩ := hrel
        have HT := Lib.hid (fun W (h : Q wr W) => ref01_times (limbs RB6 (r : Int)) (limbs RB6 (r : Int)) (limbs_dig (by decide) _) (limbs_dig (by decide) _) (by have := HLr.out; omega) (by have := HLr.out; omega) _ _ W (MR.out.keep h) (MR.out.keep h))
        rw [lval_limbs (by decide) (r : Int) (by omega)] at HT
        have BB := HB1.out wr hQ
        have d1 := BB.drew.cell 1
        simp only [List.getElem?_cons_zero, List.getElem?_cons_succ] at d1
        have HZ := Lib.hid (fun v W (h : Q wr W) (i : IntSl W v (limbs RB6 ((r : Int) * r))) => ref01_size ((r : Int) * r) (n : Int) (Int.mul_nonneg (by omega) (by omega)) (by omega) (by
          have h1 := lval_lt (show (0 : Int) < RB6 by decide) (limbs_dig (B := RB6) (by decide) (r : Int))
          rw [lval_limbs (by decide) (r : Int) (by omega)] at h1
          have h2 := pow_mono (show (1 : Int) ≤ RB6 by decide) HLr.out
          have h3 : (r : Int) * r < RB6 ^ 100 * RB6 ^ 100 := Int.mul_lt_mul (by omega) (by omega) (by omega) (Int.le_of_lt (pow_pos' (by decide) _))
          rw [← Int.pow_add] at h3
          exact Nat.le_trans (len6_of h3) (by decide)) (by have := len6_lim HLX.out; omega) v (.slice a1 n1 c1) W i (HS1.out W (Q.trans hQ h)))
        go_wp2_with fail
        refine wp_steadily 7 rfl (by kernel_rfl) rfl ?_
        refine steadily_value (i := 0) (v := ?_) rfl rfl (by kernel_rfl) (by kernel_rfl) (fun _ _ _ h => h) (by rfl) ?_ ?_
        rotate_left
        · (intro w' hq; go_simp; try with_reducible rfl)
        simp only [Act.put, List.setIfInBounds_toArray, List.set_cons_zero, List.set_cons_succ]
        refine steadily_value (i := 1) (v := ?_) rfl rfl (by kernel_rfl) (by kernel_rfl) (fun _ _ _ h => h) (by rfl) ?_ ?_
        rotate_left
        · (intro w' hq; go_simp; try with_reducible rfl)
        simp only [Act.put, List.setIfInBounds_toArray, List.set_cons_zero, List.set_cons_succ]
        refine steadily_value (i := 3) (v := ?_) rfl rfl (by kernel_rfl) (by kernel_rfl) (fun _ _ _ h => h) (by rfl) ?_ ?_
        rotate_left
        · (intro w' hq; go_simp; try with_reducible rfl)
        simp only [Act.put, List.setIfInBounds_toArray, List.set_cons_zero, List.set_cons_succ]
        refine steadily_value (i := 4) (v := ?_) rfl rfl (by kernel_rfl) (by kernel_rfl) (fun _ _ _ h => h) (by rfl) ?_ ?_
        rotate_left
        · (intro w' hq; have hc0 := qcell hq d1; go_simp; try with_reducible rfl)
        simp only [Act.put, List.setIfInBounds_toArray, List.set_cons_zero, List.set_cons_succ]
        refine steadily_only (i := 2) rfl rfl (by kernel_rfl) (by rfl) ?_ (fun w' hq => (HT.out w' (Below.trans (Below.drew (Q.refl wr)) hq)).mono ?_)
        · (intro w' hq; go_simp; try with_reducible rfl)
        rintro e w5 ⟨v5, rfl, hb5, hq5⟩
        have HB5 := Lib.hid hb5.sl
        obtain ⟨b5, c5, rfl, -, -, -⟩ := hb5
        refine ⟨_, rfl, hq5, ?_⟩
        simp only [Act.put, List.setIfInBounds_toArray, List.set_cons_zero, List.set_cons_succ]
        have hq15 : Q wr w5 := Q.trans (Below.trans (Below.drew (Q.refl wr)) hq) hq5
        refine steadily_only (i := 5) rfl rfl (by kernel_rfl) (by rfl) ?_ (fun w' hq6 => (HZ.out _ w' (Q.trans hq15 hq6) (HB5.out.keep hq6)).mono ?_)
        · (intro w' hq; go_simp; try with_reducible rfl)
        rintro e w7 ⟨z, rfl, hz, hq7⟩
        refine ⟨_, rfl, hq7, ?_⟩
        simp only [Act.put, List.setIfInBounds_toArray, List.set_cons_zero, List.set_cons_succ]
        refine steadily_value (i := 6) (v := ?_) rfl rfl (by kernel_rfl) (by kernel_rfl) (fun _ _ _ h => h) (by rfl) ?_ ?_
        rotate_left
        · (intro w' hq; go_simp; try with_reducible rfl)
        simp only [Act.put, List.setIfInBounds_toArray, List.set_cons_zero, List.set_cons_succ]
        refine steadily_done (by kernel_rfl) (fun w8 hq8 => ?_)
        simp only [List.drop_succ_cons, List.drop_zero]
        have hq18 : Q wr w8 := Q.trans (Q.trans (Q.trans hq15 hq6) hq7) hq8
        have hQ8 := Q.trans hQ hq18
        have M8 := Lib.hid (MR.out.keep hq18)
        obtain ⟨hz1, hz2⟩ := hz
        by_cases hzp : 0 < z
        · have hlt : n < r * r := by
            rcases Int.lt_trichotomy ((r : Int) * r) (n : Int) with h | h | h
            · have := hz1.2 h; omega
            · have := hz2.2 h; omega
            · exact_mod_cast h
          have hless := newton_less hlt
          have HGE := Lib.hid (newton_ge (n := n) hr0)
          have BB8 := HB1.out w8 hQ8
          have y1 := BB8.cell 1
          simp only [List.getElem?_cons_zero, List.getElem?_cons_succ] at y1
          have HD := Lib.hid (ref01_divide (n : Int) (r : Int) (by omega) (by omega) (by have := len6_lim HLX.out; omega) (by have := HLr.out; omega) (.slice a1 n1 c1) (.slice a k2 c) w8 (HS1.out w8 hQ8) M8.out)
          have hsv := slV6_num MR.out
          have hnr : (n : Int) / (r : Int) = ((n / r : Nat) : Int) := by simp
          rw [hnr] at HD
          have hqn := Nat.div_le_self n r
          clear hnr
          generalize (n / r : Nat) = q at *
          have hlq : (limbs RB6 (q : Int)).length ≤ 50 := by
            have h1 := limbs_len_le_of (x := (q : Int)) (y := (n : Int)) (by omega) (by omega)
            have := len6_lim HLX.out
            omega
          have HP := Lib.hid (fun v W (i1 : IntSl W (.slice a k2 c) (limbs RB6 (r : Int))) (i2 : IntSl W v (limbs RB6 (q : Int))) => ref01_plus (limbs RB6 (r : Int)) (limbs RB6 (q : Int)) (limbs_dig (by decide) _) (limbs_dig (by decide) _) (by have := HLr.out; omega) (by omega) _ v W i1 i2)
          rw [lval_limbs (by decide) (r : Int) (by omega), lval_limbs (by decide) (q : Int) (by omega)] at HP
          have hlp : (limbs RB6 ((r : Int) + (q : Int))).length ≤ 50000 := by
            have h1 := limbs_len_ge (B := RB6) (by decide) (r : Int) (by omega) 100 HLr.out
            have h2 := limbs_len_ge (B := RB6) (by decide) (q : Int) (by omega) 100 (by omega)
            have h3 : (RB6 : Int) ^ 101 = RB6 ^ 100 * RB6 := Int.pow_succ ..
            have h4 := pow_pos' (show (0 : Int) < RB6 by decide) 100
            have h5 : RB6 ^ 100 * 2 ≤ RB6 ^ 100 * RB6 := Int.mul_le_mul_of_nonneg_left (by decide) (Int.le_of_lt h4)
            exact Nat.le_trans (len6_of (k := 101) (by omega)) (by decide)
          have HD2 := Lib.hid (fun v1 v2 W (i1 : IntSl W v1 (limbs RB6 ((r : Int) + (q : Int)))) (i2 : IntSl W v2 (limbs RB6 2)) => ref01_divide ((r : Int) + (q : Int)) 2 (by omega) (by decide) hlp (by rw [limbs6_two]; decide) v1 v2 W i1 i2)
          have hs2 : ((r : Int) + (q : Int)) / 2 = (((r + q) / 2 : Nat) : Int) := by omega
          rw [hs2] at HD2
          have HLN : Hid ((limbs RB6 (((r + q) / 2 : Nat) : Int)).length ≤ 100) := Lib.hid (by
            have h1 := limbs_len_le_of (x := (((r + q) / 2 : Nat) : Int)) (y := (r : Int)) (by omega) (by omega)
            have := HLr.out
            omega)
          clear hlq hlp hs2 hz1 hz2 hlt hqn
          obtain ⟨s2, hs2⟩ : ∃ s2, (r + q) / 2 = s2 := ⟨_, rfl⟩
          rw [hs2] at hless HGE HD2 HLN
          have hs0 : 0 < s2 := by
            rcases Nat.eq_zero_or_pos s2 with h | h
            · have := HGE.out; rw [h] at this; omega
            · exact h
          clear hs2
          go_wp2_with fail
          refine HD.out.mono ?_
          rintro e w9 ⟨qv, rv, rfl, hqv, hrv, hq9⟩
          have HQV := Lib.hid hqv
          obtain ⟨a9, c9, rfl, -, -⟩ := hqv
          obtain ⟨a10, c10, rfl, -, -⟩ := hrv
          generalize (limbs RB6 (q : Int)).length = nq at *
          go_wp2_with fail
          refine (HP.out _ _ (M8.out.keep hq9) HQV.out).mono ?_
          rintro e w10 ⟨pv, rfl, hpv, hq10⟩
          have HPV := Lib.hid hpv.sl
          obtain ⟨b11, c11, rfl, -, -, -⟩ := hpv
          generalize (limbs RB6 ((r : Int) + (q : Int))).length = np at *
          have i2 := intSl_one w10 2
          rw [← limbs6_two] at i2
          have hqal : Q w10 (w10.alloc (.cells #[.int .i64 2] 3)) := (Below.refl _ w10).alloc (Nat.le_refl _) _
          go_wp2_with fail
          refine (HD2.out _ _ _ (HPV.out.keep hqal) i2).mono ?_
          rintro e w12 ⟨sv, tv, rfl, hsv2, htv, hq12⟩
          have MN := Lib.hid hsv2
          have hsv3 := slV6_num MN.out
          obtain ⟨a13, c13, rfl, -, -⟩ := hsv2
          obtain ⟨a14, c14, rfl, -, -⟩ := htv
          have hQ12 := Q.trans (Q.trans (Q.trans (Q.trans hQ8 hq9) hq10) hqal) hq12
          have HLN' : Hid ((limbs RB6 (s2 : Int)).length ≤ 100) := HLN
          generalize hns : (limbs RB6 (s2 : Int)).length = ns at *
          have HNS := Lib.hid hns
          have HLN2 : Hid ((limbs RB6 (s2 : Int)).length ≤ 100) := Lib.hid (by rw [HNS.out]; exact HLN.out)
          clear hns HD HP HD2 i2 HNS HLN'
          go_wp2
          go_roundw
          case rel => exact ⟨s2, _, _, _, rfl, hs0, MN, HLN2, HGE, hQ12⟩
          case measure => rw [hsv, hsv3]; exact hless
        · have hle : r * r ≤ n := by
            rcases Int.lt_trichotomy ((r : Int) * r) (n : Int) with h | h | h
            · exact_mod_cast Int.le_of_lt h
            · exact_mod_cast (Int.le_of_eq h)
            · exfalso
              have h1 : ¬ z < 0 := fun e => by have := hz1.1 e; omega
              have h2 : ¬ z = 0 := fun e => by have := hz2.1 e; omega
              omega
          obtain rfl : rt = r := by rw [← HRT.out]; exact isqrt_of ⟨hle, HG.out⟩
          have HW := Lib.hid (ref01_write (rt : Int) (by omega) (by have := HLr.out; omega) (.slice a k2 c) w8 M8.out)
          clear hle hz1 hz2
          go_wp2_with fail
          refine HW.out.mono ?_
          rintro e w9 ⟨rfl, hq9⟩
          have hQ9 := Q.trans (Q.trans hqa hQ8) hq9
          go_wp2
          go_ret2
          exact ⟨rfl, hQ9⟩

end Go.Proofs.YtgkikkabmcihhaaGreatDoor
