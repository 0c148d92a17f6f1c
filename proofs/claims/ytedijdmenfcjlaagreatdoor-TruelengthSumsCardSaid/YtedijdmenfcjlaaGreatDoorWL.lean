/-
  Walks: root.nativeNormal.
-/
import Derived.Test.YtedijdmenfcjlaaGreatDoorWK
import Derived.Test.YtedijdmenfcjlaaGreatDoorBlk
namespace Go.Proofs.YtedijdmenfcjlaaGreatDoor
open Go.RowKit Kp
def primeArr : Array Value := (primeStrs.map fun s => Value.string ⟨s.toArray⟩).toArray
theorem dec_two {n : Nat} (h : n < 100) : Lib.decDigits n = if n < 10 then [UInt8.ofNat (48 + n)] else [UInt8.ofNat (48 + n / 10), UInt8.ofNat (48 + n % 10)] := by
 rw [Lib.decDigits]
 split
 ·rfl
 ·rw [Lib.decDigits, dif_pos (by omega)]; rfl
theorem primeStr_at (k : Nat) (h : k < 25) : primeStrs.getD k [] = Lib.itoa (primesL.getD k 0 : Int) := by
 have key : ∀ j : Fin 25, primesL.getD j.val 0 < 100 ∧ primeStrs.getD j.val [] = if primesL.getD j.val 0 < 10 then [UInt8.ofNat (48 + primesL.getD j.val 0)] else [UInt8.ofNat (48 + primesL.getD j.val 0 / 10), UInt8.ofNat (48 + primesL.getD j.val 0 % 10)] := by decide
 obtain ⟨h1, h2⟩ := key ⟨k, h⟩
 rw [← dec_eq_itoa, dec_two h1]; exact h2
theorem prime_bounds (k : Nat) (h : k < 25) : 2 ≤ primesL.getD k 0 ∧ primesL.getD k 0 ≤ 97 := by
 have : ∀ j : Fin 25, 2 ≤ primesL.getD j.val 0 ∧ primesL.getD j.val 0 ≤ 97 := by decide
 exact this ⟨k, h⟩
theorem prime_short (k : Nat) (h : k < 25) : (Lib.itoa (primesL.getD k 0 : Int)).length ≤ 17 := by
 have := prime_bounds k h
 have h2 : (Lib.decDigits (primesL.getD k 0)).length ≤ 2 := (decDigits_len_le _ 2 (by decide)).2 (by omega)
 rw [← dec_eq_itoa]; omega
theorem prime_index0 (k : Nat) (h : k = 0 ∨ k = 1 ∨ k = 2 ∨ k = 3 ∨ k = 4 ∨ k = 5 ∨ k = 6 ∨ k = 7 ∨ k = 8 ∨ k = 9 ∨ k = 10 ∨ k = 11 ∨ k = 12 ∨ k = 13 ∨ k = 14 ∨ k = 15 ∨ k = 16 ∨ k = 17 ∨ k = 18 ∨ k = 19 ∨ k = 20 ∨ k = 21 ∨ k = 22 ∨ k = 23 ∨ k = 24) (w : World) : (Instr.index 236 (.agg primeArr) (.int .i64 (k : Nat))).run Tryz.prog w = .ok (.string ⟨(primeStrs.getD k []).toArray⟩) w := by
 rcases h with rfl | rfl | rfl | rfl | rfl | rfl | rfl | rfl | rfl | rfl | rfl | rfl | rfl | rfl | rfl | rfl | rfl | rfl | rfl | rfl | rfl | rfl | rfl | rfl | rfl
 all_goals kernel_rfl
theorem prime_index (k : Nat) (h : k < 25) (w : World) : (Instr.index 236 (.agg primeArr) (.int .i64 (k : Nat))).run Tryz.prog w = .ok (.string ⟨(Lib.itoa (primesL.getD k 0 : Int)).toArray⟩) w := by
 rw [← primeStr_at k h]
 exact prime_index0 k (by omega) w
def NormRel (w : World) (n : Nat) (c l i : Value) (wr : World) : Prop :=
 ∃ (k a b : Nat), k ≤ 25 ∧ i = .int .i64 k ∧ c = .int .i64 a ∧ l = .int .i64 b ∧ stripAll (primesL.take k) (1, n) = (a, b) ∧ StripInv n a b ∧ Q w wr ∧ Env wr
def PrimeRel (w : World) (n k : Nat) (c l : Value) (wr : World) : Prop :=
 ∃ (a b : Nat), c = .int .i64 a ∧ l = .int .i64 b ∧ stripP (primesL.getD k 0) a b = stripAll (primesL.take (k + 1)) (1, n) ∧ StripInv n a b ∧ Q w wr ∧ Env wr
theorem StrsAt.row {w : World} {g : Nat} (h : StrsAt w g primeStrs) : ∃ t f, w.heap[g]? = some (.cells primeArr t f) := h
set_option maxRecDepth 100000 in
set_option maxHeartbeats 1000000 in
theorem root_nativeNormal (n d : Nat) (hn : 0 < n) (hd : 0 < d) (hnd : n * d < 100000000000000000) (w : World) (hE : Env w) :
  Calls Tryz.prog 123 #[.int .i64 n, .int .i64 d] w fun e w' => e = .returned (.tuple #[.string ⟨(rstr (Rat.divInt (normM (n * d)).1 d)).toArray⟩, .string ⟨(Lib.itoa ((normM (n * d)).2 : Int)).toArray⟩]) ∧ Q w w' := by
 obtain ⟨tp, fp, hrow⟩ := hE.primes.row
 have hm : 0 < n * d := Nat.mul_pos hn hd
 have hdl : d < 100000000000000000 := by
  have : 1 * d ≤ n * d := Nat.mul_le_mul_right _ hn
  omega
 have e0 : (n : Int) * (d : Int) = ((n * d : Nat) : Int) := by simp
 have E0 := Lib.hid e0
 have b1 : (n : Int) * (d : Int) ≤ 100000000000000000 := by rw [e0]; omega
 have b0 : 0 ≤ (n : Int) * (d : Int) := by rw [e0]; omega
 clear e0
 go_enter Tryz.func123, Tryz.ntmps123
 go_wp2_with (refine wpList_load_row rfl 236 _ rfl 1 rfl tp primeArr fp _ hrow Tryz.underlying236 rfl (by kernel_rfl) ?_)
 go_loopw [6, 7, 19] (NormRel w (n * d)) (fun _ _ i _ => 25 - (intOf i).toNat)
 case atStart => exact ⟨0, 1, n * d, by omega, rfl, rfl, by rw [E0.out], rfl, ⟨hm, by decide, by simp⟩, Below.refl _ _, hE⟩
 case round =>
  obtain ⟨k, a, b, hk, rfl, rfl, rfl, hs, hinv, hQ, hEr⟩ := hrel
  have HS := Lib.hid hs
  have HI := Lib.hid hinv
  clear hs hinv
  by_cases hlt : k < 25
  ·have hidx := prime_index k hlt
   have hp := prime_bounds k hlt
   have hps := prime_short k hlt
   have HT := Lib.hid (stripAll_take_succ k hlt (1, n * d))
   generalize hpp : primesL.getD k 0 = p at *
   have HP := Lib.hid hpp
   clear hpp
   go_wp2_with (go_at_call 139; go_loud (refine (lib_Atoi (p : Int) (by omega) _).mono ?_); rintro e w1 ⟨rfl, hq1⟩)
   have hQ1 : Q w w1 := hQ.trans (hq1.mono hQ.size)
   have hE1 := hE.q hQ1
   clear hidx
   go_loopw [6, 7] (PrimeRel w (n * d) k) (fun _ l _ => (intOf l).toNat)
   case atStart => exact ⟨a, b, rfl, rfl, by rw [HT.out, HS.out, HP.out], HI.out, hQ1, hE1⟩
   case round =>
    obtain ⟨a', b', rfl, rfl, hs', hinv', hQ', hE'⟩ := hrel
    have HS' := Lib.hid hs'
    have HI' := Lib.hid hinv'
    have hb' := hinv'.bounds.1
    have ha' := hinv'.small hnd
    clear hs' hinv'
    have hpp0 : 4 ≤ p * p := Nat.mul_le_mul hp.1 hp.1
    have hpp1 : p * p ≤ 97 * 97 := Nat.mul_le_mul hp.2 hp.2
    have hap : a' * p ≤ 1000000000 * 97 := Nat.mul_le_mul (by omega) hp.2
    have c1 : (p : Int) * p = ((p * p : Nat) : Int) := by simp
    have c2 : (a' : Int) * p = ((a' * p : Nat) : Int) := by simp
    have d1 : (p : Int) * p ≤ 10000 := by rw [c1]; omega
    have d2 : 0 < (p : Int) * p := by rw [c1]; omega
    have d3 : (a' : Int) * p ≤ 100000000000 := by rw [c2]; omega
    have d4 : 0 ≤ (a' : Int) * p := by rw [c2]; omega
    have d5 : ((p : Int) * p == 0) = false := by simp; omega
    have c3 : (b' : Int) % ((p : Int) * p) = ((b' % (p * p) : Nat) : Int) := by simp
    have c4 : (b' : Int) / ((p : Int) * p) = ((b' / (p * p) : Nat) : Int) := by simp
    have d6 : 0 ≤ (b' : Int) / ((p : Int) * p) := Int.ediv_nonneg (by omega) (by omega)
    have hble : b' / (p * p) ≤ b' := Nat.div_le_self _ _
    have d7 : (b' : Int) / ((p : Int) * p) ≤ 100000000000000000 := Int.le_trans (Int.ediv_le_self _ (by omega)) (by omega)
    have C2 := Lib.hid c2
    have C4 := Lib.hid c4
    by_cases hz : b' % (p * p) = 0
    ·have t : ((b' : Int) % ((p : Int) * p) == 0) = true := by rw [c3, hz]; rfl
     have HN := Lib.hid (HI'.out.next hp.1 hz)
     have hlt' : b' / (p * p) < b' := Nat.div_lt_self HI'.out.pos (by omega)
     have HY := Lib.hid (stripP_yes (c := a') hp.1 HI'.out.pos hz)
     clear c1 c2 c3 c4 hz
     go_wp2
     go_quiet (fail)
     go_wp2
     go_roundw
     case rel => exact ⟨a' * p, b' / (p * p), by rw [C2.out], by rw [C4.out], by rw [HP.out, ← HY.out]; rw [HP.out] at HS'; exact HS'.out, HN.out, Below.drewN hQ' _, hE'.drewN _⟩
     case measure => simp only [intOf]; rw [C4.out, Int.toNat_natCast, Int.toNat_natCast]; exact hlt'
    ·have t : ((b' : Int) % ((p : Int) * p) == 0) = false := by rw [c3]; simp; omega
     have HY := Lib.hid (stripP_no (p := p) (c := a') (m := b') hz)
     clear c1 c2 c3 c4 hz
     go_wp2
     go_roundw
     case rel => exact ⟨k + 1, a', b', by omega, by go_num, rfl, rfl, by rw [← HS'.out, HP.out, HY.out], HI'.out, hQ', hE'⟩
     case measure => simp only [intOf]; omega
  ·obtain rfl : k = 25 := by omega
   have hble := HI.out.bounds.1
   have hasm := HI.out.small hnd
   have hsq := (isqrt_spec b).1
   have hrle := isqrt_le b
   have HM : Hid (normM (n * d) = if isqrt b * isqrt b = b then (a * isqrt b, 1) else (a, b)) := Lib.hid (by
    unfold normM
    have e : stripAll primesL (1, n * d) = (a, b) := by rw [← HS.out]; rfl
    rw [e])
   have c1 : (isqrt b : Int) * (isqrt b : Int) = ((isqrt b * isqrt b : Nat) : Int) := by simp
   have d1 : (isqrt b : Int) * (isqrt b : Int) ≤ 100000000000000000 := by rw [c1]; omega
   have d2 : 0 ≤ (isqrt b : Int) * (isqrt b : Int) := by rw [c1]; omega
   have har : a * isqrt b < 100000000000000000 := by
    have e1 := HI.out.eq
    have e2 : (a * isqrt b) * (a * isqrt b) ≤ a * a * b := by
     have : (a * isqrt b) * (a * isqrt b) = a * a * (isqrt b * isqrt b) := by grind
     rw [this]; exact Nat.mul_le_mul_left _ hsq
    rcases Nat.lt_or_ge (a * isqrt b) 100000000000000000 with x | x
    ·exact x
    ·have : 1 * (a * isqrt b) ≤ (a * isqrt b) * (a * isqrt b) := Nat.mul_le_mul_right _ (by omega)
     omega
   have c2 : (a : Int) * (isqrt b : Int) = ((a * isqrt b : Nat) : Int) := by simp
   have d3 : (a : Int) * (isqrt b : Int) < 100000000000000000 := by rw [c2]; omega
   have d4 : 0 ≤ (a : Int) * (isqrt b : Int) := by rw [c2]; omega
   have HB := Lib.hid (root_nativeRoot b (by omega))
   have C2 := Lib.hid c2
   by_cases hz : isqrt b * isqrt b = b
   ·have t : ((isqrt b : Int) * (isqrt b : Int) == (b : Int)) = true := by rw [c1, hz]; simp
    have HZ := Lib.hid hz
    clear c1 c2 hz hsq
    generalize isqrt b = r at *
    go_wp2_with fail
    refine (HB.out _).mono ?_
    rintro e w1 ⟨rfl, rfl⟩
    go_wp2_with fail
    refine (rational_Of_short _ d hd (by omega) (by omega) _ hEr).mono ?_
    rintro e w2 ⟨rfl, hq2⟩
    have hQ2 : Q w w2 := hQ.trans (hq2.mono hQ.size)
    go_wp2_with fail
    refine (lib_Itoa _ (by omega) (by omega) _ (hE.q hQ2)).mono ?_
    rintro e w3 ⟨rfl, hq3⟩
    go_wp2
    go_ret2
    exact ⟨by rw [HM.out, if_pos HZ.out]; simp only; rw [← C2.out]; rfl, hQ2.trans (hq3.mono hQ2.size)⟩
   ·have t : ((isqrt b : Int) * (isqrt b : Int) == (b : Int)) = false := by rw [c1]; simp; omega
    have HZ := Lib.hid hz
    clear c1 c2 hz hsq
    generalize isqrt b = r at *
    go_wp2_with fail
    refine (HB.out _).mono ?_
    rintro e w1 ⟨rfl, rfl⟩
    go_wp2_with fail
    refine (rational_Of_short _ d hd (by omega) (by omega) _ hEr).mono ?_
    rintro e w2 ⟨rfl, hq2⟩
    have hQ2 : Q w w2 := hQ.trans (hq2.mono hQ.size)
    go_wp2_with fail
    refine (lib_Itoa _ (by omega) (by omega) _ (hE.q hQ2)).mono ?_
    rintro e w3 ⟨rfl, hq3⟩
    go_wp2
    go_ret2
    exact ⟨by rw [HM.out, if_neg HZ.out]; rfl, hQ2.trans (hq3.mono hQ2.size)⟩
end Go.Proofs.YtedijdmenfcjlaaGreatDoor
