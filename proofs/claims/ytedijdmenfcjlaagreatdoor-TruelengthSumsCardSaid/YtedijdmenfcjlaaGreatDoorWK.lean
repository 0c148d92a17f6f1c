/-
  Walks: rational.Of at short ints, Compare at short numbers; root.native, nativeRoot.
-/
import Derived.Test.YtedijdmenfcjlaaGreatDoorWJ
import Derived.Test.YtedijdmenfcjlaaGreatDoorNatOf
namespace Go.Proofs.YtedijdmenfcjlaaGreatDoor
open Go.RowKit Kp
set_option maxHeartbeats 400000 in
theorem rational_Of_short (n : Int) (k : Nat) (hk : 0 < k) (hn : n.natAbs < 100000000000000000) (hd : k < 100000000000000000) (w : World) (hE : Env w) :
  Calls Tryz.prog 40 #[.int .i64 n, .int .i64 k] w fun e w' => e = .returned (.tuple #[.string ⟨(rstr (Rat.divInt n k)).toArray⟩, .int .i64 0]) ∧ Q w w' := by
 have l1 := itoa_short hn
 have l2 := itoa_short (x := (k : Int)) (by omega)
 have b0 : ((k : Int) == 0) = false := by simp; omega
 by_cases h1 : k = 1
 ·subst h1
  have HR : Hid (rstr (Rat.divInt n (1 : Nat)) = Lib.itoa n) := Lib.hid (by rw [rstr_divInt_f n 1 (by decide)]; simp)
  go_enter Tryz.func40, Tryz.ntmps40
  go_wp2_with fail
  refine (lib_Itoa n (by omega) (by omega) _ hE).mono ?_
  rintro e w1 ⟨rfl, hq1⟩
  go_wp2
  go_ret2
  exact ⟨by rw [HR.out]; rfl, hq1⟩
 ·have b1 : ((k : Int) == 1) = false := by simp; omega
  go_enter Tryz.func40, Tryz.ntmps40
  go_wp2_with fail
  refine (lib_Itoa n (by omega) (by omega) _ hE).mono ?_
  rintro e w1 ⟨rfl, hq1⟩
  go_wp2_with fail
  refine (lib_Itoa (k : Int) (by omega) (by omega) _ (hE.q hq1)).mono ?_
  rintro e w2 ⟨rfl, hq2⟩
  have hQ2 : Q w w2 := hq1.trans (hq2.mono hq1.size)
  go_wp2_with fail
  refine (rational_number_short n k hk l1 l2 _ (hE.q hQ2)).mono ?_
  rintro e w3 ⟨rfl, hq3⟩
  go_wp2
  go_ret2
  exact ⟨rfl, hQ2.trans (hq3.mono hQ2.size)⟩
set_option maxHeartbeats 400000 in
theorem root_native (x : Int) (h : (Lib.itoa x).length ≤ 17) (w : World) :
  Calls Tryz.prog 122 #[.string ⟨(Lib.itoa x).toArray⟩] w fun e w' => e = .returned (.tuple #[.int .i64 x, .bool true]) ∧ Q w w' := by
 go_enter Tryz.func122, Tryz.ntmps122
 go_wp2_with fail
 refine (lib_Atoi x (by omega) _).mono ?_
 rintro e w1 ⟨rfl, hq1⟩
 go_wp2
 go_quiet (fail)
 go_wp2
 go_ret2
 exact ⟨rfl, Below.drewN hq1 _⟩
set_option maxHeartbeats 400000 in
theorem root_native_long (s : Str) (h : 17 < s.length) (hl : s.length ≤ 1000000000) (w : World) :
  Calls Tryz.prog 122 #[.string ⟨s.toArray⟩] w fun e w' => e = .returned (.tuple #[.int .i64 0, .bool false]) ∧ w = w' := by
 go_enter Tryz.func122, Tryz.ntmps122
 go_wp2
 go_ret2
 exact ⟨rfl, rfl⟩
set_option maxHeartbeats 400000 in
theorem root_nativeRoot (n : Nat) (hn : n < 100000000000000000) (w : World) :
  Calls Tryz.prog 169 #[.int .i64 n] w fun e w' => e = .returned (.int .i64 (isqrt n)) ∧ w = w' := by
 by_cases h2 : n < 2
 ·have HR := Lib.hid (isqrt_small h2)
  go_enter Tryz.func169, Tryz.ntmps169
  go_wp2
  go_ret
  exact ⟨ret_int (by rw [HR.out]; all_goals rfl), rfl⟩
 ·have hs := start_ge (n := n) (by omega)
  have hp57 : (2 : Nat) ^ 57 = 144115188075855872 := by decide
  have hbl : Lib.bitLen n ≤ 57 := bitLen_le (by omega)
  clear hp57
  have HS := Lib.hid hs
  clear hs
  go_enter Tryz.func169, Tryz.ntmps169
  go_wp2_with (go_at_call 83; go_loud (refine (Tryz.bits_Len _ _ (by omega) (by omega)).mono ?_); rintro e w1 ⟨rfl, rfl⟩)
  go_loop [3] (fun x => ∃ r : Nat, 0 < r ∧ r ≤ 1000000000 ∧ x = .int .i64 r ∧ n < (r + 1) * (r + 1)) (fun x => (intOf x).toNat)
  case atStart =>
   have hk : (Lib.bitLen n + 1) / 2 ≤ 29 := by omega
   have h29 : (2 : Nat) ^ ((Lib.bitLen n + 1) / 2) ≤ 2 ^ 29 := Nat.pow_le_pow_right (by decide) hk
   have p29 : (2 : Nat) ^ 29 = 536870912 := by decide
   refine ⟨2 ^ ((Lib.bitLen n + 1) / 2), Nat.pow_pos (by decide), by omega, ?_, HS.out⟩
   have e : ((2 : Int) ^ ((Lib.bitLen n + 1) / 2)) = ((2 ^ ((Lib.bitLen n + 1) / 2) : Nat) : Int) := by simp
   rw [e]
   generalize hg : (2 : Nat) ^ ((Lib.bitLen n + 1) / 2) = g at *
   have : wrap64 ((g : Nat) : Int) = (g : Int) := by unfold wrap64; omega
   rw [this]
  case round =>
   obtain ⟨r, hr0, hr1, rfl, hlt⟩ := hrel
   have HL := Lib.hid hlt
   clear hlt
   have hq : n / r ≤ n := Nat.div_le_self _ _
   have hq1 : (n : Int) / r = ((n / r : Nat) : Int) := by simp
   have hq2 : 0 ≤ (n : Int) / r := Int.ediv_nonneg (by omega) (by omega)
   have hq3 : (n : Int) / r ≤ 100000000000000000 := Int.le_trans (Int.ediv_le_self _ (by omega)) (by omega)
   have hr2 : ((r : Int) == 0) = false := by simp; omega
   have HQ := Lib.hid hq1
   clear hq1
   by_cases hd : r ≤ (r + n / r) / 2
   ·have HR := Lib.hid (isqrt_of (newton_done hr0 HL.out hd))
    have hd' : (r : Int) ≤ ((r : Int) + (n : Int) / r) / 2 := by rw [HQ.out]; omega
    clear hd
    go_wp2
    go_ret
    exact ⟨ret_int (by rw [HR.out]; all_goals rfl), rfl⟩
   ·have hd' : ((r : Int) + (n : Int) / r) / 2 < r := by rw [HQ.out]; omega
    have HN := Lib.hid (newton_ge (n := n) hr0)
    have hpos : 0 < (r + n / r) / 2 := by
     rcases Nat.eq_zero_or_pos ((r + n / r) / 2) with h0 | h0
     ·have := HN.out; rw [h0] at this; omega
     ·exact h0
    go_wp2
    go_round
    case rel => exact ⟨(r + n / r) / 2, hpos, by omega, by rw [HQ.out]; go_num, HN.out⟩
    case measure => simp only [intOf]; rw [HQ.out]; omega
end Go.Proofs.YtedijdmenfcjlaaGreatDoor
