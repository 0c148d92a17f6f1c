/-
  Walks: the package integer where numbers are short.
-/
import Derived.Test.YtedijdmenfcjlaaGreatDoorLib
import Derived.Test.YtedijdmenfcjlaaGreatDoorWA
namespace Go.Proofs.YtedijdmenfcjlaaGreatDoor
open Go.RowKit Kp
theorem beq48 {c : UInt8} (h : c ≠ 48) : ((c.toNat : Int) == 48) = false := by rw [toNat48]; simpa using h
set_option maxHeartbeats 400000 in
theorem integer_Check_zero (w : World) :
  Calls Tryz.prog 138 #[.string ⟨[48].toArray⟩] w fun e w' => e = .returned (.int .i64 0) ∧ Q w w' := by
 go_enter Tryz.func138, Tryz.ntmps138
 go_wp2_with (first | (go_at_call 35; refine (lib_TrimMinus [48] _).mono ?_; rintro e w1 ⟨rfl, rfl⟩; rw [show unsig [48] = [48] from rfl]) | (go_at_call 177; refine (lib_TrimDigits [48] (by decide) _).mono ?_; rintro e w1 ⟨rfl, hq⟩; rw [show noDig [48] = [] from by decide]))
 go_ret
 exact ⟨rfl, hq⟩
set_option maxHeartbeats 400000 in
theorem integer_Check (a : Str) (hl : a.length ≤ 1000000000) (w : World) :
  Calls Tryz.prog 138 #[.string ⟨a.toArray⟩] w fun e w' => e = .returned (.int .i64 (ichk a)) ∧ Q w w' := by
 by_cases h48 : a = [48]
 ·subst h48; rw [ichk_48]; exact integer_Check_zero w
 have hu := unsig_len a
 by_cases hn : unsig a = []
 ·rw [ichk_empty hn]
  go_enter Tryz.func138, Tryz.ntmps138
  go_wp2_with (go_at_call 35; refine (lib_TrimMinus a _).mono ?_; rintro e w1 ⟨rfl, rfl⟩; rw [hn])
  go_ret
  exact ⟨rfl, Below.refl _ _⟩
 have hne : (unsig a).isEmpty = false := by simpa using hn
 have hpos : 0 < (unsig a).length := List.length_pos_iff.2 hn
 by_cases h0 : at0 (unsig a) 0 = 48
 ·rw [ichk_zero hn h0 h48]
  have hb : ((((at0 (unsig a) 0).toNat : Int)) == 48) = true := by rw [h0]; rfl
  clear h0
  go_enter Tryz.func138, Tryz.ntmps138
  go_wp2_with (go_at_call 35; refine (lib_TrimMinus a _).mono ?_; rintro e w1 ⟨rfl, rfl⟩)
  go_ret
  exact ⟨rfl, Below.refl _ _⟩
 have hb := beq48 h0
 by_cases hd : AllDig (unsig a)
 ·have hN : (noDig (unsig a)).isEmpty = true := by rw [(noDig_nil _).2 hd]; rfl
  have HC := Lib.hid (ichk_rest hn h0 hd)
  clear h0 hd
  by_cases h3 : 300 < (unsig a).length
  all_goals
   go_enter Tryz.func138, Tryz.ntmps138
   go_wp2_with (first | (go_at_call 35; refine (lib_TrimMinus a _).mono ?_; rintro e w1 ⟨rfl, rfl⟩) | (go_at_call 177; refine (lib_TrimDigits _ (by omega) _).mono ?_; rintro e w1 ⟨rfl, hq⟩))
   go_ret
   refine ⟨ret_int ?_, hq⟩
   rw [HC.out]
   simp [h3]
 ·have hN : (noDig (unsig a)).isEmpty = false := by
   have : noDig (unsig a) ≠ [] := fun e => hd ((noDig_nil _).1 e)
   simpa using this
  rw [ichk_digits hd]
  clear h0 hd
  go_enter Tryz.func138, Tryz.ntmps138
  go_wp2_with (first | (go_at_call 35; refine (lib_TrimMinus a _).mono ?_; rintro e w1 ⟨rfl, rfl⟩) | (go_at_call 177; refine (lib_TrimDigits _ (by omega) _).mono ?_; rintro e w1 ⟨rfl, hq⟩))
  go_ret
  exact ⟨rfl, hq⟩
set_option maxHeartbeats 400000 in
theorem integer_both (a b : Str) (ha : a.length ≤ 1000000000) (hb : b.length ≤ 1000000000) (w : World) :
  Calls Tryz.prog 84 #[.string ⟨a.toArray⟩, .string ⟨b.toArray⟩] w fun e w' => e = .returned (.int .i64 (if ichk a = 0 then ichk b else ichk a)) ∧ Q w w' := by
 by_cases h : ichk a = 0
 ·have H := Lib.hid h
  have hb2 : (ichk a == 0) = true := by simpa using h
  have hb3 : (ichk a != 0) = false := by simpa using h
  clear h
  go_enter Tryz.func84, Tryz.ntmps84
  go_wp2_with fail
  refine (integer_Check a ha _).mono ?_
  rintro e w1 ⟨rfl, hq⟩
  go_wp2_with fail
  refine (integer_Check b hb _).mono ?_
  rintro e w2 ⟨rfl, hq2⟩
  go_wp2
  go_ret
  exact ⟨ret_int (by first | rfl | (rw [if_pos H.out]; rfl)), hq.trans (hq2.mono hq.size)⟩
 ·have H := Lib.hid h
  have hb2 : (ichk a == 0) = false := by simpa using h
  have hb3 : (ichk a != 0) = true := by simpa using h
  clear h
  go_enter Tryz.func84, Tryz.ntmps84
  go_wp2_with fail
  refine (integer_Check a ha _).mono ?_
  rintro e w1 ⟨rfl, hq⟩
  go_wp2_with fail
  go_ret
  exact ⟨ret_int (by first | rfl | (rw [if_neg H.out]; rfl)), hq⟩
set_option maxHeartbeats 400000 in
theorem integer_small (x y : Int) (hx : (Lib.itoa x).length ≤ 18) (hy : (Lib.itoa y).length ≤ 18) (w : World) :
  Calls Tryz.prog 85 #[.string ⟨(Lib.itoa x).toArray⟩, .string ⟨(Lib.itoa y).toArray⟩, .int .i64 18] w fun e w' => e = .returned (.tuple #[.int .i64 x, .int .i64 y, .bool true]) ∧ Q w w' := by
 go_enter Tryz.func85, Tryz.ntmps85
 go_wp2_with fail
 refine (lib_Atoi x hx _).mono ?_
 rintro e w1 ⟨rfl, hq⟩
 go_wp2_with fail
 refine (lib_Atoi y hy _).mono ?_
 rintro e w2 ⟨rfl, hq2⟩
 go_wp2_with fail
 go_quiet (fail)
 go_wp2
 go_ret3
 exact ⟨rfl, Below.drewN (hq.trans (hq2.mono hq.size)) _⟩
end Go.Proofs.YtedijdmenfcjlaaGreatDoor
