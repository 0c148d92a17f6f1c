/-
  Walks: rational.nativeOf at a string with a sign.
-/
import Derived.Test.YtedijdmenfcjlaaGreatDoorWD
namespace Go.Proofs.YtedijdmenfcjlaaGreatDoor
open Go.RowKit Kp
set_option maxRecDepth 100000 in
set_option maxHeartbeats 2000000 in
theorem rational_nativeOf_minus (a : Str) (ha : a.length ≤ 1000000000) (hm : a.head? = some 45) (w : World) :
  Calls Tryz.prog 62 #[.string ⟨a.toArray⟩] w fun e w' => e = .returned (natOfV a) ∧ Q w w' := by
 have hne : a ≠ [] := by intro e; rw [e] at hm; cases hm
 have h : (a == []) = false := by simpa using hne
 have h' := bne_of_f h
 have h2 : 0 < a.length := List.length_pos_iff.2 hne
 have h3 : ((((at0 a 0).toNat : Int) == 45) = true) := by
  rw [head_at0 hne] at hm; rw [Option.some.inj hm]; rfl
 have hown : dropS a 1 = unsig a := by rw [unsig_cons hm]; rfl
 have hlo := dropS_len a 1
 have hl1 := natRest_len (dropS a 1)
 have hl2 := dropS_len (natRest (dropS a 1)) 1
 have hb1 := natN_lt (dropS a 1)
 have hb2 := natN_lt (dropS (natRest (dropS a 1)) 1)
 have hlt : (dropS a 1).length < a.length := by omega
 rcases natOf_ways a (dropS a 1) true hown (by simp [hm]) with ⟨HV, hw | ⟨hw, _, hz⟩ | ⟨hw, hn, hr, hr2, hx⟩⟩ | ⟨hw, hn, hx⟩
 ·have HW := Lib.hid HV
  clear HV hne hm hown
  go_enter Tryz.func62, Tryz.ntmps62
  go_wp2_with (go_at_call 104; refine (rational_nativeInt _ _ (by omega)).mono ?_; rintro e w1 ⟨rfl, n1, rfl⟩)
  exact bodyPost_ret (v := .tuple #[.agg #[.int .i64 0, .int .i64 0], .bool false]) (by simp [results, Tryz.results62, go_sem]) rfl ⟨by rw [HW.out], bt⟩
 ·have HW := Lib.hid HV
  clear HV hne hm hown
  go_enter Tryz.func62, Tryz.ntmps62
  go_wp2_with (go_at_call 104; refine (rational_nativeInt _ _ (by omega)).mono ?_; rintro e w1 ⟨rfl, n1, rfl⟩)
  exact bodyPost_ret (v := .tuple #[.agg #[.int .i64 0, .int .i64 0], .bool false]) (by simp [results, Tryz.results62, go_sem]) rfl ⟨by rw [HW.out], bt⟩
 ·have HW := Lib.hid HV
  have hn : ((natN (dropS a 1) : Int) == 0) = false := hn.elim (fun e => by cases e) id
  clear HV hne hm hown
  have hr' := bne_of_f hr
  rcases hx with hx | ⟨hx, hy | ⟨hy, hz⟩ | ⟨hy, hz, hu⟩ | ⟨hy, hz, hu, hv⟩⟩
  all_goals
   first | have hx' := bne_of_f hx | have hx' := bne_of_t hx
   first | have hz' := bne_of_f hz | skip
   first | have hv' := bne_of_f hv | skip
   go_enter Tryz.func62, Tryz.ntmps62
   go_wp2_with (first | (go_at_call 104; refine (rational_nativeInt _ _ (by omega)).mono ?_; rintro e w1 ⟨rfl, n1, rfl⟩) | (go_at_call 105; refine (rational_gcd _ _ _ (by omega) (by omega)).mono ?_; rintro e w1 ⟨rfl, n1, rfl⟩))
   exact bodyPost_ret (v := .tuple #[.agg #[.int .i64 0, .int .i64 0], .bool false]) (by simp [results, Tryz.results62, go_sem]) rfl ⟨by rw [HW.out], bt⟩
 ·have hn : ((natN (dropS a 1) : Int) == 0) = false := hn.elim (fun e => by cases e) id
  clear hne hm hown
  rcases hx with ⟨hx, HV⟩ | ⟨hr, hr2, hx, hy, hz, hu, hv, HV⟩
  all_goals
   first | (have hx' := bne_of_t hx; have hv' := bne_of_t hv; have hr' := bne_of_f hr) | skip
   have HW := Lib.hid HV
   clear HV
   go_enter Tryz.func62, Tryz.ntmps62
   go_wp2_with (first | (go_at_call 104; refine (rational_nativeInt _ _ (by omega)).mono ?_; rintro e w1 ⟨rfl, n1, rfl⟩) | (go_at_call 105; refine (rational_gcd _ _ _ (by omega) (by omega)).mono ?_; rintro e w1 ⟨rfl, n1, rfl⟩))
   first
    | exact bodyPost_ret (v := .tuple #[.agg #[.int .i64 (-(natN (dropS a 1) : Int)), .int .i64 1], .bool true]) (by simp [results, Tryz.results62, go_sem]) rfl ⟨by rw [HW.out]; rfl, bt⟩
    | exact bodyPost_ret (v := .tuple #[.agg #[.int .i64 (-(natN (dropS a 1) : Int)), .int .i64 (natN (dropS (natRest (dropS a 1)) 1))], .bool true]) (by simp [results, Tryz.results62, go_sem]) rfl ⟨by rw [HW.out]; rfl, bt⟩
theorem rational_nativeOf (a : Str) (ha : a.length ≤ 1000000000) (w : World) :
  Calls Tryz.prog 62 #[.string ⟨a.toArray⟩] w fun e w' => e = .returned (natOfV a) ∧ Q w w' := by
 by_cases hm : a.head? = some 45
 ·exact rational_nativeOf_minus a ha hm w
 ·exact rational_nativeOf_plus a ha hm w
end Go.Proofs.YtedijdmenfcjlaaGreatDoor
