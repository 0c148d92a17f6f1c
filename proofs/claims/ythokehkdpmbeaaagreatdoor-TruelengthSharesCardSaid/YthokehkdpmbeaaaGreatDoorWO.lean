/-
  Walks: surd.visit and surd.Make at one term of small numbers.
-/
import Derived.Test.YthokehkdpmbeaaaGreatDoorWN
namespace Go.Proofs.YthokehkdpmbeaaaGreatDoor
open Go.RowKit Kp

set_option maxHeartbeats 400000 in
theorem insertionSort_one (ad : Option Addr) (cap : Nat) (f : Value) (w : World) :
    Calls Tryz.prog 161 #[.slice ad 1 cap, .int .i64 0, .int .i64 1, f] w fun e w' => (∃ v, e = .returned v) ∧ w = w' := by
  go_enter Tryz.func161, Tryz.ntmps161
  go_wp2
  go_loop [8] (fun i => i = .int .i64 1) (fun _ => 0)
  case atStart => rfl
  case round =>
    subst hrel
    go_wp2
    go_end0
    exact ⟨⟨_, rfl⟩, rfl⟩

set_option maxHeartbeats 400000 in
theorem pdqsort_one (ad : Option Addr) (cap : Nat) (k : Int) (f : Value) (w : World) :
    Calls Tryz.prog 114 #[.slice ad 1 cap, .int .i64 0, .int .i64 1, .int .i64 k, f] w fun e w' => (∃ v, e = .returned v) ∧ w = w' := by
  go_enter Tryz.func114, Tryz.ntmps114
  go_wp2
  go_loop [1, 2, 3] (fun x y _ => x = .int .i64 0 ∧ y = .int .i64 1) (fun _ _ _ => 0)
  case atStart => exact ⟨rfl, rfl⟩
  case round =>
    obtain ⟨rfl, rfl⟩ := hrel
    go_wp2_with fail
    refine (insertionSort_one ad cap f _).mono ?_
    rintro e w1 ⟨⟨v, rfl⟩, rfl⟩
    go_wp2
    (try simp only [Exit.inBlock, Exit.then])
    refine bodyPost_ret (results_none rfl _ _ _) rfl ?_
    exact ⟨⟨_, rfl⟩, rfl⟩

set_option maxHeartbeats 400000 in
theorem sortFunc_one (ad : Option Addr) (cap : Nat) (f : Value) (w : World) :
    Calls Tryz.prog 69 #[.slice ad 1 cap, f] w fun e w' => (∃ v, e = .returned v) ∧ w = w' := by
  go_enter Tryz.func69, Tryz.ntmps69
  go_wp2_with fail
  refine (Tryz.bits_Len _ _ (by omega) (by omega)).mono ?_
  rintro e w1 ⟨rfl, rfl⟩
  go_wp2_with fail
  refine (pdqsort_one ad cap _ f _).mono ?_
  rintro e w1 ⟨⟨v, rfl⟩, rfl⟩
  go_wp2
  go_end0
  exact ⟨⟨_, rfl⟩, rfl⟩

theorem rstr_nat (n : Nat) : rstr (n : Rat) = Lib.itoa (n : Int) := by
  unfold rstr; rw [if_pos (Rat.den_natCast n), Rat.num_natCast]
theorem rstr_zero : rstr 0 = [48] := by
  have := rstr_nat 0; rw [show ((0 : Nat) : Rat) = 0 from rfl] at this; rw [this]; exact itoa_zero
theorem rstr_one : rstr 1 = [49] := by
  have := rstr_nat 1; rw [show ((1 : Nat) : Rat) = 1 from rfl] at this; rw [this]; exact itoa_one

end Go.Proofs.YthokehkdpmbeaaaGreatDoor
