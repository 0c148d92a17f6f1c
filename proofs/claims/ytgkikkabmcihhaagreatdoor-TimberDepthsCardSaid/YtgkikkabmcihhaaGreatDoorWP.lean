/-
  Walks: timber.stretched, Square, Plumb at small numbers.
-/
import Derived.Test.YtgkikkabmcihhaaGreatDoorWO
import Derived.Lib.SmallJoins
namespace Go.Proofs.YtgkikkabmcihhaaGreatDoor
open Go.RowKit Kp

theorem small_one : Small8 1 := by unfold Small8; decide

theorem rational_Add_one (y : Rat) (hy : Small8 y) (w : World) (hE : Env w) :
    Calls Tryz.prog 66 #[.string ⟨#[49]⟩, .string ⟨(rstr y).toArray⟩] w fun e w' => e = .returned (.tuple #[.string ⟨(rstr (1 + y)).toArray⟩, .int .i64 0]) ∧ Q w w' := by
  have h := rational_Add_small 1 y small_one hy w hE
  rw [rstr_one] at h
  exact h

set_option maxHeartbeats 1000000 in
theorem timber_stretched (p : Rat) (hp : Small8 p) (hpp : Small8 (p * p)) (k : Nat) (h1 : 1 ≤ k) (h2 : k ≤ 1000) (w : World) (hE : Env w) :
    Calls Tryz.prog 44 #[.string ⟨(rstr p).toArray⟩, .int .i64 k] w fun e w' => e = .returned (.tuple #[.string ⟨(rstr (Rat.divInt k (1 : Nat))).toArray⟩, .string ⟨(rstr (1 + p * p)).toArray⟩, .int .i64 0]) ∧ Q w w' := by
  go_enter Tryz.func44, Tryz.ntmps44
  go_wp2_with fail
  refine (rational_Check_small p hp _ hE).mono ?_
  rintro e w1 ⟨rfl, hQ1⟩
  go_wp2_with fail
  refine (rational_Mul_small p p hp hp _ (hE.q hQ1)).mono ?_
  rintro e w2 ⟨rfl, hq2⟩
  have hQ2 := hQ1.trans (hq2.mono hQ1.size)
  clear hq2 hQ1
  go_wp2_with fail
  refine (rational_Add_one (p * p) hpp _ (hE.q hQ2)).mono ?_
  rintro e w3 ⟨rfl, hq3⟩
  have hQ3 := hQ2.trans (hq3.mono hQ2.size)
  clear hq3 hQ2
  go_wp2_with fail
  refine (rational_Of_short k 1 (by decide) (by omega) (by decide) _ (hE.q hQ3)).mono ?_
  rintro e w4 ⟨rfl, hq4⟩
  have hQ4 := hQ3.trans (hq4.mono hQ3.size)
  clear hq4 hQ3
  go_wp2
  go_ret3
  exact ⟨rfl, hQ4⟩

theorem rat_a : (1 + (3/4 : Rat) * (3/4)) = 25/16 := by kernel_rfl
theorem rat_b : (1 / (25/16 : Rat)) = 16/25 := by kernel_rfl
theorem rat_c : Rat.divInt ((200 : Nat) : Int) ((1 : Nat) : Int) = 200 := by kernel_rfl
theorem rstr_p : rstr (3/4) = [51, 47, 52] := by
  have h1 : (3/4 : Rat).num = 3 := by kernel_rfl
  have h2 : (3/4 : Rat).den = 4 := by kernel_rfl
  unfold rstr
  rw [h1, h2]
  simp [Lib.itoa, Lib.decDigits]
theorem normM_400 : normM 400 = (20, 1) := by
  simp [normM, stripAll, primesL, stripP, isqrt]

theorem small_of {q : Rat} {n : Int} {d : Nat} (hn : q.num = n) (hd : q.den = d) (h : n.natAbs < 100000000 ∧ d < 100000000) : Small8 q := by
  unfold Small8; rw [hn, hd]; exact h
theorem s34 : Small8 (3/4) := small_of (n := 3) (d := 4) (by kernel_rfl) (by kernel_rfl) (by decide)
theorem s916 : Small8 ((3/4) * (3/4)) := small_of (n := 9) (d := 16) (by kernel_rfl) (by kernel_rfl) (by decide)
theorem s2516 : Small8 (25/16) := small_of (n := 25) (d := 16) (by kernel_rfl) (by kernel_rfl) (by decide)
theorem s1625 : Small8 (16/25) := small_of (n := 16) (d := 25) (by kernel_rfl) (by kernel_rfl) (by decide)
theorem s200 : Small8 200 := small_of (n := 200) (d := 1) (by kernel_rfl) (by kernel_rfl) (by decide)

theorem stretched_awake (w : World) (hE : Env w) :
    Calls Tryz.prog 44 #[.string ⟨#[51, 47, 52]⟩, .int .i64 200] w fun e w' => e = .returned (.tuple #[.string ⟨(rstr 200).toArray⟩, .string ⟨(rstr (25/16)).toArray⟩, .int .i64 0]) ∧ Q w w' := by
  have h := timber_stretched (3/4) s34 s916 200 (by decide) (by decide) w hE
  rw [rat_c, rat_a, rstr_p] at h
  exact h

theorem rational_Div_one (y : Rat) (hy : Small8 y) (hy0 : y.num ≠ 0) (w : World) (hE : Env w) :
    Calls Tryz.prog 45 #[.string ⟨#[49]⟩, .string ⟨(rstr y).toArray⟩] w fun e w' => e = .returned (.tuple #[.string ⟨(rstr (1 / y)).toArray⟩, .int .i64 0]) ∧ Q w w' := by
  have h := rational_Div_small 1 y small_one hy hy0 w hE
  rw [rstr_one] at h
  exact h

theorem s45 : Small8 (4/5) := small_of (n := 4) (d := 5) (by kernel_rfl) (by kernel_rfl) (by decide)
theorem s54 : Small8 (5/4) := small_of (n := 5) (d := 4) (by kernel_rfl) (by kernel_rfl) (by decide)
theorem s160 : Small8 (200 * (4/5)) := small_of (n := 160) (d := 1) (by kernel_rfl) (by kernel_rfl) (by decide)
theorem s250 : Small8 (200 * (5/4)) := small_of (n := 250) (d := 1) (by kernel_rfl) (by kernel_rfl) (by decide)
theorem s1 : Small8 ((1 : Nat) : Rat) := small_of (n := 1) (d := 1) (by kernel_rfl) (by kernel_rfl) (by decide)
theorem num_ne {q r : Rat} (a b : Int) (ha : q.num = a) (hb : r.num = b) (h : a ≠ b) : q ≠ r := by
  intro e; rw [e, hb] at ha; exact h ha.symm
theorem num_pos {q : Rat} (a : Int) (ha : q.num = a) (h : 0 < a) : 0 < q.num := by rw [ha]; exact h
theorem m1625 : (16/25 : Rat).num.toNat * (16/25 : Rat).den = 400 := by kernel_rfl
theorem m2516 : (25/16 : Rat).num.toNat * (25/16 : Rat).den = 400 := by kernel_rfl
theorem d25 : (16/25 : Rat).den = 25 := by kernel_rfl
theorem d16 : (25/16 : Rat).den = 16 := by kernel_rfl
theorem v45 : Rat.divInt ((20 : Nat) : Int) ((25 : Nat) : Int) = 4/5 := by kernel_rfl
theorem v54 : Rat.divInt ((20 : Nat) : Int) ((16 : Nat) : Int) = 5/4 := by kernel_rfl
theorem v160 : (200 * (4/5) : Rat) = 160 := by kernel_rfl
theorem v250 : (200 * (5/4) : Rat) = 250 := by kernel_rfl
theorem v1 : ((1 : Nat) : Rat) = 1 := by kernel_rfl

theorem make_160 (b : Nat) (t : TypeId) (w : World) (hE : Env w) (hb : Blk w b [.string ⟨(rstr 200).toArray⟩, .string ⟨(rstr (16/25)).toArray⟩] t) :
    Calls Tryz.prog 46 #[.slice (some ⟨b, 0, none⟩) 1 1] w fun e w' => ∃ v, e = .returned (.tuple #[v, .int .i64 0]) ∧ Q w w' ∧
      w'.ownsRow w.heap.size 66 2 v 1 [.string ⟨(rstr 160).toArray⟩, .string ⟨(rstr 1).toArray⟩] := by
  have h := surd_Make_one 200 (16/25) (4/5) 1 s200 s1625 (num_pos 16 (by kernel_rfl) (by decide)) (num_ne 200 0 (by kernel_rfl) (by kernel_rfl) (by decide)) (num_ne 16 1 (by kernel_rfl) (by kernel_rfl) (by decide))
    (by rw [m1625, normM_400, d25]; exact v45) (by rw [m1625, normM_400]) s45 s1 s160 (num_ne 160 0 (by kernel_rfl) (by kernel_rfl) (by decide)) b t w hE hb
  rw [v160, v1] at h
  exact h
theorem make_250 (b : Nat) (t : TypeId) (w : World) (hE : Env w) (hb : Blk w b [.string ⟨(rstr 200).toArray⟩, .string ⟨(rstr (25/16)).toArray⟩] t) :
    Calls Tryz.prog 46 #[.slice (some ⟨b, 0, none⟩) 1 1] w fun e w' => ∃ v, e = .returned (.tuple #[v, .int .i64 0]) ∧ Q w w' ∧
      w'.ownsRow w.heap.size 66 2 v 1 [.string ⟨(rstr 250).toArray⟩, .string ⟨(rstr 1).toArray⟩] := by
  have h := surd_Make_one 200 (25/16) (5/4) 1 s200 s2516 (num_pos 25 (by kernel_rfl) (by decide)) (num_ne 200 0 (by kernel_rfl) (by kernel_rfl) (by decide)) (num_ne 25 1 (by kernel_rfl) (by kernel_rfl) (by decide))
    (by rw [m2516, normM_400, d16]; exact v54) (by rw [m2516, normM_400]) s54 s1 s250 (num_ne 250 0 (by kernel_rfl) (by kernel_rfl) (by decide)) b t w hE hb
  rw [v250, v1] at h
  exact h

set_option maxHeartbeats 1000000 in
theorem timber_Square_awake (w : World) (hE : Env w) :
    Calls Tryz.prog 12 #[.string ⟨#[51, 47, 52]⟩, .int .i64 200] w fun e w' => ∃ v, e = .returned (.tuple #[v, .int .i64 0]) ∧ Q w w' ∧
      w'.ownsRow w.heap.size 66 2 v 1 [.string ⟨(rstr 160).toArray⟩, .string ⟨(rstr 1).toArray⟩] := by
  go_enter Tryz.func12, Tryz.ntmps12
  go_wp2_with fail
  refine (stretched_awake _ hE).mono ?_
  rintro e w1 ⟨rfl, hQ1⟩
  go_wp2_with fail
  refine (rational_Div_one (25/16) s2516 (by rw [show (25/16 : Rat).num = 25 from by kernel_rfl]; decide) _ (hE.q hQ1)).mono ?_
  rintro e w2 ⟨rfl, hq2⟩
  have hQ2 := hQ1.trans (hq2.mono hQ1.size)
  clear hq2 hQ1
  rw [rat_b]
  go_wp2_with fail
  have hq3 := hQ2.alloc hQ2.size (Obj.cells [.string ⟨(rstr 200).toArray⟩, .string ⟨(rstr (16/25)).toArray⟩].toArray 66)
  refine (make_160 w2.heap.size 66 _ (hE.q hq3) (Blk.new w2 _ _)).mono ?_
  rintro e w4 ⟨v, rfl, hq4, hown⟩
  have hQ4 := hq3.trans (hq4.mono hq3.size)
  have hown' := Joins.ownsRow_le hown hq3.size
  clear hq3 hq4 hown
  go_wp2
  go_ret2
  exact ⟨v, rfl, hQ4, hown'⟩

set_option maxHeartbeats 1000000 in
theorem timber_Plumb_awake (w : World) (hE : Env w) :
    Calls Tryz.prog 14 #[.string ⟨#[51, 47, 52]⟩, .int .i64 200] w fun e w' => ∃ v, e = .returned (.tuple #[v, .int .i64 0]) ∧ Q w w' ∧
      w'.ownsRow w.heap.size 66 2 v 1 [.string ⟨(rstr 250).toArray⟩, .string ⟨(rstr 1).toArray⟩] := by
  go_enter Tryz.func14, Tryz.ntmps14
  go_wp2_with fail
  refine (stretched_awake _ hE).mono ?_
  rintro e w2 ⟨rfl, hQ2⟩
  go_wp2_with fail
  have hq3 := hQ2.alloc hQ2.size (Obj.cells [.string ⟨(rstr 200).toArray⟩, .string ⟨(rstr (25/16)).toArray⟩].toArray 66)
  refine (make_250 w2.heap.size 66 _ (hE.q hq3) (Blk.new w2 _ _)).mono ?_
  rintro e w4 ⟨v, rfl, hq4, hown⟩
  have hQ4 := hq3.trans (hq4.mono hq3.size)
  have hown' := Joins.ownsRow_le hown hq3.size
  clear hq3 hq4 hown
  go_wp2
  go_ret2
  exact ⟨v, rfl, hQ4, hown'⟩

end Go.Proofs.YtgkikkabmcihhaaGreatDoor
