/-
  Walks: sum, difference, product and quotient of numbers with short parts. (Printed by mkquick.py.)
-/
import Derived.Test.YtedijdmenfcjlaaGreatDoorWH
namespace Go.Proofs.YtedijdmenfcjlaaGreatDoor
open Go.RowKit Kp
theorem mul_abs_le {a b : Int} (ha : a.natAbs < 100000000) (hb : b.natAbs < 100000000) : -10000000000000000 ≤ a * b ∧ a * b ≤ 10000000000000000 := by
 have h : a.natAbs * b.natAbs ≤ 100000000 * 100000000 := Nat.mul_le_mul (by omega) (by omega)
 rw [← Int.natAbs_mul] at h
 omega
set_option maxHeartbeats 1000000 in
theorem rational_Mul_native (x y : Rat) (hx : Small8 x) (hy : Small8 y) (w : World) :
  Calls Tryz.prog 109 #[.agg #[.int .i64 x.num, .int .i64 (x.den : Int)], .agg #[.int .i64 y.num, .int .i64 (y.den : Int)]] w fun e w' => e = .returned (.agg #[.int .i64 (x.num * y.num), .int .i64 ((x.den : Int) * y.den)]) ∧ Q w w' := by
 obtain ⟨hx1, hx2⟩ := hx
 obtain ⟨hy1, hy2⟩ := hy
 have m0 := mul_abs_le (a := x.num) (b := y.num) (by omega) (by omega)
 have m1 := mul_abs_le (a := (x.den : Int)) (b := (y.den : Int)) (by omega) (by omega)
 go_enter Tryz.func109, Tryz.ntmps109
 go_wp2
 refine bodyPost_ret (v := .agg #[.int .i64 (x.num * y.num), .int .i64 ((x.den : Int) * y.den)]) ?_ rfl ⟨rfl, bt⟩
 simp [results, Tryz.results109, go_sem]
set_option maxHeartbeats 1000000 in
theorem rational_Add_native (x y : Rat) (hx : Small8 x) (hy : Small8 y) (w : World) :
  Calls Tryz.prog 112 #[.agg #[.int .i64 x.num, .int .i64 (x.den : Int)], .agg #[.int .i64 y.num, .int .i64 (y.den : Int)]] w fun e w' => e = .returned (.agg #[.int .i64 (x.num * y.den + y.num * x.den), .int .i64 ((x.den : Int) * y.den)]) ∧ Q w w' := by
 obtain ⟨hx1, hx2⟩ := hx
 obtain ⟨hy1, hy2⟩ := hy
 have m0 := mul_abs_le (a := x.num) (b := (y.den : Int)) (by omega) (by omega)
 have m1 := mul_abs_le (a := y.num) (b := (x.den : Int)) (by omega) (by omega)
 have m2 := mul_abs_le (a := (x.den : Int)) (b := (y.den : Int)) (by omega) (by omega)
 go_enter Tryz.func112, Tryz.ntmps112
 go_wp2
 refine bodyPost_ret (v := .agg #[.int .i64 (x.num * y.den + y.num * x.den), .int .i64 ((x.den : Int) * y.den)]) ?_ rfl ⟨rfl, bt⟩
 simp [results, Tryz.results112, go_sem]
set_option maxHeartbeats 1000000 in
theorem rational_Sub_native (x y : Rat) (hx : Small8 x) (hy : Small8 y) (w : World) :
  Calls Tryz.prog 220 #[.agg #[.int .i64 x.num, .int .i64 (x.den : Int)], .agg #[.int .i64 y.num, .int .i64 (y.den : Int)]] w fun e w' => e = .returned (.agg #[.int .i64 (x.num * y.den - y.num * x.den), .int .i64 ((x.den : Int) * y.den)]) ∧ Q w w' := by
 obtain ⟨hx1, hx2⟩ := hx
 obtain ⟨hy1, hy2⟩ := hy
 have m0 := mul_abs_le (a := x.num) (b := (y.den : Int)) (by omega) (by omega)
 have m1 := mul_abs_le (a := y.num) (b := (x.den : Int)) (by omega) (by omega)
 have m2 := mul_abs_le (a := (x.den : Int)) (b := (y.den : Int)) (by omega) (by omega)
 go_enter Tryz.func220, Tryz.ntmps220
 go_wp2
 refine bodyPost_ret (v := .agg #[.int .i64 (x.num * y.den - y.num * x.den), .int .i64 ((x.den : Int) * y.den)]) ?_ rfl ⟨rfl, bt⟩
 simp [results, Tryz.results220, go_sem]
set_option maxHeartbeats 1000000 in
theorem rational_Div_native (x y : Rat) (hx : Small8 x) (hy : Small8 y) (w : World) :
  Calls Tryz.prog 157 #[.agg #[.int .i64 x.num, .int .i64 (x.den : Int)], .agg #[.int .i64 y.num, .int .i64 (y.den : Int)]] w fun e w' => e = .returned (.agg #[.int .i64 (x.num * y.den), .int .i64 ((x.den : Int) * y.num)]) ∧ Q w w' := by
 obtain ⟨hx1, hx2⟩ := hx
 obtain ⟨hy1, hy2⟩ := hy
 have m0 := mul_abs_le (a := x.num) (b := (y.den : Int)) (by omega) (by omega)
 have m1 := mul_abs_le (a := (x.den : Int)) (b := y.num) (by omega) (by omega)
 go_enter Tryz.func157, Tryz.ntmps157
 go_wp2
 refine bodyPost_ret (v := .agg #[.int .i64 (x.num * y.den), .int .i64 ((x.den : Int) * y.num)]) ?_ rfl ⟨rfl, bt⟩
 simp [results, Tryz.results157, go_sem]
theorem native_number (n d : Int) (hd : d ≠ 0) (hn : n.natAbs ≤ 100000000000000000) (hd1 : d.natAbs ≤ 100000000000000000) (w : World) (hE : Env w) :
  Calls Tryz.prog 164 #[.agg #[.int .i64 n, .int .i64 d]] w fun e w' => e = .returned (.string ⟨(rstr (Rat.divInt n d)).toArray⟩) ∧ Q w w' := by
 by_cases h : 0 < d
 ·obtain ⟨k, rfl⟩ := Int.eq_ofNat_of_zero_le (Int.le_of_lt h)
  exact native_number_pos n k (by omega) hn (by omega) w hE
 ·obtain ⟨k, hk⟩ := Int.eq_ofNat_of_zero_le (show 0 ≤ -d by omega)
  obtain rfl : d = -(k : Int) := by omega
  exact native_number_neg n k (by omega) hn (by omega) w hE
set_option maxRecDepth 100000 in
set_option maxHeartbeats 1000000 in
theorem rational_quick_Mul (x y : Rat) (hx : Small8 x) (hy : Small8 y) (w : World) (hE : Env w) :
  Calls Tryz.prog 108 #[.string ⟨(rstr x).toArray⟩, .string ⟨(rstr y).toArray⟩, .func (.func 109) #[] #[]] w fun e w' => e = .returned (.tuple #[.string ⟨(rstr (x * y)).toArray⟩, .bool true]) ∧ Q w w' := by
 have hlx := small_len hx
 have hly := small_len hy
 have hxd := x.den_nz
 have hyd := y.den_nz
 have HR : Hid (Rat.divInt (x.num * y.num) ((x.den : Int) * y.den) = x * y) := Lib.hid (by conv => rhs; rw [← Rat.num_divInt_den x, ← Rat.num_divInt_den y, Rat.divInt_mul_divInt])
 have hd0 : ((x.den : Int) * y.den) ≠ 0 := Int.mul_ne_zero (by omega) (by omega)
 obtain ⟨hx1, hx2⟩ := hx
 obtain ⟨hy1, hy2⟩ := hy
 have m0 := mul_abs_le (a := x.num) (b := y.num) (by omega) (by omega)
 have m1 := mul_abs_le (a := (x.den : Int)) (b := (y.den : Int)) (by omega) (by omega)
 go_enter Tryz.func108, Tryz.ntmps108
 go_wp2_with fail
 refine (rational_nativeOf _ (by omega) _).mono ?_
 rw [natOfV_small ⟨hx1, hx2⟩]
 rintro e w1 ⟨rfl, hq1⟩
 go_wp2_with fail
 refine (rational_nativeOf _ (by omega) _).mono ?_
 rw [natOfV_small ⟨hy1, hy2⟩]
 rintro e w2 ⟨rfl, hq2⟩
 have hz2 := hq2.size
 rw [World.size_alloc] at hz2
 have hQ2 : Q w w2 := hq1.trans ((show Below w1.heap.size w1 _ from bt).trans (hq2.mono (by simp)) |>.mono hq1.size)
 have B1 := (Blk.new w1 [.int .i64 x.num, .int .i64 (x.den : Int)] 112).keep hq2 (by simp)
 have c0 := B1.cell 0
 have c1 := B1.cell 1
 have l1 := B1.lt
 simp only [List.getElem?_cons_zero, List.getElem?_cons_succ] at c0 c1
 go_wp2_with fail
 refine (rational_Mul_native x y ⟨hx1, hx2⟩ ⟨hy1, hy2⟩ _).mono ?_
 rintro e w3 ⟨rfl, hq3⟩
 have hQ3 : Q w w3 := hQ2.trans ((show Below w2.heap.size w2 _ from bt).trans (hq3.mono (by simp)) |>.mono hQ2.size)
 go_wp2_with fail
 refine (native_number _ _ hd0 (by omega) (by omega) _ (hE.q hQ3)).mono ?_
 rintro e w4 ⟨rfl, hq4⟩
 go_wp2
 go_ret2
 exact ⟨by rw [← HR.out]; rfl, hQ3.trans (hq4.mono hQ3.size)⟩
set_option maxHeartbeats 1000000 in
theorem rational_Mul_small (x y : Rat) (hx : Small8 x) (hy : Small8 y) (w : World) (hE : Env w) :
  Calls Tryz.prog 67 #[.string ⟨(rstr x).toArray⟩, .string ⟨(rstr y).toArray⟩] w fun e w' => e = .returned (.tuple #[.string ⟨(rstr (x * y)).toArray⟩, .int .i64 0]) ∧ Q w w' := by
 go_enter Tryz.func67, Tryz.ntmps67
 go_wp2_with fail
 refine (rational_quick_Mul x y hx hy _ hE).mono ?_
 rintro e w1 ⟨rfl, hq1⟩
 go_wp2
 go_ret2
 exact ⟨rfl, hq1⟩
set_option maxRecDepth 100000 in
set_option maxHeartbeats 1000000 in
theorem rational_quick_Add (x y : Rat) (hx : Small8 x) (hy : Small8 y) (w : World) (hE : Env w) :
  Calls Tryz.prog 108 #[.string ⟨(rstr x).toArray⟩, .string ⟨(rstr y).toArray⟩, .func (.func 112) #[] #[]] w fun e w' => e = .returned (.tuple #[.string ⟨(rstr (x + y)).toArray⟩, .bool true]) ∧ Q w w' := by
 have hlx := small_len hx
 have hly := small_len hy
 have hxd := x.den_nz
 have hyd := y.den_nz
 have HR : Hid (Rat.divInt (x.num * y.den + y.num * x.den) ((x.den : Int) * y.den) = x + y) := Lib.hid (by conv => rhs; rw [← Rat.num_divInt_den x, ← Rat.num_divInt_den y, Rat.divInt_add_divInt _ _ (by omega) (by omega)])
 have hd0 : ((x.den : Int) * y.den) ≠ 0 := Int.mul_ne_zero (by omega) (by omega)
 obtain ⟨hx1, hx2⟩ := hx
 obtain ⟨hy1, hy2⟩ := hy
 have m0 := mul_abs_le (a := x.num) (b := (y.den : Int)) (by omega) (by omega)
 have m1 := mul_abs_le (a := y.num) (b := (x.den : Int)) (by omega) (by omega)
 have m2 := mul_abs_le (a := (x.den : Int)) (b := (y.den : Int)) (by omega) (by omega)
 go_enter Tryz.func108, Tryz.ntmps108
 go_wp2_with fail
 refine (rational_nativeOf _ (by omega) _).mono ?_
 rw [natOfV_small ⟨hx1, hx2⟩]
 rintro e w1 ⟨rfl, hq1⟩
 go_wp2_with fail
 refine (rational_nativeOf _ (by omega) _).mono ?_
 rw [natOfV_small ⟨hy1, hy2⟩]
 rintro e w2 ⟨rfl, hq2⟩
 have hz2 := hq2.size
 rw [World.size_alloc] at hz2
 have hQ2 : Q w w2 := hq1.trans ((show Below w1.heap.size w1 _ from bt).trans (hq2.mono (by simp)) |>.mono hq1.size)
 have B1 := (Blk.new w1 [.int .i64 x.num, .int .i64 (x.den : Int)] 112).keep hq2 (by simp)
 have c0 := B1.cell 0
 have c1 := B1.cell 1
 have l1 := B1.lt
 simp only [List.getElem?_cons_zero, List.getElem?_cons_succ] at c0 c1
 go_wp2_with fail
 refine (rational_Add_native x y ⟨hx1, hx2⟩ ⟨hy1, hy2⟩ _).mono ?_
 rintro e w3 ⟨rfl, hq3⟩
 have hQ3 : Q w w3 := hQ2.trans ((show Below w2.heap.size w2 _ from bt).trans (hq3.mono (by simp)) |>.mono hQ2.size)
 go_wp2_with fail
 refine (native_number _ _ hd0 (by omega) (by omega) _ (hE.q hQ3)).mono ?_
 rintro e w4 ⟨rfl, hq4⟩
 go_wp2
 go_ret2
 exact ⟨by rw [← HR.out]; rfl, hQ3.trans (hq4.mono hQ3.size)⟩
set_option maxHeartbeats 1000000 in
theorem rational_Add_small (x y : Rat) (hx : Small8 x) (hy : Small8 y) (w : World) (hE : Env w) :
  Calls Tryz.prog 69 #[.string ⟨(rstr x).toArray⟩, .string ⟨(rstr y).toArray⟩] w fun e w' => e = .returned (.tuple #[.string ⟨(rstr (x + y)).toArray⟩, .int .i64 0]) ∧ Q w w' := by
 go_enter Tryz.func69, Tryz.ntmps69
 go_wp2_with fail
 refine (rational_quick_Add x y hx hy _ hE).mono ?_
 rintro e w1 ⟨rfl, hq1⟩
 go_wp2
 go_ret2
 exact ⟨rfl, hq1⟩
set_option maxRecDepth 100000 in
set_option maxHeartbeats 1000000 in
theorem rational_quick_Sub (x y : Rat) (hx : Small8 x) (hy : Small8 y) (w : World) (hE : Env w) :
  Calls Tryz.prog 108 #[.string ⟨(rstr x).toArray⟩, .string ⟨(rstr y).toArray⟩, .func (.func 220) #[] #[]] w fun e w' => e = .returned (.tuple #[.string ⟨(rstr (x - y)).toArray⟩, .bool true]) ∧ Q w w' := by
 have hlx := small_len hx
 have hly := small_len hy
 have hxd := x.den_nz
 have hyd := y.den_nz
 have HR : Hid (Rat.divInt (x.num * y.den - y.num * x.den) ((x.den : Int) * y.den) = x - y) := Lib.hid (by conv => rhs; rw [← Rat.num_divInt_den x, ← Rat.num_divInt_den y, Rat.divInt_sub_divInt _ _ (by omega) (by omega)])
 have hd0 : ((x.den : Int) * y.den) ≠ 0 := Int.mul_ne_zero (by omega) (by omega)
 obtain ⟨hx1, hx2⟩ := hx
 obtain ⟨hy1, hy2⟩ := hy
 have m0 := mul_abs_le (a := x.num) (b := (y.den : Int)) (by omega) (by omega)
 have m1 := mul_abs_le (a := y.num) (b := (x.den : Int)) (by omega) (by omega)
 have m2 := mul_abs_le (a := (x.den : Int)) (b := (y.den : Int)) (by omega) (by omega)
 go_enter Tryz.func108, Tryz.ntmps108
 go_wp2_with fail
 refine (rational_nativeOf _ (by omega) _).mono ?_
 rw [natOfV_small ⟨hx1, hx2⟩]
 rintro e w1 ⟨rfl, hq1⟩
 go_wp2_with fail
 refine (rational_nativeOf _ (by omega) _).mono ?_
 rw [natOfV_small ⟨hy1, hy2⟩]
 rintro e w2 ⟨rfl, hq2⟩
 have hz2 := hq2.size
 rw [World.size_alloc] at hz2
 have hQ2 : Q w w2 := hq1.trans ((show Below w1.heap.size w1 _ from bt).trans (hq2.mono (by simp)) |>.mono hq1.size)
 have B1 := (Blk.new w1 [.int .i64 x.num, .int .i64 (x.den : Int)] 112).keep hq2 (by simp)
 have c0 := B1.cell 0
 have c1 := B1.cell 1
 have l1 := B1.lt
 simp only [List.getElem?_cons_zero, List.getElem?_cons_succ] at c0 c1
 go_wp2_with fail
 refine (rational_Sub_native x y ⟨hx1, hx2⟩ ⟨hy1, hy2⟩ _).mono ?_
 rintro e w3 ⟨rfl, hq3⟩
 have hQ3 : Q w w3 := hQ2.trans ((show Below w2.heap.size w2 _ from bt).trans (hq3.mono (by simp)) |>.mono hQ2.size)
 go_wp2_with fail
 refine (native_number _ _ hd0 (by omega) (by omega) _ (hE.q hQ3)).mono ?_
 rintro e w4 ⟨rfl, hq4⟩
 go_wp2
 go_ret2
 exact ⟨by rw [← HR.out]; rfl, hQ3.trans (hq4.mono hQ3.size)⟩
set_option maxHeartbeats 1000000 in
theorem rational_Sub_small (x y : Rat) (hx : Small8 x) (hy : Small8 y) (w : World) (hE : Env w) :
  Calls Tryz.prog 193 #[.string ⟨(rstr x).toArray⟩, .string ⟨(rstr y).toArray⟩] w fun e w' => e = .returned (.tuple #[.string ⟨(rstr (x - y)).toArray⟩, .int .i64 0]) ∧ Q w w' := by
 go_enter Tryz.func193, Tryz.ntmps193
 go_wp2_with fail
 refine (rational_quick_Sub x y hx hy _ hE).mono ?_
 rintro e w1 ⟨rfl, hq1⟩
 go_wp2
 go_ret2
 exact ⟨rfl, hq1⟩
set_option maxRecDepth 100000 in
set_option maxHeartbeats 1000000 in
theorem rational_quick_Div (x y : Rat) (hx : Small8 x) (hy : Small8 y) (hy0 : y.num ≠ 0) (w : World) (hE : Env w) :
  Calls Tryz.prog 108 #[.string ⟨(rstr x).toArray⟩, .string ⟨(rstr y).toArray⟩, .func (.func 157) #[] #[]] w fun e w' => e = .returned (.tuple #[.string ⟨(rstr (x / y)).toArray⟩, .bool true]) ∧ Q w w' := by
 have hlx := small_len hx
 have hly := small_len hy
 have hxd := x.den_nz
 have hyd := y.den_nz
 have HR : Hid (Rat.divInt (x.num * y.den) ((x.den : Int) * y.num) = x / y) := Lib.hid (by conv => rhs; rw [← Rat.num_divInt_den x, ← Rat.num_divInt_den y, Rat.div_def, Rat.inv_divInt, Rat.divInt_mul_divInt])
 have hd0 : ((x.den : Int) * y.num) ≠ 0 := Int.mul_ne_zero (by omega) hy0
 obtain ⟨hx1, hx2⟩ := hx
 obtain ⟨hy1, hy2⟩ := hy
 have m0 := mul_abs_le (a := x.num) (b := (y.den : Int)) (by omega) (by omega)
 have m1 := mul_abs_le (a := (x.den : Int)) (b := y.num) (by omega) (by omega)
 go_enter Tryz.func108, Tryz.ntmps108
 go_wp2_with fail
 refine (rational_nativeOf _ (by omega) _).mono ?_
 rw [natOfV_small ⟨hx1, hx2⟩]
 rintro e w1 ⟨rfl, hq1⟩
 go_wp2_with fail
 refine (rational_nativeOf _ (by omega) _).mono ?_
 rw [natOfV_small ⟨hy1, hy2⟩]
 rintro e w2 ⟨rfl, hq2⟩
 have hz2 := hq2.size
 rw [World.size_alloc] at hz2
 have hQ2 : Q w w2 := hq1.trans ((show Below w1.heap.size w1 _ from bt).trans (hq2.mono (by simp)) |>.mono hq1.size)
 have B1 := (Blk.new w1 [.int .i64 x.num, .int .i64 (x.den : Int)] 112).keep hq2 (by simp)
 have c0 := B1.cell 0
 have c1 := B1.cell 1
 have l1 := B1.lt
 simp only [List.getElem?_cons_zero, List.getElem?_cons_succ] at c0 c1
 go_wp2_with fail
 refine (rational_Div_native x y ⟨hx1, hx2⟩ ⟨hy1, hy2⟩ _).mono ?_
 rintro e w3 ⟨rfl, hq3⟩
 have hQ3 : Q w w3 := hQ2.trans ((show Below w2.heap.size w2 _ from bt).trans (hq3.mono (by simp)) |>.mono hQ2.size)
 go_wp2_with fail
 refine (native_number _ _ hd0 (by omega) (by omega) _ (hE.q hQ3)).mono ?_
 rintro e w4 ⟨rfl, hq4⟩
 go_wp2
 go_ret2
 exact ⟨by rw [← HR.out]; rfl, hQ3.trans (hq4.mono hQ3.size)⟩
set_option maxHeartbeats 1000000 in
theorem rational_Div_small (x y : Rat) (hx : Small8 x) (hy : Small8 y) (hy0 : y.num ≠ 0) (w : World) (hE : Env w) :
  Calls Tryz.prog 98 #[.string ⟨(rstr x).toArray⟩, .string ⟨(rstr y).toArray⟩] w fun e w' => e = .returned (.tuple #[.string ⟨(rstr (x / y)).toArray⟩, .int .i64 0]) ∧ Q w w' := by
 have hn : (rstr y == [48]) = false := by
  rw [beq_eq_false_iff_ne]; intro e; apply hy0
  have : rstr y = rstr 0 := by rw [e]; simp [rstr, Lib.itoa, Lib.decDigits]
  rw [rstr_inj this]; rfl
 have hn' := bne_of_f hn
 go_enter Tryz.func98, Tryz.ntmps98
 go_wp2_with fail
 refine (rational_quick_Div x y hx hy hy0 _ hE).mono ?_
 rintro e w1 ⟨rfl, hq1⟩
 go_wp2
 go_ret2
 exact ⟨rfl, hq1⟩
end Go.Proofs.YtedijdmenfcjlaaGreatDoor
