/-
  The law TruelengthMoved: its walk.
-/
import Derived.Test.YthokehkdpmbeaaaGreatDoorVZ3
import Derived.BigRegion
namespace Go.Proofs.YthokehkdpmbeaaaGreatDoor
open Go.RowKit Kp
open Go.Lib (decDigits)

theorem halfR (a : Int) : Rat.divInt a ((2 : Nat) : Int) = (a : Rat) / 2 := by
  rw [Rat.divInt_eq_div, Rat.intCast_natCast]; rfl
theorem half_bd {a : Int} (h : a.natAbs < 1000) : Bd 3 (Rat.divInt a ((2 : Nat) : Int)) := bd_divInt (by decide) h (by decide)
theorem half_b3 {a b c : Int} (ha : a.natAbs < 1000) (hb : b.natAbs < 1000) (hc : c.natAbs < 1000) : B3 3 (half a b c) := ⟨half_bd ha, half_bd hb, half_bd hc⟩
theorem half_sub (a b c d e f : Int) : (half d e f).sub (half a b c) = half (d - a) (e - b) (f - c) := by
  unfold P3.sub half
  simp only [halfR, Rat.intCast_sub, P3.mk.injEq]
  exact ⟨by grind, by grind, by grind⟩
theorem half_inj {a b c d e f : Int} (h : half a b c = half d e f) : a = d ∧ b = e ∧ c = f := by
  have key : ∀ x y : Int, Rat.divInt x ((2 : Nat) : Int) = Rat.divInt y ((2 : Nat) : Int) → x = y := fun x y e => by
    rw [halfR, halfR] at e
    have : (x : Rat) = (y : Rat) := by grind
    exact_mod_cast this
  unfold half at h
  simp only [P3.mk.injEq] at h
  exact ⟨key _ _ h.1, key _ _ h.2.1, key _ _ h.2.2⟩
theorem half_sq (a b c : Int) : (half a b c).sq = Rat.divInt (a * a + b * b + c * c) ((4 : Nat) : Int) := by
  unfold P3.sq half
  simp only [halfR]
  rw [Rat.divInt_eq_div, Rat.intCast_natCast, show ((4 : Nat) : Rat) = 4 from rfl, Rat.intCast_add, Rat.intCast_add, Rat.intCast_mul, Rat.intCast_mul, Rat.intCast_mul]
  grind
theorem sq_le {a : Int} (h : a.natAbs ≤ 255) : 0 ≤ a * a ∧ a * a ≤ 65025 := by
  have h1 : a.natAbs * a.natAbs ≤ 255 * 255 := Nat.mul_le_mul h h
  have h2 : (a * a) = ((a.natAbs * a.natAbs : Nat) : Int) := by exact (Int.natAbs_mul_self).symm
  omega
theorem half_sq_bd {a b c : Int} (ha : a.natAbs ≤ 255) (hb : b.natAbs ≤ 255) (hc : c.natAbs ≤ 255) : Bd 6 (half a b c).sq := by
  rw [half_sq]
  have := sq_le ha
  have := sq_le hb
  have := sq_le hc
  exact bd_divInt (by decide) (by omega) (by decide)
theorem half_zero : Rat.divInt 0 ((2 : Nat) : Int) = 0 := by rw [halfR]; grind
theorem half_flat (a b c : Int) : (half a b c).flat = half a b 0 := by
  unfold P3.flat half
  rw [half_zero]

/-- The two ends of a small member. -/
structure Ends (a b c d e f : Int) : Prop where
  ha : I8 a
  hb : I8 b
  hc : I8 c
  hd : I8 d
  he : I8 e
  hf : I8 f
  ne : half a b c ≠ half d e f

theorem ends_of {a b c d e f : Int} (ha : I8 a) (hb : I8 b) (hc : I8 c) (hd : I8 d) (he : I8 e) (hf : I8 f) : Ends a b c (toX a b c d e f) e f := by
  have h1 := ha.1
  have h2 := ha.2
  refine ⟨ha, hb, hc, ?_, he, hf, fun h => ?_⟩
  · unfold toX; split
    · split
      · exact ⟨by decide, by decide⟩
      · exact ⟨by omega, by omega⟩
    · exact hd
  · obtain ⟨e1, e2, e3⟩ := half_inj h
    unfold toX at e1
    split at e1
    · split at e1 <;> omega
    · next h => exact h ⟨e1, e2, e3⟩

theorem i8_abs {a : Int} (h : I8 a) : a.natAbs ≤ 128 := by have := h.1; have := h.2; omega

/-- Moved by thirds. -/
def mov (p : P3) (x y z : Int) : P3 := ⟨p.x + Rat.divInt x ((3 : Nat) : Int), p.y + Rat.divInt y ((3 : Nat) : Int), p.z + Rat.divInt z ((3 : Nat) : Int)⟩
theorem third_bd {a : Int} (h : I8 a) : Bd 3 (Rat.divInt a ((3 : Nat) : Int)) := bd_divInt (by decide) (by have := i8_abs h; omega) (by decide)
theorem mov_b3 {p : P3} (h : B3 3 p) {x y z : Int} (hx : I8 x) (hy : I8 y) (hz : I8 z) : B3 7 (mov p x y z) := ⟨h.1.add (third_bd hx), h.2.1.add (third_bd hy), h.2.2.add (third_bd hz)⟩
theorem mov_sub (p q : P3) (x y z : Int) : (mov q x y z).sub (mov p x y z) = q.sub p := by
  unfold P3.sub mov
  simp only [P3.mk.injEq]
  exact ⟨by grind, by grind, by grind⟩
theorem mov_ne {p q : P3} (h : p ≠ q) (x y z : Int) : mov p x y z ≠ mov q x y z := fun e => h (by
  cases p; cases q
  unfold mov at e
  simp only [P3.mk.injEq] at e ⊢
  exact ⟨by grind, by grind, by grind⟩)
theorem turn_sq (p q : P3) : (p.sub q).sq = (q.sub p).sq ∧ (p.sub q).flat.sq = (q.sub p).flat.sq := by
  unfold P3.sub P3.sq P3.flat
  exact ⟨by grind, by grind⟩

theorem max_three (w : World) : (Builtin.max_ #[34, 34, 34] 34 #[.int .i64 0, .int .i64 0, .int .i64 0]).run Tryz.prog w = .ok (.int .i64 0) w := by kernel_rfl

theorem mok_law : MOk 1 60 180 := ⟨by decide, by decide, by decide, by decide, by decide, by decide⟩

set_option maxRecDepth 100000 in
set_option maxHeartbeats 8000000 in
theorem moved_law (a b c d e f p q r : Int) (ha : I8 a) (hb : I8 b) (hc : I8 c) (hd : I8 d) (he : I8 e) (hf : I8 f) (hp : I8 p) (hq : I8 q) (hr : I8 r) (w : World) (hE : Env w) :
    Calls Tryz.prog 3 #[.agg #[.int .i8 a, .int .i8 b, .int .i8 c, .int .i8 d, .int .i8 e, .int .i8 f], .agg #[.int .i8 p, .int .i8 q, .int .i8 r]] w fun e' w' => e' = .returned (.bool true) ∧ Q w w' := by
  have HOF := Lib.hid (fun w hw => law_of a b c d e f ha hb hc hd he hf w hw)
  have en := ends_of ha hb hc hd he hf
  have b1 : B3 3 (half a b c) := half_b3 (by have := i8_abs ha; omega) (by have := i8_abs hb; omega) (by have := i8_abs hc; omega)
  have b2 : B3 3 (half (toX a b c d e f) e f) := half_b3 (by have := i8_abs en.hd; omega) (by have := i8_abs he; omega) (by have := i8_abs hf; omega)
  have esub := half_sub a b c (toX a b c d e f) e f
  have esub2 := half_sub (toX a b c d e f) e f a b c
  have bsub : B3 3 ((half (toX a b c d e f) e f).sub (half a b c)) := by
    rw [esub]
    exact half_b3 (by have := i8_abs ha; have := i8_abs en.hd; omega) (by have := i8_abs hb; have := i8_abs he; omega) (by have := i8_abs hc; have := i8_abs hf; omega)
  have bsub2 : B3 3 ((half a b c).sub (half (toX a b c d e f) e f)) := by
    rw [esub2]
    exact half_b3 (by have := i8_abs ha; have := i8_abs en.hd; omega) (by have := i8_abs hb; have := i8_abs he; omega) (by have := i8_abs hc; have := i8_abs hf; omega)
  have bsq : Bd 16 ((half (toX a b c d e f) e f).sub (half a b c)).sq := by
    rw [esub]
    exact (half_sq_bd (by have := ha.1; have := ha.2; have := en.hd.1; have := en.hd.2; omega) (by have := hb.1; have := hb.2; have := he.1; have := he.2; omega) (by have := hc.1; have := hc.2; have := hf.1; have := hf.2; omega)).mono (by decide)
  have bfl : Bd 16 ((half (toX a b c d e f) e f).sub (half a b c)).flat.sq := by
    rw [esub, half_flat]
    exact (half_sq_bd (by have := ha.1; have := ha.2; have := en.hd.1; have := en.hd.2; omega) (by have := hb.1; have := hb.2; have := he.1; have := he.2; omega) (by decide)).mono (by decide)
  have flb : ∀ {n : Nat} {v : P3}, 0 < n → B3 n v → B3 n v.flat := fun hn h => ⟨h.1, h.2.1, bd_zero hn⟩
  have hne := en.ne
  generalize half a b c = P at *
  generalize half (toX a b c d e f) e f = R at *
  obtain ⟨tq, tf⟩ := turn_sq P R
  have bm1 := mov_b3 b1 hp hq hr
  have bm2 := mov_b3 b2 hp hq hr
  have ms := mov_sub P R p q r
  have mn := mov_ne hne p q r
  have HLm := Lib.hid (fun w hw => true_Length (m := 3) (by decide) 1 60 180 mok_law P R b1 b2 (by decide) hne w hw bsub bsq)
  have hlt := fun w hw => true_Length (m := 3) (by decide) 1 60 180 mok_law R P b2 b1 (by decide) (fun h => hne h.symm) w hw bsub2 (by rw [tq]; exact bsq)
  rw [tq] at hlt
  have hlv := fun w hw => true_Length (m := 3) (by decide) 1 60 180 mok_law (mov P p q r) (mov R p q r) bm1 bm2 (by decide) mn w hw (by rw [ms]; exact bsub) (by rw [ms]; exact bsq)
  rw [ms] at hlv
  have HRm := Lib.hid (fun w hw => true_Run (m := 3) (by decide) 1 60 180 mok_law P R b1 b2 (by decide) hne w hw (flb (by decide) bsub) bfl)
  have hrt := fun w hw => true_Run (m := 3) (by decide) 1 60 180 mok_law R P b2 b1 (by decide) (fun h => hne h.symm) w hw (flb (by decide) bsub2) (by rw [tf]; exact bfl)
  rw [tf] at hrt
  have hrv := fun w hw => true_Run (m := 3) (by decide) 1 60 180 mok_law (mov P p q r) (mov R p q r) bm1 bm2 (by decide) mn w hw (by rw [ms]; exact flb (by decide) bsub) (by rw [ms]; exact bfl)
  rw [ms] at hrv
  have HZm := Lib.hid (fun w hw => true_Rise 1 60 180 mok_law P R b1 b2 (by decide) hne w hw)
  have hzt := fun w hw => true_Rise 1 60 180 mok_law R P b2 b1 (by decide) (fun h => hne h.symm) w hw
  rw [show P.z - R.z = 0 - (R.z - P.z) by grind] at hzt
  have hzv := fun w hw => true_Rise 1 60 180 mok_law (mov P p q r) (mov R p q r) bm1 bm2 (by decide) mn w hw
  rw [show (mov R p q r).z - (mov P p q r).z = R.z - P.z from congrArg P3.z ms] at hzv
  have hsb := fun w hw => rational_Sub_bd 0 (R.z - P.z) (bd_zero (n := 1) (by decide)) bsub.2.2 (by decide) w hw
  rw [rstr_zero] at hsb
  have HLt := Lib.hid hlt
  have HLv := Lib.hid hlv
  have HRt := Lib.hid hrt
  have HRv := Lib.hid hrv
  have HZt := Lib.hid hzt
  have HZv := Lib.hid hzv
  have HSB := Lib.hid hsb
  have HN0 := Lib.hid (fun w hw => law_num p 3 (by decide) (by have := hp.1; have := hp.2; omega) (by decide) w hw)
  have HN1 := Lib.hid (fun w hw => law_num q 3 (by decide) (by have := hq.1; have := hq.2; omega) (by decide) w hw)
  have HN2 := Lib.hid (fun w hw => law_num r 3 (by decide) (by have := hr.1; have := hr.2; omega) (by decide) w hw)
  have HX := Lib.hid (fun w hw => rational_Add_bd P.x (Rat.divInt p ((3 : Nat) : Int)) b1.1 (third_bd hp) (by decide) w hw)
  have HY := Lib.hid (fun w hw => rational_Add_bd P.y (Rat.divInt q ((3 : Nat) : Int)) b1.2.1 (third_bd hq) (by decide) w hw)
  have HZ := Lib.hid (fun w hw => rational_Add_bd P.z (Rat.divInt r ((3 : Nat) : Int)) b1.2.2 (third_bd hr) (by decide) w hw)
  have HX' := Lib.hid (fun w hw => rational_Add_bd R.x (Rat.divInt p ((3 : Nat) : Int)) b2.1 (third_bd hp) (by decide) w hw)
  have HY' := Lib.hid (fun w hw => rational_Add_bd R.y (Rat.divInt q ((3 : Nat) : Int)) b2.2.1 (third_bd hq) (by decide) w hw)
  have HZ' := Lib.hid (fun w hw => rational_Add_bd R.z (Rat.divInt r ((3 : Nat) : Int)) b2.2.2 (third_bd hr) (by decide) w hw)
  have wp := Go.IntWalk.i64_in p (by have := hp.1; have := hp.2; omega)
  have wq := Go.IntWalk.i64_in q (by have := hq.1; have := hq.2; omega)
  have wr' := Go.IntWalk.i64_in r (by have := hr.1; have := hr.2; omega)
  clear ha hb hc hd he hf hp hq hr en esub esub2 bsub bsub2 bsq bfl flb hne bm1 bm2 mn hlt hlv hrt hrv hzt hzv hsb b1 b2 tq tf
  generalize (R.sub P).sq = s1 at *
  generalize (R.sub P).flat.sq = s2 at *
  generalize rstr (0 - (R.z - P.z)) = Zn at *
  generalize rstr (R.z - P.z) = Zp at *
  clear ms
  unfold VM mov at *
  simp only at *
  generalize rstr (P.x + Rat.divInt p ((3 : Nat) : Int)) = A1 at *
  generalize rstr (P.y + Rat.divInt q ((3 : Nat) : Int)) = A2 at *
  generalize rstr (P.z + Rat.divInt r ((3 : Nat) : Int)) = A3 at *
  generalize rstr (R.x + Rat.divInt p ((3 : Nat) : Int)) = B1 at *
  generalize rstr (R.y + Rat.divInt q ((3 : Nat) : Int)) = B2 at *
  generalize rstr (R.z + Rat.divInt r ((3 : Nat) : Int)) = B3 at *
  generalize rstr (Rat.divInt p ((3 : Nat) : Int)) = N1 at *
  generalize rstr (Rat.divInt q ((3 : Nat) : Int)) = N2 at *
  generalize rstr (Rat.divInt r ((3 : Nat) : Int)) = N3 at *
  generalize rstr P.x = X at *
  generalize rstr P.y = Y at *
  generalize rstr P.z = Z at *
  generalize rstr R.x = X' at *
  generalize rstr R.y = Y' at *
  generalize rstr R.z = Z' at *
  have HSP := Lib.hid (fun X Y Z w => law_spot X Y Z w)
  have hmax := max_three
  go_enter Tryz.func3, Tryz.ntmps3
  have hQ0 := Q.refl w
  go_wp2_with fail
  refine (HOF.out _ (hE.ofQ bt)).mono ?_
  rintro e w1 ⟨rfl, hq1⟩
  have hs1 : Q w w1 := Q.trans bt hq1
  have hQ1 : Q w w1 := Q.trans hQ0 hs1
  have BYb := (Blk.new1 w (.cells #[.int .i8 a, .int .i8 b, .int .i8 c, .int .i8 d, .int .i8 e, .int .i8 f] 25) [.int .i8 p, .int .i8 q, .int .i8 r] 23).keep hq1 (by simp)
  go_wp2_with fail
  go_region
  have hy := BYb.lt
  have hzw : w.heap.size ≤ w1.heap.size := hQ1.size
  have BM : Blk (((w1.alloc (.cells #[.int .i64 1, .int .i64 0, .int .i64 (-1), .string ⟨X.toArray⟩, .string ⟨Y.toArray⟩, .string ⟨Z.toArray⟩, .string ⟨X'.toArray⟩, .string ⟨Y'.toArray⟩, .string ⟨Z'.toArray⟩, .int .i64 60, .int .i64 180] 30)).alloc (.cells #[.int .i64 1, .int .i64 0, .int .i64 (-1), .string ⟨X'.toArray⟩, .string ⟨Y'.toArray⟩, .string ⟨Z'.toArray⟩, .string ⟨X.toArray⟩, .string ⟨Y.toArray⟩, .string ⟨Z.toArray⟩, .int .i64 60, .int .i64 180] 30)).drew) w1.heap.size [.int .i64 1, .int .i64 0, .int .i64 (-1), .string ⟨X.toArray⟩, .string ⟨Y.toArray⟩, .string ⟨Z.toArray⟩, .string ⟨X'.toArray⟩, .string ⟨Y'.toArray⟩, .string ⟨Z'.toArray⟩, .int .i64 60, .int .i64 180] 30 := ((Blk.new w1 _ _).alloc _).drew
  have BT : Blk (((w1.alloc (.cells #[.int .i64 1, .int .i64 0, .int .i64 (-1), .string ⟨X.toArray⟩, .string ⟨Y.toArray⟩, .string ⟨Z.toArray⟩, .string ⟨X'.toArray⟩, .string ⟨Y'.toArray⟩, .string ⟨Z'.toArray⟩, .int .i64 60, .int .i64 180] 30)).alloc (.cells #[.int .i64 1, .int .i64 0, .int .i64 (-1), .string ⟨X'.toArray⟩, .string ⟨Y'.toArray⟩, .string ⟨Z'.toArray⟩, .string ⟨X.toArray⟩, .string ⟨Y.toArray⟩, .string ⟨Z.toArray⟩, .int .i64 60, .int .i64 180] 30)).drew) (w1.heap.size + 1) [.int .i64 1, .int .i64 0, .int .i64 (-1), .string ⟨X'.toArray⟩, .string ⟨Y'.toArray⟩, .string ⟨Z'.toArray⟩, .string ⟨X.toArray⟩, .string ⟨Y.toArray⟩, .string ⟨Z.toArray⟩, .int .i64 60, .int .i64 180] 30 := (Blk.new1 w1 _ _ _).drew
  have hq2 : Q w1 (((w1.alloc (.cells #[.int .i64 1, .int .i64 0, .int .i64 (-1), .string ⟨X.toArray⟩, .string ⟨Y.toArray⟩, .string ⟨Z.toArray⟩, .string ⟨X'.toArray⟩, .string ⟨Y'.toArray⟩, .string ⟨Z'.toArray⟩, .int .i64 60, .int .i64 180] 30)).alloc (.cells #[.int .i64 1, .int .i64 0, .int .i64 (-1), .string ⟨X'.toArray⟩, .string ⟨Y'.toArray⟩, .string ⟨Z'.toArray⟩, .string ⟨X.toArray⟩, .string ⟨Y.toArray⟩, .string ⟨Z.toArray⟩, .int .i64 60, .int .i64 180] 30)).drew) := bt
  have hz2 : (((w1.alloc (.cells #[.int .i64 1, .int .i64 0, .int .i64 (-1), .string ⟨X.toArray⟩, .string ⟨Y.toArray⟩, .string ⟨Z.toArray⟩, .string ⟨X'.toArray⟩, .string ⟨Y'.toArray⟩, .string ⟨Z'.toArray⟩, .int .i64 60, .int .i64 180] 30)).alloc (.cells #[.int .i64 1, .int .i64 0, .int .i64 (-1), .string ⟨X'.toArray⟩, .string ⟨Y'.toArray⟩, .string ⟨Z'.toArray⟩, .string ⟨X.toArray⟩, .string ⟨Y.toArray⟩, .string ⟨Z.toArray⟩, .int .i64 60, .int .i64 180] 30)).drew).heap.size = w1.heap.size + 2 := by simp
  obtain ⟨w2, hw2⟩ : ∃ w2, ((w1.alloc (.cells #[.int .i64 1, .int .i64 0, .int .i64 (-1), .string ⟨X.toArray⟩, .string ⟨Y.toArray⟩, .string ⟨Z.toArray⟩, .string ⟨X'.toArray⟩, .string ⟨Y'.toArray⟩, .string ⟨Z'.toArray⟩, .int .i64 60, .int .i64 180] 30)).alloc (.cells #[.int .i64 1, .int .i64 0, .int .i64 (-1), .string ⟨X'.toArray⟩, .string ⟨Y'.toArray⟩, .string ⟨Z'.toArray⟩, .string ⟨X.toArray⟩, .string ⟨Y.toArray⟩, .string ⟨Z.toArray⟩, .int .i64 60, .int .i64 180] 30)).drew = w2 := ⟨_, rfl⟩
  rw [hw2] at BM BT hq2 hz2 ⊢
  clear hw2
  have lM := BM.lt
  have lT := BT.lt
  have m0 := BM.cell 0
  have m1 := BM.cell 1
  have m2 := BM.cell 2
  have m3 := BM.cell 3
  have m4 := BM.cell 4
  have m5 := BM.cell 5
  have m6 := BM.cell 6
  have m7 := BM.cell 7
  have m8 := BM.cell 8
  have m9 := BM.cell 9
  have m10 := BM.cell 10
  simp only [List.getElem?_cons_zero, List.getElem?_cons_succ] at m0 m1 m2 m3 m4 m5 m6 m7 m8 m9 m10
  go_wp2
  have BV := (Blk.new w2 [.int .i64 1, .int .i64 0, .int .i64 (-1), .string ⟨X.toArray⟩, .string ⟨Y.toArray⟩, .string ⟨Z.toArray⟩, .string ⟨X'.toArray⟩, .string ⟨Y'.toArray⟩, .string ⟨Z'.toArray⟩, .int .i64 60, .int .i64 180] 30).alloc (.cells #[.pointer (some ⟨w1.heap.size + 2, 3, none⟩), .pointer (some ⟨w1.heap.size + 2, 6, none⟩)] 32)
  have BP := Blk.new1 w2 (.cells #[.int .i64 1, .int .i64 0, .int .i64 (-1), .string ⟨X.toArray⟩, .string ⟨Y.toArray⟩, .string ⟨Z.toArray⟩, .string ⟨X'.toArray⟩, .string ⟨Y'.toArray⟩, .string ⟨Z'.toArray⟩, .int .i64 60, .int .i64 180] 30) [.pointer (some ⟨w1.heap.size + 2, 3, none⟩), .pointer (some ⟨w1.heap.size + 2, 6, none⟩)] 32
  rw [hz2] at BV BP
  have hq3 : Q w2 ((w2.alloc (.cells #[.int .i64 1, .int .i64 0, .int .i64 (-1), .string ⟨X.toArray⟩, .string ⟨Y.toArray⟩, .string ⟨Z.toArray⟩, .string ⟨X'.toArray⟩, .string ⟨Y'.toArray⟩, .string ⟨Z'.toArray⟩, .int .i64 60, .int .i64 180] 30)).alloc (.cells #[.pointer (some ⟨w1.heap.size + 2, 3, none⟩), .pointer (some ⟨w1.heap.size + 2, 6, none⟩)] 32)) := bt
  replace BM := BM.keep hq3 BM.lt
  replace BT := BT.keep hq3 BT.lt
  replace BYb := BYb.keep (Q.trans hq2 hq3) hy
  clear m0 m1 m2 m3 m4 m5 m6 m7 m8 m9 m10 lM lT
  go_loopw [45] (fun i wr => Q w wr ∧ Blk wr w1.heap.size [.int .i64 1, .int .i64 0, .int .i64 (-1), .string ⟨X.toArray⟩, .string ⟨Y.toArray⟩, .string ⟨Z.toArray⟩, .string ⟨X'.toArray⟩, .string ⟨Y'.toArray⟩, .string ⟨Z'.toArray⟩, .int .i64 60, .int .i64 180] 30 ∧ Blk wr (w1.heap.size + 1) [.int .i64 1, .int .i64 0, .int .i64 (-1), .string ⟨X'.toArray⟩, .string ⟨Y'.toArray⟩, .string ⟨Z'.toArray⟩, .string ⟨X.toArray⟩, .string ⟨Y.toArray⟩, .string ⟨Z.toArray⟩, .int .i64 60, .int .i64 180] 30 ∧ Blk wr (w1.heap.size + 3) [.pointer (some ⟨w1.heap.size + 2, 3, none⟩), .pointer (some ⟨w1.heap.size + 2, 6, none⟩)] 32 ∧ Blk wr (w.heap.size + 1) [.int .i8 p, .int .i8 q, .int .i8 r] 23 ∧
    ((i = .int .i64 0 ∧ Blk wr (w1.heap.size + 2) [.int .i64 1, .int .i64 0, .int .i64 (-1), .string ⟨X.toArray⟩, .string ⟨Y.toArray⟩, .string ⟨Z.toArray⟩, .string ⟨X'.toArray⟩, .string ⟨Y'.toArray⟩, .string ⟨Z'.toArray⟩, .int .i64 60, .int .i64 180] 30) ∨ (i = .int .i64 1 ∧ Blk wr (w1.heap.size + 2) [.int .i64 1, .int .i64 0, .int .i64 (-1), .string ⟨A1.toArray⟩, .string ⟨A2.toArray⟩, .string ⟨A3.toArray⟩, .string ⟨X'.toArray⟩, .string ⟨Y'.toArray⟩, .string ⟨Z'.toArray⟩, .int .i64 60, .int .i64 180] 30) ∨ (i = .int .i64 2 ∧ Blk wr (w1.heap.size + 2) [.int .i64 1, .int .i64 0, .int .i64 (-1), .string ⟨A1.toArray⟩, .string ⟨A2.toArray⟩, .string ⟨A3.toArray⟩, .string ⟨B1.toArray⟩, .string ⟨B2.toArray⟩, .string ⟨B3.toArray⟩, .int .i64 60, .int .i64 180] 30))) (fun i _ => 2 - (intOf i).toNat)
  case atStart => exact ⟨Q.trans hQ1 (Q.trans hq2 hq3), BM, BT, BP, BYb, .inl ⟨rfl, BV⟩⟩
  case round =>
    clear BM BT BP BYb BV hq2 hq3 hz2 hQ0 hQ1 hs1 hq1
    obtain ⟨hQ, BM, BT, BP, BYb, ⟨rfl, BV⟩ | ⟨rfl, BV⟩ | ⟨rfl, BV⟩⟩ := hrel
    · have q0 := BP.cell 0
      simp only [List.getElem?_cons_zero] at q0
      have lV := BV.lt
      have lP := BP.lt
      go_wp2_with fail
      have dD := BV.drew.cell 3
      have dY := BYb.drew.cell 0
      simp only [List.getElem?_cons_zero, List.getElem?_cons_succ] at dD dY
      have hqd : Q wr wr.drew := Below.drew (Q.refl wr)
      refine wp_steadily 14 (by kernel_rfl) (by kernel_rfl) rfl ?_
      refine steadily_value (i := 0) (v := ?_) rfl rfl (by kernel_rfl) (by kernel_rfl) (fun _ _ _ h => h) (by rfl) ?_ ?_
      rotate_left
      · (intro w' hq; go_simp; try with_reducible rfl)
      simp only [Act.put, List.setIfInBounds_toArray, List.set_cons_zero, List.set_cons_succ]
      refine steadily_value (i := 1) (v := ?_) rfl rfl (by kernel_rfl) (by kernel_rfl) (fun _ _ _ h => h) (by rfl) ?_ ?_
      rotate_left
      · (intro w' hq; go_simp; try with_reducible rfl)
      simp only [Act.put, List.setIfInBounds_toArray, List.set_cons_zero, List.set_cons_succ]
      refine steadily_value (i := 2) (v := ?_) rfl rfl (by kernel_rfl) (by kernel_rfl) (fun _ _ _ h => h) (by rfl) ?_ ?_
      rotate_left
      · (intro w' hq; go_simp; try with_reducible rfl)
      simp only [Act.put, List.setIfInBounds_toArray, List.set_cons_zero, List.set_cons_succ]
      refine steadily_value (i := 3) (v := ?_) rfl rfl (by kernel_rfl) (by kernel_rfl) (fun _ _ _ h => h) (by rfl) ?_ ?_
      rotate_left
      · (intro w' hq; have hc0 := qcell hq dD; go_simp; try with_reducible rfl)
      simp only [Act.put, List.setIfInBounds_toArray, List.set_cons_zero, List.set_cons_succ]
      refine steadily_value (i := 4) (v := ?_) rfl rfl (by kernel_rfl) (by kernel_rfl) (fun _ _ _ h => h) (by rfl) ?_ ?_
      rotate_left
      · (intro w' hq; go_simp; try with_reducible rfl)
      simp only [Act.put, List.setIfInBounds_toArray, List.set_cons_zero, List.set_cons_succ]
      refine steadily_value (i := 5) (v := ?_) rfl rfl (by kernel_rfl) (by kernel_rfl) (fun _ _ _ h => h) (by rfl) ?_ ?_
      rotate_left
      · (intro w' hq; have hc0 := qcell hq dY; go_simp; try with_reducible rfl)
      simp only [Act.put, List.setIfInBounds_toArray, List.set_cons_zero, List.set_cons_succ]
      refine steadily_value (i := 6) (v := ?_) rfl rfl (by kernel_rfl) (by kernel_rfl) (fun _ _ _ h => h) (by rfl) ?_ ?_
      rotate_left
      · (intro w' hq; go_simp; try with_reducible rfl)
      simp only [Act.put, List.setIfInBounds_toArray, List.set_cons_zero, List.set_cons_succ]
      refine steadily_call (i := 7) (v := _) rfl rfl (by kernel_rfl) (by kernel_rfl) (fun _ _ _ h => h) (by rfl) ?_ (fun w' hq => HN0.out w' (hE.q (Q.trans hQ (Q.trans hqd hq)))) ?_
      · (intro w' hq; go_simp; try with_reducible rfl)
      simp only [Act.put, List.setIfInBounds_toArray, List.set_cons_zero, List.set_cons_succ]
      refine steadily_call (i := 8) (v := _) rfl rfl (by kernel_rfl) (by kernel_rfl) (fun _ _ _ h => h) (by rfl) ?_ (fun w' hq => HX.out w' (hE.q (Q.trans hQ (Q.trans hqd hq)))) ?_
      · (intro w' hq; go_simp; try with_reducible rfl)
      simp only [Act.put, List.setIfInBounds_toArray, List.set_cons_zero, List.set_cons_succ]
      refine steadily_value (i := 9) (v := ?_) rfl rfl (by kernel_rfl) (by kernel_rfl) (fun _ _ _ h => h) (by rfl) ?_ ?_
      rotate_left
      · (intro w' hq; go_simp; try with_reducible rfl)
      simp only [Act.put, List.setIfInBounds_toArray, List.set_cons_zero, List.set_cons_succ]
      refine steadily_value (i := 10) (v := ?_) rfl rfl (by kernel_rfl) (by kernel_rfl) (fun _ _ _ h => h) (by rfl) ?_ ?_
      rotate_left
      · (intro w' hq; go_simp; try with_reducible rfl)
      simp only [Act.put, List.setIfInBounds_toArray, List.set_cons_zero, List.set_cons_succ]
      refine steadily_value (i := 11) (v := ?_) rfl rfl (by kernel_rfl) (by kernel_rfl) (fun _ _ _ h => h) (by rfl) ?_ ?_
      rotate_left
      · (intro w' hq; go_simp; try with_reducible rfl)
      simp only [Act.put, List.setIfInBounds_toArray, List.set_cons_zero, List.set_cons_succ]
      refine steadily_value (i := 12) (v := ?_) rfl rfl (by kernel_rfl) (by kernel_rfl) (fun _ _ _ h => h) (by rfl) ?_ ?_
      rotate_left
      · (intro w' hq; go_simp; try with_reducible rfl)
      simp only [Act.put, List.setIfInBounds_toArray, List.set_cons_zero, List.set_cons_succ]
      refine steadily_value (i := 13) (v := ?_) rfl rfl (by kernel_rfl) (by kernel_rfl) (fun _ _ _ h => h) (by rfl) ?_ ?_
      rotate_left
      · (intro w' hq; go_simp; try with_reducible rfl)
      simp only [Act.put, List.setIfInBounds_toArray, List.set_cons_zero, List.set_cons_succ]
      refine steadily_done (by kernel_rfl) (fun wa hq3 => ?_)
      simp only [List.drop_succ_cons, List.drop_nil]
      have hs3 : Q wr wa := Q.trans hqd hq3
      replace hQ : Q w wa := Q.trans hQ hs3
      replace BM := BM.keep hs3 BM.lt
      replace BT := BT.keep hs3 BT.lt
      replace BV := BV.keep hs3 BV.lt
      replace BP := BP.keep hs3 BP.lt
      replace BYb := BYb.keep hs3 BYb.lt
      clear dD dY hqd hq3 hs3
      go_wp2_with fail
      have dD := BV.drew.cell 4
      have dY := BYb.drew.cell 1
      simp only [List.getElem?_cons_zero, List.getElem?_cons_succ] at dD dY
      have hqd : Q wa wa.drew := Below.drew (Q.refl wa)
      refine wp_steadily 14 (by kernel_rfl) (by kernel_rfl) rfl ?_
      refine steadily_value (i := 0) (v := ?_) rfl rfl (by kernel_rfl) (by kernel_rfl) (fun _ _ _ h => h) (by rfl) ?_ ?_
      rotate_left
      · (intro w' hq; go_simp; try with_reducible rfl)
      simp only [Act.put, List.setIfInBounds_toArray, List.set_cons_zero, List.set_cons_succ]
      refine steadily_value (i := 1) (v := ?_) rfl rfl (by kernel_rfl) (by kernel_rfl) (fun _ _ _ h => h) (by rfl) ?_ ?_
      rotate_left
      · (intro w' hq; go_simp; try with_reducible rfl)
      simp only [Act.put, List.setIfInBounds_toArray, List.set_cons_zero, List.set_cons_succ]
      refine steadily_value (i := 2) (v := ?_) rfl rfl (by kernel_rfl) (by kernel_rfl) (fun _ _ _ h => h) (by rfl) ?_ ?_
      rotate_left
      · (intro w' hq; go_simp; try with_reducible rfl)
      simp only [Act.put, List.setIfInBounds_toArray, List.set_cons_zero, List.set_cons_succ]
      refine steadily_value (i := 3) (v := ?_) rfl rfl (by kernel_rfl) (by kernel_rfl) (fun _ _ _ h => h) (by rfl) ?_ ?_
      rotate_left
      · (intro w' hq; have hc0 := qcell hq dD; go_simp; try with_reducible rfl)
      simp only [Act.put, List.setIfInBounds_toArray, List.set_cons_zero, List.set_cons_succ]
      refine steadily_value (i := 4) (v := ?_) rfl rfl (by kernel_rfl) (by kernel_rfl) (fun _ _ _ h => h) (by rfl) ?_ ?_
      rotate_left
      · (intro w' hq; go_simp; try with_reducible rfl)
      simp only [Act.put, List.setIfInBounds_toArray, List.set_cons_zero, List.set_cons_succ]
      refine steadily_value (i := 5) (v := ?_) rfl rfl (by kernel_rfl) (by kernel_rfl) (fun _ _ _ h => h) (by rfl) ?_ ?_
      rotate_left
      · (intro w' hq; have hc0 := qcell hq dY; go_simp; try with_reducible rfl)
      simp only [Act.put, List.setIfInBounds_toArray, List.set_cons_zero, List.set_cons_succ]
      refine steadily_value (i := 6) (v := ?_) rfl rfl (by kernel_rfl) (by kernel_rfl) (fun _ _ _ h => h) (by rfl) ?_ ?_
      rotate_left
      · (intro w' hq; go_simp; try with_reducible rfl)
      simp only [Act.put, List.setIfInBounds_toArray, List.set_cons_zero, List.set_cons_succ]
      refine steadily_call (i := 7) (v := _) rfl rfl (by kernel_rfl) (by kernel_rfl) (fun _ _ _ h => h) (by rfl) ?_ (fun w' hq => HN1.out w' (hE.q (Q.trans hQ (Q.trans hqd hq)))) ?_
      · (intro w' hq; go_simp; try with_reducible rfl)
      simp only [Act.put, List.setIfInBounds_toArray, List.set_cons_zero, List.set_cons_succ]
      refine steadily_call (i := 8) (v := _) rfl rfl (by kernel_rfl) (by kernel_rfl) (fun _ _ _ h => h) (by rfl) ?_ (fun w' hq => HY.out w' (hE.q (Q.trans hQ (Q.trans hqd hq)))) ?_
      · (intro w' hq; go_simp; try with_reducible rfl)
      simp only [Act.put, List.setIfInBounds_toArray, List.set_cons_zero, List.set_cons_succ]
      refine steadily_value (i := 9) (v := ?_) rfl rfl (by kernel_rfl) (by kernel_rfl) (fun _ _ _ h => h) (by rfl) ?_ ?_
      rotate_left
      · (intro w' hq; go_simp; try with_reducible rfl)
      simp only [Act.put, List.setIfInBounds_toArray, List.set_cons_zero, List.set_cons_succ]
      refine steadily_value (i := 10) (v := ?_) rfl rfl (by kernel_rfl) (by kernel_rfl) (fun _ _ _ h => h) (by rfl) ?_ ?_
      rotate_left
      · (intro w' hq; go_simp; try with_reducible rfl)
      simp only [Act.put, List.setIfInBounds_toArray, List.set_cons_zero, List.set_cons_succ]
      refine steadily_value (i := 11) (v := ?_) rfl rfl (by kernel_rfl) (by kernel_rfl) (fun _ _ _ h => h) (by rfl) ?_ ?_
      rotate_left
      · (intro w' hq; go_simp; try with_reducible rfl)
      simp only [Act.put, List.setIfInBounds_toArray, List.set_cons_zero, List.set_cons_succ]
      refine steadily_value (i := 12) (v := ?_) rfl rfl (by kernel_rfl) (by kernel_rfl) (fun _ _ _ h => h) (by rfl) ?_ ?_
      rotate_left
      · (intro w' hq; go_simp; try with_reducible rfl)
      simp only [Act.put, List.setIfInBounds_toArray, List.set_cons_zero, List.set_cons_succ]
      refine steadily_value (i := 13) (v := ?_) rfl rfl (by kernel_rfl) (by kernel_rfl) (fun _ _ _ h => h) (by rfl) ?_ ?_
      rotate_left
      · (intro w' hq; go_simp; try with_reducible rfl)
      simp only [Act.put, List.setIfInBounds_toArray, List.set_cons_zero, List.set_cons_succ]
      refine steadily_done (by kernel_rfl) (fun wb hq3 => ?_)
      simp only [List.drop_succ_cons, List.drop_nil]
      have hs3 : Q wa wb := Q.trans hqd hq3
      replace hQ : Q w wb := Q.trans hQ hs3
      replace BM := BM.keep hs3 BM.lt
      replace BT := BT.keep hs3 BT.lt
      replace BV := BV.keep hs3 BV.lt
      replace BP := BP.keep hs3 BP.lt
      replace BYb := BYb.keep hs3 BYb.lt
      clear dD dY hqd hq3 hs3
      go_wp2_with fail
      have dD := BV.drew.cell 5
      have dY := BYb.drew.cell 2
      simp only [List.getElem?_cons_zero, List.getElem?_cons_succ] at dD dY
      have hqd : Q wb wb.drew := Below.drew (Q.refl wb)
      refine wp_steadily 14 (by kernel_rfl) (by kernel_rfl) rfl ?_
      refine steadily_value (i := 0) (v := ?_) rfl rfl (by kernel_rfl) (by kernel_rfl) (fun _ _ _ h => h) (by rfl) ?_ ?_
      rotate_left
      · (intro w' hq; go_simp; try with_reducible rfl)
      simp only [Act.put, List.setIfInBounds_toArray, List.set_cons_zero, List.set_cons_succ]
      refine steadily_value (i := 1) (v := ?_) rfl rfl (by kernel_rfl) (by kernel_rfl) (fun _ _ _ h => h) (by rfl) ?_ ?_
      rotate_left
      · (intro w' hq; go_simp; try with_reducible rfl)
      simp only [Act.put, List.setIfInBounds_toArray, List.set_cons_zero, List.set_cons_succ]
      refine steadily_value (i := 2) (v := ?_) rfl rfl (by kernel_rfl) (by kernel_rfl) (fun _ _ _ h => h) (by rfl) ?_ ?_
      rotate_left
      · (intro w' hq; go_simp; try with_reducible rfl)
      simp only [Act.put, List.setIfInBounds_toArray, List.set_cons_zero, List.set_cons_succ]
      refine steadily_value (i := 3) (v := ?_) rfl rfl (by kernel_rfl) (by kernel_rfl) (fun _ _ _ h => h) (by rfl) ?_ ?_
      rotate_left
      · (intro w' hq; have hc0 := qcell hq dD; go_simp; try with_reducible rfl)
      simp only [Act.put, List.setIfInBounds_toArray, List.set_cons_zero, List.set_cons_succ]
      refine steadily_value (i := 4) (v := ?_) rfl rfl (by kernel_rfl) (by kernel_rfl) (fun _ _ _ h => h) (by rfl) ?_ ?_
      rotate_left
      · (intro w' hq; go_simp; try with_reducible rfl)
      simp only [Act.put, List.setIfInBounds_toArray, List.set_cons_zero, List.set_cons_succ]
      refine steadily_value (i := 5) (v := ?_) rfl rfl (by kernel_rfl) (by kernel_rfl) (fun _ _ _ h => h) (by rfl) ?_ ?_
      rotate_left
      · (intro w' hq; have hc0 := qcell hq dY; go_simp; try with_reducible rfl)
      simp only [Act.put, List.setIfInBounds_toArray, List.set_cons_zero, List.set_cons_succ]
      refine steadily_value (i := 6) (v := ?_) rfl rfl (by kernel_rfl) (by kernel_rfl) (fun _ _ _ h => h) (by rfl) ?_ ?_
      rotate_left
      · (intro w' hq; go_simp; try with_reducible rfl)
      simp only [Act.put, List.setIfInBounds_toArray, List.set_cons_zero, List.set_cons_succ]
      refine steadily_call (i := 7) (v := _) rfl rfl (by kernel_rfl) (by kernel_rfl) (fun _ _ _ h => h) (by rfl) ?_ (fun w' hq => HN2.out w' (hE.q (Q.trans hQ (Q.trans hqd hq)))) ?_
      · (intro w' hq; go_simp; try with_reducible rfl)
      simp only [Act.put, List.setIfInBounds_toArray, List.set_cons_zero, List.set_cons_succ]
      refine steadily_call (i := 8) (v := _) rfl rfl (by kernel_rfl) (by kernel_rfl) (fun _ _ _ h => h) (by rfl) ?_ (fun w' hq => HZ.out w' (hE.q (Q.trans hQ (Q.trans hqd hq)))) ?_
      · (intro w' hq; go_simp; try with_reducible rfl)
      simp only [Act.put, List.setIfInBounds_toArray, List.set_cons_zero, List.set_cons_succ]
      refine steadily_value (i := 9) (v := ?_) rfl rfl (by kernel_rfl) (by kernel_rfl) (fun _ _ _ h => h) (by rfl) ?_ ?_
      rotate_left
      · (intro w' hq; go_simp; try with_reducible rfl)
      simp only [Act.put, List.setIfInBounds_toArray, List.set_cons_zero, List.set_cons_succ]
      refine steadily_value (i := 10) (v := ?_) rfl rfl (by kernel_rfl) (by kernel_rfl) (fun _ _ _ h => h) (by rfl) ?_ ?_
      rotate_left
      · (intro w' hq; go_simp; try with_reducible rfl)
      simp only [Act.put, List.setIfInBounds_toArray, List.set_cons_zero, List.set_cons_succ]
      refine steadily_value (i := 11) (v := ?_) rfl rfl (by kernel_rfl) (by kernel_rfl) (fun _ _ _ h => h) (by rfl) ?_ ?_
      rotate_left
      · (intro w' hq; go_simp; try with_reducible rfl)
      simp only [Act.put, List.setIfInBounds_toArray, List.set_cons_zero, List.set_cons_succ]
      refine steadily_value (i := 12) (v := ?_) rfl rfl (by kernel_rfl) (by kernel_rfl) (fun _ _ _ h => h) (by rfl) ?_ ?_
      rotate_left
      · (intro w' hq; go_simp; try with_reducible rfl)
      simp only [Act.put, List.setIfInBounds_toArray, List.set_cons_zero, List.set_cons_succ]
      refine steadily_value (i := 13) (v := ?_) rfl rfl (by kernel_rfl) (by kernel_rfl) (fun _ _ _ h => h) (by rfl) ?_ ?_
      rotate_left
      · (intro w' hq; go_simp; try with_reducible rfl)
      simp only [Act.put, List.setIfInBounds_toArray, List.set_cons_zero, List.set_cons_succ]
      refine steadily_done (by kernel_rfl) (fun wc hq3 => ?_)
      simp only [List.drop_succ_cons, List.drop_nil]
      have hs3 : Q wb wc := Q.trans hqd hq3
      replace hQ : Q w wc := Q.trans hQ hs3
      replace BM := BM.keep hs3 BM.lt
      replace BT := BT.keep hs3 BT.lt
      replace BV := BV.keep hs3 BV.lt
      replace BP := BP.keep hs3 BP.lt
      replace BYb := BYb.keep hs3 BYb.lt
      clear dD dY hqd hq3 hs3
      clear q0
      go_wp2_with fail
      refine (HSP.out _ _ _ _).mono ?_
      rintro e' wd ⟨rfl, hqs⟩
      have hQd : Q w wd := Q.trans hQ hqs
      replace BM := BM.keep hqs BM.lt
      replace BT := BT.keep hqs BT.lt
      replace BV := BV.keep hqs BV.lt
      replace BP := BP.keep hqs BP.lt
      replace BYb := BYb.keep hqs BYb.lt
      have v0 := BV.cell 3
      have v1 := BV.cell 4
      have v2 := BV.cell 5
      have f0 := BV.frozen 3
      have f1 := BV.frozen 4
      have f2 := BV.frozen 5
      replace lV := BV.lt
      simp only [List.getElem?_cons_zero, List.getElem?_cons_succ] at v0 v1 v2
      go_wp2
      go_roundw
      case rel => exact ⟨q_set (q_set (q_set hQd (by omega) _ _) (by omega) _ _) (by omega) _ _, ((BM.setOther (by omega) _ _).setOther (by omega) _ _).setOther (by omega) _ _, ((BT.setOther (by omega) _ _).setOther (by omega) _ _).setOther (by omega) _ _, ((BP.setOther (by omega) _ _).setOther (by omega) _ _).setOther (by omega) _ _, ((BYb.setOther (by omega) _ _).setOther (by omega) _ _).setOther (by omega) _ _, .inr (.inl ⟨rfl, ((BV.set 3 _).set 4 _).set 5 _⟩)⟩
      case measure => simp [intOf]
    · have q0 := BP.cell 1
      simp only [List.getElem?_cons_zero, List.getElem?_cons_succ] at q0
      have lV := BV.lt
      have lP := BP.lt
      go_wp2_with fail
      have dD := BV.drew.cell 6
      have dY := BYb.drew.cell 0
      simp only [List.getElem?_cons_zero, List.getElem?_cons_succ] at dD dY
      have hqd : Q wr wr.drew := Below.drew (Q.refl wr)
      refine wp_steadily 14 (by kernel_rfl) (by kernel_rfl) rfl ?_
      refine steadily_value (i := 0) (v := ?_) rfl rfl (by kernel_rfl) (by kernel_rfl) (fun _ _ _ h => h) (by rfl) ?_ ?_
      rotate_left
      · (intro w' hq; go_simp; try with_reducible rfl)
      simp only [Act.put, List.setIfInBounds_toArray, List.set_cons_zero, List.set_cons_succ]
      refine steadily_value (i := 1) (v := ?_) rfl rfl (by kernel_rfl) (by kernel_rfl) (fun _ _ _ h => h) (by rfl) ?_ ?_
      rotate_left
      · (intro w' hq; go_simp; try with_reducible rfl)
      simp only [Act.put, List.setIfInBounds_toArray, List.set_cons_zero, List.set_cons_succ]
      refine steadily_value (i := 2) (v := ?_) rfl rfl (by kernel_rfl) (by kernel_rfl) (fun _ _ _ h => h) (by rfl) ?_ ?_
      rotate_left
      · (intro w' hq; go_simp; try with_reducible rfl)
      simp only [Act.put, List.setIfInBounds_toArray, List.set_cons_zero, List.set_cons_succ]
      refine steadily_value (i := 3) (v := ?_) rfl rfl (by kernel_rfl) (by kernel_rfl) (fun _ _ _ h => h) (by rfl) ?_ ?_
      rotate_left
      · (intro w' hq; have hc0 := qcell hq dD; go_simp; try with_reducible rfl)
      simp only [Act.put, List.setIfInBounds_toArray, List.set_cons_zero, List.set_cons_succ]
      refine steadily_value (i := 4) (v := ?_) rfl rfl (by kernel_rfl) (by kernel_rfl) (fun _ _ _ h => h) (by rfl) ?_ ?_
      rotate_left
      · (intro w' hq; go_simp; try with_reducible rfl)
      simp only [Act.put, List.setIfInBounds_toArray, List.set_cons_zero, List.set_cons_succ]
      refine steadily_value (i := 5) (v := ?_) rfl rfl (by kernel_rfl) (by kernel_rfl) (fun _ _ _ h => h) (by rfl) ?_ ?_
      rotate_left
      · (intro w' hq; have hc0 := qcell hq dY; go_simp; try with_reducible rfl)
      simp only [Act.put, List.setIfInBounds_toArray, List.set_cons_zero, List.set_cons_succ]
      refine steadily_value (i := 6) (v := ?_) rfl rfl (by kernel_rfl) (by kernel_rfl) (fun _ _ _ h => h) (by rfl) ?_ ?_
      rotate_left
      · (intro w' hq; go_simp; try with_reducible rfl)
      simp only [Act.put, List.setIfInBounds_toArray, List.set_cons_zero, List.set_cons_succ]
      refine steadily_call (i := 7) (v := _) rfl rfl (by kernel_rfl) (by kernel_rfl) (fun _ _ _ h => h) (by rfl) ?_ (fun w' hq => HN0.out w' (hE.q (Q.trans hQ (Q.trans hqd hq)))) ?_
      · (intro w' hq; go_simp; try with_reducible rfl)
      simp only [Act.put, List.setIfInBounds_toArray, List.set_cons_zero, List.set_cons_succ]
      refine steadily_call (i := 8) (v := _) rfl rfl (by kernel_rfl) (by kernel_rfl) (fun _ _ _ h => h) (by rfl) ?_ (fun w' hq => HX'.out w' (hE.q (Q.trans hQ (Q.trans hqd hq)))) ?_
      · (intro w' hq; go_simp; try with_reducible rfl)
      simp only [Act.put, List.setIfInBounds_toArray, List.set_cons_zero, List.set_cons_succ]
      refine steadily_value (i := 9) (v := ?_) rfl rfl (by kernel_rfl) (by kernel_rfl) (fun _ _ _ h => h) (by rfl) ?_ ?_
      rotate_left
      · (intro w' hq; go_simp; try with_reducible rfl)
      simp only [Act.put, List.setIfInBounds_toArray, List.set_cons_zero, List.set_cons_succ]
      refine steadily_value (i := 10) (v := ?_) rfl rfl (by kernel_rfl) (by kernel_rfl) (fun _ _ _ h => h) (by rfl) ?_ ?_
      rotate_left
      · (intro w' hq; go_simp; try with_reducible rfl)
      simp only [Act.put, List.setIfInBounds_toArray, List.set_cons_zero, List.set_cons_succ]
      refine steadily_value (i := 11) (v := ?_) rfl rfl (by kernel_rfl) (by kernel_rfl) (fun _ _ _ h => h) (by rfl) ?_ ?_
      rotate_left
      · (intro w' hq; go_simp; try with_reducible rfl)
      simp only [Act.put, List.setIfInBounds_toArray, List.set_cons_zero, List.set_cons_succ]
      refine steadily_value (i := 12) (v := ?_) rfl rfl (by kernel_rfl) (by kernel_rfl) (fun _ _ _ h => h) (by rfl) ?_ ?_
      rotate_left
      · (intro w' hq; go_simp; try with_reducible rfl)
      simp only [Act.put, List.setIfInBounds_toArray, List.set_cons_zero, List.set_cons_succ]
      refine steadily_value (i := 13) (v := ?_) rfl rfl (by kernel_rfl) (by kernel_rfl) (fun _ _ _ h => h) (by rfl) ?_ ?_
      rotate_left
      · (intro w' hq; go_simp; try with_reducible rfl)
      simp only [Act.put, List.setIfInBounds_toArray, List.set_cons_zero, List.set_cons_succ]
      refine steadily_done (by kernel_rfl) (fun wa hq3 => ?_)
      simp only [List.drop_succ_cons, List.drop_nil]
      have hs3 : Q wr wa := Q.trans hqd hq3
      replace hQ : Q w wa := Q.trans hQ hs3
      replace BM := BM.keep hs3 BM.lt
      replace BT := BT.keep hs3 BT.lt
      replace BV := BV.keep hs3 BV.lt
      replace BP := BP.keep hs3 BP.lt
      replace BYb := BYb.keep hs3 BYb.lt
      clear dD dY hqd hq3 hs3
      go_wp2_with fail
      have dD := BV.drew.cell 7
      have dY := BYb.drew.cell 1
      simp only [List.getElem?_cons_zero, List.getElem?_cons_succ] at dD dY
      have hqd : Q wa wa.drew := Below.drew (Q.refl wa)
      refine wp_steadily 14 (by kernel_rfl) (by kernel_rfl) rfl ?_
      refine steadily_value (i := 0) (v := ?_) rfl rfl (by kernel_rfl) (by kernel_rfl) (fun _ _ _ h => h) (by rfl) ?_ ?_
      rotate_left
      · (intro w' hq; go_simp; try with_reducible rfl)
      simp only [Act.put, List.setIfInBounds_toArray, List.set_cons_zero, List.set_cons_succ]
      refine steadily_value (i := 1) (v := ?_) rfl rfl (by kernel_rfl) (by kernel_rfl) (fun _ _ _ h => h) (by rfl) ?_ ?_
      rotate_left
      · (intro w' hq; go_simp; try with_reducible rfl)
      simp only [Act.put, List.setIfInBounds_toArray, List.set_cons_zero, List.set_cons_succ]
      refine steadily_value (i := 2) (v := ?_) rfl rfl (by kernel_rfl) (by kernel_rfl) (fun _ _ _ h => h) (by rfl) ?_ ?_
      rotate_left
      · (intro w' hq; go_simp; try with_reducible rfl)
      simp only [Act.put, List.setIfInBounds_toArray, List.set_cons_zero, List.set_cons_succ]
      refine steadily_value (i := 3) (v := ?_) rfl rfl (by kernel_rfl) (by kernel_rfl) (fun _ _ _ h => h) (by rfl) ?_ ?_
      rotate_left
      · (intro w' hq; have hc0 := qcell hq dD; go_simp; try with_reducible rfl)
      simp only [Act.put, List.setIfInBounds_toArray, List.set_cons_zero, List.set_cons_succ]
      refine steadily_value (i := 4) (v := ?_) rfl rfl (by kernel_rfl) (by kernel_rfl) (fun _ _ _ h => h) (by rfl) ?_ ?_
      rotate_left
      · (intro w' hq; go_simp; try with_reducible rfl)
      simp only [Act.put, List.setIfInBounds_toArray, List.set_cons_zero, List.set_cons_succ]
      refine steadily_value (i := 5) (v := ?_) rfl rfl (by kernel_rfl) (by kernel_rfl) (fun _ _ _ h => h) (by rfl) ?_ ?_
      rotate_left
      · (intro w' hq; have hc0 := qcell hq dY; go_simp; try with_reducible rfl)
      simp only [Act.put, List.setIfInBounds_toArray, List.set_cons_zero, List.set_cons_succ]
      refine steadily_value (i := 6) (v := ?_) rfl rfl (by kernel_rfl) (by kernel_rfl) (fun _ _ _ h => h) (by rfl) ?_ ?_
      rotate_left
      · (intro w' hq; go_simp; try with_reducible rfl)
      simp only [Act.put, List.setIfInBounds_toArray, List.set_cons_zero, List.set_cons_succ]
      refine steadily_call (i := 7) (v := _) rfl rfl (by kernel_rfl) (by kernel_rfl) (fun _ _ _ h => h) (by rfl) ?_ (fun w' hq => HN1.out w' (hE.q (Q.trans hQ (Q.trans hqd hq)))) ?_
      · (intro w' hq; go_simp; try with_reducible rfl)
      simp only [Act.put, List.setIfInBounds_toArray, List.set_cons_zero, List.set_cons_succ]
      refine steadily_call (i := 8) (v := _) rfl rfl (by kernel_rfl) (by kernel_rfl) (fun _ _ _ h => h) (by rfl) ?_ (fun w' hq => HY'.out w' (hE.q (Q.trans hQ (Q.trans hqd hq)))) ?_
      · (intro w' hq; go_simp; try with_reducible rfl)
      simp only [Act.put, List.setIfInBounds_toArray, List.set_cons_zero, List.set_cons_succ]
      refine steadily_value (i := 9) (v := ?_) rfl rfl (by kernel_rfl) (by kernel_rfl) (fun _ _ _ h => h) (by rfl) ?_ ?_
      rotate_left
      · (intro w' hq; go_simp; try with_reducible rfl)
      simp only [Act.put, List.setIfInBounds_toArray, List.set_cons_zero, List.set_cons_succ]
      refine steadily_value (i := 10) (v := ?_) rfl rfl (by kernel_rfl) (by kernel_rfl) (fun _ _ _ h => h) (by rfl) ?_ ?_
      rotate_left
      · (intro w' hq; go_simp; try with_reducible rfl)
      simp only [Act.put, List.setIfInBounds_toArray, List.set_cons_zero, List.set_cons_succ]
      refine steadily_value (i := 11) (v := ?_) rfl rfl (by kernel_rfl) (by kernel_rfl) (fun _ _ _ h => h) (by rfl) ?_ ?_
      rotate_left
      · (intro w' hq; go_simp; try with_reducible rfl)
      simp only [Act.put, List.setIfInBounds_toArray, List.set_cons_zero, List.set_cons_succ]
      refine steadily_value (i := 12) (v := ?_) rfl rfl (by kernel_rfl) (by kernel_rfl) (fun _ _ _ h => h) (by rfl) ?_ ?_
      rotate_left
      · (intro w' hq; go_simp; try with_reducible rfl)
      simp only [Act.put, List.setIfInBounds_toArray, List.set_cons_zero, List.set_cons_succ]
      refine steadily_value (i := 13) (v := ?_) rfl rfl (by kernel_rfl) (by kernel_rfl) (fun _ _ _ h => h) (by rfl) ?_ ?_
      rotate_left
      · (intro w' hq; go_simp; try with_reducible rfl)
      simp only [Act.put, List.setIfInBounds_toArray, List.set_cons_zero, List.set_cons_succ]
      refine steadily_done (by kernel_rfl) (fun wb hq3 => ?_)
      simp only [List.drop_succ_cons, List.drop_nil]
      have hs3 : Q wa wb := Q.trans hqd hq3
      replace hQ : Q w wb := Q.trans hQ hs3
      replace BM := BM.keep hs3 BM.lt
      replace BT := BT.keep hs3 BT.lt
      replace BV := BV.keep hs3 BV.lt
      replace BP := BP.keep hs3 BP.lt
      replace BYb := BYb.keep hs3 BYb.lt
      clear dD dY hqd hq3 hs3
      go_wp2_with fail
      have dD := BV.drew.cell 8
      have dY := BYb.drew.cell 2
      simp only [List.getElem?_cons_zero, List.getElem?_cons_succ] at dD dY
      have hqd : Q wb wb.drew := Below.drew (Q.refl wb)
      refine wp_steadily 14 (by kernel_rfl) (by kernel_rfl) rfl ?_
      refine steadily_value (i := 0) (v := ?_) rfl rfl (by kernel_rfl) (by kernel_rfl) (fun _ _ _ h => h) (by rfl) ?_ ?_
      rotate_left
      · (intro w' hq; go_simp; try with_reducible rfl)
      simp only [Act.put, List.setIfInBounds_toArray, List.set_cons_zero, List.set_cons_succ]
      refine steadily_value (i := 1) (v := ?_) rfl rfl (by kernel_rfl) (by kernel_rfl) (fun _ _ _ h => h) (by rfl) ?_ ?_
      rotate_left
      · (intro w' hq; go_simp; try with_reducible rfl)
      simp only [Act.put, List.setIfInBounds_toArray, List.set_cons_zero, List.set_cons_succ]
      refine steadily_value (i := 2) (v := ?_) rfl rfl (by kernel_rfl) (by kernel_rfl) (fun _ _ _ h => h) (by rfl) ?_ ?_
      rotate_left
      · (intro w' hq; go_simp; try with_reducible rfl)
      simp only [Act.put, List.setIfInBounds_toArray, List.set_cons_zero, List.set_cons_succ]
      refine steadily_value (i := 3) (v := ?_) rfl rfl (by kernel_rfl) (by kernel_rfl) (fun _ _ _ h => h) (by rfl) ?_ ?_
      rotate_left
      · (intro w' hq; have hc0 := qcell hq dD; go_simp; try with_reducible rfl)
      simp only [Act.put, List.setIfInBounds_toArray, List.set_cons_zero, List.set_cons_succ]
      refine steadily_value (i := 4) (v := ?_) rfl rfl (by kernel_rfl) (by kernel_rfl) (fun _ _ _ h => h) (by rfl) ?_ ?_
      rotate_left
      · (intro w' hq; go_simp; try with_reducible rfl)
      simp only [Act.put, List.setIfInBounds_toArray, List.set_cons_zero, List.set_cons_succ]
      refine steadily_value (i := 5) (v := ?_) rfl rfl (by kernel_rfl) (by kernel_rfl) (fun _ _ _ h => h) (by rfl) ?_ ?_
      rotate_left
      · (intro w' hq; have hc0 := qcell hq dY; go_simp; try with_reducible rfl)
      simp only [Act.put, List.setIfInBounds_toArray, List.set_cons_zero, List.set_cons_succ]
      refine steadily_value (i := 6) (v := ?_) rfl rfl (by kernel_rfl) (by kernel_rfl) (fun _ _ _ h => h) (by rfl) ?_ ?_
      rotate_left
      · (intro w' hq; go_simp; try with_reducible rfl)
      simp only [Act.put, List.setIfInBounds_toArray, List.set_cons_zero, List.set_cons_succ]
      refine steadily_call (i := 7) (v := _) rfl rfl (by kernel_rfl) (by kernel_rfl) (fun _ _ _ h => h) (by rfl) ?_ (fun w' hq => HN2.out w' (hE.q (Q.trans hQ (Q.trans hqd hq)))) ?_
      · (intro w' hq; go_simp; try with_reducible rfl)
      simp only [Act.put, List.setIfInBounds_toArray, List.set_cons_zero, List.set_cons_succ]
      refine steadily_call (i := 8) (v := _) rfl rfl (by kernel_rfl) (by kernel_rfl) (fun _ _ _ h => h) (by rfl) ?_ (fun w' hq => HZ'.out w' (hE.q (Q.trans hQ (Q.trans hqd hq)))) ?_
      · (intro w' hq; go_simp; try with_reducible rfl)
      simp only [Act.put, List.setIfInBounds_toArray, List.set_cons_zero, List.set_cons_succ]
      refine steadily_value (i := 9) (v := ?_) rfl rfl (by kernel_rfl) (by kernel_rfl) (fun _ _ _ h => h) (by rfl) ?_ ?_
      rotate_left
      · (intro w' hq; go_simp; try with_reducible rfl)
      simp only [Act.put, List.setIfInBounds_toArray, List.set_cons_zero, List.set_cons_succ]
      refine steadily_value (i := 10) (v := ?_) rfl rfl (by kernel_rfl) (by kernel_rfl) (fun _ _ _ h => h) (by rfl) ?_ ?_
      rotate_left
      · (intro w' hq; go_simp; try with_reducible rfl)
      simp only [Act.put, List.setIfInBounds_toArray, List.set_cons_zero, List.set_cons_succ]
      refine steadily_value (i := 11) (v := ?_) rfl rfl (by kernel_rfl) (by kernel_rfl) (fun _ _ _ h => h) (by rfl) ?_ ?_
      rotate_left
      · (intro w' hq; go_simp; try with_reducible rfl)
      simp only [Act.put, List.setIfInBounds_toArray, List.set_cons_zero, List.set_cons_succ]
      refine steadily_value (i := 12) (v := ?_) rfl rfl (by kernel_rfl) (by kernel_rfl) (fun _ _ _ h => h) (by rfl) ?_ ?_
      rotate_left
      · (intro w' hq; go_simp; try with_reducible rfl)
      simp only [Act.put, List.setIfInBounds_toArray, List.set_cons_zero, List.set_cons_succ]
      refine steadily_value (i := 13) (v := ?_) rfl rfl (by kernel_rfl) (by kernel_rfl) (fun _ _ _ h => h) (by rfl) ?_ ?_
      rotate_left
      · (intro w' hq; go_simp; try with_reducible rfl)
      simp only [Act.put, List.setIfInBounds_toArray, List.set_cons_zero, List.set_cons_succ]
      refine steadily_done (by kernel_rfl) (fun wc hq3 => ?_)
      simp only [List.drop_succ_cons, List.drop_nil]
      have hs3 : Q wb wc := Q.trans hqd hq3
      replace hQ : Q w wc := Q.trans hQ hs3
      replace BM := BM.keep hs3 BM.lt
      replace BT := BT.keep hs3 BT.lt
      replace BV := BV.keep hs3 BV.lt
      replace BP := BP.keep hs3 BP.lt
      replace BYb := BYb.keep hs3 BYb.lt
      clear dD dY hqd hq3 hs3
      clear q0
      go_wp2_with fail
      refine (HSP.out _ _ _ _).mono ?_
      rintro e' wd ⟨rfl, hqs⟩
      have hQd : Q w wd := Q.trans hQ hqs
      replace BM := BM.keep hqs BM.lt
      replace BT := BT.keep hqs BT.lt
      replace BV := BV.keep hqs BV.lt
      replace BP := BP.keep hqs BP.lt
      replace BYb := BYb.keep hqs BYb.lt
      have v0 := BV.cell 6
      have v1 := BV.cell 7
      have v2 := BV.cell 8
      have f0 := BV.frozen 6
      have f1 := BV.frozen 7
      have f2 := BV.frozen 8
      replace lV := BV.lt
      simp only [List.getElem?_cons_zero, List.getElem?_cons_succ] at v0 v1 v2
      go_wp2
      go_roundw
      case rel => exact ⟨q_set (q_set (q_set hQd (by omega) _ _) (by omega) _ _) (by omega) _ _, ((BM.setOther (by omega) _ _).setOther (by omega) _ _).setOther (by omega) _ _, ((BT.setOther (by omega) _ _).setOther (by omega) _ _).setOther (by omega) _ _, ((BP.setOther (by omega) _ _).setOther (by omega) _ _).setOther (by omega) _ _, ((BYb.setOther (by omega) _ _).setOther (by omega) _ _).setOther (by omega) _ _, .inr (.inr ⟨rfl, ((BV.set 6 _).set 7 _).set 8 _⟩)⟩
      case measure => simp [intOf]
    · replace hE := hE.q hQ
      clear BP BYb
      have hQ0 := Q.refl wr
      replace m0 := BM.cell 0
      replace m1 := BM.cell 1
      replace m2 := BM.cell 2
      replace m3 := BM.cell 3
      replace m4 := BM.cell 4
      replace m5 := BM.cell 5
      replace m6 := BM.cell 6
      replace m7 := BM.cell 7
      replace m8 := BM.cell 8
      replace m9 := BM.cell 9
      replace m10 := BM.cell 10
      simp only [List.getElem?_cons_zero, List.getElem?_cons_succ] at m0 m1 m2 m3 m4 m5 m6 m7 m8 m9 m10
      replace lBM := BM.lt
      replace lBT := BT.lt
      replace lBV := BV.lt
      go_wp2_with fail
      refine (HLm.out _ (hE.ofQ bt)).mono ?_
      rintro e y1 ⟨v1, rfl, hq1, l1⟩
      have hs1 : Q wr y1 := Q.trans bt hq1
      have hQ1 : Q wr y1 := Q.trans hQ0 hs1
      replace BM := BM.keep hs1 BM.lt
      replace m0 := BM.cell 0
      replace m1 := BM.cell 1
      replace m2 := BM.cell 2
      replace m3 := BM.cell 3
      replace m4 := BM.cell 4
      replace m5 := BM.cell 5
      replace m6 := BM.cell 6
      replace m7 := BM.cell 7
      replace m8 := BM.cell 8
      replace m9 := BM.cell 9
      replace m10 := BM.cell 10
      simp only [List.getElem?_cons_zero, List.getElem?_cons_succ] at m0 m1 m2 m3 m4 m5 m6 m7 m8 m9 m10
      replace lBM := BM.lt
      replace BT := BT.keep hs1 BT.lt
      replace lBT := BT.lt
      replace BV := BV.keep hs1 BV.lt
      replace lBV := BV.lt
      go_wp2_with fail
      refine (HRm.out _ (hE.ofQ bt)).mono ?_
      rintro e y2 ⟨v2, rfl, hq2, l2⟩
      have hs2 : Q y1 y2 := Q.trans bt hq2
      have hQ2 : Q wr y2 := Q.trans hQ1 hs2
      replace l1 := LenAt.keep l1 hs2
      replace BM := BM.keep hs2 BM.lt
      replace m0 := BM.cell 0
      replace m1 := BM.cell 1
      replace m2 := BM.cell 2
      replace m3 := BM.cell 3
      replace m4 := BM.cell 4
      replace m5 := BM.cell 5
      replace m6 := BM.cell 6
      replace m7 := BM.cell 7
      replace m8 := BM.cell 8
      replace m9 := BM.cell 9
      replace m10 := BM.cell 10
      simp only [List.getElem?_cons_zero, List.getElem?_cons_succ] at m0 m1 m2 m3 m4 m5 m6 m7 m8 m9 m10
      replace lBM := BM.lt
      replace BT := BT.keep hs2 BT.lt
      replace lBT := BT.lt
      replace BV := BV.keep hs2 BV.lt
      replace lBV := BV.lt
      go_wp2_with fail
      refine (HZm.out _ (hE.ofQ bt)).mono ?_
      rintro e y3 ⟨rfl, hq3⟩
      have hs3 : Q y2 y3 := Q.trans bt hq3
      have hQ3 : Q wr y3 := Q.trans hQ2 hs3
      replace l1 := LenAt.keep l1 hs3
      replace l2 := LenAt.keep l2 hs3
      replace BM := BM.keep hs3 BM.lt
      replace m0 := BM.cell 0
      replace m1 := BM.cell 1
      replace m2 := BM.cell 2
      replace m3 := BM.cell 3
      replace m4 := BM.cell 4
      replace m5 := BM.cell 5
      replace m6 := BM.cell 6
      replace m7 := BM.cell 7
      replace m8 := BM.cell 8
      replace m9 := BM.cell 9
      replace m10 := BM.cell 10
      simp only [List.getElem?_cons_zero, List.getElem?_cons_succ] at m0 m1 m2 m3 m4 m5 m6 m7 m8 m9 m10
      replace lBM := BM.lt
      replace BT := BT.keep hs3 BT.lt
      replace lBT := BT.lt
      replace BV := BV.keep hs3 BV.lt
      replace lBV := BV.lt
      clear BM lBM m0 m1 m2 m3 m4 m5 m6 m7 m8 m9 m10
      have hQw3 : Q w y3 := Q.trans hQ hQ3
      replace hE := hE.q hQ3
      have L1 := Lib.hid l1
      have L2 := Lib.hid l2
      have t0 := BT.cell 0
      have t1 := BT.cell 1
      have t2 := BT.cell 2
      have t3 := BT.cell 3
      have t4 := BT.cell 4
      have t5 := BT.cell 5
      have t6 := BT.cell 6
      have t7 := BT.cell 7
      have t8 := BT.cell 8
      have t9 := BT.cell 9
      have t10 := BT.cell 10
      simp only [List.getElem?_cons_zero, List.getElem?_cons_succ] at t0 t1 t2 t3 t4 t5 t6 t7 t8 t9 t10
      have u0 := BV.cell 0
      have u1 := BV.cell 1
      have u2 := BV.cell 2
      have u3 := BV.cell 3
      have u4 := BV.cell 4
      have u5 := BV.cell 5
      have u6 := BV.cell 6
      have u7 := BV.cell 7
      have u8 := BV.cell 8
      have u9 := BV.cell 9
      have u10 := BV.cell 10
      simp only [List.getElem?_cons_zero, List.getElem?_cons_succ] at u0 u1 u2 u3 u4 u5 u6 u7 u8 u9 u10
      go_wp2
      have BL := Blk.new y3 [.int .i64 1, .int .i64 0, .int .i64 (-1), .string ⟨X'.toArray⟩, .string ⟨Y'.toArray⟩, .string ⟨Z'.toArray⟩, .string ⟨X.toArray⟩, .string ⟨Y.toArray⟩, .string ⟨Z.toArray⟩, .int .i64 60, .int .i64 180, .int .i64 1, .int .i64 0, .int .i64 (-1), .string ⟨A1.toArray⟩, .string ⟨A2.toArray⟩, .string ⟨A3.toArray⟩, .string ⟨B1.toArray⟩, .string ⟨B2.toArray⟩, .string ⟨B3.toArray⟩, .int .i64 60, .int .i64 180] 30
      have hq4 : Q y3 (y3.alloc (.cells #[.int .i64 1, .int .i64 0, .int .i64 (-1), .string ⟨X'.toArray⟩, .string ⟨Y'.toArray⟩, .string ⟨Z'.toArray⟩, .string ⟨X.toArray⟩, .string ⟨Y.toArray⟩, .string ⟨Z.toArray⟩, .int .i64 60, .int .i64 180, .int .i64 1, .int .i64 0, .int .i64 (-1), .string ⟨A1.toArray⟩, .string ⟨A2.toArray⟩, .string ⟨A3.toArray⟩, .string ⟨B1.toArray⟩, .string ⟨B2.toArray⟩, .string ⟨B3.toArray⟩, .int .i64 60, .int .i64 180] 30)) := bt
      clear l1 l2 hQ0 hQ1 hQ2 hQ3 hs1 hs2 hs3 hq1 hq2 hq3 lBT lBV t0 t1 t2 t3 t4 t5 t6 t7 t8 t9 t10 u0 u1 u2 u3 u4 u5 u6 u7 u8 u9 u10
      go_loopw [121] (fun i wr => Q y3 wr ∧ Blk wr y3.heap.size [.int .i64 1, .int .i64 0, .int .i64 (-1), .string ⟨X'.toArray⟩, .string ⟨Y'.toArray⟩, .string ⟨Z'.toArray⟩, .string ⟨X.toArray⟩, .string ⟨Y.toArray⟩, .string ⟨Z.toArray⟩, .int .i64 60, .int .i64 180, .int .i64 1, .int .i64 0, .int .i64 (-1), .string ⟨A1.toArray⟩, .string ⟨A2.toArray⟩, .string ⟨A3.toArray⟩, .string ⟨B1.toArray⟩, .string ⟨B2.toArray⟩, .string ⟨B3.toArray⟩, .int .i64 60, .int .i64 180] 30 ∧ (i = .int .i64 0 ∨ i = .int .i64 1 ∨ i = .int .i64 2)) (fun i _ => 2 - (intOf i).toNat)
      case atStart => exact ⟨hq4, BL, .inl rfl⟩
      case round =>
        clear BL hq4 BT BV
        obtain ⟨hQ5, BL, hi⟩ := hrel
        replace hE := hE.q hQ5
        rcases hi with rfl | rfl | rfl
        · have c0 := BL.cell 0
          have c1 := BL.cell 1
          have c2 := BL.cell 2
          have c3 := BL.cell 3
          have c4 := BL.cell 4
          have c5 := BL.cell 5
          have c6 := BL.cell 6
          have c7 := BL.cell 7
          have c8 := BL.cell 8
          have c9 := BL.cell 9
          have c10 := BL.cell 10
          simp only [List.getElem?_cons_zero, List.getElem?_cons_succ] at c0 c1 c2 c3 c4 c5 c6 c7 c8 c9 c10
          have lL := BL.lt
          have hQ0 := Q.refl wr
          go_wp2_with fail
          refine (HLt.out _ (hE.ofQ bt)).mono ?_
          rintro e z1 ⟨u1, rfl, hq1, n1⟩
          have hs1 : Q wr z1 := Q.trans bt hq1
          have hQ1 : Q wr z1 := Q.trans hQ0 hs1
          have BN := (Blk.new wr [.int .i64 1, .int .i64 0, .int .i64 (-1), .string ⟨X'.toArray⟩, .string ⟨Y'.toArray⟩, .string ⟨Z'.toArray⟩, .string ⟨X.toArray⟩, .string ⟨Y.toArray⟩, .string ⟨Z.toArray⟩, .int .i64 60, .int .i64 180] 30).keep hq1 (by simp)
          replace k0 := BN.cell 0
          replace k1 := BN.cell 1
          replace k2 := BN.cell 2
          replace k3 := BN.cell 3
          replace k4 := BN.cell 4
          replace k5 := BN.cell 5
          replace k6 := BN.cell 6
          replace k7 := BN.cell 7
          replace k8 := BN.cell 8
          replace k9 := BN.cell 9
          replace k10 := BN.cell 10
          simp only [List.getElem?_cons_zero, List.getElem?_cons_succ] at k0 k1 k2 k3 k4 k5 k6 k7 k8 k9 k10
          replace lBN := BN.lt
          go_wp2_with fail
          refine (HRt.out _ (hE.ofQ bt)).mono ?_
          rintro e z2 ⟨u2, rfl, hq2, n2⟩
          have hs2 : Q z1 z2 := Q.trans bt hq2
          have hQ2 : Q wr z2 := Q.trans hQ1 hs2
          replace n1 := LenAt.keep n1 hs2
          replace BN := BN.keep hs2 BN.lt
          replace k0 := BN.cell 0
          replace k1 := BN.cell 1
          replace k2 := BN.cell 2
          replace k3 := BN.cell 3
          replace k4 := BN.cell 4
          replace k5 := BN.cell 5
          replace k6 := BN.cell 6
          replace k7 := BN.cell 7
          replace k8 := BN.cell 8
          replace k9 := BN.cell 9
          replace k10 := BN.cell 10
          simp only [List.getElem?_cons_zero, List.getElem?_cons_succ] at k0 k1 k2 k3 k4 k5 k6 k7 k8 k9 k10
          replace lBN := BN.lt
          go_wp2_with fail
          refine (HZt.out _ (hE.ofQ bt)).mono ?_
          rintro e z3 ⟨rfl, hq3⟩
          have hs3 : Q z2 z3 := Q.trans bt hq3
          have hQ3 : Q wr z3 := Q.trans hQ2 hs3
          replace n1 := LenAt.keep n1 hs3
          replace n2 := LenAt.keep n2 hs3
          replace BN := BN.keep hs3 BN.lt
          replace k0 := BN.cell 0
          replace k1 := BN.cell 1
          replace k2 := BN.cell 2
          replace k3 := BN.cell 3
          replace k4 := BN.cell 4
          replace k5 := BN.cell 5
          replace k6 := BN.cell 6
          replace k7 := BN.cell 7
          replace k8 := BN.cell 8
          replace k9 := BN.cell 9
          replace k10 := BN.cell 10
          simp only [List.getElem?_cons_zero, List.getElem?_cons_succ] at k0 k1 k2 k3 k4 k5 k6 k7 k8 k9 k10
          replace lBN := BN.lt
          clear BN lBN k0 k1 k2 k3 k4 k5 k6 k7 k8 k9 k10
          go_wp2_with fail
          refine (HSB.out _ (hE.ofQ bt)).mono ?_
          rintro e z4 ⟨rfl, hq4⟩
          have hs4 : Q z3 z4 := Q.trans bt hq4
          have hQ4 : Q wr z4 := Q.trans hQ3 hs4
          replace n1 := LenAt.keep n1 hs4
          replace n2 := LenAt.keep n2 hs4
          have x1 := Lib.hid ((L1.out.keep hQ5).keep hQ4)
          have x2 := Lib.hid ((L2.out.keep hQ5).keep hQ4)
          have y1 := Lib.hid n1
          have y2 := Lib.hid n2
          clear n1 n2 c0 c1 c2 c3 c4 c5 c6 c7 c8 c9 c10
          go_wp2_with fail
          refine (same_len _ _ _ _ _ _ y1.out x1.out).mono ?_
          rintro e' za ⟨rfl, hqa⟩
          go_wp2_with fail
          refine (same_len _ _ _ _ _ _ (y2.out.keep hqa) (x2.out.keep hqa)).mono ?_
          rintro e' zb ⟨rfl, hqb⟩
          have hQz : Q wr zb := Q.trans hQ4 (Q.trans hqa hqb)
          go_wp2
          go_roundw
          case rel => exact ⟨Q.trans hQ5 hQz, BL.keep hQz BL.lt, .inr (.inl rfl)⟩
          case measure => simp [intOf]
        · have c0 := BL.cell 11
          have c1 := BL.cell 12
          have c2 := BL.cell 13
          have c3 := BL.cell 14
          have c4 := BL.cell 15
          have c5 := BL.cell 16
          have c6 := BL.cell 17
          have c7 := BL.cell 18
          have c8 := BL.cell 19
          have c9 := BL.cell 20
          have c10 := BL.cell 21
          simp only [List.getElem?_cons_zero, List.getElem?_cons_succ] at c0 c1 c2 c3 c4 c5 c6 c7 c8 c9 c10
          have lL := BL.lt
          have hQ0 := Q.refl wr
          go_wp2_with fail
          refine (HLv.out _ (hE.ofQ bt)).mono ?_
          rintro e z1 ⟨u1, rfl, hq1, n1⟩
          have hs1 : Q wr z1 := Q.trans bt hq1
          have hQ1 : Q wr z1 := Q.trans hQ0 hs1
          have BN := (Blk.new wr [.int .i64 1, .int .i64 0, .int .i64 (-1), .string ⟨A1.toArray⟩, .string ⟨A2.toArray⟩, .string ⟨A3.toArray⟩, .string ⟨B1.toArray⟩, .string ⟨B2.toArray⟩, .string ⟨B3.toArray⟩, .int .i64 60, .int .i64 180] 30).keep hq1 (by simp)
          replace k0 := BN.cell 0
          replace k1 := BN.cell 1
          replace k2 := BN.cell 2
          replace k3 := BN.cell 3
          replace k4 := BN.cell 4
          replace k5 := BN.cell 5
          replace k6 := BN.cell 6
          replace k7 := BN.cell 7
          replace k8 := BN.cell 8
          replace k9 := BN.cell 9
          replace k10 := BN.cell 10
          simp only [List.getElem?_cons_zero, List.getElem?_cons_succ] at k0 k1 k2 k3 k4 k5 k6 k7 k8 k9 k10
          replace lBN := BN.lt
          go_wp2_with fail
          refine (HRv.out _ (hE.ofQ bt)).mono ?_
          rintro e z2 ⟨u2, rfl, hq2, n2⟩
          have hs2 : Q z1 z2 := Q.trans bt hq2
          have hQ2 : Q wr z2 := Q.trans hQ1 hs2
          replace n1 := LenAt.keep n1 hs2
          replace BN := BN.keep hs2 BN.lt
          replace k0 := BN.cell 0
          replace k1 := BN.cell 1
          replace k2 := BN.cell 2
          replace k3 := BN.cell 3
          replace k4 := BN.cell 4
          replace k5 := BN.cell 5
          replace k6 := BN.cell 6
          replace k7 := BN.cell 7
          replace k8 := BN.cell 8
          replace k9 := BN.cell 9
          replace k10 := BN.cell 10
          simp only [List.getElem?_cons_zero, List.getElem?_cons_succ] at k0 k1 k2 k3 k4 k5 k6 k7 k8 k9 k10
          replace lBN := BN.lt
          go_wp2_with fail
          refine (HZv.out _ (hE.ofQ bt)).mono ?_
          rintro e z3 ⟨rfl, hq3⟩
          have hs3 : Q z2 z3 := Q.trans bt hq3
          have hQ3 : Q wr z3 := Q.trans hQ2 hs3
          replace n1 := LenAt.keep n1 hs3
          replace n2 := LenAt.keep n2 hs3
          replace BN := BN.keep hs3 BN.lt
          replace k0 := BN.cell 0
          replace k1 := BN.cell 1
          replace k2 := BN.cell 2
          replace k3 := BN.cell 3
          replace k4 := BN.cell 4
          replace k5 := BN.cell 5
          replace k6 := BN.cell 6
          replace k7 := BN.cell 7
          replace k8 := BN.cell 8
          replace k9 := BN.cell 9
          replace k10 := BN.cell 10
          simp only [List.getElem?_cons_zero, List.getElem?_cons_succ] at k0 k1 k2 k3 k4 k5 k6 k7 k8 k9 k10
          replace lBN := BN.lt
          clear BN lBN k0 k1 k2 k3 k4 k5 k6 k7 k8 k9 k10
          have x1 := Lib.hid ((L1.out.keep hQ5).keep hQ3)
          have x2 := Lib.hid ((L2.out.keep hQ5).keep hQ3)
          have y1 := Lib.hid n1
          have y2 := Lib.hid n2
          clear n1 n2 c0 c1 c2 c3 c4 c5 c6 c7 c8 c9 c10
          go_wp2_with fail
          refine (same_len _ _ _ _ _ _ y1.out x1.out).mono ?_
          rintro e' za ⟨rfl, hqa⟩
          go_wp2_with fail
          refine (same_len _ _ _ _ _ _ (y2.out.keep hqa) (x2.out.keep hqa)).mono ?_
          rintro e' zb ⟨rfl, hqb⟩
          have hQz : Q wr zb := Q.trans hQ3 (Q.trans hqa hqb)
          go_wp2
          go_roundw
          case rel => exact ⟨Q.trans hQ5 hQz, BL.keep hQz BL.lt, .inr (.inr rfl)⟩
          case measure => simp [intOf]
        · go_wp2_with fail
          refine (awake32 _ hE).mono ?_
          rintro e' z1 ⟨rfl, hqz⟩
          have hQz : Q w z1 := Q.trans hQw3 (Q.trans hQ5 hqz)
          go_wp2
          go_ret
          exact ⟨rfl, hQz⟩

end Go.Proofs.YthokehkdpmbeaaaGreatDoor
