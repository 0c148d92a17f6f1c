/-
  CD CE CF SqM CG CH LSquares, one behind the other (what SD leaves).; RA RM RO RP RR RB RD RC, one behind the other.; RE RF RG RH RJ RK RI RL LSlopes, one behind the other.; VA VB VC VD, one behind the other.; VE VF VG VH, one behind the other.; Regions that draw their order, of an iterator: the first operations in whatever order, then what is left, the loop's body among it, one by one.; Rows of any elements in memory.
-/
import Derived.Test.YtlbjjkmfcgcodaaGreatDoorSD
import Derived.Test.YtlbjjkmfcgcodaaGreatDoorG05
import Derived.Shelf.Spec.SlicesGrow
import Derived.Lib.MinMax
import Derived.Test.YtlbjjkmfcgcodaaGreatDoorBI1
namespace Go.Proofs.YtlbjjkmfcgcodaaGreatDoor
open Go.RowKit Kp
open Go.Lib (decDigits)
end Go.Proofs.YtlbjjkmfcgcodaaGreatDoor
namespace Go.Proofs.YtlbjjkmfcgcodaaGreatDoor
open Go.RowKit Kp
open Go.Lib (decDigits)
def Surd1 (w : World) (B : Nat) (v : Value) (x : Rat) (l : Nat) : Prop :=
  w.ownsRow B 83 2 v 1 [.string ⟨(rstr x).toArray⟩, .string ⟨(Lib.itoa (l : Int)).toArray⟩]
end Go.Proofs.YtlbjjkmfcgcodaaGreatDoor
namespace Go.Proofs.YtlbjjkmfcgcodaaGreatDoor
open Go.RowKit Kp
open Go.Lib (decDigits)
end Go.Proofs.YtlbjjkmfcgcodaaGreatDoor
namespace Kp
end Kp
namespace Go.Proofs.YtlbjjkmfcgcodaaGreatDoor
open Kp
end Go.Proofs.YtlbjjkmfcgcodaaGreatDoor
namespace Go.Proofs.YtlbjjkmfcgcodaaGreatDoor
open Go.RowKit Kp
open Go.Lib (decDigits)
end Go.Proofs.YtlbjjkmfcgcodaaGreatDoor
namespace Go.Proofs.YtlbjjkmfcgcodaaGreatDoor
open Go.RowKit Kp
open Go.Lib (decDigits)
theorem surd1_keep {w w' : World} {B : Nat} {v : Value} {x : Rat} {l : Nat} (h : Surd1 w B v x l) (hq : Q w w') : Surd1 w' B v x l := ownsRow_keep h hq
end Go.Proofs.YtlbjjkmfcgcodaaGreatDoor
namespace Go.Proofs.YtlbjjkmfcgcodaaGreatDoor
open Go.RowKit Kp
open Go.Lib (decDigits)
theorem u8_range {x : Int} (h : (Go.Lit.int .u8 x).wf = true) : 0 ≤ x ∧ x ≤ 255 := by
  have h2 : (decide (IntKind.min .u8 ≤ x) && decide (x ≤ IntKind.max .u8)) = true := h
  rw [show IntKind.min .u8 = 0 from rfl, show IntKind.max .u8 = 255 from rfl] at h2
  simpa using h2
end Go.Proofs.YtlbjjkmfcgcodaaGreatDoor
namespace Go.Proofs.YtlbjjkmfcgcodaaGreatDoor
open Go.RowKit Kp
open Go.Lib (decDigits)
set_option maxHeartbeats 1000000 in
theorem rational_Compare_small (x y : Rat) (hx : Small8 x) (hy : Small8 y) (w : World) :
    Calls Tryz.prog 13 #[.string ⟨(rstr x).toArray⟩, .string ⟨(rstr y).toArray⟩] w fun e w' => e = .returned (.tuple #[.int .i64 (Lib.compareInt (x.num * y.den) (y.num * x.den)), .int .i64 0]) ∧ Q w w' := by
  have l1 := rstr_len (Small8.root90 hx).rlim
  have l2 := rstr_len (Small8.root90 hy).rlim
  have N1 := Lib.hid (fun w => rational_nativeOf (rstr x) (by omega) w)
  have N2 := Lib.hid (fun w => rational_nativeOf (rstr y) (by omega) w)
  rw [natOfV_small hx] at N1
  rw [natOfV_small hy] at N2
  have b1 := hx.1
  have b2 := hx.2
  have b3 := hy.1
  have b4 := hy.2
  have hd1 : (0 : Int) < x.den := by have := x.den_pos; omega
  have hd2 : (0 : Int) < y.den := by have := y.den_pos; omega
  have p1 : (x.num * (y.den : Int)).natAbs < 10000000000000000 := by
    rw [Int.natAbs_mul, Int.natAbs_natCast]
    have := Nat.mul_lt_mul'' b1 b4
    omega
  have p2 : (y.num * (x.den : Int)).natAbs < 10000000000000000 := by
    rw [Int.natAbs_mul, Int.natAbs_natCast]
    have := Nat.mul_lt_mul'' b3 b2
    omega
  generalize (x.den : Int) = xd at *
  generalize (y.den : Int) = yd at *
  generalize x.num = xn at *
  generalize y.num = yn at *
  generalize rstr x = X at *
  generalize rstr y = Y at *
  have q1 : -10000000000000000 < xn * yd := by omega
  have q2 : xn * yd < 10000000000000000 := by omega
  have q3 : -10000000000000000 < yn * xd := by omega
  have q4 : yn * xd < 10000000000000000 := by omega
  clear p1 p2 b1 b2 b3 b4 hx hy l1 l2
  go_enter Tryz.func13, Tryz.ntmps13
  go_wp2_with fail
  refine (N1.out _).mono ?_
  rintro e w1 ⟨rfl, hq1⟩
  go_wp2_with fail
  refine (N2.out _).mono ?_
  rintro e w2 ⟨rfl, hq2⟩
  have hQ2 : Q w w2 := Q.trans hq1 (Q.trans ((Below.refl _ w1).alloc (Nat.le_refl _) _) hq2)
  have B1 := (Blk.new w1 [.int .i64 xn, .int .i64 xd] 93).keep hq2 (by simp)
  have l1 := B1.lt
  have c0 := B1.cell 0
  have c1 := B1.cell 1
  simp only [List.getElem?_cons_zero, List.getElem?_cons_succ] at c0 c1
  go_wp2_with fail
  refine (Tryz.cmp_Compare_int _ _ _).mono ?_
  rintro e w3 ⟨rfl, rfl⟩
  go_wp2
  go_ret2
  exact ⟨rfl, hQ2.alloc hQ2.size _⟩
set_option maxHeartbeats 1000000 in
theorem rational_Compare_long (x y : Rat) (hx : rlim x = false) (hy : rlim y = false) (hs : ¬ (Small8 x ∧ Small8 y)) (h1 : lim (x.num * y.den) = false) (h2 : lim (y.num * (x.den : Int)) = false) (w : World) (hE : Env w) :
    Calls Tryz.prog 13 #[.string ⟨(rstr x).toArray⟩, .string ⟨(rstr y).toArray⟩] w fun e w' => e = .returned (.tuple #[.int .i64 (Lib.compareInt (x.num * y.den) (y.num * x.den)), .int .i64 0]) ∧ Q w w' := by
  have l1 := rstr_len hx
  have l2 := rstr_len hy
  have hor := natOf_none_or hs
  have N1 := Lib.hid (fun w => rational_nativeOf (rstr x) (by omega) w)
  have N2 := Lib.hid (fun w => rational_nativeOf (rstr y) (by omega) w)
  have R1 := Lib.hid (fun w hw => rational_read_num x hx w hw)
  have R2 := Lib.hid (fun w hw => rational_read_num y hy w hw)
  have C := Lib.hid (fun w hw => rational_crossed x.num (x.den : Int) y.num (y.den : Int) (rlim_parts hx).1 (rlim_parts hx).2 (rlim_parts hy).1 (rlim_parts hy).2 h1 h2 w hw)
  have K := Lib.hid (fun w => integer_Compare (x.num * y.den) (y.num * (x.den : Int)) h1 h2 w)
  clear hx hy hs h1 h2 l1 l2
  generalize Lib.compareInt (x.num * y.den) (y.num * (x.den : Int)) = ans at *
  cases hn : natOf (rstr x) with
  | none =>
    rw [natOfV_none hn] at N1
    clear hn hor N2
    generalize Lib.itoa x.num = XN at *
    generalize Lib.itoa (x.den : Int) = XD at *
    generalize Lib.itoa y.num = YN at *
    generalize Lib.itoa (y.den : Int) = YD at *
    go_enter Tryz.func13, Tryz.ntmps13
    go_wp2_with fail
    refine (N1.out _).mono ?_
    rintro e w1 ⟨rfl, hq1⟩
    have hQ1 := hq1.alloc hq1.size (.cells #[.int .i64 0, .int .i64 0] 93)
    go_wp2_with fail
    refine (R1.out _ (hE.q hQ1)).mono ?_
    rintro e w2 ⟨rfl, hq2⟩
    have hQ2 := Q.trans hQ1 hq2
    have hQ2' := hQ2.alloc hQ2.size (.cells #[.string ⟨XN.toArray⟩, .string ⟨XD.toArray⟩] 97)
    have X0 := Blk.new w2 [.string ⟨XN.toArray⟩, .string ⟨XD.toArray⟩] 97
    go_wp2_with fail
    refine (R2.out _ (hE.q hQ2')).mono ?_
    rintro e w3 ⟨rfl, hq3⟩
    have hQ3 := Q.trans hQ2' hq3
    have hQ3' := hQ3.alloc hQ3.size (.cells #[.string ⟨YN.toArray⟩, .string ⟨YD.toArray⟩] 97)
    have X1 := X0.keep hq3 X0.lt
    have c0 := X1.cell 0
    have c1 := X1.cell 1
    have lx := X1.lt
    simp only [List.getElem?_cons_zero, List.getElem?_cons_succ] at c0 c1
    go_wp2_with fail
    refine (C.out _ (hE.q hQ3')).mono ?_
    rintro e w4 ⟨rfl, hq4⟩
    have hQ4 := Q.trans hQ3' hq4
    clear c0 c1 lx X0 X1
    go_wp2_with fail
    refine (K.out _).mono ?_
    rintro e w5 ⟨rfl, hq5⟩
    have hQ5 := Q.trans hQ4 hq5
    go_wp2
    go_ret2
    exact ⟨rfl, hQ5⟩
  | some nd =>
    obtain ⟨n, d⟩ := nd
    rw [natOfV_some hn] at N1
    have hy2 : natOf (rstr y) = none := by
      rcases hor with h | h
      · rw [h] at hn; cases hn
      · exact h
    rw [natOfV_none hy2] at N2
    clear hn hor hy2
    generalize Lib.itoa x.num = XN at *
    generalize Lib.itoa (x.den : Int) = XD at *
    generalize Lib.itoa y.num = YN at *
    generalize Lib.itoa (y.den : Int) = YD at *
    go_enter Tryz.func13, Tryz.ntmps13
    go_wp2_with fail
    refine (N1.out _).mono ?_
    rintro e w1 ⟨rfl, hq1⟩
    have hQ1 := hq1.alloc hq1.size (.cells #[.int .i64 n, .int .i64 d] 93)
    go_wp2_with fail
    refine (N2.out _).mono ?_
    rintro e w2 ⟨rfl, hq2⟩
    have hQ2 := Q.trans hQ1 hq2
    have hQ2' := hQ2.alloc hQ2.size (.cells #[.int .i64 0, .int .i64 0] 93)
    go_wp2_with fail
    refine (R1.out _ (hE.q hQ2')).mono ?_
    rintro e w3 ⟨rfl, hq3⟩
    have hQ3 := Q.trans hQ2' hq3
    have hQ3' := hQ3.alloc hQ3.size (.cells #[.string ⟨XN.toArray⟩, .string ⟨XD.toArray⟩] 97)
    have X0 := Blk.new w3 [.string ⟨XN.toArray⟩, .string ⟨XD.toArray⟩] 97
    go_wp2_with fail
    refine (R2.out _ (hE.q hQ3')).mono ?_
    rintro e w4 ⟨rfl, hq4⟩
    have hQ4 := Q.trans hQ3' hq4
    have hQ4' := hQ4.alloc hQ4.size (.cells #[.string ⟨YN.toArray⟩, .string ⟨YD.toArray⟩] 97)
    have X1 := X0.keep hq4 X0.lt
    have c0 := X1.cell 0
    have c1 := X1.cell 1
    have lx := X1.lt
    simp only [List.getElem?_cons_zero, List.getElem?_cons_succ] at c0 c1
    go_wp2_with fail
    refine (C.out _ (hE.q hQ4')).mono ?_
    rintro e w5 ⟨rfl, hq5⟩
    have hQ5 := Q.trans hQ4' hq5
    clear c0 c1 lx X0 X1
    go_wp2_with fail
    refine (K.out _).mono ?_
    rintro e w6 ⟨rfl, hq6⟩
    have hQ6 := Q.trans hQ5 hq6
    go_wp2
    go_ret2
    exact ⟨rfl, hQ6⟩
theorem rational_Compare (x y : Rat) (hx : rlim x = false) (hy : rlim y = false) (h1 : lim (x.num * y.den) = false) (h2 : lim (y.num * (x.den : Int)) = false) (w : World) (hE : Env w) :
    Calls Tryz.prog 13 #[.string ⟨(rstr x).toArray⟩, .string ⟨(rstr y).toArray⟩] w fun e w' => e = .returned (.tuple #[.int .i64 (Lib.compareInt (x.num * y.den) (y.num * x.den)), .int .i64 0]) ∧ Q w w' := by
  by_cases hs : Small8 x ∧ Small8 y
  · exact rational_Compare_small x y hs.1 hs.2 w
  · exact rational_Compare_long x y hx hy hs h1 h2 w hE
end Go.Proofs.YtlbjjkmfcgcodaaGreatDoor
namespace Go.Proofs.YtlbjjkmfcgcodaaGreatDoor
open Go.RowKit Kp
open Go.Lib (decDigits)
end Go.Proofs.YtlbjjkmfcgcodaaGreatDoor
namespace Go.Proofs.YtlbjjkmfcgcodaaGreatDoor
open Go.RowKit Kp
open Go.Lib (decDigits)
end Go.Proofs.YtlbjjkmfcgcodaaGreatDoor
namespace Go.Proofs.YtlbjjkmfcgcodaaGreatDoor
open Go.RowKit Kp
open Go.Lib (decDigits)
end Go.Proofs.YtlbjjkmfcgcodaaGreatDoor
namespace Go.Proofs.YtlbjjkmfcgcodaaGreatDoor
open Go.RowKit Kp
open Go.Lib (decDigits)
def rowS (l : List (Str × Str)) : List Value := l.flatMap fun p => [.string ⟨p.1.toArray⟩, .string ⟨p.2.toArray⟩]
theorem rowS_cons (p : Str × Str) (l : List (Str × Str)) : rowS (p :: l) = .string ⟨p.1.toArray⟩ :: .string ⟨p.2.toArray⟩ :: rowS l := rfl
theorem rowS_len (l : List (Str × Str)) : (rowS l).length = l.length * 2 := by
  induction l with
  | nil => rfl
  | cons p l ih => rw [rowS_cons]; simp only [List.length_cons, ih]; omega
theorem rowS_get : ∀ (l : List (Str × Str)) (i : Nat), i < l.length → (rowS l)[i * 2]? = some (.string ⟨(l.getD i ([], [])).1.toArray⟩) ∧ (rowS l)[i * 2 + 1]? = some (.string ⟨(l.getD i ([], [])).2.toArray⟩)
  | [], i, h => absurd h (by simp)
  | p :: l, 0, _ => ⟨rfl, rfl⟩
  | p :: l, i + 1, h => by
    have := rowS_get l i (by simpa using h)
    rw [rowS_cons, show (i + 1) * 2 = i * 2 + 2 by omega, show i * 2 + 2 + 1 = i * 2 + 1 + 2 by omega]
    simpa using this
def TSl (w : World) (B : Nat) (v : Value) (l : List (Str × Str)) : Prop :=
  ∃ a cap, v = .slice a l.length cap ∧ B ≤ w.heap.size ∧ ∀ i, i < l.length → ∃ b o, a = some ⟨b, o, none⟩ ∧ b < B ∧
    w.cell? ⟨b, o + i * 2, none⟩ = some (.string ⟨(l.getD i ([], [])).1.toArray⟩) ∧ w.cell? ⟨b, o + i * 2 + 1, none⟩ = some (.string ⟨(l.getD i ([], [])).2.toArray⟩)
theorem TSl.keep {w w' : World} {B B' : Nat} {v : Value} {l : List (Str × Str)} (h : TSl w B v l) (hb : Below B' w w') (hB : B ≤ B') : TSl w' B v l := by
  obtain ⟨a, cap, rfl, hs, hc⟩ := h
  refine ⟨a, cap, rfl, Nat.le_trans hs hb.size, fun i hi => ?_⟩
  obtain ⟨b, o, ha, hbb, c0, c1⟩ := hc i hi
  exact ⟨b, o, ha, hbb, (hb.cell (p := ⟨b, o + i * 2, none⟩) (show b < B' by omega)).trans c0, (hb.cell (p := ⟨b, o + i * 2 + 1, none⟩) (show b < B' by omega)).trans c1⟩
theorem TSl.of_row {w : World} {base : Nat} {t : TypeId} {v : Value} {l : List (Str × Str)} (h : w.ownsRow base t 2 v l.length (rowS l)) : TSl w w.heap.size v l := by
  rcases Nat.eq_zero_or_pos l.length with h0 | h0
  · rcases h.2 with ⟨hv, _⟩ | ⟨g, cap, cur, hv, _, hg, _⟩
    · exact ⟨none, 0, by rw [hv, h0], Nat.le_refl _, fun i hi => by omega⟩
    · exact ⟨some ⟨g, 0, none⟩, cap, hv, Nat.le_refl _, fun i hi => by omega⟩
  · obtain ⟨g, cap, rfl, hb, hg⟩ := h.form h0
    refine ⟨_, cap, rfl, Nat.le_refl _, fun i hi => ⟨g, 0, rfl, hg, ?_, ?_⟩⟩
    · rw [h.cellAt _ (by omega), Nat.zero_add]; exact (rowS_get l i hi).1
    · rw [h.cellAt _ (by omega), Nat.zero_add]; exact (rowS_get l i hi).2
def ofC (c : Rat × Nat) : Str × Str := (rstr c.1, Lib.itoa (c.2 : Int))
def Gath (w : World) (G : Nat) (cs : List (Rat × Nat)) : Prop :=
  ∃ v, Blk w G [v] 157 ∧ (cs = [] → v = .slice none 0 0) ∧ w.ownsRow (G + 1) 161 2 v (cs.map ofC).length (rowS (cs.map ofC))
theorem Gath.keep {w w' : World} {G : Nat} {cs : List (Rat × Nat)} (h : Gath w G cs) (hq : Q w w') : Gath w' G cs := by
  obtain ⟨v, h1, h2, h3⟩ := h
  exact ⟨v, h1.keep hq h1.lt, h2, ownsRow_keep h3 hq⟩
theorem Gath.start {w : World} {G : Nat} (h : Blk w G [.slice none 0 0] 157) : Gath w G [] := ⟨_, h, fun _ => rfl, World.ownsRow_nil _ _ _ _⟩
def CB (c : Rat × Nat) : Prop := Bd 80 c.1 ∧ 0 < c.2 ∧ c.2 < 10 ^ 80
theorem CB.root {c : Rat × Nat} (h : CB c) : Bd 80 (c.2 : Rat) := ⟨by rw [Rat.num_natCast, Int.natAbs_natCast]; exact h.2.2, by rw [Rat.den_natCast]; exact by decide⟩
end Go.Proofs.YtlbjjkmfcgcodaaGreatDoor
namespace Go.Proofs.YtlbjjkmfcgcodaaGreatDoor
open Go.RowKit Kp
open Go.Lib (decDigits)
theorem quot_is {p q : Rat} (pq : 0 < q.num) : p / q = Rat.divInt (p.num * q.den) ((q.num.toNat * p.den : Nat) : Int) := by
  rw [← Rat.div_is, Int.natCast_mul, Int.toNat_of_nonneg (by omega)]
theorem Bd.quot {m n : Nat} {p q : Rat} (hp : Bd m p) (hq : Bd n q) (pq : 0 < q.num) : Bd (m + n) (p / q) := by
  rw [quot_is pq]
  refine bd_divInt (Nat.mul_pos (by omega) p.den_pos) (cross_lt hp hq) ?_
  have h1 : q.num.toNat < 10 ^ n := by have := hq.1; omega
  have := Nat.mul_lt_mul'' h1 hp.2
  rw [Nat.add_comm, Nat.pow_add]; exact this
end Go.Proofs.YtlbjjkmfcgcodaaGreatDoor
namespace Go.Proofs.YtlbjjkmfcgcodaaGreatDoor
open Go.RowKit Kp
open Go.Lib (decDigits)
end Go.Proofs.YtlbjjkmfcgcodaaGreatDoor
namespace Go.Proofs.YtlbjjkmfcgcodaaGreatDoor
open Go.RowKit Kp
open Go.Lib (decDigits)
end Go.Proofs.YtlbjjkmfcgcodaaGreatDoor
namespace Go.Proofs.YtlbjjkmfcgcodaaGreatDoor
open Go.RowKit Kp
open Go.Lib (decDigits)
end Go.Proofs.YtlbjjkmfcgcodaaGreatDoor
namespace Go.Proofs.YtlbjjkmfcgcodaaGreatDoor
open Go.RowKit Kp
open Go.Lib (decDigits)
theorem PlacesAt.q {w w' : World} (h : PlacesAt w) (hE : Env w) (hq : Q w w') : PlacesAt w' := by
  obtain ⟨t, f, h⟩ := h
  exact ⟨t, f, by rw [hq.block _ (Nat.lt_of_lt_of_le (by decide) hE.size)]; exact h⟩
theorem PlacesAt.cell {w : World} (h : PlacesAt w) (i : Nat) (hi : i < 3) : w.cell? ⟨0, i, none⟩ = (#[Value.int .i64 4, .int .i64 16, .int .i64 64])[i]? := by
  obtain ⟨t, f, h⟩ := h
  simp [World.cell?, h, hi]
end Go.Proofs.YtlbjjkmfcgcodaaGreatDoor
namespace Go.Proofs
open Go.Shelf
end Go.Proofs
namespace Go.Proofs.YtlbjjkmfcgcodaaGreatDoor
open Go.RowKit Kp
open Go.Lib (decDigits)
theorem TSl.open {w : World} {B : Nat} {v : Value} {l : List (Str × Str)} (h : TSl w B v l) (hl : 0 < l.length) : ∃ b o cap, v = .slice (some ⟨b, o, none⟩) l.length cap ∧ b < B ∧ B ≤ w.heap.size ∧ ∀ j u, (rowS l)[j]? = some u → w.cell? ((⟨b, o, none⟩ : Addr).add j) = some u := by
  obtain ⟨a, cap, rfl, hB, hc⟩ := h
  obtain ⟨b, o, rfl, hb, -, -⟩ := hc 0 hl
  refine ⟨b, o, cap, rfl, hb, hB, fun j u hu => ?_⟩
  have hj : j < l.length * 2 := by
    rw [← rowS_len]
    exact (List.getElem?_eq_some_iff.1 hu).1
  have hadd : (⟨b, o, none⟩ : Addr).add j = ⟨b, o + j, none⟩ := by unfold Addr.add; split <;> simp_all
  rw [hadd]
  obtain ⟨b', o', he, -, c0, c1⟩ := hc (j / 2) (by omega)
  cases he
  obtain ⟨g0, g1⟩ := rowS_get l (j / 2) (by omega)
  rcases Nat.mod_two_eq_zero_or_one j with hm | hm
  · have e : j / 2 * 2 = j := by omega
    rw [e] at c0 g0
    rw [hu] at g0
    rw [c0, ← g0]
  · have e : j / 2 * 2 + 1 = j := by omega
    have e2 : o + j / 2 * 2 + 1 = o + j := by omega
    rw [e2] at c1
    rw [e, hu] at g1
    rw [c1, ← g1]
end Go.Proofs.YtlbjjkmfcgcodaaGreatDoor
namespace Go.Proofs.YtlbjjkmfcgcodaaGreatDoor
open Go.RowKit Kp
open Go.Lib (decDigits)
end Go.Proofs.YtlbjjkmfcgcodaaGreatDoor
namespace Go.Proofs.YtlbjjkmfcgcodaaGreatDoor
open Go.RowKit Kp
open Go.Lib (decDigits)
end Go.Proofs.YtlbjjkmfcgcodaaGreatDoor
namespace Go.Proofs.YtlbjjkmfcgcodaaGreatDoor
open Go.RowKit Kp
open Go.Lib (decDigits)
end Go.Proofs.YtlbjjkmfcgcodaaGreatDoor
namespace Go.Proofs.YtlbjjkmfcgcodaaGreatDoor
open Go.RowKit Kp
open Go.Lib (decDigits)
end Go.Proofs.YtlbjjkmfcgcodaaGreatDoor
namespace Go.Proofs.YtlbjjkmfcgcodaaGreatDoor
open Go.RowKit Kp
open Go.Lib (decDigits)
end Go.Proofs.YtlbjjkmfcgcodaaGreatDoor
namespace Kp
structure P3 where
  x : Rat
  y : Rat
  z : Rat
deriving DecidableEq
namespace P3
def add (a b : P3) : P3 := ⟨a.x + b.x, a.y + b.y, a.z + b.z⟩
def neg (a : P3) : P3 := ⟨-a.x, -a.y, -a.z⟩
def sq (a : P3) : Rat := a.x * a.x + a.y * a.y + a.z * a.z
end P3
end Kp
namespace Go.Proofs.YtlbjjkmfcgcodaaGreatDoor
open Go.RowKit Kp
open Go.Lib (decDigits)
abbrev V3 (p : P3) : Value := .agg #[.string ⟨(rstr p.x).toArray⟩, .string ⟨(rstr p.y).toArray⟩, .string ⟨(rstr p.z).toArray⟩]
def B3 (n : Nat) (p : P3) : Prop := Bd n p.x ∧ Bd n p.y ∧ Bd n p.z
theorem ret_c3 {fn : Func} {m : Tmp} {T : TypeId} (hf : fn.results = #[.cell m T]) (hT : T = 32 ∨ T = 171) (tmps : Array Value) (W : World) (b : Nat) (x y z : Value) (hp : tmps.getD m undef = .pointer (some ⟨b, 0, none⟩))
    (c0 : W.cell? ⟨b, 0, none⟩ = some x) (c1 : W.cell? ⟨b, 1, none⟩ = some y) (c2 : W.cell? ⟨b, 2, none⟩ = some z) :
    (results fn tmps).run Tryz.prog W = .ok (.agg #[x, y, z]) W := by
  simp only [Array.getD_eq_getD_getElem?] at hp
  rcases hT with rfl | rfl <;> simp [results, hf, go_sem, hp, c0, c1, c2]
set_option maxHeartbeats 400000 in
theorem vector_list (X Y Z : Str) (w : World) :
    Calls Tryz.prog 106 #[.agg #[.string ⟨X.toArray⟩, .string ⟨Y.toArray⟩, .string ⟨Z.toArray⟩]] w fun e w' => e = .returned (.agg #[.string ⟨X.toArray⟩, .string ⟨Y.toArray⟩, .string ⟨Z.toArray⟩]) ∧ Q w w' := by
  go_enter Tryz.func106, Tryz.ntmps106
  go_wp2
  have BB := Blk.new (w.alloc (.cells #[.string ⟨X.toArray⟩, .string ⟨Y.toArray⟩, .string ⟨Z.toArray⟩] 172)) [.string ⟨X.toArray⟩, .string ⟨Y.toArray⟩, .string ⟨Z.toArray⟩] 171
  rw [World.size_alloc] at BB
  refine bodyPost_ret (v := .agg #[.string ⟨X.toArray⟩, .string ⟨Y.toArray⟩, .string ⟨Z.toArray⟩]) (ret_c3 Tryz.results106 (.inr rfl) _ _ (w.heap.size + 1) _ _ _ rfl (BB.cell 0) (BB.cell 1) (BB.cell 2)) rfl ⟨rfl, bt⟩
theorem idx3_0 (x y z : Value) (w : World) : (Instr.index 171 (.agg #[x, y, z]) (.int .i64 0)).run Tryz.prog w = .ok x w := by kernel_rfl
theorem idx3_1 (x y z : Value) (w : World) : (Instr.index 171 (.agg #[x, y, z]) (.int .i64 1)).run Tryz.prog w = .ok y w := by kernel_rfl
theorem idx3_2 (x y z : Value) (w : World) : (Instr.index 171 (.agg #[x, y, z]) (.int .i64 2)).run Tryz.prog w = .ok z w := by kernel_rfl
end Go.Proofs.YtlbjjkmfcgcodaaGreatDoor
namespace Go.Proofs.YtlbjjkmfcgcodaaGreatDoor
open Go.RowKit Kp
open Go.Lib (decDigits)
theorem bd_lens {q : Rat} {n : Nat} (h : Bd n q) : ((unsig (Lib.itoa q.num)).length : Int) ≤ n ∧ ((Lib.itoa (q.den : Int)).length : Int) ≤ n := by
  have h1 : (unsig (Lib.itoa q.num)).length ≤ n := by
    rw [unsig_itoa]
    rcases Nat.eq_zero_or_pos n with rfl | hn
    · exact absurd h.2 (by have := q.den_pos; simp; omega)
    · exact (decDigits_len_le _ n hn).2 h.1
  have h2 : (Lib.itoa (q.den : Int)).length ≤ n := by
    rw [← dec_eq_itoa]
    rcases Nat.eq_zero_or_pos n with rfl | hn
    · exact absurd h.2 (by have := q.den_pos; simp; omega)
    · exact (decDigits_len_le _ n hn).2 h.2
  exact ⟨by omega, by omega⟩
set_option maxHeartbeats 1000000 in
theorem hip_long1 (q : Rat) (h : Bd 36 q) (w : World) (hE : Env w) :
    Calls Tryz.prog 108 #[.string ⟨(rstr q).toArray⟩] w fun e w' => e = .returned (.bool false) ∧ Q w w' := by
  have HP := Lib.hid (fun w hw => rational_Parts q (h.rlim (by decide)) w hw)
  obtain ⟨l1, l2⟩ := bd_lens h
  clear h
  generalize rstr q = S at *
  have hu : unsig (Lib.itoa q.num) = unsig (Lib.itoa q.num) := rfl
  generalize Lib.itoa (q.den : Int) = D at *
  have HT := Lib.hid (fun w => lib_TrimMinus (Lib.itoa q.num) w)
  generalize unsig (Lib.itoa q.num) = U at *
  generalize Lib.itoa q.num = N at *
  clear hu
  have hm : decide ((36 : Int) < max (U.length : Int) (D.length : Int)) = false := by rw [decide_eq_false_iff_not]; omega
  go_enter Tryz.func108, Tryz.ntmps108
  have hQ0 := Q.refl w
  go_wp2_with fail
  refine (HP.out _ (hE.ofQ bt)).mono ?_
  rintro e w1 ⟨rfl, hq1⟩
  have hs1 : Q w w1 := Q.trans bt hq1
  have hQ1 : Q w w1 := Q.trans hQ0 hs1
  go_wp2_with fail
  refine (HT.out _).mono ?_
  rintro e w2 ⟨rfl, rfl⟩
  go_wp2
  go_ret
  refine ⟨?_, hQ1⟩
  first | rfl | (show Ending.returned (Value.bool (decide _)) = _; rw [hm])
set_option maxRecDepth 100000 in
set_option maxHeartbeats 1000000 in
theorem index_nums (l : List Rat) (hl : ∀ q ∈ l, Bd 36 q) (hn : l.length ≤ 100) (v : Value) (w : World) (hE : Env w) (hv : StrSl w v (l.map rstr)) :
    Calls Tryz.prog 156 #[v, .func (.func 108) #[] #[]] w fun e w' => e = .returned (.int .i64 (-1)) ∧ Q w w' := by
  obtain ⟨b, o, cap, rfl, hb, hc⟩ := hv
  rw [List.length_map] at hc
  rw [List.length_map]
  have HL := Lib.hid hl
  clear hl
  go_enter Tryz.func156, Tryz.ntmps156
  go_wp2
  go_loopw [8] (fun i wr => ∃ k : Nat, k ≤ l.length ∧ i = .int .i64 k ∧ Q w wr) (fun i _ => l.length - (intOf i).toNat)
  case atStart => exact ⟨0, by omega, rfl, Below.refl _ _⟩
  case round =>
    obtain ⟨k, hk, rfl, hQ⟩ := hrel
    by_cases hlt : k < l.length
    · have hcell := hc k hlt
      have hcell' : wr.cell? ⟨b, o + k, none⟩ = some (.string ⟨((l.map rstr).getD k []).toArray⟩) := by rw [hQ.cell (p := ⟨b, o + k, none⟩) hb]; exact hcell
      have hq : (l.map rstr).getD k [] = rstr l[k] := by rw [List.getD_eq_getElem?_getD, List.getElem?_map, List.getElem?_eq_getElem hlt]; rfl
      rw [hq] at hcell'
      have HG := Lib.hid (fun w hw => hip_long1 l[k] (HL.out _ (List.getElem_mem hlt)) w hw)
      clear hcell hc hq HL
      generalize rstr l[k] = S at *
      go_wp2_with fail
      refine (HG.out _ (hE.q hQ)).mono ?_
      rintro e w2 ⟨rfl, hq2⟩
      have hQ2 : Q w w2 := Q.trans hQ hq2
      go_wp2
      go_roundw
      case rel => exact ⟨k + 1, by omega, by go_num, hQ2⟩
      case measure => simp [intOf]; omega
    · obtain rfl : k = l.length := by omega
      go_wp2
      go_ret
      exact ⟨rfl, hQ⟩
set_option maxHeartbeats 1000000 in
theorem contains_nums (l : List Rat) (hl : ∀ q ∈ l, Bd 36 q) (hn : l.length ≤ 100) (v : Value) (w : World) (hE : Env w) (hv : StrSl w v (l.map rstr)) :
    Calls Tryz.prog 107 #[v, .func (.func 108) #[] #[]] w fun e w' => e = .returned (.bool false) ∧ Q w w' := by
  have HI := Lib.hid (index_nums l hl hn v w hE hv)
  clear hl hv
  go_enter Tryz.func107, Tryz.ntmps107
  go_wp2_with fail
  refine HI.out.mono ?_
  rintro e w1 ⟨rfl, hq1⟩
  go_wp2
  go_ret
  exact ⟨rfl, hq1⟩
theorem StrSl.three {w : World} {b : Nat} {s1 s2 s3 : Str} {t : TypeId} (h : Blk w b [.string ⟨s1.toArray⟩, .string ⟨s2.toArray⟩, .string ⟨s3.toArray⟩] t) : StrSl w (.slice (some ⟨b, 0, none⟩) 3 3) [s1, s2, s3] := by
  refine ⟨b, 0, 3, rfl, h.lt, fun i hi => ?_⟩
  simp only [List.length_cons, List.length_nil] at hi
  have : i = 0 ∨ i = 1 ∨ i = 2 := by omega
  rcases this with rfl | rfl | rfl
  · exact h.cell 0
  · exact h.cell 1
  · exact h.cell 2
set_option maxHeartbeats 1000000 in
theorem hip_long {n : Nat} (p : P3) (h : B3 n p) (hn : n ≤ 36) (w : World) (hE : Env w) :
    Calls Tryz.prog 63 #[V3 p] w fun e w' => e = .returned (.bool false) ∧ Q w w' := by
  have HC := Lib.hid (fun v w hw hv => contains_nums [p.x, p.y, p.z] (by
    intro q hq
    simp only [List.mem_cons, List.not_mem_nil, or_false] at hq
    rcases hq with rfl | rfl | rfl
    · exact h.1.mono hn
    · exact h.2.1.mono hn
    · exact h.2.2.mono hn) (by simp) v w hw hv)
  clear h
  unfold V3
  have HC' : Hid (∀ b t w, Env w → Blk w b [.string ⟨(rstr p.x).toArray⟩, .string ⟨(rstr p.y).toArray⟩, .string ⟨(rstr p.z).toArray⟩] t →
      Calls Tryz.prog 107 #[.slice (some ⟨b, 0, none⟩) 3 3, .func (.func 108) #[] #[]] w fun e w' => e = .returned (.bool false) ∧ Q w w') :=
    Lib.hid (fun b t w hw hb => HC.out _ w hw (StrSl.three hb))
  clear HC
  generalize rstr p.x = X at *
  generalize rstr p.y = Y at *
  generalize rstr p.z = Z at *
  go_enter Tryz.func63, Tryz.ntmps63
  have hQ0 := Q.refl w
  go_wp2_with fail
  refine (HC'.out (w.heap.size + 1) 30 _ (hE.ofQ bt) (Blk.new1 w _ [.string ⟨X.toArray⟩, .string ⟨Y.toArray⟩, .string ⟨Z.toArray⟩] 30)).mono ?_
  rintro e w1 ⟨rfl, hq1⟩
  have hs1 : Q w w1 := Q.trans bt hq1
  have hQ1 : Q w w1 := Q.trans hQ0 hs1
  go_wp2
  go_ret
  exact ⟨rfl, bt⟩
end Go.Proofs.YtlbjjkmfcgcodaaGreatDoor
namespace Go.Proofs.YtlbjjkmfcgcodaaGreatDoor
open Go.RowKit Kp
open Go.Lib (decDigits)
def LenAt (w : World) (B : Nat) (v : Value) (s : Rat) : Prop := (s = 0 ∧ v = .slice none 0 0) ∨ (0 < s.num ∧ Surd1 w B v (aOf s) (leftOf s))
theorem LenAt.keep {w w' : World} {B : Nat} {v : Value} {s : Rat} (h : LenAt w B v s) (hq : Q w w') : LenAt w' B v s :=
  h.elim .inl (fun h => .inr ⟨h.1, surd1_keep h.2 hq⟩)
theorem LenAt.mono {w : World} {B B' : Nat} {v : Value} {s : Rat} (h : LenAt w B v s) (hb : B' ≤ B) : LenAt w B' v s :=
  h.elim .inl (fun h => .inr ⟨h.1, Joins.ownsRow_le h.2 hb⟩)
end Go.Proofs.YtlbjjkmfcgcodaaGreatDoor
namespace Go.Proofs.YtlbjjkmfcgcodaaGreatDoor
open Go.RowKit Kp
open Go.Lib (decDigits)
end Go.Proofs.YtlbjjkmfcgcodaaGreatDoor
namespace Go.Proofs.YtlbjjkmfcgcodaaGreatDoor
open Go.RowKit Kp
open Go.Lib (decDigits)
end Go.Proofs.YtlbjjkmfcgcodaaGreatDoor
namespace Go.Proofs.YtlbjjkmfcgcodaaGreatDoor
open Go.RowKit Kp
open Go.Lib (decDigits)
end Go.Proofs.YtlbjjkmfcgcodaaGreatDoor
namespace Kp
end Kp
namespace Go.Proofs.YtlbjjkmfcgcodaaGreatDoor
open Go.RowKit Kp
open Go.Lib (decDigits)
theorem bd_int {a : Int} {n : Nat} (h : a.natAbs < 10 ^ n) (hn : 0 < n) : Bd n (a : Rat) := ⟨by rw [Rat.num_intCast]; exact h, by rw [Rat.den_intCast]; exact Nat.one_lt_pow (by omega) (by decide)⟩
end Go.Proofs.YtlbjjkmfcgcodaaGreatDoor
namespace Go.Proofs.YtlbjjkmfcgcodaaGreatDoor
open Go.RowKit Kp
open Go.Lib (decDigits)
end Go.Proofs.YtlbjjkmfcgcodaaGreatDoor
namespace Go.Proofs.YtlbjjkmfcgcodaaGreatDoor
open Go.RowKit Kp
theorem wpAnyIn_of_seq {F : Fence} {m : Nat} {P : Program} {md : Region.Mode} {ops : Array Oper} {R : Exit → Act → World → Prop} : ∀ (l : List Oper) (k : Nat) (listed : Array Bool) (a : Act) (w : World), (∀ j, l[j]? = ops[k + j]?) →
    Region.seqB md ops l.length k listed = true → wpListIn F m P ops R l a w → wpAnyIn F m P md ops R l.length listed a w
  | [], _, _, _, _, _, hB, h => ⟨by simpa [Region.seqB] using hB, h⟩
  | o :: l, k, listed, a, w, hl, hB, h => by
    have h0 : ops[k]? = some o := by simpa using (hl 0).symm
    simp only [List.length_cons, Region.seqB, Bool.and_eq_true, decide_eq_true_eq] at hB
    refine ⟨fun h1 => (by rw [hB.1] at h1; cases h1), fun i hi => ?_⟩
    rw [hB.1] at hi
    have hik : i = k := by simpa using hi
    subst hik
    have hw : wpOpIn F m P ops R i (wpListIn F m P ops R l) a w := by unfold wpOpIn; simp only [h0]; exact h
    exact wpOpIn_mono (fun a' w' h' => wpAnyIn_of_seq l (i + 1) _ a' w' (fun j => by have := hl (j + 1); simpa [Nat.add_assoc, Nat.add_comm 1 j] using this) hB.2 h') hw
namespace RT
def noEnd : Exit → Act → World → Prop := goesOn fun _ _ => True
section
variable {P : Program} {l : List Oper} {T : Act → World → Prop} {R : Exit → Act → World → Prop} {md : Region.Mode} {n m : Nat}
def WalksT (P : Program) (md : Region.Mode) (l : List Oper) (T : Act → World → Prop) (n : Nat) : Nat → Array Bool → Act → World → Prop
  | 0, ls, a, w => Region.seqB md l.toArray (l.toArray.size - n) n ls = true ∧ ∀ w', Q w w' → T a w'
  | f + 1, ls, a, w => Region.ready md l.toArray ls ≠ [] ∧
    ∀ i ∈ Region.ready md l.toArray ls, i < n ∧ ∀ w', Q w w' → wpOp P l.toArray noEnd i (fun a' w'' => Q w' w'' ∧ WalksT P md l T n f (ls.setIfInBounds i true) a' w'') a w'
theorem WalksT.later : ∀ {f : Nat} {ls : Array Bool} {a : Act} {w w' : World}, WalksT P md l T n f ls a w → Q w w' → WalksT P md l T n f ls a w'
  | 0, _, _, _, _, h, hq => ⟨h.1, fun _ h1 => h.2 _ (hq.trans h1)⟩
  | _ + 1, _, _, _, _, h, hq => ⟨h.1, fun i hi => ⟨(h.2 i hi).1, fun _ h1 => (h.2 i hi).2 _ (hq.trans h1)⟩⟩
theorem wpOp_wideF {ops : Array Oper} {i : Nat} {N : Act → World → Prop} {a : Act} {w : World} (h : wpOp P ops noEnd i N a w) : wpOpIn Fence.wide m P ops R i N a w := by
  unfold wpOp at h
  unfold wpOpIn
  split
  · next he => simp only [he] at h; exact h
  · next o ho =>
    simp only [ho] at h
    split
    · next hw =>
      rw [if_pos hw] at h
      rcases h with h | ⟨_, h⟩
      · refine ⟨fun _ _ => trivial, ?_⟩
        rw [show Fence.wide.round = none from rfl, Oper.semAt_none]
        unfold Oper.wp at h
        generalize (execOp a.eval o).run P w = r at h ⊢
        match r, h with
        | .ok (.value v) w', h => exact h
        | .ok .skip w', h => exact h
        | .ok (.defer d) w', h => exact h
        | .ok (.enter f args) w', h =>
          refine ⟨fun hd => (by cases hd), callsIn_wide.2 (Calls.mono h fun e w'' he => ?_)⟩
          match e, he with
          | .returned v, he => exact he
          | .panicked c, he => exact he.elim
          | .outgrown, he => exact absurd he (goesOn_no _)
        | .ok (.row row args) w', h => exact ⟨fun hd => (by cases hd), fun c cs _ => by
            obtain ⟨v, w', hs, st⟩ := h c cs
            exact ⟨v, w', hs, stepsIn_wide.2 st⟩⟩
        | .halt x w', h =>
          cases x <;> first | exact h.elim | exact False.elim h
      · exact absurd h (goesOn_no _)
    · next hw =>
      rw [if_neg hw] at h
      exact ⟨fun _ _ => trivial, h⟩
theorem WalksT.any (hn : n ≤ l.length) : ∀ {f : Nat} {ls : Array Bool} {a : Act} {w : World}, WalksT P md l (fun a w => wpListIn Fence.wide m P l.toArray R (l.drop n) a w) n f ls a w → wpAnyIn Fence.wide m P md l.toArray R (f + (l.toArray.size - n)) ls a w
  | 0, ls, a, w, h => by
    rw [Nat.zero_add]
    have hd : (l.drop n).length = l.toArray.size - n := by simp
    have := wpAnyIn_of_seq (F := Fence.wide) (m := m) (P := P) (md := md) (R := R) (l.drop n) n ls a w (fun j => by simp [List.getElem?_drop]) (by rw [hd]; exact h.1) (h.2 w (Q.refl w))
    rwa [hd] at this
  | f + 1, ls, a, w, h => by
    rw [show f + 1 + (l.toArray.size - n) = (f + (l.toArray.size - n)) + 1 by omega]
    exact ⟨fun e => absurd e h.1, fun i hi => wpOp_wideF (wpOp_mono (fun _ _ h' => WalksT.any hn h'.2) ((h.2 i hi).2 w (Q.refl w)))⟩
theorem walksT_first {i : Nat} {oi : Oper} {v : Value} (hi : l.toArray[i]? = some oi) (hB : headB md l.toArray n = true) (hin : i < n)
    (hR : ∀ c a w, noEnd (.panic c) (a.put oi.dst v) w → noEnd (.panic c) a w) :
    ∀ (f : Nat) (ls : Array Bool) (a : Act) (w : World), HeadInv md l.toArray n ls →
      (∀ j oj, l.toArray[j]? = some oj → j ≠ i → ls.getD j true = false → (∀ e ∈ oj.after, Region.binds md e = true → e.on ≠ i) → oi.apart l.toArray oj = true) →
      i ∈ Region.ready md l.toArray ls → Does P l.toArray oi v a w →
      WalksT P md l T n f (ls.setIfInBounds i true) (a.put oi.dst v) w → WalksT P md l T n (f + 1) ls a w := by
  intro f
  induction f with
  | zero =>
    intro ls a w inv _ hr hd H
    refine ⟨fun h => (by rw [h] at hr; cases hr), fun j hj => ⟨headB_lt hB inv hin hr j hj, fun w' hq => ?_⟩⟩
    by_cases hji : j = i
    · subst hji
      exact hd.wpOp hi hq fun w'' hq' => ⟨hq', WalksT.later (f := 0) H (hq.trans hq')⟩
    · have h1 := headB_lt hB inv hin hr j hj
      have h2 := seqB_ready H.1 j (ready_mono hj hji)
      omega
  | succ f ih =>
    intro ls a w inv hf hr hd H
    refine ⟨fun h => (by rw [h] at hr; cases hr), fun j hj => ?_⟩
    have hjn := headB_lt hB inv hin hr j hj
    refine ⟨hjn, fun w' hq => ?_⟩
    by_cases hji : j = i
    · subst hji
      exact hd.wpOp hi hq fun w'' hq' => ⟨hq', H.later (hq.trans hq')⟩
    · have h1 := (H.2 j (ready_mono hj hji)).2 w' hq
      obtain ⟨hjun, oj, hoj, hall⟩ := mem_ready.1 hj
      have hno : ∀ e ∈ oj.after, Region.binds md e = true → e.on ≠ i := fun e he hb heq => by
        have h1 := hall e he hb
        rw [heq, getD_both (mem_ready.1 hr).1] at h1
        cases h1
      have h2 := wpOp_alike hoj (hf j oj hoj hji hjun hno) (fun cs b => headB_sel hB i oi cs b hi) (fun cs b => headB_sel hB j oj cs b hoj) hR h1
      have hf' : ∀ k ok, l.toArray[k]? = some ok → k ≠ i → (ls.setIfInBounds j true).getD k true = false →
          (∀ e ∈ ok.after, Region.binds md e = true → e.on ≠ i) → oi.apart l.toArray ok = true := fun k ok hk hki hun hn => by
        by_cases hjk : j = k
        · subst hjk; exact hf j ok hk hki hjun hn
        · rw [getD_set_ne true hjk] at hun
          exact hf k ok hk hki hun hn
      refine wpOp_mono (fun a' w'' h3 => ⟨h3.2.1, ih (ls.setIfInBounds j true) a' w'' (inv.set hj hjn) hf' (ready_mono hr (Ne.symm hji)) (hd.alike h3.1 (hq.trans h3.2.1)) ?_⟩) h2
      rw [Array.setIfInBounds_comm _ _ hji]
      exact h3.2.2
def Steadily (P : Program) (md : Region.Mode) (l : List Oper) (T : Act → World → Prop) (n f : Nat) (ls : Array Bool) (a : Act) (w : World) : Prop :=
  headB md l.toArray n = true → HeadInv md l.toArray n ls → WalksT P md l T n f ls a w
theorem wpIn_steadily (n : Nat) {id : Nat} {a : Act} {w : World} (hm : P.follows .mixedOrders = true) (hB : headB .any l.toArray n = true) (hn : decide (n ≤ l.length) = true)
    (h : Steadily P .any l (fun a w => wpListIn Fence.wide m P l.toArray R (l.drop n) a w) n n (Array.replicate l.toArray.size false) a w.drew) : (Code.region id l.toArray true).wpIn Fence.wide m P R a w := by
  have hn' : n ≤ l.length := by simpa using hn
  have inv0 : HeadInv .any l.toArray n (Array.replicate l.toArray.size false) :=
    ⟨by simp, fun j oj _ hl => (by rw [getD_replicate_false] at hl; cases hl), fun t _ ht => getD_in (by simpa using ht) (getD_replicate_false _ _)⟩
  refine wpIn_region_any hm ?_
  have := WalksT.any hn' (h hB inv0)
  rwa [show n + (l.toArray.size - n) = l.toArray.size by simp; omega] at this
theorem steadily_first {i : Nat} {oi : Oper} {v : Value} {f : Nat} {ls : Array Bool} {a : Act} {w : World} (hi : l[i]? = some oi) (hin : decide (i < n) = true)
    (hf : Region.free md l.toArray ls i = true) (hr : (Region.ready md l.toArray ls).contains i = true)
    (hR : ∀ c a w, noEnd (.panic c) (a.put oi.dst v) w → noEnd (.panic c) a w) (hd : Does P l.toArray oi v a w)
    (h : Steadily P md l T n f (ls.setIfInBounds i true) (a.put oi.dst v) w) : Steadily P md l T n (f + 1) ls a w := fun hB inv => by
  have hr' : i ∈ Region.ready md l.toArray ls := by simpa using hr
  have hin' : i < n := by simpa using hin
  exact walksT_first (at_list hi) hB hin' hR f ls a w inv (Region.free_spec (at_list hi) hf) hr' hd (h hB (inv.set hr' hin'))
theorem steadily_value {i : Nat} {oi : Oper} {v : Value} {f : Nat} {ls : Array Bool} {a : Act} {w : World} (hi : l[i]? = some oi) (hin : decide (i < n) = true)
    (hf : Region.free md l.toArray ls i = true) (hr : (Region.ready md l.toArray ls).contains i = true)
    (hR : ∀ c a w, noEnd (.panic c) (a.put oi.dst v) w → noEnd (.panic c) a w) (hw : Region.wanted oi (yielded l.toArray a.tmps) = true)
    (hx : ∀ w', Q w w' → (execOp a.eval oi).run P w' = .ok (.value v) w')
    (h : Steadily P md l T n f (ls.setIfInBounds i true) (a.put oi.dst v) w) : Steadily P md l T n (f + 1) ls a w :=
  steadily_first hi hin hf hr hR (.inl ⟨hw, hx⟩) h
theorem steadily_idle {i : Nat} {oi : Oper} {f : Nat} {ls : Array Bool} {a : Act} {w : World} (hi : l[i]? = some oi) (hin : decide (i < n) = true)
    (hf : Region.free md l.toArray ls i = true) (hr : (Region.ready md l.toArray ls).contains i = true)
    (hR : ∀ c a w, noEnd (.panic c) (a.put oi.dst undef) w → noEnd (.panic c) a w) (hw : Region.wanted oi (yielded l.toArray a.tmps) = false)
    (h : Steadily P md l T n f (ls.setIfInBounds i true) (a.put oi.dst undef) w) : Steadily P md l T n (f + 1) ls a w :=
  steadily_first hi hin hf hr hR (.inr (.inr ⟨hw, rfl⟩)) h
theorem svp (i : Nat) {oi : Oper} {v : Value} {f : Nat} {ls : Array Bool} {a a' : Act} {w : World}
    (h : Steadily P md l T n f (ls.setIfInBounds i true) a' w) (hi : l[i]? = some oi := by exact rfl) (hin : decide (i < n) = true := by exact rfl)
    (hf : Region.free md l.toArray ls i = true := by kernel_rfl) (hr : (Region.ready md l.toArray ls).contains i = true := by kernel_rfl)
    (hw : Region.wanted oi (yielded l.toArray a.tmps) = true := by rfl)
    (hx : ∀ w', Q w w' → (execOp a.eval oi).run P w' = .ok (.value v) w' := by intro w' hq; go_simp; try with_reducible rfl)
    (hR : ∀ c a w, noEnd (.panic c) (a.put oi.dst v) w → noEnd (.panic c) a w := by exact fun _ _ _ h => h)
    (ha : a.put oi.dst v = a' := by simp only [Act.put, List.setIfInBounds_toArray, List.set_cons_zero, List.set_cons_succ]; exact rfl) : Steadily P md l T n (f + 1) ls a w :=
  steadily_value hi hin hf hr hR hw hx (ha ▸ h)
theorem svq (i : Nat) {oi : Oper} {v : Value} {f : Nat} {ls : Array Bool} {a a' : Act} {w : World} (hi : l[i]? = some oi)
    (hx : ∀ w', Q w w' → (execOp a.eval oi).run P w' = .ok (.value v) w')
    (h : Steadily P md l T n f (ls.setIfInBounds i true) a' w) (hin : decide (i < n) = true := by exact rfl)
    (hf : Region.free md l.toArray ls i = true := by kernel_rfl) (hr : (Region.ready md l.toArray ls).contains i = true := by kernel_rfl)
    (hw : Region.wanted oi (yielded l.toArray a.tmps) = true := by rfl)
    (hR : ∀ c a w, noEnd (.panic c) (a.put oi.dst v) w → noEnd (.panic c) a w := by exact fun _ _ _ h => h)
    (ha : a.put oi.dst v = a' := by simp only [Act.put, List.setIfInBounds_toArray, List.set_cons_zero, List.set_cons_succ]; exact rfl) : Steadily P md l T n (f + 1) ls a w :=
  steadily_value hi hin hf hr hR hw hx (ha ▸ h)
theorem svi (i : Nat) {oi : Oper} {f : Nat} {ls : Array Bool} {a a' : Act} {w : World}
    (h : Steadily P md l T n f (ls.setIfInBounds i true) a' w) (hi : l[i]? = some oi := by exact rfl) (hin : decide (i < n) = true := by exact rfl)
    (hf : Region.free md l.toArray ls i = true := by kernel_rfl) (hr : (Region.ready md l.toArray ls).contains i = true := by kernel_rfl)
    (hw : Region.wanted oi (yielded l.toArray a.tmps) = false := by rfl)
    (hR : ∀ c a w, noEnd (.panic c) (a.put oi.dst undef) w → noEnd (.panic c) a w := by exact fun _ _ _ h => h)
    (ha : a.put oi.dst undef = a' := by simp only [Act.put, List.setIfInBounds_toArray, List.set_cons_zero, List.set_cons_succ]; exact rfl) : Steadily P md l T n (f + 1) ls a w :=
  steadily_idle hi hin hf hr hR hw (ha ▸ h)
theorem steadily_call {i : Nat} {oi : Oper} {v : Value} {n f : Nat} {ls : Array Bool} {a : Act} {w : World} {g : FuncId} {args : Array Value} (hi : l[i]? = some oi) (hin : decide (i < n) = true)
    (hf : Region.free md l.toArray ls i = true) (hr : (Region.ready md l.toArray ls).contains i = true)
    (hR : ∀ c a w, noEnd (.panic c) (a.put oi.dst v) w → noEnd (.panic c) a w) (hw : Region.wanted oi (yielded l.toArray a.tmps) = true)
    (hx : ∀ w', Q w w' → (execOp a.eval oi).run P w' = .ok (.enter g args) w')
    (hc : ∀ w', Q w w' → Calls P g args w' fun e w'' => e = .returned v ∧ Q w' w'')
    (h : Steadily P md l T n f (ls.setIfInBounds i true) (a.put oi.dst v) w) : Steadily P md l T n (f + 1) ls a w :=
  steadily_first hi hin hf hr hR (.inr (.inl ⟨hw, g, args, hx, hc⟩)) h
theorem steadily_done {ls : Array Bool} {a : Act} {w : World} (hB : Region.seqB md l.toArray (l.toArray.size - n) n ls = true) (h : ∀ w', Q w w' → T a w') : Steadily P md l T n 0 ls a w :=
  fun _ _ => ⟨hB, h⟩
end
end RT
end Go.Proofs.YtlbjjkmfcgcodaaGreatDoor
namespace Go.Proofs.YtlbjjkmfcgcodaaGreatDoor
open Go.RowKit Kp
def RowSl {α : Type} (k : Nat) (enc : α → List Value) (w : World) (v : Value) (l : List α) : Prop := ∃ a cap, v = .slice a l.length cap ∧ ∀ i (h : i < l.length), ∃ b o, a = some ⟨b, o, none⟩ ∧ b < w.heap.size ∧ ∀ j u, (enc l[i])[j]? = some u → w.cell? ⟨b, o + i * k + j, none⟩ = some u
section
variable {α : Type} {k : Nat} {enc : α → List Value}
theorem RowSl.keepB {w w' : World} {B : Nat} {v : Value} {l : List α} (h : RowSl k enc w v l) (hq : Below B w w') (hB : w.heap.size ≤ B) : RowSl k enc w' v l := by
  obtain ⟨a, cap, rfl, hc⟩ := h
  refine ⟨a, cap, rfl, fun i hi => ?_⟩
  obtain ⟨b, o, ha, hb, h⟩ := hc i hi
  exact ⟨b, o, ha, Nat.lt_of_lt_of_le hb hq.size, fun j u hu => (hq.cell (p := ⟨b, o + i * k + j, none⟩) (show b < B by omega)).trans (h j u hu)⟩
theorem RowSl.keep {w w' : World} {v : Value} {l : List α} (h : RowSl k enc w v l) (hq : Q w w') : RowSl k enc w' v l := h.keepB hq (Nat.le_refl _)
theorem RowSl.nil (w : World) (a : Option Addr) (cap : Nat) : RowSl k enc w (.slice a 0 cap) ([] : List α) := ⟨a, cap, rfl, fun _ hi => absurd hi (Nat.not_lt_zero _)⟩
def rowOf (enc : α → List Value) (l : List α) : List Value := l.flatMap enc
theorem rowOf_len (hk : ∀ x, (enc x).length = k) : ∀ l : List α, (rowOf enc l).length = l.length * k
  | [] => by simp [rowOf]
  | x :: l => by
    have ih := rowOf_len hk l
    unfold rowOf at *
    rw [List.flatMap_cons, List.length_append, hk, ih, List.length_cons, Nat.succ_mul]; omega
theorem rowOf_get (hk : ∀ x, (enc x).length = k) : ∀ (l : List α) (i : Nat) (h : i < l.length) (j : Nat), j < k → (rowOf enc l)[i * k + j]? = (enc l[i])[j]?
  | [], i, h, _, _ => absurd h (Nat.not_lt_zero _)
  | x :: l, 0, _, j, hj => by
    unfold rowOf
    rw [List.flatMap_cons, Nat.zero_mul, Nat.zero_add, List.getElem?_append_left (by rw [hk]; exact hj)]; rfl
  | x :: l, i + 1, h, j, hj => by
    have ih := rowOf_get hk l i (by simpa using h) j hj
    unfold rowOf at *
    rw [List.flatMap_cons, List.getElem?_append_right (by rw [hk, Nat.succ_mul]; omega), hk, show (i + 1) * k + j - k = i * k + j by rw [Nat.succ_mul]; omega]
    exact ih
theorem rowOf_snoc (l : List α) (x : α) : rowOf enc (l ++ [x]) = rowOf enc l ++ enc x := by unfold rowOf; rw [List.flatMap_append]; simp
theorem RowSl.of_row {w : World} {B : Nat} {t : TypeId} {v : Value} {l : List α} (hk : ∀ x, (enc x).length = k) (h : w.ownsRow B t k v l.length (rowOf enc l)) : RowSl k enc w v l := by
  have h0 := h
  rcases h.2 with ⟨rfl, hn⟩ | ⟨g, cap, cur, rfl, hg, hc, hnc, hcm, hsz, htk⟩
  · exact ⟨none, 0, by rw [hn], fun i hi => by omega⟩
  · refine ⟨_, cap, rfl, fun i hi => ⟨g, 0, rfl, (Array.getElem?_eq_some_iff.1 hc).1, fun j u hu => ?_⟩⟩
    have hj : j < k := by have := (List.getElem?_eq_some_iff.1 hu).1; rwa [hk] at this
    have hb : i * k + j < l.length * k := by
      have h1 := Nat.mul_le_mul_right k (show i + 1 ≤ l.length from hi)
      rw [Nat.succ_mul] at h1; omega
    rw [Nat.zero_add, World.ownsRow.cellAt h0 (i * k + j) hb, rowOf_get hk l i hi j hj]
    exact hu
end
theorem exec_load_row {P : Program} {o : Oper} {ev : Operand → Value} (ty : TypeId) (x : Operand) (ho : o.op = .load ty x) (g : Nat) (hx : ev x = .pointer (some ⟨g, 0, none⟩)) {t : TypeId} {cs : List Value} {W : World} (hb : Blk W g cs t) (d : TypeDesc)
    (hu : P.underlying ty = some d) (hd : (match d with | .struct _ | .array _ _ => true | _ => false) = true) (hi : (P.info? ty).map (·.size) = some cs.length) :
    (execOp ev o).run P W = .ok (.value (.agg cs.toArray)) W := by
  unfold execOp
  simp only [ho, hx, Instr.loadAt, Instr.sureAddr, Sem.run_bind, Sem.run_pure, Result.andThen_ok, run_loadVar_row W g t ty cs.toArray (0, 0) d hb hu hd (by simpa using hi)]
end Go.Proofs.YtlbjjkmfcgcodaaGreatDoor
