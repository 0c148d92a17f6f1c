/-
  The law TruelengthMoved: its walk.
-/
import Derived.Test.YthokehkdpmbeaaaGreatDoorVZ3
import Derived.BigRegion
namespace Go.Proofs.YthokehkdpmbeaaaGreatDoor
open Go.RowKit Kp
open Go.Lib (decDigits)

theorem halfR (a : Int) : Rat.divInt a ((2 : Nat) : Int) = (a : Rat) / 2 := by
  rw [Rat.divInt_eq_div, Rat.intCast_natCast]; rfl
theorem half_bd {a : Int} (h : a.natAbs < 1000) : Bd 3 (Rat.divInt a ((2 : Nat) : Int)) := bd_divInt (by decide) h (by decide)
theorem half_b3 {a b c : Int} (ha : a.natAbs < 1000) (hb : b.natAbs < 1000) (hc : c.natAbs < 1000) : B3 3 (half a b c) := ⟨half_bd ha, half_bd hb, half_bd hc⟩
theorem half_sub (a b c d e f : Int) : (half d e f).sub (half a b c) = half (d - a) (e - b) (f - c) := by
  unfold P3.sub half
  simp only [halfR, Rat.intCast_sub, P3.mk.injEq]
  exact ⟨by grind, by grind, by grind⟩
theorem half_inj {a b c d e f : Int} (h : half a b c = half d e f) : a = d ∧ b = e ∧ c = f := by
  have key : ∀ x y : Int, Rat.divInt x ((2 : Nat) : Int) = Rat.divInt y ((2 : Nat) : Int) → x = y := fun x y e => by
    rw [halfR, halfR] at e
    have : (x : Rat) = (y : Rat) := by grind
    exact_mod_cast this
  unfold half at h
  simp only [P3.mk.injEq] at h
  exact ⟨key _ _ h.1, key _ _ h.2.1, key _ _ h.2.2⟩
theorem half_sq (a b c : Int) : (half a b c).sq = Rat.divInt (a * a + b * b + c * c) ((4 : Nat) : Int) := by
  unfold P3.sq half
  simp only [halfR]
  rw [Rat.divInt_eq_div, Rat.intCast_natCast, show ((4 : Nat) : Rat) = 4 from rfl, Rat.intCast_add, Rat.intCast_add, Rat.intCast_mul, Rat.intCast_mul, Rat.intCast_mul]
  grind
theorem sq_le {a : Int} (h : a.natAbs ≤ 255) : 0 ≤ a * a ∧ a * a ≤ 65025 := by
  have h1 : a.natAbs * a.natAbs ≤ 255 * 255 := Nat.mul_le_mul h h
  have h2 : (a * a) = ((a.natAbs * a.natAbs : Nat) : Int) := by exact (Int.natAbs_mul_self).symm
  omega
theorem half_sq_bd {a b c : Int} (ha : a.natAbs ≤ 255) (hb : b.natAbs ≤ 255) (hc : c.natAbs ≤ 255) : Bd 6 (half a b c).sq := by
  rw [half_sq]
  have := sq_le ha
  have := sq_le hb
  have := sq_le hc
  exact bd_divInt (by decide) (by omega) (by decide)
theorem half_zero : Rat.divInt 0 ((2 : Nat) : Int) = 0 := by rw [halfR]; grind
theorem half_flat (a b c : Int) : (half a b c).flat = half a b 0 := by
  unfold P3.flat half
  rw [half_zero]

/-- The two ends of a small member. -/
structure Ends (a b c d e f : Int) : Prop where
  ha : I8 a
  hb : I8 b
  hc : I8 c
  hd : I8 d
  he : I8 e
  hf : I8 f
  ne : half a b c ≠ half d e f

theorem ends_of {a b c d e f : Int} (ha : I8 a) (hb : I8 b) (hc : I8 c) (hd : I8 d) (he : I8 e) (hf : I8 f) : Ends a b c (toX a b c d e f) e f := by
  have h1 := ha.1
  have h2 := ha.2
  refine ⟨ha, hb, hc, ?_, he, hf, fun h => ?_⟩
  · unfold toX; split
    · split
      · exact ⟨by decide, by decide⟩
      · exact ⟨by omega, by omega⟩
    · exact hd
  · obtain ⟨e1, e2, e3⟩ := half_inj h
    unfold toX at e1
    split at e1
    · split at e1 <;> omega
    · next h => exact h ⟨e1, e2, e3⟩

theorem i8_abs {a : Int} (h : I8 a) : a.natAbs ≤ 128 := by have := h.1; have := h.2; omega

theorem max_three (w : World) : (Builtin.max_ #[34, 34, 34] 34 #[.int .i64 0, .int .i64 0, .int .i64 0]).run Tryz.prog w = .ok (.int .i64 0) w := by kernel_rfl

theorem mok_law : MOk 1 60 180 := ⟨by decide, by decide, by decide, by decide, by decide, by decide⟩

end Go.Proofs.YthokehkdpmbeaaaGreatDoor
