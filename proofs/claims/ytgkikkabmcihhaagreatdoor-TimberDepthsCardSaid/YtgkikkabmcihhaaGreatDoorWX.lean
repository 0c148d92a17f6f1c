/-
  The chapter's awake.
-/
import Derived.Test.YtgkikkabmcihhaaGreatDoorWS
namespace Go.Proofs.YtgkikkabmcihhaaGreatDoor
open Go.RowKit Kp

/-- The sizes of the chapter's example. -/
def awakeL : List Sz := [⟨1, 60, 180⟩, ⟨6, 80, 220⟩]
def awakeS : Str := [99, 111, 109, 109, 111, 110, 32, 54, 48, 32, 49, 56, 48, 10, 104, 105, 112, 32, 56, 48, 32, 50, 50, 48, 10]
theorem sprint_awake : sprint awakeL = awakeS := by
  simp [sprint, sline, awakeL, awakeS, wordStrs, Lib.itoa, Lib.decDigits]
theorem scheck_awake : scheck awakeL [] = 0 := by decide

theorem print_awake (w : World) (hE : Env w) (b : Nat) (t : TypeId) (hb : Blk w b [.int .i64 1, .int .i64 60, .int .i64 180, .int .i64 6, .int .i64 80, .int .i64 220] t) :
    Calls Tryz.prog 25 #[.slice (some ⟨b, 0, none⟩) 2 2] w fun e w' => e = .returned (.tuple #[.string ⟨awakeS.toArray⟩, .int .i64 0]) ∧ Q w w' := by
  have h := timber_Print awakeL (by decide) (.slice (some ⟨b, 0, none⟩) 2 2) w hE ⟨_, 2, rfl, fun i hi => ?_⟩ scheck_awake
  · rw [sprint_awake] at h; exact h
  · have : i = 0 ∨ i = 1 := by simp only [awakeL, List.length_cons, List.length_nil] at hi; omega
    rcases this with rfl | rfl
    · exact ⟨b, 0, rfl, hb.lt, (hb.cell 0).trans rfl, (hb.cell 1).trans rfl, (hb.cell 2).trans rfl⟩
    · exact ⟨b, 0, rfl, hb.lt, (hb.cell 3).trans rfl, (hb.cell 4).trans rfl, (hb.cell 5).trans rfl⟩

theorem rstr_160 : rstr 160 = [49, 54, 48] := by
  have := rstr_nat 160
  rw [show ((160 : Nat) : Rat) = 160 from rfl] at this
  rw [this]; simp [Lib.itoa, Lib.decDigits]
theorem rstr_250 : rstr 250 = [50, 53, 48] := by
  have := rstr_nat 250
  rw [show ((250 : Nat) : Rat) = 250 from rfl] at this
  rw [this]; simp [Lib.itoa, Lib.decDigits]

set_option maxRecDepth 100000 in
set_option maxHeartbeats 2000000 in
theorem awake_any (w : World) (hE : Env w) : Calls Tryz.prog 11 #[] w fun e w' => e = .returned (.bool true) ∧ Q w w' := by
  go_enter Tryz.func11, Tryz.ntmps11
  go_wp2_with fail
  have hq0 : Q w (w.alloc (.cells [.int .i64 1, .int .i64 60, .int .i64 180, .int .i64 6, .int .i64 80, .int .i64 220].toArray 35)) := (by repeat (first | exact Below.refl _ _ | assumption | refine below_drewN ?_ _ | refine Below.drew ?_ | refine Below.alloc ?_ (by first | (simp; done) | (simp; omega)) _ | refine Below.setCell ?_ (by first | (simp; done) | (simp; omega)) _))
  refine (print_awake _ (hE.q hq0) w.heap.size 35 (Blk.new w _ _)).mono ?_
  rintro e w1 ⟨rfl, hq1⟩
  have hQ1 := hq0.trans (hq1.mono hq0.size)
  clear hq0 hq1
  go_wp2_with fail
  refine (timber_Square_awake _ (hE.q hQ1)).mono ?_
  rintro e w2 ⟨va, rfl, hq2, howa⟩
  have hQ2 := hQ1.trans (hq2.mono hQ1.size)
  clear hq2
  go_wp2_with fail
  refine (timber_Plumb_awake _ (hE.q hQ2)).mono ?_
  rintro e w3 ⟨vb, rfl, hq3, howb⟩
  have hQ3 := hQ2.trans (hq3.mono hQ2.size)
  have howa' := ownsRow_keep howa hq3
  obtain ⟨g, cap, rfl, hg1, hg2⟩ := howa'.form (by omega)
  obtain ⟨h, cap', rfl, hh1, hh2⟩ := howb.form (by omega)
  have a0 := howa'.cellAt 0 (by omega)
  have a1 := howa'.cellAt 1 (by omega)
  have b0 := howb.cellAt 0 (by omega)
  have b1 := howb.cellAt 1 (by omega)
  rw [rstr_160, rstr_one] at a0 a1
  rw [rstr_250, rstr_one] at b0 b1
  simp only [List.getElem?_cons_zero, List.getElem?_cons_succ] at a0 a1 b0 b1
  have lg : g < w3.heap.size := World.block_lt_of_cell? w3 _ a0
  have lh : h < w3.heap.size := World.block_lt_of_cell? w3 _ b0
  have hs : (awakeS == [99, 111, 109, 109, 111, 110, 32, 54, 48, 32, 49, 56, 48, 10, 104, 105, 112, 32, 56, 48, 32, 50, 50, 48, 10]) = true := by decide
  have hqa : Q w3 (w3.alloc (.cells [.string ⟨[49, 54, 48].toArray⟩, .string ⟨[49].toArray⟩].toArray 66)) := (Below.refl _ _).alloc (Nat.le_refl _) _
  have a0' := (hqa.cell (p := ⟨g, 0, none⟩) lg).trans a0
  have a1' := (hqa.cell (p := ⟨g, 0 + 1, none⟩) lg).trans a1
  have BA := Blk.new w3 [.string ⟨[49, 54, 48].toArray⟩, .string ⟨[49].toArray⟩] 66
  clear howa howa' howb hg1 hg2 hh1 hh2 a0 a1
  go_wp2_with fail
  refine (ref04_Same_one g w3.heap.size cap 1 [49, 54, 48] [49] _ a0' a1' (BA.cell 0) (BA.cell 1)).mono ?_
  rintro e w4 ⟨rfl, n4, rfl⟩
  have hq4 : Q w3 ((w3.alloc (.cells [.string ⟨[49, 54, 48].toArray⟩, .string ⟨[49].toArray⟩].toArray 66)).drewN n4) := Below.drewN hqa n4
  have hz4 : ((w3.alloc (.cells [.string ⟨[49, 54, 48].toArray⟩, .string ⟨[49].toArray⟩].toArray 66)).drewN n4).heap.size = w3.heap.size + 1 := by simp
  have hQ4 := hQ3.trans (hq4.mono hQ3.size)
  have b0' := (hq4.cell (p := ⟨h, 0, none⟩) lh).trans b0
  have b1' := (hq4.cell (p := ⟨h, 0 + 1, none⟩) lh).trans b1
  clear BA a0' a1' hqa hq4 b0 b1
  generalize (w3.alloc (.cells [.string ⟨[49, 54, 48].toArray⟩, .string ⟨[49].toArray⟩].toArray 66)).drewN n4 = w4 at *
  have lh4 : h < w4.heap.size := by omega
  have hqb : Q w4 (w4.alloc (.cells [.string ⟨[50, 53, 48].toArray⟩, .string ⟨[49].toArray⟩].toArray 66)) := (Below.refl _ _).alloc (Nat.le_refl _) _
  have b0 := (hqb.cell (p := ⟨h, 0, none⟩) lh4).trans b0'
  have b1 := (hqb.cell (p := ⟨h, 0 + 1, none⟩) lh4).trans b1'
  have BB := Blk.new w4 [.string ⟨[50, 53, 48].toArray⟩, .string ⟨[49].toArray⟩] 66
  rw [hz4] at BB
  clear b0' b1'
  go_wp2_with fail
  refine (ref04_Same_one h (w3.heap.size + 1) cap' 1 [50, 53, 48] [49] _ b0 b1 (BB.cell 0) (BB.cell 1)).mono ?_
  rintro e w5 ⟨rfl, n5, rfl⟩
  go_wp2
  go_ret
  exact ⟨rfl, hQ4.trans ((Below.drewN hqb n5).mono hQ4.size)⟩

end Go.Proofs.YtgkikkabmcihhaaGreatDoor
