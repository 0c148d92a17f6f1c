/-
  Walks: rational.read, Check, Parts at numbers with short parts; quick.
-/
import Derived.Test.YtgkikkabmcihhaaGreatDoorWE
import Derived.Test.YtgkikkabmcihhaaGreatDoorWF
import Derived.Test.YtgkikkabmcihhaaGreatDoorWG
import Derived.Test.YtgkikkabmcihhaaGreatDoorBlk
namespace Go.Proofs.YtgkikkabmcihhaaGreatDoor
open Go.RowKit Kp

theorem ret_read (tmps : Array Value) (W : World) (b : Nat) (x y u : Value) (hp : tmps.getD 2 undef = .pointer (some ⟨b, 0, none⟩)) (hu : tmps.getD 3 undef = u)
    (c0 : W.cell? ⟨b, 0, none⟩ = some x) (c1 : W.cell? ⟨b, 1, none⟩ = some y) :
    (results Tryz.f127 tmps).run Tryz.prog W = .ok (.tuple #[.agg #[x, y], u]) W := by
  simp only [Array.getD_eq_getD_getElem?] at hp hu
  simp [results, Tryz.results127, go_sem, hp, hu, c0, c1]

theorem cutV_rstr (q : Rat) : cutV (rstr q) = .tuple #[.agg #[.string ⟨(Lib.itoa q.num).toArray⟩, .string ⟨(Lib.itoa (q.den : Int)).toArray⟩], .bool true] := by
  unfold cutV; rw [if_neg (rbad_rstr q), numPart_rstr, denStr_rstr]
theorem natOfV_small {q : Rat} (h : Small8 q) : natOfV (rstr q) = .tuple #[.agg #[.int .i64 q.num, .int .i64 (q.den : Int)], .bool true] := natOfV_some (natOf_small h)
theorem small_len {q : Rat} (h : Small8 q) : (rstr q).length ≤ 1000 := by
  have h1 := itoa_len q.num (lim_small (by have := h.1; omega))
  have h2 := itoa_len (q.den : Int) (lim_small (by have := h.2; omega))
  unfold rstr; split
  · omega
  · rw [dec_eq_itoa, List.length_append, List.length_cons]; omega

set_option maxRecDepth 100000 in
set_option maxHeartbeats 1000000 in
theorem rational_read_small (q : Rat) (h : Small8 q) (w : World) (hE : Env w) :
    Calls Tryz.prog 127 #[.string ⟨(rstr q).toArray⟩] w fun e w' => e = .returned (.tuple #[.agg #[.string ⟨(Lib.itoa q.num).toArray⟩, .string ⟨(Lib.itoa (q.den : Int)).toArray⟩], .int .i64 0]) ∧ Q w w' := by
  have hl := small_len h
  go_enter Tryz.func127, Tryz.ntmps127
  go_wp2_with fail
  refine (rational_cut _ (by omega) _ (hE.q (by repeat (first | exact Below.refl _ _ | assumption | refine below_drewN ?_ _ | refine Below.drew ?_ | refine Below.alloc ?_ (by first | (simp; done) | (simp; omega)) _ | refine Below.setCell ?_ (by first | (simp; done) | (simp; omega)) _)))).mono ?_
  rw [cutV_rstr]
  rintro e w1 ⟨rfl, hq1⟩
  have hz1 := hq1.size
  rw [World.size_alloc] at hz1
  have hQ1 : Q w w1 := (show Below w.heap.size w _ from (by repeat (first | exact Below.refl _ _ | assumption | refine below_drewN ?_ _ | refine Below.drew ?_ | refine Below.alloc ?_ (by first | (simp; done) | (simp; omega)) _ | refine Below.setCell ?_ (by first | (simp; done) | (simp; omega)) _))).trans (hq1.mono (by simp))
  have B1 := (Blk.new w [.string ⟨#[]⟩, .string ⟨#[]⟩] 110).keep hq1 (by simp)
  go_wp2_with fail
  refine (rational_nativeOf _ (by omega) _).mono ?_
  rw [natOfV_small h]
  rintro e w2 ⟨rfl, hq2⟩
  have hz2 := hq2.size
  rw [World.size_alloc] at hz2
  have hQ2 : Q w w2 := hQ1.trans ((show Below w1.heap.size w1 _ from (by repeat (first | exact Below.refl _ _ | assumption | refine below_drewN ?_ _ | refine Below.drew ?_ | refine Below.alloc ?_ (by first | (simp; done) | (simp; omega)) _ | refine Below.setCell ?_ (by first | (simp; done) | (simp; omega)) _))).trans (hq2.mono (by simp)) |>.mono hQ1.size)
  have B2 := (Blk.new w1 [.string ⟨(Lib.itoa q.num).toArray⟩, .string ⟨(Lib.itoa (q.den : Int)).toArray⟩] 110).keep hq2 (by simp)
  have B1' := (B1.keep (Below.refl (w1.heap.size) w1 |>.alloc (Nat.le_refl _) (.cells #[.string ⟨(Lib.itoa q.num).toArray⟩, .string ⟨(Lib.itoa (q.den : Int)).toArray⟩] 110)) (by omega)).keep hq2 (by simp; omega)
  have c0 := B1'.cell 0
  have c1 := B1'.cell 1
  have f0 := B1'.frozen 0
  have f1 := B1'.frozen 1
  have d0 := B2.cell 0
  have d1 := B2.cell 1
  have l1 := B1'.lt
  have l2 := B2.lt
  simp only [List.getElem?_cons_zero, List.getElem?_cons_succ] at c0 c1 d0 d1
  go_wp2_with fail
  refine bodyPost_ret (v := .tuple #[.agg #[.string ⟨(Lib.itoa q.num).toArray⟩, .string ⟨(Lib.itoa (q.den : Int)).toArray⟩], .int .i64 0])
    (ret_read _ _ w.heap.size _ _ _ rfl rfl ((((B1'.set 0 _).set 1 _).alloc _).cell 0) ((((B1'.set 0 _).set 1 _).alloc _).cell 1)) rfl ⟨rfl, ?_⟩
  exact ((hQ2.setCell (p := ⟨w.heap.size, 0, none⟩) (Nat.le_refl _) _).setCell (p := ⟨w.heap.size, 1, none⟩) (Nat.le_refl _) _).alloc (by simp; omega) _

end Go.Proofs.YtgkikkabmcihhaaGreatDoor
