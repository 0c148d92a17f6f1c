/-
  Walks: slices.Index, Contains, Equal at sizes; the reference's Find.
-/
import Derived.Test.YtgkikkabmcihhaaGreatDoorWU
import Derived.Laws.StructEq
namespace Go.Proofs.YtgkikkabmcihhaaGreatDoor
open Go.RowKit Kp

theorem eqSz (s t : Sz) (w : World) : (binOp .eql 35 (szV s) (szV t)).run Tryz.prog w = .ok (.bool (decide (s = t))) w := by
  have hS : Tryz.prog.underlying 35 = some (.struct (Tryz.prog.fieldsOf 35)) := by kernel_rfl
  have hp : Tryz.prog.stoodInHeld 35 = false := by kernel_rfl
  unfold szV
  rw [run_eql_struct, show (10000 : Nat) = 9999 + 1 from rfl, run_equalIn_agg w 9999 35 _ _ hS hp]
  simp only [Program.fieldsOf, Tryz.underlying35]
  obtain ⟨a, b, c⟩ := s
  obtain ⟨x, y, z⟩ := t
  go_simp
  by_cases h1 : a = x <;> by_cases h2 : b = y <;> by_cases h3 : c = z <;> simp [h1, h2, h3]

set_option maxHeartbeats 1000000 in
theorem index_size (l : List Sz) (hln : l.length < 4611686018427387904) (x : Sz) (hx : x ∈ l) (v : Value) (w : World) (hl : SzSl w v l) :
    Calls Tryz.prog 54 #[v, szV x] w fun e w' => ∃ r : Nat, e = .returned (.int .i64 r) ∧ Q w w' := by
  rcases hl.cases with ⟨rfl, a, cap, rfl⟩ | ⟨b, o, cap, rfl, hA⟩
  · cases hx
  · clear hl
    have HA := Lib.hid hA
    clear hA
    have HX := Lib.hid hx
    clear hx
    have lw : b < w.heap.size := HA.out.1
    unfold szV
    go_enter Tryz.func54, Tryz.ntmps54
    go_wp2
    go_loopw [8] (fun i wr => ∃ k : Nat, k ≤ l.length ∧ i = .int .i64 k ∧ Q w wr ∧ Blk wr w.heap.size [.int .i64 x.k, .int .i64 x.w, .int .i64 x.d] 35 ∧ Hid (∀ j, j < k → l.getD j ⟨0, 0, 0⟩ ≠ x)) (fun i _ => l.length - (intOf i).toNat)
    case atStart => exact ⟨0, by omega, rfl, (Below.refl _ _).alloc (Nat.le_refl _) _, Blk.new w _ _, Lib.hid (fun j hj => absurd hj (Nat.not_lt_zero _))⟩
    case round =>
      obtain ⟨k, hk, rfl, hQ, hB, HN0⟩ := hrel
      have HN := Lib.hid HN0.out
      clear HN0
      by_cases hlt : k < l.length
      · have HA2 := Lib.hid (HA.out.keep hQ HA.out.1)
        obtain ⟨d0, d1, d2⟩ := HA2.out.2 k hlt
        have hk0 : (0 : Int) ≤ (k : Int) := by omega
        have hkl : (k : Int) < (l.length : Int) := by omega
        have b0 := hB.cell 0
        have b1 := hB.cell 1
        have b2 := hB.cell 2
        simp only [List.getElem?_cons_zero, List.getElem?_cons_succ] at b0 b1 b2
        by_cases heq : l.getD k ⟨0, 0, 0⟩ = x
        · have R := eqSz x (l.getD k ⟨0, 0, 0⟩)
          rw [heq] at R d0 d1 d2
          rw [decide_eq_true (rfl : x = x)] at R
          unfold szV at R
          clear heq
          go_wp2
          go_quiet (fail)
          go_wp2
          go_ret
          exact ⟨k, rfl, (by repeat (first | exact Below.refl _ _ | assumption | refine below_drewN ?_ _ | refine Below.drew ?_ | refine Below.alloc ?_ (by first | (simp; done) | (simp; omega)) _ | refine Below.setCell ?_ (by first | (simp; done) | (simp; omega)) _))⟩
        · have HNe : Hid (∀ i, i < k + 1 → l.getD i ⟨0, 0, 0⟩ ≠ x) := Lib.hid (fun i hi => by
            by_cases hij : i = k
            · subst hij; exact heq
            · exact HN.out i (by omega))
          have R := eqSz x (l.getD k ⟨0, 0, 0⟩)
          rw [decide_eq_false (fun e => heq e.symm)] at R
          unfold szV at R
          clear heq
          generalize l.getD k ⟨0, 0, 0⟩ = s at d0 d1 d2 R
          go_wp2
          go_quiet (fail)
          go_wp2
          go_roundw
          case rel => exact ⟨k + 1, by omega, by go_num, (by repeat (first | exact Below.refl _ _ | assumption | refine below_drewN ?_ _ | refine Below.drew ?_ | refine Below.alloc ?_ (by first | (simp; done) | (simp; omega)) _ | refine Below.setCell ?_ (by first | (simp; done) | (simp; omega)) _)), by first | exact hB | exact hB.drewN _, HNe⟩
          case measure => simp [intOf]; omega
      · obtain ⟨i, hi, e⟩ := mem_getD HX.out
        exact absurd e (HN.out i (by omega))

set_option maxHeartbeats 1000000 in
theorem contains_size (l : List Sz) (hln : l.length < 4611686018427387904) (x : Sz) (hx : x ∈ l) (v : Value) (w : World) (hl : SzSl w v l) :
    Calls Tryz.prog 20 #[v, szV x] w fun e w' => e = .returned (.bool true) ∧ Q w w' := by
  have HI := Lib.hid (index_size l hln x hx v)
  unfold szV
  go_enter Tryz.func20, Tryz.ntmps20
  go_wp2_with fail
  have hq0 : Q w (w.alloc (.cells [.int .i64 x.k, .int .i64 x.w, .int .i64 x.d].toArray 35)) := (by repeat (first | exact Below.refl _ _ | assumption | refine below_drewN ?_ _ | refine Below.drew ?_ | refine Below.alloc ?_ (by first | (simp; done) | (simp; omega)) _ | refine Below.setCell ?_ (by first | (simp; done) | (simp; omega)) _))
  refine (HI.out _ (hl.keep hq0)).mono ?_
  rintro e w1 ⟨r, rfl, hq1⟩
  have hr : (0 : Int) ≤ (r : Int) := by omega
  have hr2 : decide ((0 : Int) ≤ (r : Int)) = true := by simp
  go_wp2
  go_ret
  exact ⟨rfl, hq0.trans (hq1.mono hq0.size)⟩

end Go.Proofs.YtgkikkabmcihhaaGreatDoor
