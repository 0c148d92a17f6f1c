/-
  Walks: timber.Check.
-/
import Derived.Test.YtgkikkabmcihhaaGreatDoorBlk
import Derived.Test.YtgkikkabmcihhaaGreatDoorTimberM
import Derived.Lib.MinMax
namespace Go.Proofs.YtgkikkabmcihhaaGreatDoor
open Go.RowKit Kp

/-- The cells of sizes. -/
def szCells (l : List Sz) : List Value := l.flatMap fun s => [.int .i64 s.k, .int .i64 s.w, .int .i64 s.d]
/-- A slice of sizes. -/
def SzSl (w : World) (v : Value) (l : List Sz) : Prop :=
  ∃ a cap, v = .slice a l.length cap ∧ ∀ i, i < l.length → ∃ b o, a = some ⟨b, o, none⟩ ∧ b < w.heap.size ∧
    w.cell? ⟨b, o + i * 3, none⟩ = some (.int .i64 (l.getD i ⟨0, 0, 0⟩).k) ∧ w.cell? ⟨b, o + i * 3 + 1, none⟩ = some (.int .i64 (l.getD i ⟨0, 0, 0⟩).w) ∧ w.cell? ⟨b, o + i * 3 + 2, none⟩ = some (.int .i64 (l.getD i ⟨0, 0, 0⟩).d)

/-- Which kinds were seen, as the program keeps it. -/
def seenCells (seen : List Int) : List Value := (List.range 13).map fun j : Nat => .bool (decide ((j : Int) ∈ seen))
theorem seenCells_nil : seenCells [] = List.replicate 13 (.bool false) := by rfl
theorem seenCells_get (seen : List Int) (k : Nat) (h : k < 13) : (seenCells seen)[k]? = some (.bool (decide ((k : Int) ∈ seen))) := by
  unfold seenCells; rw [List.getElem?_map, List.getElem?_range h]; rfl
theorem seenCells_set (seen : List Int) (k : Nat) (h : k < 13) : (seenCells seen).set k (.bool true) = seenCells ((k : Int) :: seen) := by
  apply List.ext_getElem?
  intro i
  by_cases hi : i < 13
  · rw [List.getElem?_set]
    by_cases e : k = i
    · subst e
      rw [if_pos rfl, if_pos (by simp [seenCells]; exact h), seenCells_get _ _ h]
      simp
    · rw [if_neg e, seenCells_get _ _ hi, seenCells_get _ _ hi]
      have : ¬ (i : Int) = (k : Int) := by omega
      simp [this]
  · rw [List.getElem?_eq_none (by simp [seenCells]; omega), List.getElem?_eq_none (by simp [seenCells]; omega)]

set_option maxHeartbeats 1000000 in
theorem timber_Check (l : List Sz) (hln : l.length < 4611686018427387904) (v : Value) (w : World) (hl : SzSl w v l) :
    Calls Tryz.prog 23 #[v] w fun e w' => e = .returned (.int .i64 (scheck l [])) ∧ Q w w' := by
  obtain ⟨a, cap, rfl, hc⟩ := hl
  go_enter Tryz.func23, Tryz.ntmps23
  go_wp2
  go_loopw [8] (fun i wr => ∃ (k : Nat) (seen : List Int), k ≤ l.length ∧ i = .int .i64 k ∧ Q w wr ∧ Blk wr w.heap.size (seenCells seen) 82 ∧ scheck l [] = scheck (l.drop k) seen) (fun i _ => l.length - (intOf i).toNat)
  case atStart => exact ⟨0, [], by omega, rfl, (by repeat (first | exact Below.refl _ _ | assumption | refine below_drewN ?_ _ | refine Below.drew ?_ | refine Below.alloc ?_ (by first | (simp; done) | (simp; omega)) _ | refine Below.setCell ?_ (by first | (simp; done) | (simp; omega)) _)), Blk.new w _ _, rfl⟩
  case round =>
    obtain ⟨k, seen, hk, rfl, hQ, hS, he⟩ := hrel
    by_cases hlt : k < l.length
    · obtain ⟨b, o, ha, hb, c0, c1, c2⟩ := hc k hlt
      subst ha
      have d0 := (hQ.cell (p := ⟨b, o + k * 3, none⟩) hb).trans c0
      have d1 := (hQ.cell (p := ⟨b, o + k * 3 + 1, none⟩) hb).trans c1
      have d2 := (hQ.cell (p := ⟨b, o + k * 3 + 2, none⟩) hb).trans c2
      have hs : l.drop k = l.getD k ⟨0, 0, 0⟩ :: l.drop (k + 1) := by
        rw [List.drop_eq_getElem_cons hlt, List.getD_eq_getElem?_getD, List.getElem?_eq_getElem hlt]; rfl
      rw [hs] at he
      clear c0 c1 c2 hs hc
      generalize l.getD k ⟨0, 0, 0⟩ = s at *
      have HE := Lib.hid he
      have HL : Hid (k + 1 ≤ l.length) := Lib.hid hlt
      clear he
      by_cases g1 : s.k < 1
      · have HX : Hid (scheck l [] = 8) := Lib.hid (by rw [HE.out, scheck, if_pos (Or.inl g1)])
        go_wp2
        go_ret
        exact ⟨ret_int HX.out.symm, hQ.alloc hQ.size _⟩
      · by_cases g2 : 13 ≤ s.k
        · have HX : Hid (scheck l [] = 8) := Lib.hid (by rw [HE.out, scheck, if_pos (Or.inr g2)])
          go_wp2
          go_ret
          exact ⟨ret_int HX.out.symm, hQ.alloc hQ.size _⟩
        · obtain ⟨K, hK⟩ : ∃ K : Nat, s.k = K := ⟨s.k.toNat, by omega⟩
          have g12 : ¬ (s.k < 1 ∨ 13 ≤ s.k) := by omega
          by_cases g3 : min s.w s.d < 1
          · have HX : Hid (scheck l [] = 2) := Lib.hid (by rw [HE.out, scheck, if_neg g12, if_pos (Or.inl g3)])
            clear g12 hK
            go_wp2
            go_ret
            exact ⟨ret_int HX.out.symm, hQ.alloc hQ.size _⟩
          · by_cases g4 : 1000 < max s.w s.d
            · have HX : Hid (scheck l [] = 2) := Lib.hid (by rw [HE.out, scheck, if_neg g12, if_pos (Or.inr g4)])
              clear g12 hK
              go_wp2
              go_ret
              exact ⟨ret_int HX.out.symm, hQ.alloc hQ.size _⟩
            · have g34 : ¬ (min s.w s.d < 1 ∨ 1000 < max s.w s.d) := by omega
              have HO : Hid (scheck l [] = if s.k ∈ seen then 7 else scheck (l.drop (k + 1)) (s.k :: seen)) := Lib.hid (by rw [HE.out, scheck, if_neg g12, if_neg g34])
              clear HE g12 g34
              obtain ⟨sk, sw, sd⟩ := s
              simp only at *
              subst hK
              have hK13 : K < 13 := by omega
              have hS' := hS.alloc (Obj.cells [.int .i64 (K : Nat), .int .i64 sw, .int .i64 sd].toArray 35)
              have e0 := (hS'.cell K).trans (seenCells_get seen K hK13)
              have ef := hS'.frozen K
              have lS := hS.lt
              by_cases g5 : (K : Int) ∈ seen
              · have HX : Hid (scheck l [] = 7) := Lib.hid (by rw [HO.out, if_pos g5])
                clear HO
                rw [decide_eq_true g5] at e0
                clear g5
                go_wp2
                go_ret
                exact ⟨ret_int HX.out.symm, hQ.alloc hQ.size _⟩
              · have HX : Hid (scheck l [] = scheck (l.drop (k + 1)) ((K : Int) :: seen)) := Lib.hid (by rw [HO.out, if_neg g5])
                clear HO
                rw [decide_eq_false g5] at e0
                clear g5
                go_wp2
                go_roundw
                case rel =>
                  refine ⟨k + 1, (K : Int) :: seen, HL.out, by go_num, ?_, ?_, HX.out⟩
                  · exact (hQ.setCell (p := ⟨w.heap.size, K, none⟩) (Nat.le_refl _) _).alloc (by simp; exact hQ.size) _
                  · have := hS.set K (.bool true); rw [seenCells_set _ _ hK13] at this; exact this.alloc _
                case measure =>
                  have := HL.out
                  simp [intOf]; omega
    · obtain rfl : k = l.length := by omega
      have HE : Hid (scheck l [] = 0) := Lib.hid (by rw [he, List.drop_length]; rfl)
      clear he hc
      go_wp2
      go_ret
      exact ⟨ret_int HE.out.symm, hQ⟩

end Go.Proofs.YtgkikkabmcihhaaGreatDoor
