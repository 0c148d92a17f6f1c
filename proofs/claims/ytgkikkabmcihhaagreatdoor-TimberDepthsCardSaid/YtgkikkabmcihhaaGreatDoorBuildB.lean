/-
  strings.Builder's WriteString once more, with what it leaves alone.
-/
import Derived.Test.YtgkikkabmcihhaaGreatDoorBuilder
namespace Go.Proofs.YtgkikkabmcihhaaGreatDoor
open Go.RowKit Kp

theorem builder_copyCheck2 (B b : Nat) (bs : List Value) (w : World) (h : Lib.IsBuilder 90 5 B b bs w) :
    Calls Tryz.prog 113 #[.pointer (some ⟨b, 0, none⟩)] w fun e w' => e = .returned (.tuple #[]) ∧ (Lib.BuilderAt 90 5 B b (.pointer (some ⟨b, 0, none⟩)) bs w' ∧ Below B w w' ∧ Hid (∀ k, k ≠ b → w'.heap[k]? = w.heap[k]?)) := by
  rcases h with h | h
  · refine (copyCheck_fresh b w h.cell0 h.shape h.frozen0).mono ?_
    rintro e w' ⟨rfl, rfl⟩
    exact ⟨rfl, h.used _, (Below.refl B w).setCell (p := ⟨b, 0, none⟩) h.1 _, Lib.hid (fun k hk => Below.heap_setCell _ _ _ _ (fun e => hk e))⟩
  · refine (copyCheck_used b w h.cell0).mono ?_
    rintro e w' ⟨rfl, rfl⟩
    exact ⟨rfl, h, Below.refl B _, Lib.hid (fun k _ => rfl)⟩

/-- .. and every block of another type than bytes, but the builder's own, lies as it lay. -/
def FarKept (w : World) (b : Nat) (w' : World) : Prop := ∀ k cs T fr, k ≠ b → T ≠ 5 → w.heap[k]? = some (.cells cs T fr) → w'.heap[k]? = some (.cells cs T fr)

set_option maxHeartbeats 2000000 in
set_option maxRecDepth 100000 in
theorem builder_WriteString2 (B b : Nat) (bs : List Value) (s : ByteArray) (w : World) (h : Lib.IsBuilder 90 5 B b bs w) (hlen : bs.length + s.size ≤ 140737488355328) (hBw : B ≤ w.heap.size) :
    Calls Tryz.prog 57 #[.pointer (some ⟨b, 0, none⟩), .string s] w fun e w' => e = .returned (.tuple #[.int .i64 s.size, .nilIface]) ∧ Lib.BuilderAt 90 5 B b (.pointer (some ⟨b, 0, none⟩)) (bs ++ Lib.strCells s) w' ∧ Below B w w' ∧ FarKept w b w' := by
  obtain ⟨i0, hi, hz0, hz1, hz2⟩ := info_parts infoByte
  go_enter Tryz.func57, Tryz.ntmps57
  go_wp2_with (go_at_call 113; refine (builder_copyCheck2 B b bs _ h).mono ?_)
  rintro e w1 ⟨rfl, h1, hb1, HK⟩
  obtain ⟨hB, v, hbk, hown, hne⟩ := h1
  have c0 : w1.cell? ⟨b, 0, none⟩ = some (.pointer (some ⟨b, 0, none⟩)) := by rw [Lib.cell_of_heap hbk]; rfl
  have c1 : w1.cell? ⟨b, 1, none⟩ = some v := by rw [Lib.cell_of_heap hbk]; rfl
  go_wp2_with (at_builtin; refine Lib.wpList_append_own_string _ rfl _ _ 88 9 rfl B 5 i0 Tryz.underlying88 Tryz.underlying9 hi hz0 hz1 hz2 _ _ _ rfl hown s rfl ?c3 ?c4 ?c5 ?_)
  case c3 => unfold maxLen; omega
  case c4 => omega
  case c5 => have := hb1.size; omega
  intro v' w2 hown' hgrow _
  have hlt : b < w1.heap.size := by
    rcases Nat.lt_or_ge b w1.heap.size with h' | h'
    · exact h'
    · simp [Array.getElem?_eq_none h'] at hbk
  have hb2 : w2.heap[b]? = some (.cells #[.pointer (some ⟨b, 0, none⟩), v] 90 (0, 0)) := by
    rw [hgrow.block b hlt (fun e => hne e.symm)]
    exact hbk
  have HF : Hid (FarKept w b (w2.setCell ⟨b, 1, none⟩ v')) := Lib.hid (fun k cs T fr hk hT hc => by
    have e1 := (HK.out k hk).trans hc
    have hlk : k < w1.heap.size := (Array.getElem?_eq_some_iff.1 e1).1
    rw [Below.heap_setCell _ _ _ _ (fun e => hk e), hgrow.block k hlk (fun e => Lib.ownBlock_ne hown e1 hT e.symm)]
    exact e1)
  have d0 : w2.cell? ⟨b, 0, none⟩ = some (.pointer (some ⟨b, 0, none⟩)) := by rw [Lib.cell_of_heap hb2]; rfl
  have d1 : w2.cell? ⟨b, 1, none⟩ = some v := by rw [Lib.cell_of_heap hb2]; rfl
  have f1 : w2.frozen? ⟨b, 1, none⟩ = false := Lib.frozen_of_heap hb2 1
  obtain ⟨ao, n', cap, rfl⟩ : ∃ ao n' cap, v' = .slice ao n' cap := by
    rcases hown'.2 with ⟨hv, _⟩ | ⟨g, cap, cur, hv, _⟩
    · exact ⟨_, _, _, hv⟩
    · exact ⟨_, _, _, hv⟩
  go_wp2
  go_ret2
  refine ⟨rfl, ?_, ?_, HF.out⟩
  · exact Lib.BuilderAt.put (T := 90) (e := 5) hB hb2 (bs' := bs ++ Lib.strCells s) (by simpa [Lib.strCells_length] using hown') (by decide)
  · exact (hb1.grown hgrow (by have := hb1.size; omega) (fun k hk => (hown.lt k hk).1)).setCell (p := ⟨b, 1, none⟩) hB _

end Go.Proofs.YtgkikkabmcihhaaGreatDoor
