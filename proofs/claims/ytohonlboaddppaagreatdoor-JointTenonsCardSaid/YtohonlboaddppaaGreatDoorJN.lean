/-
  Walk of the law's example: the chapter's roof and rafter.; Walk of the chapter's awake.; Tenons: their numbers, joint.Tenon's walk.
-/
import Derived.Test.YtohonlboaddppaaGreatDoorJK
import Derived.Test.YtohonlboaddppaaGreatDoorJH
namespace Go.Proofs.YtohonlboaddppaaGreatDoor
open Go.RowKit Go.Shelf Kp
attribute [local go_sem] Oper.semAt_some
def r0 : List Sd := [⟨0, 0, 3, 4, false, 0, 8⟩, ⟨100, 0, 3, 4, false, 0, 8⟩, ⟨100, 80, 3, 4, false, 0, 8⟩, ⟨0, 80, 3, 4, false, 0, 8⟩]
def m0 : Mb := ⟨1, 0, -1, [49, 48], [48], [48], [49, 48], [52, 48], [51, 48], 6, 45⟩
theorem results_ex {W : World} {b c : Nat} {x y z u : Value} {v : List Value} (h : Blk W b [x, y, z, u] 54) (hc : Blk W c v 26) (hv : v.length = 11) (fn : Func) (hf : fn.results = #[.cell 0 54, .cell 1 26]) (tmps : Array Value)
    (hp : tmps.getD 0 undef = .pointer (some ⟨b, 0, none⟩)) (hp1 : tmps.getD 1 undef = .pointer (some ⟨c, 0, none⟩)) :
    (results fn tmps).run Tryz.prog W = .ok (.tuple #[.agg #[x, y, z, u], .agg v.toArray]) W := by
  have c0 := h.cell 0
  have c1 := h.cell 1
  have c2 := h.cell 2
  have c3 := h.cell 3
  match v, hv with
  | [v0, v1, v2, v3, v4, v5, v6, v7, v8, v9, v10], _ =>
    have d0 := hc.cell 0
    have d1 := hc.cell 1
    have d2 := hc.cell 2
    have d3 := hc.cell 3
    have d4 := hc.cell 4
    have d5 := hc.cell 5
    have d6 := hc.cell 6
    have d7 := hc.cell 7
    have d8 := hc.cell 8
    have d9 := hc.cell 9
    have d10 := hc.cell 10
    simp only [List.getElem?_cons_zero, List.getElem?_cons_succ] at c0 c1 c2 c3 d0 d1 d2 d3 d4 d5 d6 d7 d8 d9 d10
    simp only [Array.getD_eq_getD_getElem?] at hp hp1
    simp [results, hf, hp, hp1, go_sem, c0, c1, c2, c3, d0, d1, d2, d3, d4, d5, d6, d7, d8, d9, d10]
set_option maxRecDepth 100000 in
set_option maxHeartbeats 8000000 in
theorem law_example (w : World) : Calls Tryz.prog 16 #[] w fun e w' => ∃ ro : Ro, e = .returned (.tuple #[.agg (roC ro).toArray, .agg (mbC m0).toArray]) ∧ RgSl w' ro.p.v [r0] ∧ Q w w' := by
  obtain ⟨i0, hi, hz0, hz1, hz2⟩ := info_of infoSide
  obtain ⟨W0, hW0⟩ : ∃ W0, ((w.alloc (.cells #[.slice none 0 0, .slice none 0 0, .slice none 0 0, .slice none 0 0] 54)).alloc (.cells #[.int .i64 0, .int .i64 0, .int .i64 0, .string ⟨#[]⟩, .string ⟨#[]⟩, .string ⟨#[]⟩, .string ⟨#[]⟩, .string ⟨#[]⟩, .string ⟨#[]⟩, .int .i64 0, .int .i64 0] 26)).alloc (.cells #[.int .i64 0, .int .i64 0, .int .i64 100, .int .i64 0, .int .i64 100, .int .i64 80, .int .i64 0, .int .i64 80] 95) = W0 := ⟨_, rfl⟩
  have hq0 : Q w W0 := by rw [← hW0]; exact bt
  have hs0 : W0.heap.size = w.heap.size + 3 := by rw [← hW0]; simp
  have BR : Blk W0 w.heap.size [.slice none 0 0, .slice none 0 0, .slice none 0 0, .slice none 0 0] 54 := by
    rw [← hW0]
    exact ((Blk.new w _ _).alloc _).alloc _
  have BM : Blk W0 (w.heap.size + 1) [.int .i64 0, .int .i64 0, .int .i64 0, .string ⟨#[]⟩, .string ⟨#[]⟩, .string ⟨#[]⟩, .string ⟨#[]⟩, .string ⟨#[]⟩, .string ⟨#[]⟩, .int .i64 0, .int .i64 0] 26 := by
    rw [← hW0]
    exact (Blk.new1 w _ _ _).alloc _
  have BT : Blk W0 (w.heap.size + 2) [.int .i64 0, .int .i64 0, .int .i64 100, .int .i64 0, .int .i64 100, .int .i64 80, .int .i64 0, .int .i64 80] 95 := by
    rw [← hW0]
    exact Blk.new2 w _ _ _ _
  go_enter Tryz.func16, Tryz.ntmps16
  go_wp2
  clear hW0
  go_loopw [11, 2] (fun i o wr => ∃ k : Nat, k ≤ 4 ∧ i = .int .i64 k ∧ wr.ownsRow (w.heap.size + 3) 98 7 o k (rowOf sdC (r0.take k)) ∧ Below (w.heap.size + 3) W0 wr ∧ w.heap.size + 3 ≤ wr.heap.size) (fun i _ _ => 4 - (intOf i).toNat)
  case atStart => exact ⟨0, by omega, rfl, World.ownsRow_nil _ _ _ _, Below.refl _ _, by omega⟩
  case round =>
    obtain ⟨k, hk, rfl, hown, hQ, hsz⟩ := hrel
    have BTr := BT.keep hQ (by omega)
    have l2 : w.heap.size + 1 + 1 < wr.heap.size := by omega
    by_cases hlt : k < 4
    · have t0 := BTr.cell 0
      have t1 := BTr.cell 1
      have t2 := BTr.cell 2
      have t3 := BTr.cell 3
      have t4 := BTr.cell 4
      have t5 := BTr.cell 5
      have t6 := BTr.cell 6
      have t7 := BTr.cell 7
      simp only [List.getElem?_cons_zero, List.getElem?_cons_succ] at t0 t1 t2 t3 t4 t5 t6 t7
      have h4 : k = 0 ∨ k = 1 ∨ k = 2 ∨ k = 3 := by omega
      clear BT BR BM hq0
      rcases h4 with rfl | rfl | rfl | rfl
      · have hq2 : Q wr ((wr.alloc (.cells #[.int .i64 0, .int .i64 0] 95)).alloc (.cells ([.int .i64 0, .int .i64 0, .int .i64 3, .int .i64 4, .bool false, .int .i64 0, .int .i64 8] : List Value).toArray 98)) := ((Below.refl _ wr).alloc (Nat.le_refl _) _).alloc (by simp) _
        have hown2 := ownsRow_keep hown hq2
        have T := Blk.new (wr.alloc (.cells #[.int .i64 0, .int .i64 0] 95)) [.int .i64 0, .int .i64 0, .int .i64 3, .int .i64 4, .bool false, .int .i64 0, .int .i64 8] 98
        rw [World.size_alloc] at T
        have hsz2 : w.heap.size + 3 ≤ ((wr.alloc (.cells #[.int .i64 0, .int .i64 0] 95)).alloc (.cells ([.int .i64 0, .int .i64 0, .int .i64 3, .int .i64 4, .bool false, .int .i64 0, .int .i64 8] : List Value).toArray 98)).heap.size := by simp; omega
        go_wp2_with (at_builtin; refine wpList_append_own_at _ rfl (.tmp 15) (.tmp 21) 94 rfl (w.heap.size + 3) 98 i0 _ 7 56 Tryz.underlying94 hi hz0 hz1 hz2 rfl (by decide) u2 0 (rowOf sdC (r0.take 0)) rfl hown2 ⟨wr.heap.size + 1, 0, none⟩ 1 1 [.int .i64 0, .int .i64 0, .int .i64 3, .int .i64 4, .bool false, .int .i64 0, .int .i64 8] rfl rfl (fun j z hj => by rw [Addr.add_lit, Nat.zero_add]; exact (T.cell j).trans hj) (by
          intro z hz
          simp only [List.mem_cons, List.not_mem_nil, or_false] at hz
          rcases hz with rfl | rfl | rfl | rfl | rfl | rfl | rfl <;> rfl) (by unfold maxLen; omega) (by omega) hsz2 ?_)
        intro v9 w9 hown9 hgrow9 _ _
        have hB9 : Below (w.heap.size + 3) W0 w9 := Below.trans hQ ((hq2.mono hsz).grown hgrow9 hsz2 (fun j hj => (hown2.lt j hj).1))
        have hsz9 := Nat.le_trans hsz2 hgrow9.size
        clear hown2 T hgrow9 hq2 hsz2 t0 t1 t2 t3 t4 t5 t6 t7 BTr l2 hown
        go_wp2
        go_roundw
        case rel => exact ⟨1, by omega, by go_num, hown9, hB9, hsz9⟩
        case measure => simp [intOf]
      · have hq2 : Q wr ((wr.alloc (.cells #[.int .i64 100, .int .i64 0] 95)).alloc (.cells ([.int .i64 100, .int .i64 0, .int .i64 3, .int .i64 4, .bool false, .int .i64 0, .int .i64 8] : List Value).toArray 98)) := ((Below.refl _ wr).alloc (Nat.le_refl _) _).alloc (by simp) _
        have hown2 := ownsRow_keep hown hq2
        have T := Blk.new (wr.alloc (.cells #[.int .i64 100, .int .i64 0] 95)) [.int .i64 100, .int .i64 0, .int .i64 3, .int .i64 4, .bool false, .int .i64 0, .int .i64 8] 98
        rw [World.size_alloc] at T
        have hsz2 : w.heap.size + 3 ≤ ((wr.alloc (.cells #[.int .i64 100, .int .i64 0] 95)).alloc (.cells ([.int .i64 100, .int .i64 0, .int .i64 3, .int .i64 4, .bool false, .int .i64 0, .int .i64 8] : List Value).toArray 98)).heap.size := by simp; omega
        go_wp2_with (at_builtin; refine wpList_append_own_at _ rfl (.tmp 15) (.tmp 21) 94 rfl (w.heap.size + 3) 98 i0 _ 7 56 Tryz.underlying94 hi hz0 hz1 hz2 rfl (by decide) u2 1 (rowOf sdC (r0.take 1)) rfl hown2 ⟨wr.heap.size + 1, 0, none⟩ 1 1 [.int .i64 100, .int .i64 0, .int .i64 3, .int .i64 4, .bool false, .int .i64 0, .int .i64 8] rfl rfl (fun j z hj => by rw [Addr.add_lit, Nat.zero_add]; exact (T.cell j).trans hj) (by
          intro z hz
          simp only [List.mem_cons, List.not_mem_nil, or_false] at hz
          rcases hz with rfl | rfl | rfl | rfl | rfl | rfl | rfl <;> rfl) (by unfold maxLen; omega) (by omega) hsz2 ?_)
        intro v9 w9 hown9 hgrow9 _ _
        have hB9 : Below (w.heap.size + 3) W0 w9 := Below.trans hQ ((hq2.mono hsz).grown hgrow9 hsz2 (fun j hj => (hown2.lt j hj).1))
        have hsz9 := Nat.le_trans hsz2 hgrow9.size
        clear hown2 T hgrow9 hq2 hsz2 t0 t1 t2 t3 t4 t5 t6 t7 BTr l2 hown
        go_wp2
        go_roundw
        case rel => exact ⟨2, by omega, by go_num, hown9, hB9, hsz9⟩
        case measure => simp [intOf]
      · have hq2 : Q wr ((wr.alloc (.cells #[.int .i64 100, .int .i64 80] 95)).alloc (.cells ([.int .i64 100, .int .i64 80, .int .i64 3, .int .i64 4, .bool false, .int .i64 0, .int .i64 8] : List Value).toArray 98)) := ((Below.refl _ wr).alloc (Nat.le_refl _) _).alloc (by simp) _
        have hown2 := ownsRow_keep hown hq2
        have T := Blk.new (wr.alloc (.cells #[.int .i64 100, .int .i64 80] 95)) [.int .i64 100, .int .i64 80, .int .i64 3, .int .i64 4, .bool false, .int .i64 0, .int .i64 8] 98
        rw [World.size_alloc] at T
        have hsz2 : w.heap.size + 3 ≤ ((wr.alloc (.cells #[.int .i64 100, .int .i64 80] 95)).alloc (.cells ([.int .i64 100, .int .i64 80, .int .i64 3, .int .i64 4, .bool false, .int .i64 0, .int .i64 8] : List Value).toArray 98)).heap.size := by simp; omega
        go_wp2_with (at_builtin; refine wpList_append_own_at _ rfl (.tmp 15) (.tmp 21) 94 rfl (w.heap.size + 3) 98 i0 _ 7 56 Tryz.underlying94 hi hz0 hz1 hz2 rfl (by decide) u2 2 (rowOf sdC (r0.take 2)) rfl hown2 ⟨wr.heap.size + 1, 0, none⟩ 1 1 [.int .i64 100, .int .i64 80, .int .i64 3, .int .i64 4, .bool false, .int .i64 0, .int .i64 8] rfl rfl (fun j z hj => by rw [Addr.add_lit, Nat.zero_add]; exact (T.cell j).trans hj) (by
          intro z hz
          simp only [List.mem_cons, List.not_mem_nil, or_false] at hz
          rcases hz with rfl | rfl | rfl | rfl | rfl | rfl | rfl <;> rfl) (by unfold maxLen; omega) (by omega) hsz2 ?_)
        intro v9 w9 hown9 hgrow9 _ _
        have hB9 : Below (w.heap.size + 3) W0 w9 := Below.trans hQ ((hq2.mono hsz).grown hgrow9 hsz2 (fun j hj => (hown2.lt j hj).1))
        have hsz9 := Nat.le_trans hsz2 hgrow9.size
        clear hown2 T hgrow9 hq2 hsz2 t0 t1 t2 t3 t4 t5 t6 t7 BTr l2 hown
        go_wp2
        go_roundw
        case rel => exact ⟨3, by omega, by go_num, hown9, hB9, hsz9⟩
        case measure => simp [intOf]
      · have hq2 : Q wr ((wr.alloc (.cells #[.int .i64 0, .int .i64 80] 95)).alloc (.cells ([.int .i64 0, .int .i64 80, .int .i64 3, .int .i64 4, .bool false, .int .i64 0, .int .i64 8] : List Value).toArray 98)) := ((Below.refl _ wr).alloc (Nat.le_refl _) _).alloc (by simp) _
        have hown2 := ownsRow_keep hown hq2
        have T := Blk.new (wr.alloc (.cells #[.int .i64 0, .int .i64 80] 95)) [.int .i64 0, .int .i64 80, .int .i64 3, .int .i64 4, .bool false, .int .i64 0, .int .i64 8] 98
        rw [World.size_alloc] at T
        have hsz2 : w.heap.size + 3 ≤ ((wr.alloc (.cells #[.int .i64 0, .int .i64 80] 95)).alloc (.cells ([.int .i64 0, .int .i64 80, .int .i64 3, .int .i64 4, .bool false, .int .i64 0, .int .i64 8] : List Value).toArray 98)).heap.size := by simp; omega
        go_wp2_with (at_builtin; refine wpList_append_own_at _ rfl (.tmp 15) (.tmp 21) 94 rfl (w.heap.size + 3) 98 i0 _ 7 56 Tryz.underlying94 hi hz0 hz1 hz2 rfl (by decide) u2 3 (rowOf sdC (r0.take 3)) rfl hown2 ⟨wr.heap.size + 1, 0, none⟩ 1 1 [.int .i64 0, .int .i64 80, .int .i64 3, .int .i64 4, .bool false, .int .i64 0, .int .i64 8] rfl rfl (fun j z hj => by rw [Addr.add_lit, Nat.zero_add]; exact (T.cell j).trans hj) (by
          intro z hz
          simp only [List.mem_cons, List.not_mem_nil, or_false] at hz
          rcases hz with rfl | rfl | rfl | rfl | rfl | rfl | rfl <;> rfl) (by unfold maxLen; omega) (by omega) hsz2 ?_)
        intro v9 w9 hown9 hgrow9 _ _
        have hB9 : Below (w.heap.size + 3) W0 w9 := Below.trans hQ ((hq2.mono hsz).grown hgrow9 hsz2 (fun j hj => (hown2.lt j hj).1))
        have hsz9 := Nat.le_trans hsz2 hgrow9.size
        clear hown2 T hgrow9 hq2 hsz2 t0 t1 t2 t3 t4 t5 t6 t7 BTr l2 hown
        go_wp2
        go_roundw
        case rel => exact ⟨4, by omega, by go_num, hown9, hB9, hsz9⟩
        case measure => simp [intOf]
    · obtain rfl : k = 4 := by omega
      obtain ⟨g, cp, rfl⟩ := row_pos hown (by decide)
      have hrow := RowSl.of_row sdC_len (l := r0) hown
      have BRr := BR.keep hQ (by omega)
      have BMr := BM.keep hQ (by omega)
      have hwr : Q w wr := Below.trans hq0 (hQ.mono (by omega))
      obtain ⟨Wa, hWa⟩ : ∃ Wa, wr.alloc (.cells #[.slice (some ⟨g, 0, none⟩) 4 cp] 94) = Wa := ⟨_, rfl⟩
      have hqa : Q wr Wa := by rw [← hWa]; exact (Below.refl _ wr).alloc (Nat.le_refl _) _
      have L : Blk Wa wr.heap.size [.slice (some ⟨g, 0, none⟩) 4 cp] 94 := by rw [← hWa]; exact Blk.new wr _ _
      replace BRr := BRr.keep hqa BRr.lt
      replace BMr := BMr.keep hqa BMr.lt
      replace hrow := hrow.keep hqa
      have hwa : Q w Wa := Q.trans hwr hqa
      have a0 := BRr.cell 0
      have f0 := BRr.frozen 0
      have a1 := BRr.cell 1
      have f1 := BRr.frozen 1
      have a2 := BRr.cell 2
      have f2 := BRr.frozen 2
      have a3 := BRr.cell 3
      have f3 := BRr.frozen 3
      have m0 := BMr.cell 0
      have g0 := BMr.frozen 0
      have m1 := BMr.cell 1
      have g1 := BMr.frozen 1
      have m2 := BMr.cell 2
      have g2 := BMr.frozen 2
      have m3 := BMr.cell 3
      have g3 := BMr.frozen 3
      have m4 := BMr.cell 4
      have g4 := BMr.frozen 4
      have m5 := BMr.cell 5
      have g5 := BMr.frozen 5
      have m6 := BMr.cell 6
      have g6 := BMr.frozen 6
      have m7 := BMr.cell 7
      have g7 := BMr.frozen 7
      have m8 := BMr.cell 8
      have g8 := BMr.frozen 8
      have m9 := BMr.cell 9
      have g9 := BMr.frozen 9
      have m10 := BMr.cell 10
      have g10 := BMr.frozen 10
      simp only [List.getElem?_cons_zero, List.getElem?_cons_succ] at a0 a1 a2 a3 m0 m1 m2 m3 m4 m5 m6 m7 m8 m9 m10
      have Rf := (((((((((((((((BRr).set 0 (.slice (some ⟨wr.heap.size, 0, none⟩) 1 1)).set 1 (.slice none 0 0)).set 2 (.slice none 0 0)).set 3 (.slice none 0 0)).setOther (b' := w.heap.size + 1) (by omega) 0 (.int .i64 1)).setOther (b' := w.heap.size + 1) (by omega) 1 (.int .i64 0)).setOther (b' := w.heap.size + 1) (by omega) 2 (.int .i64 (-1))).setOther (b' := w.heap.size + 1) (by omega) 3 (.string ⟨#[49, 48]⟩)).setOther (b' := w.heap.size + 1) (by omega) 4 (.string ⟨#[48]⟩)).setOther (b' := w.heap.size + 1) (by omega) 5 (.string ⟨#[48]⟩)).setOther (b' := w.heap.size + 1) (by omega) 6 (.string ⟨#[49, 48]⟩)).setOther (b' := w.heap.size + 1) (by omega) 7 (.string ⟨#[52, 48]⟩)).setOther (b' := w.heap.size + 1) (by omega) 8 (.string ⟨#[51, 48]⟩)).setOther (b' := w.heap.size + 1) (by omega) 9 (.int .i64 6)).setOther (b' := w.heap.size + 1) (by omega) 10 (.int .i64 45)
      have Mf := (((((((((((((((BMr).setOther (b' := w.heap.size) (by omega) 0 (.slice (some ⟨wr.heap.size, 0, none⟩) 1 1)).setOther (b' := w.heap.size) (by omega) 1 (.slice none 0 0)).setOther (b' := w.heap.size) (by omega) 2 (.slice none 0 0)).setOther (b' := w.heap.size) (by omega) 3 (.slice none 0 0)).set 0 (.int .i64 1)).set 1 (.int .i64 0)).set 2 (.int .i64 (-1))).set 3 (.string ⟨#[49, 48]⟩)).set 4 (.string ⟨#[48]⟩)).set 5 (.string ⟨#[48]⟩)).set 6 (.string ⟨#[49, 48]⟩)).set 7 (.string ⟨#[52, 48]⟩)).set 8 (.string ⟨#[51, 48]⟩)).set 9 (.int .i64 6)).set 10 (.int .i64 45)
      have Lf := (((((((((((((((L).setOther (b' := w.heap.size) (by omega) 0 (.slice (some ⟨wr.heap.size, 0, none⟩) 1 1)).setOther (b' := w.heap.size) (by omega) 1 (.slice none 0 0)).setOther (b' := w.heap.size) (by omega) 2 (.slice none 0 0)).setOther (b' := w.heap.size) (by omega) 3 (.slice none 0 0)).setOther (b' := w.heap.size + 1) (by omega) 0 (.int .i64 1)).setOther (b' := w.heap.size + 1) (by omega) 1 (.int .i64 0)).setOther (b' := w.heap.size + 1) (by omega) 2 (.int .i64 (-1))).setOther (b' := w.heap.size + 1) (by omega) 3 (.string ⟨#[49, 48]⟩)).setOther (b' := w.heap.size + 1) (by omega) 4 (.string ⟨#[48]⟩)).setOther (b' := w.heap.size + 1) (by omega) 5 (.string ⟨#[48]⟩)).setOther (b' := w.heap.size + 1) (by omega) 6 (.string ⟨#[49, 48]⟩)).setOther (b' := w.heap.size + 1) (by omega) 7 (.string ⟨#[52, 48]⟩)).setOther (b' := w.heap.size + 1) (by omega) 8 (.string ⟨#[51, 48]⟩)).setOther (b' := w.heap.size + 1) (by omega) 9 (.int .i64 6)).setOther (b' := w.heap.size + 1) (by omega) 10 (.int .i64 45)
      have hQe := (((((((((((((((hwa).setCell (p := ⟨w.heap.size, 0, none⟩) (Nat.le_refl _) (.slice (some ⟨wr.heap.size, 0, none⟩) 1 1)).setCell (p := ⟨w.heap.size, 1, none⟩) (Nat.le_refl _) (.slice none 0 0)).setCell (p := ⟨w.heap.size, 2, none⟩) (Nat.le_refl _) (.slice none 0 0)).setCell (p := ⟨w.heap.size, 3, none⟩) (Nat.le_refl _) (.slice none 0 0)).setCell (p := ⟨w.heap.size + 1, 0, none⟩) (Nat.le_succ _) (.int .i64 1)).setCell (p := ⟨w.heap.size + 1, 1, none⟩) (Nat.le_succ _) (.int .i64 0)).setCell (p := ⟨w.heap.size + 1, 2, none⟩) (Nat.le_succ _) (.int .i64 (-1))).setCell (p := ⟨w.heap.size + 1, 3, none⟩) (Nat.le_succ _) (.string ⟨#[49, 48]⟩)).setCell (p := ⟨w.heap.size + 1, 4, none⟩) (Nat.le_succ _) (.string ⟨#[48]⟩)).setCell (p := ⟨w.heap.size + 1, 5, none⟩) (Nat.le_succ _) (.string ⟨#[48]⟩)).setCell (p := ⟨w.heap.size + 1, 6, none⟩) (Nat.le_succ _) (.string ⟨#[49, 48]⟩)).setCell (p := ⟨w.heap.size + 1, 7, none⟩) (Nat.le_succ _) (.string ⟨#[52, 48]⟩)).setCell (p := ⟨w.heap.size + 1, 8, none⟩) (Nat.le_succ _) (.string ⟨#[51, 48]⟩)).setCell (p := ⟨w.heap.size + 1, 9, none⟩) (Nat.le_succ _) (.int .i64 6)).setCell (p := ⟨w.heap.size + 1, 10, none⟩) (Nat.le_succ _) (.int .i64 45)
      have hownA := ownsRow_keep hown hqa
      have hownf := ownsRow_set (ownsRow_set (ownsRow_set (ownsRow_set (ownsRow_set (ownsRow_set (ownsRow_set (ownsRow_set (ownsRow_set (ownsRow_set (ownsRow_set (ownsRow_set (ownsRow_set (ownsRow_set (ownsRow_set (hownA) (g := w.heap.size) (by omega) 0 (.slice (some ⟨wr.heap.size, 0, none⟩) 1 1)) (g := w.heap.size) (by omega) 1 (.slice none 0 0)) (g := w.heap.size) (by omega) 2 (.slice none 0 0)) (g := w.heap.size) (by omega) 3 (.slice none 0 0)) (g := w.heap.size + 1) (by omega) 0 (.int .i64 1)) (g := w.heap.size + 1) (by omega) 1 (.int .i64 0)) (g := w.heap.size + 1) (by omega) 2 (.int .i64 (-1))) (g := w.heap.size + 1) (by omega) 3 (.string ⟨#[49, 48]⟩)) (g := w.heap.size + 1) (by omega) 4 (.string ⟨#[48]⟩)) (g := w.heap.size + 1) (by omega) 5 (.string ⟨#[48]⟩)) (g := w.heap.size + 1) (by omega) 6 (.string ⟨#[49, 48]⟩)) (g := w.heap.size + 1) (by omega) 7 (.string ⟨#[52, 48]⟩)) (g := w.heap.size + 1) (by omega) 8 (.string ⟨#[51, 48]⟩)) (g := w.heap.size + 1) (by omega) 9 (.int .i64 6)) (g := w.heap.size + 1) (by omega) 10 (.int .i64 45)
      simp only [List.set_cons_zero, List.set_cons_succ] at Rf Mf
      have hrowf := RowSl.of_row sdC_len (l := r0) hownf
      have hlf := Lf.cell 0
      simp only [List.getElem?_cons_zero] at hlf
      have hlt := Lf.lt
      have la := BRr.lt
      have lb := BMr.lt
      clear hrow L hownA hownf Lf hQ hwr BTr hown BT BR BM hq0 hwa
      repeat (first | go_values | go_skip | go_guarded | go_step | go_upon | go_in | (simp only [Int.not_lt, Int.not_le] at *; go_simp) | (go_values <;> (try go_simp)) | (go_ite <;> go_prune <;> (try go_simp)))
      refine bodyPost_ret (results_ex Rf Mf rfl Tryz.f16 rfl _ rfl rfl) rfl ⟨⟨⟨some ⟨wr.heap.size, 0, none⟩, 1, 1⟩, ⟨none, 0, 0⟩, ⟨none, 0, 0⟩, ⟨none, 0, 0⟩⟩, rfl, ⟨_, _, rfl, fun i hi => ?_⟩, hQe⟩
      simp only [List.length_cons, List.length_nil] at hi
      obtain rfl : i = 0 := by omega
      exact ⟨wr.heap.size, 0, _, rfl, hlt, hlf, hrowf⟩
end Go.Proofs.YtohonlboaddppaaGreatDoor
namespace Go.Proofs.YtohonlboaddppaaGreatDoor
open Go.RowKit Go.Shelf Kp
attribute [local go_sem] Oper.semAt_some
theorem r0_ok : planE [r0] = 0 := by kernel_rfl
theorem m0_ok : hipE m0 = 0 := by kernel_rfl
theorem m0_short : m0.short := ⟨by decide, by decide, by decide, by decide, by decide, by decide⟩
theorem m0_low : lowF [r0] m0 = 0 := by kernel_rfl
theorem m0_high : highF [r0] m0 = 40 := by kernel_rfl
theorem raf0_ok : RafOk r0 m0 0 where
  hip := m0_ok
  kind := by decide
  face := rfl
  lt := by decide
  gable := rfl
  low := m0_low
  high := by rw [m0_high]; decide
def x0R : Raf := ⟨45, 3/4, 40, 8⟩
theorem raf0_is : rafOf [r0] m0 = x0R := by
  unfold rafOf x0R
  rw [m0_high]
  congr 1
  kernel_rfl
theorem x0_bd : RafBd x0R where
  d1 := by decide
  d2 := by decide
  p := ⟨by rw [show x0R.pitch.num = 3 from by kernel_rfl]; decide, by rw [show x0R.pitch.den = 4 from by kernel_rfl]; decide⟩
  p0 := by rw [show x0R.pitch.num = 3 from by kernel_rfl]; decide
  r := ⟨by rw [show x0R.run.num = 40 from by kernel_rfl]; decide, by rw [show x0R.run.den = 1 from by kernel_rfl]; decide⟩
  o := by decide
theorem x0_room : x0R.run - (x0R.over : Rat) = 32 := by kernel_rfl
theorem of_example (ro : Ro) (w : World) (hv : RgSl w ro.p.v [r0]) : OfC w ro m0 x0R := fun W hW hq => by
  obtain ⟨⟨a0, n0, c0⟩, ⟨a1, n1, c1⟩, ⟨a2, n2, c2⟩, ⟨a3, n3, c3⟩⟩ := ro
  have := joint_of1 r0 r0_ok m0 m0_short 0 raf0_ok (.slice a0 n0 c0) a1 a2 a3 n1 n2 n3 c1 c2 c3 W hW (hv.keep hq)
  rw [raf0_is] at this
  exact this
theorem s57625 : Small8 (576/25) := small_of (n := 576) (d := 25) (by kernel_rfl) (by kernel_rfl) (by decide)
theorem s1445 : Small8 (576/25 * (5/4)) := small_of (n := 144) (d := 5) (by kernel_rfl) (by kernel_rfl) (by decide)
theorem v1445 : (576/25 * (5/4) : Rat) = 144/5 := by kernel_rfl
theorem make_left (b : Nat) (t : TypeId) (w : World) (hE : Env w) (hb : Blk w b [.string ⟨(rstr (576/25)).toArray⟩, .string ⟨(rstr (25/16)).toArray⟩] t) :
    Calls Tryz.prog 44 #[.slice (some ⟨b, 0, none⟩) 1 1] w fun e w' => ∃ v, e = .returned (.tuple #[v, .int .i64 0]) ∧ Q w w' ∧
      w'.ownsRow w.heap.size 68 2 v 1 [.string ⟨#[49, 52, 52, 47, 53]⟩, .string ⟨#[49]⟩] := by
  have h := surd_Make_one (576/25) (25/16) (5/4) 1 s57625 s2516 (num_pos 25 (by kernel_rfl) (by decide)) (num_ne 576 0 (by kernel_rfl) (by kernel_rfl) (by decide)) (num_ne 25 1 (by kernel_rfl) (by kernel_rfl) (by decide))
    (by rw [m2516, normM_400, d16]; exact v54) (by rw [m2516, normM_400]) s54 s1 s1445 (num_ne 144 0 (by kernel_rfl) (by kernel_rfl) (by decide)) b t w hE hb
  rw [v1445, v1, show rstr (144/5 : Rat) = [49, 52, 52, 47, 53] from by kernel_rfl, show rstr (1 : Rat) = [49] from by kernel_rfl] at h
  exact h
set_option maxRecDepth 100000 in
set_option maxHeartbeats 4000000 in
theorem awake35 (w : World) (hE : Env w) : Calls Tryz.prog 6 #[] w fun e w' => e = .returned (.bool true) ∧ Q w w' := by
  have hn : NotchOk x0R 12 := ⟨⟨by decide, by decide⟩, by decide, by rw [x0_room]; decide⟩
  have HB : Hid (∀ ro w, Env w → RgSl w ro.p.v [r0] → Calls Tryz.prog 17 #[.agg (roC ro).toArray, .agg (mbC m0).toArray, .int .i64 12] w fun e w' => e = .returned (.tuple #[.agg #[.string ⟨#[56]⟩, .string ⟨#[49, 50]⟩, .string ⟨#[57]⟩], .int .i64 0]) ∧ Q w w') := Lib.hid (fun ro w hw hv => by
    have := joint_Birdsmouth ro m0 x0R x0_bd 12 (by decide) (by decide) (by rw [x0_room]; decide) w hw (of_example ro w hv)
    rw [show rstr (x0R.over : Rat) = [56] from by kernel_rfl, show rstr ((12 : Int) : Rat) = [49, 50] from by kernel_rfl, show rstr (((12 : Int) : Rat) * x0R.pitch) = [57] from by kernel_rfl] at this
    exact this)
  have HL : Hid (∀ ro w, Env w → RgSl w ro.p.v [r0] → Calls Tryz.prog 18 #[.agg (roC ro).toArray, .agg (mbC m0).toArray, .agg #[.string ⟨#[56]⟩, .string ⟨#[49, 50]⟩, .string ⟨#[57]⟩]] w fun e w' => ∃ v, e = .returned (.tuple #[v, .int .i64 0]) ∧ Q w w' ∧ w'.ownsRow w.heap.size 68 2 v 1 [.string ⟨#[49, 52, 52, 47, 53]⟩, .string ⟨#[49]⟩]) := Lib.hid (fun ro w hw hv => by
    have := joint_Left ro m0 x0R x0_bd 12 hn (25/16) (576/25) (by kernel_rfl) (by rw [show (25/16 : Rat).num = 25 from by kernel_rfl]; decide) (by kernel_rfl) _ make_left w hw (of_example ro w hv)
    rw [show rstr (x0R.over : Rat) = [56] from by kernel_rfl, show rstr (12 : Rat) = [49, 50] from by kernel_rfl, show rstr ((12 : Rat) * x0R.pitch) = [57] from by kernel_rfl] at this
    exact this)
  have HD : Hid (∀ ro w, Env w → RgSl w ro.p.v [r0] → Calls Tryz.prog 19 #[.agg (roC ro).toArray, .agg (mbC m0).toArray] w fun e w' => e = .returned (.tuple #[.string ⟨#[50, 48]⟩, .int .i64 0]) ∧ Q w w') := Lib.hid (fun ro w hw hv => by
    have := joint_Deepest ro m0 x0R x0_bd 20 (by kernel_rfl) ⟨by decide, by decide⟩ (by rw [x0_room]; decide) w hw (of_example ro w hv)
    rw [show rstr (20 : Rat) = [50, 48] from by kernel_rfl] at this
    exact this)
  have HX := Lib.hid (fun w => law_example w)
  go_enter Tryz.func6, Tryz.ntmps6
  go_wp2_with fail
  refine (HX.out w).mono ?_
  rintro e w1 ⟨ro, rfl, hv, hq1⟩
  have HBr := Lib.hid (HB.out ro)
  have HLr := Lib.hid (HL.out ro)
  have HDr := Lib.hid (HD.out ro)
  clear HX HB HL HD
  obtain ⟨⟨a0, n0, c0⟩, ⟨a1, n1, c1⟩, ⟨a2, n2, c2⟩, ⟨a3, n3, c3⟩⟩ := ro
  unfold roC Sl3.v mbC m0 at *
  simp only at HBr HLr HDr hv ⊢
  obtain ⟨W2, hW2⟩ : ∃ W2, (w1.alloc (.cells #[.slice a0 n0 c0, .slice a1 n1 c1, .slice a2 n2 c2, .slice a3 n3 c3] 54)).alloc (.cells #[.int .i64 1, .int .i64 0, .int .i64 (-1), .string ⟨#[49, 48]⟩, .string ⟨#[48]⟩, .string ⟨#[48]⟩, .string ⟨#[49, 48]⟩, .string ⟨#[52, 48]⟩, .string ⟨#[51, 48]⟩, .int .i64 6, .int .i64 45] 26) = W2 := ⟨_, rfl⟩
  have BR : Blk W2 w1.heap.size [.slice a0 n0 c0, .slice a1 n1 c1, .slice a2 n2 c2, .slice a3 n3 c3] 54 := by rw [← hW2]; exact (Blk.new w1 _ _).alloc _
  have BM : Blk W2 (w1.heap.size + 1) [.int .i64 1, .int .i64 0, .int .i64 (-1), .string ⟨#[49, 48]⟩, .string ⟨#[48]⟩, .string ⟨#[48]⟩, .string ⟨#[49, 48]⟩, .string ⟨#[52, 48]⟩, .string ⟨#[51, 48]⟩, .int .i64 6, .int .i64 45] 26 := by rw [← hW2]; exact Blk.new1 w1 _ _ _
  have hqW : Q w1 W2 := by rw [← hW2]; exact bt
  have hv2 := hv.keep hqW
  have hwW : Q w W2 := Q.trans hq1 hqW
  have hE2 := hE.ofQ hwW
  clear hE
  have hE := hE2
  clear hE2 hv
  have hQ0 := Q.refl W2
  replace r0 := BR.cell 0
  replace r1 := BR.cell 1
  replace r2 := BR.cell 2
  replace r3 := BR.cell 3
  simp only [List.getElem?_cons_zero, List.getElem?_cons_succ] at r0 r1 r2 r3
  replace lBR := BR.lt
  replace m0 := BM.cell 0
  replace m1 := BM.cell 1
  replace m2 := BM.cell 2
  replace m3 := BM.cell 3
  replace m4 := BM.cell 4
  replace m5 := BM.cell 5
  replace m6 := BM.cell 6
  replace m7 := BM.cell 7
  replace m8 := BM.cell 8
  replace m9 := BM.cell 9
  replace m10 := BM.cell 10
  simp only [List.getElem?_cons_zero, List.getElem?_cons_succ] at m0 m1 m2 m3 m4 m5 m6 m7 m8 m9 m10
  replace lBM := BM.lt
  go_wp2_with fail
  clear hW2
  refine (HBr.out _ hE hv2).mono ?_
  rintro e Z1 ⟨rfl, hz1⟩
  replace BR := BR.keep hz1 BR.lt
  replace BM := BM.keep hz1 BM.lt
  have hv3 := hv2.keep hz1
  obtain ⟨W3, hW3⟩ : ∃ W3, Z1.alloc (.cells #[.string ⟨#[56]⟩, .string ⟨#[49, 50]⟩, .string ⟨#[57]⟩] 58) = W3 := ⟨_, rfl⟩
  have N : Blk W3 Z1.heap.size [.string ⟨#[56]⟩, .string ⟨#[49, 50]⟩, .string ⟨#[57]⟩] 58 := by rw [← hW3]; exact Blk.new Z1 _ _
  have hqV : Q Z1 W3 := by rw [← hW3]; exact bt
  have hv4 := hv3.keep hqV
  have hwV : Q w W3 := Q.trans hwW (Q.trans hz1 hqV)
  have hE3 := hE.ofQ (Q.trans hz1 hqV)
  clear hE hv2 hv3 HBr
  have hE := hE3
  clear hE3
  replace BR := BR.keep hqV BR.lt
  replace BM := BM.keep hqV BM.lt
  have hQ0 := Q.refl W3
  replace r0 := BR.cell 0
  replace r1 := BR.cell 1
  replace r2 := BR.cell 2
  replace r3 := BR.cell 3
  simp only [List.getElem?_cons_zero, List.getElem?_cons_succ] at r0 r1 r2 r3
  replace lBR := BR.lt
  replace m0 := BM.cell 0
  replace m1 := BM.cell 1
  replace m2 := BM.cell 2
  replace m3 := BM.cell 3
  replace m4 := BM.cell 4
  replace m5 := BM.cell 5
  replace m6 := BM.cell 6
  replace m7 := BM.cell 7
  replace m8 := BM.cell 8
  replace m9 := BM.cell 9
  replace m10 := BM.cell 10
  simp only [List.getElem?_cons_zero, List.getElem?_cons_succ] at m0 m1 m2 m3 m4 m5 m6 m7 m8 m9 m10
  replace lBM := BM.lt
  replace n0 := N.cell 0
  replace n1 := N.cell 1
  replace n2 := N.cell 2
  simp only [List.getElem?_cons_zero, List.getElem?_cons_succ] at n0 n1 n2
  replace lN := N.lt
  go_wp2_with fail
  clear hW3
  refine (HLr.out _ hE hv4).mono ?_
  rintro e V1 ⟨v, rfl, hu1, hown⟩
  obtain ⟨g, cp, rfl⟩ := row_pos hown (by decide)
  have hv5 := hv4.keep hu1
  replace BR := BR.keep hu1 BR.lt
  replace BM := BM.keep hu1 BM.lt
  replace N := N.keep hu1 N.lt
  have hE4 := hE.ofQ hu1
  have hwU : Q w V1 := Q.trans hwV hu1
  clear hE hv4 HLr
  have hE := hE4
  clear hE4
  have hQ0 := Q.refl V1
  replace r0 := BR.cell 0
  replace r1 := BR.cell 1
  replace r2 := BR.cell 2
  replace r3 := BR.cell 3
  simp only [List.getElem?_cons_zero, List.getElem?_cons_succ] at r0 r1 r2 r3
  replace lBR := BR.lt
  replace m0 := BM.cell 0
  replace m1 := BM.cell 1
  replace m2 := BM.cell 2
  replace m3 := BM.cell 3
  replace m4 := BM.cell 4
  replace m5 := BM.cell 5
  replace m6 := BM.cell 6
  replace m7 := BM.cell 7
  replace m8 := BM.cell 8
  replace m9 := BM.cell 9
  replace m10 := BM.cell 10
  simp only [List.getElem?_cons_zero, List.getElem?_cons_succ] at m0 m1 m2 m3 m4 m5 m6 m7 m8 m9 m10
  replace lBM := BM.lt
  replace n0 := N.cell 0
  replace n1 := N.cell 1
  replace n2 := N.cell 2
  simp only [List.getElem?_cons_zero, List.getElem?_cons_succ] at n0 n1 n2
  replace lN := N.lt
  go_wp2_with fail
  refine (HDr.out _ hE hv5).mono ?_
  rintro e U1 ⟨rfl, hu2⟩
  have hown2 := ownsRow_keep hown hu2
  have S := Blk.new U1 [.string ⟨#[49, 52, 52, 47, 53]⟩, .string ⟨#[49]⟩] 68
  have hqS : Q U1 (U1.alloc (.cells ([.string ⟨#[49, 52, 52, 47, 53]⟩, .string ⟨#[49]⟩] : List Value).toArray 68)) := (Below.refl _ U1).alloc (Nat.le_refl _) _
  have hown3 := ownsRow_keep hown2 hqS
  have s0 := hown3.cells rfl 0 _ rfl
  have s1 := hown3.cells rfl 1 _ rfl
  rw [Addr.add_lit] at s0 s1
  have HS := Lib.hid (ref04_Same_one g U1.heap.size cp 1 [49, 52, 52, 47, 53] [49] _ s0 s1 (S.cell 0) (S.cell 1))
  replace N := N.keep hu2 N.lt
  have n0 := N.cell 0
  have n1 := N.cell 1
  have n2 := N.cell 2
  simp only [List.getElem?_cons_zero, List.getElem?_cons_succ] at n0 n1 n2
  have lN := N.lt
  have hQe : Q w (U1.alloc (.cells ([.string ⟨#[49, 52, 52, 47, 53]⟩, .string ⟨#[49]⟩] : List Value).toArray 68)) := Q.trans hwU (Q.trans hu2 hqS)
  clear hown hown2 hown3 HDr hv5 BR BM
  go_wp2_with fail
  refine HS.out.mono ?_
  rintro e Ue ⟨rfl, k, rfl⟩
  have hQf := Q.trans hQe (Below.drewN (Q.refl _) k)
  go_wp2
  go_ret
  exact ⟨rfl, hQf⟩
end Go.Proofs.YtohonlboaddppaaGreatDoor
namespace Go.Proofs.YtohonlboaddppaaGreatDoor
open Go.RowKit Go.Shelf Kp
attribute [local go_sem] Oper.semAt_some
def tenT (w : Int) (t : Bool) : Rat := if t then Rat.divInt w ((3 : Nat) : Int) else Rat.divInt w ((4 : Nat) : Int)
def tenS (w : Int) (t : Bool) : Rat := if t then Rat.divInt (w * 2) ((6 : Nat) : Int) else Rat.divInt (w * 3) ((8 : Nat) : Int)
theorem ten_sum (w : Int) (t : Bool) : 0 + tenS w t + tenT w t + tenS w t = (w : Rat) := by
  have e : ∀ (a : Int) (k : Nat), Rat.divInt a (k : Int) = (a : Rat) / (k : Rat) := fun a k => by rw [Rat.divInt_eq_div, Rat.intCast_natCast]
  unfold tenS tenT
  cases t
  · simp only [Bool.false_eq_true, if_false, e, Rat.intCast_mul]
    rw [show ((4 : Nat) : Rat) = 4 from rfl, show ((8 : Nat) : Rat) = 8 from rfl, show ((3 : Int) : Rat) = 3 from rfl]
    grind
  · simp only [if_true, e, Rat.intCast_mul]
    rw [show ((3 : Nat) : Rat) = 3 from rfl, show ((6 : Nat) : Rat) = 6 from rfl, show ((2 : Int) : Rat) = 2 from rfl]
    grind
theorem ten_gt {w : Int} (h : 0 < w) : tenT w false < tenT w true := by
  have e : ∀ (a : Int) (k : Nat), Rat.divInt a (k : Int) = (a : Rat) / (k : Rat) := fun a k => by rw [Rat.divInt_eq_div, Rat.intCast_natCast]
  unfold tenT
  simp only [Bool.false_eq_true, if_false, if_true, e]
  rw [show ((4 : Nat) : Rat) = 4 from rfl, show ((3 : Nat) : Rat) = 3 from rfl]
  have : (0 : Rat) < (w : Rat) := by exact_mod_cast h
  grind
theorem ten_pos {w : Int} (h : 0 < w) (t : Bool) : tenT w t ≠ 0 := by
  have e : ∀ (a : Int) (k : Nat), Rat.divInt a (k : Int) = (a : Rat) / (k : Rat) := fun a k => by rw [Rat.divInt_eq_div, Rat.intCast_natCast]
  have : (0 : Rat) < (w : Rat) := by exact_mod_cast h
  unfold tenT
  cases t
  · simp only [Bool.false_eq_true, if_false, e]
    rw [show ((4 : Nat) : Rat) = 4 from rfl]
    grind
  · simp only [if_true, e]
    rw [show ((3 : Nat) : Rat) = 3 from rfl]
    grind
theorem tenT_bd {w : Int} (h1 : 0 < w) (h2 : w ≤ 1000) (t : Bool) : Bd 4 (tenT w t) := by
  unfold tenT
  split
  · exact bd_divInt (by decide) (by omega) (by decide)
  · exact bd_divInt (by decide) (by omega) (by decide)
theorem tenS_bd {w : Int} (h1 : 0 < w) (h2 : w ≤ 1000) (t : Bool) : Bd 4 (tenS w t) := by
  unfold tenS
  split
  · exact bd_divInt (by decide) (by omega) (by decide)
  · exact bd_divInt (by decide) (by omega) (by decide)
set_option maxRecDepth 100000 in
set_option maxHeartbeats 1000000 in
theorem joint_Tenon (m : Mb) (hs : m.short) (hk : hipE m = 0) (t : Bool) (w : World) (hE : Env w) :
    Calls Tryz.prog 7 #[.agg (mbC m).toArray, .bool t] w fun e w' => e = .returned (.tuple #[.string ⟨(rstr (tenT m.wid t)).toArray⟩, .string ⟨(rstr (tenS m.wid t)).toArray⟩, .int .i64 0]) ∧ Q w w' := by
  have HC := Lib.hid (fun w hw => hip_Check_any m hs w hw)
  rw [hk] at HC
  have ok := hipE_ok hk
  have h1 := ok.w1
  have h2 := ok.w2
  clear hk ok hs
  obtain ⟨k, fc, ot, X, Y, Z, X', Y', Z', W, D⟩ := m
  unfold mbC at *
  simp only at *
  have w3 := Go.IntWalk.i64_in (W * 3) (by omega)
  have w2 := Go.IntWalk.i64_in (W * 2) (by omega)
  unfold tenT tenS
  have B := Blk.new w [.int .i64 k, .int .i64 fc, .int .i64 ot, .string ⟨X.toArray⟩, .string ⟨Y.toArray⟩, .string ⟨Z.toArray⟩, .string ⟨X'.toArray⟩, .string ⟨Y'.toArray⟩, .string ⟨Z'.toArray⟩, .int .i64 W, .int .i64 D] 26
  obtain ⟨W0, hW0⟩ : ∃ W0, w.alloc (.cells #[.int .i64 k, .int .i64 fc, .int .i64 ot, .string ⟨X.toArray⟩, .string ⟨Y.toArray⟩, .string ⟨Z.toArray⟩, .string ⟨X'.toArray⟩, .string ⟨Y'.toArray⟩, .string ⟨Z'.toArray⟩, .int .i64 W, .int .i64 D] 26) = W0 := ⟨_, rfl⟩
  have hq0 : Q w W0 := by rw [← hW0]; exact bt
  have hEw := hE.ofQ hq0
  have B : Blk W0 w.heap.size [.int .i64 k, .int .i64 fc, .int .i64 ot, .string ⟨X.toArray⟩, .string ⟨Y.toArray⟩, .string ⟨Z.toArray⟩, .string ⟨X'.toArray⟩, .string ⟨Y'.toArray⟩, .string ⟨Z'.toArray⟩, .int .i64 W, .int .i64 D] 26 := by rw [← hW0]; exact B
  clear hE
  have hE := hEw
  clear hEw
  cases t
  · simp only [Bool.false_eq_true, if_false]
    have HT := Lib.hid (fun w hw => rational_Of_short W 4 (by decide) (by omega) (by decide) w hw)
    have HS := Lib.hid (fun w hw => rational_Of_short (W * 3) 8 (by decide) (by omega) (by decide) w hw)
    generalize rstr (Rat.divInt W ((4 : Nat) : Int)) = T at *
    generalize rstr (Rat.divInt (W * 3) ((8 : Nat) : Int)) = S at *
    have hQ0 := Q.refl W0
    replace m0 := B.cell 0
    replace m1 := B.cell 1
    replace m2 := B.cell 2
    replace m3 := B.cell 3
    replace m4 := B.cell 4
    replace m5 := B.cell 5
    replace m6 := B.cell 6
    replace m7 := B.cell 7
    replace m8 := B.cell 8
    replace m9 := B.cell 9
    replace m10 := B.cell 10
    simp only [List.getElem?_cons_zero, List.getElem?_cons_succ] at m0 m1 m2 m3 m4 m5 m6 m7 m8 m9 m10
    replace lB := B.lt
    go_enter Tryz.func7, Tryz.ntmps7
    go_wp2_with fail
    clear hW0
    refine (HC.out _ (hE.ofQ bt)).mono ?_
    rintro e V1 ⟨rfl, hq1⟩
    have hs1 : Q W0 V1 := Q.trans bt hq1
    have hQ1 : Q W0 V1 := Q.trans hQ0 hs1
    replace B := B.keep hs1 B.lt
    replace m0 := B.cell 0
    replace m1 := B.cell 1
    replace m2 := B.cell 2
    replace m3 := B.cell 3
    replace m4 := B.cell 4
    replace m5 := B.cell 5
    replace m6 := B.cell 6
    replace m7 := B.cell 7
    replace m8 := B.cell 8
    replace m9 := B.cell 9
    replace m10 := B.cell 10
    simp only [List.getElem?_cons_zero, List.getElem?_cons_succ] at m0 m1 m2 m3 m4 m5 m6 m7 m8 m9 m10
    replace lB := B.lt
    go_wp2_with fail
    refine (HT.out _ (hE.ofQ bt)).mono ?_
    rintro e V2 ⟨rfl, hq2⟩
    have hs2 : Q V1 V2 := Q.trans bt hq2
    have hQ2 : Q W0 V2 := Q.trans hQ1 hs2
    replace B := B.keep hs2 B.lt
    replace m0 := B.cell 0
    replace m1 := B.cell 1
    replace m2 := B.cell 2
    replace m3 := B.cell 3
    replace m4 := B.cell 4
    replace m5 := B.cell 5
    replace m6 := B.cell 6
    replace m7 := B.cell 7
    replace m8 := B.cell 8
    replace m9 := B.cell 9
    replace m10 := B.cell 10
    simp only [List.getElem?_cons_zero, List.getElem?_cons_succ] at m0 m1 m2 m3 m4 m5 m6 m7 m8 m9 m10
    replace lB := B.lt
    go_wp2_with fail
    refine (HS.out _ (hE.ofQ bt)).mono ?_
    rintro e V3 ⟨rfl, hq3⟩
    have hs3 : Q V2 V3 := Q.trans bt hq3
    have hQ3 : Q W0 V3 := Q.trans hQ2 hs3
    replace B := B.keep hs3 B.lt
    replace m0 := B.cell 0
    replace m1 := B.cell 1
    replace m2 := B.cell 2
    replace m3 := B.cell 3
    replace m4 := B.cell 4
    replace m5 := B.cell 5
    replace m6 := B.cell 6
    replace m7 := B.cell 7
    replace m8 := B.cell 8
    replace m9 := B.cell 9
    replace m10 := B.cell 10
    simp only [List.getElem?_cons_zero, List.getElem?_cons_succ] at m0 m1 m2 m3 m4 m5 m6 m7 m8 m9 m10
    replace lB := B.lt
    have hQe := Q.trans hq0 hQ3
    go_wp2
    go_ret3
    exact ⟨rfl, hQe⟩
  · simp only [if_true]
    have HT := Lib.hid (fun w hw => rational_Of_short W 3 (by decide) (by omega) (by decide) w hw)
    have HS := Lib.hid (fun w hw => rational_Of_short (W * 2) 6 (by decide) (by omega) (by decide) w hw)
    generalize rstr (Rat.divInt W ((3 : Nat) : Int)) = T at *
    generalize rstr (Rat.divInt (W * 2) ((6 : Nat) : Int)) = S at *
    have hQ0 := Q.refl W0
    replace m0 := B.cell 0
    replace m1 := B.cell 1
    replace m2 := B.cell 2
    replace m3 := B.cell 3
    replace m4 := B.cell 4
    replace m5 := B.cell 5
    replace m6 := B.cell 6
    replace m7 := B.cell 7
    replace m8 := B.cell 8
    replace m9 := B.cell 9
    replace m10 := B.cell 10
    simp only [List.getElem?_cons_zero, List.getElem?_cons_succ] at m0 m1 m2 m3 m4 m5 m6 m7 m8 m9 m10
    replace lB := B.lt
    go_enter Tryz.func7, Tryz.ntmps7
    go_wp2_with fail
    clear hW0
    refine (HC.out _ (hE.ofQ bt)).mono ?_
    rintro e V1 ⟨rfl, hq1⟩
    have hs1 : Q W0 V1 := Q.trans bt hq1
    have hQ1 : Q W0 V1 := Q.trans hQ0 hs1
    replace B := B.keep hs1 B.lt
    replace m0 := B.cell 0
    replace m1 := B.cell 1
    replace m2 := B.cell 2
    replace m3 := B.cell 3
    replace m4 := B.cell 4
    replace m5 := B.cell 5
    replace m6 := B.cell 6
    replace m7 := B.cell 7
    replace m8 := B.cell 8
    replace m9 := B.cell 9
    replace m10 := B.cell 10
    simp only [List.getElem?_cons_zero, List.getElem?_cons_succ] at m0 m1 m2 m3 m4 m5 m6 m7 m8 m9 m10
    replace lB := B.lt
    go_wp2_with fail
    refine (HT.out _ (hE.ofQ bt)).mono ?_
    rintro e V2 ⟨rfl, hq2⟩
    have hs2 : Q V1 V2 := Q.trans bt hq2
    have hQ2 : Q W0 V2 := Q.trans hQ1 hs2
    replace B := B.keep hs2 B.lt
    replace m0 := B.cell 0
    replace m1 := B.cell 1
    replace m2 := B.cell 2
    replace m3 := B.cell 3
    replace m4 := B.cell 4
    replace m5 := B.cell 5
    replace m6 := B.cell 6
    replace m7 := B.cell 7
    replace m8 := B.cell 8
    replace m9 := B.cell 9
    replace m10 := B.cell 10
    simp only [List.getElem?_cons_zero, List.getElem?_cons_succ] at m0 m1 m2 m3 m4 m5 m6 m7 m8 m9 m10
    replace lB := B.lt
    go_wp2_with fail
    refine (HS.out _ (hE.ofQ bt)).mono ?_
    rintro e V3 ⟨rfl, hq3⟩
    have hs3 : Q V2 V3 := Q.trans bt hq3
    have hQ3 : Q W0 V3 := Q.trans hQ2 hs3
    replace B := B.keep hs3 B.lt
    replace m0 := B.cell 0
    replace m1 := B.cell 1
    replace m2 := B.cell 2
    replace m3 := B.cell 3
    replace m4 := B.cell 4
    replace m5 := B.cell 5
    replace m6 := B.cell 6
    replace m7 := B.cell 7
    replace m8 := B.cell 8
    replace m9 := B.cell 9
    replace m10 := B.cell 10
    simp only [List.getElem?_cons_zero, List.getElem?_cons_succ] at m0 m1 m2 m3 m4 m5 m6 m7 m8 m9 m10
    replace lB := B.lt
    have hQe := Q.trans hq0 hQ3
    go_wp2
    go_ret3
    exact ⟨rfl, hQe⟩
end Go.Proofs.YtohonlboaddppaaGreatDoor
