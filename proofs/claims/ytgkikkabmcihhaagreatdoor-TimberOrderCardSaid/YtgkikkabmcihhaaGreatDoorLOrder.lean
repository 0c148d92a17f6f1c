/-
  The law TimberOrder: its walk.
-/
import Derived.Test.YtgkikkabmcihhaaGreatDoorWY
import Derived.Test.YtgkikkabmcihhaaGreatDoorWX
namespace Go.Proofs.YtgkikkabmcihhaaGreatDoor
open Go.RowKit Kp

set_option maxRecDepth 100000 in
set_option maxHeartbeats 2000000 in
theorem order_walk (l : List Sz) (hln : l.length < 4611686018427387904) (kind : Int) (v : Value) (w : World) (hE : Env w) (hl : SzSl w v l) :
    Calls Tryz.prog 5 #[v, .int .i64 kind] w fun e w' => e = .returned (.bool true) ∧ Q w w' := by
  have HG := ref36_Great l v w hl hln
  by_cases h16 : 16 < l.length
  · rw [decide_eq_true h16] at HG
    have HG := Lib.hid HG
    clear h16
    obtain ⟨a, cap, rfl, -⟩ := hl
    go_enter Tryz.func5, Tryz.ntmps5
    go_wp2_with fail
    refine HG.out.mono ?_
    rintro e w1 ⟨rfl, rfl⟩
    go_wp2_with fail
    refine (awake_any _ hE).mono ?_
    rintro e w1 ⟨rfl, hq1⟩
    go_wp2
    go_ret
    exact ⟨rfl, hq1⟩
  · rw [decide_eq_false h16] at HG
    have HG := Lib.hid HG
    have hl1 : l.length ≤ 1000 := by omega
    have hl2 : l.reverse.length < 4611686018427387904 := by rw [List.length_reverse]; exact hln
    have R := eqSz (fsz l kind) (fsz l kind) 
    rw [decide_eq_true (rfl : fsz l kind = fsz l kind)] at R
    have HF : ∀ (v : Value) (W : World), SzSl W v l → Calls Tryz.prog 19 #[v, .int .i64 kind] W fun e w' => e = .returned (.tuple #[szV (fsz l kind), .int .i64 (ferr l kind)]) ∧ Q W w' := fun v W h => timber_Find l hln kind v W h
    have HB : ∀ (v : Value) (W : World), SzSl W v l.reverse → Calls Tryz.prog 19 #[v, .int .i64 kind] W fun e w' => e = .returned (.tuple #[szV (fsz l kind), .int .i64 (ferr l kind)]) ∧ Q W w' := fun v W h => by
      have := timber_Find l.reverse hl2 kind v W h
      rw [fsz_reverse, ferr_reverse] at this
      exact this
    generalize fsz l kind = x at R HF HB
    generalize ferr l kind = fe at HF HB
    obtain ⟨xk, xw, xd⟩ := x
    unfold szV at R HF HB
    simp only at R HF HB
    have HF := Lib.hid HF
    have HB := Lib.hid HB
    have HL := Lib.hid hl
    have hfe : (fe == fe) = true := by simp
    go_enter Tryz.func5, Tryz.ntmps5
    go_wp2_with fail
    refine HG.out.mono ?_
    rintro e w1 ⟨rfl, rfl⟩
    go_wp2_with fail
    refine (clone_size l hl1 v _ HL.out).mono ?_
    rintro e w1 ⟨vb, rfl, hQ1, hO1⟩
    go_wp2_with fail
    refine (reverse_size l hl1 w.heap.size vb _ hO1 hQ1.size).mono ?_
    rintro e w2 ⟨rfl, hq2, hR2⟩
    have hQ2 := hQ1.trans hq2
    clear hq2 hO1
    have hA2 := HL.out.keep hQ2
    go_wp2_with fail
    refine (HF.out v _ hA2).mono ?_
    rintro e w3 ⟨rfl, hq3⟩
    have hQ3 := hQ2.trans (hq3.mono hQ2.size)
    have hR3 := hR2.keep hq3
    clear hR2 hq3 hA2
    go_wp2_with fail
    have BT := Blk.new w3 [.int .i64 xk, .int .i64 xw, .int .i64 xd] 35
    have hq3a : Q w3 (w3.alloc (.cells [.int .i64 xk, .int .i64 xw, .int .i64 xd].toArray 35)) := (Below.refl _ _).alloc (Nat.le_refl _) _
    have hQ3a := hQ3.trans (hq3a.mono hQ3.size)
    have hR3a := hR3.keep hq3a
    refine (HB.out vb _ hR3a).mono ?_
    rintro e w4 ⟨rfl, hq4⟩
    have hQ4 := hQ3a.trans (hq4.mono hQ3a.size)
    have hR4 := hR3a.keep hq4
    have BT4 := BT.keep hq4 BT.lt
    clear hR3 hR3a hq4 hQ3a hq3a BT hQ3
    have l4 := BT4.lt
    have BU := Blk.new w4 [.int .i64 xk, .int .i64 xw, .int .i64 xd] 35
    have hq4a : Q w4 (w4.alloc (.cells [.int .i64 xk, .int .i64 xw, .int .i64 xd].toArray 35)) := (Below.refl _ _).alloc (Nat.le_refl _) _
    have hQ5 := hQ4.trans (hq4a.mono hQ4.size)
    have hR5 := hR4.keep hq4a
    have BT5 := BT4.keep hq4a l4
    clear hR4 hq4a BT4 hQ4
    have C1 := timber_Check l hln v _ (HL.out.keep hQ5)
    have C2 := timber_Check l.reverse hl2 vb
    by_cases hs : scheck l [] = 0
    · have hs2 := (scheck_reverse l).2 hs
      rw [hs] at C1
      rw [hs2] at C2
      have C1 := Lib.hid C1
      have C2 := Lib.hid C2
      clear hs hs2
      go_wp2_with fail
      refine C1.out.mono ?_
      rintro e w6 ⟨rfl, hq6⟩
      have hQ6 := hQ5.trans (hq6.mono hQ5.size)
      have hR6 := hR5.keep hq6
      have BT6 := BT5.keep hq6 (by simp; omega)
      have BU6 := BU.keep hq6 (by simp)
      clear hQ5 hR5 BT5 BU hq6
      go_wp2_with fail
      refine (C2.out _ hR6).mono ?_
      rintro e w7 ⟨rfl, hq7⟩
      have hQ7 := hQ6.trans (hq7.mono hQ6.size)
      have BT7 := BT6.keep hq7 BT6.lt
      have BU7 := BU6.keep hq7 BU6.lt
      clear hQ6 hR6 BT6 BU6 hq7
      have d0 := BT7.cell 0
      have d1 := BT7.cell 1
      have d2 := BT7.cell 2
      have e0 := BU7.cell 0
      have e1 := BU7.cell 1
      have e2 := BU7.cell 2
      simp only [List.getElem?_cons_zero, List.getElem?_cons_succ] at d0 d1 d2 e0 e1 e2
      go_wp2_with fail
      refine (awake_any _ (hE.q hQ7)).mono ?_
      rintro e w8 ⟨rfl, hq8⟩
      go_wp2
      go_ret
      exact ⟨rfl, hQ7.trans (hq8.mono hQ7.size)⟩
    · have hs2 : scheck l.reverse [] ≠ 0 := fun h => hs ((scheck_reverse l).1 h)
      have b1 : (scheck l [] == 0) = false := by rw [beq_eq_false_iff_ne]; exact hs
      have b2 : (scheck l.reverse [] == 0) = false := by rw [beq_eq_false_iff_ne]; exact hs2
      clear hs hs2
      generalize scheck l [] = x1 at C1 b1
      generalize scheck l.reverse [] = x2 at C2 b2
      have C1 := Lib.hid C1
      have C2 := Lib.hid C2
      go_wp2_with fail
      refine C1.out.mono ?_
      rintro e w6 ⟨rfl, hq6⟩
      have hQ6 := hQ5.trans (hq6.mono hQ5.size)
      have hR6 := hR5.keep hq6
      have BT6 := BT5.keep hq6 (by simp; omega)
      have BU6 := BU.keep hq6 (by simp)
      clear hQ5 hR5 BT5 BU hq6
      go_wp2_with fail
      refine (C2.out _ hR6).mono ?_
      rintro e w7 ⟨rfl, hq7⟩
      have hQ7 := hQ6.trans (hq7.mono hQ6.size)
      have BT7 := BT6.keep hq7 BT6.lt
      have BU7 := BU6.keep hq7 BU6.lt
      clear hQ6 hR6 BT6 BU6 hq7
      have d0 := BT7.cell 0
      have d1 := BT7.cell 1
      have d2 := BT7.cell 2
      have e0 := BU7.cell 0
      have e1 := BU7.cell 1
      have e2 := BU7.cell 2
      simp only [List.getElem?_cons_zero, List.getElem?_cons_succ] at d0 d1 d2 e0 e1 e2
      go_wp2_with fail
      refine (awake_any _ (hE.q hQ7)).mono ?_
      rintro e w8 ⟨rfl, hq8⟩
      go_wp2
      go_ret
      exact ⟨rfl, hQ7.trans (hq8.mono hQ7.size)⟩

end Go.Proofs.YtgkikkabmcihhaaGreatDoor
