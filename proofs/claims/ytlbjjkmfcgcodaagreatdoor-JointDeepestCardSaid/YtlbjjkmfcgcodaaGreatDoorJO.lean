/-
  Walk of the chapter's awake.
-/
import Derived.Test.YtlbjjkmfcgcodaaGreatDoorG20
namespace Go.Proofs.YtlbjjkmfcgcodaaGreatDoor
open Go.RowKit Go.Shelf Kp
attribute [local go_sem] Oper.semAt_some
theorem r0_ok : planE [r0] = 0 := by kernel_rfl
theorem m0_ok : hipE m0 = 0 := by kernel_rfl
theorem m0_short : m0.short := ⟨by decide, by decide, by decide, by decide, by decide, by decide⟩
theorem m0_low : lowF [r0] m0 = 0 := by kernel_rfl
theorem m0_high : highF [r0] m0 = 40 := by kernel_rfl
theorem raf0_ok : RafPre [r0] m0 0 where
  hip := m0_ok
  face := rfl
  lt := by decide
  gable := rfl
theorem raf0_E : ofE [r0] m0 = 0 := by
  unfold ofE
  rw [m0_low, m0_high]
  decide
def x0R : Raf := ⟨45, 3/4, 40, 8⟩
theorem raf0_is : rafOf [r0] m0 = x0R := by
  unfold rafOf x0R
  rw [m0_high]
  congr 1
  kernel_rfl
theorem x0_bd : RafBd x0R where
  d1 := by decide
  d2 := by decide
  p := ⟨by rw [show x0R.pitch.num = 3 from by kernel_rfl]; decide, by rw [show x0R.pitch.den = 4 from by kernel_rfl]; decide⟩
  p0 := by rw [show x0R.pitch.num = 3 from by kernel_rfl]; decide
  r := ⟨by rw [show x0R.run.num = 40 from by kernel_rfl]; decide, by rw [show x0R.run.den = 1 from by kernel_rfl]; decide⟩
  o := by decide
theorem x0_room : x0R.run - (x0R.over : Rat) = 32 := by kernel_rfl
theorem of_example (ro : Ro) (w : World) (hv : RgSl w ro.p.v [r0]) : OfC w ro m0 x0R := fun W hW hq => by
  obtain ⟨⟨a0, n0, c0⟩, ⟨a1, n1, c1⟩, ⟨a2, n2, c2⟩, ⟨a3, n3, c3⟩⟩ := ro
  have := joint_of [r0] r0_ok (by decide) m0 m0_short 0 raf0_ok (by decide) (.slice a0 n0 c0) a1 a2 a3 n1 n2 n3 c1 c2 c3 W hW (hv.keep hq)
  unfold ofV at this
  rw [raf0_E, if_pos rfl, raf0_is] at this
  exact this
theorem s57625 : Small8 (576/25) := small_of (n := 576) (d := 25) (by kernel_rfl) (by kernel_rfl) (by decide)
theorem s1445 : Small8 (576/25 * (5/4)) := small_of (n := 144) (d := 5) (by kernel_rfl) (by kernel_rfl) (by decide)
theorem v1445 : (576/25 * (5/4) : Rat) = 144/5 := by kernel_rfl
theorem make_left (b : Nat) (t : TypeId) (w : World) (hE : Env w) (hb : Blk w b [.string ⟨(rstr (576/25)).toArray⟩, .string ⟨(rstr (25/16)).toArray⟩] t) :
    Calls Tryz.prog 50 #[.slice (some ⟨b, 0, none⟩) 1 1] w fun e w' => ∃ v, e = .returned (.tuple #[v, .int .i64 0]) ∧ Q w w' ∧
      w'.ownsRow w.heap.size 83 2 v 1 [.string ⟨#[49, 52, 52, 47, 53]⟩, .string ⟨#[49]⟩] := by
  have h := surd_Make_one (576/25) (25/16) (5/4) 1 s57625 s2516 (num_pos 25 (by kernel_rfl) (by decide)) (num_ne 576 0 (by kernel_rfl) (by kernel_rfl) (by decide)) (num_ne 25 1 (by kernel_rfl) (by kernel_rfl) (by decide))
    (by rw [m2516, normM_400, d16]; exact v54) (by rw [m2516, normM_400]) s54 s1 s1445 (num_ne 144 0 (by kernel_rfl) (by kernel_rfl) (by decide)) b t w hE hb
  rw [v1445, v1, show rstr (144/5 : Rat) = [49, 52, 52, 47, 53] from by kernel_rfl, show rstr (1 : Rat) = [49] from by kernel_rfl] at h
  exact h
set_option maxRecDepth 100000 in
set_option maxHeartbeats 4000000 in
theorem awake35 (w : World) (hE : Env w) : Calls Tryz.prog 8 #[] w fun e w' => e = .returned (.bool true) ∧ Q w w' := by
  have hn : NotchOk x0R 12 := ⟨⟨by decide, by decide⟩, by decide, by rw [x0_room]; decide⟩
  have HB : Hid (∀ ro w, Env w → RgSl w ro.p.v [r0] → Calls Tryz.prog 9 #[.agg (roC ro).toArray, .agg (mbC m0).toArray, .int .i64 12] w fun e w' => e = .returned (.tuple #[.agg #[.string ⟨#[56]⟩, .string ⟨#[49, 50]⟩, .string ⟨#[57]⟩], .int .i64 0]) ∧ Q w w') := Lib.hid (fun ro w hw hv => by
    have := joint_Birdsmouth ro m0 x0R x0_bd 12 (by decide) (by decide) (by rw [x0_room]; decide) w hw (of_example ro w hv)
    rw [show rstr (x0R.over : Rat) = [56] from by kernel_rfl, show rstr ((12 : Int) : Rat) = [49, 50] from by kernel_rfl, show rstr (((12 : Int) : Rat) * x0R.pitch) = [57] from by kernel_rfl] at this
    exact this)
  have HL : Hid (∀ ro w, Env w → RgSl w ro.p.v [r0] → Calls Tryz.prog 18 #[.agg (roC ro).toArray, .agg (mbC m0).toArray, .agg #[.string ⟨#[56]⟩, .string ⟨#[49, 50]⟩, .string ⟨#[57]⟩]] w fun e w' => ∃ v, e = .returned (.tuple #[v, .int .i64 0]) ∧ Q w w' ∧ w'.ownsRow w.heap.size 83 2 v 1 [.string ⟨#[49, 52, 52, 47, 53]⟩, .string ⟨#[49]⟩]) := Lib.hid (fun ro w hw hv => by
    have := joint_Left ro m0 x0R x0_bd 12 hn (25/16) (576/25) (by kernel_rfl) (by rw [show (25/16 : Rat).num = 25 from by kernel_rfl]; decide) (by kernel_rfl) _ make_left w hw (of_example ro w hv)
    rw [show rstr (x0R.over : Rat) = [56] from by kernel_rfl, show rstr (12 : Rat) = [49, 50] from by kernel_rfl, show rstr ((12 : Rat) * x0R.pitch) = [57] from by kernel_rfl] at this
    exact this)
  have HD : Hid (∀ ro w, Env w → RgSl w ro.p.v [r0] → Calls Tryz.prog 12 #[.agg (roC ro).toArray, .agg (mbC m0).toArray] w fun e w' => e = .returned (.tuple #[.string ⟨#[50, 48]⟩, .int .i64 0]) ∧ Q w w') := Lib.hid (fun ro w hw hv => by
    have := joint_Deepest ro m0 x0R x0_bd 20 20 (by kernel_rfl) ⟨by decide, by decide⟩ (by rw [x0_room, if_neg (by decide)]) w hw (of_example ro w hv)
    rw [show rstr (20 : Rat) = [50, 48] from by kernel_rfl] at this
    exact this)
  have HX := Lib.hid (fun w => law_example w)
  go_enter Tryz.func8, Tryz.ntmps8
  go_wp2_with fail
  refine (HX.out w).mono ?_
  rintro e w1 ⟨ro, rfl, hv, hq1⟩
  have HBr := Lib.hid (HB.out ro)
  have HLr := Lib.hid (HL.out ro)
  have HDr := Lib.hid (HD.out ro)
  clear HX HB HL HD
  obtain ⟨⟨a0, n0, c0⟩, ⟨a1, n1, c1⟩, ⟨a2, n2, c2⟩, ⟨a3, n3, c3⟩⟩ := ro
  unfold roC Sl3.v mbC m0 at *
  simp only at HBr HLr HDr hv ⊢
  obtain ⟨W2, hW2⟩ : ∃ W2, (w1.alloc (.cells #[.slice a0 n0 c0, .slice a1 n1 c1, .slice a2 n2 c2, .slice a3 n3 c3] 29)).alloc (.cells #[.int .i64 1, .int .i64 0, .int .i64 (-1), .string ⟨#[49, 48]⟩, .string ⟨#[48]⟩, .string ⟨#[48]⟩, .string ⟨#[49, 48]⟩, .string ⟨#[52, 48]⟩, .string ⟨#[51, 48]⟩, .int .i64 6, .int .i64 45] 34) = W2 := ⟨_, rfl⟩
  have BR : Blk W2 w1.heap.size [.slice a0 n0 c0, .slice a1 n1 c1, .slice a2 n2 c2, .slice a3 n3 c3] 29 := by rw [← hW2]; exact (Blk.new w1 _ _).alloc _
  have BM : Blk W2 (w1.heap.size + 1) [.int .i64 1, .int .i64 0, .int .i64 (-1), .string ⟨#[49, 48]⟩, .string ⟨#[48]⟩, .string ⟨#[48]⟩, .string ⟨#[49, 48]⟩, .string ⟨#[52, 48]⟩, .string ⟨#[51, 48]⟩, .int .i64 6, .int .i64 45] 34 := by rw [← hW2]; exact Blk.new1 w1 _ _ _
  have hqW : Q w1 W2 := by rw [← hW2]; exact bt
  have hv2 := hv.keep hqW
  have hwW : Q w W2 := Q.trans hq1 hqW
  have hE2 := hE.ofQ hwW
  clear hE
  have hE := hE2
  clear hE2 hv
  have hQ0 := Q.refl W2
  replace r0 := BR.cell 0
  replace r1 := BR.cell 1
  replace r2 := BR.cell 2
  replace r3 := BR.cell 3
  simp only [List.getElem?_cons_zero, List.getElem?_cons_succ] at r0 r1 r2 r3
  replace lBR := BR.lt
  replace m0 := BM.cell 0
  replace m1 := BM.cell 1
  replace m2 := BM.cell 2
  replace m3 := BM.cell 3
  replace m4 := BM.cell 4
  replace m5 := BM.cell 5
  replace m6 := BM.cell 6
  replace m7 := BM.cell 7
  replace m8 := BM.cell 8
  replace m9 := BM.cell 9
  replace m10 := BM.cell 10
  simp only [List.getElem?_cons_zero, List.getElem?_cons_succ] at m0 m1 m2 m3 m4 m5 m6 m7 m8 m9 m10
  replace lBM := BM.lt
  go_wp2_with fail
  clear hW2
  refine (HBr.out _ hE hv2).mono ?_
  rintro e Z1 ⟨rfl, hz1⟩
  replace BR := BR.keep hz1 BR.lt
  replace BM := BM.keep hz1 BM.lt
  have hv3 := hv2.keep hz1
  obtain ⟨W3, hW3⟩ : ∃ W3, Z1.alloc (.cells #[.string ⟨#[56]⟩, .string ⟨#[49, 50]⟩, .string ⟨#[57]⟩] 41) = W3 := ⟨_, rfl⟩
  have N : Blk W3 Z1.heap.size [.string ⟨#[56]⟩, .string ⟨#[49, 50]⟩, .string ⟨#[57]⟩] 41 := by rw [← hW3]; exact Blk.new Z1 _ _
  have hqV : Q Z1 W3 := by rw [← hW3]; exact bt
  have hv4 := hv3.keep hqV
  have hwV : Q w W3 := Q.trans hwW (Q.trans hz1 hqV)
  have hE3 := hE.ofQ (Q.trans hz1 hqV)
  clear hE hv2 hv3 HBr
  have hE := hE3
  clear hE3
  replace BR := BR.keep hqV BR.lt
  replace BM := BM.keep hqV BM.lt
  have hQ0 := Q.refl W3
  replace r0 := BR.cell 0
  replace r1 := BR.cell 1
  replace r2 := BR.cell 2
  replace r3 := BR.cell 3
  simp only [List.getElem?_cons_zero, List.getElem?_cons_succ] at r0 r1 r2 r3
  replace lBR := BR.lt
  replace m0 := BM.cell 0
  replace m1 := BM.cell 1
  replace m2 := BM.cell 2
  replace m3 := BM.cell 3
  replace m4 := BM.cell 4
  replace m5 := BM.cell 5
  replace m6 := BM.cell 6
  replace m7 := BM.cell 7
  replace m8 := BM.cell 8
  replace m9 := BM.cell 9
  replace m10 := BM.cell 10
  simp only [List.getElem?_cons_zero, List.getElem?_cons_succ] at m0 m1 m2 m3 m4 m5 m6 m7 m8 m9 m10
  replace lBM := BM.lt
  replace n0 := N.cell 0
  replace n1 := N.cell 1
  replace n2 := N.cell 2
  simp only [List.getElem?_cons_zero, List.getElem?_cons_succ] at n0 n1 n2
  replace lN := N.lt
  go_wp2_with fail
  clear hW3
  refine (HLr.out _ hE hv4).mono ?_
  rintro e V1 ⟨v, rfl, hu1, hown⟩
  obtain ⟨g, cp, rfl⟩ := row_pos hown (by decide)
  have hv5 := hv4.keep hu1
  replace BR := BR.keep hu1 BR.lt
  replace BM := BM.keep hu1 BM.lt
  replace N := N.keep hu1 N.lt
  have hE4 := hE.ofQ hu1
  have hwU : Q w V1 := Q.trans hwV hu1
  clear hE hv4 HLr
  have hE := hE4
  clear hE4
  have hQ0 := Q.refl V1
  replace r0 := BR.cell 0
  replace r1 := BR.cell 1
  replace r2 := BR.cell 2
  replace r3 := BR.cell 3
  simp only [List.getElem?_cons_zero, List.getElem?_cons_succ] at r0 r1 r2 r3
  replace lBR := BR.lt
  replace m0 := BM.cell 0
  replace m1 := BM.cell 1
  replace m2 := BM.cell 2
  replace m3 := BM.cell 3
  replace m4 := BM.cell 4
  replace m5 := BM.cell 5
  replace m6 := BM.cell 6
  replace m7 := BM.cell 7
  replace m8 := BM.cell 8
  replace m9 := BM.cell 9
  replace m10 := BM.cell 10
  simp only [List.getElem?_cons_zero, List.getElem?_cons_succ] at m0 m1 m2 m3 m4 m5 m6 m7 m8 m9 m10
  replace lBM := BM.lt
  replace n0 := N.cell 0
  replace n1 := N.cell 1
  replace n2 := N.cell 2
  simp only [List.getElem?_cons_zero, List.getElem?_cons_succ] at n0 n1 n2
  replace lN := N.lt
  go_wp2_with fail
  refine (HDr.out _ hE hv5).mono ?_
  rintro e U1 ⟨rfl, hu2⟩
  have hown2 := ownsRow_keep hown hu2
  have S := Blk.new U1 [.string ⟨#[49, 52, 52, 47, 53]⟩, .string ⟨#[49]⟩] 83
  have hqS : Q U1 (U1.alloc (.cells ([.string ⟨#[49, 52, 52, 47, 53]⟩, .string ⟨#[49]⟩] : List Value).toArray 83)) := (Below.refl _ U1).alloc (Nat.le_refl _) _
  have hown3 := ownsRow_keep hown2 hqS
  have s0 := hown3.cells rfl 0 _ rfl
  have s1 := hown3.cells rfl 1 _ rfl
  rw [Addr.add_lit] at s0 s1
  have HS := Lib.hid (ref04_Same_one g U1.heap.size cp 1 [49, 52, 52, 47, 53] [49] _ s0 s1 (S.cell 0) (S.cell 1))
  replace N := N.keep hu2 N.lt
  have n0 := N.cell 0
  have n1 := N.cell 1
  have n2 := N.cell 2
  simp only [List.getElem?_cons_zero, List.getElem?_cons_succ] at n0 n1 n2
  have lN := N.lt
  have hQe : Q w (U1.alloc (.cells ([.string ⟨#[49, 52, 52, 47, 53]⟩, .string ⟨#[49]⟩] : List Value).toArray 83)) := Q.trans hwU (Q.trans hu2 hqS)
  clear hown hown2 hown3 HDr hv5 BR BM
  go_wp2_with fail
  refine HS.out.mono ?_
  rintro e Ue ⟨rfl, k, rfl⟩
  have hQf := Q.trans hQe (Below.drewN (Q.refl _) k)
  go_wp2
  go_ret
  exact ⟨rfl, hQf⟩
end Go.Proofs.YtlbjjkmfcgcodaaGreatDoor
