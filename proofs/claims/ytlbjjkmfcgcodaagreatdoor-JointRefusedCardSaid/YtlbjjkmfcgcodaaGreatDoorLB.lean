/-
  The law of birdsmouths: its walk.
-/
import Derived.Test.YtlbjjkmfcgcodaaGreatDoorG19
import Derived.Test.YtlbjjkmfcgcodaaGreatDoorJO
namespace Go.Proofs.YtlbjjkmfcgcodaaGreatDoor
open Go.RowKit Go.Shelf Kp
attribute [local go_sem] Oper.semAt_some
theorem heel_rise {q a u : Int} (hu : 0 < u) : (q : Rat) * Rat.divInt a u * (u : Rat) = (q : Rat) * (a : Rat) := by
  have h : (u : Rat) ≠ 0 := by
    intro h
    have : u = 0 := by exact_mod_cast h
    omega
  rw [Rat.divInt_eq_div]
  grind
set_option maxRecDepth 100000 in
set_option maxHeartbeats 8000000 in
theorem birds_law (ro : Ro) (R : List (List Sd)) (hn : R.length ≤ 8796093022208) (hln : ∀ r ∈ R, r.length ≤ 8796093022208) (m : Mb) (u : Int) (u0 : 0 ≤ u) (u1 : u < 256) (w : World) (hE : Env w) (hv : RgSl w ro.p.v R) :
    Calls Tryz.prog 3 #[.agg (roC ro).toArray, .agg (mbC m).toArray, .int .u8 u] w fun e w' => e = .returned (.bool true) ∧ Q w w' := by
  have HAw := Lib.hid (fun w hw => awake35 w hw)
  have HV := Lib.hid hv
  have HS : Hid (∀ W, Env W → Q w W → Calls Tryz.prog 7 #[.agg (roC ro).toArray, .agg (mbC m).toArray] W fun e w' => ∃ (s : Sd) (X Y : Str) (ok : Bool), e = .returned (.tuple #[.agg (sdC s).toArray, .string ⟨X.toArray⟩, .string ⟨Y.toArray⟩, .bool ok]) ∧ Q W w' ∧ (ok = true → ∃ n, SideOk R m n s X Y)) := Lib.hid (fun W hW hq => law_side ro R hn hln m W hW (hv.keep hq))
  have HB : Hid (∀ n s X Y, SideOk R m n s X Y → ∀ W, Env W → Q w W → Calls Tryz.prog 9 #[.agg (roC ro).toArray, .agg (mbC m).toArray, .int .i64 (1 + u)] W fun e w' => e = .returned (.tuple #[.agg (birdV R m (1 + u)).toArray, .int .i64 (birdE R m (1 + u))]) ∧ Q W w') := Lib.hid (fun n s X Y h W hW hq => bird_any h (1 + u) (by omega) (by omega) ro W hW (hv.keep hq))
  clear hn hln hv
  obtain ⟨⟨a0, n0, c0⟩, ⟨a1, n1, c1⟩, ⟨a2, n2, c2⟩, ⟨a3, n3, c3⟩⟩ := ro
  have e : mbC m = [.int .i64 m.kind, .int .i64 m.face, .int .i64 m.other, .string ⟨m.fx.toArray⟩, .string ⟨m.fy.toArray⟩, .string ⟨m.fz.toArray⟩, .string ⟨m.tx.toArray⟩, .string ⟨m.ty.toArray⟩, .string ⟨m.tz.toArray⟩, .int .i64 m.wid, .int .i64 m.dep] := rfl
  obtain ⟨ki, hki⟩ : ∃ x, x = m.kind := ⟨_, rfl⟩
  obtain ⟨fa, hfa⟩ : ∃ x, x = m.face := ⟨_, rfl⟩
  obtain ⟨ot, hot⟩ : ∃ x, x = m.other := ⟨_, rfl⟩
  obtain ⟨fx, hfx⟩ : ∃ x, x = m.fx := ⟨_, rfl⟩
  obtain ⟨fy, hfy⟩ : ∃ x, x = m.fy := ⟨_, rfl⟩
  obtain ⟨fz, hfz⟩ : ∃ x, x = m.fz := ⟨_, rfl⟩
  obtain ⟨tx, htx⟩ : ∃ x, x = m.tx := ⟨_, rfl⟩
  obtain ⟨ty, hty⟩ : ∃ x, x = m.ty := ⟨_, rfl⟩
  obtain ⟨tz, htz⟩ : ∃ x, x = m.tz := ⟨_, rfl⟩
  obtain ⟨wi, hwi⟩ : ∃ x, x = m.wid := ⟨_, rfl⟩
  obtain ⟨de, hde⟩ : ∃ x, x = m.dep := ⟨_, rfl⟩
  rw [← hki, ← hfa, ← hot, ← hfx, ← hfy, ← hfz, ← htx, ← hty, ← htz, ← hwi, ← hde] at e
  rw [e] at HS HB ⊢
  unfold roC Sl3.v at *
  simp only at HS HB HV ⊢
  clear e hki hfa hot hfx hfy hfz htx hty htz hwi hde
  have BR := (Blk.new w [.slice a0 n0 c0, .slice a1 n1 c1, .slice a2 n2 c2, .slice a3 n3 c3] 29).alloc (.cells #[.int .i64 ki, .int .i64 fa, .int .i64 ot, .string ⟨fx.toArray⟩, .string ⟨fy.toArray⟩, .string ⟨fz.toArray⟩, .string ⟨tx.toArray⟩, .string ⟨ty.toArray⟩, .string ⟨tz.toArray⟩, .int .i64 wi, .int .i64 de] 34)
  have BM0 := Blk.new1 w (.cells #[.slice a0 n0 c0, .slice a1 n1 c1, .slice a2 n2 c2, .slice a3 n3 c3] 29) [.int .i64 ki, .int .i64 fa, .int .i64 ot, .string ⟨fx.toArray⟩, .string ⟨fy.toArray⟩, .string ⟨fz.toArray⟩, .string ⟨tx.toArray⟩, .string ⟨ty.toArray⟩, .string ⟨tz.toArray⟩, .int .i64 wi, .int .i64 de] 34
  obtain ⟨W0, hW0⟩ : ∃ W0, (w.alloc (.cells #[.slice a0 n0 c0, .slice a1 n1 c1, .slice a2 n2 c2, .slice a3 n3 c3] 29)).alloc (.cells #[.int .i64 ki, .int .i64 fa, .int .i64 ot, .string ⟨fx.toArray⟩, .string ⟨fy.toArray⟩, .string ⟨fz.toArray⟩, .string ⟨tx.toArray⟩, .string ⟨ty.toArray⟩, .string ⟨tz.toArray⟩, .int .i64 wi, .int .i64 de] 34) = W0 := ⟨_, rfl⟩
  have hq0 : Q w W0 := by rw [← hW0]; exact bt
  have hEw := hE.ofQ hq0
  rw [hW0] at BR
  have BM : Blk W0 (w.heap.size + 1) [.int .i64 ki, .int .i64 fa, .int .i64 ot, .string ⟨fx.toArray⟩, .string ⟨fy.toArray⟩, .string ⟨fz.toArray⟩, .string ⟨tx.toArray⟩, .string ⟨ty.toArray⟩, .string ⟨tz.toArray⟩, .int .i64 wi, .int .i64 de] 34 := by rw [← hW0]; exact BM0
  clear hE BM0
  have hE := hEw
  clear hEw
  have hQ0 := Q.refl W0
  replace r0 := BR.cell 0
  replace r1 := BR.cell 1
  replace r2 := BR.cell 2
  replace r3 := BR.cell 3
  simp only [List.getElem?_cons_zero, List.getElem?_cons_succ] at r0 r1 r2 r3
  replace lBR := BR.lt
  replace m0 := BM.cell 0
  replace m1 := BM.cell 1
  replace m2 := BM.cell 2
  replace m3 := BM.cell 3
  replace m4 := BM.cell 4
  replace m5 := BM.cell 5
  replace m6 := BM.cell 6
  replace m7 := BM.cell 7
  replace m8 := BM.cell 8
  replace m9 := BM.cell 9
  replace m10 := BM.cell 10
  simp only [List.getElem?_cons_zero, List.getElem?_cons_succ] at m0 m1 m2 m3 m4 m5 m6 m7 m8 m9 m10
  replace lBM := BM.lt
  go_enter Tryz.func3, Tryz.ntmps3
  go_wp2_with fail
  clear hW0
  go_wp2_with fail
  refine (HS.out _ (hE.ofQ bt) hq0).mono ?_
  rintro e Y1 ⟨s, X, Y, ok, rfl, hq1, hok⟩
  have hs1 : Q W0 Y1 := Q.trans bt hq1
  have hQ1 : Q W0 Y1 := Q.trans hQ0 hs1
  replace BR := BR.keep hs1 BR.lt
  replace r0 := BR.cell 0
  replace r1 := BR.cell 1
  replace r2 := BR.cell 2
  replace r3 := BR.cell 3
  simp only [List.getElem?_cons_zero, List.getElem?_cons_succ] at r0 r1 r2 r3
  replace lBR := BR.lt
  replace BM := BM.keep hs1 BM.lt
  replace m0 := BM.cell 0
  replace m1 := BM.cell 1
  replace m2 := BM.cell 2
  replace m3 := BM.cell 3
  replace m4 := BM.cell 4
  replace m5 := BM.cell 5
  replace m6 := BM.cell 6
  replace m7 := BM.cell 7
  replace m8 := BM.cell 8
  replace m9 := BM.cell 9
  replace m10 := BM.cell 10
  simp only [List.getElem?_cons_zero, List.getElem?_cons_succ] at m0 m1 m2 m3 m4 m5 m6 m7 m8 m9 m10
  replace lBM := BM.lt
  clear HS
  have HOK := Lib.hid hok
  clear hok
  have BS := Blk.new Y1 [.int .i64 0, .int .i64 0, .int .i64 0, .int .i64 0, .bool false, .int .i64 0, .int .i64 0] 36
  have hqS : Q Y1 ((Y1.alloc (.cells ([.int .i64 0, .int .i64 0, .int .i64 0, .int .i64 0, .bool false, .int .i64 0, .int .i64 0] : List Value).toArray 36)).setRow Y1.heap.size (sdC s).toArray) := below_setRow ((Below.refl _ Y1).alloc (Nat.le_refl _) _) (Nat.le_refl _) _
  have BSs : Blk ((Y1.alloc (.cells ([.int .i64 0, .int .i64 0, .int .i64 0, .int .i64 0, .bool false, .int .i64 0, .int .i64 0] : List Value).toArray 36)).setRow Y1.heap.size (sdC s).toArray) Y1.heap.size (sdC s) 36 := setRow_heap _ _ _ _ _ _ BS
  have hs7 : ∀ v ∈ sdC s, v.oneCell' = true := fun v hv => sdC_one (r := [s]) v (by unfold rowOf; simpa using hv)
  have hl7 : (sdC s).length = 7 := rfl
  obtain ⟨W2, hW2⟩ : ∃ W2, (Y1.alloc (.cells ([.int .i64 0, .int .i64 0, .int .i64 0, .int .i64 0, .bool false, .int .i64 0, .int .i64 0] : List Value).toArray 36)).setRow Y1.heap.size (sdC s).toArray = W2 := ⟨_, rfl⟩
  rw [hW2] at hqS BSs
  have hw2 : Q w W2 := Q.trans hq0 (Q.trans hQ1 hqS)
  have hE2 := hE.ofQ (Q.trans hQ1 hqS)
  replace BR := BR.keep hqS BR.lt
  replace BM := BM.keep hqS BM.lt
  clear hE
  have hE := hE2
  clear hE2 r0 r1 r2 r3 m0 m1 m2 m3 m4 m5 m6 m7 m8 m9 m10 lBR lBM
  cases ok
  case false =>
    clear HOK HB HV BR BM
    go_wp2_with (refine wpList_store_blk rfl 36 _ _ rfl Y1.heap.size BS (sdC s) rfl rfl rfl (by kernel_rfl) hs7 ?_; rw [hW2])
    clear hW2
    refine (HAw.out _ hE).mono ?_
    rintro e we ⟨rfl, hqe⟩
    have hQe := Q.trans hw2 hqe
    go_wp2
    go_ret
    exact ⟨rfl, hQe⟩
  obtain ⟨n, ho⟩ := HOK.out rfl
  have hrg := ho.rg
  have hrn := hrg.n ho.ng
  have HB1 := Lib.hid (HB.out n s X Y ho)
  have hbd := ho.bd
  have hxo : (rafOf R m).over = s.over := by unfold rafOf; rw [ho.face]
  have hxp : (rafOf R m).pitch = Rat.divInt s.rise s.run := by unfold rafOf; rw [ho.face]
  have wc := Go.IntWalk.i64_in u (by omega)
  have wa := Go.IntWalk.i64_in (1 + u) (by omega)
  clear HOK HB
  have hQ0 := Q.refl W2
  replace r0 := BR.cell 0
  replace r1 := BR.cell 1
  replace r2 := BR.cell 2
  replace r3 := BR.cell 3
  simp only [List.getElem?_cons_zero, List.getElem?_cons_succ] at r0 r1 r2 r3
  replace lBR := BR.lt
  replace m0 := BM.cell 0
  replace m1 := BM.cell 1
  replace m2 := BM.cell 2
  replace m3 := BM.cell 3
  replace m4 := BM.cell 4
  replace m5 := BM.cell 5
  replace m6 := BM.cell 6
  replace m7 := BM.cell 7
  replace m8 := BM.cell 8
  replace m9 := BM.cell 9
  replace m10 := BM.cell 10
  simp only [List.getElem?_cons_zero, List.getElem?_cons_succ] at m0 m1 m2 m3 m4 m5 m6 m7 m8 m9 m10
  replace lBM := BM.lt
  by_cases hz : birdE R m (1 + u) = 0
  case neg =>
    unfold birdV at HB1
    rw [if_neg hz] at HB1
    have hzb : (birdE R m (1 + u) != 0) = true := by rw [bne_iff_ne]; exact hz
    generalize birdE R m (1 + u) = E at *
    clear hbd hxo hxp ho hrn hrg
    go_wp2_with (refine wpList_store_blk rfl 36 _ _ rfl Y1.heap.size BS (sdC s) rfl rfl rfl (by kernel_rfl) hs7 ?_; rw [hW2])
    clear hW2
    refine (HB1.out _ hE hw2).mono ?_
    rintro e V1 ⟨rfl, hv1⟩
    have N := Blk.new V1 [.string ⟨#[]⟩, .string ⟨#[]⟩, .string ⟨#[]⟩] 41
    have hqn : Q V1 (V1.alloc (.cells ([.string ⟨#[]⟩, .string ⟨#[]⟩, .string ⟨#[]⟩] : List Value).toArray 41)) := (Below.refl _ V1).alloc (Nat.le_refl _) _
    have hwN := Q.trans hw2 (Q.trans hv1 hqn)
    have hEN := hE.ofQ (Q.trans hv1 hqn)
    clear r0 r1 r2 r3 m0 m1 m2 m3 m4 m5 m6 m7 m8 m9 m10 lBR lBM HB1 BR BM
    go_wp2_with fail
    refine (HAw.out _ hEN).mono ?_
    rintro e we ⟨rfl, hqe⟩
    have hQe := Q.trans hwN hqe
    go_wp2
    go_ret
    exact ⟨rfl, hQe⟩
  unfold birdV at HB1
  rw [if_pos hz, hz, hxo, hxp] at HB1
  have hx0 := hrg.x0
  have ho0 := hrg.o0
  have ho1 := hrg.o1
  have bq : Bd 4 ((1 + u : Int) : Rat) := bd_int (by omega) (by decide)
  have bp : Bd 5 (Rat.divInt s.rise s.run) := by rw [← hxp]; exact hbd.p
  have bu : Bd 2 (s.run : Rat) := bd_int (by omega) (by decide)
  have br : Bd 2 (s.rise : Rat) := bd_int (by omega) (by decide)
  have HN1 := Lib.hid (fun w hw => law_number s.run (by omega) w hw)
  have HN2 := Lib.hid (fun w hw => law_number s.rise (by omega) w hw)
  have HN3 := Lib.hid (fun w hw => law_number s.over (by omega) w hw)
  have HN4 := Lib.hid (fun w hw => law_number (1 + u) (by omega) w hw)
  have HM1 := Lib.hid (fun w hw => rational_Mul_bd (((1 + u : Int) : Rat) * Rat.divInt s.rise s.run) (s.run : Rat) (bq.mul bp) bu (by decide) w hw)
  have HM2 := Lib.hid (fun w hw => rational_Mul_bd ((1 + u : Int) : Rat) (s.rise : Rat) bq br (by decide) w hw)
  rw [heel_rise (by omega)] at HM1
  clear hbd hxo hxp ho hrn hrg bq bp bu br hz hx0 ho0 ho1
  generalize rstr (((1 + u : Int) : Rat) * Rat.divInt s.rise s.run) = HE at *
  generalize rstr (((1 + u : Int) : Rat) * (s.rise : Rat)) = PR at *
  generalize rstr ((1 + u : Int) : Rat) = SQ at *
  generalize rstr (s.over : Rat) = OV at *
  generalize rstr (s.run : Rat) = RU at *
  generalize rstr (s.rise : Rat) = RI at *
  go_wp2_with (refine wpList_store_blk rfl 36 _ _ rfl Y1.heap.size BS (sdC s) rfl rfl rfl (by kernel_rfl) hs7 ?_; rw [hW2])
  clear hW2
  refine (HB1.out _ hE hw2).mono ?_
  rintro e V1 ⟨rfl, hv1⟩
  have N := Blk.new V1 [.string ⟨OV.toArray⟩, .string ⟨SQ.toArray⟩, .string ⟨HE.toArray⟩] 41
  have hqn : Q V1 (V1.alloc (.cells ([.string ⟨OV.toArray⟩, .string ⟨SQ.toArray⟩, .string ⟨HE.toArray⟩] : List Value).toArray 41)) := (Below.refl _ V1).alloc (Nat.le_refl _) _
  obtain ⟨W3, hW3⟩ : ∃ W3, V1.alloc (.cells #[.string ⟨OV.toArray⟩, .string ⟨SQ.toArray⟩, .string ⟨HE.toArray⟩] 41) = W3 := ⟨_, rfl⟩
  have hW3' : V1.alloc (.cells ([.string ⟨OV.toArray⟩, .string ⟨SQ.toArray⟩, .string ⟨HE.toArray⟩] : List Value).toArray 41) = W3 := hW3
  rw [hW3'] at N hqn
  clear hW3'
  have hwN := Q.trans hw2 (Q.trans hv1 hqn)
  have hEN := hE.ofQ (Q.trans hv1 hqn)
  have S := BSs.keep (Q.trans hv1 hqn) BSs.lt
  clear r0 r1 r2 r3 m0 m1 m2 m3 m4 m5 m6 m7 m8 m9 m10 lBR lBM HB1 BR BM hE
  have s2 : W3.cell? ⟨Y1.heap.size, 2, none⟩ = some (.int .i64 s.rise) := S.cell 2
  have s3 : W3.cell? ⟨Y1.heap.size, 3, none⟩ = some (.int .i64 s.run) := S.cell 3
  have s6 : W3.cell? ⟨Y1.heap.size, 6, none⟩ = some (.int .i64 s.over) := S.cell 6
  have n0' := N.cell 0
  have n1' := N.cell 1
  have n2' := N.cell 2
  simp only [List.getElem?_cons_zero, List.getElem?_cons_succ] at n0' n1' n2'
  have hEd : Env W3.drew := hEN.ofQ (Below.drew (Q.refl W3))
  go_wp2_with fail
  clear hW3
  refine wp_steadily 11 rfl (by kernel_rfl) rfl ?_
  refine svp 0 ?_
  refine svq 1 rfl (by intro w' hq; have hc0 := qcell hq n2'; go_simp; try with_reducible rfl) ?_
  refine svp 2 ?_
  refine svq 3 rfl (by intro w' hq; have hc0 := qcell hq s3; go_simp; try with_reducible rfl) ?_
  refine steadily_call (i := 4) (v := _) rfl rfl (by kernel_rfl) (by kernel_rfl) (fun _ _ _ h => h) (by rfl) ?_ (fun w' hq => HN1.out w' (hEd.ofQ hq)) ?_
  · (intro w' hq; go_simp; try with_reducible rfl)
  simp only [Act.put, List.setIfInBounds_toArray, List.set_cons_zero, List.set_cons_succ]
  refine steadily_call (i := 5) (v := _) rfl rfl (by kernel_rfl) (by kernel_rfl) (fun _ _ _ h => h) (by rfl) ?_ (fun w' hq => HM1.out w' (hEd.ofQ hq)) ?_
  · (intro w' hq; go_simp; try with_reducible rfl)
  simp only [Act.put, List.setIfInBounds_toArray, List.set_cons_zero, List.set_cons_succ]
  refine svp 6 ?_
  refine svp 7 ?_
  refine svp 8 ?_
  refine svp 9 ?_
  refine svp 10 ?_
  refine steadily_done (by kernel_rfl) (fun w3 hq3 => ?_)
  simp only [List.drop_succ_cons, List.drop_nil]
  have hqa : Q W3 w3 := Q.trans (Below.drew (Q.refl W3)) hq3
  replace s2 := qcell hqa s2
  replace s6 := qcell hqa s6
  replace n0' := qcell hqa n0'
  replace n1' := qcell hqa n1'
  have hEe : Env w3.drew := hEN.ofQ (Q.trans hqa (Below.drew (Q.refl w3)))
  clear hq3 HN1 HM1 n2' s3 hEd
  go_wp2_with fail
  refine wp_steadily 11 rfl (by kernel_rfl) rfl ?_
  refine svp 0 ?_
  refine svq 1 rfl (by intro w' hq; have hc0 := qcell hq n1'; go_simp; try with_reducible rfl) ?_
  refine svp 2 ?_
  refine svq 3 rfl (by intro w' hq; have hc0 := qcell hq s2; go_simp; try with_reducible rfl) ?_
  refine steadily_call (i := 4) (v := _) rfl rfl (by kernel_rfl) (by kernel_rfl) (fun _ _ _ h => h) (by rfl) ?_ (fun w' hq => HN2.out w' (hEe.ofQ hq)) ?_
  · (intro w' hq; go_simp; try with_reducible rfl)
  simp only [Act.put, List.setIfInBounds_toArray, List.set_cons_zero, List.set_cons_succ]
  refine steadily_call (i := 5) (v := _) rfl rfl (by kernel_rfl) (by kernel_rfl) (fun _ _ _ h => h) (by rfl) ?_ (fun w' hq => HM2.out w' (hEe.ofQ hq)) ?_
  · (intro w' hq; go_simp; try with_reducible rfl)
  simp only [Act.put, List.setIfInBounds_toArray, List.set_cons_zero, List.set_cons_succ]
  refine svp 6 ?_
  refine svp 7 ?_
  refine svp 8 ?_
  refine svp 9 ?_
  refine svp 10 ?_
  refine steadily_done (by kernel_rfl) (fun w5 hq5 => ?_)
  simp only [List.drop_succ_cons, List.drop_nil]
  have hqb : Q w3 w5 := Q.trans (Below.drew (Q.refl w3)) hq5
  replace s6 := qcell hqb s6
  replace n0' := qcell hqb n0'
  replace n1' := qcell hqb n1'
  have hEf : Env w5.drew := hEN.ofQ (Q.trans (Q.trans hqa hqb) (Below.drew (Q.refl w5)))
  clear hq5 HN2 HM2 s2 hEe
  go_wp2_with fail
  refine wp_steadily 32 rfl (by kernel_rfl) rfl ?_
  refine svp 0 ?_
  refine svp 1 ?_
  refine svp 2 ?_
  refine svp 3 ?_
  refine svp 4 ?_
  refine svp 5 ?_
  refine svp 6 ?_
  refine svp 7 ?_
  refine svp 8 ?_
  refine svp 9 ?_
  refine svp 10 ?_
  refine svp 11 ?_
  refine svp 12 ?_
  refine svq 13 rfl (by intro w' hq; have hc0 := qcell hq n0'; go_simp; try with_reducible rfl) ?_
  refine svp 14 ?_
  refine svq 15 rfl (by intro w' hq; have hc0 := qcell hq s6; go_simp; try with_reducible rfl) ?_
  refine steadily_call (i := 16) (v := _) rfl rfl (by kernel_rfl) (by kernel_rfl) (fun _ _ _ h => h) (by rfl) ?_ (fun w' hq => HN3.out w' (hEf.ofQ hq)) ?_
  · (intro w' hq; go_simp; try with_reducible rfl)
  simp only [Act.put, List.setIfInBounds_toArray, List.set_cons_zero, List.set_cons_succ]
  refine svp 17 ?_
  refine svp 18 ?_
  refine svp 19 ?_
  refine svp 20 ?_
  refine svq 21 rfl (by intro w' hq; have hc0 := qcell hq n1'; go_simp; try with_reducible rfl) ?_
  refine svp 22 ?_
  refine svp 23 ?_
  refine svp 24 ?_
  refine steadily_call (i := 25) (v := _) rfl rfl (by kernel_rfl) (by kernel_rfl) (fun _ _ _ h => h) (by rfl) ?_ (fun w' hq => HN4.out w' (hEf.ofQ hq)) ?_
  · (intro w' hq; go_simp; try with_reducible rfl)
  simp only [Act.put, List.setIfInBounds_toArray, List.set_cons_zero, List.set_cons_succ]
  refine svp 26 ?_
  refine svp 27 ?_
  refine svp 28 ?_
  refine steadily_call (i := 29) (v := _) rfl rfl (by kernel_rfl) (by kernel_rfl) (fun _ _ _ h => h) (by rfl) ?_ (fun w' hq => HAw.out w' (hEf.ofQ hq)) ?_
  · (intro w' hq; go_simp; try with_reducible rfl)
  simp only [Act.put, List.setIfInBounds_toArray, List.set_cons_zero, List.set_cons_succ]
  refine svp 30 ?_
  refine svp 31 ?_
  refine steadily_done (by kernel_rfl) (fun w7 hq7 => ?_)
  simp only [List.drop_succ_cons, List.drop_nil]
  have hQe : Q w w7 := Q.trans hwN (Q.trans (Q.trans hqa hqb) (Q.trans (Below.drew (Q.refl w5)) hq7))
  clear hq7
  go_wp2
  go_ret
  exact ⟨rfl, hQe⟩
end Go.Proofs.YtlbjjkmfcgcodaaGreatDoor
