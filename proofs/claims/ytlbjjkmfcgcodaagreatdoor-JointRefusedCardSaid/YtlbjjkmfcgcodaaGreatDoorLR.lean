/-
  The law of refused birdsmouths: its walk.
-/
import Derived.Test.YtlbjjkmfcgcodaaGreatDoorLB
namespace Go.Proofs.YtlbjjkmfcgcodaaGreatDoor
open Go.RowKit Go.Shelf Kp
attribute [local go_sem] Oper.semAt_some
theorem rafOf_run (R : List (List Sd)) (m : Mb) : (rafOf R m).run = highF R m := rfl
theorem noE_low {R : List (List Sd)} {m : Mb} (hk : ¬ 5 < m.kind) (h : lowF R m ≠ 0) : noE R m = 20 := by
  unfold noE ofE
  rw [if_neg hk, if_pos (.inl h)]
theorem noE_far {R : List (List Sd)} {m : Mb} (hk : ¬ 5 < m.kind) (h : highF R m ≤ ((faceS R m).over : Rat)) : noE R m = 20 := by
  unfold noE ofE
  rw [if_neg hk, if_pos (.inr h)]
theorem noE_none {R : List (List Sd)} {m : Mb} (hk : ¬ 5 < m.kind) (h0 : lowF R m = 0) (h : ((faceS R m).over : Rat) < highF R m) : noE R m = 0 := by
  unfold noE ofE
  rw [if_neg hk, if_neg]
  rintro (h1 | h1)
  · exact h1 h0
  · exact absurd h (Rat.not_lt.2 h1)
def wantE (lo : Bool) (far long : Int) : Int := if lo || decide (0 ≤ far) then 20 else if 0 < long then 20 else 0
def wantedE (lo : Bool) (far : Int) : Int := if lo || decide (0 ≤ far) then 20 else 0
theorem refused_math {R : List (List Sd)} {m : Mb} {q : Int} (hk : ¬ 5 < m.kind) :
    noE R m = wantedE (rstr (lowF R m) != [48]) (ordF ((faceS R m).over : Rat) (highF R m)) ∧
    birdE R m q = wantE (rstr (lowF R m) != [48]) (ordF ((faceS R m).over : Rat) (highF R m)) (ordF (((faceS R m).over + q : Int) : Rat) (highF R m)) := by
  unfold wantedE wantE birdE
  by_cases h0 : lowF R m = 0
  · have hb : (rstr (lowF R m) != [48]) = false := by rw [h0, rstr_zero]; rfl
    rw [hb, Bool.false_or]
    by_cases h1 : ((faceS R m).over : Rat) < highF R m
    · have hn := noE_none hk h0 h1
      rw [hn, ordF_lt h1]
      refine ⟨rfl, ?_⟩
      rw [if_neg (fun h => h rfl)]
      have hx : (rafOf R m).over = (faceS R m).over := rfl
      rw [rafOf_run, hx]
      by_cases h2 : highF R m - ((faceS R m).over : Rat) < (q : Rat)
      · rw [if_pos h2, ordF_gt (by rw [Rat.intCast_add]; grind)]
        rfl
      · rw [if_neg h2]
        by_cases h3 : (((faceS R m).over + q : Int) : Rat) < highF R m
        · rw [ordF_lt h3]; rfl
        · have : (((faceS R m).over + q : Int) : Rat) = highF R m := by
            rw [Rat.intCast_add] at *
            have := Rat.not_lt.1 h2
            have := Rat.not_lt.1 h3
            grind
          rw [this, ordF_eq]; rfl
    · have hn := noE_far hk (Rat.not_lt.1 h1)
      rw [hn]
      have ho : 0 ≤ ordF ((faceS R m).over : Rat) (highF R m) := by
        by_cases h2 : highF R m < ((faceS R m).over : Rat)
        · rw [ordF_gt h2]; decide
        · rw [Rat.le_antisymm (Rat.not_lt.1 h2) (Rat.not_lt.1 h1), ordF_eq]; decide
      rw [decide_eq_true ho]
      exact ⟨rfl, rfl⟩
  · have hb : (rstr (lowF R m) != [48]) = true := by
      rw [bne_iff_ne]
      exact fun e => h0 (rstr_inj (by rw [e, rstr_zero]))
    rw [hb, Bool.true_or, noE_low hk h0]
    exact ⟨rfl, rfl⟩
set_option maxRecDepth 100000 in
set_option maxHeartbeats 8000000 in
theorem refused_law (ro : Ro) (R : List (List Sd)) (hn : R.length ≤ 8796093022208) (hln : ∀ r ∈ R, r.length ≤ 8796093022208) (m : Mb) (u : Int) (u0 : 0 ≤ u) (u1 : u < 256) (w : World) (hE : Env w) (hv : RgSl w ro.p.v R) :
    Calls Tryz.prog 4 #[.agg (roC ro).toArray, .agg (mbC m).toArray, .int .u8 u] w fun e w' => e = .returned (.bool true) ∧ Q w w' := by
  have HAw := Lib.hid (fun w hw => awake35 w hw)
  have HV := Lib.hid hv
  have HS : Hid (∀ W, Env W → Q w W → Calls Tryz.prog 7 #[.agg (roC ro).toArray, .agg (mbC m).toArray] W fun e w' => ∃ (s : Sd) (X Y : Str) (ok : Bool), e = .returned (.tuple #[.agg (sdC s).toArray, .string ⟨X.toArray⟩, .string ⟨Y.toArray⟩, .bool ok]) ∧ Q W w' ∧ (ok = true → ∃ n, SideOk R m n s X Y)) := Lib.hid (fun W hW hq => law_side ro R hn hln m W hW (hv.keep hq))
  have HB : Hid (∀ n s X Y, SideOk R m n s X Y → ∀ W, Env W → Q w W → Calls Tryz.prog 9 #[.agg (roC ro).toArray, .agg (mbC m).toArray, .int .i64 (1 + u)] W fun e w' => ∃ x y z : Str, e = .returned (.tuple #[.agg #[.string ⟨x.toArray⟩, .string ⟨y.toArray⟩, .string ⟨z.toArray⟩], .int .i64 (birdE R m (1 + u))]) ∧ Q W w') := Lib.hid (fun n s X Y h W hW hq => (bird_any h (1 + u) (by omega) (by omega) ro W hW (hv.keep hq)).mono (by
    rintro e w' ⟨he, hq⟩
    unfold birdV at he
    split at he
    · exact ⟨_, _, _, he, hq⟩
    · exact ⟨[], [], [], he, hq⟩))
  have HD : Hid (∀ n s X Y, SideOk R m n s X Y → ∀ W, Env W → Q w W → Calls Tryz.prog 12 #[.agg (roC ro).toArray, .agg (mbC m).toArray] W fun e w' => e = .returned (.tuple #[.string ⟨(deepV R m).toArray⟩, .int .i64 (noE R m)]) ∧ Q W w') := Lib.hid (fun n s X Y h W hW hq => deep_any h ro W hW (hv.keep hq))
  have HKI : Hid (m.kind = m.kind) := Lib.hid rfl
  clear hn hln hv
  obtain ⟨⟨a0, n0, c0⟩, ⟨a1, n1, c1⟩, ⟨a2, n2, c2⟩, ⟨a3, n3, c3⟩⟩ := ro
  have e : mbC m = [.int .i64 m.kind, .int .i64 m.face, .int .i64 m.other, .string ⟨m.fx.toArray⟩, .string ⟨m.fy.toArray⟩, .string ⟨m.fz.toArray⟩, .string ⟨m.tx.toArray⟩, .string ⟨m.ty.toArray⟩, .string ⟨m.tz.toArray⟩, .int .i64 m.wid, .int .i64 m.dep] := rfl
  obtain ⟨ki, hki⟩ : ∃ x, x = m.kind := ⟨_, rfl⟩
  have HK := Lib.hid hki
  obtain ⟨fa, hfa⟩ : ∃ x, x = m.face := ⟨_, rfl⟩
  obtain ⟨ot, hot⟩ : ∃ x, x = m.other := ⟨_, rfl⟩
  obtain ⟨fx, hfx⟩ : ∃ x, x = m.fx := ⟨_, rfl⟩
  obtain ⟨fy, hfy⟩ : ∃ x, x = m.fy := ⟨_, rfl⟩
  obtain ⟨fz, hfz⟩ : ∃ x, x = m.fz := ⟨_, rfl⟩
  obtain ⟨tx, htx⟩ : ∃ x, x = m.tx := ⟨_, rfl⟩
  obtain ⟨ty, hty⟩ : ∃ x, x = m.ty := ⟨_, rfl⟩
  obtain ⟨tz, htz⟩ : ∃ x, x = m.tz := ⟨_, rfl⟩
  obtain ⟨wi, hwi⟩ : ∃ x, x = m.wid := ⟨_, rfl⟩
  obtain ⟨de, hde⟩ : ∃ x, x = m.dep := ⟨_, rfl⟩
  rw [← hki, ← hfa, ← hot, ← hfx, ← hfy, ← hfz, ← htx, ← hty, ← htz, ← hwi, ← hde] at e
  rw [e] at HS HB HD ⊢
  unfold roC Sl3.v at *
  simp only at HS HB HD HV ⊢
  clear e hki hfa hot hfx hfy hfz htx hty htz hwi hde
  have BR := (Blk.new w [.slice a0 n0 c0, .slice a1 n1 c1, .slice a2 n2 c2, .slice a3 n3 c3] 29).alloc (.cells #[.int .i64 ki, .int .i64 fa, .int .i64 ot, .string ⟨fx.toArray⟩, .string ⟨fy.toArray⟩, .string ⟨fz.toArray⟩, .string ⟨tx.toArray⟩, .string ⟨ty.toArray⟩, .string ⟨tz.toArray⟩, .int .i64 wi, .int .i64 de] 34)
  have BM0 := Blk.new1 w (.cells #[.slice a0 n0 c0, .slice a1 n1 c1, .slice a2 n2 c2, .slice a3 n3 c3] 29) [.int .i64 ki, .int .i64 fa, .int .i64 ot, .string ⟨fx.toArray⟩, .string ⟨fy.toArray⟩, .string ⟨fz.toArray⟩, .string ⟨tx.toArray⟩, .string ⟨ty.toArray⟩, .string ⟨tz.toArray⟩, .int .i64 wi, .int .i64 de] 34
  obtain ⟨W0, hW0⟩ : ∃ W0, (w.alloc (.cells #[.slice a0 n0 c0, .slice a1 n1 c1, .slice a2 n2 c2, .slice a3 n3 c3] 29)).alloc (.cells #[.int .i64 ki, .int .i64 fa, .int .i64 ot, .string ⟨fx.toArray⟩, .string ⟨fy.toArray⟩, .string ⟨fz.toArray⟩, .string ⟨tx.toArray⟩, .string ⟨ty.toArray⟩, .string ⟨tz.toArray⟩, .int .i64 wi, .int .i64 de] 34) = W0 := ⟨_, rfl⟩
  have hq0 : Q w W0 := by rw [← hW0]; exact bt
  have hEw := hE.ofQ hq0
  rw [hW0] at BR
  have BM : Blk W0 (w.heap.size + 1) [.int .i64 ki, .int .i64 fa, .int .i64 ot, .string ⟨fx.toArray⟩, .string ⟨fy.toArray⟩, .string ⟨fz.toArray⟩, .string ⟨tx.toArray⟩, .string ⟨ty.toArray⟩, .string ⟨tz.toArray⟩, .int .i64 wi, .int .i64 de] 34 := by rw [← hW0]; exact BM0
  clear hE BM0
  have hE := hEw
  clear hEw
  have hQ0 := Q.refl W0
  replace r0 := BR.cell 0
  replace r1 := BR.cell 1
  replace r2 := BR.cell 2
  replace r3 := BR.cell 3
  simp only [List.getElem?_cons_zero, List.getElem?_cons_succ] at r0 r1 r2 r3
  replace lBR := BR.lt
  replace m0 := BM.cell 0
  replace m1 := BM.cell 1
  replace m2 := BM.cell 2
  replace m3 := BM.cell 3
  replace m4 := BM.cell 4
  replace m5 := BM.cell 5
  replace m6 := BM.cell 6
  replace m7 := BM.cell 7
  replace m8 := BM.cell 8
  replace m9 := BM.cell 9
  replace m10 := BM.cell 10
  simp only [List.getElem?_cons_zero, List.getElem?_cons_succ] at m0 m1 m2 m3 m4 m5 m6 m7 m8 m9 m10
  replace lBM := BM.lt
  go_enter Tryz.func4, Tryz.ntmps4
  go_wp2_with fail
  clear hW0
  go_wp2_with fail
  refine (HS.out _ (hE.ofQ bt) hq0).mono ?_
  rintro e Y1 ⟨s, X, Y, ok, rfl, hq1, hok⟩
  have hs1 : Q W0 Y1 := Q.trans bt hq1
  have hQ1 : Q W0 Y1 := Q.trans hQ0 hs1
  replace BR := BR.keep hs1 BR.lt
  replace r0 := BR.cell 0
  replace r1 := BR.cell 1
  replace r2 := BR.cell 2
  replace r3 := BR.cell 3
  simp only [List.getElem?_cons_zero, List.getElem?_cons_succ] at r0 r1 r2 r3
  replace lBR := BR.lt
  replace BM := BM.keep hs1 BM.lt
  replace m0 := BM.cell 0
  replace m1 := BM.cell 1
  replace m2 := BM.cell 2
  replace m3 := BM.cell 3
  replace m4 := BM.cell 4
  replace m5 := BM.cell 5
  replace m6 := BM.cell 6
  replace m7 := BM.cell 7
  replace m8 := BM.cell 8
  replace m9 := BM.cell 9
  replace m10 := BM.cell 10
  simp only [List.getElem?_cons_zero, List.getElem?_cons_succ] at m0 m1 m2 m3 m4 m5 m6 m7 m8 m9 m10
  replace lBM := BM.lt
  clear HS
  have HOK := Lib.hid hok
  clear hok
  have BS := Blk.new Y1 [.int .i64 0, .int .i64 0, .int .i64 0, .int .i64 0, .bool false, .int .i64 0, .int .i64 0] 36
  have hqS : Q Y1 ((Y1.alloc (.cells ([.int .i64 0, .int .i64 0, .int .i64 0, .int .i64 0, .bool false, .int .i64 0, .int .i64 0] : List Value).toArray 36)).setRow Y1.heap.size (sdC s).toArray) := below_setRow ((Below.refl _ Y1).alloc (Nat.le_refl _) _) (Nat.le_refl _) _
  have BSs : Blk ((Y1.alloc (.cells ([.int .i64 0, .int .i64 0, .int .i64 0, .int .i64 0, .bool false, .int .i64 0, .int .i64 0] : List Value).toArray 36)).setRow Y1.heap.size (sdC s).toArray) Y1.heap.size (sdC s) 36 := setRow_heap _ _ _ _ _ _ BS
  have hs7 : ∀ v ∈ sdC s, v.oneCell' = true := fun v hv => sdC_one (r := [s]) v (by unfold rowOf; simpa using hv)
  obtain ⟨W2, hW2⟩ : ∃ W2, (Y1.alloc (.cells ([.int .i64 0, .int .i64 0, .int .i64 0, .int .i64 0, .bool false, .int .i64 0, .int .i64 0] : List Value).toArray 36)).setRow Y1.heap.size (sdC s).toArray = W2 := ⟨_, rfl⟩
  rw [hW2] at hqS BSs
  have hw2 : Q w W2 := Q.trans hq0 (Q.trans hQ1 hqS)
  have hE2 := hE.ofQ (Q.trans hQ1 hqS)
  replace BR := BR.keep hqS BR.lt
  replace BM := BM.keep hqS BM.lt
  clear hE
  have hE := hE2
  clear hE2 r0 r1 r2 r3 m0 m1 m2 m3 m4 m5 m6 m7 m8 m9 m10 lBR lBM HKI
  have hQ0 := Q.refl W2
  replace r0 := BR.cell 0
  replace r1 := BR.cell 1
  replace r2 := BR.cell 2
  replace r3 := BR.cell 3
  simp only [List.getElem?_cons_zero, List.getElem?_cons_succ] at r0 r1 r2 r3
  replace lBR := BR.lt
  replace m0 := BM.cell 0
  replace m1 := BM.cell 1
  replace m2 := BM.cell 2
  replace m3 := BM.cell 3
  replace m4 := BM.cell 4
  replace m5 := BM.cell 5
  replace m6 := BM.cell 6
  replace m7 := BM.cell 7
  replace m8 := BM.cell 8
  replace m9 := BM.cell 9
  replace m10 := BM.cell 10
  simp only [List.getElem?_cons_zero, List.getElem?_cons_succ] at m0 m1 m2 m3 m4 m5 m6 m7 m8 m9 m10
  replace lBM := BM.lt
  have S := BSs
  have s6 : W2.cell? ⟨Y1.heap.size, 6, none⟩ = some (.int .i64 s.over) := S.cell 6
  cases ok
  case false =>
    clear HOK HB HD HV
    go_wp2_with (refine wpList_store_blk rfl 36 _ _ rfl Y1.heap.size BS (sdC s) rfl rfl rfl (by kernel_rfl) hs7 ?_; rw [hW2])
    clear hW2
    refine (HAw.out _ hE).mono ?_
    rintro e we ⟨rfl, hqe⟩
    have hQe := Q.trans hw2 hqe
    go_wp2
    go_ret
    exact ⟨rfl, hQe⟩
  by_cases hk : 5 < ki
  case pos =>
    have hkz : decide ((5 : Int) < ki) = true := by rw [decide_eq_true_eq]; exact hk
    clear HOK HB HD HV
    go_wp2_with (refine wpList_store_blk rfl 36 _ _ rfl Y1.heap.size BS (sdC s) rfl rfl rfl (by kernel_rfl) hs7 ?_; rw [hW2])
    clear hW2
    refine (HAw.out _ hE).mono ?_
    rintro e we ⟨rfl, hqe⟩
    have hQe := Q.trans hw2 hqe
    go_wp2
    go_ret
    exact ⟨rfl, hQe⟩
  have hkz : decide ((5 : Int) < ki) = false := by rw [decide_eq_false_iff_not]; exact hk
  obtain ⟨n, ho⟩ := HOK.out rfl
  have hrg := ho.rg
  have HB1 := Lib.hid (HB.out n s X Y ho)
  have HD1 := Lib.hid (HD.out n s X Y ho)
  have hmath := refused_math (R := R) (m := m) (q := 1 + u) (by rw [← HK.out]; exact hk)
  rw [ho.face, ← ho.low] at hmath
  have hX := ho.low
  have hY := ho.high
  have hx0 := hrg.o0
  have hx1 := hrg.o1
  have wc := Go.IntWalk.i64_in u (by omega)
  have wa := Go.IntWalk.i64_in (1 + u) (by omega)
  have wd := Go.IntWalk.i64_in (s.over + 1) (by omega)
  have we' := Go.IntWalk.i64_in (s.over + 1 + u) (by omega)
  have bl : Bd 6 ((s.over + (1 + u) : Int) : Rat) := bd_int (by omega) (by decide)
  have bo : Bd 6 (s.over : Rat) := bd_int (by omega) (by decide)
  have bh := ho.runs.1
  have HN1 := Lib.hid (fun w hw => law_number (s.over + (1 + u)) (by omega) w hw)
  have HN2 := Lib.hid (fun w hw => law_number s.over (by omega) w hw)
  have HC1 := Lib.hid (fun w hw => rational_Compare ((s.over + (1 + u) : Int) : Rat) (highF R m) (bl.rlim (by decide)) (bh.rlim (by decide)) (lim_bd (cross_lt bl bh) (by decide)) (lim_bd (cross_lt bh bl) (by decide)) w hw)
  have HC2 := Lib.hid (fun w hw => rational_Compare (s.over : Rat) (highF R m) (bo.rlim (by decide)) (bh.rlim (by decide)) (lim_bd (cross_lt bo bh) (by decide)) (lim_bd (cross_lt bh bo) (by decide)) w hw)
  have eo1 : Lib.compareInt (((s.over + (1 + u) : Int) : Rat).num * (highF R m).den) ((highF R m).num * ((s.over + (1 + u) : Int) : Rat).den) = ordF ((s.over + (1 + u) : Int) : Rat) (highF R m) := rfl
  have eo2 : Lib.compareInt ((s.over : Rat).num * (highF R m).den) ((highF R m).num * (s.over : Rat).den) = ordF (s.over : Rat) (highF R m) := rfl
  rw [eo1, ← hY] at HC1
  rw [eo2, ← hY] at HC2
  rw [hmath.1] at HD1
  rw [hmath.2] at HB1
  have we2 : IntKind.i64.wrap (s.over + 1 + u) = s.over + (1 + u) := by rw [we']; omega
  clear HOK HB HD hmath hX hY hrg we' bl bo bh eo1 eo2 ho HK hx0 hx1
  generalize ordF ((s.over + (1 + u) : Int) : Rat) (highF R m) = lg at *
  generalize ordF (s.over : Rat) (highF R m) = fr at *
  generalize rstr ((s.over + (1 + u) : Int) : Rat) = SL at *
  generalize rstr (s.over : Rat) = OV at *
  generalize deepV R m = DV at *
  have hcs : ((X == [48]) = false ∧ wantE (X != [48]) fr lg = 20 ∧ wantedE (X != [48]) fr = 20) ∨ (X = [48] ∧ decide (0 ≤ fr) = true ∧ wantE (X != [48]) fr lg = 20 ∧ wantedE (X != [48]) fr = 20) ∨
      (X = [48] ∧ decide (0 ≤ fr) = false ∧ decide (0 < lg) = true ∧ wantE (X != [48]) fr lg = 20 ∧ wantedE (X != [48]) fr = 0) ∨ (X = [48] ∧ decide (0 ≤ fr) = false ∧ decide (0 < lg) = false ∧ wantE (X != [48]) fr lg = 0 ∧ wantedE (X != [48]) fr = 0) := by
    unfold wantE wantedE
    by_cases h1 : X = [48]
    · subst h1
      by_cases h2 : 0 ≤ fr
      · exact .inr (.inl ⟨rfl, decide_eq_true h2, by simp [h2], by simp [h2]⟩)
      · by_cases h3 : 0 < lg
        · exact .inr (.inr (.inl ⟨rfl, decide_eq_false h2, decide_eq_true h3, by simp [h2, h3], by simp [h2]⟩))
        · exact .inr (.inr (.inr ⟨rfl, decide_eq_false h2, decide_eq_false h3, by simp [h2, h3], by simp [h2]⟩))
    · have hb : (X != [48]) = true := by rw [bne_iff_ne]; exact h1
      exact .inl ⟨by rw [beq_eq_false_iff_ne]; exact h1, by simp [hb], by simp [hb]⟩
  generalize wantE (X != [48]) fr lg = E1 at *
  generalize wantedE (X != [48]) fr = E2 at *
  have hne : (X == [48]) = false → ¬ X = [48] := fun h => by simpa using h
  have hnb : (X == [48]) = false → (X != [48]) = true := fun h => by rw [bne, h]; rfl
  rcases hcs with ⟨hx, rfl, rfl⟩ | ⟨rfl, hf, rfl, rfl⟩ | ⟨rfl, hf, hl, rfl, rfl⟩ | ⟨rfl, hf, hl, rfl, rfl⟩
  all_goals
    try have hx2 := hne hx
    try have hx3 := hnb hx
    clear hne hnb
    go_wp2_with (refine wpList_store_blk rfl 36 _ _ rfl Y1.heap.size BS (sdC s) rfl rfl rfl (by kernel_rfl) hs7 ?_; rw [hW2])
    clear hW2
    refine (HB1.out _ hE hw2).mono ?_
    rintro e V1 ⟨nx, ny, nz, rfl, hv1⟩
    have hqn : Q V1 (V1.alloc (.cells ([.string ⟨nx.toArray⟩, .string ⟨ny.toArray⟩, .string ⟨nz.toArray⟩] : List Value).toArray 41)) := (Below.refl _ V1).alloc (Nat.le_refl _) _
    obtain ⟨W3, hW3⟩ : ∃ W3, V1.alloc (.cells #[.string ⟨nx.toArray⟩, .string ⟨ny.toArray⟩, .string ⟨nz.toArray⟩] 41) = W3 := ⟨_, rfl⟩
    have hW3' : V1.alloc (.cells ([.string ⟨nx.toArray⟩, .string ⟨ny.toArray⟩, .string ⟨nz.toArray⟩] : List Value).toArray 41) = W3 := hW3
    rw [hW3'] at hqn
    clear hW3'
    have hq23 := Q.trans hv1 hqn
    have hwN := Q.trans hw2 hq23
    have hEN := hE.ofQ hq23
    replace S := S.keep hq23 S.lt
    replace BR := BR.keep hq23 BR.lt
    replace BM := BM.keep hq23 BM.lt
    clear r0 r1 r2 r3 m0 m1 m2 m3 m4 m5 m6 m7 m8 m9 m10 lBR lBM HB1 hE s6 hv1 hqn
    have hE := hEN
    have hQ0 := Q.refl W3
    replace r0 := BR.cell 0
    replace r1 := BR.cell 1
    replace r2 := BR.cell 2
    replace r3 := BR.cell 3
    simp only [List.getElem?_cons_zero, List.getElem?_cons_succ] at r0 r1 r2 r3
    replace lBR := BR.lt
    replace m0 := BM.cell 0
    replace m1 := BM.cell 1
    replace m2 := BM.cell 2
    replace m3 := BM.cell 3
    replace m4 := BM.cell 4
    replace m5 := BM.cell 5
    replace m6 := BM.cell 6
    replace m7 := BM.cell 7
    replace m8 := BM.cell 8
    replace m9 := BM.cell 9
    replace m10 := BM.cell 10
    simp only [List.getElem?_cons_zero, List.getElem?_cons_succ] at m0 m1 m2 m3 m4 m5 m6 m7 m8 m9 m10
    replace lBM := BM.lt
    have s6 : W3.cell? ⟨Y1.heap.size, 6, none⟩ = some (.int .i64 s.over) := S.cell 6
    go_wp2_with fail
    clear hW3
    refine (HD1.out _ hE hwN).mono ?_
    rintro e U1 ⟨rfl, hu1⟩
    replace s6 := cellK s6 hu1
    have hE1 := hE.ofQ hu1
    clear r0 r1 r2 r3 m0 m1 m2 m3 m4 m5 m6 m7 m8 m9 m10 lBR lBM HD1 hE BR BM S
    have hE := hE1
    have hQ0 := Q.refl U1
    go_wp2_with fail
    refine (HN1.out _ (hE.ofQ bt)).mono ?_
    rintro e T1 ⟨rfl, hq1⟩
    have hs1 : Q U1 T1 := Q.trans bt hq1
    have hQ1 : Q U1 T1 := Q.trans hQ0 hs1
    replace s6 := cellK s6 hs1
    go_wp2_with fail
    refine (HC1.out _ (hE.ofQ bt)).mono ?_
    rintro e T2 ⟨rfl, hq2⟩
    have hs2 : Q T1 T2 := Q.trans bt hq2
    have hQ2 : Q U1 T2 := Q.trans hQ1 hs2
    replace s6 := cellK s6 hs2
    go_wp2_with fail
    refine (HN2.out _ (hE.ofQ bt)).mono ?_
    rintro e T3 ⟨rfl, hq3⟩
    have hs3 : Q T2 T3 := Q.trans bt hq3
    have hQ3 : Q U1 T3 := Q.trans hQ2 hs3
    replace s6 := cellK s6 hs3
    go_wp2_with fail
    refine (HC2.out _ (hE.ofQ bt)).mono ?_
    rintro e T4 ⟨rfl, hq4⟩
    have hs4 : Q T3 T4 := Q.trans bt hq4
    have hQ4 : Q U1 T4 := Q.trans hQ3 hs4
    replace s6 := cellK s6 hs4
    go_wp2_with fail
    refine (HAw.out _ (hE.ofQ bt)).mono ?_
    rintro e T5 ⟨rfl, hq5⟩
    have hs5 : Q T4 T5 := Q.trans bt hq5
    have hQ5 : Q U1 T5 := Q.trans hQ4 hs5
    replace s6 := cellK s6 hs5
    have hQe := Q.trans hwN (Q.trans hu1 hQ5)
    go_wp2
    go_ret
    exact ⟨rfl, hQe⟩
end Go.Proofs.YtlbjjkmfcgcodaaGreatDoor
