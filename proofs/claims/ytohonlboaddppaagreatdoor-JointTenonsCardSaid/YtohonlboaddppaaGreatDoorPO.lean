/-
  Walks of package plan, at a valid plan of one ring: Check, Sides.; Walks of package front: the front of a side.; Walks of package front: the fronts of a valid plan of one ring.
-/
import Derived.Test.YtohonlboaddppaaGreatDoorPN
import Derived.Test.YtohonlboaddppaaGreatDoorPH
namespace Go.Proofs.YtohonlboaddppaaGreatDoor
open Go.RowKit Go.Shelf Kp
attribute [local go_sem] Oper.semAt_some
set_option maxRecDepth 100000 in
set_option maxHeartbeats 2000000 in
theorem plan_Check1 (r : List Sd) (h : planE [r] = 0) (v : Value) (w : World) (hv : RgSl w v [r]) :
    Calls Tryz.prog 99 #[.agg #[v]] w fun e w' => e = .returned (.int .i64 0) ∧ Q w w' := by
  have ok := oneOk_of h
  have hr := arnOk_of ok.rg
  have h4 := ok.four
  have hle := ok.le
  have hl0 : 0 < r.length := by omega
  obtain ⟨a0, cap0, rfl, hc⟩ := hv.ring (by simpa using hl0)
  obtain ⟨b0, o0, a, cap, rfl, hcell, hrow, hba⟩ := hc 0 (by simp)
  have hr0 : ringAt [r] 0 = r := rfl
  rw [hr0] at hcell hrow
  rw [Nat.add_zero] at hcell
  clear hc hr0
  simp only [List.length_cons, List.length_nil, Nat.zero_add] at hv ⊢
  have HC : Hid (∀ W, Q w W → Calls Tryz.prog 100 #[.slice (some ⟨b0, o0, none⟩) 1 cap0] W fun e w' => ∃ v', e = .returned v' ∧ Q W w' ∧ RowSl 7 sdC w' v' r) := Lib.hid (fun W hq => by
    have hfl : ([r] : List (List Sd)).flatten = r := by simp
    have := sides_Concat [r] (by simpa using hl0) (by rw [hfl]; omega) (by rw [hfl]; omega) (by simp) _ W (hv.keep hq)
    rw [hfl] at this
    exact this)
  have HS : Hid (∀ v' W, RowSl 7 sdC W v' r → Calls Tryz.prog 131 #[v', .func (.func 132) #[] #[]] W fun e w' => e = .returned (.bool false) ∧ Q W w') := Lib.hid (fun v' W hs => by
    obtain ⟨a, cap, rfl, hx⟩ := id hs
    obtain ⟨-, hrow, hba⟩ := RowSl.at hs
    have := contains_sides r (by omega) a cap W hrow (fun k hk => hba k hk (by omega))
    rw [ok.ranged] at this
    exact this)
  have hln : ∀ s ∈ [r], 0 < s.length ∧ s.length ≤ 1000 := by simp; omega
  have hok : ∀ s ∈ [r], ∀ i, i < s.length → ArnOk (arn s i) := by simpa using hr
  have HR : Hid (∀ W, Q w W → Calls Tryz.prog 134 #[.slice (some ⟨b0, o0, none⟩) 1 cap0, .func (.func 135) #[] #[]] W fun e w' => e = .returned (.bool false) ∧ Q W w') := Lib.hid (fun W hq => by
    have := contains_rings [r] (by simp) hln hok _ W (hv.keep hq)
    rw [ok.shaped] at this
    exact this)
  have HX : Hid (∀ W, Q w W → Calls Tryz.prog 137 #[.slice (some ⟨b0, o0, none⟩) 1 cap0] W fun e w' => e = .returned (.bool false) ∧ Q W w') := Lib.hid (fun W hq => by
    have := plan_crossed r (by omega) hl0 ok.cross _ W (hv.keep hq)
    rw [ok.cross] at this
    exact this)
  have HP : Hid (∀ W, Q w W → Calls Tryz.prog 138 #[.slice (some ⟨b0, o0, none⟩) 1 cap0] W fun e w' => e = .returned (.bool true) ∧ Q W w') := Lib.hid (fun W hq => by
    have := plan_placed [r] (by simp) hln hok _ W (hv.keep hq)
    rw [ok.placed] at this
    exact this)
  have HJ : Hid (∀ W, Q w W → Calls Tryz.prog 139 #[.slice (some ⟨b0, o0, none⟩) 1 cap0] W fun e w' => e = .returned (.bool true) ∧ Q W w') := Lib.hid (fun W hq => by
    have := plan_joined r hr (by omega) hl0 _ W (hv.keep hq)
    rw [ok.joined] at this
    exact this)
  clear hv hrow hba ok hr hln hok h
  generalize r.length = n at *
  have hz : ((n : Int) == 0) = false := by rw [beq_eq_false_iff_ne]; omega
  have hz2 : decide ((24 : Int) < n) = false := by rw [decide_eq_false_iff_not]; omega
  have hn0 : (0 : Int) + n = n := by omega
  have wn := Go.IntWalk.i64_in (n : Int) (by omega)
  have hcw := qcell ((Below.refl _ w).alloc (Nat.le_refl _) (.cells #[.slice (some ⟨b0, o0, none⟩) 1 cap0] 49)) hcell
  have B := Blk.new w [.slice (some ⟨b0, o0, none⟩) 1 cap0] 49
  have hq1 : Q w (w.alloc (.cells [Value.slice (some ⟨b0, o0, none⟩) 1 cap0].toArray 49)) := (Below.refl _ w).alloc (Nat.le_refl _) _
  go_enter Tryz.func99, Tryz.ntmps99
  go_wp2
  refine wp_loop_rounds 2 ?_
  rw [rounds_succ]
  go_wp2
  rw [rounds_succ]
  go_wp2_with fail
  refine (HC.out _ hq1).mono ?_
  rintro e w2 ⟨v', rfl, hq, hs⟩
  replace B := B.keep hq B.lt
  have c0 := B.cell 0
  simp only [List.getElem?_cons_zero] at c0
  have hq2 := Q.trans hq1 hq
  clear hq hq1 hcw hcell HC
  go_wp2_with fail
  refine (HS.out _ _ hs).mono ?_
  rintro e w3 ⟨rfl, hq⟩
  replace B := B.keep hq B.lt
  replace c0 := B.cell 0
  simp only [List.getElem?_cons_zero] at c0
  have hq3 := Q.trans hq2 hq
  clear hq hq2 hs HS
  go_wp2_with fail
  refine (HR.out _ hq3).mono ?_
  rintro e w4 ⟨rfl, hq⟩
  replace B := B.keep hq B.lt
  replace c0 := B.cell 0
  simp only [List.getElem?_cons_zero] at c0
  have hq4 := Q.trans hq3 hq
  clear hq hq3 HR
  go_wp2_with fail
  refine (HX.out _ hq4).mono ?_
  rintro e w5 ⟨rfl, hq⟩
  replace B := B.keep hq B.lt
  replace c0 := B.cell 0
  simp only [List.getElem?_cons_zero] at c0
  have hq5 := Q.trans hq4 hq
  clear hq hq4 HX
  go_wp2_with fail
  refine (HP.out _ hq5).mono ?_
  rintro e w6 ⟨rfl, hq⟩
  replace B := B.keep hq B.lt
  replace c0 := B.cell 0
  simp only [List.getElem?_cons_zero] at c0
  have hq6 := Q.trans hq5 hq
  clear hq hq5 HP
  go_wp2_with fail
  refine (HJ.out _ hq6).mono ?_
  rintro e w7 ⟨rfl, hq⟩
  have hq7 := Q.trans hq6 hq
  go_wp2
  go_ret
  exact ⟨rfl, hq7⟩
set_option maxRecDepth 100000 in
set_option maxHeartbeats 2000000 in
theorem plan_Sides1 (r : List Sd) (h : planE [r] = 0) (v : Value) (w : World) (hv : RgSl w v [r]) :
    Calls Tryz.prog 60 #[.agg #[v]] w fun e w' => ∃ v', e = .returned (.tuple #[v', .int .i64 0]) ∧ Q w w' ∧ RowSl 7 sdC w' v' r := by
  have ok := oneOk_of h
  have h4 := ok.four
  have hle := ok.le
  have hl0 : 0 < r.length := by omega
  have HK : Hid (∀ W, Q w W → Calls Tryz.prog 99 #[.agg #[v]] W fun e w' => e = .returned (.int .i64 0) ∧ Q W w') := Lib.hid (fun W hq => plan_Check1 r h v W (hv.keep hq))
  have HC : Hid (∀ W, Q w W → Calls Tryz.prog 100 #[v] W fun e w' => ∃ v', e = .returned v' ∧ Q W w' ∧ RowSl 7 sdC w' v' r) := Lib.hid (fun W hq => by
    have hfl : ([r] : List (List Sd)).flatten = r := by simp
    have := sides_Concat [r] (by simpa using hl0) (by rw [hfl]; omega) (by rw [hfl]; omega) (by simp) _ W (hv.keep hq)
    rw [hfl] at this
    exact this)
  obtain ⟨a0, cap0, rfl, -⟩ := hv
  clear ok h4 hle hl0 h
  simp only [List.length_cons, List.length_nil, Nat.zero_add] at HK HC ⊢
  have B := Blk.new w [.slice a0 1 cap0] 49
  have hq1 : Q w (w.alloc (.cells [Value.slice a0 1 cap0].toArray 49)) := (Below.refl _ w).alloc (Nat.le_refl _) _
  have c0 := B.cell 0
  simp only [List.getElem?_cons_zero] at c0
  go_enter Tryz.func60, Tryz.ntmps60
  go_wp2_with fail
  refine (HK.out _ hq1).mono ?_
  rintro e w2 ⟨rfl, hq⟩
  replace B := B.keep hq B.lt
  replace c0 := B.cell 0
  simp only [List.getElem?_cons_zero] at c0
  have hq2 := Q.trans hq1 hq
  clear hq hq1 HK
  go_wp2_with fail
  refine (HC.out _ hq2).mono ?_
  rintro e w3 ⟨v', rfl, hq, hs⟩
  have hq3 := Q.trans hq2 hq
  clear hq hq2 HC
  go_wp2
  go_ret2
  exact ⟨_, rfl, hq3, hs⟩
end Go.Proofs.YtohonlboaddppaaGreatDoor
namespace Go.Proofs.YtohonlboaddppaaGreatDoor
open Go.RowKit Go.Shelf Kp
attribute [local go_sem] Oper.semAt_some
theorem headF_lt (s n : Sd) : headF s n < 4 := by
  unfold headF
  split
  · omega
  · split
    · omega
    · split <;> omega
theorem Env.dirAt {w : World} (h : Env w) {k : Nat} (hk : k < 4) : w.cell? ⟨0, k * 2, none⟩ = some (.bool (upF k)) ∧ w.cell? ⟨0, k * 2 + 1, none⟩ = some (.int .i64 (dirF k)) := by
  obtain ⟨t, f, hd⟩ := h.dirs
  have hc : ∀ i, w.cell? ⟨0, i, none⟩ = dirsC[i]? := fun i => by simp [World.cell?, hd]
  rw [hc, hc]
  match k, hk with
  | 0, _ => exact ⟨rfl, rfl⟩
  | 1, _ => exact ⟨rfl, rfl⟩
  | 2, _ => exact ⟨rfl, rfl⟩
  | 3, _ => exact ⟨rfl, rfl⟩
theorem results_front {W : World} {b : Nat} {x y z u v : Value} (h : Blk W b [x, y, z, u, v] 134) (fn : Func) (m : Nat) (hf : fn.results = #[.cell m 134]) (tmps : Array Value) (hp : tmps.getD m undef = .pointer (some ⟨b, 0, none⟩)) :
    (results fn tmps).run Tryz.prog W = .ok (.agg #[x, y, z, u, v]) W := by
  exact results_cell_row hf tmps W b _ #[x, y, z, u, v] (0, 0) _ hp h Tryz.underlying134 rfl (by kernel_rfl)
set_option maxRecDepth 100000 in
set_option maxHeartbeats 4000000 in
theorem front_of (s n : Sd) (hs : Rgd s) (w : World) (hE : Env w) :
    Calls Tryz.prog 101 #[.agg (sdC s).toArray, .agg (sdC n).toArray] w fun e w' => e = .returned (.agg (frC (frontF s n)).toArray) ∧ Q w w' := by
  have HH := Lib.hid (fun w (_ : Env w) => front_heading s n w)
  have HP := Lib.hid (fun w hw => rational_Of_short s.plate 1 (by decide) (by have := hs.p0; have := hs.p1; omega) (by decide) w hw)
  rw [divInt_one] at HP
  have HD : Hid (∀ W, Env W → W.cell? ⟨0, headF s n * 2, none⟩ = some (.bool (upF (headF s n))) ∧ W.cell? ⟨0, headF s n * 2 + 1, none⟩ = some (.int .i64 (dirF (headF s n)))) := Lib.hid (fun W hW => hW.dirAt (headF_lt s n))
  have hk4 := headF_lt s n
  obtain ⟨SP, hSP⟩ : ∃ SP, rstr (if s.gable then (0 : Rat) else Rat.divInt s.run s.rise) = SP := ⟨_, rfl⟩
  have H1 : Hid (s.gable = true → SP = [48]) := Lib.hid (fun hg => by rw [← hSP, if_pos hg]; exact rstr_zero)
  have HN : Hid (s.gable = false → ∃ k : Nat, s.rise = k ∧ ∀ W, Env W → Calls Tryz.prog 21 #[.int .i64 s.run, .int .i64 (k : Nat)] W fun e w' => e = .returned (.tuple #[.string ⟨SP.toArray⟩, .int .i64 0]) ∧ Q W w') := Lib.hid (fun hg => by
    rw [← hSP, hg]
    have h1 := hs.n hg
    obtain ⟨k, hk⟩ := Int.eq_ofNat_of_zero_le (show 0 ≤ s.rise by omega)
    refine ⟨k, hk, fun W hW => ?_⟩
    rw [hk]
    exact rational_Of_short s.run k (by omega) (by omega) (by omega) W hW)
  unfold frontF frC
  simp only [hSP]
  clear hSP
  generalize headF s n = hd at *
  generalize upF hd = up at *
  generalize dirF hd = dr at *
  obtain ⟨x1, y1, r1, n1, g1, p1, o1⟩ := s
  obtain ⟨x2, y2, r2, n2, g2, p2, o2⟩ := n
  simp only at HN H1 HP ⊢
  clear hs
  generalize rstr (p1 : Rat) = PL at *
  obtain ⟨co, hco⟩ : ∃ co, (if up = true then x1 else y1) = co := ⟨_, rfl⟩
  rw [hco]
  have hdz : (hd : Int) < 4 := by omega
  have hd0 : (0 : Int) ≤ hd := by omega
  have BS := ((Blk.new w [.int .i64 x1, .int .i64 y1, .int .i64 r1, .int .i64 n1, .bool g1, .int .i64 p1, .int .i64 o1] 98).alloc (.cells #[.int .i64 x2, .int .i64 y2, .int .i64 r2, .int .i64 n2, .bool g2, .int .i64 p2, .int .i64 o2] 98)).alloc (.cells #[.bool false, .int .i64 0, .int .i64 0, .string ⟨#[]⟩, .string ⟨#[]⟩] 134)
  have BZ := Blk.new ((w.alloc (.cells #[.int .i64 x1, .int .i64 y1, .int .i64 r1, .int .i64 n1, .bool g1, .int .i64 p1, .int .i64 o1] 98)).alloc (.cells #[.int .i64 x2, .int .i64 y2, .int .i64 r2, .int .i64 n2, .bool g2, .int .i64 p2, .int .i64 o2] 98)) [.bool false, .int .i64 0, .int .i64 0, .string ⟨#[]⟩, .string ⟨#[]⟩] 134
  rw [World.size_alloc, World.size_alloc] at BZ
  unfold sdC at *
  simp only
  have BN := (Blk.new (w.alloc (.cells #[.int .i64 x1, .int .i64 y1, .int .i64 r1, .int .i64 n1, .bool g1, .int .i64 p1, .int .i64 o1] 98)) [.int .i64 x2, .int .i64 y2, .int .i64 r2, .int .i64 n2, .bool g2, .int .i64 p2, .int .i64 o2] 98).alloc (.cells #[.bool false, .int .i64 0, .int .i64 0, .string ⟨#[]⟩, .string ⟨#[]⟩] 134)
  rw [World.size_alloc] at BN
  obtain ⟨W0, hW0⟩ : ∃ W0, ((w.alloc (.cells #[.int .i64 x1, .int .i64 y1, .int .i64 r1, .int .i64 n1, .bool g1, .int .i64 p1, .int .i64 o1] 98)).alloc (.cells #[.int .i64 x2, .int .i64 y2, .int .i64 r2, .int .i64 n2, .bool g2, .int .i64 p2, .int .i64 o2] 98)).alloc (.cells #[.bool false, .int .i64 0, .int .i64 0, .string ⟨#[]⟩, .string ⟨#[]⟩] 134) = W0 := ⟨_, rfl⟩
  have hq0 : Q w W0 := by rw [← hW0]; exact bt
  have hEw := hE.ofQ hq0
  have hs0 : W0.heap.size = w.heap.size + 3 := by rw [← hW0]; simp
  rw [hW0] at BS BN BZ
  clear hE
  have hE := hEw
  clear hEw
  have hQ0 := Q.refl W0
  replace s0 := BS.cell 0
  replace s1 := BS.cell 1
  replace s2 := BS.cell 2
  replace s3 := BS.cell 3
  replace s4 := BS.cell 4
  replace s5 := BS.cell 5
  replace s6 := BS.cell 6
  simp only [List.getElem?_cons_zero, List.getElem?_cons_succ] at s0 s1 s2 s3 s4 s5 s6
  replace lBS := BS.lt
  replace t0 := BN.cell 0
  replace t1 := BN.cell 1
  replace t2 := BN.cell 2
  replace t3 := BN.cell 3
  replace t4 := BN.cell 4
  replace t5 := BN.cell 5
  replace t6 := BN.cell 6
  simp only [List.getElem?_cons_zero, List.getElem?_cons_succ] at t0 t1 t2 t3 t4 t5 t6
  replace lBN := BN.lt
  replace z0 := BZ.cell 0
  replace z1 := BZ.cell 1
  replace z2 := BZ.cell 2
  replace z3 := BZ.cell 3
  replace z4 := BZ.cell 4
  simp only [List.getElem?_cons_zero, List.getElem?_cons_succ] at z0 z1 z2 z3 z4
  replace lBZ := BZ.lt
  go_enter Tryz.func101, Tryz.ntmps101
  go_wp2_with fail
  clear hW0
  refine (HH.out _ (hE.ofQ bt)).mono ?_
  rintro e Y1 ⟨rfl, hq1⟩
  have hs1 : Q W0 Y1 := Q.trans bt hq1
  have hQ1 : Q W0 Y1 := Q.trans hQ0 hs1
  replace BS := BS.keep hs1 BS.lt
  replace s0 := BS.cell 0
  replace s1 := BS.cell 1
  replace s2 := BS.cell 2
  replace s3 := BS.cell 3
  replace s4 := BS.cell 4
  replace s5 := BS.cell 5
  replace s6 := BS.cell 6
  simp only [List.getElem?_cons_zero, List.getElem?_cons_succ] at s0 s1 s2 s3 s4 s5 s6
  replace lBS := BS.lt
  replace BN := BN.keep hs1 BN.lt
  replace t0 := BN.cell 0
  replace t1 := BN.cell 1
  replace t2 := BN.cell 2
  replace t3 := BN.cell 3
  replace t4 := BN.cell 4
  replace t5 := BN.cell 5
  replace t6 := BN.cell 6
  simp only [List.getElem?_cons_zero, List.getElem?_cons_succ] at t0 t1 t2 t3 t4 t5 t6
  replace lBN := BN.lt
  replace BZ := BZ.keep hs1 BZ.lt
  replace z0 := BZ.cell 0
  replace z1 := BZ.cell 1
  replace z2 := BZ.cell 2
  replace z3 := BZ.cell 3
  replace z4 := BZ.cell 4
  simp only [List.getElem?_cons_zero, List.getElem?_cons_succ] at z0 z1 z2 z3 z4
  replace lBZ := BZ.lt
  obtain ⟨d0, d1⟩ := HD.out _ (hE.ofQ hQ1)
  clear BN lBN t0 t1 t2 t3 t4 t5 t6
  have lY := hQ1.size
  cases up <;> cases g1
  case false.false =>
    obtain rfl : y1 = co := hco
    have F := Blk.new (Y1.alloc (.cells #[.bool false, .int .i64 dr] 213)) [.bool false, .int .i64 y1, .int .i64 dr, .string ⟨#[48]⟩, .string ⟨#[]⟩] 134
    rw [World.size_alloc] at F
    obtain ⟨k, rfl, hN⟩ := HN.out rfl
    have HO := Lib.hid hN
    clear hN
    clear HN HD HH H1
    have F1 := F
    clear F
    have BS1 := BS
    have BZ1 := BZ
    go_wp2_with fail
    refine (HO.out _ (hE.ofQ bt)).mono ?_
    rintro e Y2 ⟨rfl, hq2⟩
    have hs2 : Q Y1 Y2 := Q.trans bt hq2
    replace BS := BS.keep hs2 BS.lt
    replace BZ := BZ.keep hs2 BZ.lt
    replace s0 := BS.cell 0
    replace s1 := BS.cell 1
    replace s2 := BS.cell 2
    replace s3 := BS.cell 3
    replace s4 := BS.cell 4
    replace s5 := BS.cell 5
    replace s6 := BS.cell 6
    replace z0 := BZ.cell 0
    replace z1 := BZ.cell 1
    replace z2 := BZ.cell 2
    replace z3 := BZ.cell 3
    replace z4 := BZ.cell 4
    simp only [List.getElem?_cons_zero, List.getElem?_cons_succ] at s0 s1 s2 s3 s4 s5 s6 z0 z1 z2 z3 z4
    replace F1 := F1.keep hq2 F1.lt
    have f0 := F1.cell 0
    have f1 := F1.cell 1
    have f2 := F1.cell 2
    have f3 := F1.cell 3
    have f4 := F1.cell 4
    simp only [List.getElem?_cons_zero, List.getElem?_cons_succ] at f0 f1 f2 f3 f4
    have g3 := F1.frozen 3
    have F2 := F1.set 3 (.string ⟨SP.toArray⟩)
    simp only [List.set_cons_zero, List.set_cons_succ] at F2
    clear HO
    clear F1
    go_wp2_with fail
    clear f0 f1 f2 f3 f4 g3
    have hB2 : Below Y1.heap.size Y1 (Y2.setCell ⟨Y1.heap.size + 1, 3, none⟩ (.string ⟨SP.toArray⟩)) := hs2.setCell (p := ⟨Y1.heap.size + 1, 3, none⟩) (by simp) _
    have hQ2s : Q W0 (Y2.setCell ⟨Y1.heap.size + 1, 3, none⟩ (.string ⟨SP.toArray⟩)) := Below.trans hQ1 (hB2.mono lY)
    refine (HP.out _ (hE.ofQ hQ2s)).mono ?_
    rintro e Y3 ⟨rfl, hq3⟩
    have hB3 : Below Y1.heap.size Y1 Y3 := Below.trans hB2 (hq3.mono hB2.size)
    have hQ3 : Q W0 Y3 := Below.trans hQ1 (hB3.mono lY)
    replace BS := BS1.keep hB3 BS1.lt
    replace BZ := BZ1.keep hB3 BZ1.lt
    replace s0 := BS.cell 0
    replace s1 := BS.cell 1
    replace s2 := BS.cell 2
    replace s3 := BS.cell 3
    replace s4 := BS.cell 4
    replace s5 := BS.cell 5
    replace s6 := BS.cell 6
    replace z0 := BZ.cell 0
    replace z1 := BZ.cell 1
    replace z2 := BZ.cell 2
    replace z3 := BZ.cell 3
    replace z4 := BZ.cell 4
    simp only [List.getElem?_cons_zero, List.getElem?_cons_succ] at s0 s1 s2 s3 s4 s5 s6 z0 z1 z2 z3 z4
    clear BS1 BZ1 hB2 hQ2s
    replace F2 := F2.keep hq3 F2.lt
    have f0 := F2.cell 0
    have f1 := F2.cell 1
    have f2 := F2.cell 2
    have f3 := F2.cell 3
    have f4 := F2.cell 4
    simp only [List.getElem?_cons_zero, List.getElem?_cons_succ] at f0 f1 f2 f3 f4
    have g4 := F2.frozen 4
    have k0 := BZ.frozen 0
    have k1 := BZ.frozen 1
    have k2 := BZ.frozen 2
    have k3 := BZ.frozen 3
    have k4 := BZ.frozen 4
    have hne : Y1.heap.size + 1 ≠ w.heap.size + 1 + 1 := by omega
    have hne2 : w.heap.size + 1 + 1 ≠ Y1.heap.size + 1 := by omega
    have hy : w.heap.size ≤ Y1.heap.size + 1 := by omega
    have hy2 : w.heap.size ≤ w.heap.size + 1 + 1 := by omega
    generalize Y1.heap.size + 1 = bf at *
    generalize w.heap.size + 1 + 1 = bz at *
    have Z := ((((((BZ.setOther hne 4 (.string ⟨PL.toArray⟩)).set 0 (.bool false)).set 1 (.int .i64 y1)).set 2 (.int .i64 dr)).set 3 (.string ⟨SP.toArray⟩)).set 4 (.string ⟨PL.toArray⟩))
    simp only [List.set_cons_zero, List.set_cons_succ] at Z
    have hQe := ((((((Q.trans hq0 hQ3).setCell (p := ⟨bf, 4, none⟩) hy (.string ⟨PL.toArray⟩)).setCell (p := ⟨bz, 0, none⟩) hy2 (.bool false)).setCell (p := ⟨bz, 1, none⟩) hy2 (.int .i64 y1)).setCell (p := ⟨bz, 2, none⟩) hy2 (.int .i64 dr)).setCell (p := ⟨bz, 3, none⟩) hy2 (.string ⟨SP.toArray⟩)).setCell (p := ⟨bz, 4, none⟩) hy2 (.string ⟨PL.toArray⟩)
    clear HP F2
    have HR := results_front Z
    go_wp2_with (exact bodyPost_ret (HR Tryz.f101 4 rfl _ rfl) rfl ⟨rfl, hQe⟩)
  case false.true =>
    obtain rfl : y1 = co := hco
    have F := Blk.new (Y1.alloc (.cells #[.bool false, .int .i64 dr] 213)) [.bool false, .int .i64 y1, .int .i64 dr, .string ⟨#[48]⟩, .string ⟨#[]⟩] 134
    rw [World.size_alloc] at F
    obtain rfl := H1.out rfl
    clear HN HD HH H1
    have F1 := F
    clear F
    have F2 := F1
    clear F1
    go_wp2_with fail
    refine (HP.out _ (hE.ofQ bt)).mono ?_
    rintro e Y3 ⟨rfl, hq3⟩
    have hB3 : Q Y1 Y3 := Q.trans bt hq3
    have hQ3 : Q W0 Y3 := Q.trans hQ1 hB3
    replace BS := BS.keep hB3 BS.lt
    replace BZ := BZ.keep hB3 BZ.lt
    replace s0 := BS.cell 0
    replace s1 := BS.cell 1
    replace s2 := BS.cell 2
    replace s3 := BS.cell 3
    replace s4 := BS.cell 4
    replace s5 := BS.cell 5
    replace s6 := BS.cell 6
    replace z0 := BZ.cell 0
    replace z1 := BZ.cell 1
    replace z2 := BZ.cell 2
    replace z3 := BZ.cell 3
    replace z4 := BZ.cell 4
    simp only [List.getElem?_cons_zero, List.getElem?_cons_succ] at s0 s1 s2 s3 s4 s5 s6 z0 z1 z2 z3 z4
    replace F2 := F2.keep hq3 F2.lt
    have f0 := F2.cell 0
    have f1 := F2.cell 1
    have f2 := F2.cell 2
    have f3 := F2.cell 3
    have f4 := F2.cell 4
    simp only [List.getElem?_cons_zero, List.getElem?_cons_succ] at f0 f1 f2 f3 f4
    have g4 := F2.frozen 4
    have k0 := BZ.frozen 0
    have k1 := BZ.frozen 1
    have k2 := BZ.frozen 2
    have k3 := BZ.frozen 3
    have k4 := BZ.frozen 4
    have hne : Y1.heap.size + 1 ≠ w.heap.size + 1 + 1 := by omega
    have hne2 : w.heap.size + 1 + 1 ≠ Y1.heap.size + 1 := by omega
    have hy : w.heap.size ≤ Y1.heap.size + 1 := by omega
    have hy2 : w.heap.size ≤ w.heap.size + 1 + 1 := by omega
    generalize Y1.heap.size + 1 = bf at *
    generalize w.heap.size + 1 + 1 = bz at *
    have Z := ((((((BZ.setOther hne 4 (.string ⟨PL.toArray⟩)).set 0 (.bool false)).set 1 (.int .i64 y1)).set 2 (.int .i64 dr)).set 3 (.string ⟨#[48]⟩)).set 4 (.string ⟨PL.toArray⟩))
    simp only [List.set_cons_zero, List.set_cons_succ] at Z
    have hQe := ((((((Q.trans hq0 hQ3).setCell (p := ⟨bf, 4, none⟩) hy (.string ⟨PL.toArray⟩)).setCell (p := ⟨bz, 0, none⟩) hy2 (.bool false)).setCell (p := ⟨bz, 1, none⟩) hy2 (.int .i64 y1)).setCell (p := ⟨bz, 2, none⟩) hy2 (.int .i64 dr)).setCell (p := ⟨bz, 3, none⟩) hy2 (.string ⟨#[48]⟩)).setCell (p := ⟨bz, 4, none⟩) hy2 (.string ⟨PL.toArray⟩)
    clear HP F2
    have HR := results_front Z
    go_wp2_with (exact bodyPost_ret (HR Tryz.f101 4 rfl _ rfl) rfl ⟨rfl, hQe⟩)
  case true.false =>
    obtain rfl : x1 = co := hco
    have F := Blk.new (Y1.alloc (.cells #[.bool true, .int .i64 dr] 213)) [.bool true, .int .i64 x1, .int .i64 dr, .string ⟨#[48]⟩, .string ⟨#[]⟩] 134
    rw [World.size_alloc] at F
    obtain ⟨k, rfl, hN⟩ := HN.out rfl
    have HO := Lib.hid hN
    clear hN
    clear HN HD HH H1
    have F1 := F
    clear F
    have BS1 := BS
    have BZ1 := BZ
    go_wp2_with fail
    refine (HO.out _ (hE.ofQ bt)).mono ?_
    rintro e Y2 ⟨rfl, hq2⟩
    have hs2 : Q Y1 Y2 := Q.trans bt hq2
    replace BS := BS.keep hs2 BS.lt
    replace BZ := BZ.keep hs2 BZ.lt
    replace s0 := BS.cell 0
    replace s1 := BS.cell 1
    replace s2 := BS.cell 2
    replace s3 := BS.cell 3
    replace s4 := BS.cell 4
    replace s5 := BS.cell 5
    replace s6 := BS.cell 6
    replace z0 := BZ.cell 0
    replace z1 := BZ.cell 1
    replace z2 := BZ.cell 2
    replace z3 := BZ.cell 3
    replace z4 := BZ.cell 4
    simp only [List.getElem?_cons_zero, List.getElem?_cons_succ] at s0 s1 s2 s3 s4 s5 s6 z0 z1 z2 z3 z4
    replace F1 := F1.keep hq2 F1.lt
    have f0 := F1.cell 0
    have f1 := F1.cell 1
    have f2 := F1.cell 2
    have f3 := F1.cell 3
    have f4 := F1.cell 4
    simp only [List.getElem?_cons_zero, List.getElem?_cons_succ] at f0 f1 f2 f3 f4
    have g3 := F1.frozen 3
    have F2 := F1.set 3 (.string ⟨SP.toArray⟩)
    simp only [List.set_cons_zero, List.set_cons_succ] at F2
    clear HO
    clear F1
    go_wp2_with fail
    clear f0 f1 f2 f3 f4 g3
    have hB2 : Below Y1.heap.size Y1 (Y2.setCell ⟨Y1.heap.size + 1, 3, none⟩ (.string ⟨SP.toArray⟩)) := hs2.setCell (p := ⟨Y1.heap.size + 1, 3, none⟩) (by simp) _
    have hQ2s : Q W0 (Y2.setCell ⟨Y1.heap.size + 1, 3, none⟩ (.string ⟨SP.toArray⟩)) := Below.trans hQ1 (hB2.mono lY)
    refine (HP.out _ (hE.ofQ hQ2s)).mono ?_
    rintro e Y3 ⟨rfl, hq3⟩
    have hB3 : Below Y1.heap.size Y1 Y3 := Below.trans hB2 (hq3.mono hB2.size)
    have hQ3 : Q W0 Y3 := Below.trans hQ1 (hB3.mono lY)
    replace BS := BS1.keep hB3 BS1.lt
    replace BZ := BZ1.keep hB3 BZ1.lt
    replace s0 := BS.cell 0
    replace s1 := BS.cell 1
    replace s2 := BS.cell 2
    replace s3 := BS.cell 3
    replace s4 := BS.cell 4
    replace s5 := BS.cell 5
    replace s6 := BS.cell 6
    replace z0 := BZ.cell 0
    replace z1 := BZ.cell 1
    replace z2 := BZ.cell 2
    replace z3 := BZ.cell 3
    replace z4 := BZ.cell 4
    simp only [List.getElem?_cons_zero, List.getElem?_cons_succ] at s0 s1 s2 s3 s4 s5 s6 z0 z1 z2 z3 z4
    clear BS1 BZ1 hB2 hQ2s
    replace F2 := F2.keep hq3 F2.lt
    have f0 := F2.cell 0
    have f1 := F2.cell 1
    have f2 := F2.cell 2
    have f3 := F2.cell 3
    have f4 := F2.cell 4
    simp only [List.getElem?_cons_zero, List.getElem?_cons_succ] at f0 f1 f2 f3 f4
    have g4 := F2.frozen 4
    have k0 := BZ.frozen 0
    have k1 := BZ.frozen 1
    have k2 := BZ.frozen 2
    have k3 := BZ.frozen 3
    have k4 := BZ.frozen 4
    have hne : Y1.heap.size + 1 ≠ w.heap.size + 1 + 1 := by omega
    have hne2 : w.heap.size + 1 + 1 ≠ Y1.heap.size + 1 := by omega
    have hy : w.heap.size ≤ Y1.heap.size + 1 := by omega
    have hy2 : w.heap.size ≤ w.heap.size + 1 + 1 := by omega
    generalize Y1.heap.size + 1 = bf at *
    generalize w.heap.size + 1 + 1 = bz at *
    have Z := ((((((BZ.setOther hne 4 (.string ⟨PL.toArray⟩)).set 0 (.bool true)).set 1 (.int .i64 x1)).set 2 (.int .i64 dr)).set 3 (.string ⟨SP.toArray⟩)).set 4 (.string ⟨PL.toArray⟩))
    simp only [List.set_cons_zero, List.set_cons_succ] at Z
    have hQe := ((((((Q.trans hq0 hQ3).setCell (p := ⟨bf, 4, none⟩) hy (.string ⟨PL.toArray⟩)).setCell (p := ⟨bz, 0, none⟩) hy2 (.bool true)).setCell (p := ⟨bz, 1, none⟩) hy2 (.int .i64 x1)).setCell (p := ⟨bz, 2, none⟩) hy2 (.int .i64 dr)).setCell (p := ⟨bz, 3, none⟩) hy2 (.string ⟨SP.toArray⟩)).setCell (p := ⟨bz, 4, none⟩) hy2 (.string ⟨PL.toArray⟩)
    clear HP F2
    have HR := results_front Z
    go_wp2_with (exact bodyPost_ret (HR Tryz.f101 4 rfl _ rfl) rfl ⟨rfl, hQe⟩)
  case true.true =>
    obtain rfl : x1 = co := hco
    have F := Blk.new (Y1.alloc (.cells #[.bool true, .int .i64 dr] 213)) [.bool true, .int .i64 x1, .int .i64 dr, .string ⟨#[48]⟩, .string ⟨#[]⟩] 134
    rw [World.size_alloc] at F
    obtain rfl := H1.out rfl
    clear HN HD HH H1
    have F1 := F
    clear F
    have F2 := F1
    clear F1
    go_wp2_with fail
    refine (HP.out _ (hE.ofQ bt)).mono ?_
    rintro e Y3 ⟨rfl, hq3⟩
    have hB3 : Q Y1 Y3 := Q.trans bt hq3
    have hQ3 : Q W0 Y3 := Q.trans hQ1 hB3
    replace BS := BS.keep hB3 BS.lt
    replace BZ := BZ.keep hB3 BZ.lt
    replace s0 := BS.cell 0
    replace s1 := BS.cell 1
    replace s2 := BS.cell 2
    replace s3 := BS.cell 3
    replace s4 := BS.cell 4
    replace s5 := BS.cell 5
    replace s6 := BS.cell 6
    replace z0 := BZ.cell 0
    replace z1 := BZ.cell 1
    replace z2 := BZ.cell 2
    replace z3 := BZ.cell 3
    replace z4 := BZ.cell 4
    simp only [List.getElem?_cons_zero, List.getElem?_cons_succ] at s0 s1 s2 s3 s4 s5 s6 z0 z1 z2 z3 z4
    replace F2 := F2.keep hq3 F2.lt
    have f0 := F2.cell 0
    have f1 := F2.cell 1
    have f2 := F2.cell 2
    have f3 := F2.cell 3
    have f4 := F2.cell 4
    simp only [List.getElem?_cons_zero, List.getElem?_cons_succ] at f0 f1 f2 f3 f4
    have g4 := F2.frozen 4
    have k0 := BZ.frozen 0
    have k1 := BZ.frozen 1
    have k2 := BZ.frozen 2
    have k3 := BZ.frozen 3
    have k4 := BZ.frozen 4
    have hne : Y1.heap.size + 1 ≠ w.heap.size + 1 + 1 := by omega
    have hne2 : w.heap.size + 1 + 1 ≠ Y1.heap.size + 1 := by omega
    have hy : w.heap.size ≤ Y1.heap.size + 1 := by omega
    have hy2 : w.heap.size ≤ w.heap.size + 1 + 1 := by omega
    generalize Y1.heap.size + 1 = bf at *
    generalize w.heap.size + 1 + 1 = bz at *
    have Z := ((((((BZ.setOther hne 4 (.string ⟨PL.toArray⟩)).set 0 (.bool true)).set 1 (.int .i64 x1)).set 2 (.int .i64 dr)).set 3 (.string ⟨#[48]⟩)).set 4 (.string ⟨PL.toArray⟩))
    simp only [List.set_cons_zero, List.set_cons_succ] at Z
    have hQe := ((((((Q.trans hq0 hQ3).setCell (p := ⟨bf, 4, none⟩) hy (.string ⟨PL.toArray⟩)).setCell (p := ⟨bz, 0, none⟩) hy2 (.bool true)).setCell (p := ⟨bz, 1, none⟩) hy2 (.int .i64 x1)).setCell (p := ⟨bz, 2, none⟩) hy2 (.int .i64 dr)).setCell (p := ⟨bz, 3, none⟩) hy2 (.string ⟨#[48]⟩)).setCell (p := ⟨bz, 4, none⟩) hy2 (.string ⟨PL.toArray⟩)
    clear HP F2
    have HR := results_front Z
    go_wp2_with (exact bodyPost_ret (HR Tryz.f101 4 rfl _ rfl) rfl ⟨rfl, hQe⟩)
end Go.Proofs.YtohonlboaddppaaGreatDoor
namespace Go.Proofs.YtohonlboaddppaaGreatDoor
open Go.RowKit Go.Shelf Kp
attribute [local go_sem] Oper.semAt_some
theorem infoFront : (Tryz.prog.info? 134).map (fun i => (i.zero, i.size, i.bytes)) = some (some (.agg #[.bool false, .int .i64 0, .int .i64 0, .string ⟨#[]⟩, .string ⟨#[]⟩]), 5, 56) := by kernel_rfl
def frAt (r : List Sd) (i : Nat) : Fr := frontF (sdAt r i) (sdAt r ((i + 1) % r.length))
def frN (r : List Sd) (k : Nat) : List Value := (List.range k).flatMap fun i => frC (frAt r i)
theorem frN_succ (r : List Sd) (k : Nat) : frN r (k + 1) = frN r k ++ frC (frAt r k) := by unfold frN; rw [List.range_succ, List.flatMap_append]; simp
theorem frN_all (r : List Sd) : frN r r.length = rowOf frC (frontsF [r]) := by
  unfold frN rowOf frontsF
  simp only [List.flatMap_cons, List.flatMap_nil, List.append_nil]
  unfold ringFr
  rw [List.flatMap_map]
  rfl
set_option maxRecDepth 100000 in
set_option maxHeartbeats 4000000 in
theorem front_All1 (r : List Sd) (h : planE [r] = 0) (v : Value) (w : World) (hE : Env w) (hv : RgSl w v [r]) :
    Calls Tryz.prog 61 #[.agg #[v]] w fun e w' => ∃ v', e = .returned (.tuple #[v', .int .i64 0]) ∧ w'.ownsRow w.heap.size 134 5 v' r.length (rowOf frC (frontsF [r])) ∧ Q w w' := by
  have ok := oneOk_of h
  have h4 := ok.four
  have hle := ok.le
  have hl0 : 0 < r.length := by omega
  rw [← frN_all]
  have HK : Hid (∀ W, Q w W → Calls Tryz.prog 99 #[.agg #[v]] W fun e w' => e = .returned (.int .i64 0) ∧ Q W w') := Lib.hid (fun W hq => plan_Check1 r h v W (hv.keep hq))
  obtain ⟨a0, cap0, rfl, hc⟩ := hv.ring (by simpa using hl0)
  obtain ⟨b0, o0, a, cap, rfl, hcell, hrow, hba⟩ := hc 0 (by simp)
  have hr0 : ringAt [r] 0 = r := rfl
  rw [hr0] at hcell hrow
  rw [Nat.add_zero] at hcell
  clear hc hr0
  have HRG := Lib.hid (fun s hs => ok.rg s hs)
  clear ok h hv
  simp only [List.length_cons, List.length_nil, Nat.zero_add] at HK ⊢
  obtain ⟨c0, ci, cz0, cz1, cz2⟩ := info_of infoFront
  have HR := Lib.hid hrow
  clear hrow hba
  have B := Blk.new w [.slice (some ⟨b0, o0, none⟩) 1 cap0] 49
  have hq1 : Q w (w.alloc (.cells [Value.slice (some ⟨b0, o0, none⟩) 1 cap0].toArray 49)) := (Below.refl _ w).alloc (Nat.le_refl _) _
  have k0 := B.cell 0
  simp only [List.getElem?_cons_zero] at k0
  have hlz : (r.length : Int) ≤ 24 := by omega
  have hz1 : (0 : Int) < r.length := by omega
  go_enter Tryz.func61, Tryz.ntmps61
  go_wp2_with fail
  refine (HK.out _ hq1).mono ?_
  rintro e w2 ⟨rfl, hq⟩
  replace B := B.keep hq B.lt
  replace k0 := B.cell 0
  simp only [List.getElem?_cons_zero] at k0
  have hq2 := Q.trans hq1 hq
  have hsz : w.heap.size + 1 ≤ w2.heap.size := by have := hq.size; simpa using this
  have c2 := qcell hq2 hcell
  clear hq hq1 HK
  go_wp2
  refine wp_loop_rounds 2 ?_
  rw [rounds_succ]
  go_wp2
  go_loopw [21, 4] (fun i o wr => ∃ k : Nat, k ≤ r.length ∧ i = .int .i64 k ∧ wr.ownsRow w.heap.size 134 5 o k (frN r k) ∧ Q w wr ∧ w.heap.size + 1 ≤ wr.heap.size) (fun i _ _ => r.length - (intOf i).toNat)
  case atStart => exact ⟨0, by omega, rfl, World.ownsRow_nil _ _ _ _, hq2, hsz⟩
  case round =>
    obtain ⟨k, hk, rfl, hown, hQ, hsz'⟩ := hrel
    by_cases hlt : k < r.length
    · obtain ⟨b, o, rfl, hc⟩ := (HR.out.q hQ) k hlt
      obtain ⟨b', o', he, hd⟩ := (HR.out.q hQ) ((k + 1) % r.length) (Nat.mod_lt _ hl0)
      injection he with he
      injection he with he1 he2
      subst he1 he2
      obtain ⟨q, hq'⟩ : ∃ q, (k + 1) % r.length = q := ⟨_, rfl⟩
      have hqn : q < r.length := by rw [← hq']; exact Nat.mod_lt _ hl0
      have e1 := Go.IntWalk.i64_in ((k : Int) + 1) (by omega)
      have e2 : ((k : Int) + 1).tmod (r.length : Int) = (q : Int) := by
        rw [Int.tmod_eq_emod_of_nonneg (by omega), show ((k : Int) + 1) = ((k + 1 : Nat) : Int) by omega, ← hq']; exact (Int.natCast_emod _ _).symm
      have hkz : (k : Int) < r.length := by omega
      have hk0 : (0 : Int) ≤ k := by omega
      have hqz : (q : Int) < r.length := by omega
      have hq0 : (0 : Int) ≤ q := by omega
      have hnz : ¬ r = [] := by
        intro h
        rw [h] at hl0
        simp at hl0
      have HF := Lib.hid (fun W hW => front_of (sdAt r k) (sdAt r q) (HRG.out _ (sdAt_mem hlt)) W hW)
      have HS : Hid (frN r (k + 1) = frN r k ++ frC (frontF (sdAt r k) (sdAt r q))) := Lib.hid (by rw [frN_succ, frAt, hq'])
      rw [hq'] at hd
      generalize frontF (sdAt r k) (sdAt r q) = f at *
      generalize sdAt r k = s at *
      generalize sdAt r q = t at *
      unfold frC at HF HS
      unfold sdC at hc hd HF
      have d0 := hc 0 _ rfl
      have d1 := hc 1 _ rfl
      have d2 := hc 2 _ rfl
      have d3 := hc 3 _ rfl
      have d4 := hc 4 _ rfl
      have d5 := hc 5 _ rfl
      have d6 := hc 6 _ rfl
      have n0 := hd 0 _ rfl
      have n1 := hd 1 _ rfl
      have n2 := hd 2 _ rfl
      have n3 := hd 3 _ rfl
      have n4 := hd 4 _ rfl
      have n5 := hd 5 _ rfl
      have n6 := hd 6 _ rfl
      rw [Nat.add_zero] at d0 n0
      clear hc hd
      have M := Blk.new wr [.int .i64 s.x, .int .i64 s.y, .int .i64 s.rise, .int .i64 s.run, .bool s.gable, .int .i64 s.plate, .int .i64 s.over] 98
      have hqa : Q wr (wr.alloc (.cells [Value.int .i64 s.x, .int .i64 s.y, .int .i64 s.rise, .int .i64 s.run, .bool s.gable, .int .i64 s.plate, .int .i64 s.over].toArray 98)) := (Below.refl _ wr).alloc (Nat.le_refl _) _
      obtain ⟨W1, hW1⟩ : ∃ W1, wr.alloc (.cells #[.int .i64 s.x, .int .i64 s.y, .int .i64 s.rise, .int .i64 s.run, .bool s.gable, .int .i64 s.plate, .int .i64 s.over] 98) = W1 := ⟨_, rfl⟩
      have hW1' : wr.alloc (.cells [Value.int .i64 s.x, .int .i64 s.y, .int .i64 s.rise, .int .i64 s.run, .bool s.gable, .int .i64 s.plate, .int .i64 s.over].toArray 98) = W1 := hW1
      rw [hW1'] at M hqa
      clear hW1'
      go_wp2_with fail
      try rw [hW1]
      clear hW1
      have hEd : Env W1.drew := (hE.ofQ (Q.trans hQ (Q.trans hqa (Below.drew (Q.refl W1)))))
      have hqd : Q wr W1.drew := Q.trans hqa (Below.drew (Q.refl W1))
      have m0 := M.drew.cell 0
      have m1 := M.drew.cell 1
      have m2 := M.drew.cell 2
      have m3 := M.drew.cell 3
      have m4 := M.drew.cell 4
      have m5 := M.drew.cell 5
      have m6 := M.drew.cell 6
      simp only [List.getElem?_cons_zero, List.getElem?_cons_succ] at m0 m1 m2 m3 m4 m5 m6
      replace n0 := qcell hqd n0
      replace n1 := qcell hqd n1
      replace n2 := qcell hqd n2
      replace n3 := qcell hqd n3
      replace n4 := qcell hqd n4
      replace n5 := qcell hqd n5
      replace n6 := qcell hqd n6
      clear d0 d1 d2 d3 d4 d5 d6
      refine RF.wp_steadily (ρ := lowR W1.drew.heap.size) 12 (by kernel_rfl) (by kernel_rfl) rfl ?_
      refine RF.svp 0 ?_
      refine RF.svq 1 rfl (by intro w' hq; have hc0 := qcell (hq (Nat.le_refl _)) m0; have hc1 := qcell (hq (Nat.le_refl _)) m1; have hc2 := qcell (hq (Nat.le_refl _)) m2; have hc3 := qcell (hq (Nat.le_refl _)) m3; have hc4 := qcell (hq (Nat.le_refl _)) m4; have hc5 := qcell (hq (Nat.le_refl _)) m5; have hc6 := qcell (hq (Nat.le_refl _)) m6; go_simp; try with_reducible rfl) ?_
      refine RF.svp 2 ?_
      refine RF.svp 3 ?_
      refine RF.svp 4 ?_
      refine RF.svp 5 ?_
      refine RF.svp 6 ?_
      refine RF.svp 7 ?_
      refine RF.svp 8 ?_
      refine RF.svq 9 rfl (by intro w' hq; have hc0 := qcell (hq (Nat.le_refl _)) n0; have hc1 := qcell (hq (Nat.le_refl _)) n1; have hc2 := qcell (hq (Nat.le_refl _)) n2; have hc3 := qcell (hq (Nat.le_refl _)) n3; have hc4 := qcell (hq (Nat.le_refl _)) n4; have hc5 := qcell (hq (Nat.le_refl _)) n5; have hc6 := qcell (hq (Nat.le_refl _)) n6; go_simp; try with_reducible rfl) ?_
      refine RF.steadily_call (i := 10) (v := _) rfl rfl (by kernel_rfl) (by kernel_rfl) (fun _ _ _ h => h) (by rfl) ?_ (fun w' hq => HF.out w' (hEd.ofQ (hq (Nat.le_refl _)))) ?_
      · (intro w' hq; go_simp; try with_reducible rfl)
      simp only [Act.put, List.setIfInBounds_toArray, List.set_cons_zero, List.set_cons_succ]
      refine RF.steadily_make (i := 11) (fun w' => .slice (some ⟨w'.heap.size, 0, none⟩) 1 1) (.cells #[.bool f.up, .int .i64 f.coord, .int .i64 f.dir, .string ⟨(rstr f.speed).toArray⟩, .string ⟨(rstr f.start).toArray⟩] 134) rfl rfl (by kernel_rfl) (by rfl) (fun w' hq => by go_simp; try with_reducible rfl) (fun w3 hq3 => ?_)
      simp only [Act.put, List.setIfInBounds_toArray, List.set_cons_zero, List.set_cons_succ]
      refine RF.steadily_done (by kernel_rfl) (fun w5 hq5 => ?_)
      simp only [List.drop_succ_cons, List.drop_zero]
      have T := (Blk.new w3 [.bool f.up, .int .i64 f.coord, .int .i64 f.dir, .string ⟨(rstr f.speed).toArray⟩, .string ⟨(rstr f.start).toArray⟩] 134).keep hq5 (by simp)
      have hq35 : Q wr w5 := Q.trans hqd (Q.trans hq3 (Q.trans ((Below.refl _ w3).alloc (Nat.le_refl _) _) hq5))
      have hown5 := ownsRow_keep hown hq35
      have hQ5 := Q.trans hQ hq35
      have hsz5 := Nat.le_trans hsz' hq35.size
      clear hq3 hq5 m0 m1 m2 m3 m4 m5 m6 n0 n1 n2 n3 n4 n5 n6 HF M hown hqa hqd hEd
      generalize w3.heap.size = t3 at *
      go_wp2_with (at_builtin; refine wpList_append_own_at _ rfl (.tmp 26) (.tmp 37) 129 rfl w.heap.size 134 c0 _ 5 56 Tryz.underlying129 ci cz0 cz1 cz2 rfl (by decide) u4 k (frN r k) rfl hown5 ⟨t3, 0, none⟩ 1 1 [.bool f.up, .int .i64 f.coord, .int .i64 f.dir, .string ⟨(rstr f.speed).toArray⟩, .string ⟨(rstr f.start).toArray⟩] rfl rfl (fun j z hj => by rw [Addr.add_lit, Nat.zero_add]; exact (T.cell j).trans hj) (by
        intro z hz
        simp only [List.mem_cons, List.not_mem_nil, or_false] at hz
        rcases hz with rfl | rfl | rfl | rfl | rfl <;> rfl) (by unfold maxLen; omega) (by omega) (by omega) ?_)
      intro v9 w9 hown9 hgrow9 _ _
      have hQ9 : Q w w9 := hQ5.grown hgrow9 (by omega) (fun j hj => (hown5.lt j hj).1)
      have hsz9 := Nat.le_trans hsz5 hgrow9.size
      rw [← HS.out] at hown9
      clear hown5 hgrow9 T hq35 HS
      go_wp2
      go_roundw
      case rel => exact ⟨k + 1, by omega, by go_num, hown9, hQ9, hsz9⟩
      case measure => simp [intOf]; omega
    · obtain rfl : k = r.length := by omega
      go_wp2
      rw [rounds_succ]
      go_wp2
      go_ret2
      exact ⟨_, rfl, hown, hQ⟩
end Go.Proofs.YtohonlboaddppaaGreatDoor
