/-
  Walks of package joint: the checks of any notch, notched, Check.
-/
import Derived.Test.YtlbjjkmfcgcodaaGreatDoorJO
namespace Go.Proofs.YtlbjjkmfcgcodaaGreatDoor
open Go.RowKit Go.Shelf Kp

attribute [local go_sem] Oper.semAt_some

/-- A number has few digits. -/
def shrt (q : Rat) : Bool := decide (max ((unsig (Lib.itoa q.num)).length : Int) ((Lib.itoa (q.den : Int)).length : Int) ≤ 36)
set_option maxHeartbeats 1000000 in
theorem joint_shortG (q : Rat) (h : rlim q = false) (w : World) (hE : Env w) :
    Calls Tryz.prog 142 #[.string ⟨(rstr q).toArray⟩] w fun e w' => e = .returned (.bool (shrt q)) ∧ Q w w' := by
  have HP := Lib.hid (fun w hw => rational_Parts q h w hw)
  unfold shrt
  clear h
  generalize rstr q = S at *
  have HT := Lib.hid (fun w => lib_TrimMinus (Lib.itoa q.num) w)
  generalize unsig (Lib.itoa q.num) = U at *
  generalize Lib.itoa q.num = N at *
  generalize Lib.itoa (q.den : Int) = D at *
  go_enter Tryz.func142, Tryz.ntmps142
  have hQ0 := Q.refl w
  go_wp2_with fail
  refine (HP.out _ (hE.ofQ bt)).mono ?_
  rintro e w1 ⟨rfl, hq1⟩
  have hs1 : Q w w1 := Q.trans bt hq1
  have hQ1 : Q w w1 := Q.trans hQ0 hs1
  go_wp2_with fail
  refine (HT.out _).mono ?_
  rintro e w2 ⟨rfl, rfl⟩
  go_wp2
  go_ret
  exact ⟨rfl, hQ1⟩

theorem checks_oneG (q : Rat) (h : rlim q = false) (w : World) (hE : Env w) :
    Calls Tryz.prog 141 #[.string ⟨(rstr q).toArray⟩] w fun e w' => e = .returned (.bool (!shrt q)) ∧ Q w w' := by
  have HO := Lib.hid (fun w hw => joint_shortG q h w hw)
  generalize rstr q = S at *
  generalize shrt q = b at *
  clear h
  go_enter Tryz.func141, Tryz.ntmps141
  have hQ0 := Q.refl w
  go_wp2_with fail
  refine (HO.out _ (hE.ofQ bt)).mono ?_
  rintro e w1 ⟨rfl, hq1⟩
  have hs1 : Q w w1 := Q.trans bt hq1
  have hQ1 : Q w w1 := Q.trans hQ0 hs1
  go_wp2
  go_ret
  exact ⟨rfl, hQ1⟩

set_option maxRecDepth 100000 in
set_option maxHeartbeats 1000000 in
theorem index_shortG (l : List Rat) (hl : ∀ q ∈ l, rlim q = false) (hn : l.length ≤ 100) (v : Value) (w : World) (hE : Env w) (hv : StrSl w v (l.map rstr)) :
    Calls Tryz.prog 156 #[v, .func (.func 141) #[] #[]] w fun e w' => ∃ z : Int, e = .returned (.int .i64 z) ∧ decide (0 ≤ z) = (l.any fun q => !shrt q) ∧ Q w w' := by
  obtain ⟨b, o, cap, rfl, hb, hc⟩ := hv
  rw [List.length_map] at hc
  rw [List.length_map]
  have HL := Lib.hid hl
  have HY : Hid (∀ k (hk : k < l.length), shrt l[k] = false → (l.any fun q => !shrt q) = true) := Lib.hid (fun k hk h => List.any_eq_true.2 ⟨_, List.getElem_mem hk, by rw [h]; rfl⟩)
  have HZ : Hid ((∀ k (hk : k < l.length), shrt l[k] = true) → (l.any fun q => !shrt q) = false) := Lib.hid (fun h => by
    rw [List.any_eq_false]
    intro r hr
    obtain ⟨k, hk, rfl⟩ := List.mem_iff_getElem.1 hr
    rw [h k hk]; decide)
  generalize (l.any fun q => !shrt q) = an at *
  clear hl
  go_enter Tryz.func156, Tryz.ntmps156
  go_wp2
  go_loopw [8] (fun i wr => ∃ k : Nat, k ≤ l.length ∧ i = .int .i64 k ∧ Hid (∀ j (hj : j < l.length), j < k → shrt l[j] = true) ∧ Q w wr) (fun i _ => l.length - (intOf i).toNat)
  case atStart => exact ⟨0, by omega, rfl, Lib.hid (fun j _ hj => absurd hj (Nat.not_lt_zero _)), Below.refl _ _⟩
  case round =>
    obtain ⟨k, hk, rfl, HA, hQ⟩ := hrel
    by_cases hlt : k < l.length
    · have hcell := hc k hlt
      have hcell' : wr.cell? ⟨b, o + k, none⟩ = some (.string ⟨((l.map rstr).getD k []).toArray⟩) := by rw [hQ.cell (p := ⟨b, o + k, none⟩) hb]; exact hcell
      have hq : (l.map rstr).getD k [] = rstr l[k] := by rw [List.getD_eq_getElem?_getD, List.getElem?_map, List.getElem?_eq_getElem hlt]; rfl
      rw [hq] at hcell'
      have HG := Lib.hid (fun w hw => checks_oneG l[k] (HL.out _ (List.getElem_mem hlt)) w hw)
      have HAk : Hid (shrt l[k] = true → ∀ j (hj : j < l.length), j < k + 1 → shrt l[j] = true) := Lib.hid (fun h j hj' hj => by
        rcases Nat.lt_or_ge j k with h1 | h1
        · exact HA.out j hj' h1
        · obtain rfl : j = k := by omega
          exact h)
      have HN := Lib.hid (HY.out k hlt)
      clear hcell hc hq HL
      generalize rstr l[k] = S at *
      generalize shrt l[k] = sh at *
      have hdk : decide ((0 : Int) ≤ (k : Int)) = true := by simp
      go_wp2_with fail
      refine (HG.out _ (hE.q hQ)).mono ?_
      rintro e w2 ⟨rfl, hq2⟩
      have hQ2 : Q w w2 := Q.trans hQ hq2
      cases sh
      · have ha := HN.out rfl
        clear HN HAk HY HZ HG
        subst ha
        go_wp2
        go_ret
        exact ⟨_, rfl, hdk, hQ2⟩
      · have HK := Lib.hid (HAk.out rfl)
        clear HAk HN HG
        go_wp2
        go_roundw
        case rel => exact ⟨k + 1, by omega, by go_num, HK, hQ2⟩
        case measure => simp [intOf]; omega
    · obtain rfl : k = l.length := by omega
      have ha := HZ.out (fun j hj => HA.out j hj hj)
      clear HY HZ HA
      subst ha
      go_wp2
      go_ret
      exact ⟨_, rfl, rfl, hQ⟩

set_option maxHeartbeats 1000000 in
theorem contains_shortG (l : List Rat) (hl : ∀ q ∈ l, rlim q = false) (hn : l.length ≤ 100) (v : Value) (w : World) (hE : Env w) (hv : StrSl w v (l.map rstr)) :
    Calls Tryz.prog 107 #[v, .func (.func 141) #[] #[]] w fun e w' => e = .returned (.bool (l.any fun q => !shrt q)) ∧ Q w w' := by
  have HI := Lib.hid (index_shortG l hl hn v w hE hv)
  generalize (l.any fun q => !shrt q) = an at *
  clear hl hv
  go_enter Tryz.func107, Tryz.ntmps107
  go_wp2_with fail
  refine HI.out.mono ?_
  rintro e w1 ⟨z, rfl, hz, hq1⟩
  subst hz
  go_wp2
  go_ret
  exact ⟨rfl, hq1⟩

/-- What the checks of a notch answer. -/
def chkG (c b : Bool) (x : PlN 2) : Array Value := #[.bool (if x.1 = 0 then !c else b), .int .i64 (if x.1 = 0 then 1 else 9)]
/-- The numbers of a notch are not all short. -/
def longG (x : Raf) (q : Rat) : Bool := [(x.over : Rat), q, q * x.pitch].any fun q => !shrt q
/-- A notch as a birdsmouth's, of any seat. -/
structure NotchQ (q : Rat) : Prop where
  b : Bd 63 q
  p : 0 < q

set_option maxRecDepth 100000 in
set_option maxHeartbeats 4000000 in
theorem checks1_nxG (x : Raf) (hx : RafBd x) (q : Rat) (hq : NotchQ q) (b : Bool) (hbq : b = decide (ordF q (x.run - x.over) ≤ 0)) (m : Nat) (hm : 1 ≤ m) (l Bn Bx : Nat) (J Jx : List (PlN 2) → World → Prop) (hPc : ∀ pre W, J pre W → Env W)
    (hY : ∀ pre y W, J pre W → nxUp pre y → YieldAt Fence.wide (m - 1) Tryz.prog l (chkG (longG x q) b y) W fun e W' =>
      (e = .returned (.bool true) ∧ J (pre ++ [y]) W' ∧ KeepB [Bn, Bx] W W') ∨ (e = .returned (.bool false) ∧ Jx (pre ++ [y]) W'))
    (hJ : ∀ pre W W', J pre W → Q W W' → J pre W')
    (W : World) (hBn : Blk W Bn [.string ⟨(rstr (x.over : Rat)).toArray⟩, .string ⟨(rstr q).toArray⟩, .string ⟨(rstr (q * x.pitch)).toArray⟩] 41) (hBx : Blk W Bx (rafC x) 85) (h0 : J [] W) :
    CallsIn Fence.wide m Tryz.prog 140 #[.func (.yield l) #[] #[], .pointer (some ⟨Bn, 0, none⟩), .pointer (some ⟨Bx, 0, none⟩)] W fun e W' => (∃ v, e = .returned v) ∧
      ((∃ ys, UpN 2 ys ∧ J ys W') ∨ (∃ pre, (∃ k, k ≤ 2 ∧ UpN k pre) ∧ Jx pre W')) := by
  refine callsIn_of_wp Tryz.func140 rfl trivial ?_ rfl
  simp only [Tryz.ntmps140, List.size_toArray, List.length_cons, List.length_nil, Nat.reduceAdd, Nat.reduceSub, Array.replicate_succ, Array.replicate_zero, List.push_toArray, List.append_toArray, List.nil_append, List.cons_append]
  have hmix : Tryz.prog.follows .mixedOrders = true := by kernel_rfl
  have bo := hx.ov
  have bm := hq.b.mul hx.p
  have HC := Lib.hid (fun v W hW hv => contains_shortG [(x.over : Rat), q, q * x.pitch] (by
    intro y hy
    simp only [List.mem_cons, List.not_mem_nil, or_false] at hy
    rcases hy with rfl | rfl | rfl
    · exact bo.rlim (by decide)
    · exact hq.b.rlim (by decide)
    · exact bm.rlim (by decide)) (by simp) v W hW hv)
  have hlg : ([(x.over : Rat), q, q * x.pitch].any fun q => !shrt q) = longG x q := rfl
  rw [hlg] at HC
  clear hlg
  generalize longG x q = c at *
  have HM := Lib.hid (fun w hw => rational_Mul_bd q x.pitch hq.b hx.p (by decide) w hw)
  have HO1 := Lib.hid (fun w hw => joint_order q 0 hq.b (bd_nil (n := 1) (by decide)) (by decide) w hw)
  rw [ordF_gt hq.p, rstr_zero] at HO1
  have HR := Lib.hid (fun w hw => joint_room x.dep (rstr x.pitch) x.run (x.over : Rat) hx.r bo (by decide) w hw)
  have HO2 := Lib.hid (fun w hw => joint_order q (x.run - x.over) hq.b (hx.r.less bo) (by decide) w hw)
  have hor : ordF q (x.run - x.over) = -1 ∨ ordF q (x.run - x.over) = 0 ∨ ordF q (x.run - x.over) = 1 := by
    by_cases h : q < x.run - x.over
    · exact .inl (ordF_lt h)
    · by_cases h2 : x.run - x.over < q
      · exact .inr (.inr (ordF_gt h2))
      · exact .inr (.inl (by rw [← Rat.le_antisymm (Rat.not_lt.1 h2) (Rat.not_lt.1 h), ordF_eq]))
  generalize ordF q (x.run - x.over) = od at *
  have hY0 := hY [] ⟨0, by decide⟩
  have hY1 := hY [⟨0, by decide⟩] ⟨1, by decide⟩
  have hp0 : UpN 0 ([] : List (PlN 2)) := rfl
  have hp1 := hp0.next ⟨0, by decide⟩ rfl
  have hp2 := hp1.next ⟨1, by decide⟩ rfl
  unfold chkG at hY0 hY1
  simp only [if_true, Nat.one_ne_zero, if_false] at hY0 hY1
  unfold rafC at hBx
  simp only [List.map_cons, List.map_nil] at HC
  obtain ⟨dp, pitch, run, over⟩ := x
  simp only at HC HM HR HO2 hBn hBx
  generalize rstr (q * pitch) = HE at *
  generalize rstr (run - (over : Rat)) = RM at *
  generalize rstr (over : Rat) = OV at *
  generalize rstr pitch = PI at *
  generalize rstr run = HI at *
  generalize rstr q = SS at *
  have HY0 := Lib.hid hY0
  have HY1 := Lib.hid hY1
  clear bo bm hq hx hY hY0 hY1
  have n0 := hBn.cell 0
  have n1 := hBn.cell 1
  have n2 := hBn.cell 2
  simp only [List.getElem?_cons_zero, List.getElem?_cons_succ] at n0 n1 n2
  have hEw := hPc _ _ h0
  have T := Blk.new W [.string ⟨OV.toArray⟩, .string ⟨SS.toArray⟩, .string ⟨HE.toArray⟩] 30
  have hqT : Q W (W.alloc (.cells ([.string ⟨OV.toArray⟩, .string ⟨SS.toArray⟩, .string ⟨HE.toArray⟩] : List Value).toArray 30)) := (Below.refl _ W).alloc (Nat.le_refl _) _
  have hbs : (od = -1 ∧ b = true) ∨ (od = 0 ∧ b = true) ∨ (od = 1 ∧ b = false) := by
    rcases hor with h | h | h
    · exact .inl ⟨h, by rw [hbq, h]; rfl⟩
    · exact .inr (.inl ⟨h, by rw [hbq, h]; rfl⟩)
    · exact .inr (.inr ⟨h, by rw [hbq, h]; rfl⟩)
  clear hor hbq
  rcases hbs with ⟨rfl, rfl⟩ | ⟨rfl, rfl⟩ | ⟨rfl, rfl⟩
  all_goals
    gi_wp2
    refine ⟨trivial, ?_⟩
    refine (callsIn_wide.2 (HC.out _ _ (hEw.ofQ hqT) (StrSl.three T))).mono ?_
    rintro e w3 ⟨rfl, hq3⟩
    have hqw : Q W w3 := Q.trans hqT hq3
    have hJ3 := hJ _ _ _ h0 hqw
    have hYK := HY0.out w3 hJ3 rfl
    obtain ⟨fn, tmps, assign, body, hy, hR⟩ := hYK
    gi_wp2
    refine hR.mono ?_
    rintro e W3 (⟨rfl, hJ4, hk4⟩ | ⟨rfl, hJx4⟩)
    rotate_left
    · gi_wp2
      refine bodyPost_ret (results_none rfl _ _ _) rfl ?_
      exact ⟨⟨_, rfl⟩, .inr ⟨_, ⟨1, by omega, hp1⟩, hJx4⟩⟩
    have hkb : KeepB [Bn, Bx] W W3 := (KeepB.q hqw).trans hk4
    have hBn3 : Blk W3 Bn [.string ⟨OV.toArray⟩, .string ⟨SS.toArray⟩, .string ⟨HE.toArray⟩] 41 := (hkb Bn (by simp) hBn.lt).trans hBn
    have hBx3 : Blk W3 Bx [.int .i64 dp, .string ⟨PI.toArray⟩, .string ⟨HI.toArray⟩, .string ⟨OV.toArray⟩] 85 := (hkb Bx (by simp) hBx.lt).trans hBx
    have hE4 := hPc _ _ hJ4
    have a0 := hBn3.cell 0
    have a1 := hBn3.cell 1
    have a2 := hBn3.cell 2
    have b0 := hBx3.cell 0
    have b1 := hBx3.cell 1
    have b2 := hBx3.cell 2
    have b3 := hBx3.cell 3
    simp only [List.getElem?_cons_zero, List.getElem?_cons_succ] at a0 a1 a2 b0 b1 b2 b3
    clear n0 n1 n2 hR hy HY0
    gi_wp2
    refine ⟨trivial, ?_⟩
    refine (callsIn_wide.2 (HM.out _ hE4)).mono ?_
    rintro e w5 ⟨rfl, hq5⟩
    have hJ5 := hJ _ _ _ hJ4 hq5
    have hE5 := hPc _ _ hJ5
    have hEd : Env w5.drew := hE5.ofQ (Below.drew (Q.refl w5))
    have c0 : w5.drew.cell? ⟨Bn, 0, none⟩ = _ := qcell hq5 a0
    have c1 : w5.drew.cell? ⟨Bn, 1, none⟩ = _ := qcell hq5 a1
    have c2 : w5.drew.cell? ⟨Bn, 2, none⟩ = _ := qcell hq5 a2
    have d0 : w5.drew.cell? ⟨Bx, 0, none⟩ = _ := qcell hq5 b0
    have d1 : w5.drew.cell? ⟨Bx, 1, none⟩ = _ := qcell hq5 b1
    have d2 : w5.drew.cell? ⟨Bx, 2, none⟩ = _ := qcell hq5 b2
    have d3 : w5.drew.cell? ⟨Bx, 3, none⟩ = _ := qcell hq5 b3
    clear a0 a1 a2 b0 b1 b2 b3 HM
    gi_wp2
  refine RT.wpIn_steadily 26 hmix (by kernel_rfl) rfl ?_
  refine RT.svp 0 ?_
  refine RT.svp 1 ?_
  refine RT.svq 2 rfl (by intro w' hq; have hc0 := qcell hq c0; go_simp; try with_reducible rfl) ?_
  refine RT.svp 3 ?_
  refine RT.svq 4 rfl (by intro w' hq; have hc0 := qcell hq d3; go_simp; try with_reducible rfl) ?_
  refine RT.svp 5 ?_
  refine RT.svp 6 ?_
  refine RT.svp 7 ?_
  refine RT.svq 8 rfl (by intro w' hq; have hc0 := qcell hq c1; go_simp; try with_reducible rfl) ?_
  refine RT.steadily_call (i := 9) (v := _) rfl rfl (by kernel_rfl) (by kernel_rfl) (fun _ _ _ h => h) (by rfl) ?_ (fun w' hq => HO1.out w' (hEd.ofQ hq)) ?_
  · (intro w' hq; go_simp; try with_reducible rfl)
  simp only [Act.put, List.setIfInBounds_toArray, List.set_cons_zero, List.set_cons_succ]
  refine RT.svp 10 ?_
  refine RT.svp 11 ?_
  refine RT.svp 12 ?_
  refine RT.svp 13 ?_
  refine RT.svq 14 rfl (by intro w' hq; have hc0 := qcell hq c1; go_simp; try with_reducible rfl) ?_
  refine RT.svq 15 rfl (by intro w' hq; have hc0 := qcell hq d0; have hc1 := qcell hq d1; have hc2 := qcell hq d2; have hc3 := qcell hq d3; go_simp; try with_reducible rfl) ?_
  refine RT.steadily_call (i := 16) (v := _) rfl rfl (by kernel_rfl) (by kernel_rfl) (fun _ _ _ h => h) (by rfl) ?_ (fun w' hq => HR.out w' (hEd.ofQ hq)) ?_
  · (intro w' hq; go_simp; try with_reducible rfl)
  simp only [Act.put, List.setIfInBounds_toArray, List.set_cons_zero, List.set_cons_succ]
  refine RT.steadily_call (i := 17) (v := _) rfl rfl (by kernel_rfl) (by kernel_rfl) (fun _ _ _ h => h) (by rfl) ?_ (fun w' hq => HO2.out w' (hEd.ofQ hq)) ?_
  · (intro w' hq; go_simp; try with_reducible rfl)
  simp only [Act.put, List.setIfInBounds_toArray, List.set_cons_zero, List.set_cons_succ]
  refine RT.svp 18 ?_
  refine RT.svp 19 ?_
  refine RT.svp 20 ?_
  refine RT.svp 21 ?_
  refine RT.svq 22 rfl (by intro w' hq; have hc0 := qcell hq c2; go_simp; try with_reducible rfl) ?_
  refine RT.svp 23 ?_
  refine RT.svp 24 ?_
  refine RT.svp 25 ?_
  rotate_left
  refine RT.wpIn_steadily 26 hmix (by kernel_rfl) rfl ?_
  refine RT.svp 0 ?_
  refine RT.svp 1 ?_
  refine RT.svq 2 rfl (by intro w' hq; have hc0 := qcell hq c0; go_simp; try with_reducible rfl) ?_
  refine RT.svp 3 ?_
  refine RT.svq 4 rfl (by intro w' hq; have hc0 := qcell hq d3; go_simp; try with_reducible rfl) ?_
  refine RT.svp 5 ?_
  refine RT.svp 6 ?_
  refine RT.svp 7 ?_
  refine RT.svq 8 rfl (by intro w' hq; have hc0 := qcell hq c1; go_simp; try with_reducible rfl) ?_
  refine RT.steadily_call (i := 9) (v := _) rfl rfl (by kernel_rfl) (by kernel_rfl) (fun _ _ _ h => h) (by rfl) ?_ (fun w' hq => HO1.out w' (hEd.ofQ hq)) ?_
  · (intro w' hq; go_simp; try with_reducible rfl)
  simp only [Act.put, List.setIfInBounds_toArray, List.set_cons_zero, List.set_cons_succ]
  refine RT.svp 10 ?_
  refine RT.svp 11 ?_
  refine RT.svp 12 ?_
  refine RT.svp 13 ?_
  refine RT.svq 14 rfl (by intro w' hq; have hc0 := qcell hq c1; go_simp; try with_reducible rfl) ?_
  refine RT.svq 15 rfl (by intro w' hq; have hc0 := qcell hq d0; have hc1 := qcell hq d1; have hc2 := qcell hq d2; have hc3 := qcell hq d3; go_simp; try with_reducible rfl) ?_
  refine RT.steadily_call (i := 16) (v := _) rfl rfl (by kernel_rfl) (by kernel_rfl) (fun _ _ _ h => h) (by rfl) ?_ (fun w' hq => HR.out w' (hEd.ofQ hq)) ?_
  · (intro w' hq; go_simp; try with_reducible rfl)
  simp only [Act.put, List.setIfInBounds_toArray, List.set_cons_zero, List.set_cons_succ]
  refine RT.steadily_call (i := 17) (v := _) rfl rfl (by kernel_rfl) (by kernel_rfl) (fun _ _ _ h => h) (by rfl) ?_ (fun w' hq => HO2.out w' (hEd.ofQ hq)) ?_
  · (intro w' hq; go_simp; try with_reducible rfl)
  simp only [Act.put, List.setIfInBounds_toArray, List.set_cons_zero, List.set_cons_succ]
  refine RT.svp 18 ?_
  refine RT.svp 19 ?_
  refine RT.svp 20 ?_
  refine RT.svp 21 ?_
  refine RT.svq 22 rfl (by intro w' hq; have hc0 := qcell hq c2; go_simp; try with_reducible rfl) ?_
  refine RT.svp 23 ?_
  refine RT.svp 24 ?_
  refine RT.svp 25 ?_
  rotate_left
  refine RT.wpIn_steadily 26 hmix (by kernel_rfl) rfl ?_
  refine RT.svp 0 ?_
  refine RT.svp 1 ?_
  refine RT.svq 2 rfl (by intro w' hq; have hc0 := qcell hq c0; go_simp; try with_reducible rfl) ?_
  refine RT.svp 3 ?_
  refine RT.svq 4 rfl (by intro w' hq; have hc0 := qcell hq d3; go_simp; try with_reducible rfl) ?_
  refine RT.svp 5 ?_
  refine RT.svp 6 ?_
  refine RT.svp 7 ?_
  refine RT.svq 8 rfl (by intro w' hq; have hc0 := qcell hq c1; go_simp; try with_reducible rfl) ?_
  refine RT.steadily_call (i := 9) (v := _) rfl rfl (by kernel_rfl) (by kernel_rfl) (fun _ _ _ h => h) (by rfl) ?_ (fun w' hq => HO1.out w' (hEd.ofQ hq)) ?_
  · (intro w' hq; go_simp; try with_reducible rfl)
  simp only [Act.put, List.setIfInBounds_toArray, List.set_cons_zero, List.set_cons_succ]
  refine RT.svp 10 ?_
  refine RT.svp 11 ?_
  refine RT.svp 12 ?_
  refine RT.svp 13 ?_
  refine RT.svq 14 rfl (by intro w' hq; have hc0 := qcell hq c1; go_simp; try with_reducible rfl) ?_
  refine RT.svq 15 rfl (by intro w' hq; have hc0 := qcell hq d0; have hc1 := qcell hq d1; have hc2 := qcell hq d2; have hc3 := qcell hq d3; go_simp; try with_reducible rfl) ?_
  refine RT.steadily_call (i := 16) (v := _) rfl rfl (by kernel_rfl) (by kernel_rfl) (fun _ _ _ h => h) (by rfl) ?_ (fun w' hq => HR.out w' (hEd.ofQ hq)) ?_
  · (intro w' hq; go_simp; try with_reducible rfl)
  simp only [Act.put, List.setIfInBounds_toArray, List.set_cons_zero, List.set_cons_succ]
  refine RT.steadily_call (i := 17) (v := _) rfl rfl (by kernel_rfl) (by kernel_rfl) (fun _ _ _ h => h) (by rfl) ?_ (fun w' hq => HO2.out w' (hEd.ofQ hq)) ?_
  · (intro w' hq; go_simp; try with_reducible rfl)
  simp only [Act.put, List.setIfInBounds_toArray, List.set_cons_zero, List.set_cons_succ]
  refine RT.svp 18 ?_
  refine RT.svp 19 ?_
  refine RT.svp 20 ?_
  refine RT.svi 21 ?_
  refine RT.svi 22 ?_
  refine RT.svi 23 ?_
  refine RT.svi 24 ?_
  refine RT.svp 25 ?_
  rotate_left
  all_goals
    refine RT.steadily_done (by kernel_rfl) (fun w7 hq7 => ?_)
    simp only [List.drop_succ_cons, List.drop_zero]
    have hqq : Q w5 w7 := Q.trans (Below.drew (Q.refl w5)) hq7
    have hJ7 := hJ _ _ _ hJ5 hqq
    have hYK := HY1.out w7 hJ7 rfl
    obtain ⟨fn, tmps, assign, body, hy, hR⟩ := hYK
    clear c0 c1 c2 d0 d1 d2 d3 HO1 HO2 HR HC
    gi_wp2
    refine hR.mono ?_
    rintro e W9 (⟨rfl, hJ9, hk9⟩ | ⟨rfl, hJx9⟩)
    · gi_wp2
      go_end0
      exact ⟨⟨_, rfl⟩, .inl ⟨_, hp2, hJ9⟩⟩
    · gi_wp2
      go_end0
      exact ⟨⟨_, rfl⟩, .inr ⟨_, ⟨2, by omega, hp2⟩, hJx9⟩⟩

theorem checks_nextG (x : Raf) (hx : RafBd x) (q : Rat) (hq : NotchQ q) (Bn Bx : Nat) (w : World) (m : Nat) (hm : 1 ≤ m) (hBn : Blk w Bn [.string ⟨(rstr (x.over : Rat)).toArray⟩, .string ⟨(rstr q).toArray⟩, .string ⟨(rstr (q * x.pitch)).toArray⟩] 41) (hBx : Blk w Bx (rafC x) 85) :
    SeqNextS m Tryz.prog 140 #[.pointer (some ⟨Bn, 0, none⟩), .pointer (some ⟨Bx, 0, none⟩)] (chkG (longG x q) (decide (ordF q (x.run - x.over) ≤ 0))) [Bn, Bx] (fun _ W => Env W) nxUp (fun ys => UpN 2 ys) (fun pre => ∃ k, k ≤ 2 ∧ UpN k pre) w := fun l J Jx W hW hPc hst hY h0 => by
  refine (checks1_nxG x hx q hq _ rfl m hm l Bn Bx J Jx hPc hY hst W (BlkK hBn hW) (BlkK hBx hW) h0).mono ?_
  rintro e W' ⟨hv, ⟨ys, hys, hJ⟩ | ⟨pre, hp, hJx⟩⟩
  · exact ⟨hv, .inl ⟨_, hys, hJ⟩⟩
  · exact ⟨hv, .inr ⟨pre, hp, hJx⟩⟩

end Go.Proofs.YtlbjjkmfcgcodaaGreatDoor
