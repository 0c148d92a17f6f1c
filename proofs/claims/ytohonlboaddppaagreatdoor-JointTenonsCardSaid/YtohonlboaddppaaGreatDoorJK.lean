/-
  Walks of package joint: the checks of a notch, notched.; Walks of package joint: notched.; Walks of package joint: what is left at a birdsmouth.
-/
import Derived.Test.YtohonlboaddppaaGreatDoorJJ
import Derived.Test.YtohonlboaddppaaGreatDoorWQ
namespace Go.Proofs.YtohonlboaddppaaGreatDoor
open Go.RowKit Go.Shelf Kp
attribute [local go_sem] Oper.semAt_some
theorem checks_one (q : Rat) (h : Bd 36 q) (w : World) (hE : Env w) :
    Calls Tryz.prog 108 #[.string ⟨(rstr q).toArray⟩] w fun e w' => e = .returned (.bool false) ∧ Q w w' := by
  have HO := Lib.hid (fun w hw => joint_short q h w hw)
  generalize rstr q = S at *
  clear h
  go_enter Tryz.func108, Tryz.ntmps108
  have hQ0 := Q.refl w
  go_wp2_with fail
  refine (HO.out _ (hE.ofQ bt)).mono ?_
  rintro e w1 ⟨rfl, hq1⟩
  have hs1 : Q w w1 := Q.trans bt hq1
  have hQ1 : Q w w1 := Q.trans hQ0 hs1
  go_wp2
  go_ret
  exact ⟨rfl, hQ1⟩
set_option maxRecDepth 100000 in
set_option maxHeartbeats 1000000 in
theorem index_short (l : List Rat) (hl : ∀ q ∈ l, Bd 36 q) (hn : l.length ≤ 100) (v : Value) (w : World) (hE : Env w) (hv : StrSl w v (l.map rstr)) :
    Calls Tryz.prog 58 #[v, .func (.func 108) #[] #[]] w fun e w' => e = .returned (.int .i64 (-1)) ∧ Q w w' := by
  obtain ⟨b, o, cap, rfl, hb, hc⟩ := hv
  rw [List.length_map] at hc
  rw [List.length_map]
  have HL := Lib.hid hl
  clear hl
  go_enter Tryz.func58, Tryz.ntmps58
  go_wp2
  go_loopw [8] (fun i wr => ∃ k : Nat, k ≤ l.length ∧ i = .int .i64 k ∧ Q w wr) (fun i _ => l.length - (intOf i).toNat)
  case atStart => exact ⟨0, by omega, rfl, Below.refl _ _⟩
  case round =>
    obtain ⟨k, hk, rfl, hQ⟩ := hrel
    by_cases hlt : k < l.length
    · have hcell := hc k hlt
      have hcell' : wr.cell? ⟨b, o + k, none⟩ = some (.string ⟨((l.map rstr).getD k []).toArray⟩) := by rw [hQ.cell (p := ⟨b, o + k, none⟩) hb]; exact hcell
      have hq : (l.map rstr).getD k [] = rstr l[k] := by rw [List.getD_eq_getElem?_getD, List.getElem?_map, List.getElem?_eq_getElem hlt]; rfl
      rw [hq] at hcell'
      have HG := Lib.hid (fun w hw => checks_one l[k] (HL.out _ (List.getElem_mem hlt)) w hw)
      clear hcell hc hq HL
      generalize rstr l[k] = S at *
      go_wp2_with fail
      refine (HG.out _ (hE.q hQ)).mono ?_
      rintro e w2 ⟨rfl, hq2⟩
      have hQ2 : Q w w2 := Q.trans hQ hq2
      go_wp2
      go_roundw
      case rel => exact ⟨k + 1, by omega, by go_num, hQ2⟩
      case measure => simp [intOf]; omega
    · obtain rfl : k = l.length := by omega
      go_wp2
      go_ret
      exact ⟨rfl, hQ⟩
set_option maxHeartbeats 1000000 in
theorem contains_short (l : List Rat) (hl : ∀ q ∈ l, Bd 36 q) (hn : l.length ≤ 100) (v : Value) (w : World) (hE : Env w) (hv : StrSl w v (l.map rstr)) :
    Calls Tryz.prog 31 #[v, .func (.func 108) #[] #[]] w fun e w' => e = .returned (.bool false) ∧ Q w w' := by
  have HI := Lib.hid (index_short l hl hn v w hE hv)
  clear hl hv
  go_enter Tryz.func31, Tryz.ntmps31
  go_wp2_with fail
  refine HI.out.mono ?_
  rintro e w1 ⟨rfl, hq1⟩
  go_wp2
  go_ret
  exact ⟨rfl, hq1⟩
theorem raf_checks (x y z u p q r : Value) (w : World) :
    Calls Tryz.prog 67 #[.agg #[x, y, z, u], .agg #[p, q, r]] w fun e w' => e = .returned (.func (.func 107) #[] #[.pointer (some ⟨w.heap.size + 1, 0, none⟩), .pointer (some ⟨w.heap.size, 0, none⟩)]) ∧
      w' = (w.alloc (.cells #[x, y, z, u] 100)).alloc (.cells #[p, q, r] 58) := by
  go_enter Tryz.func67, Tryz.ntmps67
  go_wp2
  go_ret
  exact ⟨rfl, rfl⟩
def chkEnc (x : PlN 2) : Array Value := #[.bool true, .int .i64 (if x.1 = 0 then 1 else 9)]
structure NotchOk (x : Raf) (q : Rat) : Prop where
  b : Bd 12 q
  p : 0 < q
  r : q ≤ x.run - x.over
set_option maxRecDepth 100000 in
set_option maxHeartbeats 4000000 in
theorem checks1_nx (x : Raf) (hx : RafBd x) (q : Rat) (hq : NotchOk x q) (m : Nat) (hm : 1 ≤ m) (l Bn Bx : Nat) (J Jx : List (PlN 2) → World → Prop) (hPc : ∀ pre W, J pre W → Env W)
    (hY : ∀ pre y W, J pre W → nxUp pre y → YieldAt Fence.wide (m - 1) Tryz.prog l (chkEnc y) W fun e W' =>
      (e = .returned (.bool true) ∧ J (pre ++ [y]) W' ∧ KeepB [Bn, Bx] W W') ∨ (e = .returned (.bool false) ∧ Jx (pre ++ [y]) W'))
    (hJ : ∀ pre W W', J pre W → Q W W' → J pre W')
    (W : World) (hBn : Blk W Bn [.string ⟨(rstr (x.over : Rat)).toArray⟩, .string ⟨(rstr q).toArray⟩, .string ⟨(rstr (q * x.pitch)).toArray⟩] 58) (hBx : Blk W Bx (rafC x) 100) (h0 : J [] W) :
    CallsIn Fence.wide m Tryz.prog 107 #[.func (.yield l) #[] #[], .pointer (some ⟨Bn, 0, none⟩), .pointer (some ⟨Bx, 0, none⟩)] W fun e W' => (∃ v, e = .returned v) ∧
      ((∃ ys, UpN 2 ys ∧ J ys W') ∨ (∃ pre, (∃ k, k ≤ 2 ∧ UpN k pre) ∧ Jx pre W')) := by
  refine callsIn_of_wp Tryz.func107 rfl trivial ?_ rfl
  simp only [Tryz.ntmps107, List.size_toArray, List.length_cons, List.length_nil, Nat.reduceAdd, Nat.reduceSub, Array.replicate_succ, Array.replicate_zero, List.push_toArray, List.append_toArray, List.nil_append, List.cons_append]
  have hmix : Tryz.prog.follows .mixedOrders = true := by kernel_rfl
  have bo := hx.ov
  have bm := hq.b.mul hx.p
  have HC := Lib.hid (fun v W hW hv => contains_short [(x.over : Rat), q, q * x.pitch] (by
    intro y hy
    simp only [List.mem_cons, List.not_mem_nil, or_false] at hy
    rcases hy with rfl | rfl | rfl
    · exact bo.mono (by decide)
    · exact hq.b.mono (by decide)
    · exact bm.mono (by decide)) (by simp) v W hW hv)
  have HM := Lib.hid (fun w hw => rational_Mul_bd q x.pitch hq.b hx.p (by decide) w hw)
  have HO1 := Lib.hid (fun w hw => joint_order q 0 hq.b (bd_nil (n := 1) (by decide)) (by decide) w hw)
  rw [ordF_gt hq.p, rstr_zero] at HO1
  have HR := Lib.hid (fun w hw => joint_room x.dep (rstr x.pitch) x.run (x.over : Rat) hx.r bo (by decide) w hw)
  have HO2 := Lib.hid (fun w hw => joint_order q (x.run - x.over) hq.b (hx.r.less bo) (by decide) w hw)
  have hor : ordF q (x.run - x.over) = -1 ∨ ordF q (x.run - x.over) = 0 := by
    by_cases h : q < x.run - x.over
    · exact .inl (ordF_lt h)
    · exact .inr (by rw [← Rat.le_antisymm hq.r (Rat.not_lt.1 h), ordF_eq])
  generalize ordF q (x.run - x.over) = od at *
  have hY0 := hY [] ⟨0, by decide⟩
  have hY1 := hY [⟨0, by decide⟩] ⟨1, by decide⟩
  have hp0 : UpN 0 ([] : List (PlN 2)) := rfl
  have hp1 := hp0.next ⟨0, by decide⟩ rfl
  have hp2 := hp1.next ⟨1, by decide⟩ rfl
  unfold chkEnc at hY0 hY1
  simp only [if_true, Nat.one_ne_zero, if_false] at hY0 hY1
  unfold rafC at hBx
  simp only [List.map_cons, List.map_nil] at HC
  obtain ⟨dp, pitch, run, over⟩ := x
  simp only at HC HM HR HO2 hBn hBx
  generalize rstr (q * pitch) = HE at *
  generalize rstr (run - (over : Rat)) = RM at *
  generalize rstr (over : Rat) = OV at *
  generalize rstr pitch = PI at *
  generalize rstr run = HI at *
  generalize rstr q = SS at *
  have HY0 := Lib.hid hY0
  have HY1 := Lib.hid hY1
  clear bo bm hq hx hY hY0 hY1
  have n0 := hBn.cell 0
  have n1 := hBn.cell 1
  have n2 := hBn.cell 2
  simp only [List.getElem?_cons_zero, List.getElem?_cons_succ] at n0 n1 n2
  have hEw := hPc _ _ h0
  have T := Blk.new W [.string ⟨OV.toArray⟩, .string ⟨SS.toArray⟩, .string ⟨HE.toArray⟩] 22
  have hqT : Q W (W.alloc (.cells ([.string ⟨OV.toArray⟩, .string ⟨SS.toArray⟩, .string ⟨HE.toArray⟩] : List Value).toArray 22)) := (Below.refl _ W).alloc (Nat.le_refl _) _
  rcases hor with rfl | rfl
  all_goals
    gi_wp2
    refine ⟨trivial, ?_⟩
    refine (callsIn_wide.2 (HC.out _ _ (hEw.ofQ hqT) (StrSl.three T))).mono ?_
    rintro e w3 ⟨rfl, hq3⟩
    have hqw : Q W w3 := Q.trans hqT hq3
    have hJ3 := hJ _ _ _ h0 hqw
    have hYK := HY0.out w3 hJ3 rfl
    obtain ⟨fn, tmps, assign, body, hy, hR⟩ := hYK
    gi_wp2
    refine hR.mono ?_
    rintro e W3 (⟨rfl, hJ4, hk4⟩ | ⟨rfl, hJx4⟩)
    · have hkb : KeepB [Bn, Bx] W W3 := (KeepB.q hqw).trans hk4
      have hBn3 : Blk W3 Bn [.string ⟨OV.toArray⟩, .string ⟨SS.toArray⟩, .string ⟨HE.toArray⟩] 58 := (hkb Bn (by simp) hBn.lt).trans hBn
      have hBx3 : Blk W3 Bx [.int .i64 dp, .string ⟨PI.toArray⟩, .string ⟨HI.toArray⟩, .string ⟨OV.toArray⟩] 100 := (hkb Bx (by simp) hBx.lt).trans hBx
      have hE4 := hPc _ _ hJ4
      have a0 := hBn3.cell 0
      have a1 := hBn3.cell 1
      have a2 := hBn3.cell 2
      have b0 := hBx3.cell 0
      have b1 := hBx3.cell 1
      have b2 := hBx3.cell 2
      have b3 := hBx3.cell 3
      simp only [List.getElem?_cons_zero, List.getElem?_cons_succ] at a0 a1 a2 b0 b1 b2 b3
      clear n0 n1 n2 hR hy HY0
      gi_wp2
      refine ⟨trivial, ?_⟩
      refine (callsIn_wide.2 (HM.out _ hE4)).mono ?_
      rintro e w5 ⟨rfl, hq5⟩
      have hJ5 := hJ _ _ _ hJ4 hq5
      have hE5 := hPc _ _ hJ5
      have hEd : Env w5.drew := hE5.ofQ (Below.drew (Q.refl w5))
      have c0 : w5.drew.cell? ⟨Bn, 0, none⟩ = _ := qcell hq5 a0
      have c1 : w5.drew.cell? ⟨Bn, 1, none⟩ = _ := qcell hq5 a1
      have c2 : w5.drew.cell? ⟨Bn, 2, none⟩ = _ := qcell hq5 a2
      have d0 : w5.drew.cell? ⟨Bx, 0, none⟩ = _ := qcell hq5 b0
      have d1 : w5.drew.cell? ⟨Bx, 1, none⟩ = _ := qcell hq5 b1
      have d2 : w5.drew.cell? ⟨Bx, 2, none⟩ = _ := qcell hq5 b2
      have d3 : w5.drew.cell? ⟨Bx, 3, none⟩ = _ := qcell hq5 b3
      clear a0 a1 a2 b0 b1 b2 b3 HM
      gi_wp2
      refine RT.wpIn_steadily 26 hmix (by kernel_rfl) rfl ?_
      refine RT.svp 0 ?_
      refine RT.svp 1 ?_
      refine RT.svq 2 rfl (by intro w' hq; have hc0 := qcell hq c0; go_simp; try with_reducible rfl) ?_
      refine RT.svp 3 ?_
      refine RT.svq 4 rfl (by intro w' hq; have hc0 := qcell hq d3; go_simp; try with_reducible rfl) ?_
      refine RT.svp 5 ?_
      refine RT.svp 6 ?_
      refine RT.svp 7 ?_
      refine RT.svq 8 rfl (by intro w' hq; have hc0 := qcell hq c1; go_simp; try with_reducible rfl) ?_
      refine RT.steadily_call (i := 9) (v := _) rfl rfl (by kernel_rfl) (by kernel_rfl) (fun _ _ _ h => h) (by rfl) ?_ (fun w' hq => HO1.out w' (hEd.ofQ hq)) ?_
      · (intro w' hq; go_simp; try with_reducible rfl)
      simp only [Act.put, List.setIfInBounds_toArray, List.set_cons_zero, List.set_cons_succ]
      refine RT.svp 10 ?_
      refine RT.svp 11 ?_
      refine RT.svp 12 ?_
      refine RT.svp 13 ?_
      refine RT.svq 14 rfl (by intro w' hq; have hc0 := qcell hq c1; go_simp; try with_reducible rfl) ?_
      refine RT.svq 15 rfl (by intro w' hq; have hc0 := qcell hq d0; have hc1 := qcell hq d1; have hc2 := qcell hq d2; have hc3 := qcell hq d3; go_simp; try with_reducible rfl) ?_
      refine RT.steadily_call (i := 16) (v := _) rfl rfl (by kernel_rfl) (by kernel_rfl) (fun _ _ _ h => h) (by rfl) ?_ (fun w' hq => HR.out w' (hEd.ofQ hq)) ?_
      · (intro w' hq; go_simp; try with_reducible rfl)
      simp only [Act.put, List.setIfInBounds_toArray, List.set_cons_zero, List.set_cons_succ]
      refine RT.steadily_call (i := 17) (v := _) rfl rfl (by kernel_rfl) (by kernel_rfl) (fun _ _ _ h => h) (by rfl) ?_ (fun w' hq => HO2.out w' (hEd.ofQ hq)) ?_
      · (intro w' hq; go_simp; try with_reducible rfl)
      simp only [Act.put, List.setIfInBounds_toArray, List.set_cons_zero, List.set_cons_succ]
      refine RT.svp 18 ?_
      refine RT.svp 19 ?_
      refine RT.svp 20 ?_
      refine RT.svp 21 ?_
      refine RT.svq 22 rfl (by intro w' hq; have hc0 := qcell hq c2; go_simp; try with_reducible rfl) ?_
      refine RT.svp 23 ?_
      refine RT.svp 24 ?_
      refine RT.svp 25 ?_
      refine RT.steadily_done (by kernel_rfl) (fun w7 hq7 => ?_)
      simp only [List.drop_succ_cons, List.drop_zero]
      have hqq : Q w5 w7 := Q.trans (Below.drew (Q.refl w5)) hq7
      have hJ7 := hJ _ _ _ hJ5 hqq
      have hYK := HY1.out w7 hJ7 rfl
      obtain ⟨fn, tmps, assign, body, hy, hR⟩ := hYK
      clear c0 c1 c2 d0 d1 d2 d3 HO1 HO2 HR HC
      gi_wp2
      refine hR.mono ?_
      rintro e W9 (⟨rfl, hJ9, hk9⟩ | ⟨rfl, hJx9⟩)
      · gi_wp2
        go_end0
        exact ⟨⟨_, rfl⟩, .inl ⟨_, hp2, hJ9⟩⟩
      · gi_wp2
        go_end0
        exact ⟨⟨_, rfl⟩, .inr ⟨_, ⟨2, by omega, hp2⟩, hJx9⟩⟩
    · gi_wp2
      refine bodyPost_ret (results_none rfl _ _ _) rfl ?_
      exact ⟨⟨_, rfl⟩, .inr ⟨_, ⟨1, by omega, hp1⟩, hJx4⟩⟩
theorem checks_next (x : Raf) (hx : RafBd x) (q : Rat) (hq : NotchOk x q) (Bn Bx : Nat) (w : World) (m : Nat) (hm : 1 ≤ m) (hBn : Blk w Bn [.string ⟨(rstr (x.over : Rat)).toArray⟩, .string ⟨(rstr q).toArray⟩, .string ⟨(rstr (q * x.pitch)).toArray⟩] 58) (hBx : Blk w Bx (rafC x) 100) :
    SeqNextS m Tryz.prog 107 #[.pointer (some ⟨Bn, 0, none⟩), .pointer (some ⟨Bx, 0, none⟩)] chkEnc [Bn, Bx] (fun _ W => Env W) nxUp (fun ys => UpN 2 ys) (fun pre => ∃ k, k ≤ 2 ∧ UpN k pre) w := fun l J Jx W hW hPc hst hY h0 => by
  refine (checks1_nx x hx q hq m hm l Bn Bx J Jx hPc hY hst W (BlkK hBn hW) (BlkK hBx hW) h0).mono ?_
  rintro e W' ⟨hv, ⟨ys, hys, hJ⟩ | ⟨pre, hp, hJx⟩⟩
  · exact ⟨hv, .inl ⟨_, hys, hJ⟩⟩
  · exact ⟨hv, .inr ⟨pre, hp, hJx⟩⟩
end Go.Proofs.YtohonlboaddppaaGreatDoor
namespace Go.Proofs.YtohonlboaddppaaGreatDoor
open Go.RowKit Go.Shelf Kp
attribute [local go_sem] Oper.semAt_some
theorem results_notched {W : World} {b c : Nat} {x y z u v : Value} (h : Blk W b [x, y, z, u] 100) (hc : W.cell? ⟨c, 0, none⟩ = some v) (fn : Func) (hf : fn.results = #[.cell 6 100, .cell 7 29]) (tmps : Array Value)
    (hp : tmps.getD 6 undef = .pointer (some ⟨b, 0, none⟩)) (hp5 : tmps.getD 7 undef = .pointer (some ⟨c, 0, none⟩)) :
    (results fn tmps).run Tryz.prog W = .ok (.tuple #[.agg #[x, y, z, u], v]) W := by
  have c0 := h.cell 0
  have c1 := h.cell 1
  have c2 := h.cell 2
  have c3 := h.cell 3
  simp only [List.getElem?_cons_zero, List.getElem?_cons_succ] at c0 c1 c2 c3
  simp only [Array.getD_eq_getD_getElem?] at hp hp5
  simp [results, hf, hp, hp5, go_sem, c0, c1, c2, c3, hc]
set_option maxRecDepth 100000 in
set_option maxHeartbeats 4000000 in
theorem notched_in (ro : Ro) (m : Mb) (x : Raf) (hx : RafBd x) (q : Rat) (hq : NotchOk x q) (w : World) (hE : Env w) (hof : OfC w ro m x) :
    CallsIn Fence.wide 9 Tryz.prog 40 #[.agg (roC ro).toArray, .agg (mbC m).toArray, .agg #[.string ⟨(rstr (x.over : Rat)).toArray⟩, .string ⟨(rstr q).toArray⟩, .string ⟨(rstr (q * x.pitch)).toArray⟩]] w fun e w' => e = .returned (.tuple #[.agg (rafC x).toArray, .int .i64 0]) ∧ Q w w' := by
  refine callsIn_of_wp_marks Tryz.func40 rfl trivial ?_ rfl
  simp only [Tryz.ntmps40, List.size_toArray, List.length_cons, List.length_nil, Nat.reduceAdd, Nat.reduceSub, Array.replicate_succ, Array.replicate_zero, List.push_toArray, List.append_toArray, List.nil_append, List.cons_append]
  refine wpIn_wide.2 ?_
  have HO := Lib.hid hof
  have HN : Hid (∀ Bn Bx W, Blk W Bn [.string ⟨(rstr (x.over : Rat)).toArray⟩, .string ⟨(rstr q).toArray⟩, .string ⟨(rstr (q * x.pitch)).toArray⟩] 58 → Blk W Bx (rafC x) 100 →
      SeqNextS 8 Tryz.prog 107 #[.pointer (some ⟨Bn, 0, none⟩), .pointer (some ⟨Bx, 0, none⟩)] chkEnc [Bn, Bx] (fun _ W => Env W) nxUp (fun ys => UpN 2 ys) (fun pre => ∃ k, k ≤ 2 ∧ UpN k pre) W) := Lib.hid (fun Bn Bx W h1 h2 => checks_next x hx q hq Bn Bx W 8 (by omega) h1 h2)
  unfold OfC at HO
  unfold rafC at HN HO
  unfold rafC
  unfold roC Sl3.v mbC at HO
  unfold roC Sl3.v mbC
  clear hx hq hof
  obtain ⟨⟨a0, n0, c0⟩, ⟨a1, n1, c1⟩, ⟨a2, n2, c2⟩, ⟨a3, n3, c3⟩⟩ := ro
  obtain ⟨ki, fa, ot, fx, fy, fz, tx, ty, tz, wi, de⟩ := m
  obtain ⟨dp, pitch, run, over⟩ := x
  simp only at HO HN ⊢
  generalize rstr (q * pitch) = HE at *
  generalize rstr q = SS at *
  generalize rstr (over : Rat) = OV at *
  generalize rstr pitch = PI at *
  generalize rstr run = HI at *
  obtain ⟨W0, hW0⟩ : ∃ W0, ((((w.alloc (.cells #[.slice a0 n0 c0, .slice a1 n1 c1, .slice a2 n2 c2, .slice a3 n3 c3] 54)).alloc (.cells #[.int .i64 ki, .int .i64 fa, .int .i64 ot, .string ⟨fx.toArray⟩, .string ⟨fy.toArray⟩, .string ⟨fz.toArray⟩, .string ⟨tx.toArray⟩, .string ⟨ty.toArray⟩, .string ⟨tz.toArray⟩, .int .i64 wi, .int .i64 de] 26)).alloc (.cells #[.string ⟨OV.toArray⟩, .string ⟨SS.toArray⟩, .string ⟨HE.toArray⟩] 58)).alloc (.cells #[.int .i64 0, .string ⟨#[]⟩, .string ⟨#[]⟩, .string ⟨#[]⟩] 100)).alloc (.cells #[.int .i64 0] 29) = W0 := ⟨_, rfl⟩
  have hq0 : Q w W0 := by rw [← hW0]; exact bt
  have hs0 : W0.heap.size = w.heap.size + 5 := by rw [← hW0]; simp
  have BR : Blk W0 w.heap.size [.slice a0 n0 c0, .slice a1 n1 c1, .slice a2 n2 c2, .slice a3 n3 c3] 54 := by
    rw [← hW0]
    exact ((((Blk.new w _ _).alloc _).alloc _).alloc _).alloc _
  have BM : Blk W0 (w.heap.size + 1) [.int .i64 ki, .int .i64 fa, .int .i64 ot, .string ⟨fx.toArray⟩, .string ⟨fy.toArray⟩, .string ⟨fz.toArray⟩, .string ⟨tx.toArray⟩, .string ⟨ty.toArray⟩, .string ⟨tz.toArray⟩, .int .i64 wi, .int .i64 de] 26 := by
    rw [← hW0]
    have := (((Blk.new (w.alloc (.cells #[.slice a0 n0 c0, .slice a1 n1 c1, .slice a2 n2 c2, .slice a3 n3 c3] 54)) [.int .i64 ki, .int .i64 fa, .int .i64 ot, .string ⟨fx.toArray⟩, .string ⟨fy.toArray⟩, .string ⟨fz.toArray⟩, .string ⟨tx.toArray⟩, .string ⟨ty.toArray⟩, .string ⟨tz.toArray⟩, .int .i64 wi, .int .i64 de] 26).alloc (.cells #[.string ⟨OV.toArray⟩, .string ⟨SS.toArray⟩, .string ⟨HE.toArray⟩] 58)).alloc (.cells #[.int .i64 0, .string ⟨#[]⟩, .string ⟨#[]⟩, .string ⟨#[]⟩] 100)).alloc (.cells #[.int .i64 0] 29)
    rw [World.size_alloc] at this; exact this
  have BN : Blk W0 (w.heap.size + 2) [.string ⟨OV.toArray⟩, .string ⟨SS.toArray⟩, .string ⟨HE.toArray⟩] 58 := by
    rw [← hW0]
    have := ((Blk.new ((w.alloc (.cells #[.slice a0 n0 c0, .slice a1 n1 c1, .slice a2 n2 c2, .slice a3 n3 c3] 54)).alloc (.cells #[.int .i64 ki, .int .i64 fa, .int .i64 ot, .string ⟨fx.toArray⟩, .string ⟨fy.toArray⟩, .string ⟨fz.toArray⟩, .string ⟨tx.toArray⟩, .string ⟨ty.toArray⟩, .string ⟨tz.toArray⟩, .int .i64 wi, .int .i64 de] 26)) [.string ⟨OV.toArray⟩, .string ⟨SS.toArray⟩, .string ⟨HE.toArray⟩] 58).alloc (.cells #[.int .i64 0, .string ⟨#[]⟩, .string ⟨#[]⟩, .string ⟨#[]⟩] 100)).alloc (.cells #[.int .i64 0] 29)
    rw [World.size_alloc, World.size_alloc] at this; exact this
  have BZ : Blk W0 (w.heap.size + 3) [.int .i64 0, .string ⟨#[]⟩, .string ⟨#[]⟩, .string ⟨#[]⟩] 100 := by
    rw [← hW0]
    have := (Blk.new (((w.alloc (.cells #[.slice a0 n0 c0, .slice a1 n1 c1, .slice a2 n2 c2, .slice a3 n3 c3] 54)).alloc (.cells #[.int .i64 ki, .int .i64 fa, .int .i64 ot, .string ⟨fx.toArray⟩, .string ⟨fy.toArray⟩, .string ⟨fz.toArray⟩, .string ⟨tx.toArray⟩, .string ⟨ty.toArray⟩, .string ⟨tz.toArray⟩, .int .i64 wi, .int .i64 de] 26)).alloc (.cells #[.string ⟨OV.toArray⟩, .string ⟨SS.toArray⟩, .string ⟨HE.toArray⟩] 58)) [.int .i64 0, .string ⟨#[]⟩, .string ⟨#[]⟩, .string ⟨#[]⟩] 100).alloc (.cells #[.int .i64 0] 29)
    rw [World.size_alloc, World.size_alloc, World.size_alloc] at this; exact this
  have BE : Blk W0 (w.heap.size + 4) [.int .i64 0] 29 := by
    rw [← hW0]
    have := Blk.new ((((w.alloc (.cells #[.slice a0 n0 c0, .slice a1 n1 c1, .slice a2 n2 c2, .slice a3 n3 c3] 54)).alloc (.cells #[.int .i64 ki, .int .i64 fa, .int .i64 ot, .string ⟨fx.toArray⟩, .string ⟨fy.toArray⟩, .string ⟨fz.toArray⟩, .string ⟨tx.toArray⟩, .string ⟨ty.toArray⟩, .string ⟨tz.toArray⟩, .int .i64 wi, .int .i64 de] 26)).alloc (.cells #[.string ⟨OV.toArray⟩, .string ⟨SS.toArray⟩, .string ⟨HE.toArray⟩] 58)).alloc (.cells #[.int .i64 0, .string ⟨#[]⟩, .string ⟨#[]⟩, .string ⟨#[]⟩] 100)) [.int .i64 0] 29
    rw [World.size_alloc, World.size_alloc, World.size_alloc, World.size_alloc] at this; exact this
  have hEw := hE.ofQ hq0
  have hQ0 := Q.refl W0
  replace r0 := BR.cell 0
  replace r1 := BR.cell 1
  replace r2 := BR.cell 2
  replace r3 := BR.cell 3
  simp only [List.getElem?_cons_zero, List.getElem?_cons_succ] at r0 r1 r2 r3
  replace lBR := BR.lt
  replace m0 := BM.cell 0
  replace m1 := BM.cell 1
  replace m2 := BM.cell 2
  replace m3 := BM.cell 3
  replace m4 := BM.cell 4
  replace m5 := BM.cell 5
  replace m6 := BM.cell 6
  replace m7 := BM.cell 7
  replace m8 := BM.cell 8
  replace m9 := BM.cell 9
  replace m10 := BM.cell 10
  simp only [List.getElem?_cons_zero, List.getElem?_cons_succ] at m0 m1 m2 m3 m4 m5 m6 m7 m8 m9 m10
  replace lBM := BM.lt
  go_wp2_with fail
  clear hW0
  refine (HO.out _ hEw hq0).mono ?_
  rintro e Y1 ⟨rfl, hq1⟩
  have hQ1 : Q w Y1 := Q.trans hq0 hq1
  replace BN := BlkK BN hq1
  replace BZ := BlkK BZ hq1
  replace BE := BlkK BE hq1
  have t0 := BN.cell 0
  have t1 := BN.cell 1
  have t2 := BN.cell 2
  simp only [List.getElem?_cons_zero, List.getElem?_cons_succ] at t0 t1 t2
  have hsy := hq1.size
  have lBN := BN.lt
  clear BR BM r0 r1 r2 r3 m0 m1 m2 m3 m4 m5 m6 m7 m8 m9 m10 lBR lBM HO hEw
  go_wp2_with fail
  refine (raf_checks _ _ _ _ _ _ _ _).mono ?_
  rintro e w2 ⟨rfl, rfl⟩
  obtain ⟨W2, hW2⟩ : ∃ W2, ((Y1.alloc (.cells #[.int .i64 dp, .string ⟨PI.toArray⟩, .string ⟨HI.toArray⟩, .string ⟨OV.toArray⟩] 100)).alloc (.cells #[.int .i64 dp, .string ⟨PI.toArray⟩, .string ⟨HI.toArray⟩, .string ⟨OV.toArray⟩] 100)).alloc (.cells #[.string ⟨OV.toArray⟩, .string ⟨SS.toArray⟩, .string ⟨HE.toArray⟩] 58) = W2 := ⟨_, rfl⟩
  have hq2 : Q Y1 W2 := by rw [← hW2]; exact bt
  have hs2 : W2.heap.size = Y1.heap.size + 3 := by rw [← hW2]; simp
  have X1 : Blk W2 Y1.heap.size [.int .i64 dp, .string ⟨PI.toArray⟩, .string ⟨HI.toArray⟩, .string ⟨OV.toArray⟩] 100 := by
    rw [← hW2]
    exact ((Blk.new Y1 _ _).alloc _).alloc _
  have X2 : Blk W2 (Y1.heap.size + 1) [.int .i64 dp, .string ⟨PI.toArray⟩, .string ⟨HI.toArray⟩, .string ⟨OV.toArray⟩] 100 := by
    rw [← hW2]
    have := (Blk.new (Y1.alloc (.cells #[.int .i64 dp, .string ⟨PI.toArray⟩, .string ⟨HI.toArray⟩, .string ⟨OV.toArray⟩] 100)) [.int .i64 dp, .string ⟨PI.toArray⟩, .string ⟨HI.toArray⟩, .string ⟨OV.toArray⟩] 100).alloc (.cells #[.string ⟨OV.toArray⟩, .string ⟨SS.toArray⟩, .string ⟨HE.toArray⟩] 58)
    rw [World.size_alloc] at this; exact this
  have X3 : Blk W2 (Y1.heap.size + 2) [.string ⟨OV.toArray⟩, .string ⟨SS.toArray⟩, .string ⟨HE.toArray⟩] 58 := by
    rw [← hW2]
    have := Blk.new ((Y1.alloc (.cells #[.int .i64 dp, .string ⟨PI.toArray⟩, .string ⟨HI.toArray⟩, .string ⟨OV.toArray⟩] 100)).alloc (.cells #[.int .i64 dp, .string ⟨PI.toArray⟩, .string ⟨HI.toArray⟩, .string ⟨OV.toArray⟩] 100)) [.string ⟨OV.toArray⟩, .string ⟨SS.toArray⟩, .string ⟨HE.toArray⟩] 58
    rw [World.size_alloc, World.size_alloc] at this; exact this
  replace BZ := BlkK BZ hq2
  replace BE := BlkK BE hq2
  rw [World.size_alloc, hW2]
  clear hW2 t0 t1 t2 BN lBN
  have hqW : Q w W2 := Q.trans hQ1 hq2
  go_wp2_with fail
  refine (wpIn_wide (n := 9)).1 ?_
  refine wpIn_rangeFunc_upP (m := 9) Env (gf := 107) (lb := #[.pointer (some ⟨Y1.heap.size + 1 + 1, 0, none⟩), .pointer (some ⟨Y1.heap.size + 1, 0, none⟩)]) (by omega) rfl (enters_of Tryz.func107 (by kernel_rfl) rfl)
    (HN.out _ _ W2 X3 X2) (fun k hk => by
      simp only [List.mem_cons, List.not_mem_nil, or_false] at hk
      rcases hk with rfl | rfl <;> omega) (fun _ => rfl)
    (fun k W => Blk W Y1.heap.size [.int .i64 dp, .string ⟨PI.toArray⟩, .string ⟨HI.toArray⟩, .string ⟨OV.toArray⟩] 100 ∧ Blk W (w.heap.size + 3) [.int .i64 0, .string ⟨#[]⟩, .string ⟨#[]⟩, .string ⟨#[]⟩] 100 ∧ Blk W (w.heap.size + 4) [.int .i64 0] 29 ∧ Q w W)
    (fun _ _ => False) (fun k W h => hE.ofQ h.2.2.2)
    (fun k W W' h kc hb => ⟨h.1.kc kc, h.2.1.kc kc, h.2.2.1.kc kc, Below.trans h.2.2.2 (hb.mono hqW.size)⟩) (fun _ _ _ h _ _ => h) ⟨X1, BZ, BE, hqW⟩
    (fun x ac W => ac = { tmps := #[.agg #[.slice a0 n0 c0, .slice a1 n1 c1, .slice a2 n2 c2, .slice a3 n3 c3], .agg #[.int .i64 ki, .int .i64 fa, .int .i64 ot, .string ⟨fx.toArray⟩, .string ⟨fy.toArray⟩, .string ⟨fz.toArray⟩, .string ⟨tx.toArray⟩, .string ⟨ty.toArray⟩, .string ⟨tz.toArray⟩, .int .i64 wi, .int .i64 de], .agg #[.string ⟨OV.toArray⟩, .string ⟨SS.toArray⟩, .string ⟨HE.toArray⟩], .pointer (some ⟨w.heap.size, 0, none⟩), .pointer (some ⟨w.heap.size + 1, 0, none⟩), .pointer (some ⟨w.heap.size + 1 + 1, 0, none⟩), .pointer (some ⟨w.heap.size + 1 + 1 + 1, 0, none⟩), .pointer (some ⟨w.heap.size + 1 + 1 + 1 + 1, 0, none⟩), .pointer (some ⟨Y1.heap.size, 0, none⟩), .int .i64 0, .bool true, .int .i64 (if x.1 = 0 then 1 else 9), .tuple #[.agg #[.int .i64 dp, .string ⟨PI.toArray⟩, .string ⟨HI.toArray⟩, .string ⟨OV.toArray⟩], .int .i64 0], .agg #[.slice a0 n0 c0, .slice a1 n1 c1, .slice a2 n2 c2, .slice a3 n3 c3], .agg #[.int .i64 ki, .int .i64 fa, .int .i64 ot, .string ⟨fx.toArray⟩, .string ⟨fy.toArray⟩, .string ⟨fz.toArray⟩, .string ⟨tx.toArray⟩, .string ⟨ty.toArray⟩, .string ⟨tz.toArray⟩, .int .i64 wi, .int .i64 de], .tuple #[.agg #[.int .i64 dp, .string ⟨PI.toArray⟩, .string ⟨HI.toArray⟩, .string ⟨OV.toArray⟩], .int .i64 0], .agg #[.int .i64 dp, .string ⟨PI.toArray⟩, .string ⟨HI.toArray⟩, .string ⟨OV.toArray⟩], .int .i64 0, .int .i64 0, .bool false, undef, undef, .agg #[.int .i64 dp, .string ⟨PI.toArray⟩, .string ⟨HI.toArray⟩, .string ⟨OV.toArray⟩], .agg #[.string ⟨OV.toArray⟩, .string ⟨SS.toArray⟩, .string ⟨HE.toArray⟩], .func (.func 107) #[] #[.pointer (some ⟨Y1.heap.size + 1 + 1, 0, none⟩), .pointer (some ⟨Y1.heap.size + 1, 0, none⟩)], .bool true, .int .i64 (if x.1 = 0 then 1 else 9), undef, undef, undef, undef, undef], defers := [] })
    (fun x ac W W' h kc => h)
    ?assign ?body ?done ?stop
  case assign =>
    intro l x W K hW hK
    have hk := hK _ W (Q.refl W) rfl
    clear hK
    unfold chkEnc
    generalize (if x.1 = 0 then (1 : Int) else 9) = ec at *
    gi_wp2
    exact hk
  case stop =>
    rintro D c W _ h _
    exact h.elim
  case body =>
    rintro l k hk a1 W ⟨h1, h2, h3, hQk⟩ rfl
    simp only
    generalize (if k = 0 then (1 : Int) else 9) = ec at *
    gi_wp2
    exact ⟨KeepsFrom.refl _ _, KeepB.refl _ _, h1, h2, h3, hQk⟩
  case done =>
    rintro D W hD ⟨h1, h2, h3, hQk⟩ hK
    have k0 := h1.cell 0
    have k1 := h1.cell 1
    have k2 := h1.cell 2
    have k3 := h1.cell 3
    have z0 := h2.cell 0
    have z1 := h2.cell 1
    have z2 := h2.cell 2
    have z3 := h2.cell 3
    have e0 := h3.cell 0
    simp only [List.getElem?_cons_zero, List.getElem?_cons_succ] at k0 k1 k2 k3 z0 z1 z2 z3 e0
    have g0 := h2.frozen 0
    have g1 := h2.frozen 1
    have g2 := h2.frozen 2
    have g3 := h2.frozen 3
    have ge := h3.frozen 0
    have Zf := ((((h2.set 0 (.int .i64 dp)).set 1 (.string ⟨PI.toArray⟩)).set 2 (.string ⟨HI.toArray⟩)).set 3 (.string ⟨OV.toArray⟩)).setOther (b' := w.heap.size + 4) (by omega) 0 (.int .i64 0)
    simp only [List.set_cons_zero, List.set_cons_succ] at Zf
    have Ef := (((((h3.setOther (b' := w.heap.size + 3) (by omega) 0 (.int .i64 dp)).setOther (b' := w.heap.size + 3) (by omega) 1 (.string ⟨PI.toArray⟩)).setOther (b' := w.heap.size + 3) (by omega) 2 (.string ⟨HI.toArray⟩)).setOther (b' := w.heap.size + 3) (by omega) 3 (.string ⟨OV.toArray⟩)).set 0 (.int .i64 0))
    simp only [List.set_cons_zero] at Ef
    have hbz : w.heap.size ≤ w.heap.size + 3 := by omega
    have hbe : w.heap.size ≤ w.heap.size + 4 := by omega
    have hQe := ((((hQk.setCell (p := ⟨w.heap.size + 3, 0, none⟩) hbz (.int .i64 dp)).setCell (p := ⟨w.heap.size + 3, 1, none⟩) hbz (.string ⟨PI.toArray⟩)).setCell (p := ⟨w.heap.size + 3, 2, none⟩) hbz (.string ⟨HI.toArray⟩)).setCell (p := ⟨w.heap.size + 3, 3, none⟩) hbz (.string ⟨OV.toArray⟩)).setCell (p := ⟨w.heap.size + 4, 0, none⟩) hbe (.int .i64 0)
    have hKo : ∀ (W : World) (a : Addr) (v : Value), W.heap[D]? = some (Obj.deferred (some [])) → (W.setCell a v).heap[D]? = some (Obj.deferred (some [])) := fun W a v h => (KeepsOthers.setCell W a v).same D _ h rfl
    have hK2 := hKo _ ⟨w.heap.size + 4, 0, none⟩ (.int .i64 0) (hKo _ ⟨w.heap.size + 3, 3, none⟩ (.string ⟨OV.toArray⟩) (hKo _ ⟨w.heap.size + 3, 2, none⟩ (.string ⟨HI.toArray⟩) (hKo _ ⟨w.heap.size + 3, 1, none⟩ (.string ⟨PI.toArray⟩) (hKo _ ⟨w.heap.size + 3, 0, none⟩ (.int .i64 dp) hK))))
    have kc := KC.put (.deferred none) hK2 rfl
    have hDw : w.heap.size ≤ D := by omega
    go_wp2
    refine ⟨by simp, .inl ⟨_, _, rfl, run_takeDeferred hK2, ?_⟩⟩
    exact ⟨_, results_notched (Zf.kc kc) ((Ef.kc kc).cell 0) _ rfl _ rfl rfl, rfl, Below.trans hQe (below_put hDw hK2 _)⟩
theorem joint_notched (ro : Ro) (m : Mb) (x : Raf) (hx : RafBd x) (q : Rat) (hq : NotchOk x q) (w : World) (hE : Env w) (hof : OfC w ro m x) :
    Calls Tryz.prog 40 #[.agg (roC ro).toArray, .agg (mbC m).toArray, .agg #[.string ⟨(rstr (x.over : Rat)).toArray⟩, .string ⟨(rstr q).toArray⟩, .string ⟨(rstr (q * x.pitch)).toArray⟩]] w fun e w' => e = .returned (.tuple #[.agg (rafC x).toArray, .int .i64 0]) ∧ Q w w' :=
  callsIn_wide.1 (notched_in ro m x hx q hq w hE hof)
end Go.Proofs.YtohonlboaddppaaGreatDoor
namespace Go.Proofs.YtohonlboaddppaaGreatDoor
open Go.RowKit Go.Shelf Kp
attribute [local go_sem] Oper.semAt_some
set_option maxRecDepth 100000 in
set_option maxHeartbeats 4000000 in
theorem joint_Left (ro : Ro) (m : Mb) (x : Raf) (hx : RafBd x) (q : Rat) (hq : NotchOk x q) (sq rest : Rat) (h1 : x.pitch * x.pitch + 1 = sq) (h0 : sq.num ≠ 0) (h2 : ((x.dep : Rat) - q * x.pitch) / sq = rest) (C : List Value)
    (hmk : ∀ b t w, Env w → Blk w b [.string ⟨(rstr rest).toArray⟩, .string ⟨(rstr sq).toArray⟩] t → Calls Tryz.prog 44 #[.slice (some ⟨b, 0, none⟩) 1 1] w fun e w' => ∃ v, e = .returned (.tuple #[v, .int .i64 0]) ∧ Q w w' ∧ w'.ownsRow w.heap.size 68 2 v 1 C)
    (w : World) (hE : Env w) (hof : OfC w ro m x) :
    Calls Tryz.prog 18 #[.agg (roC ro).toArray, .agg (mbC m).toArray, .agg #[.string ⟨(rstr (x.over : Rat)).toArray⟩, .string ⟨(rstr q).toArray⟩, .string ⟨(rstr (q * x.pitch)).toArray⟩]] w fun e w' => ∃ v, e = .returned (.tuple #[v, .int .i64 0]) ∧ Q w w' ∧ w'.ownsRow w.heap.size 68 2 v 1 C := by
  have HN : Hid (∀ W, Env W → Q w W → Calls Tryz.prog 40 #[.agg (roC ro).toArray, .agg (mbC m).toArray, .agg #[.string ⟨(rstr (x.over : Rat)).toArray⟩, .string ⟨(rstr q).toArray⟩, .string ⟨(rstr (q * x.pitch)).toArray⟩]] W fun e w' => e = .returned (.tuple #[.agg (rafC x).toArray, .int .i64 0]) ∧ Q W w') := Lib.hid (fun W hW hqW => joint_notched ro m x hx q hq W hW (fun W2 h2 hq2 => hof W2 h2 (Q.trans hqW hq2)))
  have bd : Bd 4 (x.dep : Rat) := bd_int (by have := hx.d1; have := hx.d2; omega) (by decide)
  have bh := hq.b.mul hx.p
  have bpp := hx.p.mul hx.p
  have HP := Lib.hid (fun w hw => rational_Mul_bd x.pitch x.pitch hx.p hx.p (by decide) w hw)
  have HA := Lib.hid (fun w hw => rational_Add_bd (x.pitch * x.pitch) 1 bpp bd_one (by decide) w hw)
  have bsq := bpp.add bd_one
  rw [h1] at HA bsq
  rw [show rstr (1 : Rat) = [49] from by kernel_rfl] at HA
  have HW := Lib.hid (fun w hw => joint_whole x.dep (by have := hx.d1; have := hx.d2; omega) w hw)
  have HS := Lib.hid (fun w hw => rational_Sub_bd (x.dep : Rat) (q * x.pitch) bd bh (by decide) w hw)
  have HV := Lib.hid (fun w hw => rational_Div_bd ((x.dep : Rat) - q * x.pitch) sq (bd.less bh) bsq h0 (by decide) w hw)
  rw [h2] at HV
  have HMk := Lib.hid hmk
  clear hmk hof hx hq bd bh bpp bsq h1 h0 h2
  unfold rafC roC Sl3.v mbC at HN
  unfold roC Sl3.v mbC
  obtain ⟨⟨a0, n0, c0⟩, ⟨a1, n1, c1⟩, ⟨a2, n2, c2⟩, ⟨a3, n3, c3⟩⟩ := ro
  obtain ⟨ki, fa, ot, fx, fy, fz, tx, ty, tz, wi, de⟩ := m
  obtain ⟨dp, pitch, run, over⟩ := x
  simp only at HN HP HA HW HS HV ⊢
  generalize rstr ((dp : Rat) - q * pitch) = RS at *
  generalize rstr (dp : Rat) = DD at *
  generalize rstr (pitch * pitch) = PP at *
  generalize rstr rest = RE at *
  generalize rstr sq = SQ at *
  generalize rstr (q * pitch) = HE at *
  generalize rstr q = SS at *
  generalize rstr (over : Rat) = OV at *
  generalize rstr pitch = PI at *
  generalize rstr run = HI at *
  have BR := ((Blk.new w [.slice a0 n0 c0, .slice a1 n1 c1, .slice a2 n2 c2, .slice a3 n3 c3] 54).alloc (.cells #[.int .i64 ki, .int .i64 fa, .int .i64 ot, .string ⟨fx.toArray⟩, .string ⟨fy.toArray⟩, .string ⟨fz.toArray⟩, .string ⟨tx.toArray⟩, .string ⟨ty.toArray⟩, .string ⟨tz.toArray⟩, .int .i64 wi, .int .i64 de] 26)).alloc (.cells #[.string ⟨OV.toArray⟩, .string ⟨SS.toArray⟩, .string ⟨HE.toArray⟩] 58)
  have BM := (Blk.new1 w (.cells #[.slice a0 n0 c0, .slice a1 n1 c1, .slice a2 n2 c2, .slice a3 n3 c3] 54) [.int .i64 ki, .int .i64 fa, .int .i64 ot, .string ⟨fx.toArray⟩, .string ⟨fy.toArray⟩, .string ⟨fz.toArray⟩, .string ⟨tx.toArray⟩, .string ⟨ty.toArray⟩, .string ⟨tz.toArray⟩, .int .i64 wi, .int .i64 de] 26).alloc (.cells #[.string ⟨OV.toArray⟩, .string ⟨SS.toArray⟩, .string ⟨HE.toArray⟩] 58)
  have BN := Blk.new2 w (.cells #[.slice a0 n0 c0, .slice a1 n1 c1, .slice a2 n2 c2, .slice a3 n3 c3] 54) (.cells #[.int .i64 ki, .int .i64 fa, .int .i64 ot, .string ⟨fx.toArray⟩, .string ⟨fy.toArray⟩, .string ⟨fz.toArray⟩, .string ⟨tx.toArray⟩, .string ⟨ty.toArray⟩, .string ⟨tz.toArray⟩, .int .i64 wi, .int .i64 de] 26) [.string ⟨OV.toArray⟩, .string ⟨SS.toArray⟩, .string ⟨HE.toArray⟩] 58
  obtain ⟨W0, hW0⟩ : ∃ W0, ((w.alloc (.cells #[.slice a0 n0 c0, .slice a1 n1 c1, .slice a2 n2 c2, .slice a3 n3 c3] 54)).alloc (.cells #[.int .i64 ki, .int .i64 fa, .int .i64 ot, .string ⟨fx.toArray⟩, .string ⟨fy.toArray⟩, .string ⟨fz.toArray⟩, .string ⟨tx.toArray⟩, .string ⟨ty.toArray⟩, .string ⟨tz.toArray⟩, .int .i64 wi, .int .i64 de] 26)).alloc (.cells #[.string ⟨OV.toArray⟩, .string ⟨SS.toArray⟩, .string ⟨HE.toArray⟩] 58) = W0 := ⟨_, rfl⟩
  have hq0 : Q w W0 := by rw [← hW0]; exact bt
  have hEw := hE.ofQ hq0
  rw [hW0] at BR BM
  have BN : Blk W0 (w.heap.size + 2) [.string ⟨OV.toArray⟩, .string ⟨SS.toArray⟩, .string ⟨HE.toArray⟩] 58 := by rw [← hW0]; exact BN
  clear hE
  have hE := hEw
  clear hEw
  have hQ0 := Q.refl W0
  replace r0 := BR.cell 0
  replace r1 := BR.cell 1
  replace r2 := BR.cell 2
  replace r3 := BR.cell 3
  simp only [List.getElem?_cons_zero, List.getElem?_cons_succ] at r0 r1 r2 r3
  replace lBR := BR.lt
  replace m0 := BM.cell 0
  replace m1 := BM.cell 1
  replace m2 := BM.cell 2
  replace m3 := BM.cell 3
  replace m4 := BM.cell 4
  replace m5 := BM.cell 5
  replace m6 := BM.cell 6
  replace m7 := BM.cell 7
  replace m8 := BM.cell 8
  replace m9 := BM.cell 9
  replace m10 := BM.cell 10
  simp only [List.getElem?_cons_zero, List.getElem?_cons_succ] at m0 m1 m2 m3 m4 m5 m6 m7 m8 m9 m10
  replace lBM := BM.lt
  replace t0 := BN.cell 0
  replace t1 := BN.cell 1
  replace t2 := BN.cell 2
  simp only [List.getElem?_cons_zero, List.getElem?_cons_succ] at t0 t1 t2
  replace lBN := BN.lt
  go_enter Tryz.func18, Tryz.ntmps18
  go_wp2_with fail
  clear hW0
  refine (HN.out _ hE hq0).mono ?_
  rintro e Y1 ⟨rfl, hq1⟩
  have hQ1 : Q w Y1 := Q.trans hq0 hq1
  have X := Blk.new Y1 [.int .i64 dp, .string ⟨PI.toArray⟩, .string ⟨HI.toArray⟩, .string ⟨OV.toArray⟩] 100
  obtain ⟨W2, hW2⟩ : ∃ W2, Y1.alloc (.cells #[.int .i64 dp, .string ⟨PI.toArray⟩, .string ⟨HI.toArray⟩, .string ⟨OV.toArray⟩] 100) = W2 := ⟨_, rfl⟩
  have X : Blk W2 Y1.heap.size [.int .i64 dp, .string ⟨PI.toArray⟩, .string ⟨HI.toArray⟩, .string ⟨OV.toArray⟩] 100 := by rw [← hW2]; exact X
  have hqW : Q Y1 W2 := by rw [← hW2]; exact bt
  have hE2 := hE.ofQ (Q.trans hq1 hqW)
  have hwW : Q w W2 := Q.trans hQ1 hqW
  replace BN := BlkK (BlkK BN hq1) hqW
  clear hE HN BR BM r0 r1 r2 r3 m0 m1 m2 m3 m4 m5 m6 m7 m8 m9 m10 lBR lBM
  have hE := hE2
  clear hE2
  have hQ0 := Q.refl W2
  replace x0 := X.cell 0
  replace x1 := X.cell 1
  replace x2 := X.cell 2
  replace x3 := X.cell 3
  simp only [List.getElem?_cons_zero, List.getElem?_cons_succ] at x0 x1 x2 x3
  replace lX := X.lt
  replace t0 := BN.cell 0
  replace t1 := BN.cell 1
  replace t2 := BN.cell 2
  simp only [List.getElem?_cons_zero, List.getElem?_cons_succ] at t0 t1 t2
  replace lBN := BN.lt
  go_wp2_with fail
  clear hW2
  refine (HP.out _ (hE.ofQ bt)).mono ?_
  rintro e Z1 ⟨rfl, hq1⟩
  have hs1 : Q W2 Z1 := Q.trans bt hq1
  have hQ1 : Q W2 Z1 := Q.trans hQ0 hs1
  replace X := X.keep hs1 X.lt
  replace x0 := X.cell 0
  replace x1 := X.cell 1
  replace x2 := X.cell 2
  replace x3 := X.cell 3
  simp only [List.getElem?_cons_zero, List.getElem?_cons_succ] at x0 x1 x2 x3
  replace lX := X.lt
  replace BN := BN.keep hs1 BN.lt
  replace t0 := BN.cell 0
  replace t1 := BN.cell 1
  replace t2 := BN.cell 2
  simp only [List.getElem?_cons_zero, List.getElem?_cons_succ] at t0 t1 t2
  replace lBN := BN.lt
  go_wp2_with fail
  refine (HA.out _ (hE.ofQ bt)).mono ?_
  rintro e Z2 ⟨rfl, hq2⟩
  have hs2 : Q Z1 Z2 := Q.trans bt hq2
  have hQ2 : Q W2 Z2 := Q.trans hQ1 hs2
  replace X := X.keep hs2 X.lt
  replace x0 := X.cell 0
  replace x1 := X.cell 1
  replace x2 := X.cell 2
  replace x3 := X.cell 3
  simp only [List.getElem?_cons_zero, List.getElem?_cons_succ] at x0 x1 x2 x3
  replace lX := X.lt
  replace BN := BN.keep hs2 BN.lt
  replace t0 := BN.cell 0
  replace t1 := BN.cell 1
  replace t2 := BN.cell 2
  simp only [List.getElem?_cons_zero, List.getElem?_cons_succ] at t0 t1 t2
  replace lBN := BN.lt
  go_wp2_with fail
  have hEd : Env Z2.drew := hE.ofQ (Q.trans hQ2 (Below.drew (Q.refl Z2)))
  refine wp_steadily 11 rfl (by kernel_rfl) rfl ?_
  refine svp 0 ?_
  refine svq 1 rfl (by intro w' hq; have hc0 := qcell hq x0; go_simp; try with_reducible rfl) ?_
  refine steadily_call (i := 2) (v := _) rfl rfl (by kernel_rfl) (by kernel_rfl) (fun _ _ _ h => h) (by rfl) ?_ (fun w' hq => HW.out w' (hEd.ofQ hq)) ?_
  · (intro w' hq; go_simp; try with_reducible rfl)
  simp only [Act.put, List.setIfInBounds_toArray, List.set_cons_zero, List.set_cons_succ]
  refine svp 3 ?_
  refine svq 4 rfl (by intro w' hq; have hc0 := qcell hq t2; go_simp; try with_reducible rfl) ?_
  refine steadily_call (i := 5) (v := _) rfl rfl (by kernel_rfl) (by kernel_rfl) (fun _ _ _ h => h) (by rfl) ?_ (fun w' hq => HS.out w' (hEd.ofQ hq)) ?_
  · (intro w' hq; go_simp; try with_reducible rfl)
  simp only [Act.put, List.setIfInBounds_toArray, List.set_cons_zero, List.set_cons_succ]
  refine svp 6 ?_
  refine svp 7 ?_
  refine svp 8 ?_
  refine svp 9 ?_
  refine svp 10 ?_
  refine steadily_done (by kernel_rfl) (fun w3 hq3 => ?_)
  simp only [List.drop_succ_cons, List.drop_nil]
  have hqa : Q Z2 w3 := Q.trans (Below.drew (Q.refl Z2)) hq3
  have hQ3 : Q W2 w3 := Q.trans hQ2 hqa
  have hE3 := hE.ofQ hQ3
  clear hq3 HW HS hEd HP HA
  go_wp2_with fail
  refine (HV.out _ hE3).mono ?_
  rintro e w4 ⟨rfl, hq4⟩
  have hQ4 : Q W2 w4 := Q.trans hQ3 hq4
  have hqm : Q w4 (w4.alloc (.cells [Value.string ⟨RE.toArray⟩, .string ⟨SQ.toArray⟩].toArray 68)) := (Below.refl _ w4).alloc (Nat.le_refl _) _
  have hQ5 := Q.trans hQ4 hqm
  go_wp2_with fail
  refine (HMk.out w4.heap.size 68 _ (hE.ofQ hQ5) (Blk.new w4 _ _)).mono ?_
  rintro e w6 ⟨v, rfl, hq6, hown⟩
  have hwm := (Q.trans hwW hQ5).size
  have hown2 := ownsRow_low hown hwm
  have hQe := Q.trans hwW (Q.trans hQ5 hq6)
  go_wp2
  go_ret2
  exact ⟨v, rfl, hQe, hown2⟩
end Go.Proofs.YtohonlboaddppaaGreatDoor
