/-
  Walks of package cutlist: the words of a line.
-/
import Derived.Test.YtohlpeicpoaanaaGreatDoorCV
import Derived.Test.YtohlpeicpoaanaaGreatDoorCSup
import Derived.Test.YtohlpeicpoaanaaGreatDoorShelfE
namespace Go.Proofs.YtohlpeicpoaanaaGreatDoor
open Go.RowKit Go Kp

theorem lib_Index (c : UInt8) (s : Str) (hs : s.length < 4294967281) (w : World) (hE : Env w) :
    Calls Tryz.prog 114 #[.string ⟨s.toArray⟩, .string ⟨#[c]⟩] w fun e w' => e = .returned (.int .i64 (if has c s = true then ((bef c s).length : Int) else -1)) ∧ Q w w' := by
  obtain ⟨m, hm⟩ := hE.maxlen
  refine (Tryz.strings_Index ⟨s.toArray⟩ ⟨#[c]⟩ m w hs hm).mono ?_
  rintro e w' ⟨rfl, rfl⟩
  refine ⟨?_, Below.refl _ _⟩
  obtain ⟨h1, h2⟩ := index_one s c
  cases hb : has c s with
  | true =>
    have h : c ∈ s := by simpa [has] using hb
    rw [if_pos rfl]
    show Ending.returned (.int .i64 (Go.Lib.index s [c])) = _
    rw [h1 h]; rfl
  | false =>
    have h : ¬ c ∈ s := by simpa [has] using hb
    rw [if_neg (by decide)]
    show Ending.returned (.int .i64 (Go.Lib.index s [c])) = _
    rw [h2 h]

theorem takeS_bef {c : UInt8} {s : Str} (h : has c s = true) : takeS s (bef c s).length = bef c s := by
  have e := app_has s h
  conv => lhs; arg 1; rw [e]
  unfold takeS; exact List.take_left
theorem dropS_aft {c : UInt8} {s : Str} (h : has c s = true) : dropS s ((bef c s).length + 1) = aft c s := by
  have e := app_has s h
  have : (bef c s ++ [c]) ++ aft c s = s := by rw [List.append_assoc, List.singleton_append]; exact e.symm
  conv => lhs; arg 1; rw [← this]
  unfold dropS
  rw [show (bef c s).length + 1 = (bef c s ++ [c]).length by simp]
  exact List.drop_left

abbrev StrAt (W : World) (b : Nat) (s : Str) : Prop := Boxed W b 9 (.string ⟨s.toArray⟩)
def cellLen (W : World) (b : Nat) : Nat := match W.cell? ⟨b, 0, none⟩ with
  | some (.string s) => s.size
  | _ => 0
theorem cellLen_of {W : World} {b : Nat} {s : Str} (h : StrAt W b s) : cellLen W b = s.length := by
  unfold cellLen; rw [Boxed.cell h]; rfl
def encW (s : Str) : Array Value := #[.string ⟨s.toArray⟩]
def nxW (s pre : List Str) (x : Str) : Prop := ∃ post, s = pre ++ x :: post

set_option maxRecDepth 100000 in
set_option maxHeartbeats 2000000 in
theorem split1_nx (d : Nat) (hd : 1 ≤ d) (l Bs Bp Bv : Nat) (hne1 : Bs ≠ Bp) (hne2 : Bs ≠ Bv) (s : Str) (hs : s.length ≤ 100000) (J Jx : List Str → World → Prop)
    (hPc : ∀ pre W, J pre W → Env W) (hJ : JStays [Bs, Bp, Bv] J)
    (hY : ∀ pre x W, J pre W → nxW (sepAll 32 s) pre x → YieldAt Fence.wide (d - 1) Tryz.prog l (encW x) W fun e W' =>
      (e = .returned (.bool true) ∧ J (pre ++ [x]) W' ∧ KeepB [Bs, Bp, Bv] W W') ∨ (e = .returned (.bool false) ∧ Jx (pre ++ [x]) W'))
    (W : World) (hBs : StrAt W Bs s) (hBp : StrAt W Bp [32]) (hBv : Boxed W Bv 3 (.int .i64 0)) (h0 : J [] W) :
    CallsIn Fence.wide d Tryz.prog 112 #[.func (.yield l) #[] #[], .pointer (some ⟨Bp, 0, none⟩), .pointer (some ⟨Bs, 0, none⟩), .pointer (some ⟨Bv, 0, none⟩)] W fun e W' => (∃ v, e = .returned v) ∧
      ((∃ ys, ys = sepAll 32 s ∧ J ys W') ∨ (∃ pre, True ∧ Jx pre W')) := by
  refine callsIn_of_wp Tryz.func112 rfl trivial ?_ rfl
  simp only [Tryz.ntmps112, List.size_toArray, List.length_cons, List.length_nil, Nat.reduceAdd, Nat.reduceSub, Array.replicate_succ, Array.replicate_zero, List.push_toArray, List.append_toArray, List.nil_append, List.cons_append]
  have hcp := hBp.cell
  gi_wp2
  gi_loopw [7] (fun _ wr => ∃ pre r, J pre wr ∧ StrAt wr Bs r ∧ StrAt wr Bp [32] ∧ Boxed wr Bv 3 (.int .i64 0) ∧ Hid (sepAll 32 s = pre ++ sepAll 32 r) ∧ Hid (r.length ≤ 100000)) (fun _ wr => cellLen wr Bs)
  case atStart => exact ⟨[], s, h0, hBs, hBp, hBv, Lib.hid rfl, Lib.hid hs⟩
  case round =>
    clear h0 hBs hBp hBv hcp
    obtain ⟨pre, r, hJp, hS, hP, hV, HS, HR⟩ := hrel
    have hc1 := hS.cell
    have hc2 := hP.cell
    have hc3 := hV.cell
    have hrl := HR.out
    have HI := Lib.hid (lib_Index 32 r (by omega) wr (hPc _ _ hJp))
    have hlen := cellLen_of hS
    by_cases hh : has 32 r = true
    · rw [if_pos hh] at HI
      have HB := Lib.hid (takeS_bef hh)
      have HA := Lib.hid (dropS_aft hh)
      have hlt := aft_lt r hh
      have hbl : (bef 32 r).length < r.length := by
        have := congrArg List.length (app_has r hh)
        simp only [List.length_append, List.length_cons] at this; omega
      have HX := Lib.hid (sepAll_yes hh)
      have HXs : Hid (nxW (sepAll 32 s) pre (bef 32 r)) := Lib.hid ⟨sepAll 32 (aft 32 r), by rw [HS.out, HX.out]⟩
      have HS2 : Hid (sepAll 32 s = (pre ++ [bef 32 r]) ++ sepAll 32 (aft 32 r)) := Lib.hid (by rw [HS.out, HX.out, List.append_assoc]; rfl)
      clear HX HS hh
      generalize aft 32 r = r2 at *
      generalize hnn : (bef 32 r).length = n at *
      generalize bef 32 r = x at *
      clear hnn
      have hnz : (n : Int) < r.length := by omega
      have hn0 : (0 : Int) ≤ n := by omega
      have hrz : (r.length : Int) ≤ 100000 := by omega
      have hw0 : IntKind.i64.wrap (n : Int) = n := Go.IntWalk.i64_in _ (by omega)
      have hw1 : IntKind.i64.wrap ((n : Int) + 1) = (n : Int) + 1 := Go.IntWalk.i64_in _ (by omega)
      gi_wp2
      refine ⟨trivial, (callsIn_wide.2 HI.out).mono ?_⟩
      rintro e w1 ⟨rfl, hq1⟩
      have hJ1 := hJ.q _ _ _ hJp hq1
      have S1 : StrAt w1 Bs r := (hq1.block _ (Array.getElem?_eq_some_iff.1 hS).1).trans hS
      have P1 : StrAt w1 Bp [32] := (hq1.block _ (Array.getElem?_eq_some_iff.1 hP).1).trans hP
      have V1 : Boxed w1 Bv 3 (.int .i64 0) := (hq1.block _ (Array.getElem?_eq_some_iff.1 hV).1).trans hV
      have d1 := S1.cell
      have d2 := P1.cell
      have d3 := V1.cell
      have hYk := hY pre x _ hJ1 HXs.out
      obtain ⟨fn, tmps, assign, body, hy, hR⟩ := hYk
      simp only [encW] at hy
      have hB := HB.out
      clear HI hJp hS hP hV hq1 HXs hc1 hc2 hc3
      gi_wp2
      refine hR.mono ?_
      rintro e W3 (⟨rfl, hJ4, hk4⟩ | ⟨rfl, hJx4⟩)
      · have S4 : StrAt W3 Bs r := (hk4 Bs (by simp) (Array.getElem?_eq_some_iff.1 S1).1).trans S1
        have P4 : StrAt W3 Bp [32] := (hk4 Bp (by simp) (Array.getElem?_eq_some_iff.1 P1).1).trans P1
        have V4 : Boxed W3 Bv 3 (.int .i64 0) := (hk4 Bv (by simp) (Array.getElem?_eq_some_iff.1 V1).1).trans V1
        have c1 := S4.cell
        have c2 := P4.cell
        have c3 := V4.cell
        have f1 := S4.frozen
        have S5 : StrAt (W3.setCell ⟨Bs, 0, none⟩ (.string ⟨r2.toArray⟩)) Bs r2 := S4.set _
        have P5 : StrAt (W3.setCell ⟨Bs, 0, none⟩ (.string ⟨r2.toArray⟩)) Bp [32] := Blk.setOther (cs := [_]) P4 hne1 0 _
        have V5 : Boxed (W3.setCell ⟨Bs, 0, none⟩ (.string ⟨r2.toArray⟩)) Bv 3 (.int .i64 0) := Blk.setOther (cs := [_]) V4 hne2 0 _
        have hJ5 := hJ.set _ _ Bs (.string ⟨r2.toArray⟩) (by simp) hJ4
        have hl5 := cellLen_of S5
        have hA := HA.out
        clear d1 d2 d3 hB HB S1 P1 V1 hJ1 hJ4 hk4
        gi_wp2
        go_roundw
        case rel => exact ⟨_, r2, hJ5, S5, P5, V5, HS2, Lib.hid (by omega)⟩
        case measure => rw [hlen, hl5]; exact hlt
      · gi_wp2
        refine bodyPost_ret (results_none rfl _ _ _) rfl ?_
        exact ⟨⟨_, rfl⟩, .inr ⟨_, trivial, hJx4⟩⟩
    · have hh2 : has 32 r = false := by simpa using hh
      rw [if_neg hh] at HI
      have HX := Lib.hid (sepAll_no hh2)
      have HXs : Hid (nxW (sepAll 32 s) pre r) := Lib.hid ⟨[], by rw [HS.out, HX.out]⟩
      have HS2 : Hid (sepAll 32 s = pre ++ [r]) := Lib.hid (by rw [HS.out, HX.out])
      clear HX HS hh hh2
      gi_wp2
      refine ⟨trivial, (callsIn_wide.2 HI.out).mono ?_⟩
      rintro e w1 ⟨rfl, hq1⟩
      have hJ1 := hJ.q _ _ _ hJp hq1
      have S1 : StrAt w1 Bs r := (hq1.block _ (Array.getElem?_eq_some_iff.1 hS).1).trans hS
      have d1 := S1.cell
      have hYk := hY pre r _ hJ1 HXs.out
      obtain ⟨fn, tmps, assign, body, hy, hR⟩ := hYk
      simp only [encW] at hy
      clear HI hJp hS hP hV hq1 HXs hc1 hc2 hc3
      gi_wp2
      refine hR.mono ?_
      rintro e W3 (⟨rfl, hJ4, hk4⟩ | ⟨rfl, hJx4⟩)
      · gi_wp2
        go_end0
        exact ⟨⟨_, rfl⟩, .inl ⟨_, HS2.out.symm, hJ4⟩⟩
      · gi_wp2
        go_end0
        exact ⟨⟨_, rfl⟩, .inr ⟨_, trivial, hJx4⟩⟩

theorem split_next (Bs Bp Bv : Nat) (hne1 : Bs ≠ Bp) (hne2 : Bs ≠ Bv) (s : Str) (hs : s.length ≤ 100000) (w : World) (d : Nat) (hd : 1 ≤ d) (hBs : StrAt w Bs s) (hBp : StrAt w Bp [32]) (hBv : Boxed w Bv 3 (.int .i64 0)) :
    SeqNext2 d Tryz.prog 112 #[.pointer (some ⟨Bp, 0, none⟩), .pointer (some ⟨Bs, 0, none⟩), .pointer (some ⟨Bv, 0, none⟩)] encW [Bs, Bp, Bv] (fun _ W => Env W) (nxW (sepAll 32 s)) (fun ys => ys = sepAll 32 s) (fun _ => True) w := fun l J Jx W hW hPc hJ hY h0 =>
  split1_nx d hd l Bs Bp Bv hne1 hne2 s hs J Jx hPc hJ hY W ((hW.block _ (Array.getElem?_eq_some_iff.1 hBs).1).trans hBs) ((hW.block _ (Array.getElem?_eq_some_iff.1 hBp).1).trans hBp) ((hW.block _ (Array.getElem?_eq_some_iff.1 hBv).1).trans hBv) h0

/-- The world behind strings.SplitSeq. -/
def splitW (w : World) (s : Str) : World := ((w.alloc (.cells #[.string ⟨s.toArray⟩] 9)).alloc (.cells #[.string ⟨#[32]⟩] 9)).alloc (.cells #[.int .i64 0] 3)
theorem lib_splitSeq (s : Str) (w : World) :
    Calls Tryz.prog 84 #[.string ⟨s.toArray⟩, .string ⟨#[32]⟩, .int .i64 0] w fun e w' => e = .returned (.func (.func 112) #[] #[.pointer (some ⟨w.heap.size + 1, 0, none⟩), .pointer (some ⟨w.heap.size, 0, none⟩), .pointer (some ⟨w.heap.size + 2, 0, none⟩)]) ∧ w' = splitW w s := by
  unfold splitW
  go_enter Tryz.func84, Tryz.ntmps84
  go_wp2
  go_ret
  exact ⟨rfl, rfl⟩
theorem lib_SplitSeq (s : Str) (w : World) :
    Calls Tryz.prog 60 #[.string ⟨s.toArray⟩, .string ⟨#[32]⟩] w fun e w' => e = .returned (.func (.func 112) #[] #[.pointer (some ⟨w.heap.size + 1, 0, none⟩), .pointer (some ⟨w.heap.size, 0, none⟩), .pointer (some ⟨w.heap.size + 2, 0, none⟩)]) ∧ w' = splitW w s := by
  have H := Lib.hid (lib_splitSeq s w)
  go_enter Tryz.func60, Tryz.ntmps60
  go_wp2_with fail
  refine H.out.mono ?_
  rintro e w1 ⟨rfl, rfl⟩
  go_wp2
  go_ret
  exact ⟨rfl, rfl⟩

theorem cut_Atoi (s : Str) (hs : s.length ≤ 100000) (w : World) (hE : Env w) :
    Calls Tryz.prog 61 #[.string ⟨s.toArray⟩] w fun e w' => Q w w' ∧ ((∃ z, e = .returned (.tuple #[.int .i64 z, .nilIface]) ∧ atoV s = some z) ∨ (∃ z T p, e = .returned (.tuple #[.int .i64 z, .iface T p]) ∧ atoV s = none)) := by
  obtain ⟨t1, p1, h1⟩ := hE.errSyntax
  obtain ⟨t2, p2, h2⟩ := hE.errRange
  rcases hx : Lib.atoiAll s with v | _ | _
  · refine (Tryz.strconv_Atoi_ok ⟨s.toArray⟩ (by show s.length ≤ _; omega) v (by simpa using hx) w).mono ?_
    rintro e w' ⟨rfl, rfl | ⟨t, rfl⟩⟩
    · exact ⟨Below.refl _ _, .inl ⟨v, rfl, by unfold atoV; rw [hx]⟩⟩
    · exact ⟨Joins.below_bytesWorld _ _ _ _ (Nat.le_refl _), .inl ⟨v, rfl, by unfold atoV; rw [hx]⟩⟩
  · refine (Any.strconv_Atoi_syntax_var Tryz.laysC172 ⟨s.toArray⟩ (by show s.length ≤ _; omega) (by simpa using hx) t1 p1 w h1).mono ?_
    rintro e w' ⟨N, rfl, _, _, hb⟩
    exact ⟨hb, .inr ⟨_, _, _, rfl, by unfold atoV; rw [hx]⟩⟩
  · refine (Any.strconv_Atoi_range_var Tryz.laysC172 ⟨s.toArray⟩ (by show s.length ≤ _; omega) (by simpa using hx) t2 p2 w h2).mono ?_
    rintro e w' ⟨N, rfl, _, _, hb⟩
    exact ⟨hb, .inr ⟨_, _, _, rfl, by unfold atoV; rw [hx]⟩⟩

end Go.Proofs.YtohlpeicpoaanaaGreatDoor
