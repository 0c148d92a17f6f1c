/-
  Walks: timber.Kinds; slices.Sorted over slices.Values.
-/
import Derived.Test.YtgkikkabmcihhaaGreatDoorWS
import Derived.Test.YtgkikkabmcihhaaGreatDoorShelfC
import Derived.RangeFuncBox
import Derived.RangeFuncLeaves
import Derived.Shelf.Abstract
import Derived.OwnWalkIn
import Derived.TacticsInMore
import Derived.LoopNIn
import Derived.LoopIn
import Derived.Maps.AppendAt
namespace Go.Proofs.YtgkikkabmcihhaaGreatDoor
open Go.RowKit Go.Shelf Kp Go.Sort Go.Maps

attribute [local go_sem] Oper.semAt_some

/-- WHAT HAS COME WHEN k ROUNDS ARE OVER. -/
def uptoS (f : Nat → Str) (k : Nat) : List Str := (List.range k).map f
theorem uptoS_succ (f : Nat → Str) (k : Nat) : uptoS f (k + 1) = uptoS f k ++ [f k] := by simp [uptoS, List.range_succ]
theorem uptoS_length (f : Nat → Str) (k : Nat) : (uptoS f k).length = k := by simp [uptoS]
theorem uptoS_all (zs : List Str) : uptoS (fun j => zs[j]?.getD []) zs.length = zs := by
  apply List.ext_getElem
  · simp [uptoS]
  · intro i h1 h2
    simp [uptoS, h2]

set_option maxRecDepth 100000 in
set_option maxHeartbeats 2000000 in
theorem values1_in (F : Fence) (n : Nat) (h7 : F.fn 82) (hro : F.round = none) (hn : 1 ≤ n) (l Bs n₀ b off len cap : Nat) (zs : List Str) (hreach : len * 8 ≤ 140737488351232) (hb : b < n₀) (J Jx : List Str → World → Prop)
    (hY : ∀ pre x W, J pre W → pre.length < len → YieldAt F (n - 1) Tryz.prog l #[.string ⟨x.toArray⟩] W fun e W' =>
      (e = .returned (.bool true) ∧ J (pre ++ [x]) W' ∧ Below n₀ W W') ∨ (e = .returned (.bool false) ∧ Jx (pre ++ [x]) W'))
    (W : World) (hBs : W.cell? ⟨Bs, 0, none⟩ = some (.slice (some ⟨b, off, none⟩) len cap)) (hc : ∀ j, j < len → W.cell? ⟨b, off + j, none⟩ = some (.string ⟨(zs[j]?.getD []).toArray⟩)) (h0 : J [] W) :
    CallsIn F n Tryz.prog 82 #[.func (.yield l) #[] #[], .pointer (some ⟨Bs, 0, none⟩)] W fun e W' => (∃ v, e = .returned v) ∧
      ((∃ ys, ys = uptoS (fun j => zs[j]?.getD []) len ∧ J ys W') ∨ (∃ pre, (∃ k, k ≤ len ∧ pre = uptoS (fun j => zs[j]?.getD []) k) ∧ Jx pre W')) := by
  refine callsIn_of_wp Tryz.func82 rfl h7 ?_ hro
  simp only [Tryz.ntmps82, List.size_toArray, List.length_cons, List.length_nil, Nat.reduceAdd, Nat.reduceSub, Array.replicate_succ, Array.replicate_zero, List.push_toArray, List.append_toArray, List.nil_append, List.cons_append]
  gi_wp2
  gi_loopw [7] (fun i wr => ∃ k : Nat, k ≤ len ∧ i = .int .i64 k ∧ J (uptoS (fun j => zs[j]?.getD []) k) wr ∧ Below n₀ W wr)
    (fun i _ => len - (intOf i).toNat)
  case atStart => exact ⟨0, Nat.zero_le _, rfl, h0, Below.refl _ _⟩
  case round =>
    obtain ⟨k, hk, rfl, hJs, hnx⟩ := hrel
    have hcx : k < len → wr.cell? ⟨b, off + k, none⟩ = some (.string ⟨(zs[k]?.getD []).toArray⟩) := fun h => (hnx.cell (p := ⟨b, off + k, none⟩) hb).trans (hc k h)
    by_cases hlt : k < len
    · obtain ⟨fn, tmps, assign, body, hy, hR⟩ := hY _ (zs[k]?.getD []) wr hJs (by rw [uptoS_length]; exact hlt)
      have hcx' := hcx hlt
      gi_wp2
      refine hR.mono ?_
      rintro e W3 (⟨rfl, hJ3, hk3⟩ | ⟨rfl, hJx3⟩)
      · gi_wp2
        go_roundw
        case rel => exact ⟨k + 1, by omega, by simp, by rw [uptoS_succ]; exact hJ3, hnx.trans hk3⟩
        case measure => simp [intOf]; omega
      · gi_wp2
        refine bodyPost_ret (results_none rfl _ _ _) rfl ?_
        exact ⟨⟨_, rfl⟩, .inr ⟨_, ⟨k + 1, by omega, (uptoS_succ _ _).symm⟩, hJx3⟩⟩
    · obtain rfl : k = len := by omega
      gi_wp2
      go_end0
      exact ⟨⟨_, rfl⟩, .inl ⟨_, rfl, hJs⟩⟩

theorem values_stops (F : Fence) (n : Nat) (h7 : F.fn 82) (hro : F.round = none) (hn : 1 ≤ n) (Bs n₀ b cap : Nat) (zs : List Str) (hlen : zs.length ≤ 1000) (w : World) (lBs : Bs < w.heap.size) (hb : b < n₀) (hn₀ : n₀ ≤ w.heap.size)
    (hBs : w.cell? ⟨Bs, 0, none⟩ = some (.slice (some ⟨b, 0, none⟩) zs.length cap)) (hc : ∀ j, j < zs.length → w.cell? ⟨b, j, none⟩ = some (.string ⟨(zs[j]?.getD []).toArray⟩)) :
    SeqStopsK F n Tryz.prog 82 #[.pointer (some ⟨Bs, 0, none⟩)] (fun x : Str => #[Value.string ⟨x.toArray⟩]) (Below n₀) (fun ys => ys = zs) (fun _ => True) zs.length w := fun l J Jx W hW _ _ hY h0 => by
  refine (values1_in F n h7 hro hn l Bs n₀ b 0 zs.length cap zs (by omega) hb J Jx hY W ((hW.cell (p := ⟨Bs, 0, none⟩) lBs).trans hBs) (fun j hj => ?_) h0).mono ?_
  · rw [Nat.zero_add]; exact (hW.cell (p := ⟨b, j, none⟩) (Nat.lt_of_lt_of_le hb hn₀)).trans (hc j hj)
  · rintro e W' ⟨hv, ⟨ys, rfl, hJ⟩ | ⟨pre, _, hJx⟩⟩
    · exact ⟨hv, .inl ⟨_, uptoS_all zs, hJ⟩⟩
    · exact ⟨hv, .inr ⟨pre, trivial, hJx⟩⟩

theorem infoString : (Tryz.prog.info? 9).map (fun i => (i.zero, i.size, i.bytes)) = some (some (.string ⟨#[]⟩), 1, 16) := by kernel_rfl

set_option maxRecDepth 100000 in
set_option maxHeartbeats 2000000 in
/-- AppendSeq onto nil of slices.Values of a slice of strings. -/
theorem appendSeq_in (F : Fence) (n : Nat) (h3 : F.fn 139) (h7 : F.fn 82) (hro : F.round = none) (hn : 3 ≤ n) (Bs b cap : Nat) (zs : List Str) (hlen : zs.length ≤ 1000)
    (w : World) (hBs : w.cell? ⟨Bs, 0, none⟩ = some (.slice (some ⟨b, 0, none⟩) zs.length cap)) (hc : ∀ j, j < zs.length → w.cell? ⟨b, j, none⟩ = some (.string ⟨(zs[j]?.getD []).toArray⟩)) (hz : 0 < zs.length) :
    CallsIn F n Tryz.prog 139 #[.slice none 0 0, .func (.func 82) #[] #[.pointer (some ⟨Bs, 0, none⟩)]] w fun e W' => ∃ v, e = .returned v ∧ W'.ownsRow w.heap.size 9 1 v zs.length (zs.map fun s => Value.string ⟨s.toArray⟩) ∧ Below w.heap.size w W' := by
  have h1 : 1 ≤ n := by omega
  have lBs : Bs < w.heap.size := World.block_lt_of_cell? w _ hBs
  have lb : b < w.heap.size := World.block_lt_of_cell? w _ (hc 0 hz)
  obtain ⟨i0, hi, hz0, hz1, hz2⟩ := info_parts infoString
  refine callsIn_of_wp_marks Tryz.func139 rfl h3 ?_ hro
  simp only [Tryz.ntmps139, List.size_toArray, List.length_cons, List.length_nil, Nat.reduceAdd, Nat.reduceSub, Array.replicate_succ, Array.replicate_zero, List.push_toArray, List.append_toArray, List.nil_append, List.cons_append]
  gi_wp2
  have bO := Boxed.new w 50 (.slice none 0 0)
  have hB0 : Below w.heap.size w (w.alloc (.cells #[.slice none 0 0] 50)) := (Below.refl _ w).alloc (Nat.le_refl _) _
  refine wpIn_rangeFunc_ownG hro h1 (gf := 82) (lb := #[.pointer (some ⟨Bs, 0, none⟩)]) rfl h7 (enters_of Tryz.func82 (by kernel_rfl) rfl)
    (values_stops F (n - 1) h7 hro (by omega) Bs w.heap.size b cap zs hlen _ (by simp; omega) lb (by simp) ((hB0.cell (p := ⟨Bs, 0, none⟩) lBs).trans hBs) (fun j hj => (hB0.cell (p := ⟨b, j, none⟩) lb).trans (hc j hj))) belowK_t (belowK_b (by simp)) (Below.refl _ _) (fun _ => rfl)
    (fun pre W => (∃ v, Boxed W w.heap.size 50 v ∧ W.ownsRow w.heap.size 9 1 v pre.length (pre.map fun s => Value.string ⟨s.toArray⟩) ∧ (v = .slice none 0 0 ↔ pre = [])) ∧ Below w.heap.size w W)
    (fun _ _ _ => False)
    (OwnFrom.and (Own.from (holdsRow_own w.heap.size w.heap.size 50 9 1 (fun pre : List Str => pre.length) (fun pre => pre.map fun s => Value.string ⟨s.toArray⟩) (fun pre v => v = .slice none 0 0 ↔ pre = [])) _) (ownFrom_below (Nat.le_refl _) (by simp)))
    (fun _ _ _ _ _ hs _ _ => hs)
    ⟨⟨_, bO, World.ownsRow_nil _ _ _ _, by simp⟩, hB0⟩
    (fun x => { tmps := #[.slice none 0 0, .func (.func 82) #[] #[.pointer (some ⟨Bs, 0, none⟩)], .pointer (some ⟨w.heap.size, 0, none⟩), undef, .slice none 0 0, .string ⟨x.toArray⟩, .func (.func 82) #[] #[.pointer (some ⟨Bs, 0, none⟩)], .string ⟨x.toArray⟩, undef, undef, undef, undef, undef], defers := [] }) ?assign ?body ?done ?stop
  case assign =>
    intro l x W K hK
    gi_wp2
    exact hK
  case body =>
    rintro l pre x W ⟨⟨v, hv, hrow, hnil⟩, hB⟩ hlt
    have hcv := hv.cell
    gi_wp2_with (gi_at_builtin; refine wpListIn_append_own _ rfl _ _ 50 rfl w.heap.size 9 i0 (.string ⟨#[]⟩) 1 16 Tryz.underlying50 hi hz0 hz1 hz2 rfl (by decide) _ _ _ rfl (hrow.alloc _) ⟨W.heap.size, 0, none⟩ 1 1 [.string ⟨x.toArray⟩] rfl rfl (cell_one_new _ _ _) (by simp [Value.oneCell']) (by unfold maxLen; omega) (by omega) (by have := hB.size; simp; omega) ?_; intro v' w1 hown' hgrow _; obtain ⟨g', cap', rfl⟩ := ownsRow_succ hown'; obtain ⟨hv1, hv2, hr2, hk2, hb2⟩ := hv.appended (by decide) hrow hB.size (Nat.le_refl _) hown' hgrow; have hc1 := hv1.cell; have hf1 := hv1.frozen)
    exact ⟨hk2.from _, hb2, ⟨_, hv2, by simpa using hr2, by simp⟩, hB.trans hb2⟩
  case done =>
    rintro D ys W hD rfl ⟨⟨v, hv, hrow, hnil⟩, hB⟩ hK
    have hcv := hv.cell
    gi_wp2
    refine ⟨by simp, .inl ⟨_, _, rfl, run_takeDeferred hK, ?_⟩⟩
    exact ⟨_, results_tmp rfl _ _ _, v, rfl, ownsRow_putObj hrow _ hK rfl, hB.trans (belowK_b (w := w) (Nat.le_refl _) W D _ _ (by simp at hD; omega) hK rfl rfl)⟩
  case stop =>
    rintro D c pre W _ _ h _
    exact h.elim

theorem lib_AppendSeq (Bs b cap : Nat) (zs : List Str) (hlen : zs.length ≤ 1000) (w : World) (hBs : w.cell? ⟨Bs, 0, none⟩ = some (.slice (some ⟨b, 0, none⟩) zs.length cap)) (hc : ∀ j, j < zs.length → w.cell? ⟨b, j, none⟩ = some (.string ⟨(zs[j]?.getD []).toArray⟩)) (hz : 0 < zs.length) :
    Calls Tryz.prog 139 #[.slice none 0 0, .func (.func 82) #[] #[.pointer (some ⟨Bs, 0, none⟩)]] w fun e W' => ∃ v, e = .returned v ∧ W'.ownsRow w.heap.size 9 1 v zs.length (zs.map fun s => Value.string ⟨s.toArray⟩) ∧ Below w.heap.size w W' :=
  (callsIn_wide (n := 6)).1 (appendSeq_in Fence.wide 6 trivial trivial rfl (by omega) Bs b cap zs hlen w hBs hc hz)

set_option maxHeartbeats 1000000 in
theorem lib_Collect (Bs b cap : Nat) (zs : List Str) (hlen : zs.length ≤ 1000) (w : World) (hBs : w.cell? ⟨Bs, 0, none⟩ = some (.slice (some ⟨b, 0, none⟩) zs.length cap)) (hc : ∀ j, j < zs.length → w.cell? ⟨b, j, none⟩ = some (.string ⟨(zs[j]?.getD []).toArray⟩)) (hz : 0 < zs.length) :
    Calls Tryz.prog 80 #[.func (.func 82) #[] #[.pointer (some ⟨Bs, 0, none⟩)]] w fun e W' => ∃ v, e = .returned v ∧ W'.ownsRow w.heap.size 9 1 v zs.length (zs.map fun s => Value.string ⟨s.toArray⟩) ∧ Below w.heap.size w W' := by
  have H := Lib.hid (lib_AppendSeq Bs b cap zs hlen w hBs hc hz)
  clear hBs hc
  go_enter Tryz.func80, Tryz.ntmps80
  go_wp2_with fail
  refine H.out.mono ?_
  rintro e w1 ⟨v, rfl, ho, hb⟩
  go_wp2
  go_ret
  exact ⟨v, rfl, ho, hb⟩

theorem below_row {B : Nat} (w : World) (n g : Nat) (d : Array Str) (os : Array Obj) (hg : B ≤ g) (hB : B ≤ w.heap.size) : Below B w (grow (putRow encStr (Sort.ahead w n) g 0 d) os) := by
  have h1 : Below B w (putRow encStr (Sort.ahead w n) g 0 d) := ⟨rfl, rfl, rfl, by simp [putRow, mapBlock, Sort.ahead], fun k hk => by
    have : ¬ g = k := by omega
    simp [putRow, mapBlock, Sort.ahead, Array.getElem?_modify, this]⟩
  exact h1.trans ((below_grow _ os).mono (by simpa [putRow, mapBlock, Sort.ahead] using hB))

theorem holds_of_owns {w : World} {B : Nat} {v : Value} {zs : List Str} (h : w.ownsRow B 9 1 v zs.length (zs.map fun s => Value.string ⟨s.toArray⟩)) (hz : 0 < zs.length) :
    ∃ g cap, v = .slice (some ⟨g, 0, none⟩) zs.length cap ∧ B ≤ g ∧ g < w.heap.size ∧ zs.length ≤ cap ∧ Holds encStr w g 0 zs.toArray := by
  rcases h.2 with ⟨_, hn⟩ | ⟨g, cap, cur, rfl, hg, hc, hcap, _, hsz, htk⟩
  · omega
  · refine ⟨g, cap, rfl, hg, (Array.getElem?_eq_some_iff.1 hc).1, hcap, fun j hj => ?_⟩
    have hj' : j < zs.length := by simpa using hj
    refine ⟨?_, Lib.frozen_of_heap hc _⟩
    rw [Nat.zero_add, Lib.cell_of_heap hc, ← Array.getElem?_toList]
    have h1 : (cur.toList.take (zs.length * 1))[j]? = cur.toList[j]? := by rw [List.getElem?_take_of_lt (by omega)]
    rw [← h1, htk, List.getElem?_map, List.getElem?_eq_getElem hj', getElem!_pos zs.toArray j hj]
    simp [encStr]

set_option maxHeartbeats 1000000 in
theorem lib_Sorted (Bs b cap : Nat) (zs : List Str) (hlen : zs.length ≤ 1000) (w : World) (hBs : w.cell? ⟨Bs, 0, none⟩ = some (.slice (some ⟨b, 0, none⟩) zs.length cap)) (hc : ∀ j, j < zs.length → w.cell? ⟨b, j, none⟩ = some (.string ⟨(zs[j]?.getD []).toArray⟩)) (hz : 0 < zs.length) :
    Calls Tryz.prog 41 #[.func (.func 82) #[] #[.pointer (some ⟨Bs, 0, none⟩)]] w fun e W' => ∃ g c, e = .returned (.slice (some ⟨g, 0, none⟩) zs.length c) ∧ Q w W' ∧ w.heap.size ≤ g ∧ g < W'.heap.size ∧ zs.length ≤ c ∧ Holds encStr W' g 0 (zs.mergeSort fun x y => decide (x ≤ y)).toArray := by
  have H := Lib.hid (lib_Collect Bs b cap zs hlen w hBs hc hz)
  clear hBs hc
  go_enter Tryz.func41, Tryz.ntmps41
  go_wp2_with fail
  refine H.out.mono ?_
  rintro e w1 ⟨v, rfl, ho, hb⟩
  obtain ⟨g, c, rfl, hg, hgl, hcap, hh⟩ := holds_of_owns ho hz
  clear ho
  go_wp2_with fail
  refine (Tryz.slices_Sort_string g 0 c zs w1 hh hgl (by omega)).mono ?_
  rintro e w2 ⟨rfl, n, os, rfl⟩
  have hgw : g < (putRow encStr (Sort.ahead w1 n) g 0 (zs.mergeSort fun x y => decide (x ≤ y)).toArray).heap.size := by simpa [putRow, mapBlock, Sort.ahead] using hgl
  have hbr := below_row w1 n g (zs.mergeSort fun x y => decide (x ≤ y)).toArray os hg hb.size
  have hh2 : Holds encStr (putRow encStr (Sort.ahead w1 n) g 0 (zs.mergeSort fun x y => decide (x ≤ y)).toArray) g 0 (zs.mergeSort fun x y => decide (x ≤ y)).toArray :=
    holds_putRow encStr (Sort.ahead w1 n) g 0 zs.toArray _ (show Holds encStr (Sort.ahead w1 n) g 0 zs.toArray from hh) (by simp)
  have hh3 := holds_grow encStr _ os g 0 _ hgw hh2
  have hl2 : g < (grow (putRow encStr (Sort.ahead w1 n) g 0 (zs.mergeSort fun x y => decide (x ≤ y)).toArray) os).heap.size := by simp [Sort.grow]; omega
  clear hh hh2 hgw
  generalize grow (putRow encStr (Sort.ahead w1 n) g 0 (zs.mergeSort fun x y => decide (x ≤ y)).toArray) os = w3 at *
  go_wp2
  go_ret
  exact ⟨g, c, rfl, hb.trans hbr, hg, hl2, hcap, hh3⟩

set_option maxHeartbeats 1000000 in
theorem lib_Values (a : Option Addr) (n c : Nat) (w : World) :
    Calls Tryz.prog 42 #[.slice a n c] w fun e w' => e = .returned (.func (.func 82) #[] #[.pointer (some ⟨w.heap.size, 0, none⟩)]) ∧ w' = w.alloc (.cells #[.slice a n c] 50) := by
  go_enter Tryz.func42, Tryz.ntmps42
  go_wp2
  go_ret
  exact ⟨rfl, rfl⟩

/-- The words of the kinds. -/
def kindsL : List Str := wordStrs.tail

set_option maxHeartbeats 1000000 in
theorem timber_Kinds (w : World) (hE : Env w) :
    Calls Tryz.prog 32 #[] w fun e w' => ∃ g cap, e = .returned (.slice (some ⟨g, 0, none⟩) 12 cap) ∧ Q w w' ∧ g < w'.heap.size ∧ Holds encStr w' g 0 kindsL.toArray := by
  have H := Lib.hid (Tryz.slices_Clone_string 0 1 12 12 (kindsL.map fun s => (⟨s.toArray⟩ : ByteArray)) w (by decide) (by decide) (fun j hj => by
    have hj' : j < 12 := by have h := hj; rw [List.length_map] at h; exact h
    rw [hE.words.cell (1 + j) (by rw [wordStrs_len]; omega)]
    have e : wordStrs.getD (1 + j) [] = kindsL.getD j [] := by
      have : ∀ i : Fin 12, wordStrs.getD (1 + i.val) [] = kindsL.getD i.val [] := by decide
      exact this ⟨j, hj'⟩
    rw [e]
    have hk : j < kindsL.length := hj'
    simp [List.getD_eq_getElem?_getD, List.getElem?_eq_getElem hk]))
  go_enter Tryz.func32, Tryz.ntmps32
  go_wp2_with fail
  refine H.out.mono ?_
  rintro e w1 ⟨v, rfl, ho, hne, hb⟩
  have ho2 : w1.ownsRow w.heap.size 9 1 v kindsL.length (kindsL.map fun s => Value.string ⟨s.toArray⟩) := by
    rw [List.take_of_length_le (by decide), List.map_map] at ho
    exact ho
  obtain ⟨g, c, rfl, hg, hgl, hcap, hh⟩ := holds_of_owns ho2 (by decide)
  clear ho ho2 hne
  go_wp2
  go_ret
  exact ⟨g, c, rfl, hb, hgl, hh⟩

end Go.Proofs.YtgkikkabmcihhaaGreatDoor
