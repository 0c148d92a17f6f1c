/-
  Walks: slices.Clone and Reverse at sizes.
-/
import Derived.Test.YtgkikkabmcihhaaGreatDoorWV
import Derived.Test.YtgkikkabmcihhaaGreatDoorShG
import Derived.OwnWalk
import Derived.Lib.SmallJoins
namespace Go.Proofs.YtgkikkabmcihhaaGreatDoor
open Go.RowKit Kp Go.Sort

instance : Inhabited Sz := ⟨⟨0, 0, 0⟩⟩
/-- A size's cells. -/
def szC (s : Sz) : List Value := [.int .i64 s.k, .int .i64 s.w, .int .i64 s.d]

theorem szCells_get : ∀ (l : List Sz) (j : Nat) (u : Value), (szCells l)[j]? = some u → ∃ i, i < l.length ∧ ((j = i * 3 ∧ u = .int .i64 (l.getD i ⟨0, 0, 0⟩).k) ∨ (j = i * 3 + 1 ∧ u = .int .i64 (l.getD i ⟨0, 0, 0⟩).w) ∨ (j = i * 3 + 2 ∧ u = .int .i64 (l.getD i ⟨0, 0, 0⟩).d))
  | [], j, u, h => by simp [szCells] at h
  | s :: l, j, u, h => by
    have e : szCells (s :: l) = [Value.int .i64 s.k, .int .i64 s.w, .int .i64 s.d] ++ szCells l := by unfold szCells; rw [List.flatMap_cons]
    rw [e] at h
    by_cases hj : j < 3
    · rcases (show j = 0 ∨ j = 1 ∨ j = 2 by omega) with rfl | rfl | rfl
      · exact ⟨0, by simp, .inl ⟨rfl, by simpa using h.symm⟩⟩
      · exact ⟨0, by simp, .inr (.inl ⟨rfl, by simpa using h.symm⟩)⟩
      · exact ⟨0, by simp, .inr (.inr ⟨rfl, by simpa using h.symm⟩)⟩
    · rw [List.getElem?_append_right (by simp; omega)] at h
      obtain ⟨i, hi, hc⟩ := szCells_get l (j - 3) u (by simpa using h)
      refine ⟨i + 1, by simp; omega, ?_⟩
      rcases hc with ⟨a, b⟩ | ⟨a, b⟩ | ⟨a, b⟩
      · exact .inl ⟨by omega, b⟩
      · exact .inr (.inl ⟨by omega, b⟩)
      · exact .inr (.inr ⟨by omega, b⟩)
theorem szCells_at : ∀ (l : List Sz) (i : Nat), i < l.length → (szCells l)[i * 3]? = some (.int .i64 (l.getD i ⟨0, 0, 0⟩).k) ∧ (szCells l)[i * 3 + 1]? = some (.int .i64 (l.getD i ⟨0, 0, 0⟩).w) ∧ (szCells l)[i * 3 + 2]? = some (.int .i64 (l.getD i ⟨0, 0, 0⟩).d)
  | [], i, h => absurd h (Nat.not_lt_zero _)
  | s :: l, 0, h => ⟨rfl, rfl, rfl⟩
  | s :: l, i + 1, h => by
    have e : szCells (s :: l) = [Value.int .i64 s.k, .int .i64 s.w, .int .i64 s.d] ++ szCells l := by unfold szCells; rw [List.flatMap_cons]
    obtain ⟨a, b, c⟩ := szCells_at l i (by simpa using h)
    rw [e]
    refine ⟨?_, ?_, ?_⟩
    · rw [List.getElem?_append_right (by simp; omega), show (i + 1) * 3 - [Value.int .i64 s.k, .int .i64 s.w, .int .i64 s.d].length = i * 3 by simp; omega]; exact a
    · rw [List.getElem?_append_right (by simp; omega), show (i + 1) * 3 + 1 - [Value.int .i64 s.k, .int .i64 s.w, .int .i64 s.d].length = i * 3 + 1 by simp; omega]; exact b
    · rw [List.getElem?_append_right (by simp; omega), show (i + 1) * 3 + 2 - [Value.int .i64 s.k, .int .i64 s.w, .int .i64 s.d].length = i * 3 + 2 by simp; omega]; exact c
theorem szCells_len (l : List Sz) : (szCells l).length = l.length * 3 := by
  induction l with
  | nil => rfl
  | cons s l ih =>
    have e : szCells (s :: l) = [Value.int .i64 s.k, .int .i64 s.w, .int .i64 s.d] ++ szCells l := by unfold szCells; rw [List.flatMap_cons]
    rw [e, List.length_append, ih]; simp; omega
theorem szCells_one (l : List Sz) : ∀ u ∈ szCells l, u.oneCell' = true := by
  intro u hu
  obtain ⟨j, hj, e⟩ := List.mem_iff_getElem.1 hu
  obtain ⟨i, _, h⟩ := szCells_get l j u (by rw [← e]; exact List.getElem?_eq_getElem hj)
  rcases h with ⟨_, rfl⟩ | ⟨_, rfl⟩ | ⟨_, rfl⟩ <;> rfl

theorem infoSize : (Tryz.prog.info? 35).map (fun i => (i.zero, i.size, i.bytes)) = some (some (.agg #[.int .i64 0, .int .i64 0, .int .i64 0]), 3, 24) := by kernel_rfl

/-- A row of sizes of the call's own. -/
def SzOwn (w : World) (B : Nat) (v : Value) (l : List Sz) : Prop :=
  (l = [] ∧ ∃ a cap, v = .slice a 0 cap) ∨ ∃ g cap, v = .slice (some ⟨g, 0, none⟩) l.length cap ∧ B ≤ g ∧ SzAt w g 0 l ∧ HoldsK szC 3 w g 0 l.toArray

theorem holdsK_of {w : World} {g : Nat} {l : List Sz} (h : SzAt w g 0 l) (hf : ∀ j, w.frozen? ⟨g, j, none⟩ = false) : HoldsK szC 3 w g 0 l.toArray := by
  intro t ht
  rw [size_flatK] at ht
  have ht' : t < l.length * 3 := by simpa using ht
  rw [get_flatK _ _ _ _ ht]
  refine ⟨?_, hf _⟩
  have hi : t / 3 < l.length := Nat.div_lt_of_lt_mul (by omega)
  obtain ⟨a, b, c⟩ := h.2 (t / 3) hi
  have e : l.toArray[t / 3]! = l.getD (t / 3) ⟨0, 0, 0⟩ := by
    rw [getElem!_pos _ _ (by simpa using hi), List.getD_eq_getElem?_getD, List.getElem?_eq_getElem hi]; simp
  rw [e]
  rcases (show t % 3 = 0 ∨ t % 3 = 1 ∨ t % 3 = 2 by omega) with hm | hm | hm
  · rw [hm, show 0 + t = 0 + t / 3 * 3 by omega]; exact a
  · rw [hm, show 0 + t = 0 + t / 3 * 3 + 1 by omega]; exact b
  · rw [hm, show 0 + t = 0 + t / 3 * 3 + 2 by omega]; exact c

theorem szAt_of {w : World} {g : Nat} {l : List Sz} (hg : g < w.heap.size) (h : HoldsK szC 3 w g 0 l.toArray) : SzAt w g 0 l := by
  refine ⟨hg, fun i hi => ?_⟩
  have e : l.toArray[i]! = l.getD i ⟨0, 0, 0⟩ := by
    rw [getElem!_pos _ _ (by simpa using hi), List.getD_eq_getElem?_getD, List.getElem?_eq_getElem hi]; simp
  have a := (h.cell (i := i) (c := 0) (by simpa using hi) (by decide)).1
  have b := (h.cell (i := i) (c := 1) (by simpa using hi) (by decide)).1
  have c := (h.cell (i := i) (c := 2) (by simpa using hi) (by decide)).1
  rw [e] at a b c
  exact ⟨a, b, c⟩

theorem szOwn_of {w : World} {B : Nat} {v : Value} {l : List Sz} (h : w.ownsRow B 35 3 v l.length (szCells l)) : SzOwn w B v l := by
  rcases h.2 with ⟨rfl, hn⟩ | ⟨g, cap, cur, rfl, hg, hc, _, _, hsz, htk⟩
  · exact .inl ⟨List.eq_nil_of_length_eq_zero hn, _, _, rfl⟩
  · have hcell : ∀ j u, (szCells l)[j]? = some u → w.cell? ⟨g, j, none⟩ = some u := fun j u hj => by
      rw [← htk] at hj
      have : cur.toList[j]? = some u := by
        rw [List.getElem?_take] at hj
        split at hj
        · exact hj
        · cases hj
      rw [Lib.cell_of_heap hc, ← Array.getElem?_toList]; exact this
    have hS : SzAt w g 0 l := ⟨(Array.getElem?_eq_some_iff.1 hc).1, fun i hi => by
      obtain ⟨a, b, c⟩ := szCells_at l i hi
      rw [Nat.zero_add]
      exact ⟨hcell _ _ a, hcell _ _ b, hcell _ _ c⟩⟩
    exact .inr ⟨g, cap, rfl, hg, hS, holdsK_of hS (Lib.frozen_of_heap hc)⟩
theorem SzOwn.sl {w : World} {B : Nat} {v : Value} {l : List Sz} (h : SzOwn w B v l) : SzSl w v l := by
  rcases h with ⟨rfl, a, cap, rfl⟩ | ⟨g, cap, rfl, _, hS, _⟩
  · exact ⟨a, cap, rfl, fun i hi => absurd hi (Nat.not_lt_zero _)⟩
  · exact hS.sl

set_option maxHeartbeats 1000000 in
theorem clone_size (l : List Sz) (hln : l.length ≤ 1000) (v : Value) (w : World) (hl : SzSl w v l) :
    Calls Tryz.prog 21 #[v] w fun e w' => ∃ v', e = .returned v' ∧ Q w w' ∧ SzOwn w' w.heap.size v' l := by
  obtain ⟨i0, hi, hz0, hz1, hz2⟩ := info_parts infoSize
  obtain ⟨a, cap, rfl, hc⟩ := hl
  cases a with
  | none =>
    have he : l = [] := by
      cases l with
      | nil => rfl
      | cons s l => obtain ⟨b, o, e, _⟩ := hc 0 (by simp); cases e
    subst he
    clear hc
    have q : ∀ (w : World) (a : Option Addr) (n c n' c' : Nat), (binOp .eql 31 (.slice a n c) (.slice none n' c')).run Tryz.prog w = .ok (.bool a.isNone) w := fun w a n c n' c' => Lib.run_eql_slice_nil w _ _ a n c n' c' Tryz.underlying31
    go_enter Tryz.func21, Tryz.ntmps21
    go_wp2
    go_ret
    exact ⟨_, rfl, Below.refl _ _, .inl ⟨rfl, _, _, rfl⟩⟩
  | some ad =>
    have hnews : ∀ j u, (szCells l)[j]? = some u → w.cell? (ad.add j) = some u := fun j u hj => by
      obtain ⟨i, hi, h⟩ := szCells_get l j u hj
      obtain ⟨b, o, e, _, c0, c1, c2⟩ := hc i hi
      simp only [Option.some.injEq] at e
      subst e
      rw [Addr.add_lit]
      rcases h with ⟨rfl, rfl⟩ | ⟨rfl, rfl⟩ | ⟨rfl, rfl⟩
      · exact c0
      · exact c1
      · exact c2
    have HN := Lib.hid hnews
    clear hc hnews
    have q : ∀ (w : World) (a : Option Addr) (n c n' c' : Nat), (binOp .eql 31 (.slice a n c) (.slice none n' c')).run Tryz.prog w = .ok (.bool a.isNone) w := fun w a n c n' c' => Lib.run_eql_slice_nil w _ _ a n c n' c' Tryz.underlying31
    go_enter Tryz.func21, Tryz.ntmps21
    go_wp2_with (at_builtin; refine wpList_append_own _ rfl _ _ 31 rfl w.heap.size 35 i0 _ 3 24 Tryz.underlying31 hi hz0 hz1 hz2 rfl (by decide) _ _ _ rfl (World.ownsRow_made w #[] 0 (Nat.le_refl _) (Nat.zero_le _) (by simp)) ad l.length cap (szCells l) rfl ?qc1 ?qc2 ?qc3 ?qc4 ?qc5 ?qc6 ?_)
    case qc1 => exact szCells_len l
    case qc2 =>
      intro j u hj
      exact Lib.cell?_alloc_some _ (HN.out j u hj)
    case qc3 => exact szCells_one l
    case qc4 => unfold maxLen; omega
    case qc5 => omega
    case qc6 => simp
    intro v' w1 hown hgrow hnil
    go_wp2
    go_ret
    refine ⟨v', rfl, ?_, szOwn_of (by simpa using hown)⟩
    exact ((Below.refl _ w).alloc (Nat.le_refl _) _).grown hgrow (by simp) (by intro k hk; simp [Value.ownBlock] at hk; omega)

theorem below_putRowK {B : Nat} (w : World) (n g : Nat) (d : Array Sz) (hg : B ≤ g) : Below B w (putRowK szC 3 (Sort.ahead w n) g 0 d) :=
  ⟨rfl, rfl, rfl, by simp [putRowK, putRow, mapBlock, Sort.ahead], fun k hk => by
    have : ¬ g = k := by omega
    simp [putRowK, putRow, mapBlock, Sort.ahead, Array.getElem?_modify, this]⟩

theorem reverse_size (l : List Sz) (hln : l.length ≤ 1000) (B : Nat) (v : Value) (w : World) (hl : SzOwn w B v l) (hB : B ≤ w.heap.size) :
    Calls Tryz.prog 22 #[v] w fun e w' => e = .returned (.tuple #[]) ∧ Below B w w' ∧ SzSl w' v l.reverse := by
  rcases hl with ⟨rfl, a, cap, rfl⟩ | ⟨g, cap, rfl, hg, hS, hH⟩
  · refine (AnyQ.slices_Reverse_empty Tryz.reverseSz a cap w).mono ?_
    rintro e w' ⟨rfl, rfl⟩
    exact ⟨rfl, Below.refl _ _, a, cap, rfl, fun i hi => absurd hi (Nat.not_lt_zero _)⟩
  · have hr := AnyQ.slices_Reverse Tryz.reverseSz 3 Tryz.isAgg35 Tryz.sizeOf35 szC (fun _ => rfl) (fun x v hv => by simp [szC] at hv; rcases hv with rfl | rfl | rfl <;> rfl) g 0 cap l.toArray w hH (by simp; omega)
    rw [List.size_toArray] at hr
    refine hr.mono ?_
    rintro e w' ⟨rfl, n, rfl⟩
    refine ⟨rfl, below_putRowK w n g _ hg, ?_⟩
    have h2 : HoldsK szC 3 (putRowK szC 3 (Sort.ahead w n) g 0 l.toArray.reverse) g 0 l.toArray.reverse := holdsK_putRowK szC 3 (Sort.ahead w n) g 0 l.toArray l.toArray.reverse (show HoldsK szC 3 (Sort.ahead w n) g 0 l.toArray from hH) (by simp)
    rw [show l.toArray.reverse = l.reverse.toArray by simp] at h2 ⊢
    have := (szAt_of (g := g) (by simp [putRowK, putRow, mapBlock, Sort.ahead]; exact hS.1) h2).sl (cap := cap)
    rw [List.length_reverse] at this
    exact this

end Go.Proofs.YtgkikkabmcihhaaGreatDoor
