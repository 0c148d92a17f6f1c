/-
  The law TimberWords: its walk.
-/
import Derived.Test.YtgkikkabmcihhaaGreatDoorWKinds
import Derived.Test.YtgkikkabmcihhaaGreatDoorWX
import Derived.Lib.SlicesCompact
namespace Go.Proofs.YtgkikkabmcihhaaGreatDoor
open Go.RowKit Kp Go.Sort Go.Maps

theorem u8_range {x : Int} (h : (Go.Lit.int .u8 x).wf = true) : 0 ≤ x ∧ x ≤ 255 := by
  have h2 : (decide (IntKind.min .u8 ≤ x) && decide (x ≤ IntKind.max .u8)) = true := h
  rw [show IntKind.min .u8 = 0 from rfl, show IntKind.max .u8 = 255 from rfl] at h2
  simpa using h2
theorem kindsL_len : kindsL.length = 12 := rfl
theorem compact_nodup (zs : List Str) (h : zs.Nodup) : Lib.compact zs = zs := by
  refine Lib.compact_all zs fun j hj => ?_
  by_cases h0 : j = 0
  · subst h0; exact Lib.keeps_lt_one _ 0 (by omega)
  · refine Lib.keeps_pos fun he => ?_
    have hj1 : j - 1 < zs.length := by omega
    rw [getElem!_pos zs.toArray j (by simpa using hj), getElem!_pos zs.toArray (j - 1) (by simpa using hj1)] at he
    have := (List.getElem_inj h).1 (by simpa using he)
    omega
theorem kindsL_nodup : kindsL.Nodup := by decide
theorem sorted_len : (kindsL.mergeSort fun x y => decide (x ≤ y)).length = 12 := by rw [List.length_mergeSort]; rfl
theorem compact_kinds : (Lib.compact (kindsL.mergeSort fun x y => decide (x ≤ y))).length = 12 := by
  rw [compact_nodup _ ((List.mergeSort_perm kindsL _).nodup_iff.2 kindsL_nodup)]
  exact sorted_len
theorem scheck_word (K : Nat) (h1 : 1 ≤ K) (h2 : K ≤ 12) : scheck [⟨(K : Int), 1, 1000⟩] [] = 0 := by
  rw [scheck_zero]
  refine ⟨?_, by simp, by simp⟩
  intro s hs
  simp only [List.mem_cons, List.not_mem_nil, or_false] at hs
  subst hs
  unfold Sz.ok; simp only; omega
theorem sprint_word (K : Nat) : sprint [⟨(K : Int), 1, 1000⟩] = wordStrs.getD K [] ++ [32, 49, 32, 49, 48, 48, 48, 10] := by
  have h1 : Lib.itoa 1 = [49] := itoa_one
  have h2 : Lib.itoa 1000 = [49, 48, 48, 48] := by simp [Lib.itoa, Lib.decDigits]
  unfold sprint sline
  simp only [List.flatMap_cons, List.flatMap_nil, Int.toNat_natCast, h1, h2, List.append_assoc, List.nil_append, List.cons_append, List.append_nil]

theorem holds_cell {w : World} {g : Nat} {zs : List Str} (h : Holds encStr w g 0 zs.toArray) (j : Nat) (hj : j < zs.length) : w.cell? ⟨g, j, none⟩ = some (.string ⟨(zs[j]?.getD []).toArray⟩) := by
  have := (h j (by simpa using hj)).1
  rw [Nat.zero_add, getElem!_pos zs.toArray j (by simpa using hj)] at this
  rw [this, List.getElem?_eq_getElem hj]
  simp [encStr]
theorem holds_keep {w w' : World} {g B : Nat} {d : Array Str} (h : Holds encStr w g 0 d) (hb : Below B w w') (hg : g < B) : Holds encStr w' g 0 d := fun j hj => by
  have := h j hj
  refine ⟨(hb.cell (p := ⟨g, 0 + j, none⟩) hg).trans this.1, ?_⟩
  have h2 := this.2
  unfold World.frozen? at h2 ⊢
  rw [hb.block g hg]; exact h2

theorem print_word (k : Nat) (hk : k < 12) (w : World) (hE : Env w) (b : Nat) (t : TypeId) (hb : Blk w b [.int .i64 ((k : Int) + 1), .int .i64 1, .int .i64 1000] t) :
    ∃ Y Z : ByteArray, ⟨(kindsL[k]?.getD []).toArray⟩ = Y ∧ (∀ w, (Op.stringOp .add Y ⟨#[32, 49, 32, 49, 48, 48, 48, 10]⟩).run Tryz.prog w = .ok (.string Z) w) ∧
    Calls Tryz.prog 25 #[.slice (some ⟨b, 0, none⟩) 1 1] w fun e w' => e = .returned (.tuple #[.string Z, .int .i64 0]) ∧ Q w w' := by
  have e : ((k + 1 : Nat) : Int) = (k : Int) + 1 := by omega
  have h := timber_Print [⟨((k + 1 : Nat) : Int), 1, 1000⟩] (by simp) (.slice (some ⟨b, 0, none⟩) 1 1) w hE ⟨_, 1, rfl, fun i hi => ?_⟩ (scheck_word (k + 1) (by omega) (by omega))
  · rw [sprint_word] at h
    have e1 : wordStrs.getD (k + 1) [] = kindsL[k]?.getD [] := by
      have : ∀ i : Fin 12, wordStrs.getD (i.val + 1) [] = kindsL[i.val]?.getD [] := by decide
      exact this ⟨k, hk⟩
    have e2 : (kindsL[k]?.getD []).length ≤ 10 := by
      have : ∀ i : Fin 12, (kindsL[i.val]?.getD []).length ≤ 10 := by decide
      exact this ⟨k, hk⟩
    rw [e1] at h
    exact ⟨_, _, rfl, add_rule _ _ [32, 49, 32, 49, 48, 48, 48, 10] (by simp; omega), h⟩
  · have : i = 0 := by simp only [List.length_cons, List.length_nil] at hi; omega
    subst this
    refine ⟨b, 0, rfl, hb.lt, ?_, (hb.cell 1).trans rfl, (hb.cell 2).trans rfl⟩
    rw [show ([⟨((k + 1 : Nat) : Int), 1, 1000⟩] : List Sz).getD 0 ⟨0, 0, 0⟩ = ⟨((k + 1 : Nat) : Int), 1, 1000⟩ from rfl]
    simp only [e]
    exact (hb.cell 0).trans rfl

theorem below_put {B : Nat} (w : World) (n g : Nat) (d : Array Str) (hg : B ≤ g) : Below B w (putRow encStr (Sort.ahead w n) g 0 d) :=
  ⟨rfl, rfl, rfl, by simp [putRow, mapBlock, Sort.ahead], fun k hk => by
    have : ¬ g = k := by omega
    simp [putRow, mapBlock, Sort.ahead, Array.getElem?_modify, this]⟩

set_option maxRecDepth 100000 in
set_option maxHeartbeats 2000000 in
theorem words_walk (x : Int) (hx0 : 0 ≤ x) (hx1 : x ≤ 255) (w : World) (hE : Env w) :
    Calls Tryz.prog 10 #[.int .u8 x] w fun e w' => e = .returned (.bool true) ∧ Q w w' := by
  have hr0 : 0 ≤ x % 12 := Int.emod_nonneg _ (by decide)
  have hr1 : x % 12 < 12 := Int.emod_lt_of_pos _ (by decide)
  go_enter Tryz.func10, Tryz.ntmps10
  go_wp2_with fail
  refine (timber_Kinds _ hE).mono ?_
  rintro e w1 ⟨g, cap, rfl, hQ1, hg, hK⟩
  go_wp2_with fail
  obtain ⟨k, hx12⟩ : ∃ k : Nat, x % 12 = (k : Int) := ⟨(x % 12).toNat, by omega⟩
  have hk : k < 12 := by omega
  rw [hx12]
  clear hx12 hr0 hr1 hx0 hx1
  have hq0 : Q w1 (w1.alloc (.cells [.int .i64 ((k : Int) + 1), .int .i64 1, .int .i64 1000].toArray 35)) := (by repeat (first | exact Below.refl _ _ | assumption | refine below_drewN ?_ _ | refine Below.drew ?_ | refine Below.alloc ?_ (by first | (simp; done) | (simp; omega)) _ | refine Below.setCell ?_ (by first | (simp; done) | (simp; omega)) _))
  obtain ⟨Y, Z, hY, hZ, hP⟩ := print_word k hk _ (hE.q (hQ1.trans (hq0.mono hQ1.size))) w1.heap.size 35 (Blk.new w1 _ _)
  refine hP.mono ?_
  clear hP
  rintro e w2 ⟨rfl, hq2⟩
  have hQ2 := hQ1.trans ((hq0.trans (hq2.mono hq0.size)).mono hQ1.size)
  have hW := hq0.trans (hq2.mono hq0.size)
  have hg2 : g < w2.heap.size := Nat.lt_of_lt_of_le hg hW.size
  have hH2 := Lib.hid (holds_keep hK hW hg)
  clear hq0 hq2 hK hW
  go_wp2_with fail
  refine (lib_Values _ _ _ _).mono ?_
  rintro e w3 ⟨rfl, rfl⟩
  have hq3 : Q w2 (w2.alloc (.cells #[.slice (some ⟨g, 0, none⟩) 12 cap] 50)) := (by repeat (first | exact Below.refl _ _ | assumption | refine below_drewN ?_ _ | refine Below.drew ?_ | refine Below.alloc ?_ (by first | (simp; done) | (simp; omega)) _ | refine Below.setCell ?_ (by first | (simp; done) | (simp; omega)) _))
  have hB3 := (Boxed.new w2 50 (.slice (some ⟨g, 0, none⟩) 12 cap)).cell
  have hH3 := Lib.hid (holds_keep hH2.out hq3 hg2)
  clear hH2
  have HS := Lib.hid (lib_Sorted w2.heap.size g cap kindsL (by decide) _ hB3 (fun j hj => holds_cell hH3.out j hj) (by decide))
  clear hB3
  go_wp2_with fail
  refine HS.out.mono ?_
  clear HS
  rintro e w4 ⟨g4, c4, rfl, hq4, hg4, hgl4, hc4, hH4⟩
  have hQ4 := hQ2.trans ((hq3.trans (hq4.mono hq3.size)).mono hQ2.size)
  have hW4 := hq3.trans (hq4.mono hq3.size)
  have hK4 := holds_keep hH3.out hq4 (by simp; omega)
  have hgg : g < w4.heap.size := Nat.lt_of_lt_of_le hg2 hW4.size
  have b0 := holds_cell hK4 k hk
  rw [hY] at b0
  have hs1 : (w4.heap.size) = (w4.heap.size) := rfl
  have hb4 : w2.heap.size ≤ g4 := by simp at hg4; omega
  have b1 := holds_cell hK4 0 (by decide)
  have b2 := holds_cell hK4 11 (by decide)
  have HC := Lib.hid (Tryz.slices_Compact_string g4 0 c4 (kindsL.mergeSort fun x y => decide (x ≤ y)) w4 hH4 (by rw [sorted_len]; decide) (by rw [sorted_len]; exact hc4))
  rw [sorted_len, compact_kinds] at HC
  rw [kindsL_len]
  clear hH3 hK4 hH4 hW4 hs1
  go_wp2_with fail
  refine HC.out.mono ?_
  clear HC
  rintro e w5 ⟨rfl, n5, rfl⟩
  have hP5 := below_put (B := w2.heap.size) w4 n5 g4 (Lib.compact (kindsL.mergeSort fun x y => decide (x ≤ y)) ++ List.replicate (12 - 12) []).toArray hb4
  generalize putRow encStr (Sort.ahead w4 n5) g4 0 (Lib.compact (kindsL.mergeSort fun x y => decide (x ≤ y)) ++ List.replicate (12 - 12) []).toArray = w5 at *
  have c1 := (hP5.cell (p := ⟨g, 0, none⟩) hg2).trans b1
  have c2 := (hP5.cell (p := ⟨g, 11, none⟩) hg2).trans b2
  have hQ5 := hQ4.trans (hP5.mono hQ2.size)
  rw [show (⟨(kindsL[0]?.getD []).toArray⟩ : ByteArray) = ⟨#[99, 111, 109, 109, 111, 110]⟩ from rfl] at c1
  rw [show (⟨(kindsL[11]?.getD []).toArray⟩ : ByteArray) = ⟨#[104, 101, 97, 100, 101, 114]⟩ from rfl] at c2
  clear b0 b1 b2 hP5
  go_wp2_with fail
  refine (awake_any _ (hE.q hQ5)).mono ?_
  rintro e w6 ⟨rfl, hq6⟩
  go_wp2
  go_ret
  exact ⟨rfl, hQ5.trans (hq6.mono hQ5.size)⟩

end Go.Proofs.YtgkikkabmcihhaaGreatDoor
