/-
  surd.Check at a list of terms; its walk.; Sums of lengths: the weights of their classes; a list of classes put in order. Mathematics.; slices.SortFunc at a list of classes whose roots differ; its walk.; surd.Make, Add, Sub and Compare at sums of lengths.
-/
import Derived.Test.YtedijdmenfcjlaaGreatDoorVL
namespace Go.Proofs.YtedijdmenfcjlaaGreatDoor
open Go.RowKit Kp
theorem surd_Check1 (X Y : Str) (l m : Nat) (hl : 0 < l) (hl1 : l < 10 ^ 80) (hm : 0 < m) (hm1 : m < 10 ^ 80) (b : Nat) (t : TypeId) (w : World) (hE : Env w) (hb : Blk w b [.string ⟨X.toArray⟩, .string ⟨(Lib.itoa (m : Int)).toArray⟩] t) :
  Calls Tryz.prog 77 #[.agg #[.string ⟨Y.toArray⟩, .string ⟨(Lib.itoa (l : Int)).toArray⟩], .pointer (some ⟨b, 0, none⟩)] w fun e w' => e = .returned (.bool (isSq ((m : Rat) / (l : Rat)))) ∧ Q w w' := by
 have HR := Lib.hid (fun w hw => root_Ratio_nat l m hl hl1 hm hm1 w hw)
 generalize Lib.itoa (l : Int) = L at *
 generalize Lib.itoa (m : Int) = M at *
 generalize (if isSq ((m : Rat) / (l : Rat)) then rstr (sqR ((m : Rat) / (l : Rat))) else []) = S at *
 generalize isSq ((m : Rat) / (l : Rat)) = B at *
 clear hl hl1 hm hm1
 have hlt := hb.lt
 have c1 := hb.cell 1
 simp only [List.getElem?_cons_zero, List.getElem?_cons_succ] at c1
 go_enter Tryz.func77, Tryz.ntmps77
 have hQ0 := Q.refl w
 go_wp2_with fail
 refine (HR.out _ (hE.ofQ bt)).mono ?_
 rintro e w1 ⟨rfl, hq1⟩
 have hs1 : Q w w1 := Q.trans bt hq1
 have hQ1 : Q w w1 := Q.trans hQ0 hs1
 go_wp2
 go_ret
 exact ⟨rfl, bt⟩
theorem get_ofC (L : List (Rat × Nat)) (j : Nat) (h : j < L.length) : (L.map ofC).getD j ([], []) = (rstr L[j].1, Lib.itoa (L[j].2 : Int)) := by
 rw [List.getD_eq_getElem?_getD, List.getElem?_map, List.getElem?_eq_getElem h]; rfl
set_option maxRecDepth 100000 in
set_option maxHeartbeats 1000000 in
theorem index_sim (L : List (Rat × Nat)) (hL : ∀ c ∈ L, 0 < c.2 ∧ c.2 < 10 ^ 80) (hn : L.length ≤ 1000) (X : Str) (m : Nat) (hm : 0 < m) (hm1 : m < 10 ^ 80) (hs : ∀ c ∈ L, ¬ Sim m c.2) (g : Nat) (t : TypeId) (v : Value) (w : World) (hE : Env w) (hb : Blk w g [.string ⟨X.toArray⟩, .string ⟨(Lib.itoa (m : Int)).toArray⟩] t) (hv : TSl w w.heap.size v (L.map ofC)) :
  Calls Tryz.prog 118 #[v, .func (.func 77) #[] #[.pointer (some ⟨g, 0, none⟩)]] w fun e w' => e = .returned (.int .i64 (-1)) ∧ Q w w' := by
 obtain ⟨a, cap, rfl, -, hc⟩ := hv
 rw [List.length_map] at hc
 rw [List.length_map]
 have HG := Lib.hid (fun j h => get_ofC L j h)
 have HN := Lib.hid (fun j (hj : j < L.length) w' (hw : Env w') (hq : Q w w') => surd_Check1 X (rstr L[j].1) L[j].2 m (hL _ (List.getElem_mem hj)).1 (hL _ (List.getElem_mem hj)).2 hm hm1 g t w' hw (hb.keep hq hb.lt))
 have HF := Lib.hid (fun j (hj : j < L.length) => (Bool.eq_false_iff.2 (hs L[j] (List.getElem_mem hj)) : isSq ((m : Rat) / (L[j].2 : Rat)) = false))
 have HC := Lib.hid hc
 clear hL hs hb hc
 go_enter Tryz.func118, Tryz.ntmps118
 go_wp2
 go_loopw [8] (fun i wr => ∃ j : Nat, j ≤ L.length ∧ i = .int .i64 j ∧ Q w wr) (fun i _ => L.length - (intOf i).toNat)
 case atStart => exact ⟨0, by omega, rfl, Below.refl _ _⟩
 case round =>
  obtain ⟨j, hj, rfl, hQ⟩ := hrel
  by_cases hlt : j < L.length
  ·obtain ⟨b, o, ha, hbb, d0, d1⟩ := HC.out j hlt
   subst ha
   have c0 := (hQ.cell (p := ⟨b, o + j * 2, none⟩) hbb).trans d0
   have c1 := (hQ.cell (p := ⟨b, o + j * 2 + 1, none⟩) hbb).trans d1
   rw [HG.out j hlt] at c0 c1
   simp only at c0 c1
   have HNJ := Lib.hid (HN.out j hlt)
   have HFJ := Lib.hid (HF.out j hlt)
   have hlt2 : (j : Int) < L.length := by omega
   have hj0 : (0 : Int) ≤ j := by omega
   have hj1 : (j : Int) ≤ 1000 := by omega
   have HJ : Hid (j + 1 ≤ L.length) := Lib.hid hlt
   have lbr := Nat.lt_of_lt_of_le hbb hQ.size
   clear d0 d1 HN HF HC HG
   rw [HFJ.out] at HNJ
   clear HFJ
   generalize rstr L[j].1 = P at *
   generalize Lib.itoa (L[j].2 : Int) = R at *
   go_wp2_with fail
   refine (HNJ.out _ (hE.ofQ bt) bt).mono ?_
   rintro e w2 ⟨rfl, hq2⟩
   have hQ2 : Q w w2 := Q.trans hQ hq2
   go_wp2
   go_roundw
   case rel => exact ⟨j + 1, HJ.out, by go_num, hQ2⟩
   case measure => simp [intOf]; omega
  ·have hje : j = L.length := by omega
   subst hje
   go_wp2
   go_ret
   exact ⟨rfl, hQ⟩
set_option maxRecDepth 100000 in
set_option maxHeartbeats 1000000 in
theorem contains_sim (L : List (Rat × Nat)) (hL : ∀ c ∈ L, 0 < c.2 ∧ c.2 < 10 ^ 80) (hn : L.length ≤ 1000) (X : Str) (m : Nat) (hm : 0 < m) (hm1 : m < 10 ^ 80) (hs : ∀ c ∈ L, ¬ Sim m c.2) (g : Nat) (t : TypeId) (v : Value) (w : World) (hE : Env w) (hb : Blk w g [.string ⟨X.toArray⟩, .string ⟨(Lib.itoa (m : Int)).toArray⟩] t) (hv : TSl w w.heap.size v (L.map ofC)) :
  Calls Tryz.prog 76 #[v, .func (.func 77) #[] #[.pointer (some ⟨g, 0, none⟩)]] w fun e w' => e = .returned (.bool false) ∧ Q w w' := by
 have HI := Lib.hid (index_sim L hL hn X m hm hm1 hs g t v w hE hb hv)
 obtain ⟨a, cap, rfl, -, -⟩ := hv
 rw [List.length_map] at HI ⊢
 clear hL hs hb
 go_enter Tryz.func76, Tryz.ntmps76
 go_wp2_with fail
 refine HI.out.mono ?_
 rintro e w1 ⟨rfl, hq1⟩
 go_wp2
 go_ret
 exact ⟨rfl, hq1⟩
structure SList (L : List (Rat × Nat)) : Prop where
 term : ∀ c ∈ L, Term1 c.1 c.2
 up : ∀ i (h : i + 1 < L.length), L[i].2 < L[i + 1].2
 apart : Apart L
 len : L.length ≤ 16
theorem Term1.root80 {x : Rat} {l : Nat} (h : Term1 x l) : 0 < l ∧ l < 10 ^ 80 := by
 have h1 := h.c40.1
 rw [Rat.num_natCast, Int.natAbs_natCast] at h1
 exact ⟨h.norm.1, Nat.lt_of_lt_of_le h1 (by decide)⟩
theorem SList.far {L : List (Rat × Nat)} (h : SList L) (i : Nat) (hi : i < L.length) : ∀ c ∈ L.take i, ¬ Sim L[i].2 c.2 := by
 intro c hc
 obtain ⟨j, hj, rfl⟩ := List.mem_iff_getElem.1 hc
 rw [List.length_take] at hj
 rw [List.getElem_take]
 exact (List.pairwise_iff_getElem.1 h.apart) j i (by omega) hi (by omega)
theorem TSl.take {w : World} {B : Nat} {a : Option Addr} {n cap : Nat} {L : List (Rat × Nat)} (h : TSl w B (.slice a n cap) (L.map ofC)) (i : Nat) (hi : i ≤ L.length) : ∀ cap', TSl w B (.slice a i cap') ((L.take i).map ofC) := by
 intro cap'
 obtain ⟨a', c', he, hB, hc⟩ := h
 injection he with e1 e2 e3
 subst e1
 refine ⟨a, cap', by rw [List.length_map, List.length_take, Nat.min_eq_left hi], hB, fun j hj => ?_⟩
 rw [List.length_map, List.length_take] at hj
 obtain ⟨b, o, ha, hb, c0, c1⟩ := hc j (by rw [List.length_map]; omega)
 have e : ((L.take i).map ofC).getD j ([], []) = (L.map ofC).getD j ([], []) := by
  rw [List.map_take, List.getD_eq_getElem?_getD, List.getD_eq_getElem?_getD, List.getElem?_take, if_pos (by omega)]
 rw [e]
 exact ⟨b, o, ha, hb, c0, c1⟩
set_option maxRecDepth 100000 in
set_option maxHeartbeats 2000000 in
theorem surd_Check_list (L : List (Rat × Nat)) (hL : SList L) (a : Option Addr) (cap : Nat) (hcap : L.length ≤ cap) (w : World) (hE : Env w) (hv : TSl w w.heap.size (.slice a L.length cap) (L.map ofC)) :
  Calls Tryz.prog 44 #[.slice a L.length cap] w fun e w' => e = .returned (.int .i64 0) ∧ Q w w' := by
 have HV := Lib.hid hv
 have hc : ∀ i, i < L.length → ∃ b o, a = some ⟨b, o, none⟩ ∧ b < w.heap.size ∧ w.cell? ⟨b, o + i * 2, none⟩ = some (.string ⟨((L.map ofC).getD i ([], [])).1.toArray⟩) ∧ w.cell? ⟨b, o + i * 2 + 1, none⟩ = some (.string ⟨((L.map ofC).getD i ([], [])).2.toArray⟩) := by
  obtain ⟨a', cap', he, -, h⟩ := hv
  injection he with e1 e2 e3
  subst e1
  rw [List.length_map] at h
  exact h
 clear hv
 have hlen := hL.len
 have HG := Lib.hid (fun j h => get_ofC L j h)
 have HR := Lib.hid (fun j (hj : j < L.length) w hw => surd_right_g L[j].1 L[j].2 (hL.term _ (List.getElem_mem hj)).lim (hL.term _ (List.getElem_mem hj)).ne (hL.term _ (List.getElem_mem hj)).c60 (hL.term _ (List.getElem_mem hj)).norm (hL.term _ (List.getElem_mem hj)).c40 w hw)
 have HCM := Lib.hid (fun j (hj : j + 1 < L.length) w hw => rational_Compare_nat L[j].2 L[j + 1].2 (lim_nat80 (hL.term _ (List.getElem_mem (show j < L.length by omega))).root80.2) (lim_nat80 (hL.term _ (List.getElem_mem hj)).root80.2) w hw)
 have HUP := Lib.hid (fun j (hj : j + 1 < L.length) => (by
  have h := hL.up j hj
  unfold Lib.compareInt
  rw [if_pos (by omega)] : Lib.compareInt (L[j].2 : Int) (L[j + 1].2 : Int) = -1))
 have h1000 : ∀ j, (L.take j).length ≤ 1000 := fun j => by rw [List.length_take]; omega
 have HCT := Lib.hid (fun j (hj : j < L.length) cap' g t w' (hw : Env w') (hq : Q w w') (hb : Blk w' g [.string ⟨(rstr L[j].1).toArray⟩, .string ⟨(Lib.itoa (L[j].2 : Int)).toArray⟩] t) => contains_sim (L.take j) (fun c hc => (hL.term c (List.mem_of_mem_take hc)).root80) (h1000 j) (rstr L[j].1) L[j].2 (hL.term _ (List.getElem_mem hj)).root80.1 (hL.term _ (List.getElem_mem hj)).root80.2 (hL.far j hj) g t (.slice a j cap') w' hw hb (((HV.out.take j (by omega) cap').keep hq (Nat.le_refl _)).raise hq.size (Nat.le_refl _)))
 have HC := Lib.hid hc
 clear hc hL h1000
 go_enter Tryz.func44, Tryz.ntmps44
 go_wp2
 go_loopw [13] (fun i wr => ∃ k : Nat, k ≤ L.length ∧ i = .int .i64 k ∧ Q w wr) (fun i _ => L.length - (intOf i).toNat)
 case atStart => exact ⟨0, by omega, rfl, Q.refl _⟩
 case round =>
  obtain ⟨k, hk, rfl, hQ⟩ := hrel
  by_cases hlt : k < L.length
  ·obtain ⟨b, o, ha, hbb, d0, d1⟩ := HC.out k hlt
   subst ha
   have c0 := (hQ.cell (p := ⟨b, o + k * 2, none⟩) hbb).trans d0
   have c1 := (hQ.cell (p := ⟨b, o + k * 2 + 1, none⟩) hbb).trans d1
   rw [HG.out k hlt] at c0 c1
   simp only at c0 c1
   have HRK := Lib.hid (HR.out k hlt)
   have HCK := Lib.hid (fun cap' => HCT.out k hlt cap')
   have HJ : Hid (k + 1 ≤ L.length) := Lib.hid hlt
   have lbr := Nat.lt_of_lt_of_le hbb hQ.size
   clear d0 d1 HR HCT
   rcases Nat.eq_zero_or_pos k with h0 | h0
   ·subst h0
    clear HCM HUP HCK HC HG
    rw [Nat.zero_mul, Nat.add_zero] at c0 c1
    generalize rstr L[0].1 = P at *
    generalize Lib.itoa (L[0].2 : Int) = R at *
    go_wp2_with fail
    refine (HRK.out _ (hE.ofQ bt)).mono ?_
    rintro e w2 ⟨rfl, hq2⟩
    have hQ2 : Q w w2 := Q.trans (hQ.alloc hQ.size _) hq2
    clear c0 c1
    go_wp2
    go_roundw
    case rel => exact ⟨1, HJ.out, by go_num, hQ2⟩
    case measure => simp [intOf]; omega
   ·obtain ⟨j, rfl⟩ : ∃ j, k = j + 1 := ⟨k - 1, by omega⟩
    obtain ⟨b', o', ha', hbb', d0, d1⟩ := HC.out j (by omega)
    injection ha' with ha'
    injection ha' with e1 e2
    subst e1 e2
    have p1 := (hQ.cell (p := ⟨b, o + j * 2 + 1, none⟩) hbb).trans d1
    rw [HG.out j (by omega)] at p1
    simp only at p1
    have HCMJ := Lib.hid (fun w hw => HCM.out j hlt w hw)
    rw [HUP.out j hlt] at HCMJ
    clear HCM HUP d0 d1 HC HG
    generalize rstr L[j + 1].1 = P at *
    generalize Lib.itoa (L[j + 1].2 : Int) = R at *
    generalize Lib.itoa (L[j].2 : Int) = R0 at *
    go_wp2_with fail
    refine (HRK.out _ (hE.ofQ bt)).mono ?_
    rintro e w2 ⟨rfl, hq2⟩
    have T := (Blk.new wr [.string ⟨P.toArray⟩, .string ⟨R.toArray⟩] 56).keep hq2 (by simp)
    have hQa : Q w (wr.alloc (Obj.cells [.string ⟨P.toArray⟩, .string ⟨R.toArray⟩].toArray 56)) := hQ.alloc hQ.size _
    have hQ2 : Q w w2 := Q.trans hQa hq2
    have hs2 : Q wr w2 := Q.trans ((Below.refl _ wr).alloc (Nat.le_refl _) _) hq2
    have t0 := T.cell 0
    have t1 := T.cell 1
    simp only [List.getElem?_cons_zero, List.getElem?_cons_succ] at t0 t1
    replace p1 := qcell hs2 p1
    have lT := T.lt
    have lb2 := Nat.lt_of_lt_of_le lbr hs2.size
    have hj0 : (0 : Int) ≤ (j : Int) := by omega
    have hj1 : (j : Int) ≤ 16 := by omega
    have hjl : (j : Int) < L.length := by omega
    have wj := Go.IntWalk.i64_in (j : Int) (by omega)
    have hsub : (j : Int) + 1 - 1 = j := by omega
    clear c0 c1 hq2 hQa
    have hjc : (j : Int) + 1 ≤ cap := by omega
    go_wp2_with fail
    have dp1 : w2.drew.cell? ⟨b, o + j * 2 + 1, none⟩ = some (.string ⟨R0.toArray⟩) := p1
    have dt1 : w2.drew.cell? ⟨wr.heap.size, 1, none⟩ = some (.string ⟨R.toArray⟩) := t1
    have hqd : Q w2 w2.drew := Below.drew (Q.refl w2)
    refine wp_steadily 14 (by kernel_rfl) (by kernel_rfl) rfl ?_
    refine steadily_value (i := 0) (v := ?_) rfl rfl (by kernel_rfl) (by kernel_rfl) (fun _ _ _ h => h) (by rfl) ?_ ?_
    rotate_left
    ·(intro w' hq; go_simp; try with_reducible rfl)
    simp only [Act.put, List.setIfInBounds_toArray, List.set_cons_zero, List.set_cons_succ]
    refine steadily_value (i := 1) (v := ?_) rfl rfl (by kernel_rfl) (by kernel_rfl) (fun _ _ _ h => h) (by rfl) ?_ ?_
    rotate_left
    ·(intro w' hq; go_simp; try with_reducible rfl)
    simp only [Act.put, List.setIfInBounds_toArray, List.set_cons_zero, List.set_cons_succ]
    refine steadily_value (i := 2) (v := ?_) rfl rfl (by kernel_rfl) (by kernel_rfl) (fun _ _ _ h => h) (by rfl) ?_ ?_
    rotate_left
    ·(intro w' hq; go_simp; try with_reducible rfl)
    simp only [Act.put, List.setIfInBounds_toArray, List.set_cons_zero, List.set_cons_succ]
    refine steadily_value (i := 3) (v := ?_) rfl rfl (by kernel_rfl) (by kernel_rfl) (fun _ _ _ h => h) (by rfl) ?_ ?_
    rotate_left
    ·(intro w' hq; go_simp; try with_reducible rfl)
    simp only [Act.put, List.setIfInBounds_toArray, List.set_cons_zero, List.set_cons_succ]
    refine steadily_value (i := 4) (v := ?_) rfl rfl (by kernel_rfl) (by kernel_rfl) (fun _ _ _ h => h) (by rfl) ?_ ?_
    rotate_left
    ·(intro w' hq; go_simp; try with_reducible rfl)
    simp only [Act.put, List.setIfInBounds_toArray, List.set_cons_zero, List.set_cons_succ]
    refine steadily_value (i := 5) (v := ?_) rfl rfl (by kernel_rfl) (by kernel_rfl) (fun _ _ _ h => h) (by rfl) ?_ ?_
    rotate_left
    ·(intro w' hq; have hc0 := qcell hq dp1; go_simp; try with_reducible rfl)
    simp only [Act.put, List.setIfInBounds_toArray, List.set_cons_zero, List.set_cons_succ]
    refine steadily_value (i := 6) (v := ?_) rfl rfl (by kernel_rfl) (by kernel_rfl) (fun _ _ _ h => h) (by rfl) ?_ ?_
    rotate_left
    ·(intro w' hq; go_simp; try with_reducible rfl)
    simp only [Act.put, List.setIfInBounds_toArray, List.set_cons_zero, List.set_cons_succ]
    refine steadily_value (i := 7) (v := ?_) rfl rfl (by kernel_rfl) (by kernel_rfl) (fun _ _ _ h => h) (by rfl) ?_ ?_
    rotate_left
    ·(intro w' hq; have hc0 := qcell hq dt1; go_simp; try with_reducible rfl)
    simp only [Act.put, List.setIfInBounds_toArray, List.set_cons_zero, List.set_cons_succ]
    refine steadily_call (i := 8) (v := _) rfl rfl (by kernel_rfl) (by kernel_rfl) (fun _ _ _ h => h) (by rfl) ?_ (fun w' hq => HCMJ.out w' (hE.q (Q.trans hQ2 (Q.trans hqd hq)))) ?_
    ·(intro w' hq; go_simp; try with_reducible rfl)
    simp only [Act.put, List.setIfInBounds_toArray, List.set_cons_zero, List.set_cons_succ]
    refine steadily_value (i := 9) (v := ?_) rfl rfl (by kernel_rfl) (by kernel_rfl) (fun _ _ _ h => h) (by rfl) ?_ ?_
    rotate_left
    ·(intro w' hq; go_simp; try with_reducible rfl)
    simp only [Act.put, List.setIfInBounds_toArray, List.set_cons_zero, List.set_cons_succ]
    refine steadily_value (i := 10) (v := ?_) rfl rfl (by kernel_rfl) (by kernel_rfl) (fun _ _ _ h => h) (by rfl) ?_ ?_
    rotate_left
    ·(intro w' hq; go_simp; try with_reducible rfl)
    simp only [Act.put, List.setIfInBounds_toArray, List.set_cons_zero, List.set_cons_succ]
    refine steadily_value (i := 11) (v := ?_) rfl rfl (by kernel_rfl) (by kernel_rfl) (fun _ _ _ h => h) (by rfl) ?_ ?_
    rotate_left
    ·(intro w' hq; go_simp; try with_reducible rfl)
    simp only [Act.put, List.setIfInBounds_toArray, List.set_cons_zero, List.set_cons_succ]
    refine steadily_value (i := 12) (v := ?_) rfl rfl (by kernel_rfl) (by kernel_rfl) (fun _ _ _ h => h) (by rfl) ?_ ?_
    rotate_left
    ·(intro w' hq; go_simp; try with_reducible rfl)
    simp only [Act.put, List.setIfInBounds_toArray, List.set_cons_zero, List.set_cons_succ]
    refine steadily_value (i := 13) (v := ?_) rfl rfl (by kernel_rfl) (by kernel_rfl) (fun _ _ _ h => h) (by rfl) ?_ ?_
    rotate_left
    ·(intro w' hq; go_simp; try with_reducible rfl)
    simp only [Act.put, List.setIfInBounds_toArray, List.set_cons_zero, List.set_cons_succ]
    refine steadily_done (by kernel_rfl) (fun w3 hq3 => ?_)
    simp only [List.drop_succ_cons, List.drop_nil]
    have hs3 : Q w2 w3 := Q.trans hqd hq3
    have hQ3 : Q w w3 := Q.trans hQ2 hs3
    replace T := T.keep hs3 T.lt
    clear dp1 dt1 hqd hq3 p1 t0 t1
    go_wp2_with fail
    refine (HCK.out cap wr.heap.size _ w3 (hE.q hQ3) hQ3 T).mono ?_
    rintro e w4 ⟨rfl, hq4⟩
    have hQ4 : Q w w4 := Q.trans hQ3 hq4
    clear T
    go_wp2
    go_roundw
    case rel => exact ⟨j + 2, HJ.out, by go_num, hQ4⟩
    case measure => simp [intOf]; omega
  ·have hje : k = L.length := by omega
   subst hje
   go_wp2
   go_ret
   exact ⟨rfl, hQ⟩
def SurdL (w : World) (B : Nat) (v : Value) (L : List (Rat × Nat)) : Prop := w.ownsRow B 56 2 v L.length (rowS (L.map ofC))
theorem SurdL.keep {w w' : World} {B : Nat} {v : Value} {L : List (Rat × Nat)} (h : SurdL w B v L) (hq : Q w w') : SurdL w' B v L := ownsRow_keep h hq
theorem SurdL.tsl {w : World} {B : Nat} {v : Value} {L : List (Rat × Nat)} (h : SurdL w B v L) : TSl w w.heap.size v (L.map ofC) := by
 unfold SurdL at h
 rw [show L.length = (L.map ofC).length by rw [List.length_map]] at h
 exact TSl.of_row h
theorem SurdL.form {w : World} {B : Nat} {v : Value} {L : List (Rat × Nat)} (h : SurdL w B v L) : ∃ a cap, v = .slice a L.length cap ∧ L.length ≤ cap := by
 rcases h.2 with ⟨hv, h0⟩ | ⟨g, cap, cur, hv, -, -, hc, -⟩
 ·exact ⟨none, 0, by rw [hv, h0], by omega⟩
 ·exact ⟨some ⟨g, 0, none⟩, cap, hv, hc⟩
theorem surd_Check_at (L : List (Rat × Nat)) (hL : SList L) (B : Nat) (v : Value) (w : World) (hE : Env w) (hv : SurdL w B v L) :
  Calls Tryz.prog 44 #[v] w fun e w' => e = .returned (.int .i64 0) ∧ Q w w' := by
 have ht := hv.tsl
 obtain ⟨a, cap, rfl, hc⟩ := hv.form
 exact surd_Check_list L hL a cap hc w hE ht
set_option maxHeartbeats 1000000 in
theorem surd_both_at (L K : List (Rat × Nat)) (hL : SList L) (hK : SList K) (B1 B2 : Nat) (v1 v2 : Value) (w : World) (hE : Env w) (h1 : SurdL w B1 v1 L) (h2 : SurdL w B2 v2 K) :
  Calls Tryz.prog 23 #[v1, v2] w fun e w' => e = .returned (.bool true) ∧ Q w w' := by
 have HA := Lib.hid (surd_Check_at L hL B1 v1 w hE h1)
 have HB := Lib.hid (fun w' (hw : Env w') (hq : Q w w') => surd_Check_at K hK B2 v2 w' hw (h2.keep hq))
 obtain ⟨a1, c1, rfl, -⟩ := h1.form
 obtain ⟨a2, c2, rfl, -⟩ := h2.form
 clear h1 h2 hL hK
 go_enter Tryz.func23, Tryz.ntmps23
 go_wp2_with fail
 refine HA.out.mono ?_
 rintro e w1 ⟨rfl, hq1⟩
 go_wp2_with fail
 refine (HB.out _ (hE.q hq1) hq1).mono ?_
 rintro e w2 ⟨rfl, hq2⟩
 go_wp2
 go_ret
 exact ⟨rfl, Q.trans hq1 hq2⟩
set_option maxRecDepth 100000 in
set_option maxHeartbeats 4000000 in
theorem surd_Concat_right (l1 : List (Str × Str)) (h1 : 0 < l1.length) (n1 : l1.length ≤ 1000) (v1 : Value) (a2 : Option Addr) (cap2 : Nat) (ha : (a2 = none ∧ cap2 = 0) ∨ ∃ g, a2 = some ⟨g, 0, none⟩) (b : Nat) (t : TypeId) (w : World) (hb : Blk w b [v1, .slice a2 0 cap2] t) (s1 : TSl w w.heap.size v1 l1) :
  Calls Tryz.prog 25 #[.slice (some ⟨b, 0, none⟩) 2 2] w fun e w' => ∃ v, e = .returned v ∧ Q w w' ∧ w'.ownsRow w.heap.size 56 2 v l1.length (rowS l1) := by
 have S1 := Lib.hid s1
 obtain ⟨b1, o1, cap1, rfl, -, -, -⟩ := s1.open h1
 have hg := fun w => grow_surd l1.length (by omega) (by omega) w
 have HG := Lib.hid hg
 clear s1 hg
 have HN1 := Lib.hid (fun (W : World) (hq : Q w W) (j : Nat) (u : Value) (hu : (rowS l1)[j]? = some u) => by
  obtain ⟨b', o', cap', hv, _, _, hc⟩ := (S1.out.keep hq (Nat.le_refl _)).open h1
  cases hv
  exact hc j u hu)
 have HL1 := Lib.hid (rowS_len l1)
 have HO1 := Lib.hid (rowS_one l1)
 generalize rowS l1 = r1 at *
 generalize l1.length = m1 at *
 have lb := hb.lt
 obtain ⟨i0, hi, hz0, hz1, hz2⟩ := info_of infoTerm
 have HI := Lib.hid hi
 have HZ := Lib.hid hz0
 have HS := Lib.hid hz1
 have HBy := Lib.hid hz2
 clear hi hz0 hz1 hz2
 have c0 := hb.cell 0
 have c1 := hb.cell 1
 simp only [List.getElem?_cons_zero, List.getElem?_cons_succ] at c0 c1
 have w1i := Go.IntWalk.i64_in (m1 : Int) (by omega)
 have w1j := Go.IntWalk.i64_in ((0 : Int) + (m1 : Int)) (by omega)
 go_enter Tryz.func25, Tryz.ntmps25
 go_wp2
 go_loop [3, 11] (fun sz i => (i = .int .i64 0 ∧ sz = .int .i64 0) ∨ (i = .int .i64 1 ∧ sz = .int .i64 m1) ∨ (i = .int .i64 2 ∧ sz = .int .i64 m1)) (fun _ i => 2 - (intOf i).toNat)
 case atStart => exact .inl ⟨rfl, rfl⟩
 case round =>
  rcases hrel with ⟨rfl, rfl⟩ | ⟨rfl, rfl⟩ | ⟨rfl, rfl⟩
  ·go_wp2
   go_round
   case rel => exact .inr (.inl ⟨rfl, by go_num⟩)
   case measure => simp [intOf]
  ·go_wp2
   go_round
   case rel => exact .inr (.inr ⟨rfl, by first | rfl | go_num⟩)
   case measure => simp [intOf]
  ·go_wp2_with fail
   refine (HG.out _).mono ?_
   rintro e w1 ⟨v, rfl, hq1, hr1, g1, gc1, rfl⟩
   clear c0 c1
   have hb1 := hb.keep hq1 lb
   go_wp2
   go_loopw [6, 27] (fun o i wr => Q w wr ∧ ((i = .int .i64 0 ∧ o = .slice (some ⟨g1, 0, none⟩) 0 gc1 ∧ wr.ownsRow w.heap.size 56 2 o 0 []) ∨ (i = .int .i64 1 ∧ wr.ownsRow w.heap.size 56 2 o m1 r1) ∨ (i = .int .i64 2 ∧ wr.ownsRow w.heap.size 56 2 o m1 r1))) (fun _ i _ => 2 - (intOf i).toNat)
   case atStart => exact ⟨hq1, .inl ⟨rfl, rfl, hr1⟩⟩
   case round =>
    obtain ⟨hQ, ⟨rfl, rfl, hrow⟩ | ⟨rfl, hrow⟩ | ⟨rfl, hrow⟩⟩ := hrel
    ·have hbr := hb.keep hQ lb
     have c0 := hbr.cell 0
     simp only [List.getElem?_cons_zero] at c0
     have lbr := hbr.lt
     go_wp2_with (at_builtin; refine wpList_append_lies _ (by rfl) (.tmp 31) (.tmp 32) 38 (by rfl) w.heap.size 56 i0 _ 2 32 Tryz.underlying38 HI.out HZ.out HS.out HBy.out rfl (by decide) (.slice (some ⟨g1, 0, none⟩) 0 gc1) 0 [] (by rfl) hrow ⟨b1, o1, none⟩ m1 cap1 r1 (by rfl) HL1.out (HN1.out _ hQ) HO1.out h1 (by unfold maxLen; omega) (by omega) hQ.size _ (by rfl) ?_; intro g4 cap4 w4 hown4 hgrow4 hat4 hlt4)
     go_roundw
     case rel => exact ⟨hQ.grown hgrow4 hQ.size (fun k hk => (hrow.lt k hk).1), .inr (.inl ⟨rfl, by rw [Nat.zero_add, List.nil_append] at hown4; simpa using hown4⟩)⟩
     case measure => simp [intOf]
    ·rcases hrow.2 with ⟨_, h0⟩ | ⟨g5, gc5, cur, rfl, -, -, hcap5, -⟩
     ·omega
     have hbr := hb.keep hQ lb
     have c1 := hbr.cell 1
     simp only [List.getElem?_cons_zero, List.getElem?_cons_succ] at c1
     have lbr := hbr.lt
     rcases ha with ⟨rfl, rfl⟩ | ⟨g2, rfl⟩
     ·go_wp2
      try (go_quiet (fail); go_wp2)
      go_roundw
      case rel => exact ⟨hQ, .inr (.inr ⟨rfl, hrow⟩)⟩
      case measure => simp [intOf]
     ·go_wp2
      try (go_quiet (fail); go_wp2)
      go_roundw
      case rel => exact ⟨hQ, .inr (.inr ⟨rfl, hrow⟩)⟩
      case measure => simp [intOf]
    ·go_wp2
     go_ret
     exact ⟨_, rfl, hQ, hrow⟩
set_option maxRecDepth 100000 in
set_option maxHeartbeats 4000000 in
theorem surd_Concat_left (l2 : List (Str × Str)) (h2 : 0 < l2.length) (n2 : l2.length ≤ 1000) (a1 : Option Addr) (cap1 : Nat) (ha : (a1 = none ∧ cap1 = 0) ∨ ∃ g, a1 = some ⟨g, 0, none⟩) (v2 : Value) (b : Nat) (t : TypeId) (w : World) (hb : Blk w b [.slice a1 0 cap1, v2] t) (s2 : TSl w w.heap.size v2 l2) :
  Calls Tryz.prog 25 #[.slice (some ⟨b, 0, none⟩) 2 2] w fun e w' => ∃ v, e = .returned v ∧ Q w w' ∧ w'.ownsRow w.heap.size 56 2 v l2.length (rowS l2) := by
 have S2 := Lib.hid s2
 obtain ⟨b2, o2, cap2, rfl, -, -, -⟩ := s2.open h2
 have hg := fun w => grow_surd l2.length (by omega) (by omega) w
 have HG := Lib.hid hg
 clear s2 hg
 have HN2 := Lib.hid (fun (W : World) (hq : Q w W) (j : Nat) (u : Value) (hu : (rowS l2)[j]? = some u) => by
  obtain ⟨b', o', cap', hv, _, _, hc⟩ := (S2.out.keep hq (Nat.le_refl _)).open h2
  cases hv
  exact hc j u hu)
 have HL2 := Lib.hid (rowS_len l2)
 have HO2 := Lib.hid (rowS_one l2)
 generalize rowS l2 = r2 at *
 generalize l2.length = m2 at *
 have lb := hb.lt
 obtain ⟨i0, hi, hz0, hz1, hz2⟩ := info_of infoTerm
 have HI := Lib.hid hi
 have HZ := Lib.hid hz0
 have HS := Lib.hid hz1
 have HBy := Lib.hid hz2
 clear hi hz0 hz1 hz2
 have c0 := hb.cell 0
 have c1 := hb.cell 1
 simp only [List.getElem?_cons_zero, List.getElem?_cons_succ] at c0 c1
 have w1i := Go.IntWalk.i64_in ((0 : Int) + (m2 : Int)) (by omega)
 go_enter Tryz.func25, Tryz.ntmps25
 go_wp2
 go_loop [3, 11] (fun sz i => (i = .int .i64 0 ∧ sz = .int .i64 0) ∨ (i = .int .i64 1 ∧ sz = .int .i64 0) ∨ (i = .int .i64 2 ∧ sz = .int .i64 (m2 : Int))) (fun _ i => 2 - (intOf i).toNat)
 case atStart => exact .inl ⟨rfl, rfl⟩
 case round =>
  rcases hrel with ⟨rfl, rfl⟩ | ⟨rfl, rfl⟩ | ⟨rfl, rfl⟩
  ·go_wp2
   go_round
   case rel => exact .inr (.inl ⟨rfl, by first | rfl | go_num⟩)
   case measure => simp [intOf]
  ·go_wp2
   go_round
   case rel => exact .inr (.inr ⟨rfl, by go_num⟩)
   case measure => simp [intOf]
  ·go_wp2_with fail
   refine (HG.out _).mono ?_
   rintro e w1 ⟨v, rfl, hq1, hr1, g1, gc1, rfl⟩
   clear c0 c1
   have hb1 := hb.keep hq1 lb
   go_wp2
   go_loopw [6, 27] (fun o i wr => Q w wr ∧ ((i = .int .i64 0 ∧ o = .slice (some ⟨g1, 0, none⟩) 0 gc1 ∧ wr.ownsRow w.heap.size 56 2 o 0 []) ∨ (i = .int .i64 1 ∧ o = .slice (some ⟨g1, 0, none⟩) 0 gc1 ∧ wr.ownsRow w.heap.size 56 2 o 0 []) ∨ (i = .int .i64 2 ∧ wr.ownsRow w.heap.size 56 2 o m2 r2))) (fun _ i _ => 2 - (intOf i).toNat)
   case atStart => exact ⟨hq1, .inl ⟨rfl, rfl, hr1⟩⟩
   case round =>
    obtain ⟨hQ, ⟨rfl, rfl, hrow⟩ | ⟨rfl, rfl, hrow⟩ | ⟨rfl, hrow⟩⟩ := hrel
    ·have hbr := hb.keep hQ lb
     have c0 := hbr.cell 0
     simp only [List.getElem?_cons_zero] at c0
     have lbr := hbr.lt
     rcases ha with ⟨rfl, rfl⟩ | ⟨g2, rfl⟩
     ·go_wp2
      try (go_quiet (fail); go_wp2)
      go_roundw
      case rel => exact ⟨hQ, .inr (.inl ⟨rfl, rfl, hrow⟩)⟩
      case measure => simp [intOf]
     ·go_wp2
      try (go_quiet (fail); go_wp2)
      go_roundw
      case rel => exact ⟨hQ, .inr (.inl ⟨rfl, rfl, hrow⟩)⟩
      case measure => simp [intOf]
    ·have hbr := hb.keep hQ lb
     have c1 := hbr.cell 1
     simp only [List.getElem?_cons_zero, List.getElem?_cons_succ] at c1
     have lbr := hbr.lt
     go_wp2_with (at_builtin; refine wpList_append_lies _ (by rfl) (.tmp 31) (.tmp 32) 38 (by rfl) w.heap.size 56 i0 _ 2 32 Tryz.underlying38 HI.out HZ.out HS.out HBy.out rfl (by decide) (.slice (some ⟨g1, 0, none⟩) 0 gc1) 0 [] (by rfl) hrow ⟨b2, o2, none⟩ m2 cap2 r2 (by rfl) HL2.out (HN2.out _ hQ) HO2.out h2 (by unfold maxLen; omega) (by omega) hQ.size _ (by rfl) ?_; intro g4 cap4 w4 hown4 hgrow4 hat4 hlt4)
     go_roundw
     case rel => exact ⟨hQ.grown hgrow4 hQ.size (fun k hk => (hrow.lt k hk).1), .inr (.inr ⟨rfl, by rw [Nat.zero_add, List.nil_append] at hown4; simpa using hown4⟩)⟩
     case measure => simp [intOf]
    ·go_wp2
     go_ret
     exact ⟨_, rfl, hQ, hrow⟩
set_option maxHeartbeats 400000 in
theorem grow_none (w : World) : Calls Tryz.prog 50 #[.slice none 0 0, .int .i64 0] w fun e w' => e = .returned (.slice none 0 0) ∧ Q w w' := by
 go_enter Tryz.func50, Tryz.ntmps50
 go_wp2
 go_ret
 exact ⟨rfl, Q.refl _⟩
set_option maxRecDepth 100000 in
set_option maxHeartbeats 4000000 in
theorem surd_Concat_none (a1 a2 : Option Addr) (cap1 cap2 : Nat) (ha1 : (a1 = none ∧ cap1 = 0) ∨ ∃ g, a1 = some ⟨g, 0, none⟩) (ha2 : (a2 = none ∧ cap2 = 0) ∨ ∃ g, a2 = some ⟨g, 0, none⟩) (b : Nat) (t : TypeId) (w : World) (hb : Blk w b [.slice a1 0 cap1, .slice a2 0 cap2] t) :
  Calls Tryz.prog 25 #[.slice (some ⟨b, 0, none⟩) 2 2] w fun e w' => e = .returned (.slice none 0 0) ∧ Q w w' := by
 have HG := Lib.hid grow_none
 have lb := hb.lt
 have c0 := hb.cell 0
 have c1 := hb.cell 1
 simp only [List.getElem?_cons_zero, List.getElem?_cons_succ] at c0 c1
 go_enter Tryz.func25, Tryz.ntmps25
 go_wp2
 go_loop [3, 11] (fun sz i => (i = .int .i64 0 ∧ sz = .int .i64 0) ∨ (i = .int .i64 1 ∧ sz = .int .i64 0) ∨ (i = .int .i64 2 ∧ sz = .int .i64 0)) (fun _ i => 2 - (intOf i).toNat)
 case atStart => exact .inl ⟨rfl, rfl⟩
 case round =>
  rcases hrel with ⟨rfl, rfl⟩ | ⟨rfl, rfl⟩ | ⟨rfl, rfl⟩
  ·go_wp2
   go_round
   case rel => exact .inr (.inl ⟨rfl, by first | rfl | go_num⟩)
   case measure => simp [intOf]
  ·go_wp2
   go_round
   case rel => exact .inr (.inr ⟨rfl, by first | rfl | go_num⟩)
   case measure => simp [intOf]
  ·go_wp2_with fail
   refine (HG.out _).mono ?_
   rintro e w1 ⟨rfl, hq1⟩
   clear c0 c1
   go_wp2
   go_loopw [6, 27] (fun o i wr => Q w wr ∧ o = .slice none 0 0 ∧ (i = .int .i64 0 ∨ i = .int .i64 1 ∨ i = .int .i64 2)) (fun _ i _ => 2 - (intOf i).toNat)
   case atStart => exact ⟨hq1, rfl, .inl rfl⟩
   case round =>
    obtain ⟨hQ, rfl, rfl | rfl | rfl⟩ := hrel
    ·have hbr := hb.keep hQ lb
     have c0 := hbr.cell 0
     simp only [List.getElem?_cons_zero] at c0
     have lbr := hbr.lt
     rcases ha1 with ⟨rfl, rfl⟩ | ⟨g2, rfl⟩
     ·go_wp2
      try (go_quiet (fail); go_wp2)
      go_roundw
      case rel => exact ⟨hQ, rfl, .inr (.inl rfl)⟩
      case measure => simp [intOf]
     ·go_wp2
      try (go_quiet (fail); go_wp2)
      go_roundw
      case rel => exact ⟨hQ, rfl, .inr (.inl rfl)⟩
      case measure => simp [intOf]
    ·have hbr := hb.keep hQ lb
     have c1 := hbr.cell 1
     simp only [List.getElem?_cons_zero, List.getElem?_cons_succ] at c1
     have lbr := hbr.lt
     rcases ha2 with ⟨rfl, rfl⟩ | ⟨g2, rfl⟩
     ·go_wp2
      try (go_quiet (fail); go_wp2)
      go_roundw
      case rel => exact ⟨hQ, rfl, .inr (.inr rfl)⟩
      case measure => simp [intOf]
     ·go_wp2
      try (go_quiet (fail); go_wp2)
      go_roundw
      case rel => exact ⟨hQ, rfl, .inr (.inr rfl)⟩
      case measure => simp [intOf]
    ·go_wp2
     go_ret
     exact ⟨rfl, hQ⟩
theorem SurdL.empty {w : World} {B : Nat} {v : Value} (h : SurdL w B v []) : ∃ a cap, v = .slice a 0 cap ∧ ((a = none ∧ cap = 0) ∨ ∃ g, a = some ⟨g, 0, none⟩) := by
 rcases h.2 with ⟨hv, _⟩ | ⟨g, cap, cur, hv, -⟩
 ·exact ⟨none, 0, hv, .inl ⟨rfl, rfl⟩⟩
 ·exact ⟨some ⟨g, 0, none⟩, cap, hv, .inr ⟨g, rfl⟩⟩
theorem SurdL.nil (w : World) (B : Nat) : SurdL w B (.slice none 0 0) [] := ⟨rfl, .inl ⟨rfl, rfl⟩⟩
theorem surd_Concat_at (L K : List (Rat × Nat)) (nL : L.length ≤ 1000) (nK : K.length ≤ 1000) (B1 B2 : Nat) (v1 v2 : Value) (b : Nat) (t : TypeId) (w : World) (hb : Blk w b [v1, v2] t) (h1 : SurdL w B1 v1 L) (h2 : SurdL w B2 v2 K) :
  Calls Tryz.prog 25 #[.slice (some ⟨b, 0, none⟩) 2 2] w fun e w' => ∃ v, e = .returned v ∧ Q w w' ∧ SurdL w' w.heap.size v (L ++ K) := by
 have mk : ∀ {w' : World} {v : Value} {M : List (Rat × Nat)}, w'.ownsRow w.heap.size 56 2 v (M.map ofC).length (rowS (M.map ofC)) → SurdL w' w.heap.size v M := fun h => by
  rw [List.length_map] at h; exact h
 rcases Nat.eq_zero_or_pos L.length with e1 | e1
 ·obtain rfl := List.length_eq_zero_iff.1 e1
  obtain ⟨a1, cap1, rfl, ha1⟩ := h1.empty
  rcases Nat.eq_zero_or_pos K.length with e2 | e2
  ·obtain rfl := List.length_eq_zero_iff.1 e2
   obtain ⟨a2, cap2, rfl, ha2⟩ := h2.empty
   exact (surd_Concat_none a1 a2 cap1 cap2 ha1 ha2 b t w hb).mono fun e w' ⟨he, hq⟩ => ⟨_, he, hq, SurdL.nil w' _⟩
  ·refine (surd_Concat_left (K.map ofC) (by rw [List.length_map]; exact e2) (by rw [List.length_map]; exact nK) a1 cap1 ha1 v2 b t w hb h2.tsl).mono fun e w' ⟨v, he, hq, hr⟩ => ⟨v, he, hq, ?_⟩
   rw [List.nil_append]; exact mk hr
 ·rcases Nat.eq_zero_or_pos K.length with e2 | e2
  ·obtain rfl := List.length_eq_zero_iff.1 e2
   obtain ⟨a2, cap2, rfl, ha2⟩ := h2.empty
   refine (surd_Concat_right (L.map ofC) (by rw [List.length_map]; exact e1) (by rw [List.length_map]; exact nL) v1 a2 cap2 ha2 b t w hb h1.tsl).mono fun e w' ⟨v, he, hq, hr⟩ => ⟨v, he, hq, ?_⟩
   rw [List.append_nil]; exact mk hr
  ·refine (surd_Concat (L.map ofC) (K.map ofC) (by rw [List.length_map]; exact e1) (by rw [List.length_map]; exact e2) (by rw [List.length_map]; exact nL) (by rw [List.length_map]; exact nK) v1 v2 b t w hb h1.tsl h2.tsl).mono fun e w' ⟨v, he, hq, hr⟩ => ⟨v, he, hq, ?_⟩
   rw [← List.map_append] at hr
   exact mk hr
def negL (K : List (Rat × Nat)) : List (Rat × Nat) := K.map fun c => (-c.1, c.2)
theorem scale_neg (K : List (Rat × Nat)) : scaleT (-1) K = negL K := by
 unfold scaleT negL
 exact List.map_congr_left fun c _ => by rw [mul_minus_one]
theorem negL_len (K : List (Rat × Nat)) : (negL K).length = K.length := by unfold negL; rw [List.length_map]
theorem VL_neg (m : Nat) : ∀ K : List (Rat × Nat), VL m (negL K) = -VL m K
 | [] => by show (0 : Rat) = -0; grind
 | c :: r => by
  show cf m (-c.1, c.2) + VL m (negL r) = -(cf m c + VL m r)
  rw [VL_neg m r]
  have : cf m (-c.1, c.2) = -cf m c := by
   by_cases h : Sim c.2 m
   ·rw [cf_sim h, cf_sim (c := (-c.1, c.2)) h]; grind
   ·rw [cf_far h, cf_far (c := (-c.1, c.2)) h]; grind
  rw [this]; grind
end Go.Proofs.YtedijdmenfcjlaaGreatDoor
namespace Go.Proofs.YtedijdmenfcjlaaGreatDoor
open Go.RowKit Kp
def WL : List (Rat × Nat) → Nat → Prop
 | [], _ => True
 | c :: r, n => ∃ k, 1 ≤ k ∧ k ≤ n ∧ GC k c ∧ WL r (n - k)
theorem WL.mono : ∀ {L : List (Rat × Nat)} {n m : Nat}, WL L n → n ≤ m → WL L m
 | [], _, _, _, _ => trivial
 | _ :: _, _, _, ⟨k, h1, h2, h3, h4⟩, h => ⟨k, h1, by omega, h3, WL.mono h4 (by omega)⟩
theorem WL.add {t : Rat × Nat} {J : Nat} (hJ : 1 ≤ J) (ht : GC J t) : ∀ {L : List (Rat × Nat)} {n : Nat}, WL L n → WL (addC L t) (n + J)
 | [], n, _ => ⟨J, hJ, by omega, ht, trivial⟩
 | c :: r, n, ⟨k, h1, h2, h3, h4⟩ => by
  unfold addC
  split
  ·next hs =>
   refine ⟨k + J, by omega, by omega, ?_, h4.mono (by omega)⟩
   split
   ·exact (ht.plus h3 (sim_symm ht.pos h3.pos hs)).mono (by omega)
   ·exact h3.plus ht hs
  ·exact ⟨k, h1, by omega, h3, (WL.add hJ ht h4).mono (by omega)⟩
theorem WL.addL : ∀ (L : List (Rat × Nat)) {cs : List (Rat × Nat)} {n m : Nat}, WL cs n → WL L m → WL (addL cs L) (n + m)
 | [], _, n, m, h, _ => h.mono (by omega)
 | c :: r, cs, n, m, h, ⟨k, h1, h2, h3, h4⟩ => by
  rw [addL_cons]
  exact (WL.addL r (h.add h1 h3) h4).mono (by omega)
theorem WL.app : ∀ {L K : List (Rat × Nat)} {n m : Nat}, WL L n → WL K m → WL (L ++ K) (n + m)
 | [], _, _, _, _, h => h.mono (by omega)
 | _ :: _, _, _, _, ⟨k, h1, h2, h3, h4⟩, h => ⟨k, h1, by omega, h3, (WL.app h4 h).mono (by omega)⟩
theorem WL.out : ∀ {L : List (Rat × Nat)} {n : Nat}, WL L n → WL (outC L) n
 | [], _, _ => trivial
 | c :: r, n, ⟨k, h1, h2, h3, h4⟩ => by
  by_cases h : c.1 = 0
  ·have e : outC (c :: r) = outC r := by unfold outC; simp [h]
   rw [e]; exact (WL.out h4).mono (by omega)
  ·have e : outC (c :: r) = c :: outC r := by unfold outC; simp [h]
   rw [e]; exact ⟨k, h1, h2, h3, WL.out h4⟩
theorem WL.neg : ∀ {L : List (Rat × Nat)} {n : Nat}, WL L n → WL (negL L) n
 | [], _, _ => trivial
 | _ :: _, _, ⟨k, h1, h2, h3, h4⟩ => ⟨k, h1, h2, h3.neg, WL.neg h4⟩
theorem WL.gc : ∀ {L : List (Rat × Nat)} {n : Nat}, WL L n → ∀ c ∈ L, GC n c
 | [], _, _, c, hc => by simp at hc
 | d :: r, n, ⟨k, h1, h2, h3, h4⟩, c, hc => by
  rw [List.mem_cons] at hc
  rcases hc with rfl | hc
  ·exact h3.mono h2
  ·exact (WL.gc h4 c hc).mono (by omega)
theorem WL.len : ∀ {L : List (Rat × Nat)} {n : Nat}, WL L n → L.length ≤ n
 | [], _, _ => Nat.zero_le _
 | _ :: _, _, ⟨k, h1, h2, _, h4⟩ => by have := WL.len h4; rw [List.length_cons]; omega
theorem WL.take : ∀ {L : List (Rat × Nat)} {n : Nat} (k : Nat), WL L n → WL (L.take k) n
 | [], _, k, _ => by rw [List.take_nil]; trivial
 | _ :: _, _, 0, _ => trivial
 | _ :: _, _, j + 1, ⟨k, h1, h2, h3, h4⟩ => ⟨k, h1, h2, h3, WL.take j h4⟩
theorem WL.perm {L K : List (Rat × Nat)} (h : L.Perm K) : ∀ {n : Nat}, WL L n → WL K n := by
 induction h with
 | nil => exact fun h => h
 | cons x _ ih => exact fun ⟨k, h1, h2, h3, h4⟩ => ⟨k, h1, h2, h3, ih h4⟩
 | swap x y l => exact fun ⟨k, h1, h2, h3, j, g1, g2, g3, g4⟩ => ⟨j, g1, by omega, g3, k, h1, by omega, h3, g4.mono (by omega)⟩
 | trans _ _ h1 h2 => exact fun h => h2 (h1 h)
def Up (L : List (Rat × Nat)) : Prop := L.Pairwise fun a b => a.2 < b.2
def Diff (L : List (Rat × Nat)) : Prop := L.Pairwise fun a b => a.2 ≠ b.2
def insC (c : Rat × Nat) : List (Rat × Nat) → List (Rat × Nat)
 | [] => [c]
 | d :: r => if c.2 < d.2 then c :: d :: r else d :: insC c r
def sortC : List (Rat × Nat) → List (Rat × Nat)
 | [] => []
 | c :: r => insC c (sortC r)
theorem insC_perm (c : Rat × Nat) : ∀ L : List (Rat × Nat), (insC c L).Perm (c :: L)
 | [] => .refl _
 | d :: r => by
  unfold insC
  split
  ·exact .refl _
  ·exact ((insC_perm c r).cons d).trans (.swap c d r)
theorem sortC_perm : ∀ L : List (Rat × Nat), (sortC L).Perm L
 | [] => .refl _
 | c :: r => (insC_perm c _).trans ((sortC_perm r).cons c)
theorem insC_up (c : Rat × Nat) : ∀ {L : List (Rat × Nat)}, Up L → (∀ d ∈ L, c.2 ≠ d.2) → Up (insC c L)
 | [], _, _ => by unfold insC Up; simp
 | d :: r, h, hn => by
  unfold Up at h
  rw [List.pairwise_cons] at h
  unfold insC
  split
  ·next hlt =>
   unfold Up
   rw [List.pairwise_cons, List.pairwise_cons]
   refine ⟨fun e he => ?_, h⟩
   rw [List.mem_cons] at he
   rcases he with rfl | he
   ·exact hlt
   ·exact Nat.lt_trans hlt (h.1 e he)
  ·next hlt =>
   unfold Up
   rw [List.pairwise_cons]
   refine ⟨fun e he => ?_, insC_up c h.2 (fun e he => hn e (by simp [he]))⟩
   have h1 := (insC_perm c r).mem_iff.1 he
   rw [List.mem_cons] at h1
   rcases h1 with rfl | he
   ·have := hn d (by simp); omega
   ·exact h.1 e he
theorem sortC_up : ∀ {L : List (Rat × Nat)}, Diff L → Up (sortC L)
 | [], _ => List.Pairwise.nil
 | c :: r, h => by
  unfold Diff at h
  rw [List.pairwise_cons] at h
  exact insC_up c (sortC_up h.2) (fun d hd => h.1 d ((sortC_perm r).mem_iff.1 hd))
theorem up_unique : ∀ {L K : List (Rat × Nat)}, Up L → Up K → L.Perm K → L = K
 | [], _, _, _, h => (List.nil_perm.1 h).symm
 | a :: r, [], _, _, h => absurd (List.perm_nil.1 h) (by simp)
 | a :: r, b :: s, hL, hK, h => by
  have hL' := List.pairwise_cons.1 hL
  have hK' := List.pairwise_cons.1 hK
  have ha := h.mem_iff.1 (List.mem_cons_self (a := a) (l := r))
  have hb := h.mem_iff.2 (List.mem_cons_self (a := b) (l := s))
  rw [List.mem_cons] at ha hb
  have e : a = b := by
   rcases ha with e | ha
   ·exact e
   ·rcases hb with e | hb
    ·exact e.symm
    ·have h1 := hK'.1 a ha
     have h2 := hL'.1 b hb
     omega
  subst e
  rw [up_unique hL'.2 hK'.2 ((List.perm_cons a).1 h)]
theorem apart_diff {L : List (Rat × Nat)} (hp : ∀ c ∈ L, 0 < c.2) (h : Apart L) : Diff L := by
 unfold Apart at h; unfold Diff
 refine List.Pairwise.imp_of_mem (fun {a b} ha hb hab e => hab ?_) h
 rw [e]; exact (sim_refl (hp b hb)).1
theorem Apart.perm {L K : List (Rat × Nat)} (hp : ∀ c ∈ L, 0 < c.2) (h : Apart L) (hk : L.Perm K) : Apart K := by
 have h2 : L.Pairwise fun a b => ¬ Sim b.2 a.2 ∧ ¬ Sim a.2 b.2 :=
  List.Pairwise.imp_of_mem (fun {a b} ha hb hab => ⟨hab, fun k => hab (sim_symm (hp a ha) (hp b hb) k)⟩) h
 have h3 := h2.perm hk (fun h => ⟨h.2, h.1⟩)
 exact h3.imp fun h => h.1
theorem Apart.out {L : List (Rat × Nat)} (h : Apart L) : Apart (outC L) := List.Pairwise.filter _ h
def madeL (L : List (Rat × Nat)) : List (Rat × Nat) := sortC (outC (addL [] L))
structure SV (n : Nat) (f : Nat → Rat) (L : List (Rat × Nat)) : Prop where
 list : SList L
 w : WL L n
 val : ∀ m, 0 < m → VL m L = f m
theorem WL.pos {L : List (Rat × Nat)} {n : Nat} (h : WL L n) : ∀ c ∈ L, 0 < c.2 := fun c hc => (h.gc c hc).pos
theorem SV.ne {n : Nat} {f : Nat → Rat} {L : List (Rat × Nat)} (h : SV n f L) : ∀ c ∈ L, c.1 ≠ 0 := fun c hc => (h.list.term c hc).ne
theorem made_diff {L : List (Rat × Nat)} {n : Nat} (h : WL L n) : Apart (outC (addL [] L)) ∧ Diff (outC (addL [] L)) := by
 have hw : WL (addL [] L) n := (WL.addL L (cs := []) (n := 0) trivial h).mono (by omega)
 have ha : Apart (addL [] L) := addL_apart L (fun c hc => by simp at hc) h.pos List.Pairwise.nil
 exact ⟨ha.out, apart_diff (fun c hc => hw.pos c (mem_outC hc)) ha.out⟩
theorem made_sv {L : List (Rat × Nat)} {n : Nat} (h : WL L n) (hn : n ≤ 16) {f : Nat → Rat} (hf : ∀ m, 0 < m → VL m L = f m) : SV n f (madeL L) := by
 obtain ⟨ha, hd⟩ := made_diff h
 have hw : WL (outC (addL [] L)) n := ((WL.addL L (cs := []) (n := 0) trivial h).mono (by omega)).out
 have hp := sortC_perm (outC (addL [] L))
 have hw2 : WL (madeL L) n := hw.perm hp.symm
 have hu : Up (madeL L) := sortC_up hd
 refine ⟨⟨fun c hc => ?_, fun i hi => ?_, ha.perm hw.pos hp.symm, Nat.le_trans hw2.len hn⟩, hw2, fun m hm => ?_⟩
 ·have h0 : c.1 ≠ 0 := of_decide_eq_true (List.mem_filter.1 (hp.mem_iff.1 hc)).2
  exact (hw2.gc c hc).term (by omega) h0
 ·exact (List.pairwise_iff_getElem.1 hu) i (i + 1) (by omega) hi (by omega)
 ·unfold madeL
  rw [VL_perm m hp, VL_out, VL_addL m hm L (fun c hc => by simp at hc) h.pos, hf m hm]
  show 0 + f m = f m
  grind
theorem SV.congr {n : Nat} {f g : Nat → Rat} {L : List (Rat × Nat)} (h : SV n f L) (hfg : ∀ m, 0 < m → f m = g m) : SV n g L := ⟨h.list, h.w, fun m hm => (h.val m hm).trans (hfg m hm)⟩
theorem SV.zero {n : Nat} {f : Nat → Rat} {L : List (Rat × Nat)} (h : SV n f L) (hf : ∀ m, 0 < m → f m = 0) : L = [] := by
 have h1 := VL_zero h.w.pos h.list.apart (fun m hm => (h.val m hm).trans (hf m hm))
 unfold outC at h1
 rw [List.filter_eq_nil_iff] at h1
 rw [List.eq_nil_iff_forall_not_mem]
 intro c hc
 have := h1 c hc
 exact this (by simpa using h.ne c hc)
theorem SV.minus_one {n : Nat} {y : Rat} {r : Nat} {L : List (Rat × Nat)} (h : SV n (fun m => -cf m (y, r)) L) (hy : 0 < y.num) (hr : 0 < r) : ∃ c, L = [c] ∧ c.1.num < 0 := by
 have hpos := h.w.pos
 have hne : L ≠ [] := fun e => by
  have h1 := h.val r hr
  rw [e] at h1
  obtain ⟨p1, p2⟩ := sim_refl hr
  rw [cf_sim (c := (y, r)) p1, p2] at h1
  have h2 : (0 : Rat) = -(y * 1) := h1
  have h3 : y = 0 := by grind
  rw [h3] at hy; simp at hy
 have hsim : ∀ c ∈ L, Sim r c.2 ∧ c.1 = -(y * sqR ((r : Rat) / (c.2 : Rat))) := fun c hc => by
  have h1 := VL_at hpos h.list.apart c hc
  rw [h.val c.2 (hpos c hc)] at h1
  by_cases hs : Sim r c.2
  ·rw [cf_sim (c := (y, r)) hs] at h1
   exact ⟨hs, h1.symm⟩
  ·rw [cf_far (c := (y, r)) hs] at h1
   exact absurd (show c.1 = 0 by rw [← h1]; grind) (h.ne c hc)
 match L, hne, hsim, hpos, h with
 | [c], _, hsim, hpos, _ =>
  obtain ⟨h1, h2⟩ := hsim c (by simp)
  refine ⟨c, rfl, ?_⟩
  have h3 := num_pos_mul hy (sim_parts hr (hpos c (by simp)) h1).1
  rw [h2, rneg_num]; omega
 | c :: d :: l, _, hsim, hpos, h =>
  have h1 := (hsim c (by simp)).1
  have h2 := (hsim d (by simp)).1
  have hc := hpos c (by simp)
  have hd := hpos d (by simp)
  have ha := (List.pairwise_cons.1 h.list.apart).1 d (by simp)
  exact absurd (sim_trans hd hr hc (sim_symm hr hd h2) h1).1 ha
theorem set_swap {α : Type} (x y : α) (T : List α) : ∀ A : List α, ((A ++ y :: x :: T).set (A.length + 1) y).set A.length x = A ++ x :: y :: T
 | [] => rfl
 | a :: A => by
  have := set_swap x y T A
  simp only [List.cons_append, List.length_cons, List.set_cons_succ, this]
end Go.Proofs.YtedijdmenfcjlaaGreatDoor
namespace Go.Proofs.YtedijdmenfcjlaaGreatDoor
open Go.RowKit Kp
structure Mid (l A B : List (Rat × Nat)) (x : Rat × Nat) (R : List (Rat × Nat)) : Prop where
 perm : (A ++ x :: (B ++ R)).Perm l
 up : Up (A ++ B)
 lt : ∀ b ∈ B, x.2 < b.2
theorem Mid.step {l A B R : List (Rat × Nat)} {x y : Rat × Nat} (h : Mid l (A ++ [y]) B x R) (hlt : x.2 < y.2) : Mid l A (y :: B) x R := by
 refine ⟨?_, ?_, ?_⟩
 ·refine List.Perm.trans ?_ h.perm
  rw [List.append_assoc]
  exact List.Perm.append_left A (by simpa using List.Perm.swap y x (B ++ R))
 ·have := h.up
  rwa [List.append_assoc] at this
 ·intro b hb
  rw [List.mem_cons] at hb
  rcases hb with rfl | hb
  ·exact hlt
  ·exact h.lt b hb
theorem Mid.stop {l A B R : List (Rat × Nat)} {x : Rat × Nat} (h : Mid l A B x R) (hA : ∀ a ∈ A, a.2 < x.2) : Up (A ++ x :: B) := by
 have hu := List.pairwise_append.1 h.up
 unfold Up
 rw [List.pairwise_append, List.pairwise_cons]
 refine ⟨hu.1, ⟨h.lt, hu.2.1⟩, fun a ha b hb => ?_⟩
 rw [List.mem_cons] at hb
 rcases hb with rfl | hb
 ·exact hA a ha
 ·exact hu.2.2 a ha b hb
theorem up_snoc_lt {A : List (Rat × Nat)} {y : Rat × Nat} {B : List (Rat × Nat)} (h : Up (A ++ [y] ++ B)) {k : Nat} (hk : y.2 < k) : ∀ a ∈ A ++ [y], a.2 < k := by
 have h1 := (List.pairwise_append.1 h).1
 have h2 := (List.pairwise_append.1 h1).2.2
 intro a ha
 rw [List.mem_append, List.mem_singleton] at ha
 rcases ha with ha | rfl
 ·exact Nat.lt_trans (h2 a ha y (by simp)) hk
 ·exact hk
theorem Diff.perm {L K : List (Rat × Nat)} (h : Diff L) (hk : L.Perm K) : Diff K := List.Pairwise.perm h hk (fun h e => h e.symm)
theorem ofC_map_get (A : List (Rat × Nat)) (x : Rat × Nat) (T : List (Rat × Nat)) : ((A ++ x :: T).map ofC).getD A.length ([], []) = ofC x := by
 rw [List.map_append, List.map_cons, List.getD_eq_getElem?_getD, List.getElem?_append_right (by simp)]
 simp
theorem ofC_map_get1 (A : List (Rat × Nat)) (x y : Rat × Nat) (T : List (Rat × Nat)) : ((A ++ y :: x :: T).map ofC).getD (A.length + 1) ([], []) = ofC x := by
 rw [List.map_append, List.map_cons, List.map_cons, List.getD_eq_getElem?_getD, List.getElem?_append_right (by simp)]
 simp
set_option maxRecDepth 100000 in
set_option maxHeartbeats 4000000 in
theorem insertion_any (l : List (Rat × Nat)) (hl : ∀ c ∈ l, c.2 < 10 ^ 80) (hd : Diff l) (hn : l.length ≤ 1000) (h1 : 1 ≤ l.length) (base g cap : Nat) (w : World) (hE : Env w) (hng : ng ≤ base)
  (hr : w.ownsRow base 56 2 (.slice (some ⟨g, 0, none⟩) l.length cap) l.length (rowS (l.map ofC))) :
  Calls Tryz.prog 128 #[.slice (some ⟨g, 0, none⟩) l.length cap, .int .i64 0, .int .i64 l.length, .func (.func 49) #[] #[]] w fun e w' => (∃ v, e = .returned v) ∧ Below base w w' ∧
   ∃ r, r.Perm l ∧ Up r ∧ w'.ownsRow base 56 2 (.slice (some ⟨g, 0, none⟩) l.length cap) l.length (rowS (r.map ofC)) := by
 obtain ⟨g', cap', hv, hbg, hgw⟩ := hr.form h1
 cases hv
 obtain ⟨n, hnn⟩ : ∃ n, n = l.length := ⟨_, rfl⟩
 have HL := Lib.hid hnn
 rw [← hnn] at hr hn h1 ⊢
 have HP := Lib.hid hl
 have HDF := Lib.hid hd
 have HR := Lib.hid hr
 clear hnn hl hd hr
 go_enter Tryz.func128, Tryz.ntmps128
 go_wp2
 go_loopw [8] (fun i wr => ∃ k : Nat, 1 ≤ k ∧ k ≤ n ∧ i = .int .i64 k ∧ Below base w wr ∧ Hid (∃ M R, (M ++ R).Perm l ∧ Up M ∧ M.length = k ∧ wr.ownsRow base 56 2 (.slice (some ⟨g, 0, none⟩) n cap) n (rowS ((M ++ R).map ofC)))) (fun i _ => n - (intOf i).toNat)
 case atStart =>
  refine ⟨1, by omega, h1, rfl, Below.refl _ _, Lib.hid ?_⟩
  obtain ⟨c, r, rfl⟩ : ∃ c r, l = c :: r := by
   cases l with
   | nil => have := HL.out; simp at this; omega
   | cons c r => exact ⟨c, r, rfl⟩
  exact ⟨[c], r, .refl _, by unfold Up; simp, rfl, HR.out⟩
 case round =>
  obtain ⟨k, hk1, hkn, rfl, hB, HM⟩ := hrel
  have hk0 : (0 : Int) ≤ k := by omega
  have hkM : (k : Int) ≤ 1000 := by omega
  by_cases hlt : k < n
  ·have hltz : (k : Int) < n := by omega
   clear HR
   go_wp2
   go_loopw [9] (fun j wr2 => ∃ m : Nat, m ≤ k ∧ j = .int .i64 m ∧ Below base w wr2 ∧ Hid (∃ A B x R, Mid l A B x R ∧ A.length = m ∧ A.length + B.length = k ∧ wr2.ownsRow base 56 2 (.slice (some ⟨g, 0, none⟩) n cap) n (rowS ((A ++ x :: (B ++ R)).map ofC)))) (fun j _ => (intOf j).toNat)
   case atStart =>
    refine ⟨k, Nat.le_refl _, rfl, hB, Lib.hid ?_⟩
    obtain ⟨M, R, h1, h2, h3, h4⟩ := HM.out
    cases R with
    | nil =>
     have h5 := h1.length_eq
     rw [List.append_nil, h3, ← HL.out] at h5
     omega
    | cons x R =>
     exact ⟨M, [], x, R, ⟨h1, by rw [List.append_nil]; exact h2, fun b hb => by simp at hb⟩, h3, by simpa using h3, h4⟩
   case round =>
    clear HM
    obtain ⟨m, hmk, rfl, hB2, HI⟩ := hrel
    have hgr : base ≤ wr.heap.size := by
     have h2 := hB2.size
     omega
    rcases Nat.eq_zero_or_pos m with h0 | h0
    ·subst h0
     clear hB
     have HX : Hid (∃ M R, (M ++ R).Perm l ∧ Up M ∧ M.length = k + 1 ∧ wr.ownsRow base 56 2 (.slice (some ⟨g, 0, none⟩) n cap) n (rowS ((M ++ R).map ofC))) := by
      obtain ⟨A, B, x, R, h1, h2, h3, h4⟩ := HI.out
      obtain rfl := List.length_eq_zero_iff.1 h2
      exact Lib.hid ⟨x :: B, R, h1.perm, h1.stop (fun a ha => by simp at ha), by simpa using h3, h4⟩
     clear HI
     go_wp2_with fail
     refine wp_steadily 17 rfl (by kernel_rfl) rfl ?_
     refine steadily_value (i := 0) (v := ?_) rfl rfl (by kernel_rfl) (by kernel_rfl) (fun _ _ _ h => h) (by rfl) ?_ ?_
     rotate_left
     ·(intro w' hq; go_simp; try with_reducible rfl)
     simp only [Act.put, List.setIfInBounds_toArray, List.set_cons_zero, List.set_cons_succ]
     refine steadily_value (i := 1) (v := ?_) rfl rfl (by kernel_rfl) (by kernel_rfl) (fun _ _ _ h => h) (by rfl) ?_ ?_
     rotate_left
     ·(intro w' hq; go_simp; try with_reducible rfl)
     simp only [Act.put, List.setIfInBounds_toArray, List.set_cons_zero, List.set_cons_succ]
     refine steadily_value (i := 2) (v := ?_) rfl rfl (by kernel_rfl) (by kernel_rfl) (fun _ _ _ h => h) (by rfl) ?_ ?_
     rotate_left
     ·(intro w' hq; go_simp; try with_reducible rfl)
     simp only [Act.put, List.setIfInBounds_toArray, List.set_cons_zero, List.set_cons_succ]
     refine steadily_value (i := 3) (v := ?_) rfl rfl (by kernel_rfl) (by kernel_rfl) (fun _ _ _ h => h) (by rfl) ?_ ?_
     rotate_left
     ·(intro w' hq; go_simp; try with_reducible rfl)
     simp only [Act.put, List.setIfInBounds_toArray, List.set_cons_zero, List.set_cons_succ]
     refine steadily_idle (i := 4) rfl rfl (by kernel_rfl) (by kernel_rfl) (fun _ _ _ h => h) (by rfl) ?_
     simp only [Act.put, List.setIfInBounds_toArray, List.set_cons_zero, List.set_cons_succ]
     refine steadily_idle (i := 5) rfl rfl (by kernel_rfl) (by kernel_rfl) (fun _ _ _ h => h) (by rfl) ?_
     simp only [Act.put, List.setIfInBounds_toArray, List.set_cons_zero, List.set_cons_succ]
     refine steadily_idle (i := 6) rfl rfl (by kernel_rfl) (by kernel_rfl) (fun _ _ _ h => h) (by rfl) ?_
     simp only [Act.put, List.setIfInBounds_toArray, List.set_cons_zero, List.set_cons_succ]
     refine steadily_idle (i := 7) rfl rfl (by kernel_rfl) (by kernel_rfl) (fun _ _ _ h => h) (by rfl) ?_
     simp only [Act.put, List.setIfInBounds_toArray, List.set_cons_zero, List.set_cons_succ]
     refine steadily_idle (i := 8) rfl rfl (by kernel_rfl) (by kernel_rfl) (fun _ _ _ h => h) (by rfl) ?_
     simp only [Act.put, List.setIfInBounds_toArray, List.set_cons_zero, List.set_cons_succ]
     refine steadily_idle (i := 9) rfl rfl (by kernel_rfl) (by kernel_rfl) (fun _ _ _ h => h) (by rfl) ?_
     simp only [Act.put, List.setIfInBounds_toArray, List.set_cons_zero, List.set_cons_succ]
     refine steadily_idle (i := 10) rfl rfl (by kernel_rfl) (by kernel_rfl) (fun _ _ _ h => h) (by rfl) ?_
     simp only [Act.put, List.setIfInBounds_toArray, List.set_cons_zero, List.set_cons_succ]
     refine steadily_idle (i := 11) rfl rfl (by kernel_rfl) (by kernel_rfl) (fun _ _ _ h => h) (by rfl) ?_
     simp only [Act.put, List.setIfInBounds_toArray, List.set_cons_zero, List.set_cons_succ]
     refine steadily_idle (i := 12) rfl rfl (by kernel_rfl) (by kernel_rfl) (fun _ _ _ h => h) (by rfl) ?_
     simp only [Act.put, List.setIfInBounds_toArray, List.set_cons_zero, List.set_cons_succ]
     refine steadily_idle (i := 13) rfl rfl (by kernel_rfl) (by kernel_rfl) (fun _ _ _ h => h) (by rfl) ?_
     simp only [Act.put, List.setIfInBounds_toArray, List.set_cons_zero, List.set_cons_succ]
     refine steadily_idle (i := 14) rfl rfl (by kernel_rfl) (by kernel_rfl) (fun _ _ _ h => h) (by rfl) ?_
     simp only [Act.put, List.setIfInBounds_toArray, List.set_cons_zero, List.set_cons_succ]
     refine steadily_idle (i := 15) rfl rfl (by kernel_rfl) (by kernel_rfl) (fun _ _ _ h => h) (by rfl) ?_
     simp only [Act.put, List.setIfInBounds_toArray, List.set_cons_zero, List.set_cons_succ]
     refine steadily_value (i := 16) (v := ?_) rfl rfl (by kernel_rfl) (by kernel_rfl) (fun _ _ _ h => h) (by rfl) ?_ ?_
     rotate_left
     ·(intro w' hq; go_simp; try with_reducible rfl)
     simp only [Act.put, List.setIfInBounds_toArray, List.set_cons_zero, List.set_cons_succ]
     refine steadily_done (by kernel_rfl) (fun w3 hq3 => ?_)
     simp only [List.drop_succ_cons, List.drop_nil]
     have hQ3 : Q wr w3 := Below.trans (Below.drew (Q.refl _)) hq3
     have HX3 : Hid (∃ M R, (M ++ R).Perm l ∧ Up M ∧ M.length = k + 1 ∧ w3.ownsRow base 56 2 (.slice (some ⟨g, 0, none⟩) n cap) n (rowS ((M ++ R).map ofC))) := by
      obtain ⟨M, R, h1, h2, h3, h4⟩ := HX.out
      exact Lib.hid ⟨M, R, h1, h2, h3, ownsRow_keep h4 hQ3⟩
     have hB3 := hB2.trans (hQ3.mono hgr)
     clear HX
     go_wp2
     go_roundw
     case rel => exact ⟨k + 1, by omega, by omega, by go_num, hB3, HX3⟩
     case measure => simp [intOf]; omega
    ·obtain ⟨j, rfl⟩ : ∃ j, m = j + 1 := ⟨m - 1, by omega⟩
     obtain ⟨A0, B, x, R, h1, h2, h3, h4⟩ := HI.out
     clear HI hB
     obtain ⟨A, y, rfl⟩ : ∃ A y, A0 = A ++ [y] := by
      rcases List.eq_nil_or_concat A0 with rfl | ⟨A, y, rfl⟩
      ·simp at h2
      ·exact ⟨A, y, by simp⟩
     have hAj : A.length = j := by simpa using h2
     have hmm : (A ++ [y]) ++ x :: (B ++ R) = A ++ y :: x :: (B ++ R) := by simp
     have hpl : (A ++ y :: x :: (B ++ R)).Perm l := by rw [← hmm]; exact h1.perm
     rw [hmm] at h4
     have hlen : n = ((A ++ y :: x :: (B ++ R)).map ofC).length := by rw [List.length_map, hpl.length_eq]; exact HL.out
     have hj2 : j + 2 ≤ n := by rw [hlen]; simp; omega
     have hx := HP.out x (hpl.mem_iff.1 (by simp))
     have hy := HP.out y (hpl.mem_iff.1 (by simp))
     have hne : y.2 ≠ x.2 := (List.pairwise_cons.1 (List.pairwise_append.1 (HDF.out.perm hpl.symm)).2.1).1 x (by simp)
     have HCMP := Lib.hid (fun w hw => make_cmp (rstr x.1) (rstr y.1) x.2 y.2 (lim_nat80 hx) (lim_nat80 hy) w hw)
     have hcmp : (x.2 < y.2 ∧ Lib.compareInt (x.2 : Int) (y.2 : Int) = -1) ∨ (y.2 < x.2 ∧ Lib.compareInt (x.2 : Int) (y.2 : Int) = 1) := by
      unfold Lib.compareInt
      by_cases h : x.2 < y.2
      ·exact .inl ⟨h, by rw [if_pos (by omega)]⟩
      ·exact .inr ⟨by omega, by rw [if_neg (by omega)]; split <;> omega⟩
     generalize Lib.compareInt (x.2 : Int) (y.2 : Int) = c at *
     have g0 := rowS_get ((A ++ y :: x :: (B ++ R)).map ofC) j (by omega)
     have g1 := rowS_get ((A ++ y :: x :: (B ++ R)).map ofC) (j + 1) (by omega)
     rw [show ((A ++ y :: x :: (B ++ R)).map ofC).getD j ([], []) = ofC y by rw [← hAj]; exact ofC_map_get A y _] at g0
     rw [show ((A ++ y :: x :: (B ++ R)).map ofC).getD (j + 1) ([], []) = ofC x by rw [← hAj]; exact ofC_map_get1 A x y _] at g1
     have hset : ∀ W : World, W.ownsRow base 56 2 (.slice (some ⟨g, 0, none⟩) n cap) n (rowS ((A ++ y :: x :: (B ++ R)).map ofC)) →
       ((((W.setCell ⟨g, (j + 1) * 2, none⟩ (.string ⟨(rstr y.1).toArray⟩)).setCell ⟨g, (j + 1) * 2 + 1, none⟩ (.string ⟨(Lib.itoa (y.2 : Int)).toArray⟩)).setCell ⟨g, j * 2, none⟩ (.string ⟨(rstr x.1).toArray⟩)).setCell ⟨g, j * 2 + 1, none⟩ (.string ⟨(Lib.itoa (x.2 : Int)).toArray⟩)).ownsRow base 56 2 (.slice (some ⟨g, 0, none⟩) n cap) n (rowS ((A ++ x :: ((y :: B) ++ R)).map ofC)) := fun W h => by
      have h5 := ((((h.stored ((j + 1) * 2) (.string ⟨(ofC y).1.toArray⟩)).1.stored ((j + 1) * 2 + 1) (.string ⟨(ofC y).2.toArray⟩)).1.stored (j * 2) (.string ⟨(ofC x).1.toArray⟩)).1.stored (j * 2 + 1) (.string ⟨(ofC x).2.toArray⟩)).1
      rw [rowS_set, rowS_set] at h5
      have e : ((((A ++ y :: x :: (B ++ R)).map ofC).set (j + 1) (ofC y)).set j (ofC x)) = (A ++ x :: ((y :: B) ++ R)).map ofC := by
       rw [← hAj, ← List.map_set, ← List.map_set, set_swap]; rfl
      rw [e] at h5
      exact h5
     have HSET := Lib.hid hset
     have HROW := Lib.hid h4
     have H1 := Lib.hid h1
     have H3 := Lib.hid h3
     have HAJ := Lib.hid hAj
     have c0 : wr.drew.cell? ⟨g, j * 2, none⟩ = some (.string ⟨(rstr y.1).toArray⟩) := (h4.cellAt (j * 2) (by omega)).trans g0.1
     have c1 : wr.drew.cell? ⟨g, j * 2 + 1, none⟩ = some (.string ⟨(Lib.itoa (y.2 : Int)).toArray⟩) := (h4.cellAt (j * 2 + 1) (by omega)).trans g0.2
     have c2 : wr.drew.cell? ⟨g, (j + 1) * 2, none⟩ = some (.string ⟨(rstr x.1).toArray⟩) := (h4.cellAt ((j + 1) * 2) (by omega)).trans g1.1
     have c3 : wr.drew.cell? ⟨g, (j + 1) * 2 + 1, none⟩ = some (.string ⟨(Lib.itoa (x.2 : Int)).toArray⟩) := (h4.cellAt ((j + 1) * 2 + 1) (by omega)).trans g1.2
     clear hset h4 h1 h2 h3 hAj hmm hpl hlen hx hy hne g0 g1
     generalize hX1 : rstr x.1 = X1 at *
     generalize hY1 : rstr y.1 = Y1 at *
     generalize hX2 : Lib.itoa (x.2 : Int) = X2 at *
     generalize hY2 : Lib.itoa (y.2 : Int) = Y2 at *
     clear hX1 hY1 hX2 hY2
     have hj0 : (0 : Int) ≤ j := by omega
     have hj1 : (j : Int) ≤ 1000 := by omega
     have hjn : (j : Int) + 1 < n := by omega
     have hjp : (0 : Int) ≤ (j : Int) + 1 := by omega
     have hjn0 : (j : Int) < n := by omega
     have wj := Go.IntWalk.i64_in (j : Int) (by omega)
     have hsub : (j : Int) + 1 - 1 = j := by omega
     rcases hcmp with ⟨hxy, rfl⟩ | ⟨hxy, rfl⟩
     ·have HN : Hid (Mid l A (y :: B) x R) := Lib.hid (H1.out.step hxy)
      have HK : Hid (A.length + (y :: B).length = k) := Lib.hid (by have h3 := H3.out; simp at h3 ⊢; omega)
      clear H1 H3 hxy
      go_wp2_with fail
      refine wp_steadily 17 rfl (by kernel_rfl) rfl ?_
      refine steadily_value (i := 0) (v := ?_) rfl rfl (by kernel_rfl) (by kernel_rfl) (fun _ _ _ h => h) (by rfl) ?_ ?_
      rotate_left
      ·(intro w' hq; go_simp; try with_reducible rfl)
      simp only [Act.put, List.setIfInBounds_toArray, List.set_cons_zero, List.set_cons_succ]
      refine steadily_value (i := 1) (v := ?_) rfl rfl (by kernel_rfl) (by kernel_rfl) (fun _ _ _ h => h) (by rfl) ?_ ?_
      rotate_left
      ·(intro w' hq; go_simp; try with_reducible rfl)
      simp only [Act.put, List.setIfInBounds_toArray, List.set_cons_zero, List.set_cons_succ]
      refine steadily_value (i := 2) (v := ?_) rfl rfl (by kernel_rfl) (by kernel_rfl) (fun _ _ _ h => h) (by rfl) ?_ ?_
      rotate_left
      ·(intro w' hq; go_simp; try with_reducible rfl)
      simp only [Act.put, List.setIfInBounds_toArray, List.set_cons_zero, List.set_cons_succ]
      refine steadily_value (i := 3) (v := ?_) rfl rfl (by kernel_rfl) (by kernel_rfl) (fun _ _ _ h => h) (by rfl) ?_ ?_
      rotate_left
      ·(intro w' hq; go_simp; try with_reducible rfl)
      simp only [Act.put, List.setIfInBounds_toArray, List.set_cons_zero, List.set_cons_succ]
      refine steadily_value (i := 4) (v := ?_) rfl rfl (by kernel_rfl) (by kernel_rfl) (fun _ _ _ h => h) (by rfl) ?_ ?_
      rotate_left
      ·(intro w' hq; go_simp; try with_reducible rfl)
      simp only [Act.put, List.setIfInBounds_toArray, List.set_cons_zero, List.set_cons_succ]
      refine steadily_value (i := 5) (v := ?_) rfl rfl (by kernel_rfl) (by kernel_rfl) (fun _ _ _ h => h) (by rfl) ?_ ?_
      rotate_left
      ·(intro w' hq; go_simp; try with_reducible rfl)
      simp only [Act.put, List.setIfInBounds_toArray, List.set_cons_zero, List.set_cons_succ]
      refine steadily_value (i := 6) (v := ?_) rfl rfl (by kernel_rfl) (by kernel_rfl) (fun _ _ _ h => h) (by rfl) ?_ ?_
      rotate_left
      ·(intro w' hq; go_simp; try with_reducible rfl)
      simp only [Act.put, List.setIfInBounds_toArray, List.set_cons_zero, List.set_cons_succ]
      refine steadily_value (i := 7) (v := ?_) rfl rfl (by kernel_rfl) (by kernel_rfl) (fun _ _ _ h => h) (by rfl) ?_ ?_
      rotate_left
      ·(intro w' hq; go_simp; try with_reducible rfl)
      simp only [Act.put, List.setIfInBounds_toArray, List.set_cons_zero, List.set_cons_succ]
      refine steadily_value (i := 8) (v := ?_) rfl rfl (by kernel_rfl) (by kernel_rfl) (fun _ _ _ h => h) (by rfl) ?_ ?_
      rotate_left
      ·(intro w' hq; have hc0 := qcell hq c2; have hc1 := qcell hq c3; go_simp; try with_reducible rfl)
      simp only [Act.put, List.setIfInBounds_toArray, List.set_cons_zero, List.set_cons_succ]
      refine steadily_value (i := 9) (v := ?_) rfl rfl (by kernel_rfl) (by kernel_rfl) (fun _ _ _ h => h) (by rfl) ?_ ?_
      rotate_left
      ·(intro w' hq; go_simp; try with_reducible rfl)
      simp only [Act.put, List.setIfInBounds_toArray, List.set_cons_zero, List.set_cons_succ]
      refine steadily_value (i := 10) (v := ?_) rfl rfl (by kernel_rfl) (by kernel_rfl) (fun _ _ _ h => h) (by rfl) ?_ ?_
      rotate_left
      ·(intro w' hq; go_simp; try with_reducible rfl)
      simp only [Act.put, List.setIfInBounds_toArray, List.set_cons_zero, List.set_cons_succ]
      refine steadily_value (i := 11) (v := ?_) rfl rfl (by kernel_rfl) (by kernel_rfl) (fun _ _ _ h => h) (by rfl) ?_ ?_
      rotate_left
      ·(intro w' hq; go_simp; try with_reducible rfl)
      simp only [Act.put, List.setIfInBounds_toArray, List.set_cons_zero, List.set_cons_succ]
      refine steadily_value (i := 12) (v := ?_) rfl rfl (by kernel_rfl) (by kernel_rfl) (fun _ _ _ h => h) (by rfl) ?_ ?_
      rotate_left
      ·(intro w' hq; go_simp; try with_reducible rfl)
      simp only [Act.put, List.setIfInBounds_toArray, List.set_cons_zero, List.set_cons_succ]
      refine steadily_value (i := 13) (v := ?_) rfl rfl (by kernel_rfl) (by kernel_rfl) (fun _ _ _ h => h) (by rfl) ?_ ?_
      rotate_left
      ·(intro w' hq; have hc0 := qcell hq c0; have hc1 := qcell hq c1; go_simp; try with_reducible rfl)
      simp only [Act.put, List.setIfInBounds_toArray, List.set_cons_zero, List.set_cons_succ]
      refine steadily_call (i := 14) (v := _) rfl rfl (by kernel_rfl) (by kernel_rfl) (fun _ _ _ h => h) (by rfl) ?_ (fun w' hq => HCMP.out w' (hE.below hng (hB2.trans ((Below.trans (Below.drew (Q.refl _)) hq).mono hgr)))) ?_
      ·(intro w' hq; go_simp; try with_reducible rfl)
      simp only [Act.put, List.setIfInBounds_toArray, List.set_cons_zero, List.set_cons_succ]
      refine steadily_value (i := 15) (v := ?_) rfl rfl (by kernel_rfl) (by kernel_rfl) (fun _ _ _ h => h) (by rfl) ?_ ?_
      rotate_left
      ·(intro w' hq; go_simp; try with_reducible rfl)
      simp only [Act.put, List.setIfInBounds_toArray, List.set_cons_zero, List.set_cons_succ]
      refine steadily_value (i := 16) (v := ?_) rfl rfl (by kernel_rfl) (by kernel_rfl) (fun _ _ _ h => h) (by rfl) ?_ ?_
      rotate_left
      ·(intro w' hq; go_simp; try with_reducible rfl)
      simp only [Act.put, List.setIfInBounds_toArray, List.set_cons_zero, List.set_cons_succ]
      refine steadily_done (by kernel_rfl) (fun w3 hq3 => ?_)
      simp only [List.drop_succ_cons, List.drop_nil]
      have hQ3 : Q wr w3 := Below.trans (Below.drew (Q.refl _)) hq3
      have hr3' := ownsRow_keep HROW.out hQ3
      have k0' := (hQ3.cell (p := ⟨g, j * 2, none⟩) (show g < wr.heap.size by have := hB2.size; omega)).trans c0
      have k1' := (hQ3.cell (p := ⟨g, j * 2 + 1, none⟩) (show g < wr.heap.size by have := hB2.size; omega)).trans c1
      have k2' := (hQ3.cell (p := ⟨g, (j + 1) * 2, none⟩) (show g < wr.heap.size by have := hB2.size; omega)).trans c2
      have k3' := (hQ3.cell (p := ⟨g, (j + 1) * 2 + 1, none⟩) (show g < wr.heap.size by have := hB2.size; omega)).trans c3
      have f0' := hr3'.frozenAt (j * 2)
      have f1' := hr3'.frozenAt (j * 2 + 1)
      have f2' := hr3'.frozenAt ((j + 1) * 2)
      have f3' := hr3'.frozenAt ((j + 1) * 2 + 1)
      have k0 : w3.drew.cell? ⟨g, j * 2, none⟩ = some (.string ⟨Y1.toArray⟩) := k0'
      have k1 : w3.drew.cell? ⟨g, j * 2 + 1, none⟩ = some (.string ⟨Y2.toArray⟩) := k1'
      have k2 : w3.drew.cell? ⟨g, (j + 1) * 2, none⟩ = some (.string ⟨X1.toArray⟩) := k2'
      have k3 : w3.drew.cell? ⟨g, (j + 1) * 2 + 1, none⟩ = some (.string ⟨X2.toArray⟩) := k3'
      have f0 : w3.drew.frozen? ⟨g, j * 2, none⟩ = false := f0'
      have f1 : w3.drew.frozen? ⟨g, j * 2 + 1, none⟩ = false := f1'
      have f2 : w3.drew.frozen? ⟨g, (j + 1) * 2, none⟩ = false := f2'
      have f3 : w3.drew.frozen? ⟨g, (j + 1) * 2 + 1, none⟩ = false := f3'
      have HR4 := Lib.hid (HSET.out w3.drew hr3'.drew)
      have hB3 : Below base w w3.drew := (hB2.trans (hQ3.mono hgr)).drew
      have HB4 := Lib.hid ((((hB3.setCell (p := ⟨g, (j + 1) * 2, none⟩) hbg (.string ⟨Y1.toArray⟩)).setCell (p := ⟨g, (j + 1) * 2 + 1, none⟩) hbg (.string ⟨Y2.toArray⟩)).setCell (p := ⟨g, j * 2, none⟩) hbg (.string ⟨X1.toArray⟩)).setCell (p := ⟨g, j * 2 + 1, none⟩) hbg (.string ⟨X2.toArray⟩))
      clear hr3' hB3 hQ3 hq3 c0 c1 c2 c3 HCMP HROW HSET
      go_wp2_with fail
      go_big_region
      all_goals go_wp2
      go_roundw
      case rel => exact ⟨j, by omega, by go_num, HB4.out, Lib.hid ⟨A, y :: B, x, R, HN.out, HAJ.out, HK.out, HR4.out⟩⟩
      case measure => simp [intOf]
     ·have HX : Hid (∃ M R, (M ++ R).Perm l ∧ Up M ∧ M.length = k + 1 ∧ wr.ownsRow base 56 2 (.slice (some ⟨g, 0, none⟩) n cap) n (rowS ((M ++ R).map ofC))) := by
       have h1 := H1.out
       have h3 := H3.out
       refine Lib.hid ⟨(A ++ [y]) ++ x :: B, R, ?_, h1.stop (up_snoc_lt h1.up hxy), ?_, ?_⟩
       ·have := h1.perm
        simpa using this
       ·simp at h3 ⊢; omega
       ·have h5 := HROW.out
        rw [show (A ++ [y]) ++ x :: B ++ R = A ++ y :: x :: (B ++ R) by simp]
        exact h5
      clear H1 H3 HAJ HSET HROW hxy
      go_wp2_with fail
      refine wp_steadily 17 rfl (by kernel_rfl) rfl ?_
      refine steadily_value (i := 0) (v := ?_) rfl rfl (by kernel_rfl) (by kernel_rfl) (fun _ _ _ h => h) (by rfl) ?_ ?_
      rotate_left
      ·(intro w' hq; go_simp; try with_reducible rfl)
      simp only [Act.put, List.setIfInBounds_toArray, List.set_cons_zero, List.set_cons_succ]
      refine steadily_value (i := 1) (v := ?_) rfl rfl (by kernel_rfl) (by kernel_rfl) (fun _ _ _ h => h) (by rfl) ?_ ?_
      rotate_left
      ·(intro w' hq; go_simp; try with_reducible rfl)
      simp only [Act.put, List.setIfInBounds_toArray, List.set_cons_zero, List.set_cons_succ]
      refine steadily_value (i := 2) (v := ?_) rfl rfl (by kernel_rfl) (by kernel_rfl) (fun _ _ _ h => h) (by rfl) ?_ ?_
      rotate_left
      ·(intro w' hq; go_simp; try with_reducible rfl)
      simp only [Act.put, List.setIfInBounds_toArray, List.set_cons_zero, List.set_cons_succ]
      refine steadily_value (i := 3) (v := ?_) rfl rfl (by kernel_rfl) (by kernel_rfl) (fun _ _ _ h => h) (by rfl) ?_ ?_
      rotate_left
      ·(intro w' hq; go_simp; try with_reducible rfl)
      simp only [Act.put, List.setIfInBounds_toArray, List.set_cons_zero, List.set_cons_succ]
      refine steadily_value (i := 4) (v := ?_) rfl rfl (by kernel_rfl) (by kernel_rfl) (fun _ _ _ h => h) (by rfl) ?_ ?_
      rotate_left
      ·(intro w' hq; go_simp; try with_reducible rfl)
      simp only [Act.put, List.setIfInBounds_toArray, List.set_cons_zero, List.set_cons_succ]
      refine steadily_value (i := 5) (v := ?_) rfl rfl (by kernel_rfl) (by kernel_rfl) (fun _ _ _ h => h) (by rfl) ?_ ?_
      rotate_left
      ·(intro w' hq; go_simp; try with_reducible rfl)
      simp only [Act.put, List.setIfInBounds_toArray, List.set_cons_zero, List.set_cons_succ]
      refine steadily_value (i := 6) (v := ?_) rfl rfl (by kernel_rfl) (by kernel_rfl) (fun _ _ _ h => h) (by rfl) ?_ ?_
      rotate_left
      ·(intro w' hq; go_simp; try with_reducible rfl)
      simp only [Act.put, List.setIfInBounds_toArray, List.set_cons_zero, List.set_cons_succ]
      refine steadily_value (i := 7) (v := ?_) rfl rfl (by kernel_rfl) (by kernel_rfl) (fun _ _ _ h => h) (by rfl) ?_ ?_
      rotate_left
      ·(intro w' hq; go_simp; try with_reducible rfl)
      simp only [Act.put, List.setIfInBounds_toArray, List.set_cons_zero, List.set_cons_succ]
      refine steadily_value (i := 8) (v := ?_) rfl rfl (by kernel_rfl) (by kernel_rfl) (fun _ _ _ h => h) (by rfl) ?_ ?_
      rotate_left
      ·(intro w' hq; have hc0 := qcell hq c2; have hc1 := qcell hq c3; go_simp; try with_reducible rfl)
      simp only [Act.put, List.setIfInBounds_toArray, List.set_cons_zero, List.set_cons_succ]
      refine steadily_value (i := 9) (v := ?_) rfl rfl (by kernel_rfl) (by kernel_rfl) (fun _ _ _ h => h) (by rfl) ?_ ?_
      rotate_left
      ·(intro w' hq; go_simp; try with_reducible rfl)
      simp only [Act.put, List.setIfInBounds_toArray, List.set_cons_zero, List.set_cons_succ]
      refine steadily_value (i := 10) (v := ?_) rfl rfl (by kernel_rfl) (by kernel_rfl) (fun _ _ _ h => h) (by rfl) ?_ ?_
      rotate_left
      ·(intro w' hq; go_simp; try with_reducible rfl)
      simp only [Act.put, List.setIfInBounds_toArray, List.set_cons_zero, List.set_cons_succ]
      refine steadily_value (i := 11) (v := ?_) rfl rfl (by kernel_rfl) (by kernel_rfl) (fun _ _ _ h => h) (by rfl) ?_ ?_
      rotate_left
      ·(intro w' hq; go_simp; try with_reducible rfl)
      simp only [Act.put, List.setIfInBounds_toArray, List.set_cons_zero, List.set_cons_succ]
      refine steadily_value (i := 12) (v := ?_) rfl rfl (by kernel_rfl) (by kernel_rfl) (fun _ _ _ h => h) (by rfl) ?_ ?_
      rotate_left
      ·(intro w' hq; go_simp; try with_reducible rfl)
      simp only [Act.put, List.setIfInBounds_toArray, List.set_cons_zero, List.set_cons_succ]
      refine steadily_value (i := 13) (v := ?_) rfl rfl (by kernel_rfl) (by kernel_rfl) (fun _ _ _ h => h) (by rfl) ?_ ?_
      rotate_left
      ·(intro w' hq; have hc0 := qcell hq c0; have hc1 := qcell hq c1; go_simp; try with_reducible rfl)
      simp only [Act.put, List.setIfInBounds_toArray, List.set_cons_zero, List.set_cons_succ]
      refine steadily_call (i := 14) (v := _) rfl rfl (by kernel_rfl) (by kernel_rfl) (fun _ _ _ h => h) (by rfl) ?_ (fun w' hq => HCMP.out w' (hE.below hng (hB2.trans ((Below.trans (Below.drew (Q.refl _)) hq).mono hgr)))) ?_
      ·(intro w' hq; go_simp; try with_reducible rfl)
      simp only [Act.put, List.setIfInBounds_toArray, List.set_cons_zero, List.set_cons_succ]
      refine steadily_value (i := 15) (v := ?_) rfl rfl (by kernel_rfl) (by kernel_rfl) (fun _ _ _ h => h) (by rfl) ?_ ?_
      rotate_left
      ·(intro w' hq; go_simp; try with_reducible rfl)
      simp only [Act.put, List.setIfInBounds_toArray, List.set_cons_zero, List.set_cons_succ]
      refine steadily_value (i := 16) (v := ?_) rfl rfl (by kernel_rfl) (by kernel_rfl) (fun _ _ _ h => h) (by rfl) ?_ ?_
      rotate_left
      ·(intro w' hq; go_simp; try with_reducible rfl)
      simp only [Act.put, List.setIfInBounds_toArray, List.set_cons_zero, List.set_cons_succ]
      refine steadily_done (by kernel_rfl) (fun w3 hq3 => ?_)
      simp only [List.drop_succ_cons, List.drop_nil]
      have hQ3 : Q wr w3 := Below.trans (Below.drew (Q.refl _)) hq3
      have HX3 : Hid (∃ M R, (M ++ R).Perm l ∧ Up M ∧ M.length = k + 1 ∧ w3.ownsRow base 56 2 (.slice (some ⟨g, 0, none⟩) n cap) n (rowS ((M ++ R).map ofC))) := by
       obtain ⟨M, R, h1, h2, h3, h4⟩ := HX.out
       exact Lib.hid ⟨M, R, h1, h2, h3, ownsRow_keep h4 hQ3⟩
      have hB3 := hB2.trans (hQ3.mono hgr)
      clear HX c0 c1 c2 c3 HCMP
      go_wp2
      go_roundw
      case rel => exact ⟨k + 1, by omega, by omega, by go_num, hB3, HX3⟩
      case measure => simp [intOf]; omega
  ·have hkn' : k = n := by omega
   subst hkn'
   go_wp2
   go_end0
   refine ⟨⟨_, rfl⟩, hB, ?_⟩
   obtain ⟨M, R, h1, h2, h3, h4⟩ := HM.out
   have h5 := h1.length_eq
   rw [List.length_append, h3, ← HL.out] at h5
   obtain rfl := List.length_eq_zero_iff.1 (show R.length = 0 by omega)
   rw [List.append_nil] at h1 h4
   exact ⟨M, h1, h2, h4⟩
set_option maxHeartbeats 1000000 in
theorem pdqsort_any (l : List (Rat × Nat)) (hl : ∀ c ∈ l, c.2 < 10 ^ 80) (hd : Diff l) (hn : l.length ≤ 12) (h1 : 1 ≤ l.length) (base g cap : Nat) (k : Int) (w : World) (hE : Env w) (hng : ng ≤ base)
  (hr : w.ownsRow base 56 2 (.slice (some ⟨g, 0, none⟩) l.length cap) l.length (rowS (l.map ofC))) :
  Calls Tryz.prog 82 #[.slice (some ⟨g, 0, none⟩) l.length cap, .int .i64 0, .int .i64 l.length, .int .i64 k, .func (.func 49) #[] #[]] w fun e w' => (∃ v, e = .returned v) ∧ Below base w w' ∧
   ∃ r, r.Perm l ∧ Up r ∧ w'.ownsRow base 56 2 (.slice (some ⟨g, 0, none⟩) l.length cap) l.length (rowS (r.map ofC)) := by
 have HI := Lib.hid (insertion_any l hl hd (by omega) h1 base g cap w hE hng hr)
 clear hr hl hd
 obtain ⟨n, hnn⟩ : ∃ n, n = l.length := ⟨_, rfl⟩
 rw [← hnn] at hn h1 HI ⊢
 clear hnn
 have hn0 : (0 : Int) ≤ n := by omega
 have hn12 : (n : Int) ≤ 12 := by omega
 go_enter Tryz.func82, Tryz.ntmps82
 go_wp2
 go_loop [1, 2, 3] (fun x y _ => x = .int .i64 0 ∧ y = .int .i64 n) (fun _ _ _ => 0)
 case atStart => exact ⟨rfl, rfl⟩
 case round =>
  obtain ⟨rfl, rfl⟩ := hrel
  go_wp2_with fail
  refine HI.out.mono ?_
  rintro e w1 ⟨⟨v, rfl⟩, hb, hr⟩
  go_wp2
  (try simp only [Exit.inBlock, Exit.then])
  refine bodyPost_ret (results_none rfl _ _ _) rfl ?_
  exact ⟨⟨_, rfl⟩, hb, hr⟩
set_option maxHeartbeats 1000000 in
theorem sortFunc_any (l : List (Rat × Nat)) (hl : ∀ c ∈ l, c.2 < 10 ^ 80) (hd : Diff l) (hn : l.length ≤ 12) (h1 : 1 ≤ l.length) (base g cap : Nat) (w : World) (hE : Env w) (hng : ng ≤ base)
  (hr : w.ownsRow base 56 2 (.slice (some ⟨g, 0, none⟩) l.length cap) l.length (rowS (l.map ofC))) :
  Calls Tryz.prog 48 #[.slice (some ⟨g, 0, none⟩) l.length cap, .func (.func 49) #[] #[]] w fun e w' => (∃ v, e = .returned v) ∧ Below base w w' ∧
   ∃ r, r.Perm l ∧ Up r ∧ w'.ownsRow base 56 2 (.slice (some ⟨g, 0, none⟩) l.length cap) l.length (rowS (r.map ofC)) := by
 have HI := Lib.hid (fun k => pdqsort_any l hl hd hn h1 base g cap k w hE hng hr)
 clear hr hl hd
 obtain ⟨n, hnn⟩ : ∃ n, n = l.length := ⟨_, rfl⟩
 rw [← hnn] at hn h1 HI ⊢
 clear hnn
 have hn0 : (0 : Int) ≤ n := by omega
 have hn12 : (n : Int) ≤ 12 := by omega
 go_enter Tryz.func48, Tryz.ntmps48
 go_wp2_with fail
 refine (Tryz.bits_Len _ _ (by omega) (by omega)).mono ?_
 rintro e w1 ⟨rfl, rfl⟩
 go_wp2_with fail
 refine (HI.out _).mono ?_
 rintro e w1 ⟨⟨v, rfl⟩, hb, hr⟩
 go_wp2
 go_end0
 exact ⟨⟨_, rfl⟩, hb, hr⟩
theorem sorts_any (l : List (Rat × Nat)) (hl : ∀ c ∈ l, c.2 < 10 ^ 80) (hd : Diff l) (hn : l.length ≤ 12) : Sorts l (sortC l) := by
 intro base W o hE hng hr
 rcases Nat.eq_zero_or_pos l.length with h0 | h0
 ·obtain rfl := List.length_eq_zero_iff.1 h0
  obtain ⟨a, cap, rfl⟩ := row_form hr
  refine (sortFunc_zero a cap _ W).mono ?_
  rintro e W' ⟨hu, rfl⟩
  exact ⟨hu, Below.refl _ _, hr⟩
 ·rw [List.length_map] at hr ⊢
  obtain ⟨g, cap, rfl, -, -⟩ := hr.form h0
  refine (sortFunc_any l hl hd hn h0 base g cap W hE hng hr).mono ?_
  rintro e W' ⟨hu, hb, r, h1, h2, h3⟩
  refine ⟨hu, hb, ?_⟩
  rw [up_unique (sortC_up hd) h2 ((sortC_perm l).trans h1.symm)]
  exact h3
end Go.Proofs.YtedijdmenfcjlaaGreatDoor
namespace Go.Proofs.YtedijdmenfcjlaaGreatDoor
open Go.RowKit Kp
theorem surd_Make_w (L : List (Rat × Nat)) (n : Nat) (hw : WL L n) (hne : ∀ c ∈ L, c.1 ≠ 0) (hn : n ≤ 12)
  (B : Nat) (v : Value) (w : World) (hE : Env w) (hv : SurdL w B v L) :
  Calls Tryz.prog 24 #[v] w fun e w' => ∃ v', e = .returned (.tuple #[v', .int .i64 0]) ∧ Q w w' ∧ SurdL w' w.heap.size v' (madeL L) := by
 have hcl := clsT_norm L (fun c hc => (hw.gc c hc).norm)
 have hmap : (L.map fun c => (c.1, (c.2 : Rat))).map ofT = L.map ofC := by
  rw [List.map_map]
  exact List.map_congr_left fun c _ => by simp [ofT, ofC, rstr_nat]
 have hgc : ∀ k, ∀ d ∈ addL [] (L.take k), GC 100 d := fun k d hd =>
  ((WL.addL (L.take k) (cs := []) (n := 0) trivial (hw.take k)).gc d hd).mono (by omega)
 have hgc' : ∀ d ∈ addL [] L, GC 100 d := fun d hd => ((WL.addL L (cs := []) (n := 0) trivial hw).gc d hd).mono (by omega)
 have hts : ∀ t ∈ L.map (fun c => (c.1, (c.2 : Rat))), VT t := fun t ht => by
  obtain ⟨c, hc, rfl⟩ := List.mem_map.1 ht
  exact (hw.gc c hc).vt (by omega) (hne c hc)
 have hlen := hw.len
 have hol : (outC (addL [] L)).length ≤ 12 := by
  have h1 := outC_len (addL [] L)
  have h2 := addL_len L []
  simp only [List.length_nil] at h2
  omega
 have hs := sorts_any (outC (addL [] L)) (fun c hc => Nat.lt_of_lt_of_le (hgc' c (mem_outC hc)).lt (by decide)) (made_diff hw).2 hol
 have h := surd_Make_list (L.map fun c => (c.1, (c.2 : Rat))) hts (fun k hk c hc => by
   rw [← List.map_take, clsT_norm (L.take k) (fun c hc => (hw.gc c (List.mem_of_mem_take hc)).norm)] at hc
   exact (hgc k c hc).cb (by decide))
  (by rw [List.length_map]; omega) (by rw [hcl]; exact fun c hc => (hgc' c hc).lims (by decide)) (madeL L) (by rw [hcl]; exact (sortC_perm _).length_eq) (by rw [hcl]; exact hs) v w hE (by rw [hmap]; exact hv.tsl)
 refine h.mono fun e w' ⟨v', he, hq, hr⟩ => ⟨v', he, hq, ?_⟩
 rw [List.length_map] at hr
 exact hr
set_option maxRecDepth 100000 in
set_option maxHeartbeats 2000000 in
theorem surd_Add_sv {n m : Nat} {f h : Nat → Rat} (L K : List (Rat × Nat)) (sL : SV n f L) (sK : SV m h K) (hnm : n + m ≤ 12)
  (B1 B2 : Nat) (v1 v2 : Value) (w : World) (hE : Env w) (h1 : SurdL w B1 v1 L) (h2 : SurdL w B2 v2 K) :
  Calls Tryz.prog 9 #[v1, v2] w fun e w' => ∃ v' M, e = .returned (.tuple #[v', .int .i64 0]) ∧ Q w w' ∧ SurdL w' w.heap.size v' M ∧ SV (n + m) (fun k => f k + h k) M := by
 have hsv : SV (n + m) (fun k => f k + h k) (madeL (L ++ K)) := made_sv (sL.w.app sK.w) (by omega) (fun k hk => by rw [VL_append, sL.val k hk, sK.val k hk])
 have HSV := Lib.hid hsv
 have HB := Lib.hid (surd_both_at L K sL.list sK.list B1 B2 v1 v2 w hE h1 h2)
 have HCC := Lib.hid (fun w' (hq : Q w w') b t hb => surd_Concat_at L K (by have := sL.list.len; omega) (by have := sK.list.len; omega) B1 B2 v1 v2 b t w' hb (h1.keep hq) (h2.keep hq))
 have HMK := Lib.hid (fun B v w hw hv => surd_Make_w (L ++ K) (n + m) (sL.w.app sK.w) (fun c hc => by
  rw [List.mem_append] at hc
  exact hc.elim (sL.ne c) (sK.ne c)) hnm B v w hw hv)
 obtain ⟨a1, c1, rfl, -⟩ := h1.form
 obtain ⟨a2, c2, rfl, -⟩ := h2.form
 clear hsv h1 h2 sL sK
 generalize L.length = n1 at *
 generalize K.length = n2 at *
 go_enter Tryz.func9, Tryz.ntmps9
 go_wp2_with fail
 refine HB.out.mono ?_
 rintro e w1 ⟨rfl, hq1⟩
 go_wp2_with fail
 have hb := Blk.new w1 [.slice a1 n1 c1, .slice a2 n2 c2] 38
 have hqa := hq1.alloc hq1.size (Obj.cells [.slice a1 n1 c1, .slice a2 n2 c2].toArray 38)
 refine (HCC.out _ hqa _ _ hb).mono ?_
 rintro e w3 ⟨v4, rfl, hq3, hr4⟩
 have hQ3 := Q.trans hqa hq3
 have R4 := Lib.hid hr4
 obtain ⟨a4, c4, rfl, -⟩ := hr4.form
 clear hr4
 generalize (L ++ K).length = n4 at *
 go_wp2_with fail
 refine (HMK.out _ _ _ (hE.q hQ3) R4.out).mono ?_
 rintro e w4 ⟨v5, rfl, hq4, hr5⟩
 have hQ4 := Q.trans hQ3 hq4
 have HR5 := Lib.hid hr5
 clear hr5
 go_wp2
 go_ret2
 exact ⟨_, _, rfl, hQ4, Joins.ownsRow_le HR5.out hQ3.size, HSV.out⟩
set_option maxRecDepth 100000 in
set_option maxHeartbeats 2000000 in
theorem surd_Sub_sv {n m : Nat} {f h : Nat → Rat} (L K : List (Rat × Nat)) (sL : SV n f L) (sK : SV m h K) (hnm : n + m ≤ 12)
  (B1 B2 : Nat) (v1 v2 : Value) (w : World) (hE : Env w) (h1 : SurdL w B1 v1 L) (h2 : SurdL w B2 v2 K) :
  Calls Tryz.prog 26 #[v1, v2] w fun e w' => ∃ v' M, e = .returned (.tuple #[v', .int .i64 0]) ∧ Q w w' ∧ SurdL w' w.heap.size v' M ∧ SV (n + m) (fun k => f k - h k) M := by
 have hneg : ∀ c ∈ negL K, c.1 ≠ 0 := fun c hc => by
  unfold negL at hc
  obtain ⟨d, hd, rfl⟩ := List.mem_map.1 hc
  have := sK.ne d hd
  intro e
  exact this (by have : -d.1 = 0 := e; grind)
 have hsv : SV (n + m) (fun k => f k - h k) (madeL (L ++ negL K)) := made_sv (sL.w.app sK.w.neg) (by omega) (fun k hk => by rw [VL_append, VL_neg, sL.val k hk, sK.val k hk]; grind)
 have HSV := Lib.hid hsv
 have HB := Lib.hid (surd_both_at L K sL.list sK.list B1 B2 v1 v2 w hE h1 h2)
 have bK : ∀ c ∈ K, Bd 60 c.1 := fun c hc => ((sK.w.gc c hc).bd (by omega)).1.mono (by decide)
 have hsc : ∀ w' (_ : Env w') (_ : Q w w'), Calls Tryz.prog 51 #[v2, .string ⟨#[45, 49]⟩] w' fun e w'' => ∃ v', e = .returned (.tuple #[v', .int .i64 0]) ∧ Q w' w'' ∧ SurdL w'' w'.heap.size v' (negL K) := fun w' hw hq => by
  have h := surd_scaled K (-1) bd_minus_one bK (by have := sK.list.len; omega) v2 w' hw ((h2.keep hq).tsl)
  rw [rstr_minus_one, scale_neg] at h
  refine h.mono fun e w'' he => ?_
  obtain ⟨v', h1, h2, h3⟩ := he
  refine ⟨v', h1, h2, ?_⟩
  rw [List.length_map] at h3
  exact h3
 have HSC := Lib.hid hsc
 have HCC := Lib.hid (fun w' (hq : Q w w') B v b t hb hv => surd_Concat_at L (negL K) (by have := sL.list.len; omega) (by have := sK.list.len; rw [negL_len]; omega) B1 B v1 v b t w' hb (h1.keep hq) hv)
 have HMK := Lib.hid (fun B v w hw hv => surd_Make_w (L ++ negL K) (n + m) (sL.w.app sK.w.neg) (fun c hc => by
  rw [List.mem_append] at hc
  exact hc.elim (sL.ne c) (hneg c)) hnm B v w hw hv)
 obtain ⟨a1, c1, rfl, -⟩ := h1.form
 obtain ⟨a2, c2, rfl, -⟩ := h2.form
 clear hsv h1 h2 sL sK bK hsc hneg
 generalize L.length = n1 at *
 generalize K.length = n2 at *
 go_enter Tryz.func26, Tryz.ntmps26
 go_wp2_with fail
 refine HB.out.mono ?_
 rintro e w1 ⟨rfl, hq1⟩
 go_wp2_with fail
 refine (HSC.out _ (hE.q hq1) hq1).mono ?_
 rintro e w2 ⟨v3, rfl, hq2, hr3⟩
 have hQ2 := Q.trans hq1 hq2
 have R3 := Lib.hid hr3
 obtain ⟨a3, c3, rfl, -⟩ := hr3.form
 clear hr3
 generalize (negL K).length = n3 at *
 go_wp2_with fail
 have hb := Blk.new w2 [.slice a1 n1 c1, .slice a3 n3 c3] 38
 have hqa := hQ2.alloc hQ2.size (Obj.cells [.slice a1 n1 c1, .slice a3 n3 c3].toArray 38)
 refine (HCC.out _ hqa _ _ _ _ hb (R3.out.keep ((Below.refl _ w2).alloc (Nat.le_refl _) _))).mono ?_
 rintro e w3 ⟨v4, rfl, hq3, hr4⟩
 have hQ3 := Q.trans hqa hq3
 have R4 := Lib.hid hr4
 obtain ⟨a4, c4, rfl, -⟩ := hr4.form
 clear hr4
 generalize (L ++ negL K).length = n4 at *
 go_wp2_with fail
 refine (HMK.out _ _ _ (hE.q hQ3) R4.out).mono ?_
 rintro e w4 ⟨v5, rfl, hq4, hr5⟩
 have hQ4 := Q.trans hQ3 hq4
 have HR5 := Lib.hid hr5
 clear hr5
 go_wp2
 go_ret2
 exact ⟨_, _, rfl, hQ4, Joins.ownsRow_le HR5.out hQ3.size, HSV.out⟩
set_option maxHeartbeats 1000000 in
theorem surd_Compare_sv {n m : Nat} {f h : Nat → Rat} (L K : List (Rat × Nat)) (sL : SV n f L) (sK : SV m h K) (hnm : n + m ≤ 12) (σ : Int) (hσ : ∀ M, SV (n + m) (fun k => f k - h k) M → signV M = .tuple #[.int .i64 σ, .int .i64 0])
  (B1 B2 : Nat) (v1 v2 : Value) (w : World) (hE : Env w) (hP : PlacesAt w) (h1 : SurdL w B1 v1 L) (h2 : SurdL w B2 v2 K) :
  Calls Tryz.prog 10 #[v1, v2] w fun e w' => e = .returned (.tuple #[.int .i64 σ, .int .i64 0]) ∧ Q w w' := by
 have HS := Lib.hid (surd_Sub_sv L K sL sK hnm B1 B2 v1 v2 w hE h1 h2)
 have HG := Lib.hid (fun M (hM : SV (n + m) (fun k => f k - h k) M) v w hw hp hv => surd_sign M (fun c hc => ⟨((hM.w.gc c hc).bd (by omega)).1.mono (by decide), Nat.lt_of_lt_of_le (hM.w.gc c hc).lt (by decide)⟩) (by have := hM.list.len; omega) v w hw hp hv)
 have HV := Lib.hid hσ
 obtain ⟨a1, c1, rfl, -⟩ := h1.form
 obtain ⟨a2, c2, rfl, -⟩ := h2.form
 clear h1 h2 sL sK hσ
 generalize L.length = n1 at *
 generalize K.length = n2 at *
 go_enter Tryz.func10, Tryz.ntmps10
 go_wp2_with fail
 refine HS.out.mono ?_
 rintro e w1 ⟨v, M, rfl, hq1, hr, hM⟩
 have HX := Lib.hid (HG.out M hM v w1 (hE.q hq1) (hP.q hE hq1) hr.tsl)
 rw [HV.out M hM] at HX
 obtain ⟨a3, c3, rfl, -⟩ := hr.form
 clear hr hM HG HV
 generalize M.length = n3 at *
 go_wp2_with fail
 refine HX.out.mono ?_
 rintro e w2 ⟨rfl, hq2⟩
 have hQ2 := Q.trans hq1 hq2
 go_wp2
 go_ret2
 exact ⟨rfl, hQ2⟩
theorem surd_Compare_same {n m : Nat} {f h : Nat → Rat} (L K : List (Rat × Nat)) (sL : SV n f L) (sK : SV m h K) (hfh : ∀ k, 0 < k → f k = h k) (hnm : n + m ≤ 12)
  (B1 B2 : Nat) (v1 v2 : Value) (w : World) (hE : Env w) (hP : PlacesAt w) (h1 : SurdL w B1 v1 L) (h2 : SurdL w B2 v2 K) :
  Calls Tryz.prog 10 #[v1, v2] w fun e w' => e = .returned (.tuple #[.int .i64 0, .int .i64 0]) ∧ Q w w' :=
 surd_Compare_sv L K sL sK hnm 0 (fun M hM => by
  have h0 := hM.zero (fun k hk => by rw [hfh k hk]; grind)
  rw [h0]; rfl) B1 B2 v1 v2 w hE hP h1 h2
theorem surd_Compare_less {n m : Nat} {f h : Nat → Rat} (L K : List (Rat × Nat)) (sL : SV n f L) (sK : SV m h K) {y : Rat} {r : Nat} (hy : 0 < y.num) (hr : 0 < r) (hfh : ∀ k, 0 < k → f k - h k = -cf k (y, r)) (hnm : n + m ≤ 12)
  (B1 B2 : Nat) (v1 v2 : Value) (w : World) (hE : Env w) (hP : PlacesAt w) (h1 : SurdL w B1 v1 L) (h2 : SurdL w B2 v2 K) :
  Calls Tryz.prog 10 #[v1, v2] w fun e w' => e = .returned (.tuple #[.int .i64 (-1), .int .i64 0]) ∧ Q w w' :=
 surd_Compare_sv L K sL sK hnm (-1) (fun M hM => by
  obtain ⟨c, rfl, hc⟩ := (hM.congr hfh).minus_one hy hr
  have hg := hM.w.gc c (by simp)
  have hd := (hg.bd (by omega)).2
  have h1 := sign_one (x := c.1) (l := c.2) (by omega) hg.pos (Nat.lt_trans hd (by decide))
  rw [if_neg (by omega)] at h1
  unfold signV
  rw [h1]) B1 B2 v1 v2 w hE hP h1 h2
end Go.Proofs.YtedijdmenfcjlaaGreatDoor
