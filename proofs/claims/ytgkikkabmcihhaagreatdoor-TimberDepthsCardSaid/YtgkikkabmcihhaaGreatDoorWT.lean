/-
  Walks: the reference's Check and Find, timber.Find, and what they call.
-/
import Derived.Test.YtgkikkabmcihhaaGreatDoorWR
import Derived.Test.YtgkikkabmcihhaaGreatDoorFindM
import Derived.Laws.StructEq
namespace Go.Proofs.YtgkikkabmcihhaaGreatDoor
open Go.RowKit Kp

/-- Sizes in a block. -/
def SzAt (w : World) (b o : Nat) (l : List Sz) : Prop := b < w.heap.size ∧ ∀ i, i < l.length →
    w.cell? ⟨b, o + i * 3, none⟩ = some (.int .i64 (l.getD i ⟨0, 0, 0⟩).k) ∧ w.cell? ⟨b, o + i * 3 + 1, none⟩ = some (.int .i64 (l.getD i ⟨0, 0, 0⟩).w) ∧ w.cell? ⟨b, o + i * 3 + 2, none⟩ = some (.int .i64 (l.getD i ⟨0, 0, 0⟩).d)
theorem SzAt.keep {w w' : World} {b o B : Nat} {l : List Sz} (h : SzAt w b o l) (hq : Below B w w') (hB : b < B) : SzAt w' b o l :=
  ⟨Nat.lt_of_lt_of_le h.1 hq.size, fun i hi => ⟨(hq.cell (p := ⟨b, o + i * 3, none⟩) hB).trans (h.2 i hi).1, (hq.cell (p := ⟨b, o + i * 3 + 1, none⟩) hB).trans (h.2 i hi).2.1, (hq.cell (p := ⟨b, o + i * 3 + 2, none⟩) hB).trans (h.2 i hi).2.2⟩⟩
theorem SzSl.cases {w : World} {v : Value} {l : List Sz} (h : SzSl w v l) : (l = [] ∧ ∃ a cap, v = .slice a 0 cap) ∨ (∃ b o cap, v = .slice (some ⟨b, o, none⟩) l.length cap ∧ SzAt w b o l) := by
  obtain ⟨a, cap, rfl, hc⟩ := h
  cases l with
  | nil => exact .inl ⟨rfl, a, cap, rfl⟩
  | cons s l =>
    obtain ⟨b, o, rfl, hb, _⟩ := hc 0 (by simp)
    refine .inr ⟨b, o, cap, rfl, hb, fun i hi => ?_⟩
    obtain ⟨b', o', e, _, h1⟩ := hc i hi
    simp only [Option.some.injEq, Addr.mk.injEq, and_true] at e
    obtain ⟨rfl, rfl⟩ := e
    exact h1
theorem SzAt.sl {w : World} {b o cap : Nat} {l : List Sz} (h : SzAt w b o l) : SzSl w (.slice (some ⟨b, o, none⟩) l.length cap) l :=
  ⟨_, cap, rfl, fun i hi => ⟨b, o, rfl, h.1, h.2 i hi⟩⟩
theorem SzSl.keep {w w' : World} {v : Value} {l : List Sz} (h : SzSl w v l) (hq : Below w.heap.size w w') : SzSl w' v l := by
  rcases h.cases with ⟨rfl, a, cap, rfl⟩ | ⟨b, o, cap, rfl, hA⟩
  · exact ⟨a, cap, rfl, fun i hi => absurd hi (Nat.not_lt_zero _)⟩
  · exact (hA.keep hq hA.1).sl

theorem within_yes (n : Int) (h1 : 1 ≤ n) (h2 : n ≤ 1000) (w : World) : Calls Tryz.prog 51 #[.int .i64 n] w fun e w' => e = .returned (.bool true) ∧ w = w' := by
  go_enter Tryz.func51, Tryz.ntmps51
  go_wp2
  go_ret
  exact ⟨rfl, rfl⟩
theorem within_no (n : Int) (h : ¬ (1 ≤ n ∧ n ≤ 1000)) (w : World) : Calls Tryz.prog 51 #[.int .i64 n] w fun e w' => e = .returned (.bool false) ∧ w = w' := by
  by_cases h1 : 1 ≤ n
  · have h2 : ¬ n ≤ 1000 := fun x => h ⟨h1, x⟩
    go_enter Tryz.func51, Tryz.ntmps51
    go_wp2
    go_ret
    exact ⟨rfl, rfl⟩
  · go_enter Tryz.func51, Tryz.ntmps51
    go_wp2
    go_ret
    exact ⟨rfl, rfl⟩

theorem ref36_Great (l : List Sz) (v : Value) (w : World) (hl : SzSl w v l) (hln : l.length < 4611686018427387904) : Calls Tryz.prog 17 #[v] w fun e w' => e = .returned (.bool (decide (16 < l.length))) ∧ w = w' := by
  obtain ⟨a, cap, rfl, -⟩ := hl
  by_cases h : 16 < l.length
  · have HX : Hid (decide (16 < l.length) = true) := Lib.hid (decide_eq_true h)
    have h2 : (16 : Int) < (l.length : Int) := by omega
    generalize decide (16 < l.length) = x at *
    go_enter Tryz.func17, Tryz.ntmps17
    go_wp2
    go_ret
    exact ⟨by rw [HX.out]; rfl, rfl⟩
  · have HX : Hid (decide (16 < l.length) = false) := Lib.hid (decide_eq_false h)
    have h2 : decide ((16 : Int) < (l.length : Int)) = false := by simp; omega
    clear h
    generalize decide (16 < l.length) = x at *
    go_enter Tryz.func17, Tryz.ntmps17
    go_wp2
    go_ret
    exact ⟨by rw [HX.out]; rfl, rfl⟩

set_option maxHeartbeats 2000000 in
theorem ref36_Check (l : List Sz) (hln : l.length < 4611686018427387904) (v : Value) (w : World) (hl : SzSl w v l) :
    Calls Tryz.prog 18 #[v] w fun e w' => e = .returned (.int .i64 (scheck l [])) ∧ Q w w' := by
  rcases hl.cases with ⟨rfl, a, cap, rfl⟩ | ⟨b, o, cap, rfl, hA⟩
  · clear hl
    go_enter Tryz.func18, Tryz.ntmps18
    go_wp2
    go_loopw [3] (fun i wr => i = .int .i64 0 ∧ Q w wr) (fun _ _ => 0)
    case atStart => exact ⟨rfl, Below.refl _ _⟩
    case round =>
      obtain ⟨rfl, hQ⟩ := hrel
      go_wp2
      go_ret
      exact ⟨rfl, hQ⟩
  · clear hl
    have HA := Lib.hid hA
    clear hA
    go_enter Tryz.func18, Tryz.ntmps18
    go_wp2
    go_loopw [3] (fun i wr => ∃ k : Nat, k ≤ l.length ∧ i = .int .i64 k ∧ Q w wr ∧ Hid (scheck l [] = scheck (l.drop k) ((l.take k).map Sz.k))) (fun i _ => l.length - (intOf i).toNat)
    case atStart => exact ⟨0, by omega, rfl, Below.refl _ _, Lib.hid rfl⟩
    case round =>
      obtain ⟨k, hk, rfl, hQ, HE0⟩ := hrel
      by_cases hlt : k < l.length
      · have HE := Lib.hid HE0.out
        clear HE0
        have HE1 : Hid (scheck l [] = scheck (l.getD k ⟨0, 0, 0⟩ :: l.drop (k + 1)) ((l.take k).map Sz.k)) := Lib.hid (by rw [HE.out, drop_getD hlt])
        clear HE
        have HA2 := Lib.hid (HA.out.keep hQ HA.out.1)
        obtain ⟨d0, d1, d2⟩ := HA2.out.2 k hlt
        have hk0 : (0 : Int) ≤ (k : Int) := by omega
        have hkl : (k : Int) < (l.length : Int) := by omega
        have HS : Hid (scheck (l.drop (k + 1)) ((l.getD k ⟨0, 0, 0⟩).k :: (l.take k).map Sz.k) = scheck (l.drop (k + 1)) ((l.take (k + 1)).map Sz.k)) := Lib.hid (scheck_step hlt)
        generalize hsd : l.getD k ⟨0, 0, 0⟩ = s at d0 d1 d2 HE1 HS
        have HSD := Lib.hid hsd
        clear hsd
        by_cases g1 : s.k < 1
        · have HX : Hid (scheck l [] = 8) := Lib.hid (by rw [HE1.out, scheck, if_pos (Or.inl g1)])
          clear HE1 HS
          go_wp2
          go_ret
          exact ⟨ret_int HX.out.symm, hQ⟩
        · by_cases g2 : 13 ≤ s.k
          · have HX : Hid (scheck l [] = 8) := Lib.hid (by rw [HE1.out, scheck, if_pos (Or.inr g2)])
            clear HE1 HS
            go_wp2
            go_ret
            exact ⟨ret_int HX.out.symm, hQ⟩
          · have g12 : ¬ (s.k < 1 ∨ 13 ≤ s.k) := by omega
            by_cases g3 : 1 ≤ s.w ∧ s.w ≤ 1000
            · obtain ⟨g3a, g3b⟩ := g3
              by_cases g4 : 1 ≤ s.d ∧ s.d ≤ 1000
              · obtain ⟨g4a, g4b⟩ := g4
                have g34 : ¬ (min s.w s.d < 1 ∨ 1000 < max s.w s.d) := by omega
                have HO : Hid (scheck l [] = if s.k ∈ (l.take k).map Sz.k then 7 else scheck (l.drop (k + 1)) ((l.take (k + 1)).map Sz.k)) := Lib.hid (by rw [HE1.out, scheck, if_neg g12, if_neg g34, HS.out])
                clear HE1 HS g12 g34
                have HW1 := Lib.hid (within_yes s.w g3a g3b)
                have HW2 := Lib.hid (within_yes s.d g4a g4b)
                clear g3a g3b g4a g4b
                go_wp2_with fail
                refine (HW1.out _).mono ?_
                rintro e w1 ⟨rfl, rfl⟩
                go_wp2_with fail
                refine (HW2.out _).mono ?_
                rintro e w1 ⟨rfl, rfl⟩
                go_wp2
                go_loopw [4] (fun jj wr2 => ∃ j : Nat, j ≤ k ∧ jj = .int .i64 j ∧ Q w wr2 ∧ Hid (∀ i, i < j → (l.getD i ⟨0, 0, 0⟩).k ≠ s.k)) (fun jj _ => k - (intOf jj).toNat)
                case atStart => exact ⟨0, by omega, rfl, hQ, Lib.hid (fun i hi => absurd hi (Nat.not_lt_zero _))⟩
                case round =>
                  obtain ⟨j, hj, rfl, hQ2, HN0⟩ := hrel
                  have HN := Lib.hid HN0.out
                  clear HN0
                  by_cases hjk : j < k
                  · have HA3 := Lib.hid (HA.out.keep hQ2 HA.out.1)
                    obtain ⟨e0, e1, e2⟩ := HA3.out.2 j (by omega)
                    obtain ⟨f0, f1, f2⟩ := HA3.out.2 k hlt
                    rw [HSD.out] at f0 f1 f2
                    have hj0 : (0 : Int) ≤ (j : Int) := by omega
                    have hjl : (j : Int) < (l.length : Int) := by omega
                    by_cases heq : (l.getD j ⟨0, 0, 0⟩).k = s.k
                    · have HX : Hid (scheck l [] = 7) := Lib.hid (by rw [HO.out, if_pos (by rw [← heq]; exact mem_take_map hjk (by omega))])
                      rw [heq] at e0
                      clear heq HO
                      go_wp2
                      go_quiet (fail)
                      go_wp2
                      go_ret
                      exact ⟨ret_int HX.out.symm, (by repeat (first | exact Below.refl _ _ | assumption | refine below_drewN ?_ _ | refine Below.drew ?_ | refine Below.alloc ?_ (by first | (simp; done) | (simp; omega)) _ | refine Below.setCell ?_ (by first | (simp; done) | (simp; omega)) _))⟩
                    · have HNe : Hid (∀ i, i < j + 1 → (l.getD i ⟨0, 0, 0⟩).k ≠ s.k) := Lib.hid (fun i hi => by
                        by_cases hij : i = j
                        · subst hij; exact heq
                        · exact HN.out i (by omega))
                      have hb : ((l.getD j ⟨0, 0, 0⟩).k == s.k) = false := by rw [beq_eq_false_iff_ne]; exact heq
                      clear heq
                      generalize (l.getD j ⟨0, 0, 0⟩).k = jk at e0 hb
                      go_wp2
                      go_quiet (fail)
                      go_wp2
                      go_roundw
                      case rel => exact ⟨j + 1, by omega, by go_num, (by repeat (first | exact Below.refl _ _ | assumption | refine below_drewN ?_ _ | refine Below.drew ?_ | refine Below.alloc ?_ (by first | (simp; done) | (simp; omega)) _ | refine Below.setCell ?_ (by first | (simp; done) | (simp; omega)) _)), HNe⟩
                      case measure => simp [intOf]; omega
                  · obtain rfl : j = k := by omega
                    have HX : Hid (scheck l [] = scheck (l.drop (j + 1)) ((l.take (j + 1)).map Sz.k)) := Lib.hid (by rw [HO.out, if_neg (not_mem_take_map HN.out)])
                    clear HO
                    go_wp2
                    go_roundw
                    case rel => exact ⟨j + 1, by omega, by go_num, hQ2, HX⟩
                    case measure => simp [intOf]; omega
              · have HX : Hid (scheck l [] = 2) := Lib.hid (by rw [HE1.out, scheck, if_neg g12, if_pos (by omega)])
                have HW1 := Lib.hid (within_yes s.w g3a g3b)
                have HW2 := Lib.hid (within_no s.d g4)
                clear HE1 HS g12 g4 g3a g3b
                go_wp2_with fail
                refine (HW1.out _).mono ?_
                rintro e w1 ⟨rfl, rfl⟩
                go_wp2_with fail
                refine (HW2.out _).mono ?_
                rintro e w1 ⟨rfl, rfl⟩
                go_wp2
                go_ret
                exact ⟨ret_int HX.out.symm, hQ⟩
            · have HX : Hid (scheck l [] = 2) := Lib.hid (by rw [HE1.out, scheck, if_neg g12, if_pos (by omega)])
              have HW1 := Lib.hid (within_no s.w g3)
              clear HE1 HS g12 g3
              go_wp2_with fail
              refine (HW1.out _).mono ?_
              rintro e w1 ⟨rfl, rfl⟩
              go_wp2
              go_ret
              exact ⟨ret_int HX.out.symm, hQ⟩
      · obtain rfl : k = l.length := by omega
        have HX : Hid (scheck l [] = 0) := Lib.hid (by rw [HE0.out, List.drop_length]; rfl)
        clear HE0
        go_wp2
        go_ret
        exact ⟨ret_int HX.out.symm, hQ⟩

end Go.Proofs.YtgkikkabmcihhaaGreatDoor
