/-
  The law TimberTexts: its walk.
-/
import Derived.Test.YtgkikkabmcihhaaGreatDoorWZb
import Derived.Test.YtgkikkabmcihhaaGreatDoorWX
namespace Go.Proofs.YtgkikkabmcihhaaGreatDoor
open Go.RowKit Kp

theorem neqSz (s : Sz) (w : World) : (binOp .neq 35 (szV s) (szV s)).run Tryz.prog w = .ok (.bool false) w := by
  have h := eqSz s s w
  rw [decide_eq_true (rfl : s = s)] at h
  unfold szV at *
  rw [run_eql_struct] at h
  rw [run_neq_struct]
  cases hx : (Op.equalIn 10000 35 (.agg #[.int .i64 s.k, .int .i64 s.w, .int .i64 s.d]) (.agg #[.int .i64 s.k, .int .i64 s.w, .int .i64 s.d])).run Tryz.prog w with
  | ok b w1 =>
    rw [hx] at h
    simp only [Result.andThen_ok, Result.ok.injEq, Value.bool.injEq] at h
    obtain ⟨rfl, rfl⟩ := h
    rfl
  | halt a b => rw [hx] at h; cases h

set_option maxHeartbeats 1000000 in
theorem equal_size (l : List Sz) (hln : l.length < 4611686018427387904) (v1 v2 : Value) (w : World) (h1 : SzSl w v1 l) (h2 : SzSl w v2 l) :
    Calls Tryz.prog 26 #[v1, v2] w fun e w' => e = .returned (.bool true) ∧ Q w w' := by
  rcases h1.cases with ⟨rfl, a, cap, rfl⟩ | ⟨b, o, cap, rfl, hA⟩
  · obtain ⟨a2, cap2, rfl, -⟩ := h2
    clear h1
    go_enter Tryz.func26, Tryz.ntmps26
    go_wp2
    go_loopw [13] (fun i wr => i = .int .i64 0 ∧ Q w wr) (fun _ _ => 0)
    case atStart => exact ⟨rfl, Below.refl _ _⟩
    case round =>
      obtain ⟨rfl, hQ⟩ := hrel
      go_wp2
      go_ret
      exact ⟨rfl, hQ⟩
  · rcases h2.cases with ⟨rfl, a2, cap2, rfl⟩ | ⟨b2, o2, cap2, rfl, hB⟩
    · clear h1 h2 hA
      go_enter Tryz.func26, Tryz.ntmps26
      go_wp2
      go_loopw [13] (fun i wr => i = .int .i64 0 ∧ Q w wr) (fun _ _ => 0)
      case atStart => exact ⟨rfl, Below.refl _ _⟩
      case round =>
        obtain ⟨rfl, hQ⟩ := hrel
        go_wp2
        go_ret
        exact ⟨rfl, hQ⟩
    · clear h1 h2
      have HA := Lib.hid hA
      have HB := Lib.hid hB
      clear hA hB
      go_enter Tryz.func26, Tryz.ntmps26
      go_wp2
      go_loopw [13] (fun i wr => ∃ k : Nat, k ≤ l.length ∧ i = .int .i64 k ∧ Q w wr) (fun i _ => l.length - (intOf i).toNat)
      case atStart => exact ⟨0, by omega, rfl, Below.refl _ _⟩
      case round =>
        obtain ⟨k, hk, rfl, hQ⟩ := hrel
        by_cases hlt : k < l.length
        · have HA2 := Lib.hid (HA.out.keep hQ HA.out.1)
          have HB2 := Lib.hid (HB.out.keep hQ HB.out.1)
          obtain ⟨d0, d1, d2⟩ := HA2.out.2 k hlt
          obtain ⟨e0, e1, e2⟩ := HB2.out.2 k hlt
          have hk0 : (0 : Int) ≤ (k : Int) := by omega
          have hkl : (k : Int) < (l.length : Int) := by omega
          have R := neqSz (l.getD k ⟨0, 0, 0⟩)
          unfold szV at R
          generalize l.getD k ⟨0, 0, 0⟩ = s at d0 d1 d2 e0 e1 e2 R
          go_wp2
          go_quiet (fail)
          go_wp2
          go_roundw
          case rel => exact ⟨k + 1, by omega, by go_num, (by repeat (first | exact Below.refl _ _ | assumption | refine below_drewN ?_ _ | refine Below.drew ?_ | refine Below.alloc ?_ (by first | (simp; done) | (simp; omega)) _ | refine Below.setCell ?_ (by first | (simp; done) | (simp; omega)) _))⟩
          case measure => simp [intOf]; omega
        · obtain rfl : k = l.length := by omega
          go_wp2
          go_ret
          exact ⟨rfl, hQ⟩

theorem lib_Count10 (s : Str) (w : World) : Calls Tryz.prog 27 #[.string ⟨s.toArray⟩, .string ⟨#[10]⟩] w fun e w' => e = .returned (.int .i64 (s.count 10 : Nat)) ∧ w = w' := by
  refine (Tryz.strings_Count_one ⟨s.toArray⟩ 10 w).mono ?_
  rintro e w' ⟨rfl, rfl⟩
  exact ⟨rfl, rfl⟩

theorem len_le_sprint : ∀ (l : List Sz), l.length ≤ (sprint l).length
  | [] => by simp
  | s :: l => by
    have := len_le_sprint l
    rw [sprint_cons, List.length_append, List.length_cons, List.length_cons]; omega

set_option maxRecDepth 100000 in
set_option maxHeartbeats 4000000 in
theorem texts_walk (l : List Sz) (hln : l.length < 4611686018427387904) (s : Str) (hsl : s.length ≤ 9223372036854775807) (v : Value) (w : World) (hE : Env w) (hl : SzSl w v l) :
    Calls Tryz.prog 6 #[v, .string ⟨s.toArray⟩] w fun e w' => e = .returned (.bool true) ∧ Q w w' := by
  have HG := ref36_Great l v w hl hln
  by_cases h16 : 16 < l.length
  · rw [decide_eq_true h16] at HG
    have HG := Lib.hid HG
    clear h16
    obtain ⟨a, cap, rfl, -⟩ := hl
    go_enter Tryz.func6, Tryz.ntmps6
    go_wp2_with fail
    refine HG.out.mono ?_
    rintro e w1 ⟨rfl, rfl⟩
    go_wp2_with fail
    refine (awake_any _ hE).mono ?_
    rintro e w1 ⟨rfl, hq1⟩
    go_wp2
    go_ret
    exact ⟨rfl, hq1⟩
  · rw [decide_eq_false h16] at HG
    have HG := Lib.hid HG
    have HL := Lib.hid hl
    by_cases h200 : 200 < s.length
    · have hd : decide ((200 : Int) < (s.length : Int)) = true := by simp; omega
      obtain ⟨a, cap, rfl, -⟩ := hl
      go_enter Tryz.func6, Tryz.ntmps6
      go_wp2_with fail
      refine HG.out.mono ?_
      rintro e w1 ⟨rfl, rfl⟩
      go_wp2_with fail
      refine (awake_any _ hE).mono ?_
      rintro e w1 ⟨rfl, hq1⟩
      go_wp2
      go_ret
      exact ⟨rfl, hq1⟩
    · have hd : decide ((200 : Int) < (s.length : Int)) = false := by simp; omega
      have HP := Lib.hid (timber_Parse s (by omega))
      clear hl
      go_enter Tryz.func6, Tryz.ntmps6
      go_wp2_with fail
      refine HG.out.mono ?_
      rintro e w1 ⟨rfl, rfl⟩
      go_wp2_with fail
      refine (HP.out _ hE).mono ?_
      rintro e w1 ⟨v1, er, rfl, HR1, hq1⟩
      rcases HR1.out with ⟨hn, rfl, rfl⟩ | ⟨m, hm, hr⟩
      · clear hn HR1
        have hQa := hq1
        clear hq1
        have HLa := Lib.hid (HL.out.keep hQa)
        by_cases hsc : scheck l [] = 0
        · have hall := ((scheck_zero l []).1 hsc).1
          have HPl := Lib.hid (timber_Print l (by omega) v _ (hE.q hQa) HLa.out hsc)
          have hlen2 : (sprint l).length ≤ 60000 := by have := sprint_len0 l hall; omega
          have HPa := Lib.hid (timber_Parse (sprint l) hlen2)
          have HR : Hid (∀ v' er W, ParseRes (sprint l) v' er W → er = 0 ∧ SzSl W v' l) := Lib.hid (fun v' er W h => by
            rcases h with ⟨h, _⟩ | ⟨m, hm, h⟩
            · rw [parse_print l hall] at h; cases h
            · rw [parse_print l hall] at hm; injection hm with hm; subst hm
              rcases h with ⟨h, _⟩ | ⟨_, h1, h2⟩
              · exact absurd hsc h
              · exact ⟨h1, h2⟩)
          have HCt : Hid (((sprint l).count 10 : Nat) = l.length) := Lib.hid (count_print l hall)
          have HCn := Lib.hid (lib_Count10 (sprint l))
          clear hsc hall hlen2
          generalize sprint l = t at *
          obtain ⟨a, cap, rfl, -⟩ := HLa.out
          go_wp2_with fail
          refine HPl.out.mono ?_
          rintro e wb ⟨rfl, hqb⟩
          have hQb := hQa.trans (hqb.mono hQa.size)
          clear hqb
          go_wp2_with fail
          refine (HPa.out _ (hE.q hQb)).mono ?_
          rintro e wc ⟨vc, er, rfl, HRc, hqc⟩
          obtain ⟨rfl, hslc⟩ := HR.out _ _ _ HRc.out
          have hQc := hQb.trans (hqc.mono hQb.size)
          clear hqc HRc
          go_wp2_with fail
          refine (equal_size l hln vc _ _ hslc (HL.out.keep hQc)).mono ?_
          rintro e wd ⟨rfl, hqd⟩
          have hQd := hQc.trans (hqd.mono hQc.size)
          clear hqd hslc
          go_wp2_with fail
          refine (HCn.out _).mono ?_
          rintro e we ⟨rfl, rfl⟩
          rw [HCt.out]
          go_wp2_with fail
          refine (awake_any _ (hE.q hQd)).mono ?_
          rintro e wf ⟨rfl, hqf⟩
          go_wp2
          go_ret
          exact ⟨rfl, hQd.trans (hqf.mono hQd.size)⟩
        · have HPb := Lib.hid (timber_Print_bad l hln v _ HLa.out hsc)
          clear hsc
          obtain ⟨a, cap, rfl, -⟩ := HLa.out
          go_wp2_with fail
          refine HPb.out.mono ?_
          rintro e wb ⟨rfl, hqb⟩
          have hQb := hQa.trans (hqb.mono hQa.size)
          go_wp2_with fail
          refine (awake_any _ (hE.q hQb)).mono ?_
          rintro e wf ⟨rfl, hqf⟩
          go_wp2
          go_ret
          exact ⟨rfl, hQb.trans (hqf.mono hQb.size)⟩
      · rcases hr with ⟨hsc1, rfl, rfl⟩ | ⟨hsc1, rfl, hslm⟩
        · have hb0 : (scheck m [] == 0) = false := by rw [beq_eq_false_iff_ne]; exact hsc1
          clear HR1 hm hsc1
          generalize scheck m [] = x at *
          have hQa := hq1
          clear hq1
          have HLa := Lib.hid (HL.out.keep hQa)
          by_cases hsc : scheck l [] = 0
          · have hall := ((scheck_zero l []).1 hsc).1
            have HPl := Lib.hid (timber_Print l (by omega) v _ (hE.q hQa) HLa.out hsc)
            have hlen2 : (sprint l).length ≤ 60000 := by have := sprint_len0 l hall; omega
            have HPa := Lib.hid (timber_Parse (sprint l) hlen2)
            have HR : Hid (∀ v' er W, ParseRes (sprint l) v' er W → er = 0 ∧ SzSl W v' l) := Lib.hid (fun v' er W h => by
              rcases h with ⟨h, _⟩ | ⟨m, hm, h⟩
              · rw [parse_print l hall] at h; cases h
              · rw [parse_print l hall] at hm; injection hm with hm; subst hm
                rcases h with ⟨h, _⟩ | ⟨_, h1, h2⟩
                · exact absurd hsc h
                · exact ⟨h1, h2⟩)
            have HCt : Hid (((sprint l).count 10 : Nat) = l.length) := Lib.hid (count_print l hall)
            have HCn := Lib.hid (lib_Count10 (sprint l))
            clear hsc hall hlen2
            generalize sprint l = t at *
            obtain ⟨a, cap, rfl, -⟩ := HLa.out
            go_wp2_with fail
            refine HPl.out.mono ?_
            rintro e wb ⟨rfl, hqb⟩
            have hQb := hQa.trans (hqb.mono hQa.size)
            clear hqb
            go_wp2_with fail
            refine (HPa.out _ (hE.q hQb)).mono ?_
            rintro e wc ⟨vc, er, rfl, HRc, hqc⟩
            obtain ⟨rfl, hslc⟩ := HR.out _ _ _ HRc.out
            have hQc := hQb.trans (hqc.mono hQb.size)
            clear hqc HRc
            go_wp2_with fail
            refine (equal_size l hln vc _ _ hslc (HL.out.keep hQc)).mono ?_
            rintro e wd ⟨rfl, hqd⟩
            have hQd := hQc.trans (hqd.mono hQc.size)
            clear hqd hslc
            go_wp2_with fail
            refine (HCn.out _).mono ?_
            rintro e we ⟨rfl, rfl⟩
            rw [HCt.out]
            go_wp2_with fail
            refine (awake_any _ (hE.q hQd)).mono ?_
            rintro e wf ⟨rfl, hqf⟩
            go_wp2
            go_ret
            exact ⟨rfl, hQd.trans (hqf.mono hQd.size)⟩
          · have HPb := Lib.hid (timber_Print_bad l hln v _ HLa.out hsc)
            clear hsc
            obtain ⟨a, cap, rfl, -⟩ := HLa.out
            go_wp2_with fail
            refine HPb.out.mono ?_
            rintro e wb ⟨rfl, hqb⟩
            have hQb := hQa.trans (hqb.mono hQa.size)
            go_wp2_with fail
            refine (awake_any _ (hE.q hQb)).mono ?_
            rintro e wf ⟨rfl, hqf⟩
            go_wp2
            go_ret
            exact ⟨rfl, hQb.trans (hqf.mono hQb.size)⟩
        · have hpm := print_parse s.length s m (Nat.le_refl _) hm
          have hml : m.length < 1000 := by have := len_le_sprint m; rw [hpm] at this; omega
          have HPm := timber_Print m hml v1 _ (hE.q hq1) hslm hsc1
          rw [hpm] at HPm
          have HPm := Lib.hid HPm
          have hss : (s == s) = true := by simp
          clear HR1 hm hsc1 hpm hml hslm
          go_wp2_with fail
          refine HPm.out.mono ?_
          rintro e w2 ⟨rfl, hq2⟩
          have hQa := hq1.trans (hq2.mono hq1.size)
          clear hq1 hq2
          have HLa := Lib.hid (HL.out.keep hQa)
          by_cases hsc : scheck l [] = 0
          · have hall := ((scheck_zero l []).1 hsc).1
            have HPl := Lib.hid (timber_Print l (by omega) v _ (hE.q hQa) HLa.out hsc)
            have hlen2 : (sprint l).length ≤ 60000 := by have := sprint_len0 l hall; omega
            have HPa := Lib.hid (timber_Parse (sprint l) hlen2)
            have HR : Hid (∀ v' er W, ParseRes (sprint l) v' er W → er = 0 ∧ SzSl W v' l) := Lib.hid (fun v' er W h => by
              rcases h with ⟨h, _⟩ | ⟨m, hm, h⟩
              · rw [parse_print l hall] at h; cases h
              · rw [parse_print l hall] at hm; injection hm with hm; subst hm
                rcases h with ⟨h, _⟩ | ⟨_, h1, h2⟩
                · exact absurd hsc h
                · exact ⟨h1, h2⟩)
            have HCt : Hid (((sprint l).count 10 : Nat) = l.length) := Lib.hid (count_print l hall)
            have HCn := Lib.hid (lib_Count10 (sprint l))
            clear hsc hall hlen2
            generalize sprint l = t at *
            obtain ⟨a, cap, rfl, -⟩ := HLa.out
            go_wp2_with fail
            refine HPl.out.mono ?_
            rintro e wb ⟨rfl, hqb⟩
            have hQb := hQa.trans (hqb.mono hQa.size)
            clear hqb
            go_wp2_with fail
            refine (HPa.out _ (hE.q hQb)).mono ?_
            rintro e wc ⟨vc, er, rfl, HRc, hqc⟩
            obtain ⟨rfl, hslc⟩ := HR.out _ _ _ HRc.out
            have hQc := hQb.trans (hqc.mono hQb.size)
            clear hqc HRc
            go_wp2_with fail
            refine (equal_size l hln vc _ _ hslc (HL.out.keep hQc)).mono ?_
            rintro e wd ⟨rfl, hqd⟩
            have hQd := hQc.trans (hqd.mono hQc.size)
            clear hqd hslc
            go_wp2_with fail
            refine (HCn.out _).mono ?_
            rintro e we ⟨rfl, rfl⟩
            rw [HCt.out]
            go_wp2_with fail
            refine (awake_any _ (hE.q hQd)).mono ?_
            rintro e wf ⟨rfl, hqf⟩
            go_wp2
            go_ret
            exact ⟨rfl, hQd.trans (hqf.mono hQd.size)⟩
          · have HPb := Lib.hid (timber_Print_bad l hln v _ HLa.out hsc)
            clear hsc
            obtain ⟨a, cap, rfl, -⟩ := HLa.out
            go_wp2_with fail
            refine HPb.out.mono ?_
            rintro e wb ⟨rfl, hqb⟩
            have hQb := hQa.trans (hqb.mono hQa.size)
            go_wp2_with fail
            refine (awake_any _ (hE.q hQb)).mono ?_
            rintro e wf ⟨rfl, hqf⟩
            go_wp2
            go_ret
            exact ⟨rfl, hQb.trans (hqf.mono hQb.size)⟩

end Go.Proofs.YtgkikkabmcihhaaGreatDoor
