/-
  The law TimberFinds: its walk.
-/
import Derived.Test.YtgkikkabmcihhaaGreatDoorWV
import Derived.Test.YtgkikkabmcihhaaGreatDoorWX
namespace Go.Proofs.YtgkikkabmcihhaaGreatDoor
open Go.RowKit Kp

set_option maxRecDepth 100000 in
set_option maxHeartbeats 2000000 in
theorem finds_walk (l : List Sz) (hln : l.length < 4611686018427387904) (v : Value) (w : World) (hE : Env w) (hl : SzSl w v l) :
    Calls Tryz.prog 4 #[v] w fun e w' => e = .returned (.bool true) ∧ Q w w' := by
  have HG := ref36_Great l v w hl hln
  by_cases h16 : 16 < l.length
  · rw [decide_eq_true h16] at HG
    have HG := Lib.hid HG
    clear h16
    obtain ⟨a, cap, rfl, -⟩ := hl
    go_enter Tryz.func4, Tryz.ntmps4
    go_wp2_with fail
    refine HG.out.mono ?_
    rintro e w1 ⟨rfl, rfl⟩
    go_wp2_with fail
    refine (awake_any _ hE).mono ?_
    rintro e w1 ⟨rfl, hq1⟩
    go_wp2
    go_ret
    exact ⟨rfl, hq1⟩
  · rw [decide_eq_false h16] at HG
    have HC := ref36_Check l hln v w hl
    by_cases hs : scheck l [] = 0
    · obtain ⟨hall, hnd, -⟩ := (scheck_zero l []).1 hs
      rw [hs] at HC
      have HG := Lib.hid HG
      have HC := Lib.hid HC
      have HS := Lib.hid hs
      have HA := Lib.hid hall
      have HN := Lib.hid hnd
      have HL := Lib.hid hl
      obtain ⟨a, cap, rfl, -⟩ := hl
      clear hs hall hnd
      go_enter Tryz.func4, Tryz.ntmps4
      go_wp2_with fail
      refine HG.out.mono ?_
      rintro e w1 ⟨rfl, rfl⟩
      go_wp2_with fail
      refine HC.out.mono ?_
      rintro e w1 ⟨rfl, hq1⟩
      go_wp2
      go_loopw [3, 4] (fun f i wr => ∃ m : Int, -1 ≤ m ∧ m ≤ 14 ∧ i = .int .i64 m ∧ f = .int .i64 (cntBelow l m : Nat) ∧ Q w wr) (fun _ i _ => (14 - intOf i).toNat)
      case atStart => exact ⟨-1, by omega, by omega, rfl, by rw [cnt_start HA.out]; rfl, hq1⟩
      case round =>
        obtain ⟨m, hm1, hm2, rfl, rfl, hQ⟩ := hrel
        have hcl : cntBelow l m ≤ l.length := List.length_filter_le _ _
        by_cases hlt : m ≤ 13
        · cases hf : sfind l m with
          | none =>
            have HF := timber_Find l hln m (.slice a l.length cap) wr (HL.out.keep hQ)
            have e1 : fsz l m = ⟨0, 0, 0⟩ := by unfold fsz; rw [if_pos HS.out, hf]; rfl
            have e2 : ferr l m = 6 := by unfold ferr; rw [if_pos HS.out, hf]; rfl
            have HX : Hid (cntBelow l (m + 1) = cntBelow l m) := Lib.hid (cnt_missed hf)
            rw [e1, e2] at HF
            unfold szV at HF
            have HF := Lib.hid HF
            clear e1 e2 hf
            generalize cntBelow l m = c at *
            go_wp2_with fail
            refine HF.out.mono ?_
            rintro e w2 ⟨rfl, hq2⟩
            have hQ2 := hQ.trans (hq2.mono hQ.size)
            go_wp2
            go_roundw
            case rel => exact ⟨m + 1, by omega, by omega, rfl, by rw [HX.out], hQ2.alloc hQ2.size _⟩
            case measure => simp [intOf]; omega
          | some s =>
            have HF := timber_Find l hln m (.slice a l.length cap) wr (HL.out.keep hQ)
            have e1 : fsz l m = s := by unfold fsz; rw [if_pos HS.out, hf]; rfl
            have e2 : ferr l m = 0 := by unfold ferr; rw [if_pos HS.out, hf]; rfl
            have HX : Hid (cntBelow l (m + 1) = cntBelow l m + 1) := Lib.hid (cnt_found HN.out hf)
            obtain ⟨hmem, hsk⟩ := sfind_some hf
            rw [e1, e2] at HF
            have HF := Lib.hid HF
            have HM := Lib.hid hmem
            clear e1 e2 hf hmem
            generalize cntBelow l m = c at *
            obtain ⟨sk, sw, sd⟩ := s
            obtain rfl : sk = m := hsk
            go_wp2_with fail
            refine HF.out.mono ?_
            rintro e w2 ⟨rfl, hq2⟩
            unfold szV
            have hQ2 := hQ.trans (hq2.mono hQ.size)
            have BT := Blk.new w2 [.int .i64 sk, .int .i64 sw, .int .i64 sd] 35
            have hQ3 : Q w (w2.alloc (.cells [.int .i64 sk, .int .i64 sw, .int .i64 sd].toArray 35)) := hQ2.alloc hQ2.size _
            go_wp2_with fail
            refine (contains_size l hln ⟨sk, sw, sd⟩ HM.out (.slice a l.length cap) _ (HL.out.keep hQ3)).mono ?_
            rintro e w3 ⟨rfl, hq3⟩
            have hQ4 := hQ3.trans (hq3.mono hQ3.size)
            go_wp2
            go_roundw
            case rel => exact ⟨sk + 1, by omega, by omega, rfl, by rw [HX.out]; go_num, hQ4⟩
            case measure => simp [intOf]; omega
        · obtain rfl : m = 14 := by omega
          have HX : Hid (cntBelow l 14 = l.length) := Lib.hid (cnt_all HA.out)
          rw [HX.out]
          clear HX hcl
          go_wp2_with fail
          refine (awake_any _ (hE.q hQ)).mono ?_
          rintro e w2 ⟨rfl, hq2⟩
          go_wp2
          go_ret
          exact ⟨rfl, hQ.trans (hq2.mono hQ.size)⟩
    · have hsb : (scheck l [] != 0) = true := by rw [bne_iff_ne]; exact hs
      have HG := Lib.hid HG
      have HC := Lib.hid HC
      obtain ⟨a, cap, rfl, -⟩ := hl
      clear hs
      generalize scheck l [] = x at *
      go_enter Tryz.func4, Tryz.ntmps4
      go_wp2_with fail
      refine HG.out.mono ?_
      rintro e w1 ⟨rfl, rfl⟩
      go_wp2_with fail
      refine HC.out.mono ?_
      rintro e w1 ⟨rfl, hq1⟩
      go_wp2_with fail
      refine (awake_any _ (hE.q hq1)).mono ?_
      rintro e w2 ⟨rfl, hq2⟩
      go_wp2
      go_ret
      exact ⟨rfl, hq1.trans (hq2.mono hq1.size)⟩

end Go.Proofs.YtgkikkabmcihhaaGreatDoor
