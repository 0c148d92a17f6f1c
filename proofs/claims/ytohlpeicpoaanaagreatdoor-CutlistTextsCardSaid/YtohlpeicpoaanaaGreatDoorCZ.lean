/-
  The law CutlistTexts: its walk.
-/
import Derived.Test.YtohlpeicpoaanaaGreatDoorCY
import Derived.Test.YtohlpeicpoaanaaGreatDoorCSup
namespace Go.Proofs.YtohlpeicpoaanaaGreatDoor
open Go.RowKit Kp Go.Sort

set_option maxRecDepth 100000 in
set_option maxHeartbeats 8000000 in
theorem ctexts_law (l : List Ct) (hn : l.length < 4611686018427387904) (s : Str) (hsl : s.length ≤ 9223372036854775807) (v : Value) (w : World) (hE : Env w) (hv : CtSl w v l) :
    Calls Tryz.prog 4 #[v, .string ⟨s.toArray⟩] w fun e w' => e = .returned (.bool true) ∧ Q w w' := by
  have HV : Hid (∀ W, Q w W → CtSl W v l) := Lib.hid (fun W hq => hv.keep hq)
  have HA := Lib.hid (fun w hw => awake42 w hw)
  have HG := Lib.hid (ref_Great l hn v w hv)
  obtain ⟨a, cap, rfl, -⟩ := hv
  go_enter Tryz.func4, Tryz.ntmps4
  go_wp2_with fail
  refine HG.out.mono ?_
  rintro e w1 ⟨g, rfl, hg, rfl⟩
  clear HG
  cases g
  · obtain ⟨hl12, hm12⟩ := hg.out rfl
    have HCk := Lib.hid (ref_Check l (by omega) (fun x hx => by have := hm12 x hx; omega) (.slice a l.length cap) w (HV.out w (Q.refl w)))
    clear hg
    by_cases hc : chkF l = 0
    · have hG := (good_iff l).1 hc
      rw [hc] at HCk
      by_cases hs : 100 < s.length
      · have hz : (100 : Int) < s.length := by omega
        clear hm12 hc hG HV hs
        go_wp2_with fail
        refine HCk.out.mono ?_
        rintro e w1 ⟨rfl, hq1⟩
        clear HCk
        go_wp2_with fail
        refine (HA.out _ (hE.q hq1)).mono ?_
        rintro e w2 ⟨rfl, hq2⟩
        have hQ2 := Q.trans hq1 hq2
        go_wp2
        go_ret
        exact ⟨rfl, hQ2⟩
      · have hz : ¬ (100 : Int) < s.length := by omega
        have htl : (textF l).length ≤ 60000 := by
          have := textF_len l hG.txt
          omega
        have HPr := Lib.hid (fun W (hq : Q w W) => cut_Print l hG (.slice a l.length cap) W (hE.q hq) (HV.out W hq))
        have HPa := Lib.hid (cut_Parse (textF l) htl)
        have HRes : Hid (∀ v er W, ParseC (textF l) v er W → er = 0 ∧ CtSl W v l) := Lib.hid (fun v er W h => by
          rcases h with ⟨-, -, h⟩ | ⟨h, L, hL, hv⟩
          · exact absurd (shows_text hG) (h l)
          · rw [hL.one (shows_text hG)] at hv; exact ⟨h, hv⟩)
        have HSm := Lib.hid (fun v1 v2 w h1 h2 => ref_Same l (by omega) (fun x hx => by have := hm12 x hx; omega) v1 v2 w h1 h2)
        have HPs := Lib.hid (cut_Parse s (by omega))
        clear hm12 hc hG hs htl
        generalize textF l = t at *
        go_wp2_with fail
        refine HCk.out.mono ?_
        rintro e w1 ⟨rfl, hq1⟩
        clear HCk
        go_wp2_with fail
        refine (HPr.out _ hq1).mono ?_
        rintro e w2 ⟨rfl, hq2⟩
        have hQ2 := Q.trans hq1 hq2
        clear HPr
        go_wp2_with fail
        refine (HPa.out _ (hE.q hQ2)).mono ?_
        rintro e w3 ⟨v1, er, rfl, hR, hq3⟩
        obtain ⟨rfl, hv1⟩ := HRes.out _ _ _ hR.out
        have hQ3 := Q.trans hQ2 hq3
        obtain ⟨a1, c1, rfl, -⟩ := id hv1
        clear HPa HRes hR hq1 hq2 hq3 hQ2
        go_wp2_with fail
        refine (HSm.out _ _ _ hv1 (HV.out _ hQ3)).mono ?_
        rintro e w4 ⟨rfl, hq4⟩
        have hQ4 := Q.trans hQ3 hq4
        clear HSm hv1 hq4 hQ3 HV
        go_wp2_with fail
        refine (HPs.out _ (hE.q hQ4)).mono ?_
        rintro e w5 ⟨v2, er, rfl, hR, hq5⟩
        have hQ5 := Q.trans hQ4 hq5
        clear HPs hq5 hQ4
        rcases hR.out with ⟨rfl, rfl, -⟩ | ⟨rfl, L, hL, hv2⟩
        · clear hR
          go_wp2_with fail
          refine (HA.out _ (hE.q hQ5)).mono ?_
          rintro e w6 ⟨rfl, hq6⟩
          have hQ6 := Q.trans hQ5 hq6
          go_wp2
          go_ret
          exact ⟨rfl, hQ6⟩
        · have HPr := Lib.hid (cut_Print L hL.2.1 v2 w5 (hE.q hQ5) hv2)
          rw [hL.2.2] at HPr
          clear hR hL hv2
          go_wp2_with fail
          refine HPr.out.mono ?_
          rintro e w6 ⟨rfl, hq6⟩
          have hQ6 := Q.trans hQ5 hq6
          clear HPr hq6 hQ5
          go_wp2_with fail
          refine (HA.out _ (hE.q hQ6)).mono ?_
          rintro e w7 ⟨rfl, hq7⟩
          have hQ7 := Q.trans hQ6 hq7
          go_wp2
          go_ret
          exact ⟨rfl, hQ7⟩
    · have hb : (chkF l != 0) = true := by rw [bne_iff_ne]; exact hc
      clear hm12
      generalize chkF l = c at *
      go_wp2_with fail
      refine HCk.out.mono ?_
      rintro e w1 ⟨rfl, hq1⟩
      go_wp2_with fail
      refine (HA.out _ (hE.q hq1)).mono ?_
      rintro e w2 ⟨rfl, hq2⟩
      have hQ2 := Q.trans hq1 hq2
      go_wp2
      go_ret
      exact ⟨rfl, hQ2⟩
  · clear hg
    go_wp2_with fail
    refine (HA.out _ hE).mono ?_
    rintro e w2 ⟨rfl, hq2⟩
    go_wp2
    go_ret
    exact ⟨rfl, hq2⟩

end Go.Proofs.YtohlpeicpoaanaaGreatDoor
