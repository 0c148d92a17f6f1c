/-
  Walks of package cutlist: Print, Parse.
-/
import Derived.Test.YtohlpeicpoaanaaGreatDoorCX
namespace Go.Proofs.YtohlpeicpoaanaaGreatDoor
open Go.RowKit Kp Go.Sort

theorem Good.txt {l : List Ct} (h : Good l) : ∀ x ∈ l, PcOk x ∧ x.ms.length ≤ 512 := fun _ hx => ⟨h.ok hx, (h.ok hx).short⟩

set_option maxHeartbeats 1000000 in
theorem cut_Print (l : List Ct) (hg : Good l) (v : Value) (w : World) (hE : Env w) (hv : CtSl w v l) :
    Calls Tryz.prog 18 #[v] w fun e w' => e = .returned (.tuple #[.string ⟨(textF l).toArray⟩, .int .i64 0]) ∧ Q w w' := by
  have hC := cut_Check l (by have := hg.len; omega) (fun _ hx => by have := (hg.txt _ hx).2; omega) v w hv
  rw [(good_iff l).2 hg] at hC
  have HC := Lib.hid hC
  have HT := Lib.hid (fun W (hq : Q w W) => cut_text l hg.len hg.txt v W (hE.q hq) (hv.keep hq))
  obtain ⟨a, cap, rfl, -⟩ := hv
  clear hC
  go_enter Tryz.func18, Tryz.ntmps18
  go_wp2_with fail
  refine HC.out.mono ?_
  rintro e w1 ⟨rfl, hq1⟩
  go_wp2_with fail
  refine (HT.out _ hq1).mono ?_
  rintro e w2 ⟨rfl, hq2⟩
  have hQ2 := Q.trans hq1 hq2
  go_wp2
  go_ret2
  exact ⟨rfl, hQ2⟩

theorem cut_Cut (c : UInt8) (s : Str) (hs : s.length < 4294967281) (w : World) (hE : Env w) :
    Calls Tryz.prog 39 #[.string ⟨s.toArray⟩, .string ⟨#[c]⟩] w fun e w' => e = .returned (.tuple #[.string ⟨(bef c s).toArray⟩, .string ⟨(aft c s).toArray⟩, .bool (has c s)]) ∧ Q w w' := by
  obtain ⟨m, hm⟩ := hE.maxlen
  refine (Tryz.strings_Cut ⟨s.toArray⟩ ⟨#[c]⟩ m w hs hm).mono ?_
  rintro e w' ⟨rfl, n, rfl⟩
  exact ⟨by simp only [cut_one], Below.drewN (Below.refl _ _) n⟩

theorem infoCutY : (Tryz.prog.info? 42).map (fun i => (i.zero, i.size, i.bytes)) = some (some (.agg #[.int .i64 0, .int .i64 0, .int .i64 0, .slice none 0 0]), 4, 48) := by kernel_rfl
/-- The pieces that a text shows. -/
def Shows (s : Str) (L : List Ct) : Prop := linesV s = some L ∧ Good L ∧ textF L = s
theorem shows_text {l : List Ct} (h : Good l) : Shows (textF l) l := ⟨lines_text l (fun _ hx => h.ok hx), h, rfl⟩
theorem Shows.one {s : Str} {L K : List Ct} (h : Shows s L) (k : Shows s K) : L = K := by
  have := h.1.symm.trans k.1
  injection this
/-- What Parse answers. -/
def ParseC (s : Str) (v : Value) (er : Int) (W : World) : Prop := (er = 3 ∧ v = .slice none 0 0 ∧ ∀ L, ¬ Shows s L) ∨ (er = 0 ∧ ∃ L, Shows s L ∧ CtSl W v L)

set_option maxRecDepth 100000 in
set_option maxHeartbeats 4000000 in
theorem cut_Parse (s : Str) (hs : s.length ≤ 60000) (w : World) (hE : Env w) :
    Calls Tryz.prog 19 #[.string ⟨s.toArray⟩] w fun e w' => ∃ v er, e = .returned (.tuple #[v, .int .i64 er]) ∧ Hid (ParseC s v er w') ∧ Q w w' := by
  obtain ⟨c0, ci, cz0, cz1, cz2⟩ := info_parts infoCutY
  have hl0 : decide ((65536 : Int) < (s.length : Int)) = false := by simp; omega
  go_enter Tryz.func19, Tryz.ntmps19
  go_wp2
  go_loopw [5, 4] (fun sv ov wr => ∃ (rest : Str) (L : List CV) (o : Value), sv = .string ⟨rest.toArray⟩ ∧ o = ov ∧ L.length + rest.length ≤ s.length ∧ Hid (linesV s = (linesV rest).map (L.map (·.1) ++ ·)) ∧ Hid (∀ p ∈ L, NumO wr p ∧ p.1.ms.length ≤ 100000) ∧ wr.ownsRow w.heap.size 42 4 o L.length (rowOf cvC L) ∧ Q w wr) (fun sv _ _ => match sv with | .string b => b.size | _ => 0)
  case atStart => exact ⟨s, [], _, rfl, rfl, by simp, Lib.hid (by cases linesV s <;> rfl), Lib.hid (fun p hp => by cases hp), World.ownsRow_nil _ _ _ _, Q.refl _⟩
  case round =>
    obtain ⟨rest, L, o, rfl, rfl, hlen, HP, HM, hown, hQ⟩ := hrel
    by_cases hr : rest = []
    · subst hr
      have HL : Hid (linesV s = some (L.map (·.1))) := Lib.hid (by rw [HP.out, linesV_nil]; simp)
      have HCt : Hid (CtSl wr o (L.map (·.1))) := Lib.hid (CtSl.of (RowSl.of_row cvC_len hown) (fun p hp => (HM.out p hp).1.num))
      have hLl : (L.map (·.1)).length ≤ 60000 := by rw [List.length_map]; simp only [List.length_nil] at hlen; omega
      have HC := Lib.hid (cut_Check (L.map (·.1)) (by omega) (fun x hx => by
        obtain ⟨p, hp, rfl⟩ := List.mem_map.1 hx
        have := (HM.out p hp).2; omega) o wr HCt.out)
      obtain ⟨oa, oc, rfl⟩ : ∃ a cp, o = .slice a (L.map (·.1)).length cp := by
        rcases hown.2 with ⟨rfl, h0⟩ | ⟨g, cap, cur, rfl, _⟩
        · exact ⟨_, _, by rw [List.length_map, h0]⟩
        · exact ⟨_, _, by rw [List.length_map]⟩
      clear HP HM hown hlen
      generalize L.map (·.1) = K at *
      by_cases hc : chkF K = 0
      · have hG := (good_iff K).1 hc
        have HT := Lib.hid (fun W (hq : Q wr W) => cut_text K hG.len hG.txt (.slice oa K.length oc) W (hE.q (Q.trans hQ hq)) (HCt.out.keep hq))
        rw [hc] at HC
        clear hc
        by_cases ht : textF K = s
        · have HX : Hid (∀ W, Q wr W → ParseC s (.slice oa K.length oc) 0 W) := Lib.hid (fun W hq => .inr ⟨rfl, K, ⟨HL.out, hG, ht⟩, HCt.out.keep hq⟩)
          rw [ht] at HT
          clear hG HL HCt ht
          go_wp2_with fail
          refine HC.out.mono ?_
          rintro e w1 ⟨rfl, hq1⟩
          go_wp2_with fail
          refine (HT.out _ hq1).mono ?_
          rintro e w2 ⟨rfl, hq2⟩
          have hq12 := Q.trans hq1 hq2
          have HX2 := Lib.hid (HX.out _ hq12)
          have hQ2 := Q.trans hQ hq12
          clear HX hq1 hq2 hq12 HC HT
          go_wp2
          go_ret2
          exact ⟨_, _, rfl, HX2, hQ2⟩
        · have HX : Hid (∀ W, ParseC s (.slice none 0 0) 3 W) := Lib.hid (fun W => .inl ⟨rfl, rfl, fun L h => ht (by
            have e := HL.out.symm.trans h.1
            injection e with e
            rw [e]; exact h.2.2)⟩)
          have hne : (textF K == s) = false := by rw [beq_eq_false_iff_ne]; exact ht
          clear hG HL HCt ht
          generalize textF K = T at *
          go_wp2_with fail
          refine HC.out.mono ?_
          rintro e w1 ⟨rfl, hq1⟩
          go_wp2_with fail
          refine (HT.out _ hq1).mono ?_
          rintro e w2 ⟨rfl, hq2⟩
          have hQ2 := Q.trans hQ (Q.trans hq1 hq2)
          clear hq1 hq2 HC HT
          go_wp2
          go_ret2
          exact ⟨_, _, rfl, Lib.hid (HX.out _), hQ2⟩
      · have HX : Hid (∀ W, ParseC s (.slice none 0 0) 3 W) := Lib.hid (fun W => .inl ⟨rfl, rfl, fun L h => hc (by
          have e := HL.out.symm.trans h.1
          injection e with e
          rw [e]; exact (good_iff L).2 h.2.1)⟩)
        have hb : (chkF K != 0) = true := by rw [bne_iff_ne]; exact hc
        clear HL HCt hc
        generalize chkF K = x at *
        go_wp2_with fail
        refine HC.out.mono ?_
        rintro e w1 ⟨rfl, hq1⟩
        have hQ1 := Q.trans hQ hq1
        clear hq1 HC
        go_wp2
        go_ret2
        exact ⟨_, _, rfl, Lib.hid (HX.out _), hQ1⟩
    · have hre : (rest == []) = false := by simpa using hr
      have hre2 : (!(rest == [])) = true := by rw [hre]; rfl
      have lb : (bef 10 rest).length ≤ 60000 := Nat.le_trans (bef_len rest) (by omega)
      have la := aft_len (c := 10) rest
      have HC := Lib.hid (cut_Cut 10 rest (by omega))
      have HS := Lib.hid (cut_line (bef 10 rest) (by omega))
      cases hh : has 10 rest with
      | false =>
        have HX : Hid (∀ W, ParseC s (.slice none 0 0) 3 W) := Lib.hid (fun W => .inl ⟨rfl, rfl, fun L h => by
          have e := h.1
          rw [HP.out, linesV_bad hr (.inl hh)] at e; cases e⟩)
        rw [hh] at HC
        clear HP HM hh lb la hown HS
        generalize bef 10 rest = ln at *
        generalize aft 10 rest = rs at *
        go_wp2_with fail
        refine (HC.out _ (hE.q hQ)).mono ?_
        rintro e w1 ⟨rfl, hq1⟩
        have hQ1 := Q.trans hQ hq1
        clear hq1 HC
        go_wp2
        go_ret2
        exact ⟨_, _, rfl, Lib.hid (HX.out _), hQ1⟩
      | true =>
        have lt := aft_lt rest hh
        rw [hh] at HC
        cases hk : lineV (bef 10 rest) with
        | none =>
          have HX : Hid (∀ W, ParseC s (.slice none 0 0) 3 W) := Lib.hid (fun W => .inl ⟨rfl, rfl, fun L h => by
            have e := h.1
            rw [HP.out, linesV_bad hr (.inr hk)] at e; cases e⟩)
          have HN := Lib.hid hk
          clear HP HM hh lb la hown hk
          generalize bef 10 rest = ln at *
          generalize aft 10 rest = rs at *
          go_wp2_with fail
          refine (HC.out _ (hE.q hQ)).mono ?_
          rintro e w1 ⟨rfl, hq1⟩
          have hQ1 := Q.trans hQ hq1
          clear hq1 HC
          go_wp2_with fail
          refine (HS.out _ (hE.q hQ1)).mono ?_
          rintro e w2 ⟨hR, hq2⟩
          have hQ2 := Q.trans hQ1 hq2
          rcases hR with ⟨-, rfl⟩ | ⟨x, u, h, -⟩
          · clear HS hq2
            go_wp2
            go_ret2
            exact ⟨_, _, rfl, Lib.hid (HX.out _), bt⟩
          · rw [HN.out] at h; cases h
        | some x =>
          have HP2 : Hid (linesV s = (linesV (aft 10 rest)).map ((L.map (·.1) ++ [x]) ++ ·)) := Lib.hid (by
            rw [HP.out, linesV_cons hr hh hk]
            cases linesV (aft 10 rest) with
            | none => rfl
            | some r => simp)
          have hxl := lineV_len hk
          have HN := Lib.hid hk
          clear HP hh hk la
          generalize bef 10 rest = ln at *
          generalize aft 10 rest = rs at *
          go_wp2_with fail
          refine (HC.out _ (hE.q hQ)).mono ?_
          rintro e w1 ⟨rfl, hq1⟩
          have hQ1 := Q.trans hQ hq1
          clear HC
          go_wp2_with fail
          refine (HS.out _ (hE.q hQ1)).mono ?_
          rintro e w2 ⟨hR, hq2⟩
          rcases hR with ⟨h, -⟩ | ⟨x', u, h, rfl, hnum⟩
          · rw [HN.out] at h; cases h
          · obtain rfl : x = x' := by
              rw [HN.out] at h; injection h
            have hq12 := Q.trans hq1 hq2
            have hQ2 := Q.trans hQ hq12
            have how := ownsRow_keep hown hq12
            have HM2 : Hid (∀ p ∈ L, NumO w2 p ∧ p.1.ms.length ≤ 100000) := Lib.hid (fun p hp => ⟨(HM.out p hp).1.q hq12, (HM.out p hp).2⟩)
            clear HS HM hown hq1 hq2 hq12 h HN hQ hQ1
            obtain ⟨x1, x2, x3, xm⟩ := x
            simp only [ctC]
            have hq4 : Q w2 ((w2.alloc (.cells #[.int .i64 x1, .int .i64 x2, .int .i64 x3, u] 42)).alloc (.cells #[.int .i64 x1, .int .i64 x2, .int .i64 x3, u] 42)) := bt
            have how4 := ownsRow_keep how hq4
            have B4 := Blk.new1 w2 (.cells #[.int .i64 x1, .int .i64 x2, .int .i64 x3, u] 42) [.int .i64 x1, .int .i64 x2, .int .i64 x3, u] 42
            have hs4 : ((w2.alloc (.cells #[.int .i64 x1, .int .i64 x2, .int .i64 x3, u] 42)).alloc (.cells #[.int .i64 x1, .int .i64 x2, .int .i64 x3, u] 42)).heap.size = w2.heap.size + 2 := by simp
            have hw2 := hQ2.size
            obtain ⟨ua, uc, hu⟩ : ∃ a c, u = .slice a xm.length c := by
              obtain ⟨a, c, h, -⟩ := hnum.num
              exact ⟨a, c, h⟩
            subst hu
            have hL6 : L.length ≤ 60000 := by omega
            have hRw : Hid (rowOf cvC (L ++ [(⟨x1, x2, x3, xm⟩, .slice ua xm.length uc)]) = rowOf cvC L ++ [.int .i64 x1, .int .i64 x2, .int .i64 x3, .slice ua xm.length uc]) := Lib.hid (rowOf_snoc _ _)
            have hLe : Hid ((L ++ [((⟨x1, x2, x3, xm⟩ : Ct), Value.slice ua xm.length uc)]).length = L.length + 1) := Lib.hid (by simp)
            go_wp2_with (at_builtin; refine wpList_append_own_at _ rfl (.tmp 33) (.tmp 35) 22 rfl w.heap.size 42 c0 _ 4 48 Tryz.underlying22 ci cz0 cz1 cz2 rfl (by decide) _ L.length (rowOf cvC L) rfl how4 ⟨w2.heap.size + 1, 0, none⟩ 1 1 [.int .i64 x1, .int .i64 x2, .int .i64 x3, .slice ua xm.length uc] rfl rfl ?qe2 ?qe3 ?qe4 ?qe5 ?qe6 ?_)
            case qe3 => exact ⟨rfl, rfl, rfl, rfl⟩
            case qe4 => unfold maxLen; omega
            case qe5 => omega
            case qe6 => omega
            intro o' w6 hown6 hgrow6 _ _
            have hlt6 := fun k hk => (how4.lt k hk).1
            have hQ6 : Q w w6 := Below.trans (Below.trans hQ2 (hq4.mono hw2)) ((Below.refl _ _).grown hgrow6 (by rw [hs4]; omega) hlt6)
            have HM6 : Hid (∀ p ∈ L ++ [((⟨x1, x2, x3, xm⟩ : Ct), Value.slice ua xm.length uc)], NumO w6 p ∧ p.1.ms.length ≤ 100000) := Lib.hid (fun p hp => by
              rcases List.mem_append.1 hp with h | h
              · exact ⟨((HM2.out p h).1.q hq4).grown how4 hgrow6, (HM2.out p h).2⟩
              · rw [List.mem_singleton] at h
                subst h
                exact ⟨(hnum.q hq4).grown how4 hgrow6, by show xm.length ≤ 100000; omega⟩)
            have HO6 : Hid (w6.ownsRow w.heap.size 42 4 o' (L ++ [((⟨x1, x2, x3, xm⟩ : Ct), Value.slice ua xm.length uc)]).length (rowOf cvC (L ++ [(⟨x1, x2, x3, xm⟩, .slice ua xm.length uc)]))) := Lib.hid (by rw [hRw.out, hLe.out]; exact hown6)
            have HP6 : Hid (linesV s = (linesV rs).map ((L ++ [((⟨x1, x2, x3, xm⟩ : Ct), Value.slice ua xm.length uc)]).map (·.1) ++ ·)) := Lib.hid (by rw [HP2.out, List.map_append]; rfl)
            clear hown6 hgrow6 how how4 hq4 hlt6 HM2 HP2 hRw B4 hnum hs4
            go_wp2
            go_roundw
            case rel => exact ⟨rs, _, _, rfl, rfl, by rw [hLe.out]; omega, HP6, HM6, HO6.out, hQ6⟩
            case measure => exact lt

end Go.Proofs.YtohlpeicpoaanaaGreatDoor
