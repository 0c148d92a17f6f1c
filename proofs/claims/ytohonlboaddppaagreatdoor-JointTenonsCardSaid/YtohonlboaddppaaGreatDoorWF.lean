/-
  Walks: the package rational, numbers with short parts.; Walks: rational.digits, cut.; Walks: rational.read, Check, Parts at numbers with short parts; quick.; Walks: sum, difference, product and quotient of numbers with short parts. (Printed by mkquick.py.); Walks: rational.Check, Parts, Compare at numbers with short parts; Of at short ints.; Walks: rational.Of at short ints, Compare at short numbers; root.native, nativeRoot.
-/
import Derived.Test.YtohonlboaddppaaGreatDoorNatOf
import Derived.Test.YtohonlboaddppaaGreatDoorWB
import Derived.Test.YtohonlboaddppaaGreatDoorTimberM
namespace Go.Proofs.YtohonlboaddppaaGreatDoor
open Go.RowKit Kp
set_option maxHeartbeats 400000 in
theorem native_number_pos (n : Int) (k : Nat) (hk : 0 < k) (hn : n.natAbs ≤ 100000000000000000) (hd1 : k ≤ 100000000000000000) (w : World) (hE : Env w) :
    Calls Tryz.prog 106 #[.agg #[.int .i64 n, .int .i64 k]] w fun e w' => e = .returned (.string ⟨(rstr (Rat.divInt n k)).toArray⟩) ∧ Q w w' := by
  have hmx := max_neg n
  have hg1 : 0 < Nat.gcd n.natAbs k := Nat.gcd_pos_of_pos_right _ (by omega)
  obtain ⟨b1, b2⟩ := tdiv_bounds n (Nat.gcd n.natAbs k) (B := 100000000000000000) (by omega)
  have b3 : 0 ≤ (k : Int) / (Nat.gcd n.natAbs k : Int) := Int.ediv_nonneg (by omega) (by omega)
  have b4 : (k : Int) / (Nat.gcd n.natAbs k : Int) ≤ 100000000000000000 := Int.le_trans (Int.ediv_le_self _ (by omega)) (by omega)
  have HR := Lib.hid (rstr_divInt n k hk)
  generalize rstr (Rat.divInt n k) = r at *
  have HG := Lib.hid (rational_gcd n.natAbs k)
  generalize hgg : Nat.gcd n.natAbs k = g at *
  clear hgg
  have hg3 : ((g : Int) == 0) = false := by simp; omega
  have l1 := itoa_len (n.tdiv g) (lim_small (by omega))
  have l2 := itoa_len ((k : Int) / (g : Int)) (lim_small (by omega))
  by_cases h1 : (k : Int) / (g : Int) = 1
  · have hb : ((k : Int) / (g : Int) == 1) = true := by simpa using h1
    have H1 := Lib.hid h1
    clear h1
    go_enter Tryz.func106, Tryz.ntmps106
    go_wp2_with (go_at_call 49; refine (HG.out _ (by omega) (by omega)).mono ?_; rintro e w1 ⟨rfl, n1, rfl⟩)
    go_quiet (fail)
    go_wp2_with fail
    refine (lib_Itoa _ (by omega) (by omega) _ (hE.q bt)).mono ?_
    rintro e w3 ⟨rfl, hq3⟩
    go_wp2
    go_ret
    exact ⟨by rw [HR.out, if_pos H1.out]; rfl, (show Below w.heap.size w _ from bt).trans (hq3.mono (by simp))⟩
  · have hb : ((k : Int) / (g : Int) == 1) = false := by simpa using h1
    have H1 := Lib.hid h1
    clear h1
    go_enter Tryz.func106, Tryz.ntmps106
    go_wp2_with (go_at_call 49; refine (HG.out _ (by omega) (by omega)).mono ?_; rintro e w1 ⟨rfl, n1, rfl⟩)
    go_quiet (fail)
    go_wp2_with fail
    refine (lib_Itoa _ (by omega) (by omega) _ (hE.q bt)).mono ?_
    rintro e w3 ⟨rfl, hq3⟩
    have hQ3 : Q w w3 := (show Below w.heap.size w _ from bt).trans (hq3.mono (by simp))
    go_wp2_with fail
    refine (lib_Itoa _ (by omega) (by omega) _ (hE.q hQ3)).mono ?_
    rintro e w4 ⟨rfl, hq4⟩
    go_wp2
    go_ret
    exact ⟨by rw [HR.out, if_neg H1.out]; first | rfl | (simp; done), hQ3.trans (hq4.mono hQ3.size)⟩
set_option maxHeartbeats 400000 in
theorem native_number_neg (n : Int) (k : Nat) (hk : 0 < k) (hn : n.natAbs ≤ 100000000000000000) (hd1 : k ≤ 100000000000000000) (w : World) (hE : Env w) :
    Calls Tryz.prog 106 #[.agg #[.int .i64 n, .int .i64 (-(k : Int))]] w fun e w' => e = .returned (.string ⟨(rstr (Rat.divInt n (-(k : Int)))).toArray⟩) ∧ Q w w' := by
  have e0 : Rat.divInt n (-(k : Int)) = Rat.divInt (-n) k := by rw [Rat.divInt_neg']
  rw [e0]
  have hmx : max (-n) n = n.natAbs := by omega
  have hg1 : 0 < Nat.gcd n.natAbs k := Nat.gcd_pos_of_pos_right _ (by omega)
  obtain ⟨b1, b2⟩ := tdiv_bounds n (Nat.gcd n.natAbs k) (B := 100000000000000000) (by omega)
  have b3 : 0 ≤ (k : Int) / (Nat.gcd n.natAbs k : Int) := Int.ediv_nonneg (by omega) (by omega)
  have b4 : (k : Int) / (Nat.gcd n.natAbs k : Int) ≤ 100000000000000000 := Int.le_trans (Int.ediv_le_self _ (by omega)) (by omega)
  have hr := rstr_divInt (-n) k hk
  rw [Int.natAbs_neg, Int.neg_tdiv] at hr
  have HR := Lib.hid hr
  clear hr
  generalize rstr (Rat.divInt (-n) k) = r at *
  have HG := Lib.hid (rational_gcd n.natAbs k)
  generalize hgg : Nat.gcd n.natAbs k = g at *
  clear hgg e0
  have hg3 : ((g : Int) == 0) = false := by simp; omega
  have l1 := itoa_len (-(n.tdiv g)) (lim_small (by omega))
  have l2 := itoa_len ((k : Int) / (g : Int)) (lim_small (by omega))
  by_cases h1 : (k : Int) / (g : Int) = 1
  · have hb : ((k : Int) / (g : Int) == 1) = true := by simpa using h1
    have H1 := Lib.hid h1
    clear h1
    go_enter Tryz.func106, Tryz.ntmps106
    go_wp2_with (go_at_call 49; go_loud (refine (HG.out _ (by omega) (by omega)).mono ?_); rintro e w1 ⟨rfl, n1, rfl⟩)
    go_quiet (fail)
    go_wp2_with fail
    refine (lib_Itoa _ (by omega) (by omega) _ (hE.q bt)).mono ?_
    rintro e w3 ⟨rfl, hq3⟩
    go_wp2
    go_ret
    exact ⟨by rw [HR.out, if_pos H1.out]; rfl, (show Below w.heap.size w _ from bt).trans (hq3.mono (by simp))⟩
  · have hb : ((k : Int) / (g : Int) == 1) = false := by simpa using h1
    have H1 := Lib.hid h1
    clear h1
    go_enter Tryz.func106, Tryz.ntmps106
    go_wp2_with (go_at_call 49; go_loud (refine (HG.out _ (by omega) (by omega)).mono ?_); rintro e w1 ⟨rfl, n1, rfl⟩)
    go_quiet (fail)
    go_wp2_with fail
    refine (lib_Itoa _ (by omega) (by omega) _ (hE.q bt)).mono ?_
    rintro e w3 ⟨rfl, hq3⟩
    have hQ3 : Q w w3 := (show Below w.heap.size w _ from bt).trans (hq3.mono (by simp))
    go_wp2_with fail
    refine (lib_Itoa _ (by omega) (by omega) _ (hE.q hQ3)).mono ?_
    rintro e w4 ⟨rfl, hq4⟩
    go_wp2
    go_ret
    exact ⟨by rw [HR.out, if_neg H1.out]; first | rfl | (simp; done), hQ3.trans (hq4.mono hQ3.size)⟩
end Go.Proofs.YtohonlboaddppaaGreatDoor
namespace Go.Proofs.YtohonlboaddppaaGreatDoor
open Go.RowKit Kp
theorem lt_bool_t {a b : Nat} (h : a < b) : decide ((a : Int) < b) = true := by simp; omega
theorem lt_bool_f {a b : Nat} (h : ¬ a < b) : decide ((a : Int) < b) = false := by simp; omega
theorem eq0_bool_t {a : Nat} (h : a = 0) : ((a : Int) == 0) = true := by simp [h]
theorem eq0_bool_f {a : Nat} (h : a ≠ 0) : ((a : Int) == 0) = false := by simp [h]
set_option maxHeartbeats 400000 in
theorem rational_digits (s : Str) (hl : s.length ≤ 1000000000) (w : World) :
    Calls Tryz.prog 86 #[.string ⟨s.toArray⟩] w fun e w' => e = .returned (.int .i64 (digN s)) ∧ w = w' := by
  go_enter Tryz.func86, Tryz.ntmps86
  go_wp2
  go_loop [3] (fun i => ∃ k : Nat, k ≤ s.length ∧ i = .int .i64 k ∧ AllDig (s.take k)) (fun i => s.length - (intOf i).toNat)
  case atStart => exact ⟨0, by omega, rfl, by simp [AllDig]⟩
  case round =>
    obtain ⟨k, hk, rfl, had⟩ := hrel
    have HD := Lib.hid had; clear had
    by_cases h1 : k < s.length
    · cases hd : isDig (at0 s k) with
      | true =>
        have hd' := (isDig_iff _).1 hd
        have HN := Lib.hid (HD.out.snoc h1 hd)
        clear hd
        go_wp2
        go_round
        case rel => exact ⟨k + 1, by omega, by go_num, HN.out⟩
        case measure => simp [intOf]; omega
      | false =>
        have HT := Lib.hid (takeWhile_len_of HD.out hk (.inr hd))
        have hd' := (isDig_false_iff _).1 hd
        clear hd
        by_cases hz : 1 < k ∧ at0 s 0 = 48
        · have hz1 := hz.1
          have hz2 : ((((at0 s 0).toNat : Int)) == 48) = true := by rw [hz.2]; rfl
          have HR : Hid (digN s = 0) := Lib.hid (by unfold digN; rw [HT.out, if_pos hz])
          clear hz
          rcases hd' with hd' | hd'
          all_goals
            go_wp2
            go_ret
            exact ⟨ret_int (by rw [HR.out]; all_goals rfl), rfl⟩
        · have HR : Hid (digN s = k) := Lib.hid (by unfold digN; rw [HT.out, if_neg hz])
          have hz' : k ≤ 1 ∨ (1 < k ∧ ((((at0 s 0).toNat : Int)) == 48) = false) := by
            by_cases a : k ≤ 1
            · exact .inl a
            · exact .inr ⟨by omega, beq48 (fun e => hz ⟨by omega, e⟩)⟩
          clear hz
          rcases hd' with hd' | hd' <;> rcases hz' with hz' | ⟨hz', hz2⟩
          all_goals
            go_wp2
            go_ret
            exact ⟨ret_int (by rw [HR.out]; all_goals rfl), rfl⟩
    · have HT := Lib.hid (takeWhile_len_of HD.out hk (.inl (by omega)))
      by_cases hz : 1 < k ∧ at0 s 0 = 48
      · have hz1 := hz.1
        have hz2 : ((((at0 s 0).toNat : Int)) == 48) = true := by rw [hz.2]; rfl
        have HR : Hid (digN s = 0) := Lib.hid (by unfold digN; rw [HT.out, if_pos hz])
        clear hz
        go_wp2
        go_ret
        exact ⟨ret_int (by rw [HR.out]; all_goals rfl), rfl⟩
      · have HR : Hid (digN s = k) := Lib.hid (by unfold digN; rw [HT.out, if_neg hz])
        have hz' : k ≤ 1 ∨ (1 < k ∧ ((((at0 s 0).toNat : Int)) == 48) = false) := by
          by_cases a : k ≤ 1
          · exact .inl a
          · exact .inr ⟨by omega, beq48 (fun e => hz ⟨by omega, e⟩)⟩
        clear hz
        rcases hz' with hz' | ⟨hz', hz2⟩
        all_goals
          go_wp2
          go_ret
          exact ⟨ret_int (by rw [HR.out]; all_goals rfl), rfl⟩
def cutV (a : Str) : Value := if rbad a then .tuple #[.agg #[.string ⟨#[]⟩, .string ⟨#[]⟩], .bool false] else .tuple #[.agg #[.string ⟨(numPart a).toArray⟩, .string ⟨(denStr a).toArray⟩], .bool true]
theorem cut_ways (a : Str) :
    (cutV a = .tuple #[.agg #[.string ⟨#[]⟩, .string ⟨#[]⟩], .bool false] ∧
      (digN (unsig (numPart a)) = 0 ∨
       (digN (unsig (numPart a)) ≠ 0 ∧ digN (unsig (numPart a)) < (unsig (numPart a)).length) ∨
       (digN (unsig (numPart a)) ≠ 0 ∧ ¬ digN (unsig (numPart a)) < (unsig (numPart a)).length ∧
         ((decide ((numPart a).head? = some 45) = true ∧ (unsig (numPart a) == [48]) = true) ∨
          ((decide ((numPart a).head? = some 45) = false ∨ (unsig (numPart a) == [48]) = false) ∧ hasSlash a = true ∧
            (digN (denCut a) = 0 ∨ (digN (denCut a) ≠ 0 ∧ digN (denCut a) < (denCut a).length) ∨
             (digN (denCut a) ≠ 0 ∧ ¬ digN (denCut a) < (denCut a).length ∧ ((denCut a == [48]) = true ∨ ((denCut a == [48]) = false ∧ (denCut a == [49]) = true))))))))) ∨
    (digN (unsig (numPart a)) ≠ 0 ∧ ¬ digN (unsig (numPart a)) < (unsig (numPart a)).length ∧ (decide ((numPart a).head? = some 45) = false ∨ (unsig (numPart a) == [48]) = false) ∧
      ((hasSlash a = false ∧ cutV a = .tuple #[.agg #[.string ⟨(numPart a).toArray⟩, .string ⟨#[49]⟩], .bool true]) ∨
       (hasSlash a = true ∧ digN (denCut a) ≠ 0 ∧ ¬ digN (denCut a) < (denCut a).length ∧ (denCut a == [48]) = false ∧ (denCut a == [49]) = false ∧
         cutV a = .tuple #[.agg #[.string ⟨(numPart a).toArray⟩, .string ⟨(denCut a).toArray⟩], .bool true]))) := by
  have hbad : rbad a → cutV a = .tuple #[.agg #[.string ⟨#[]⟩, .string ⟨#[]⟩], .bool false] := fun h => by unfold cutV; rw [if_pos h]
  have hgood : ¬ rbad a → cutV a = .tuple #[.agg #[.string ⟨(numPart a).toArray⟩, .string ⟨(denStr a).toArray⟩], .bool true] := fun h => by unfold cutV; rw [if_neg h]
  rw [rbad_iff] at hbad hgood
  by_cases h0 : digN (unsig (numPart a)) = 0
  · exact .inl ⟨hbad (.inl (.inl h0)), .inl h0⟩
  · by_cases h1 : digN (unsig (numPart a)) < (unsig (numPart a)).length
    · exact .inl ⟨hbad (.inl (.inr (.inl h1))), .inr (.inl ⟨h0, h1⟩)⟩
    · by_cases h2 : (numPart a).head? = some 45 ∧ unsig (numPart a) = [48]
      · exact .inl ⟨hbad (.inl (.inr (.inr h2))), .inr (.inr ⟨h0, h1, .inl ⟨by simpa using h2.1, by simpa using h2.2⟩⟩)⟩
      · have h2' : decide ((numPart a).head? = some 45) = false ∨ (unsig (numPart a) == [48]) = false := by
          by_cases hm : (numPart a).head? = some 45
          · exact .inr (by simpa using fun e => h2 ⟨hm, e⟩)
          · exact .inl (by simpa using hm)
        have hfirst : ¬ (digN (unsig (numPart a)) = 0 ∨ digN (unsig (numPart a)) < (unsig (numPart a)).length ∨ ((numPart a).head? = some 45 ∧ unsig (numPart a) = [48])) := by
          rintro (x | x | x)
          · exact h0 x
          · exact h1 x
          · exact h2 x
        cases hs : hasSlash a with
        | false =>
          refine .inr ⟨h0, h1, h2', .inl ⟨rfl, ?_⟩⟩
          have := hgood (by rintro (x | ⟨x, _⟩); · exact hfirst x
                            · rw [hs] at x; cases x)
          rw [this]; unfold denStr; rw [hs]; rfl
        | true =>
          have ed : denCut a = denPart a := by unfold denCut; rw [hs]; rfl
          have es : denStr a = denPart a := by unfold denStr; rw [hs]; rfl
          rw [ed]
          by_cases d0 : digN (denPart a) = 0
          · exact .inl ⟨hbad (.inr ⟨hs, .inl d0⟩), .inr (.inr ⟨h0, h1, .inr ⟨h2', rfl, .inl d0⟩⟩)⟩
          · by_cases d1 : digN (denPart a) < (denPart a).length
            · exact .inl ⟨hbad (.inr ⟨hs, .inr (.inl d1)⟩), .inr (.inr ⟨h0, h1, .inr ⟨h2', rfl, .inr (.inl ⟨d0, d1⟩)⟩⟩)⟩
            · by_cases d2 : denPart a = [48]
              · exact .inl ⟨hbad (.inr ⟨hs, .inr (.inr (.inl d2))⟩), .inr (.inr ⟨h0, h1, .inr ⟨h2', rfl, .inr (.inr ⟨d0, d1, .inl (by simpa using d2)⟩)⟩⟩)⟩
              · by_cases d3 : denPart a = [49]
                · exact .inl ⟨hbad (.inr ⟨hs, .inr (.inr (.inr d3))⟩), .inr (.inr ⟨h0, h1, .inr ⟨h2', rfl, .inr (.inr ⟨d0, d1, .inr ⟨by simpa using d2, by simpa using d3⟩⟩)⟩⟩)⟩
                · refine .inr ⟨h0, h1, h2', .inr ⟨rfl, d0, d1, by simpa using d2, by simpa using d3, ?_⟩⟩
                  have := hgood (by rintro (x | ⟨_, x | x | x | x⟩); · exact hfirst x
                                    · exact d0 x
                                    · exact d1 x
                                    · exact d2 x
                                    · exact d3 x)
                  rw [this, es]
theorem denCut_len (a : Str) : (denCut a).length ≤ a.length := by
  unfold denCut; split
  · exact denPart_len a
  · simp
set_option maxRecDepth 100000 in
set_option maxHeartbeats 2000000 in
theorem rational_cut (a : Str) (hl : a.length ≤ 1000000000) (w : World) (hE : Env w) :
    Calls Tryz.prog 51 #[.string ⟨a.toArray⟩] w fun e w' => e = .returned (cutV a) ∧ Q w w' := by
  have l1 := numPart_len a
  have l2 := denCut_len a
  have l3 := unsig_len (numPart a)
  rcases cut_ways a with ⟨HV, h | ⟨h, h1⟩ | ⟨h, h1, ⟨h2, h3⟩ | ⟨h2 | h2, h3, h4 | ⟨h4, h5⟩ | ⟨h4, h5, h6 | ⟨h6, h7⟩⟩⟩⟩⟩ | ⟨h, h1, h2 | h2, ⟨h3, HV⟩ | ⟨h3, h4, h5, h6, h7, HV⟩⟩
  all_goals
    have HW := Lib.hid HV
    clear HV
    first | have g0 := eq0_bool_t h | have g0 := eq0_bool_f h
    first | have g1 := lt_bool_t h1 | have g1 := lt_bool_f h1 | skip
    first | have g2 := eq0_bool_t h4 | have g2 := eq0_bool_f h4 | skip
    first | have g3 := lt_bool_t h5 | have g3 := lt_bool_f h5 | skip
    clear h
    go_enter Tryz.func51, Tryz.ntmps51
    go_wp2_with (first | (go_at_call 84; refine (lib_CutSlash a (by omega) _ (hE.q bt)).mono ?_; rintro e w1 ⟨rfl, n1, rfl⟩) | (go_at_call 85; refine (lib_CutMinus _ _).mono ?_; rintro e w1 ⟨rfl, rfl⟩) | (go_at_call 86; refine (rational_digits _ (by omega) _).mono ?_; rintro e w1 ⟨rfl, rfl⟩))
  all_goals
    first
    | (refine bodyPost_ret (v := .tuple #[.agg #[.string ⟨#[]⟩, .string ⟨#[]⟩], .bool false]) ?_ rfl ?_
       · simp [results, Tryz.results51, go_sem]
       · exact ⟨by rw [HW.out], bt⟩)
    | (refine bodyPost_ret (v := .tuple #[.agg #[.string ⟨(numPart a).toArray⟩, .string ⟨#[49]⟩], .bool true]) ?_ rfl ?_
       · simp [results, Tryz.results51, go_sem]
       · exact ⟨by rw [HW.out], bt⟩)
    | (refine bodyPost_ret (v := .tuple #[.agg #[.string ⟨(numPart a).toArray⟩, .string ⟨(denCut a).toArray⟩], .bool true]) ?_ rfl ?_
       · simp [results, Tryz.results51, go_sem]
       · exact ⟨by rw [HW.out], bt⟩)
end Go.Proofs.YtohonlboaddppaaGreatDoor
namespace Go.Proofs.YtohonlboaddppaaGreatDoor
open Go.RowKit Kp
theorem ret_read (tmps : Array Value) (W : World) (b : Nat) (x y u : Value) (hp : tmps.getD 2 undef = .pointer (some ⟨b, 0, none⟩)) (hu : tmps.getD 3 undef = u)
    (c0 : W.cell? ⟨b, 0, none⟩ = some x) (c1 : W.cell? ⟨b, 1, none⟩ = some y) :
    (results Tryz.f26 tmps).run Tryz.prog W = .ok (.tuple #[.agg #[x, y], u]) W := by
  simp only [Array.getD_eq_getD_getElem?] at hp hu
  simp [results, Tryz.results26, go_sem, hp, hu, c0, c1]
theorem cutV_rstr (q : Rat) : cutV (rstr q) = .tuple #[.agg #[.string ⟨(Lib.itoa q.num).toArray⟩, .string ⟨(Lib.itoa (q.den : Int)).toArray⟩], .bool true] := by
  unfold cutV; rw [if_neg (rbad_rstr q), numPart_rstr, denStr_rstr]
theorem natOfV_small {q : Rat} (h : Small8 q) : natOfV (rstr q) = .tuple #[.agg #[.int .i64 q.num, .int .i64 (q.den : Int)], .bool true] := natOfV_some (natOf_small h)
theorem small_len {q : Rat} (h : Small8 q) : (rstr q).length ≤ 1000 := by
  have h1 := itoa_len q.num (lim_small (by have := h.1; omega))
  have h2 := itoa_len (q.den : Int) (lim_small (by have := h.2; omega))
  unfold rstr; split
  · omega
  · rw [dec_eq_itoa, List.length_append, List.length_cons]; omega
set_option maxRecDepth 100000 in
set_option maxHeartbeats 1000000 in
theorem rational_read_small (q : Rat) (h : Small8 q) (w : World) (hE : Env w) :
    Calls Tryz.prog 26 #[.string ⟨(rstr q).toArray⟩] w fun e w' => e = .returned (.tuple #[.agg #[.string ⟨(Lib.itoa q.num).toArray⟩, .string ⟨(Lib.itoa (q.den : Int)).toArray⟩], .int .i64 0]) ∧ Q w w' := by
  have hl := small_len h
  go_enter Tryz.func26, Tryz.ntmps26
  go_wp2_with fail
  refine (rational_cut _ (by omega) _ (hE.q bt)).mono ?_
  rw [cutV_rstr]
  rintro e w1 ⟨rfl, hq1⟩
  have hz1 := hq1.size
  rw [World.size_alloc] at hz1
  have hQ1 : Q w w1 := (show Below w.heap.size w _ from bt).trans (hq1.mono (by simp))
  have B1 := (Blk.new w [.string ⟨#[]⟩, .string ⟨#[]⟩] 80).keep hq1 (by simp)
  go_wp2_with fail
  refine (rational_nativeOf _ (by omega) _).mono ?_
  rw [natOfV_small h]
  rintro e w2 ⟨rfl, hq2⟩
  have hz2 := hq2.size
  rw [World.size_alloc] at hz2
  have hQ2 : Q w w2 := hQ1.trans ((show Below w1.heap.size w1 _ from bt).trans (hq2.mono (by simp)) |>.mono hQ1.size)
  have B2 := (Blk.new w1 [.string ⟨(Lib.itoa q.num).toArray⟩, .string ⟨(Lib.itoa (q.den : Int)).toArray⟩] 80).keep hq2 (by simp)
  have B1' := (B1.keep (Below.refl (w1.heap.size) w1 |>.alloc (Nat.le_refl _) (.cells #[.string ⟨(Lib.itoa q.num).toArray⟩, .string ⟨(Lib.itoa (q.den : Int)).toArray⟩] 80)) (by omega)).keep hq2 (by simp; omega)
  have c0 := B1'.cell 0
  have c1 := B1'.cell 1
  have f0 := B1'.frozen 0
  have f1 := B1'.frozen 1
  have d0 := B2.cell 0
  have d1 := B2.cell 1
  have l1 := B1'.lt
  have l2 := B2.lt
  simp only [List.getElem?_cons_zero, List.getElem?_cons_succ] at c0 c1 d0 d1
  go_wp2_with fail
  refine bodyPost_ret (v := .tuple #[.agg #[.string ⟨(Lib.itoa q.num).toArray⟩, .string ⟨(Lib.itoa (q.den : Int)).toArray⟩], .int .i64 0])
    (ret_read _ _ w.heap.size _ _ _ rfl rfl ((((B1'.set 0 _).set 1 _).alloc _).cell 0) ((((B1'.set 0 _).set 1 _).alloc _).cell 1)) rfl ⟨rfl, ?_⟩
  exact ((hQ2.setCell (p := ⟨w.heap.size, 0, none⟩) (Nat.le_refl _) _).setCell (p := ⟨w.heap.size, 1, none⟩) (Nat.le_refl _) _).alloc (by simp; omega) _
end Go.Proofs.YtohonlboaddppaaGreatDoor
namespace Go.Proofs.YtohonlboaddppaaGreatDoor
open Go.RowKit Kp
theorem mul_abs_le {a b : Int} (ha : a.natAbs < 100000000) (hb : b.natAbs < 100000000) : -10000000000000000 ≤ a * b ∧ a * b ≤ 10000000000000000 := by
  have h : a.natAbs * b.natAbs ≤ 100000000 * 100000000 := Nat.mul_le_mul (by omega) (by omega)
  rw [← Int.natAbs_mul] at h
  omega
set_option maxHeartbeats 1000000 in
theorem rational_Mul_native (x y : Rat) (hx : Small8 x) (hy : Small8 y) (w : World) :
    Calls Tryz.prog 64 #[.agg #[.int .i64 x.num, .int .i64 (x.den : Int)], .agg #[.int .i64 y.num, .int .i64 (y.den : Int)]] w fun e w' => e = .returned (.agg #[.int .i64 (x.num * y.num), .int .i64 ((x.den : Int) * y.den)]) ∧ Q w w' := by
  obtain ⟨hx1, hx2⟩ := hx
  obtain ⟨hy1, hy2⟩ := hy
  have m0 := mul_abs_le (a := x.num) (b := y.num) (by omega) (by omega)
  have m1 := mul_abs_le (a := (x.den : Int)) (b := (y.den : Int)) (by omega) (by omega)
  go_enter Tryz.func64, Tryz.ntmps64
  go_wp2
  refine bodyPost_ret (v := .agg #[.int .i64 (x.num * y.num), .int .i64 ((x.den : Int) * y.den)]) ?_ rfl ⟨rfl, bt⟩
  simp [results, Tryz.results64, go_sem]
set_option maxHeartbeats 1000000 in
theorem rational_Add_native (x y : Rat) (hx : Small8 x) (hy : Small8 y) (w : World) :
    Calls Tryz.prog 68 #[.agg #[.int .i64 x.num, .int .i64 (x.den : Int)], .agg #[.int .i64 y.num, .int .i64 (y.den : Int)]] w fun e w' => e = .returned (.agg #[.int .i64 (x.num * y.den + y.num * x.den), .int .i64 ((x.den : Int) * y.den)]) ∧ Q w w' := by
  obtain ⟨hx1, hx2⟩ := hx
  obtain ⟨hy1, hy2⟩ := hy
  have m0 := mul_abs_le (a := x.num) (b := (y.den : Int)) (by omega) (by omega)
  have m1 := mul_abs_le (a := y.num) (b := (x.den : Int)) (by omega) (by omega)
  have m2 := mul_abs_le (a := (x.den : Int)) (b := (y.den : Int)) (by omega) (by omega)
  go_enter Tryz.func68, Tryz.ntmps68
  go_wp2
  refine bodyPost_ret (v := .agg #[.int .i64 (x.num * y.den + y.num * x.den), .int .i64 ((x.den : Int) * y.den)]) ?_ rfl ⟨rfl, bt⟩
  simp [results, Tryz.results68, go_sem]
set_option maxHeartbeats 1000000 in
theorem rational_Sub_native (x y : Rat) (hx : Small8 x) (hy : Small8 y) (w : World) :
    Calls Tryz.prog 71 #[.agg #[.int .i64 x.num, .int .i64 (x.den : Int)], .agg #[.int .i64 y.num, .int .i64 (y.den : Int)]] w fun e w' => e = .returned (.agg #[.int .i64 (x.num * y.den - y.num * x.den), .int .i64 ((x.den : Int) * y.den)]) ∧ Q w w' := by
  obtain ⟨hx1, hx2⟩ := hx
  obtain ⟨hy1, hy2⟩ := hy
  have m0 := mul_abs_le (a := x.num) (b := (y.den : Int)) (by omega) (by omega)
  have m1 := mul_abs_le (a := y.num) (b := (x.den : Int)) (by omega) (by omega)
  have m2 := mul_abs_le (a := (x.den : Int)) (b := (y.den : Int)) (by omega) (by omega)
  go_enter Tryz.func71, Tryz.ntmps71
  go_wp2
  refine bodyPost_ret (v := .agg #[.int .i64 (x.num * y.den - y.num * x.den), .int .i64 ((x.den : Int) * y.den)]) ?_ rfl ⟨rfl, bt⟩
  simp [results, Tryz.results71, go_sem]
set_option maxHeartbeats 1000000 in
theorem rational_Div_native (x y : Rat) (hx : Small8 x) (hy : Small8 y) (w : World) :
    Calls Tryz.prog 73 #[.agg #[.int .i64 x.num, .int .i64 (x.den : Int)], .agg #[.int .i64 y.num, .int .i64 (y.den : Int)]] w fun e w' => e = .returned (.agg #[.int .i64 (x.num * y.den), .int .i64 ((x.den : Int) * y.num)]) ∧ Q w w' := by
  obtain ⟨hx1, hx2⟩ := hx
  obtain ⟨hy1, hy2⟩ := hy
  have m0 := mul_abs_le (a := x.num) (b := (y.den : Int)) (by omega) (by omega)
  have m1 := mul_abs_le (a := (x.den : Int)) (b := y.num) (by omega) (by omega)
  go_enter Tryz.func73, Tryz.ntmps73
  go_wp2
  refine bodyPost_ret (v := .agg #[.int .i64 (x.num * y.den), .int .i64 ((x.den : Int) * y.num)]) ?_ rfl ⟨rfl, bt⟩
  simp [results, Tryz.results73, go_sem]
theorem native_number (n d : Int) (hd : d ≠ 0) (hn : n.natAbs ≤ 100000000000000000) (hd1 : d.natAbs ≤ 100000000000000000) (w : World) (hE : Env w) :
    Calls Tryz.prog 106 #[.agg #[.int .i64 n, .int .i64 d]] w fun e w' => e = .returned (.string ⟨(rstr (Rat.divInt n d)).toArray⟩) ∧ Q w w' := by
  by_cases h : 0 < d
  · obtain ⟨k, rfl⟩ := Int.eq_ofNat_of_zero_le (Int.le_of_lt h)
    exact native_number_pos n k (by omega) hn (by omega) w hE
  · obtain ⟨k, hk⟩ := Int.eq_ofNat_of_zero_le (show 0 ≤ -d by omega)
    obtain rfl : d = -(k : Int) := by omega
    exact native_number_neg n k (by omega) hn (by omega) w hE
set_option maxRecDepth 100000 in
set_option maxHeartbeats 1000000 in
theorem rational_quick_Mul (x y : Rat) (hx : Small8 x) (hy : Small8 y) (w : World) (hE : Env w) :
    Calls Tryz.prog 63 #[.string ⟨(rstr x).toArray⟩, .string ⟨(rstr y).toArray⟩, .func (.func 64) #[] #[]] w fun e w' => e = .returned (.tuple #[.string ⟨(rstr (x * y)).toArray⟩, .bool true]) ∧ Q w w' := by
  have hlx := small_len hx
  have hly := small_len hy
  have hxd := x.den_nz
  have hyd := y.den_nz
  have HR : Hid (Rat.divInt (x.num * y.num) ((x.den : Int) * y.den) = x * y) := Lib.hid (by conv => rhs; rw [← Rat.num_divInt_den x, ← Rat.num_divInt_den y, Rat.divInt_mul_divInt])
  have hd0 : ((x.den : Int) * y.den) ≠ 0 := Int.mul_ne_zero (by omega) (by omega)
  obtain ⟨hx1, hx2⟩ := hx
  obtain ⟨hy1, hy2⟩ := hy
  have m0 := mul_abs_le (a := x.num) (b := y.num) (by omega) (by omega)
  have m1 := mul_abs_le (a := (x.den : Int)) (b := (y.den : Int)) (by omega) (by omega)
  go_enter Tryz.func63, Tryz.ntmps63
  go_wp2_with fail
  refine (rational_nativeOf _ (by omega) _).mono ?_
  rw [natOfV_small ⟨hx1, hx2⟩]
  rintro e w1 ⟨rfl, hq1⟩
  go_wp2_with fail
  refine (rational_nativeOf _ (by omega) _).mono ?_
  rw [natOfV_small ⟨hy1, hy2⟩]
  rintro e w2 ⟨rfl, hq2⟩
  have hz2 := hq2.size
  rw [World.size_alloc] at hz2
  have hQ2 : Q w w2 := hq1.trans ((show Below w1.heap.size w1 _ from bt).trans (hq2.mono (by simp)) |>.mono hq1.size)
  have B1 := (Blk.new w1 [.int .i64 x.num, .int .i64 (x.den : Int)] 75).keep hq2 (by simp)
  have c0 := B1.cell 0
  have c1 := B1.cell 1
  have l1 := B1.lt
  simp only [List.getElem?_cons_zero, List.getElem?_cons_succ] at c0 c1
  go_wp2_with fail
  refine (rational_Mul_native x y ⟨hx1, hx2⟩ ⟨hy1, hy2⟩ _).mono ?_
  rintro e w3 ⟨rfl, hq3⟩
  have hQ3 : Q w w3 := hQ2.trans ((show Below w2.heap.size w2 _ from bt).trans (hq3.mono (by simp)) |>.mono hQ2.size)
  go_wp2_with fail
  refine (native_number _ _ hd0 (by omega) (by omega) _ (hE.q hQ3)).mono ?_
  rintro e w4 ⟨rfl, hq4⟩
  go_wp2
  go_ret2
  exact ⟨by rw [← HR.out]; rfl, hQ3.trans (hq4.mono hQ3.size)⟩
set_option maxHeartbeats 1000000 in
theorem rational_Mul_small (x y : Rat) (hx : Small8 x) (hy : Small8 y) (w : World) (hE : Env w) :
    Calls Tryz.prog 39 #[.string ⟨(rstr x).toArray⟩, .string ⟨(rstr y).toArray⟩] w fun e w' => e = .returned (.tuple #[.string ⟨(rstr (x * y)).toArray⟩, .int .i64 0]) ∧ Q w w' := by
  go_enter Tryz.func39, Tryz.ntmps39
  go_wp2_with fail
  refine (rational_quick_Mul x y hx hy _ hE).mono ?_
  rintro e w1 ⟨rfl, hq1⟩
  go_wp2
  go_ret2
  exact ⟨rfl, hq1⟩
set_option maxRecDepth 100000 in
set_option maxHeartbeats 1000000 in
theorem rational_quick_Add (x y : Rat) (hx : Small8 x) (hy : Small8 y) (w : World) (hE : Env w) :
    Calls Tryz.prog 63 #[.string ⟨(rstr x).toArray⟩, .string ⟨(rstr y).toArray⟩, .func (.func 68) #[] #[]] w fun e w' => e = .returned (.tuple #[.string ⟨(rstr (x + y)).toArray⟩, .bool true]) ∧ Q w w' := by
  have hlx := small_len hx
  have hly := small_len hy
  have hxd := x.den_nz
  have hyd := y.den_nz
  have HR : Hid (Rat.divInt (x.num * y.den + y.num * x.den) ((x.den : Int) * y.den) = x + y) := Lib.hid (by conv => rhs; rw [← Rat.num_divInt_den x, ← Rat.num_divInt_den y, Rat.divInt_add_divInt _ _ (by omega) (by omega)])
  have hd0 : ((x.den : Int) * y.den) ≠ 0 := Int.mul_ne_zero (by omega) (by omega)
  obtain ⟨hx1, hx2⟩ := hx
  obtain ⟨hy1, hy2⟩ := hy
  have m0 := mul_abs_le (a := x.num) (b := (y.den : Int)) (by omega) (by omega)
  have m1 := mul_abs_le (a := y.num) (b := (x.den : Int)) (by omega) (by omega)
  have m2 := mul_abs_le (a := (x.den : Int)) (b := (y.den : Int)) (by omega) (by omega)
  go_enter Tryz.func63, Tryz.ntmps63
  go_wp2_with fail
  refine (rational_nativeOf _ (by omega) _).mono ?_
  rw [natOfV_small ⟨hx1, hx2⟩]
  rintro e w1 ⟨rfl, hq1⟩
  go_wp2_with fail
  refine (rational_nativeOf _ (by omega) _).mono ?_
  rw [natOfV_small ⟨hy1, hy2⟩]
  rintro e w2 ⟨rfl, hq2⟩
  have hz2 := hq2.size
  rw [World.size_alloc] at hz2
  have hQ2 : Q w w2 := hq1.trans ((show Below w1.heap.size w1 _ from bt).trans (hq2.mono (by simp)) |>.mono hq1.size)
  have B1 := (Blk.new w1 [.int .i64 x.num, .int .i64 (x.den : Int)] 75).keep hq2 (by simp)
  have c0 := B1.cell 0
  have c1 := B1.cell 1
  have l1 := B1.lt
  simp only [List.getElem?_cons_zero, List.getElem?_cons_succ] at c0 c1
  go_wp2_with fail
  refine (rational_Add_native x y ⟨hx1, hx2⟩ ⟨hy1, hy2⟩ _).mono ?_
  rintro e w3 ⟨rfl, hq3⟩
  have hQ3 : Q w w3 := hQ2.trans ((show Below w2.heap.size w2 _ from bt).trans (hq3.mono (by simp)) |>.mono hQ2.size)
  go_wp2_with fail
  refine (native_number _ _ hd0 (by omega) (by omega) _ (hE.q hQ3)).mono ?_
  rintro e w4 ⟨rfl, hq4⟩
  go_wp2
  go_ret2
  exact ⟨by rw [← HR.out]; rfl, hQ3.trans (hq4.mono hQ3.size)⟩
set_option maxHeartbeats 1000000 in
theorem rational_Add_small (x y : Rat) (hx : Small8 x) (hy : Small8 y) (w : World) (hE : Env w) :
    Calls Tryz.prog 41 #[.string ⟨(rstr x).toArray⟩, .string ⟨(rstr y).toArray⟩] w fun e w' => e = .returned (.tuple #[.string ⟨(rstr (x + y)).toArray⟩, .int .i64 0]) ∧ Q w w' := by
  go_enter Tryz.func41, Tryz.ntmps41
  go_wp2_with fail
  refine (rational_quick_Add x y hx hy _ hE).mono ?_
  rintro e w1 ⟨rfl, hq1⟩
  go_wp2
  go_ret2
  exact ⟨rfl, hq1⟩
set_option maxRecDepth 100000 in
set_option maxHeartbeats 1000000 in
theorem rational_quick_Sub (x y : Rat) (hx : Small8 x) (hy : Small8 y) (w : World) (hE : Env w) :
    Calls Tryz.prog 63 #[.string ⟨(rstr x).toArray⟩, .string ⟨(rstr y).toArray⟩, .func (.func 71) #[] #[]] w fun e w' => e = .returned (.tuple #[.string ⟨(rstr (x - y)).toArray⟩, .bool true]) ∧ Q w w' := by
  have hlx := small_len hx
  have hly := small_len hy
  have hxd := x.den_nz
  have hyd := y.den_nz
  have HR : Hid (Rat.divInt (x.num * y.den - y.num * x.den) ((x.den : Int) * y.den) = x - y) := Lib.hid (by conv => rhs; rw [← Rat.num_divInt_den x, ← Rat.num_divInt_den y, Rat.divInt_sub_divInt _ _ (by omega) (by omega)])
  have hd0 : ((x.den : Int) * y.den) ≠ 0 := Int.mul_ne_zero (by omega) (by omega)
  obtain ⟨hx1, hx2⟩ := hx
  obtain ⟨hy1, hy2⟩ := hy
  have m0 := mul_abs_le (a := x.num) (b := (y.den : Int)) (by omega) (by omega)
  have m1 := mul_abs_le (a := y.num) (b := (x.den : Int)) (by omega) (by omega)
  have m2 := mul_abs_le (a := (x.den : Int)) (b := (y.den : Int)) (by omega) (by omega)
  go_enter Tryz.func63, Tryz.ntmps63
  go_wp2_with fail
  refine (rational_nativeOf _ (by omega) _).mono ?_
  rw [natOfV_small ⟨hx1, hx2⟩]
  rintro e w1 ⟨rfl, hq1⟩
  go_wp2_with fail
  refine (rational_nativeOf _ (by omega) _).mono ?_
  rw [natOfV_small ⟨hy1, hy2⟩]
  rintro e w2 ⟨rfl, hq2⟩
  have hz2 := hq2.size
  rw [World.size_alloc] at hz2
  have hQ2 : Q w w2 := hq1.trans ((show Below w1.heap.size w1 _ from bt).trans (hq2.mono (by simp)) |>.mono hq1.size)
  have B1 := (Blk.new w1 [.int .i64 x.num, .int .i64 (x.den : Int)] 75).keep hq2 (by simp)
  have c0 := B1.cell 0
  have c1 := B1.cell 1
  have l1 := B1.lt
  simp only [List.getElem?_cons_zero, List.getElem?_cons_succ] at c0 c1
  go_wp2_with fail
  refine (rational_Sub_native x y ⟨hx1, hx2⟩ ⟨hy1, hy2⟩ _).mono ?_
  rintro e w3 ⟨rfl, hq3⟩
  have hQ3 : Q w w3 := hQ2.trans ((show Below w2.heap.size w2 _ from bt).trans (hq3.mono (by simp)) |>.mono hQ2.size)
  go_wp2_with fail
  refine (native_number _ _ hd0 (by omega) (by omega) _ (hE.q hQ3)).mono ?_
  rintro e w4 ⟨rfl, hq4⟩
  go_wp2
  go_ret2
  exact ⟨by rw [← HR.out]; rfl, hQ3.trans (hq4.mono hQ3.size)⟩
set_option maxHeartbeats 1000000 in
theorem rational_Sub_small (x y : Rat) (hx : Small8 x) (hy : Small8 y) (w : World) (hE : Env w) :
    Calls Tryz.prog 42 #[.string ⟨(rstr x).toArray⟩, .string ⟨(rstr y).toArray⟩] w fun e w' => e = .returned (.tuple #[.string ⟨(rstr (x - y)).toArray⟩, .int .i64 0]) ∧ Q w w' := by
  go_enter Tryz.func42, Tryz.ntmps42
  go_wp2_with fail
  refine (rational_quick_Sub x y hx hy _ hE).mono ?_
  rintro e w1 ⟨rfl, hq1⟩
  go_wp2
  go_ret2
  exact ⟨rfl, hq1⟩
set_option maxRecDepth 100000 in
set_option maxHeartbeats 1000000 in
theorem rational_quick_Div (x y : Rat) (hx : Small8 x) (hy : Small8 y) (hy0 : y.num ≠ 0) (w : World) (hE : Env w) :
    Calls Tryz.prog 63 #[.string ⟨(rstr x).toArray⟩, .string ⟨(rstr y).toArray⟩, .func (.func 73) #[] #[]] w fun e w' => e = .returned (.tuple #[.string ⟨(rstr (x / y)).toArray⟩, .bool true]) ∧ Q w w' := by
  have hlx := small_len hx
  have hly := small_len hy
  have hxd := x.den_nz
  have hyd := y.den_nz
  have HR : Hid (Rat.divInt (x.num * y.den) ((x.den : Int) * y.num) = x / y) := Lib.hid (by conv => rhs; rw [← Rat.num_divInt_den x, ← Rat.num_divInt_den y, Rat.div_def, Rat.inv_divInt, Rat.divInt_mul_divInt])
  have hd0 : ((x.den : Int) * y.num) ≠ 0 := Int.mul_ne_zero (by omega) hy0
  obtain ⟨hx1, hx2⟩ := hx
  obtain ⟨hy1, hy2⟩ := hy
  have m0 := mul_abs_le (a := x.num) (b := (y.den : Int)) (by omega) (by omega)
  have m1 := mul_abs_le (a := (x.den : Int)) (b := y.num) (by omega) (by omega)
  go_enter Tryz.func63, Tryz.ntmps63
  go_wp2_with fail
  refine (rational_nativeOf _ (by omega) _).mono ?_
  rw [natOfV_small ⟨hx1, hx2⟩]
  rintro e w1 ⟨rfl, hq1⟩
  go_wp2_with fail
  refine (rational_nativeOf _ (by omega) _).mono ?_
  rw [natOfV_small ⟨hy1, hy2⟩]
  rintro e w2 ⟨rfl, hq2⟩
  have hz2 := hq2.size
  rw [World.size_alloc] at hz2
  have hQ2 : Q w w2 := hq1.trans ((show Below w1.heap.size w1 _ from bt).trans (hq2.mono (by simp)) |>.mono hq1.size)
  have B1 := (Blk.new w1 [.int .i64 x.num, .int .i64 (x.den : Int)] 75).keep hq2 (by simp)
  have c0 := B1.cell 0
  have c1 := B1.cell 1
  have l1 := B1.lt
  simp only [List.getElem?_cons_zero, List.getElem?_cons_succ] at c0 c1
  go_wp2_with fail
  refine (rational_Div_native x y ⟨hx1, hx2⟩ ⟨hy1, hy2⟩ _).mono ?_
  rintro e w3 ⟨rfl, hq3⟩
  have hQ3 : Q w w3 := hQ2.trans ((show Below w2.heap.size w2 _ from bt).trans (hq3.mono (by simp)) |>.mono hQ2.size)
  go_wp2_with fail
  refine (native_number _ _ hd0 (by omega) (by omega) _ (hE.q hQ3)).mono ?_
  rintro e w4 ⟨rfl, hq4⟩
  go_wp2
  go_ret2
  exact ⟨by rw [← HR.out]; rfl, hQ3.trans (hq4.mono hQ3.size)⟩
set_option maxHeartbeats 1000000 in
theorem rational_Div_small (x y : Rat) (hx : Small8 x) (hy : Small8 y) (hy0 : y.num ≠ 0) (w : World) (hE : Env w) :
    Calls Tryz.prog 43 #[.string ⟨(rstr x).toArray⟩, .string ⟨(rstr y).toArray⟩] w fun e w' => e = .returned (.tuple #[.string ⟨(rstr (x / y)).toArray⟩, .int .i64 0]) ∧ Q w w' := by
  have hn : (rstr y == [48]) = false := by
    rw [beq_eq_false_iff_ne]; intro e; apply hy0
    have : rstr y = rstr 0 := by rw [e]; simp [rstr, Lib.itoa, Lib.decDigits]
    rw [rstr_inj this]; rfl
  have hn' := bne_of_f hn
  go_enter Tryz.func43, Tryz.ntmps43
  go_wp2_with fail
  refine (rational_quick_Div x y hx hy hy0 _ hE).mono ?_
  rintro e w1 ⟨rfl, hq1⟩
  go_wp2
  go_ret2
  exact ⟨rfl, hq1⟩
end Go.Proofs.YtohonlboaddppaaGreatDoor
namespace Go.Proofs.YtohonlboaddppaaGreatDoor
open Go.RowKit Kp
set_option maxHeartbeats 400000 in
theorem rational_Check_small (q : Rat) (h : Small8 q) (w : World) (hE : Env w) :
    Calls Tryz.prog 22 #[.string ⟨(rstr q).toArray⟩] w fun e w' => e = .returned (.int .i64 0) ∧ Q w w' := by
  go_enter Tryz.func22, Tryz.ntmps22
  go_wp2_with fail
  refine (rational_read_small q h _ hE).mono ?_
  rintro e w1 ⟨rfl, hq1⟩
  go_wp2
  go_ret
  exact ⟨rfl, hq1.alloc hq1.size _⟩
set_option maxHeartbeats 400000 in
theorem rational_Parts_small (q : Rat) (h : Small8 q) (w : World) (hE : Env w) :
    Calls Tryz.prog 33 #[.string ⟨(rstr q).toArray⟩] w fun e w' => e = .returned (.tuple #[.string ⟨(Lib.itoa q.num).toArray⟩, .string ⟨(Lib.itoa (q.den : Int)).toArray⟩, .int .i64 0]) ∧ Q w w' := by
  go_enter Tryz.func33, Tryz.ntmps33
  go_wp2_with fail
  refine (rational_read_small q h _ hE).mono ?_
  rintro e w1 ⟨rfl, hq1⟩
  go_wp2
  go_quiet (fail)
  go_wp2
  go_ret3
  exact ⟨rfl, Below.drewN (hq1.alloc hq1.size _) _⟩
set_option maxHeartbeats 800000 in
theorem rational_number_short (n : Int) (k : Nat) (hk : 0 < k) (hn : (Lib.itoa n).length ≤ 18) (hd : (Lib.itoa (k : Int)).length ≤ 18) (w : World) (hE : Env w) :
    Calls Tryz.prog 46 #[.string ⟨(Lib.itoa n).toArray⟩, .string ⟨(Lib.itoa (k : Int)).toArray⟩] w fun e w' => e = .returned (.tuple #[.string ⟨(rstr (Rat.divInt n k)).toArray⟩, .int .i64 0]) ∧ Q w w' := by
  have hk1 := short_abs hd
  have hg1 : 0 < Nat.gcd n.natAbs k := Nat.gcd_pos_of_pos_right _ (by omega)
  have hg2 : Nat.gcd n.natAbs k ≤ k := Nat.le_of_dvd (by omega) (Nat.gcd_dvd_right ..)
  have HR := Lib.hid (rstr_divInt_f n k hk)
  generalize rstr (Rat.divInt n k) = r at *
  have HG := Lib.hid (integer_Gcd_short n (k : Int) hn hd)
  rw [Int.natAbs_natCast] at HG
  have hmin : decide ((Lib.itoa (k : Int)).head? = some 45) = false := by
    rw [← dec_eq_itoa, decide_eq_false_iff_not]; exact decDigits_head_ne_minus k
  have lg : (Lib.itoa (Nat.gcd n.natAbs k : Int)).length ≤ 18 := itoa_len_mono (by omega) hd
  generalize hgg : Nat.gcd n.natAbs k = g at *
  clear hgg
  have lq1 := itoa_fdiv_len n g hn
  have lq2 := itoa_fdiv_len (k : Int) g hd
  have hg0 : (g : Int) ≠ 0 := by omega
  by_cases h1 : g = 1
  · have hb : (Lib.itoa (g : Int) == [49]) = true := by rw [h1]; simp [Lib.itoa, Lib.decDigits]
    have hb' := bne_of_t hb
    have e1 : n.fdiv (g : Int) = n := by rw [h1]; simp
    have e2 : (k : Int).fdiv (g : Int) = k := by rw [h1]; simp
    rw [e1, e2] at HR
    clear e1 e2
    by_cases h2 : (k : Int) = 1
    · have hc : (Lib.itoa (k : Int) == [49]) = true := by rw [h2]; simp [Lib.itoa, Lib.decDigits]
      have H2 := Lib.hid h2
      clear h2 h1
      go_enter Tryz.func46, Tryz.ntmps46
      go_wp2_with (first | (go_at_call 75; refine (lib_HasMinus _ _).mono ?_; rintro e w1 ⟨rfl, rfl⟩) | (go_at_call 52; refine (HG.out _ hE).mono ?_; rintro e w1 ⟨rfl, hq1⟩))
      go_ret2
      exact ⟨by rw [HR.out, if_pos H2.out]; rfl, hq1⟩
    · have hc : (Lib.itoa (k : Int) == [49]) = false := by
        rw [beq_eq_false_iff_ne, ← itoa_one]; exact fun e => h2 (itoa_inj e)
      have H2 := Lib.hid h2
      clear h2 h1
      go_enter Tryz.func46, Tryz.ntmps46
      go_wp2_with (first | (go_at_call 75; refine (lib_HasMinus _ _).mono ?_; rintro e w1 ⟨rfl, rfl⟩) | (go_at_call 52; refine (HG.out _ hE).mono ?_; rintro e w1 ⟨rfl, hq1⟩))
      go_ret2
      exact ⟨by rw [HR.out, if_neg H2.out]; first | rfl | (simp; done), hq1⟩
  · have hb : (Lib.itoa (g : Int) == [49]) = false := by
      rw [beq_eq_false_iff_ne, ← itoa_one]; exact fun e => h1 (by have := itoa_inj e; omega)
    have hb' := bne_of_f hb
    by_cases h2 : (k : Int).fdiv (g : Int) = 1
    · have hc : (Lib.itoa ((k : Int).fdiv (g : Int)) == [49]) = true := by rw [h2]; simp [Lib.itoa, Lib.decDigits]
      have H2 := Lib.hid h2
      clear h2 h1
      go_enter Tryz.func46, Tryz.ntmps46
      go_wp2_with (first | (go_at_call 75; refine (lib_HasMinus _ _).mono ?_; rintro e w1 ⟨rfl, rfl⟩) | (go_at_call 52; refine (HG.out _ hE).mono ?_; rintro e w1 ⟨rfl, hq1⟩) | fail)
      refine (integer_Divide_short n g hn lg hg0 _ (hE.q hq1)).mono ?_
      rintro e w2 ⟨rfl, hq2⟩
      have hQ2 : Q w w2 := hq1.trans (hq2.mono hq1.size)
      go_wp2_with fail
      refine (integer_Divide_short (k : Int) g hd lg hg0 _ (hE.q hQ2)).mono ?_
      rintro e w3 ⟨rfl, hq3⟩
      go_wp2
      go_ret2
      exact ⟨by rw [HR.out, if_pos H2.out]; rfl, hQ2.trans (hq3.mono hQ2.size)⟩
    · have hc : (Lib.itoa ((k : Int).fdiv (g : Int)) == [49]) = false := by
        rw [beq_eq_false_iff_ne, ← itoa_one]; exact fun e => h2 (itoa_inj e)
      have H2 := Lib.hid h2
      clear h2 h1
      go_enter Tryz.func46, Tryz.ntmps46
      go_wp2_with (first | (go_at_call 75; refine (lib_HasMinus _ _).mono ?_; rintro e w1 ⟨rfl, rfl⟩) | (go_at_call 52; refine (HG.out _ hE).mono ?_; rintro e w1 ⟨rfl, hq1⟩) | fail)
      refine (integer_Divide_short n g hn lg hg0 _ (hE.q hq1)).mono ?_
      rintro e w2 ⟨rfl, hq2⟩
      have hQ2 : Q w w2 := hq1.trans (hq2.mono hq1.size)
      go_wp2_with fail
      refine (integer_Divide_short (k : Int) g hd lg hg0 _ (hE.q hQ2)).mono ?_
      rintro e w3 ⟨rfl, hq3⟩
      go_wp2
      go_ret2
      exact ⟨by rw [HR.out, if_neg H2.out]; first | rfl | (simp; done), hQ2.trans (hq3.mono hQ2.size)⟩
end Go.Proofs.YtohonlboaddppaaGreatDoor
namespace Go.Proofs.YtohonlboaddppaaGreatDoor
open Go.RowKit Kp
set_option maxHeartbeats 400000 in
theorem rational_Of_short (n : Int) (k : Nat) (hk : 0 < k) (hn : n.natAbs < 100000000000000000) (hd : k < 100000000000000000) (w : World) (hE : Env w) :
    Calls Tryz.prog 21 #[.int .i64 n, .int .i64 k] w fun e w' => e = .returned (.tuple #[.string ⟨(rstr (Rat.divInt n k)).toArray⟩, .int .i64 0]) ∧ Q w w' := by
  have l1 := itoa_short hn
  have l2 := itoa_short (x := (k : Int)) (by omega)
  have b0 : ((k : Int) == 0) = false := by simp; omega
  by_cases h1 : k = 1
  · subst h1
    have HR : Hid (rstr (Rat.divInt n (1 : Nat)) = Lib.itoa n) := Lib.hid (by rw [rstr_divInt_f n 1 (by decide)]; simp)
    go_enter Tryz.func21, Tryz.ntmps21
    go_wp2_with fail
    refine (lib_Itoa n (by omega) (by omega) _ hE).mono ?_
    rintro e w1 ⟨rfl, hq1⟩
    go_wp2
    go_ret2
    exact ⟨by rw [HR.out]; rfl, hq1⟩
  · have b1 : ((k : Int) == 1) = false := by simp; omega
    go_enter Tryz.func21, Tryz.ntmps21
    go_wp2_with fail
    refine (lib_Itoa n (by omega) (by omega) _ hE).mono ?_
    rintro e w1 ⟨rfl, hq1⟩
    go_wp2_with fail
    refine (lib_Itoa (k : Int) (by omega) (by omega) _ (hE.q hq1)).mono ?_
    rintro e w2 ⟨rfl, hq2⟩
    have hQ2 : Q w w2 := hq1.trans (hq2.mono hq1.size)
    go_wp2_with fail
    refine (rational_number_short n k hk l1 l2 _ (hE.q hQ2)).mono ?_
    rintro e w3 ⟨rfl, hq3⟩
    go_wp2
    go_ret2
    exact ⟨rfl, hQ2.trans (hq3.mono hQ2.size)⟩
set_option maxHeartbeats 400000 in
theorem root_native (x : Int) (h : (Lib.itoa x).length ≤ 17) (w : World) :
    Calls Tryz.prog 146 #[.string ⟨(Lib.itoa x).toArray⟩] w fun e w' => e = .returned (.tuple #[.int .i64 x, .bool true]) ∧ Q w w' := by
  go_enter Tryz.func146, Tryz.ntmps146
  go_wp2_with fail
  refine (lib_Atoi x (by omega) _).mono ?_
  rintro e w1 ⟨rfl, hq1⟩
  go_wp2
  go_quiet (fail)
  go_wp2
  go_ret2
  exact ⟨rfl, Below.drewN hq1 _⟩
set_option maxHeartbeats 400000 in
theorem root_nativeRoot (n : Nat) (hn : n < 100000000000000000) (w : World) :
    Calls Tryz.prog 199 #[.int .i64 n] w fun e w' => e = .returned (.int .i64 (isqrt n)) ∧ w = w' := by
  by_cases h2 : n < 2
  · have HR := Lib.hid (isqrt_small h2)
    go_enter Tryz.func199, Tryz.ntmps199
    go_wp2
    go_ret
    exact ⟨ret_int (by rw [HR.out]; all_goals rfl), rfl⟩
  · have hs := start_ge (n := n) (by omega)
    have hp57 : (2 : Nat) ^ 57 = 144115188075855872 := by decide
    have hbl : Lib.bitLen n ≤ 57 := bitLen_le (by omega)
    clear hp57
    have HS := Lib.hid hs
    clear hs
    go_enter Tryz.func199, Tryz.ntmps199
    go_wp2_with (go_at_call 116; go_loud (refine (Tryz.bits_Len _ _ (by omega) (by omega)).mono ?_); rintro e w1 ⟨rfl, rfl⟩)
    go_loop [3] (fun x => ∃ r : Nat, 0 < r ∧ r ≤ 1000000000 ∧ x = .int .i64 r ∧ n < (r + 1) * (r + 1)) (fun x => (intOf x).toNat)
    case atStart =>
      have hk : (Lib.bitLen n + 1) / 2 ≤ 29 := by omega
      have h29 : (2 : Nat) ^ ((Lib.bitLen n + 1) / 2) ≤ 2 ^ 29 := Nat.pow_le_pow_right (by decide) hk
      have p29 : (2 : Nat) ^ 29 = 536870912 := by decide
      refine ⟨2 ^ ((Lib.bitLen n + 1) / 2), Nat.pow_pos (by decide), by omega, ?_, HS.out⟩
      have e : ((2 : Int) ^ ((Lib.bitLen n + 1) / 2)) = ((2 ^ ((Lib.bitLen n + 1) / 2) : Nat) : Int) := by simp
      rw [e]
      generalize hg : (2 : Nat) ^ ((Lib.bitLen n + 1) / 2) = g at *
      have : wrap64 ((g : Nat) : Int) = (g : Int) := by unfold wrap64; omega
      rw [this]
    case round =>
      obtain ⟨r, hr0, hr1, rfl, hlt⟩ := hrel
      have HL := Lib.hid hlt
      clear hlt
      have hq : n / r ≤ n := Nat.div_le_self _ _
      have hq1 : (n : Int) / r = ((n / r : Nat) : Int) := by simp
      have hq2 : 0 ≤ (n : Int) / r := Int.ediv_nonneg (by omega) (by omega)
      have hq3 : (n : Int) / r ≤ 100000000000000000 := Int.le_trans (Int.ediv_le_self _ (by omega)) (by omega)
      have hr2 : ((r : Int) == 0) = false := by simp; omega
      have HQ := Lib.hid hq1
      clear hq1
      by_cases hd : r ≤ (r + n / r) / 2
      · have HR := Lib.hid (isqrt_of (newton_done hr0 HL.out hd))
        have hd' : (r : Int) ≤ ((r : Int) + (n : Int) / r) / 2 := by rw [HQ.out]; omega
        clear hd
        go_wp2
        go_ret
        exact ⟨ret_int (by rw [HR.out]; all_goals rfl), rfl⟩
      · have hd' : ((r : Int) + (n : Int) / r) / 2 < r := by rw [HQ.out]; omega
        have HN := Lib.hid (newton_ge (n := n) hr0)
        have hpos : 0 < (r + n / r) / 2 := by
          rcases Nat.eq_zero_or_pos ((r + n / r) / 2) with h0 | h0
          · have := HN.out; rw [h0] at this; omega
          · exact h0
        go_wp2
        go_round
        case rel => exact ⟨(r + n / r) / 2, hpos, by omega, by rw [HQ.out]; go_num, HN.out⟩
        case measure => simp only [intOf]; rw [HQ.out]; omega
end Go.Proofs.YtohonlboaddppaaGreatDoor
