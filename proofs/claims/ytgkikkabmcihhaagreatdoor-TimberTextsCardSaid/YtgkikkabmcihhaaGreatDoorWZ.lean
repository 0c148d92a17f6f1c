/-
  Walks: timber.number, size.
-/
import Derived.Test.YtgkikkabmcihhaaGreatDoorWU
import Derived.Test.YtgkikkabmcihhaaGreatDoorLib
import Derived.Test.YtgkikkabmcihhaaGreatDoorShelfB
import Derived.Lib.SlicesS
namespace Go.Proofs.YtgkikkabmcihhaaGreatDoor
open Go.RowKit Kp

theorem lib_Atoi_any (s : Str) (hs : s.length ≤ 100000) (w : World) (hE : Env w) :
    Calls Tryz.prog 168 #[.string ⟨s.toArray⟩] w fun e w' => Q w w' ∧ ((∃ z, e = .returned (.tuple #[.int .i64 z, .nilIface]) ∧ Lib.atoiAll s = .ok z) ∨ (∃ z T p, e = .returned (.tuple #[.int .i64 z, .iface T p]) ∧ ∀ v, Lib.atoiAll s ≠ .ok v)) := by
  obtain ⟨t1, p1, h1⟩ := hE.errSyntax
  obtain ⟨t2, p2, h2⟩ := hE.errRange
  rcases hx : Lib.atoiAll s with v | _ | _
  · refine (Tryz.strconv_Atoi_ok ⟨s.toArray⟩ (by show s.length ≤ _; omega) v (by simpa using hx) w).mono ?_
    rintro e w' ⟨rfl, rfl | ⟨t, rfl⟩⟩
    · exact ⟨Below.refl _ _, .inl ⟨v, rfl, rfl⟩⟩
    · exact ⟨Joins.below_bytesWorld _ _ _ _ (Nat.le_refl _), .inl ⟨v, rfl, rfl⟩⟩
  · refine (Any.strconv_Atoi_syntax_var Tryz.laysC172 ⟨s.toArray⟩ (by show s.length ≤ _; omega) (by simpa using hx) t1 p1 w h1).mono ?_
    rintro e w' ⟨N, rfl, _, _, hb⟩
    exact ⟨hb, .inr ⟨_, _, _, rfl, fun v h => by cases h⟩⟩
  · refine (Any.strconv_Atoi_range_var Tryz.laysC172 ⟨s.toArray⟩ (by show s.length ≤ _; omega) (by simpa using hx) t2 p2 w h2).mono ?_
    rintro e w' ⟨N, rfl, _, _, hb⟩
    exact ⟨hb, .inr ⟨_, _, _, rfl, fun v h => by cases h⟩⟩

theorem atoi_dec (n : Nat) (hn : n < 10000) : Lib.atoiAll (Lib.decDigits n) = .ok (n : Int) := by
  have h := atoi_itoa (n : Int)
  rw [← dec_eq_itoa] at h
  have hl : (Lib.decDigits n).length ≤ 18 := by have := (decDigits_len_le n 4 (by decide)).2 (by omega); omega
  rw [Lib.atoiAll_short _ hl, h]; rfl

set_option maxHeartbeats 1000000 in
theorem timber_number (s : Str) (hs : s.length ≤ 100000) (w : World) (hE : Env w) :
    Calls Tryz.prog 112 #[.string ⟨s.toArray⟩] w fun e w' => ∃ z, e = .returned (.tuple #[.int .i64 z, .bool (numOk s)]) ∧ Hid (numOk s = true → z = nval s) ∧ Q w w' := by
  by_cases hok : numOk s = true
  · obtain ⟨n, hn, rfl⟩ := numOk_iff.1 hok
    rw [hok]
    have hA := lib_Atoi_any (Lib.decDigits n) hs w hE
    have hI := lib_Itoa (n : Int) (by omega) (by omega)
    rw [← dec_eq_itoa] at hI
    have hl : (Lib.decDigits n).length ≤ 4 := (decDigits_len_le n 4 (by decide)).2 (by omega)
    have HZ : Hid (∀ z, Lib.atoiAll (Lib.decDigits n) = .ok z → z = n) := Lib.hid (fun z hz => by rw [atoi_dec n hn] at hz; injection hz with hz; exact hz.symm)
    have HV : Hid (nval (Lib.decDigits n) = n) := Lib.hid (nval_decDigits n)
    have HB : Hid (∀ v, ¬ (∀ u, Lib.atoiAll (Lib.decDigits n) ≠ .ok u) ∨ v = (0 : Nat)) := Lib.hid (fun v => .inl (fun h => h n (atoi_dec n hn)))
    have hn0 : (0 : Int) ≤ (n : Int) := by omega
    have hd0 : decide ((0 : Int) ≤ (n : Int)) = true := by simp
    have hll : decide (((Lib.decDigits n).length : Int) ≤ 4) = true := by simp; omega
    have hee : (Lib.decDigits n == Lib.decDigits n) = true := by simp
    have HA := Lib.hid hA
    have HI := Lib.hid hI
    clear hA hI hok
    generalize Lib.decDigits n = s at *
    go_enter Tryz.func112, Tryz.ntmps112
    go_wp2_with fail
    refine HA.out.mono ?_
    rintro e w1 ⟨hq1, ⟨z, rfl, hz⟩ | ⟨z, T, p, rfl, hz⟩⟩
    · obtain rfl := HZ.out z hz
      clear hz
      go_wp2_with fail
      refine (HI.out _ (hE.q hq1)).mono ?_
      rintro e w2 ⟨rfl, hq2⟩
      go_wp2
      go_ret2
      exact ⟨_, rfl, Lib.hid (fun _ => HV.out.symm ▸ rfl), hq1.trans (hq2.mono hq1.size)⟩
    · rcases HB.out 1 with h | h
      · exact absurd hz h
      · cases h
  · have hf : numOk s = false := by cases h : numOk s with | true => exact absurd h hok | false => rfl
    rw [hf]
    have HN : Hid (∀ z : Int, 0 ≤ z → s.length ≤ 4 → Lib.itoa z ≠ s) := Lib.hid (fun z hz hl he => hok (numOk_iff.2 ⟨z.toNat, (decDigits_len_le _ 4 (by decide)).1 (by rw [← itoa_nonneg hz, he]; exact hl), by rw [← itoa_nonneg hz, he]⟩))
    clear hok hf
    go_enter Tryz.func112, Tryz.ntmps112
    go_wp2_with fail
    refine (lib_Atoi_any s hs _ hE).mono ?_
    rintro e w1 ⟨hq1, ⟨z, rfl, hz⟩ | ⟨z, T, p, rfl, hz⟩⟩
    · have hzb := Lib.atoiAll_bounds hz
      clear hz
      by_cases h4 : s.length ≤ 4
      · have hll : decide ((s.length : Int) ≤ 4) = true := by simp; omega
        by_cases h0 : 0 ≤ z
        · have hee : (Lib.itoa z == s) = false := by rw [beq_eq_false_iff_ne]; exact HN.out z h0 h4
          have HI := Lib.hid (lib_Itoa z (by omega) (by omega))
          generalize Lib.itoa z = t at *
          go_wp2_with fail
          refine (HI.out _ (hE.q hq1)).mono ?_
          rintro e w2 ⟨rfl, hq2⟩
          go_wp2
          go_ret2
          exact ⟨_, rfl, Lib.hid (fun h => by cases h), hq1.trans (hq2.mono hq1.size)⟩
        · have hd : decide (0 ≤ z) = false := by simpa using h0
          have HI := Lib.hid (lib_Itoa z (by omega) (by omega))
          cases hee : (Lib.itoa z == s) with
          | true =>
            generalize Lib.itoa z = t at *
            go_wp2_with fail
            refine (HI.out _ (hE.q hq1)).mono ?_
            rintro e w2 ⟨rfl, hq2⟩
            go_wp2
            go_ret2
            exact ⟨_, rfl, Lib.hid (fun h => by cases h), hq1.trans (hq2.mono hq1.size)⟩
          | false =>
            generalize Lib.itoa z = t at *
            go_wp2_with fail
            refine (HI.out _ (hE.q hq1)).mono ?_
            rintro e w2 ⟨rfl, hq2⟩
            go_wp2
            go_ret2
            exact ⟨_, rfl, Lib.hid (fun h => by cases h), hq1.trans (hq2.mono hq1.size)⟩
      · have hll : decide ((s.length : Int) ≤ 4) = false := by simp; omega
        go_wp2
        go_ret2
        exact ⟨_, rfl, Lib.hid (fun h => by cases h), hq1⟩
    · go_wp2
      go_ret2
      exact ⟨_, rfl, Lib.hid (fun h => by cases h), hq1⟩

theorem mk_inj {a b : Str} (h : (⟨a.toArray⟩ : ByteArray) = ⟨b.toArray⟩) : a = b := by
  have := congrArg (fun x : ByteArray => x.data.toList) h; simpa using this
theorem idx_words : ∀ (l : List Str) (s : Str) (i : Nat), Lib.idxFromS (l.map fun s => (⟨s.toArray⟩ : ByteArray)) ⟨s.toArray⟩ i = if s ∈ l then ((i + l.idxOf s : Nat) : Int) else -1
  | [], s, i => by simp [Lib.idxFromS]
  | x :: l, s, i => by
    have ih := idx_words l s (i + 1)
    simp only [List.map_cons, Lib.idxFromS]
    by_cases h : x = s
    · subst h
      simp
    · have h1 : ¬ (⟨x.toArray⟩ : ByteArray) = ⟨s.toArray⟩ := fun e => h (mk_inj e)
      have h2 : (x == s) = false := by simpa using h
      rw [if_neg h1, ih, List.idxOf_cons, h2]
      by_cases hm : s ∈ l
      · rw [if_pos hm, if_pos (List.mem_cons_of_mem _ hm)]; simp; omega
      · have : ¬ s ∈ x :: l := fun hx => (List.mem_cons.1 hx).elim (fun e => h e.symm) hm
        rw [if_neg hm, if_neg this]

end Go.Proofs.YtgkikkabmcihhaaGreatDoor
