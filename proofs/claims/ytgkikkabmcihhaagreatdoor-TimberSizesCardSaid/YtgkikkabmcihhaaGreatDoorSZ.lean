/-
  WZ WZb LTexts WKinds LWords PartsM WZc RegB WZd WZe WZf WZg LSizes, one behind the other.
-/
import Derived.Test.YtgkikkabmcihhaaGreatDoorWU
import Derived.Test.YtgkikkabmcihhaaGreatDoorLib
import Derived.Test.YtgkikkabmcihhaaGreatDoorShelfB
import Derived.Lib.SlicesS
import Derived.Test.YtgkikkabmcihhaaGreatDoorWY
import Derived.Test.YtgkikkabmcihhaaGreatDoorWS
import Derived.Test.YtgkikkabmcihhaaGreatDoorWX
import Derived.Test.YtgkikkabmcihhaaGreatDoorShelfC
import Derived.RangeFuncBox
import Derived.RangeFuncLeaves
import Derived.Shelf.Abstract
import Derived.OwnWalkIn
import Derived.TacticsInMore
import Derived.LoopNIn
import Derived.LoopIn
import Derived.Maps.AppendAt
import Derived.Lib.SlicesCompact
import Derived.Test.YtgkikkabmcihhaaGreatDoorTextM
import Derived.Test.YtgkikkabmcihhaaGreatDoorEnv
import Derived.StillTail
import Derived.Deep.RegionHeld3

namespace Go.Proofs.YtgkikkabmcihhaaGreatDoor
open Go.RowKit Kp

theorem lib_Atoi_any (s : Str) (hs : s.length ≤ 100000) (w : World) (hE : Env w) :
    Calls Tryz.prog 168 #[.string ⟨s.toArray⟩] w fun e w' => Q w w' ∧ ((∃ z, e = .returned (.tuple #[.int .i64 z, .nilIface]) ∧ Lib.atoiAll s = .ok z) ∨ (∃ z T p, e = .returned (.tuple #[.int .i64 z, .iface T p]) ∧ ∀ v, Lib.atoiAll s ≠ .ok v)) := by
  obtain ⟨t1, p1, h1⟩ := hE.errSyntax
  obtain ⟨t2, p2, h2⟩ := hE.errRange
  rcases hx : Lib.atoiAll s with v | _ | _
  · refine (Tryz.strconv_Atoi_ok ⟨s.toArray⟩ (by show s.length ≤ _; omega) v (by simpa using hx) w).mono ?_
    rintro e w' ⟨rfl, rfl | ⟨t, rfl⟩⟩
    · exact ⟨Below.refl _ _, .inl ⟨v, rfl, rfl⟩⟩
    · exact ⟨Joins.below_bytesWorld _ _ _ _ (Nat.le_refl _), .inl ⟨v, rfl, rfl⟩⟩
  · refine (Any.strconv_Atoi_syntax_var Tryz.laysC172 ⟨s.toArray⟩ (by show s.length ≤ _; omega) (by simpa using hx) t1 p1 w h1).mono ?_
    rintro e w' ⟨N, rfl, _, _, hb⟩
    exact ⟨hb, .inr ⟨_, _, _, rfl, fun v h => by cases h⟩⟩
  · refine (Any.strconv_Atoi_range_var Tryz.laysC172 ⟨s.toArray⟩ (by show s.length ≤ _; omega) (by simpa using hx) t2 p2 w h2).mono ?_
    rintro e w' ⟨N, rfl, _, _, hb⟩
    exact ⟨hb, .inr ⟨_, _, _, rfl, fun v h => by cases h⟩⟩

theorem atoi_dec (n : Nat) (hn : n < 10000) : Lib.atoiAll (Lib.decDigits n) = .ok (n : Int) := by
  have h := atoi_itoa (n : Int)
  rw [← dec_eq_itoa] at h
  have hl : (Lib.decDigits n).length ≤ 18 := by have := (decDigits_len_le n 4 (by decide)).2 (by omega); omega
  rw [Lib.atoiAll_short _ hl, h]; rfl

set_option maxHeartbeats 1000000 in
theorem timber_number (s : Str) (hs : s.length ≤ 100000) (w : World) (hE : Env w) :
    Calls Tryz.prog 112 #[.string ⟨s.toArray⟩] w fun e w' => ∃ z, e = .returned (.tuple #[.int .i64 z, .bool (numOk s)]) ∧ Hid (numOk s = true → z = nval s) ∧ Q w w' := by
  by_cases hok : numOk s = true
  · obtain ⟨n, hn, rfl⟩ := numOk_iff.1 hok
    rw [hok]
    have hA := lib_Atoi_any (Lib.decDigits n) hs w hE
    have hI := lib_Itoa (n : Int) (by omega) (by omega)
    rw [← dec_eq_itoa] at hI
    have hl : (Lib.decDigits n).length ≤ 4 := (decDigits_len_le n 4 (by decide)).2 (by omega)
    have HZ : Hid (∀ z, Lib.atoiAll (Lib.decDigits n) = .ok z → z = n) := Lib.hid (fun z hz => by rw [atoi_dec n hn] at hz; injection hz with hz; exact hz.symm)
    have HV : Hid (nval (Lib.decDigits n) = n) := Lib.hid (nval_decDigits n)
    have HB : Hid (∀ v, ¬ (∀ u, Lib.atoiAll (Lib.decDigits n) ≠ .ok u) ∨ v = (0 : Nat)) := Lib.hid (fun v => .inl (fun h => h n (atoi_dec n hn)))
    have hn0 : (0 : Int) ≤ (n : Int) := by omega
    have hd0 : decide ((0 : Int) ≤ (n : Int)) = true := by simp
    have hll : decide (((Lib.decDigits n).length : Int) ≤ 4) = true := by simp; omega
    have hee : (Lib.decDigits n == Lib.decDigits n) = true := by simp
    have HA := Lib.hid hA
    have HI := Lib.hid hI
    clear hA hI hok
    generalize Lib.decDigits n = s at *
    go_enter Tryz.func112, Tryz.ntmps112
    go_wp2_with fail
    refine HA.out.mono ?_
    rintro e w1 ⟨hq1, ⟨z, rfl, hz⟩ | ⟨z, T, p, rfl, hz⟩⟩
    · obtain rfl := HZ.out z hz
      clear hz
      go_wp2_with fail
      refine (HI.out _ (hE.q hq1)).mono ?_
      rintro e w2 ⟨rfl, hq2⟩
      go_wp2
      go_ret2
      exact ⟨_, rfl, Lib.hid (fun _ => HV.out.symm ▸ rfl), hq1.trans (hq2.mono hq1.size)⟩
    · rcases HB.out 1 with h | h
      · exact absurd hz h
      · cases h
  · have hf : numOk s = false := by cases h : numOk s with | true => exact absurd h hok | false => rfl
    rw [hf]
    have HN : Hid (∀ z : Int, 0 ≤ z → s.length ≤ 4 → Lib.itoa z ≠ s) := Lib.hid (fun z hz hl he => hok (numOk_iff.2 ⟨z.toNat, (decDigits_len_le _ 4 (by decide)).1 (by rw [← itoa_nonneg hz, he]; exact hl), by rw [← itoa_nonneg hz, he]⟩))
    clear hok hf
    go_enter Tryz.func112, Tryz.ntmps112
    go_wp2_with fail
    refine (lib_Atoi_any s hs _ hE).mono ?_
    rintro e w1 ⟨hq1, ⟨z, rfl, hz⟩ | ⟨z, T, p, rfl, hz⟩⟩
    · have hzb := Lib.atoiAll_bounds hz
      clear hz
      by_cases h4 : s.length ≤ 4
      · have hll : decide ((s.length : Int) ≤ 4) = true := by simp; omega
        by_cases h0 : 0 ≤ z
        · have hee : (Lib.itoa z == s) = false := by rw [beq_eq_false_iff_ne]; exact HN.out z h0 h4
          have HI := Lib.hid (lib_Itoa z (by omega) (by omega))
          generalize Lib.itoa z = t at *
          go_wp2_with fail
          refine (HI.out _ (hE.q hq1)).mono ?_
          rintro e w2 ⟨rfl, hq2⟩
          go_wp2
          go_ret2
          exact ⟨_, rfl, Lib.hid (fun h => by cases h), hq1.trans (hq2.mono hq1.size)⟩
        · have hd : decide (0 ≤ z) = false := by simpa using h0
          have HI := Lib.hid (lib_Itoa z (by omega) (by omega))
          cases hee : (Lib.itoa z == s) with
          | true =>
            generalize Lib.itoa z = t at *
            go_wp2_with fail
            refine (HI.out _ (hE.q hq1)).mono ?_
            rintro e w2 ⟨rfl, hq2⟩
            go_wp2
            go_ret2
            exact ⟨_, rfl, Lib.hid (fun h => by cases h), hq1.trans (hq2.mono hq1.size)⟩
          | false =>
            generalize Lib.itoa z = t at *
            go_wp2_with fail
            refine (HI.out _ (hE.q hq1)).mono ?_
            rintro e w2 ⟨rfl, hq2⟩
            go_wp2
            go_ret2
            exact ⟨_, rfl, Lib.hid (fun h => by cases h), hq1.trans (hq2.mono hq1.size)⟩
      · have hll : decide ((s.length : Int) ≤ 4) = false := by simp; omega
        go_wp2
        go_ret2
        exact ⟨_, rfl, Lib.hid (fun h => by cases h), hq1⟩
    · go_wp2
      go_ret2
      exact ⟨_, rfl, Lib.hid (fun h => by cases h), hq1⟩

theorem mk_inj {a b : Str} (h : (⟨a.toArray⟩ : ByteArray) = ⟨b.toArray⟩) : a = b := by
  have := congrArg (fun x : ByteArray => x.data.toList) h; simpa using this
theorem idx_words : ∀ (l : List Str) (s : Str) (i : Nat), Lib.idxFromS (l.map fun s => (⟨s.toArray⟩ : ByteArray)) ⟨s.toArray⟩ i = if s ∈ l then ((i + l.idxOf s : Nat) : Int) else -1
  | [], s, i => by simp [Lib.idxFromS]
  | x :: l, s, i => by
    have ih := idx_words l s (i + 1)
    simp only [List.map_cons, Lib.idxFromS]
    by_cases h : x = s
    · subst h
      simp
    · have h1 : ¬ (⟨x.toArray⟩ : ByteArray) = ⟨s.toArray⟩ := fun e => h (mk_inj e)
      have h2 : (x == s) = false := by simpa using h
      rw [if_neg h1, ih, List.idxOf_cons, h2]
      by_cases hm : s ∈ l
      · rw [if_pos hm, if_pos (List.mem_cons_of_mem _ hm)]; simp; omega
      · have : ¬ s ∈ x :: l := fun hx => (List.mem_cons.1 hx).elim (fun e => h e.symm) hm
        rw [if_neg hm, if_neg this]

end Go.Proofs.YtgkikkabmcihhaaGreatDoor

namespace Go.Proofs.YtgkikkabmcihhaaGreatDoor
open Go.RowKit Kp

theorem lib_Cut (c : UInt8) (s : Str) (hs : s.length < 4294967281) (w : World) (hE : Env w) :
    Calls Tryz.prog 55 #[.string ⟨s.toArray⟩, .string ⟨#[c]⟩] w fun e w' => e = .returned (.tuple #[.string ⟨(bef c s).toArray⟩, .string ⟨(aft c s).toArray⟩, .bool (has c s)]) ∧ Q w w' := by
  obtain ⟨m, hm⟩ := hE.maxlen
  refine (Tryz.strings_Cut ⟨s.toArray⟩ ⟨#[c]⟩ m w hs hm).mono ?_
  rintro e w' ⟨rfl, n, rfl⟩
  exact ⟨by simp only [cut_one], Below.drewN (Below.refl _ _) n⟩

theorem lib_IndexWords (s : Str) (w : World) (hE : Env w) :
    Calls Tryz.prog 111 #[.slice (some ⟨0, 0, none⟩) 13 13, .string ⟨s.toArray⟩] w fun e w' => ∃ r : Int, e = .returned (.int .i64 r) ∧ Hid (r = if s ∈ wordStrs then ((wordStrs.idxOf s : Nat) : Int) else -1) ∧ w = w' := by
  have h := Tryz.slices_Index_string 0 0 13 13 (wordStrs.map fun s => (⟨s.toArray⟩ : ByteArray)) ⟨s.toArray⟩ w (by decide) (by decide) (fun j hj => by
    have hj' : j < wordStrs.length := by simpa using hj
    rw [Nat.zero_add, hE.words.cell j hj']
    simp [List.getD_eq_getElem?_getD, List.getElem?_eq_getElem hj'])
  refine h.mono ?_
  rintro e w' ⟨rfl, rfl⟩
  refine ⟨_, rfl, Lib.hid ?_, rfl⟩
  have := idx_words wordStrs s 0
  rw [Nat.zero_add] at this
  rw [← this]; rfl

/-- Whether a line is right, as the program asks it. -/
theorem lineOk_parts (s : Str) (K : Int) (h : K = if bef 32 s ∈ wordStrs then ((wordStrs.idxOf (bef 32 s) : Nat) : Int) else -1) :
    lineOk s = (has 32 (aft 32 s) && (!(bef 32 s == [])) && decide (0 < K) && numOk (bef 32 (aft 32 s)) && numOk (aft 32 (aft 32 s))) := by
  unfold lineOk
  by_cases hm : bef 32 s ∈ wordStrs
  · rw [if_pos hm] at h
    by_cases he : bef 32 s = []
    · simp [he]
    · have h0 : wordStrs.idxOf (bef 32 s) ≠ 0 := by
        intro e
        have := List.getElem_idxOf (List.idxOf_lt_length_of_mem hm)
        simp only [e] at this
        exact he this.symm
      have : decide (0 < K) = true := by simp; omega
      have he3 : List.isEmpty (bef 32 s) = false := by simpa using he
      rw [this]; simp [he, hm, he3]
  · rw [if_neg hm] at h
    have : decide (0 < K) = false := by simp; omega
    rw [this]; simp [hm]

set_option maxRecDepth 100000 in
set_option maxHeartbeats 2000000 in
theorem timber_size (s : Str) (hs : s.length ≤ 100000) (w : World) (hE : Env w) :
    Calls Tryz.prog 56 #[.string ⟨s.toArray⟩] w fun e w' => ∃ z, e = .returned (.tuple #[szV z, .bool (lineOk s)]) ∧ Hid (lineOk s = true → z = lineSz s) ∧ Q w w' := by
  have l1 : (bef 32 s).length ≤ 100000 := Nat.le_trans (bef_len s) hs
  have l2 : (aft 32 s).length ≤ 100000 := Nat.le_trans (aft_len s) hs
  have l3 : (bef 32 (aft 32 s)).length ≤ 100000 := Nat.le_trans (bef_len _) l2
  have l4 : (aft 32 (aft 32 s)).length ≤ 100000 := Nat.le_trans (aft_len _) l2
  have HC1 := Lib.hid (lib_Cut 32 s (by omega))
  have HC2 := Lib.hid (lib_Cut 32 (aft 32 s) (by omega))
  have HI := Lib.hid (lib_IndexWords (bef 32 s))
  have HN1 := Lib.hid (timber_number (bef 32 (aft 32 s)) l3)
  have HN2 := Lib.hid (timber_number (aft 32 (aft 32 s)) l4)
  have HP := Lib.hid (lineOk_parts s)
  have HZ : Hid (∀ K z1 z2 : Int, K = (if bef 32 s ∈ wordStrs then ((wordStrs.idxOf (bef 32 s) : Nat) : Int) else -1) → (numOk (bef 32 (aft 32 s)) = true → z1 = nval (bef 32 (aft 32 s))) → (numOk (aft 32 (aft 32 s)) = true → z2 = nval (aft 32 (aft 32 s))) → lineOk s = true → (⟨K, z1, z2⟩ : Sz) = lineSz s) := Lib.hid (fun K z1 z2 hK h1 h2 hl => by
    unfold lineOk at hl
    simp only [Bool.and_eq_true, decide_eq_true_eq] at hl
    obtain ⟨⟨⟨⟨_, _⟩, hm⟩, h4⟩, h5⟩ := hl
    rw [if_pos hm] at hK
    unfold lineSz
    rw [hK, h1 h4, h2 h5])
  clear l1 l2 l3 l4
  generalize lineOk s = R at *
  generalize lineSz s = Z at *
  generalize has 32 (aft 32 s) = b1 at *
  generalize has 32 s = b0 at *
  generalize numOk (bef 32 (aft 32 s)) = b2 at *
  generalize numOk (aft 32 (aft 32 s)) = b3 at *
  generalize nval (bef 32 (aft 32 s)) = n2 at *
  generalize nval (aft 32 (aft 32 s)) = n3 at *
  generalize bef 32 (aft 32 s) = s2 at *
  generalize aft 32 (aft 32 s) = s3 at *
  generalize aft 32 s = s1 at *
  generalize bef 32 s = s0 at *
  go_enter Tryz.func56, Tryz.ntmps56
  go_wp2_with fail
  have hq0 : Q w (w.alloc (.cells #[.int .i64 0, .int .i64 0, .int .i64 0] 35)) := (by repeat (first | exact Below.refl _ _ | assumption | refine below_drewN ?_ _ | refine Below.drew ?_ | refine Below.alloc ?_ (by first | (simp; done) | (simp; omega)) _ | refine Below.setCell ?_ (by first | (simp; done) | (simp; omega)) _))
  have B0 := Blk.new w [.int .i64 0, .int .i64 0, .int .i64 0] 35
  refine (HC1.out _ (hE.q hq0)).mono ?_
  rintro e w1 ⟨rfl, hq1⟩
  have hQ1 := hq0.trans (hq1.mono hq0.size)
  have B1 := B0.keep hq1 (by simp)
  clear hq0 hq1 B0
  go_wp2_with fail
  refine (HC2.out _ (hE.q hQ1)).mono ?_
  rintro e w2 ⟨rfl, hq2⟩
  have hQ2 := hQ1.trans (hq2.mono hQ1.size)
  have B2 := B1.keep hq2 B1.lt
  clear hQ1 hq2 B1
  go_wp2_with fail
  refine (HI.out _ (hE.q hQ2)).mono ?_
  rintro e w3 ⟨K, rfl, HK, rfl⟩
  go_wp2_with fail
  refine (HN1.out _ (hE.q hQ2)).mono ?_
  rintro e w3 ⟨z1, rfl, HZ1, hq3⟩
  have hQ3 := hQ2.trans (hq3.mono hQ2.size)
  have B3 := B2.keep hq3 B2.lt
  clear hQ2 hq3 B2
  go_wp2_with fail
  refine (HN2.out _ (hE.q hQ3)).mono ?_
  rintro e w4 ⟨z2, rfl, HZ2, hq4⟩
  have hQ4 := hQ3.trans (hq4.mono hQ3.size)
  have B4 := B3.keep hq4 B3.lt
  clear hQ3 hq4 B3
  have c0 := B4.cell 0
  have c1 := B4.cell 1
  have c2 := B4.cell 2
  have f0 := B4.frozen 0
  have f1 := B4.frozen 1
  have f2 := B4.frozen 2
  have l4 := B4.lt
  simp only [List.getElem?_cons_zero, List.getElem?_cons_succ] at c0 c1 c2
  have HF : Hid (R = true → (⟨K, z1, z2⟩ : Sz) = Z) := Lib.hid (HZ.out K z1 z2 HK.out HZ1.out HZ2.out)
  have HR : Hid (R = (b1 && (!(s0 == [])) && decide (0 < K) && b2 && b3)) := Lib.hid (HP.out K HK.out)
  have hend : ∀ W', W' = ((w4.setCell ⟨w.heap.size, 0, none⟩ (.int .i64 K)).setCell ⟨w.heap.size, 1, none⟩ (.int .i64 z1)).setCell ⟨w.heap.size, 2, none⟩ (.int .i64 z2) → Q w W' := fun W' e => by
    rw [e]; exact ((hQ4.setCell (p := ⟨w.heap.size, 0, none⟩) (Nat.le_refl _) _).setCell (p := ⟨w.heap.size, 1, none⟩) (Nat.le_refl _) _).setCell (p := ⟨w.heap.size, 2, none⟩) (Nat.le_refl _) _
  have HEnd := Lib.hid hend
  clear HC1 HC2 HI HN1 HN2 HP HZ HK HZ1 HZ2 hend
  cases b1 with
  | false =>
    go_wp2
    refine bodyPost_ret (v := .tuple #[.agg #[.int .i64 K, .int .i64 z1, .int .i64 z2], .bool false]) (ret_refFind _ _ w.heap.size _ _ _ _ 2 3 _ rfl rfl rfl ((((B4.set 0 _).set 1 _).set 2 _).cell 0) ((((B4.set 0 _).set 1 _).set 2 _).cell 1) ((((B4.set 0 _).set 1 _).set 2 _).cell 2)) rfl ⟨⟨K, z1, z2⟩, by rw [HR.out]; rfl, HF, HEnd.out _ rfl⟩
  | true =>
    cases hw : (s0 == []) with
    | true =>
      rw [hw] at HR
      go_wp2
      refine bodyPost_ret (v := .tuple #[.agg #[.int .i64 K, .int .i64 z1, .int .i64 z2], .bool false]) (ret_refFind _ _ w.heap.size _ _ _ _ 2 3 _ rfl rfl rfl ((((B4.set 0 _).set 1 _).set 2 _).cell 0) ((((B4.set 0 _).set 1 _).set 2 _).cell 1) ((((B4.set 0 _).set 1 _).set 2 _).cell 2)) rfl ⟨⟨K, z1, z2⟩, by rw [HR.out]; rfl, HF, HEnd.out _ rfl⟩
    | false =>
      rw [hw] at HR
      have hw2 : (!(s0 == [])) = true := by rw [hw]; rfl
      cases hk : decide (0 < K) with
      | false =>
        rw [hk] at HR
        go_wp2
        refine bodyPost_ret (v := .tuple #[.agg #[.int .i64 K, .int .i64 z1, .int .i64 z2], .bool false]) (ret_refFind _ _ w.heap.size _ _ _ _ 2 3 _ rfl rfl rfl ((((B4.set 0 _).set 1 _).set 2 _).cell 0) ((((B4.set 0 _).set 1 _).set 2 _).cell 1) ((((B4.set 0 _).set 1 _).set 2 _).cell 2)) rfl ⟨⟨K, z1, z2⟩, by rw [HR.out]; rfl, HF, HEnd.out _ rfl⟩
      | true =>
        rw [hk] at HR
        cases b2 with
        | false =>
          go_wp2
          refine bodyPost_ret (v := .tuple #[.agg #[.int .i64 K, .int .i64 z1, .int .i64 z2], .bool false]) (ret_refFind _ _ w.heap.size _ _ _ _ 2 3 _ rfl rfl rfl ((((B4.set 0 _).set 1 _).set 2 _).cell 0) ((((B4.set 0 _).set 1 _).set 2 _).cell 1) ((((B4.set 0 _).set 1 _).set 2 _).cell 2)) rfl ⟨⟨K, z1, z2⟩, by rw [HR.out]; rfl, HF, HEnd.out _ rfl⟩
        | true =>
          go_wp2
          refine bodyPost_ret (v := .tuple #[.agg #[.int .i64 K, .int .i64 z1, .int .i64 z2], .bool b3]) (ret_refFind _ _ w.heap.size _ _ _ _ 2 3 _ rfl rfl rfl ((((B4.set 0 _).set 1 _).set 2 _).cell 0) ((((B4.set 0 _).set 1 _).set 2 _).cell 1) ((((B4.set 0 _).set 1 _).set 2 _).cell 2)) rfl ⟨⟨K, z1, z2⟩, by rw [HR.out]; rfl, HF, HEnd.out _ rfl⟩

/-- What Parse answers. -/
def ParseRes (s : Str) (v : Value) (er : Int) (w : World) : Prop :=
  (parseL s = none ∧ v = .slice none 0 0 ∧ er = 3) ∨ ∃ l, parseL s = some l ∧ ((scheck l [] ≠ 0 ∧ v = .slice none 0 0 ∧ er = scheck l []) ∨ (scheck l [] = 0 ∧ er = 0 ∧ SzSl w v l))

set_option maxRecDepth 100000 in
set_option maxHeartbeats 2000000 in
theorem timber_Parse (s : Str) (hs : s.length ≤ 60000) (w : World) (hE : Env w) :
    Calls Tryz.prog 24 #[.string ⟨s.toArray⟩] w fun e w' => ∃ v er, e = .returned (.tuple #[v, .int .i64 er]) ∧ Hid (ParseRes s v er w') ∧ Q w w' := by
  obtain ⟨i0, hi, hz0, hz1, hz2⟩ := info_parts infoSize
  have hl0 : decide ((65536 : Int) < (s.length : Int)) = false := by simp; omega
  go_enter Tryz.func24, Tryz.ntmps24
  go_wp2
  go_loopw [0, 4] (fun sv ov wr => ∃ (rest : Str) (l : List Sz) (o : Value), sv = .string ⟨rest.toArray⟩ ∧ o = ov ∧ l.length + rest.length ≤ s.length ∧ Hid (parseL s = (parseL rest).map (l ++ ·)) ∧ wr.ownsRow w.heap.size 35 3 o l.length (szCells l) ∧ Q w wr) (fun sv _ _ => match sv with | .string b => b.size | _ => 0)
  case atStart => exact ⟨s, [], _, rfl, rfl, by simp, Lib.hid (by cases parseL s <;> rfl), World.ownsRow_nil _ _ _ _, Below.refl _ _⟩
  case round =>
    obtain ⟨rest, l, o, rfl, rfl, hlen, HP0, hown, hQ⟩ := hrel
    have HP := Lib.hid HP0.out
    clear HP0
    by_cases hr : rest = []
    · subst hr
      have HL : Hid (parseL s = some l) := Lib.hid (by rw [HP.out, parseL_nil]; simp)
      clear HP
      have hO := szOwn_of hown
      have hsl := hO.sl
      have hln : l.length < 4611686018427387904 := by omega
      go_wp2_with fail
      refine (timber_Check l hln _ _ hsl).mono ?_
      rintro e w1 ⟨rfl, hq1⟩
      have hsl1 := hsl.keep hq1
      have hQ1 := hQ.trans (hq1.mono hQ.size)
      by_cases hsc : scheck l [] = 0
      · have HX : Hid (ParseRes s o 0 w1) := Lib.hid (.inr ⟨l, HL.out, .inr ⟨hsc, rfl, hsl1⟩⟩)
        rw [hsc]
        go_wp2
        go_ret2
        exact ⟨_, _, rfl, HX, hQ1⟩
      · have HX : Hid (ParseRes s (.slice none 0 0) (scheck l []) w1) := Lib.hid (.inr ⟨l, HL.out, .inl ⟨hsc, rfl, rfl⟩⟩)
        have hb : (scheck l [] != 0) = true := by rw [bne_iff_ne]; exact hsc
        clear hsc
        generalize scheck l [] = x at *
        go_wp2
        go_ret2
        exact ⟨_, _, rfl, HX, hQ1⟩
    · have hre : (rest == []) = false := by simpa using hr
      have hre2 : (!(rest == [])) = true := by rw [hre]; rfl
      have lb : (bef 10 rest).length ≤ 100000 := Nat.le_trans (bef_len rest) (by omega)
      have la := aft_len (c := 10) rest
      have HC := Lib.hid (lib_Cut 10 rest (by omega))
      have HS := Lib.hid (timber_size (bef 10 rest) lb)
      cases hh : has 10 rest with
      | false =>
        have HX : Hid (∀ W, ParseRes s (.slice none 0 0) 3 W) := Lib.hid (fun W => .inl ⟨by rw [HP.out, parseL_bad hr (.inl hh)]; rfl, rfl, rfl⟩)
        rw [hh] at HC
        clear HP hh lb la hown
        generalize bef 10 rest = ln at *
        generalize aft 10 rest = rs at *
        generalize lineOk ln = ok at *
        generalize lineSz ln = sz at *
        go_wp2_with fail
        refine (HC.out _ (hE.q hQ)).mono ?_
        rintro e w1 ⟨rfl, hq1⟩
        have hQ1 := hQ.trans (hq1.mono hQ.size)
        go_wp2_with fail
        refine (HS.out _ (hE.q hQ1)).mono ?_
        rintro e w2 ⟨⟨zk, zw, zd⟩, rfl, HZ, hq2⟩
        have hQ2 := hQ1.trans (hq2.mono hQ1.size)
        unfold szV
        go_wp2
        go_ret2
        exact ⟨_, _, rfl, Lib.hid (HX.out _), hQ2.alloc hQ2.size _⟩
      | true =>
        have lt := aft_lt rest hh
        rw [hh] at HC
        cases hk : lineOk (bef 10 rest) with
        | false =>
          have HX : Hid (∀ W, ParseRes s (.slice none 0 0) 3 W) := Lib.hid (fun W => .inl ⟨by rw [HP.out, parseL_bad hr (.inr hk)]; rfl, rfl, rfl⟩)
          rw [hk] at HS
          clear HP hh lb la lt hown hk
          generalize bef 10 rest = ln at *
          generalize aft 10 rest = rs at *
          generalize lineSz ln = sz at *
          go_wp2_with fail
          refine (HC.out _ (hE.q hQ)).mono ?_
          rintro e w1 ⟨rfl, hq1⟩
          have hQ1 := hQ.trans (hq1.mono hQ.size)
          go_wp2_with fail
          refine (HS.out _ (hE.q hQ1)).mono ?_
          rintro e w2 ⟨⟨zk, zw, zd⟩, rfl, HZ, hq2⟩
          have hQ2 := hQ1.trans (hq2.mono hQ1.size)
          unfold szV
          go_wp2
          go_ret2
          exact ⟨_, _, rfl, Lib.hid (HX.out _), hQ2.alloc hQ2.size _⟩
        | true =>
          have HX : Hid (parseL s = (parseL (aft 10 rest)).map ((l ++ [lineSz (bef 10 rest)]) ++ ·)) := Lib.hid (by
            rw [HP.out, parseL_cons hr hh hk, Option.map_map]; congr 1; funext m; simp)
          rw [hk] at HS
          clear HP hh lb la hk
          generalize bef 10 rest = ln at *
          generalize aft 10 rest = rs at *
          generalize lineSz ln = sz at *
          go_wp2_with fail
          refine (HC.out _ (hE.q hQ)).mono ?_
          rintro e w1 ⟨rfl, hq1⟩
          have hQ1 := hQ.trans (hq1.mono hQ.size)
          have ho1 := ownsRow_keep hown hq1
          go_wp2_with fail
          refine (HS.out _ (hE.q hQ1)).mono ?_
          rintro e w2 ⟨z, rfl, HZ, hq2⟩
          obtain rfl : z = sz := HZ.out (by trivial)
          have hQ2 := hQ1.trans (hq2.mono hQ1.size)
          have ho2 := ownsRow_keep ho1 hq2
          clear hown ho1 hq1 hq2 hQ1 HZ
          obtain ⟨zk, zw, zd⟩ := z
          unfold szV
          have hnl : l.length + 1 ≤ 100000 := by omega
          have B2 := Blk.new w2 [.int .i64 zk, .int .i64 zw, .int .i64 zd] 35
          have hq3 : Q w2 (w2.alloc (.cells [.int .i64 zk, .int .i64 zw, .int .i64 zd].toArray 35)) := (Below.refl _ _).alloc (Nat.le_refl _) _
          have ho3 := ownsRow_keep ho2 hq3
          have hQ3 := hQ2.trans (hq3.mono hQ2.size)
          have hws := hQ2.size
          have hsc : szCells (l ++ [⟨zk, zw, zd⟩]) = szCells l ++ [.int .i64 zk, .int .i64 zw, .int .i64 zd] := by unfold szCells; rw [List.flatMap_append]; rfl
          have HSC := Lib.hid hsc
          have c0 := B2.cell 0
          have c1 := B2.cell 1
          have c2 := B2.cell 2
          simp only [List.getElem?_cons_zero, List.getElem?_cons_succ] at c0 c1 c2
          clear hq3 ho2 hQ2 hsc
          go_wp2_with (at_builtin; refine wpList_append_own _ rfl (.tmp 33) (.tmp 35) 31 rfl w.heap.size 35 i0 _ 3 24 Tryz.underlying31 hi hz0 hz1 hz2 rfl (by decide) _ l.length (szCells l) rfl (ownsRow_keep ho3 ((Below.refl _ _).alloc (Nat.le_refl _) _)) ⟨w2.heap.size + 1, 0, none⟩ 1 1 [.int .i64 zk, .int .i64 zw, .int .i64 zd] rfl rfl ?qc2 ?qc3 ?qc4 ?qc5 ?qc6 ?_)
          case qc2 =>
            intro j u hj
            have hB := (Blk.new (w2.alloc (Obj.cells [.int .i64 zk, .int .i64 zw, .int .i64 zd].toArray 35)) [.int .i64 zk, .int .i64 zw, .int .i64 zd] 35).cell j
            rw [World.size_alloc] at hB
            rw [Addr.add_lit, Nat.zero_add]
            exact hB.trans hj
          case qc3 =>
            intro u hu
            simp only [List.mem_cons, List.not_mem_nil, or_false] at hu
            rcases hu with rfl | rfl | rfl <;> rfl
          case qc4 => unfold maxLen; omega
          case qc5 => omega
          case qc6 => simp; omega
          intro v' w4 hown4 hgrow4 _
          have hQ4 : Q w w4 := (hQ3.alloc hQ3.size _).grown hgrow4 (by simp; omega) (fun k hk => (ho3.lt k hk).1)
          have HO : Hid (w4.ownsRow w.heap.size 35 3 v' (l ++ [(⟨zk, zw, zd⟩ : Sz)]).length (szCells (l ++ [⟨zk, zw, zd⟩]))) := Lib.hid (by rw [HSC.out, List.length_append]; exact hown4)
          clear hown4 hgrow4 ho3 hQ3 c0 c1 c2 B2 HS HC
          go_wp2
          go_roundw
          case rel => exact ⟨rs, l ++ [⟨zk, zw, zd⟩], v', rfl, rfl, by simp; omega, HX, HO.out, hQ4⟩
          case measure => show rs.length < rest.length; omega

end Go.Proofs.YtgkikkabmcihhaaGreatDoor

namespace Go.Proofs.YtgkikkabmcihhaaGreatDoor
open Go.RowKit Kp

theorem neqSz (s : Sz) (w : World) : (binOp .neq 35 (szV s) (szV s)).run Tryz.prog w = .ok (.bool false) w := by
  have h := eqSz s s w
  rw [decide_eq_true (rfl : s = s)] at h
  unfold szV at *
  rw [run_eql_struct] at h
  rw [run_neq_struct]
  cases hx : (Op.equalIn 10000 35 (.agg #[.int .i64 s.k, .int .i64 s.w, .int .i64 s.d]) (.agg #[.int .i64 s.k, .int .i64 s.w, .int .i64 s.d])).run Tryz.prog w with
  | ok b w1 =>
    rw [hx] at h
    simp only [Result.andThen_ok, Result.ok.injEq, Value.bool.injEq] at h
    obtain ⟨rfl, rfl⟩ := h
    rfl
  | halt a b => rw [hx] at h; cases h

set_option maxHeartbeats 1000000 in
theorem equal_size (l : List Sz) (hln : l.length < 4611686018427387904) (v1 v2 : Value) (w : World) (h1 : SzSl w v1 l) (h2 : SzSl w v2 l) :
    Calls Tryz.prog 26 #[v1, v2] w fun e w' => e = .returned (.bool true) ∧ Q w w' := by
  rcases h1.cases with ⟨rfl, a, cap, rfl⟩ | ⟨b, o, cap, rfl, hA⟩
  · obtain ⟨a2, cap2, rfl, -⟩ := h2
    clear h1
    go_enter Tryz.func26, Tryz.ntmps26
    go_wp2
    go_loopw [13] (fun i wr => i = .int .i64 0 ∧ Q w wr) (fun _ _ => 0)
    case atStart => exact ⟨rfl, Below.refl _ _⟩
    case round =>
      obtain ⟨rfl, hQ⟩ := hrel
      go_wp2
      go_ret
      exact ⟨rfl, hQ⟩
  · rcases h2.cases with ⟨rfl, a2, cap2, rfl⟩ | ⟨b2, o2, cap2, rfl, hB⟩
    · clear h1 h2 hA
      go_enter Tryz.func26, Tryz.ntmps26
      go_wp2
      go_loopw [13] (fun i wr => i = .int .i64 0 ∧ Q w wr) (fun _ _ => 0)
      case atStart => exact ⟨rfl, Below.refl _ _⟩
      case round =>
        obtain ⟨rfl, hQ⟩ := hrel
        go_wp2
        go_ret
        exact ⟨rfl, hQ⟩
    · clear h1 h2
      have HA := Lib.hid hA
      have HB := Lib.hid hB
      clear hA hB
      go_enter Tryz.func26, Tryz.ntmps26
      go_wp2
      go_loopw [13] (fun i wr => ∃ k : Nat, k ≤ l.length ∧ i = .int .i64 k ∧ Q w wr) (fun i _ => l.length - (intOf i).toNat)
      case atStart => exact ⟨0, by omega, rfl, Below.refl _ _⟩
      case round =>
        obtain ⟨k, hk, rfl, hQ⟩ := hrel
        by_cases hlt : k < l.length
        · have HA2 := Lib.hid (HA.out.keep hQ HA.out.1)
          have HB2 := Lib.hid (HB.out.keep hQ HB.out.1)
          obtain ⟨d0, d1, d2⟩ := HA2.out.2 k hlt
          obtain ⟨e0, e1, e2⟩ := HB2.out.2 k hlt
          have hk0 : (0 : Int) ≤ (k : Int) := by omega
          have hkl : (k : Int) < (l.length : Int) := by omega
          have R := neqSz (l.getD k ⟨0, 0, 0⟩)
          unfold szV at R
          generalize l.getD k ⟨0, 0, 0⟩ = s at d0 d1 d2 e0 e1 e2 R
          go_wp2
          go_quiet (fail)
          go_wp2
          go_roundw
          case rel => exact ⟨k + 1, by omega, by go_num, (by repeat (first | exact Below.refl _ _ | assumption | refine below_drewN ?_ _ | refine Below.drew ?_ | refine Below.alloc ?_ (by first | (simp; done) | (simp; omega)) _ | refine Below.setCell ?_ (by first | (simp; done) | (simp; omega)) _))⟩
          case measure => simp [intOf]; omega
        · obtain rfl : k = l.length := by omega
          go_wp2
          go_ret
          exact ⟨rfl, hQ⟩

theorem lib_Count10 (s : Str) (w : World) : Calls Tryz.prog 27 #[.string ⟨s.toArray⟩, .string ⟨#[10]⟩] w fun e w' => e = .returned (.int .i64 (s.count 10 : Nat)) ∧ w = w' := by
  refine (Tryz.strings_Count_one ⟨s.toArray⟩ 10 w).mono ?_
  rintro e w' ⟨rfl, rfl⟩
  exact ⟨rfl, rfl⟩

theorem len_le_sprint : ∀ (l : List Sz), l.length ≤ (sprint l).length
  | [] => by simp
  | s :: l => by
    have := len_le_sprint l
    rw [sprint_cons, List.length_append, List.length_cons, List.length_cons]; omega

set_option maxRecDepth 100000 in
set_option maxHeartbeats 4000000 in
theorem texts_walk (l : List Sz) (hln : l.length < 4611686018427387904) (s : Str) (hsl : s.length ≤ 9223372036854775807) (v : Value) (w : World) (hE : Env w) (hl : SzSl w v l) :
    Calls Tryz.prog 6 #[v, .string ⟨s.toArray⟩] w fun e w' => e = .returned (.bool true) ∧ Q w w' := by
  have HG := ref36_Great l v w hl hln
  by_cases h16 : 16 < l.length
  · rw [decide_eq_true h16] at HG
    have HG := Lib.hid HG
    clear h16
    obtain ⟨a, cap, rfl, -⟩ := hl
    go_enter Tryz.func6, Tryz.ntmps6
    go_wp2_with fail
    refine HG.out.mono ?_
    rintro e w1 ⟨rfl, rfl⟩
    go_wp2_with fail
    refine (awake_any _ hE).mono ?_
    rintro e w1 ⟨rfl, hq1⟩
    go_wp2
    go_ret
    exact ⟨rfl, hq1⟩
  · rw [decide_eq_false h16] at HG
    have HG := Lib.hid HG
    have HL := Lib.hid hl
    by_cases h200 : 200 < s.length
    · have hd : decide ((200 : Int) < (s.length : Int)) = true := by simp; omega
      obtain ⟨a, cap, rfl, -⟩ := hl
      go_enter Tryz.func6, Tryz.ntmps6
      go_wp2_with fail
      refine HG.out.mono ?_
      rintro e w1 ⟨rfl, rfl⟩
      go_wp2_with fail
      refine (awake_any _ hE).mono ?_
      rintro e w1 ⟨rfl, hq1⟩
      go_wp2
      go_ret
      exact ⟨rfl, hq1⟩
    · have hd : decide ((200 : Int) < (s.length : Int)) = false := by simp; omega
      have HP := Lib.hid (timber_Parse s (by omega))
      clear hl
      go_enter Tryz.func6, Tryz.ntmps6
      go_wp2_with fail
      refine HG.out.mono ?_
      rintro e w1 ⟨rfl, rfl⟩
      go_wp2_with fail
      refine (HP.out _ hE).mono ?_
      rintro e w1 ⟨v1, er, rfl, HR1, hq1⟩
      rcases HR1.out with ⟨hn, rfl, rfl⟩ | ⟨m, hm, hr⟩
      · clear hn HR1
        have hQa := hq1
        clear hq1
        have HLa := Lib.hid (HL.out.keep hQa)
        by_cases hsc : scheck l [] = 0
        · have hall := ((scheck_zero l []).1 hsc).1
          have HPl := Lib.hid (timber_Print l (by omega) v _ (hE.q hQa) HLa.out hsc)
          have hlen2 : (sprint l).length ≤ 60000 := by have := sprint_len0 l hall; omega
          have HPa := Lib.hid (timber_Parse (sprint l) hlen2)
          have HR : Hid (∀ v' er W, ParseRes (sprint l) v' er W → er = 0 ∧ SzSl W v' l) := Lib.hid (fun v' er W h => by
            rcases h with ⟨h, _⟩ | ⟨m, hm, h⟩
            · rw [parse_print l hall] at h; cases h
            · rw [parse_print l hall] at hm; injection hm with hm; subst hm
              rcases h with ⟨h, _⟩ | ⟨_, h1, h2⟩
              · exact absurd hsc h
              · exact ⟨h1, h2⟩)
          have HCt : Hid (((sprint l).count 10 : Nat) = l.length) := Lib.hid (count_print l hall)
          have HCn := Lib.hid (lib_Count10 (sprint l))
          clear hsc hall hlen2
          generalize sprint l = t at *
          obtain ⟨a, cap, rfl, -⟩ := HLa.out
          go_wp2_with fail
          refine HPl.out.mono ?_
          rintro e wb ⟨rfl, hqb⟩
          have hQb := hQa.trans (hqb.mono hQa.size)
          clear hqb
          go_wp2_with fail
          refine (HPa.out _ (hE.q hQb)).mono ?_
          rintro e wc ⟨vc, er, rfl, HRc, hqc⟩
          obtain ⟨rfl, hslc⟩ := HR.out _ _ _ HRc.out
          have hQc := hQb.trans (hqc.mono hQb.size)
          clear hqc HRc
          go_wp2_with fail
          refine (equal_size l hln vc _ _ hslc (HL.out.keep hQc)).mono ?_
          rintro e wd ⟨rfl, hqd⟩
          have hQd := hQc.trans (hqd.mono hQc.size)
          clear hqd hslc
          go_wp2_with fail
          refine (HCn.out _).mono ?_
          rintro e we ⟨rfl, rfl⟩
          rw [HCt.out]
          go_wp2_with fail
          refine (awake_any _ (hE.q hQd)).mono ?_
          rintro e wf ⟨rfl, hqf⟩
          go_wp2
          go_ret
          exact ⟨rfl, hQd.trans (hqf.mono hQd.size)⟩
        · have HPb := Lib.hid (timber_Print_bad l hln v _ HLa.out hsc)
          clear hsc
          obtain ⟨a, cap, rfl, -⟩ := HLa.out
          go_wp2_with fail
          refine HPb.out.mono ?_
          rintro e wb ⟨rfl, hqb⟩
          have hQb := hQa.trans (hqb.mono hQa.size)
          go_wp2_with fail
          refine (awake_any _ (hE.q hQb)).mono ?_
          rintro e wf ⟨rfl, hqf⟩
          go_wp2
          go_ret
          exact ⟨rfl, hQb.trans (hqf.mono hQb.size)⟩
      · rcases hr with ⟨hsc1, rfl, rfl⟩ | ⟨hsc1, rfl, hslm⟩
        · have hb0 : (scheck m [] == 0) = false := by rw [beq_eq_false_iff_ne]; exact hsc1
          clear HR1 hm hsc1
          generalize scheck m [] = x at *
          have hQa := hq1
          clear hq1
          have HLa := Lib.hid (HL.out.keep hQa)
          by_cases hsc : scheck l [] = 0
          · have hall := ((scheck_zero l []).1 hsc).1
            have HPl := Lib.hid (timber_Print l (by omega) v _ (hE.q hQa) HLa.out hsc)
            have hlen2 : (sprint l).length ≤ 60000 := by have := sprint_len0 l hall; omega
            have HPa := Lib.hid (timber_Parse (sprint l) hlen2)
            have HR : Hid (∀ v' er W, ParseRes (sprint l) v' er W → er = 0 ∧ SzSl W v' l) := Lib.hid (fun v' er W h => by
              rcases h with ⟨h, _⟩ | ⟨m, hm, h⟩
              · rw [parse_print l hall] at h; cases h
              · rw [parse_print l hall] at hm; injection hm with hm; subst hm
                rcases h with ⟨h, _⟩ | ⟨_, h1, h2⟩
                · exact absurd hsc h
                · exact ⟨h1, h2⟩)
            have HCt : Hid (((sprint l).count 10 : Nat) = l.length) := Lib.hid (count_print l hall)
            have HCn := Lib.hid (lib_Count10 (sprint l))
            clear hsc hall hlen2
            generalize sprint l = t at *
            obtain ⟨a, cap, rfl, -⟩ := HLa.out
            go_wp2_with fail
            refine HPl.out.mono ?_
            rintro e wb ⟨rfl, hqb⟩
            have hQb := hQa.trans (hqb.mono hQa.size)
            clear hqb
            go_wp2_with fail
            refine (HPa.out _ (hE.q hQb)).mono ?_
            rintro e wc ⟨vc, er, rfl, HRc, hqc⟩
            obtain ⟨rfl, hslc⟩ := HR.out _ _ _ HRc.out
            have hQc := hQb.trans (hqc.mono hQb.size)
            clear hqc HRc
            go_wp2_with fail
            refine (equal_size l hln vc _ _ hslc (HL.out.keep hQc)).mono ?_
            rintro e wd ⟨rfl, hqd⟩
            have hQd := hQc.trans (hqd.mono hQc.size)
            clear hqd hslc
            go_wp2_with fail
            refine (HCn.out _).mono ?_
            rintro e we ⟨rfl, rfl⟩
            rw [HCt.out]
            go_wp2_with fail
            refine (awake_any _ (hE.q hQd)).mono ?_
            rintro e wf ⟨rfl, hqf⟩
            go_wp2
            go_ret
            exact ⟨rfl, hQd.trans (hqf.mono hQd.size)⟩
          · have HPb := Lib.hid (timber_Print_bad l hln v _ HLa.out hsc)
            clear hsc
            obtain ⟨a, cap, rfl, -⟩ := HLa.out
            go_wp2_with fail
            refine HPb.out.mono ?_
            rintro e wb ⟨rfl, hqb⟩
            have hQb := hQa.trans (hqb.mono hQa.size)
            go_wp2_with fail
            refine (awake_any _ (hE.q hQb)).mono ?_
            rintro e wf ⟨rfl, hqf⟩
            go_wp2
            go_ret
            exact ⟨rfl, hQb.trans (hqf.mono hQb.size)⟩
        · have hpm := print_parse s.length s m (Nat.le_refl _) hm
          have hml : m.length < 1000 := by have := len_le_sprint m; rw [hpm] at this; omega
          have HPm := timber_Print m hml v1 _ (hE.q hq1) hslm hsc1
          rw [hpm] at HPm
          have HPm := Lib.hid HPm
          have hss : (s == s) = true := by simp
          clear HR1 hm hsc1 hpm hml hslm
          go_wp2_with fail
          refine HPm.out.mono ?_
          rintro e w2 ⟨rfl, hq2⟩
          have hQa := hq1.trans (hq2.mono hq1.size)
          clear hq1 hq2
          have HLa := Lib.hid (HL.out.keep hQa)
          by_cases hsc : scheck l [] = 0
          · have hall := ((scheck_zero l []).1 hsc).1
            have HPl := Lib.hid (timber_Print l (by omega) v _ (hE.q hQa) HLa.out hsc)
            have hlen2 : (sprint l).length ≤ 60000 := by have := sprint_len0 l hall; omega
            have HPa := Lib.hid (timber_Parse (sprint l) hlen2)
            have HR : Hid (∀ v' er W, ParseRes (sprint l) v' er W → er = 0 ∧ SzSl W v' l) := Lib.hid (fun v' er W h => by
              rcases h with ⟨h, _⟩ | ⟨m, hm, h⟩
              · rw [parse_print l hall] at h; cases h
              · rw [parse_print l hall] at hm; injection hm with hm; subst hm
                rcases h with ⟨h, _⟩ | ⟨_, h1, h2⟩
                · exact absurd hsc h
                · exact ⟨h1, h2⟩)
            have HCt : Hid (((sprint l).count 10 : Nat) = l.length) := Lib.hid (count_print l hall)
            have HCn := Lib.hid (lib_Count10 (sprint l))
            clear hsc hall hlen2
            generalize sprint l = t at *
            obtain ⟨a, cap, rfl, -⟩ := HLa.out
            go_wp2_with fail
            refine HPl.out.mono ?_
            rintro e wb ⟨rfl, hqb⟩
            have hQb := hQa.trans (hqb.mono hQa.size)
            clear hqb
            go_wp2_with fail
            refine (HPa.out _ (hE.q hQb)).mono ?_
            rintro e wc ⟨vc, er, rfl, HRc, hqc⟩
            obtain ⟨rfl, hslc⟩ := HR.out _ _ _ HRc.out
            have hQc := hQb.trans (hqc.mono hQb.size)
            clear hqc HRc
            go_wp2_with fail
            refine (equal_size l hln vc _ _ hslc (HL.out.keep hQc)).mono ?_
            rintro e wd ⟨rfl, hqd⟩
            have hQd := hQc.trans (hqd.mono hQc.size)
            clear hqd hslc
            go_wp2_with fail
            refine (HCn.out _).mono ?_
            rintro e we ⟨rfl, rfl⟩
            rw [HCt.out]
            go_wp2_with fail
            refine (awake_any _ (hE.q hQd)).mono ?_
            rintro e wf ⟨rfl, hqf⟩
            go_wp2
            go_ret
            exact ⟨rfl, hQd.trans (hqf.mono hQd.size)⟩
          · have HPb := Lib.hid (timber_Print_bad l hln v _ HLa.out hsc)
            clear hsc
            obtain ⟨a, cap, rfl, -⟩ := HLa.out
            go_wp2_with fail
            refine HPb.out.mono ?_
            rintro e wb ⟨rfl, hqb⟩
            have hQb := hQa.trans (hqb.mono hQa.size)
            go_wp2_with fail
            refine (awake_any _ (hE.q hQb)).mono ?_
            rintro e wf ⟨rfl, hqf⟩
            go_wp2
            go_ret
            exact ⟨rfl, hQb.trans (hqf.mono hQb.size)⟩

end Go.Proofs.YtgkikkabmcihhaaGreatDoor

namespace Go.Proofs.YtgkikkabmcihhaaGreatDoor
open Go.RowKit Go.Shelf Kp Go.Sort Go.Maps

attribute [local go_sem] Oper.semAt_some

/-- WHAT HAS COME WHEN k ROUNDS ARE OVER. -/
def uptoS (f : Nat → Str) (k : Nat) : List Str := (List.range k).map f
theorem uptoS_succ (f : Nat → Str) (k : Nat) : uptoS f (k + 1) = uptoS f k ++ [f k] := by simp [uptoS, List.range_succ]
theorem uptoS_length (f : Nat → Str) (k : Nat) : (uptoS f k).length = k := by simp [uptoS]
theorem uptoS_all (zs : List Str) : uptoS (fun j => zs[j]?.getD []) zs.length = zs := by
  apply List.ext_getElem
  · simp [uptoS]
  · intro i h1 h2
    simp [uptoS, h2]

set_option maxRecDepth 100000 in
set_option maxHeartbeats 2000000 in
theorem values1_in (F : Fence) (n : Nat) (h7 : F.fn 82) (hro : F.round = none) (hn : 1 ≤ n) (l Bs n₀ b off len cap : Nat) (zs : List Str) (hreach : len * 8 ≤ 140737488351232) (hb : b < n₀) (J Jx : List Str → World → Prop)
    (hY : ∀ pre x W, J pre W → pre.length < len → YieldAt F (n - 1) Tryz.prog l #[.string ⟨x.toArray⟩] W fun e W' =>
      (e = .returned (.bool true) ∧ J (pre ++ [x]) W' ∧ Below n₀ W W') ∨ (e = .returned (.bool false) ∧ Jx (pre ++ [x]) W'))
    (W : World) (hBs : W.cell? ⟨Bs, 0, none⟩ = some (.slice (some ⟨b, off, none⟩) len cap)) (hc : ∀ j, j < len → W.cell? ⟨b, off + j, none⟩ = some (.string ⟨(zs[j]?.getD []).toArray⟩)) (h0 : J [] W) :
    CallsIn F n Tryz.prog 82 #[.func (.yield l) #[] #[], .pointer (some ⟨Bs, 0, none⟩)] W fun e W' => (∃ v, e = .returned v) ∧
      ((∃ ys, ys = uptoS (fun j => zs[j]?.getD []) len ∧ J ys W') ∨ (∃ pre, (∃ k, k ≤ len ∧ pre = uptoS (fun j => zs[j]?.getD []) k) ∧ Jx pre W')) := by
  refine callsIn_of_wp Tryz.func82 rfl h7 ?_ hro
  simp only [Tryz.ntmps82, List.size_toArray, List.length_cons, List.length_nil, Nat.reduceAdd, Nat.reduceSub, Array.replicate_succ, Array.replicate_zero, List.push_toArray, List.append_toArray, List.nil_append, List.cons_append]
  gi_wp2
  gi_loopw [7] (fun i wr => ∃ k : Nat, k ≤ len ∧ i = .int .i64 k ∧ J (uptoS (fun j => zs[j]?.getD []) k) wr ∧ Below n₀ W wr)
    (fun i _ => len - (intOf i).toNat)
  case atStart => exact ⟨0, Nat.zero_le _, rfl, h0, Below.refl _ _⟩
  case round =>
    obtain ⟨k, hk, rfl, hJs, hnx⟩ := hrel
    have hcx : k < len → wr.cell? ⟨b, off + k, none⟩ = some (.string ⟨(zs[k]?.getD []).toArray⟩) := fun h => (hnx.cell (p := ⟨b, off + k, none⟩) hb).trans (hc k h)
    by_cases hlt : k < len
    · obtain ⟨fn, tmps, assign, body, hy, hR⟩ := hY _ (zs[k]?.getD []) wr hJs (by rw [uptoS_length]; exact hlt)
      have hcx' := hcx hlt
      gi_wp2
      refine hR.mono ?_
      rintro e W3 (⟨rfl, hJ3, hk3⟩ | ⟨rfl, hJx3⟩)
      · gi_wp2
        go_roundw
        case rel => exact ⟨k + 1, by omega, by simp, by rw [uptoS_succ]; exact hJ3, hnx.trans hk3⟩
        case measure => simp [intOf]; omega
      · gi_wp2
        refine bodyPost_ret (results_none rfl _ _ _) rfl ?_
        exact ⟨⟨_, rfl⟩, .inr ⟨_, ⟨k + 1, by omega, (uptoS_succ _ _).symm⟩, hJx3⟩⟩
    · obtain rfl : k = len := by omega
      gi_wp2
      go_end0
      exact ⟨⟨_, rfl⟩, .inl ⟨_, rfl, hJs⟩⟩

theorem values_stops (F : Fence) (n : Nat) (h7 : F.fn 82) (hro : F.round = none) (hn : 1 ≤ n) (Bs n₀ b cap : Nat) (zs : List Str) (hlen : zs.length ≤ 1000) (w : World) (lBs : Bs < w.heap.size) (hb : b < n₀) (hn₀ : n₀ ≤ w.heap.size)
    (hBs : w.cell? ⟨Bs, 0, none⟩ = some (.slice (some ⟨b, 0, none⟩) zs.length cap)) (hc : ∀ j, j < zs.length → w.cell? ⟨b, j, none⟩ = some (.string ⟨(zs[j]?.getD []).toArray⟩)) :
    SeqStopsK F n Tryz.prog 82 #[.pointer (some ⟨Bs, 0, none⟩)] (fun x : Str => #[Value.string ⟨x.toArray⟩]) (Below n₀) (fun ys => ys = zs) (fun _ => True) zs.length w := fun l J Jx W hW _ _ hY h0 => by
  refine (values1_in F n h7 hro hn l Bs n₀ b 0 zs.length cap zs (by omega) hb J Jx hY W ((hW.cell (p := ⟨Bs, 0, none⟩) lBs).trans hBs) (fun j hj => ?_) h0).mono ?_
  · rw [Nat.zero_add]; exact (hW.cell (p := ⟨b, j, none⟩) (Nat.lt_of_lt_of_le hb hn₀)).trans (hc j hj)
  · rintro e W' ⟨hv, ⟨ys, rfl, hJ⟩ | ⟨pre, _, hJx⟩⟩
    · exact ⟨hv, .inl ⟨_, uptoS_all zs, hJ⟩⟩
    · exact ⟨hv, .inr ⟨pre, trivial, hJx⟩⟩

theorem infoString : (Tryz.prog.info? 9).map (fun i => (i.zero, i.size, i.bytes)) = some (some (.string ⟨#[]⟩), 1, 16) := by kernel_rfl

set_option maxRecDepth 100000 in
set_option maxHeartbeats 2000000 in
/-- AppendSeq onto nil of slices.Values of a slice of strings. -/
theorem appendSeq_in (F : Fence) (n : Nat) (h3 : F.fn 139) (h7 : F.fn 82) (hro : F.round = none) (hn : 3 ≤ n) (Bs b cap : Nat) (zs : List Str) (hlen : zs.length ≤ 1000)
    (w : World) (hBs : w.cell? ⟨Bs, 0, none⟩ = some (.slice (some ⟨b, 0, none⟩) zs.length cap)) (hc : ∀ j, j < zs.length → w.cell? ⟨b, j, none⟩ = some (.string ⟨(zs[j]?.getD []).toArray⟩)) (hz : 0 < zs.length) :
    CallsIn F n Tryz.prog 139 #[.slice none 0 0, .func (.func 82) #[] #[.pointer (some ⟨Bs, 0, none⟩)]] w fun e W' => ∃ v, e = .returned v ∧ W'.ownsRow w.heap.size 9 1 v zs.length (zs.map fun s => Value.string ⟨s.toArray⟩) ∧ Below w.heap.size w W' := by
  have h1 : 1 ≤ n := by omega
  have lBs : Bs < w.heap.size := World.block_lt_of_cell? w _ hBs
  have lb : b < w.heap.size := World.block_lt_of_cell? w _ (hc 0 hz)
  obtain ⟨i0, hi, hz0, hz1, hz2⟩ := info_parts infoString
  refine callsIn_of_wp_marks Tryz.func139 rfl h3 ?_ hro
  simp only [Tryz.ntmps139, List.size_toArray, List.length_cons, List.length_nil, Nat.reduceAdd, Nat.reduceSub, Array.replicate_succ, Array.replicate_zero, List.push_toArray, List.append_toArray, List.nil_append, List.cons_append]
  gi_wp2
  have bO := Boxed.new w 50 (.slice none 0 0)
  have hB0 : Below w.heap.size w (w.alloc (.cells #[.slice none 0 0] 50)) := (Below.refl _ w).alloc (Nat.le_refl _) _
  refine wpIn_rangeFunc_ownG hro h1 (gf := 82) (lb := #[.pointer (some ⟨Bs, 0, none⟩)]) rfl h7 (enters_of Tryz.func82 (by kernel_rfl) rfl)
    (values_stops F (n - 1) h7 hro (by omega) Bs w.heap.size b cap zs hlen _ (by simp; omega) lb (by simp) ((hB0.cell (p := ⟨Bs, 0, none⟩) lBs).trans hBs) (fun j hj => (hB0.cell (p := ⟨b, j, none⟩) lb).trans (hc j hj))) belowK_t (belowK_b (by simp)) (Below.refl _ _) (fun _ => rfl)
    (fun pre W => (∃ v, Boxed W w.heap.size 50 v ∧ W.ownsRow w.heap.size 9 1 v pre.length (pre.map fun s => Value.string ⟨s.toArray⟩) ∧ (v = .slice none 0 0 ↔ pre = [])) ∧ Below w.heap.size w W)
    (fun _ _ _ => False)
    (OwnFrom.and (Own.from (holdsRow_own w.heap.size w.heap.size 50 9 1 (fun pre : List Str => pre.length) (fun pre => pre.map fun s => Value.string ⟨s.toArray⟩) (fun pre v => v = .slice none 0 0 ↔ pre = [])) _) (ownFrom_below (Nat.le_refl _) (by simp)))
    (fun _ _ _ _ _ hs _ _ => hs)
    ⟨⟨_, bO, World.ownsRow_nil _ _ _ _, by simp⟩, hB0⟩
    (fun x => { tmps := #[.slice none 0 0, .func (.func 82) #[] #[.pointer (some ⟨Bs, 0, none⟩)], .pointer (some ⟨w.heap.size, 0, none⟩), undef, .slice none 0 0, .string ⟨x.toArray⟩, .func (.func 82) #[] #[.pointer (some ⟨Bs, 0, none⟩)], .string ⟨x.toArray⟩, undef, undef, undef, undef, undef], defers := [] }) ?assign ?body ?done ?stop
  case assign =>
    intro l x W K hK
    gi_wp2
    exact hK
  case body =>
    rintro l pre x W ⟨⟨v, hv, hrow, hnil⟩, hB⟩ hlt
    have hcv := hv.cell
    gi_wp2_with (gi_at_builtin; refine wpListIn_append_own _ rfl _ _ 50 rfl w.heap.size 9 i0 (.string ⟨#[]⟩) 1 16 Tryz.underlying50 hi hz0 hz1 hz2 rfl (by decide) _ _ _ rfl (hrow.alloc _) ⟨W.heap.size, 0, none⟩ 1 1 [.string ⟨x.toArray⟩] rfl rfl (cell_one_new _ _ _) (by simp [Value.oneCell']) (by unfold maxLen; omega) (by omega) (by have := hB.size; simp; omega) ?_; intro v' w1 hown' hgrow _; obtain ⟨g', cap', rfl⟩ := ownsRow_succ hown'; obtain ⟨hv1, hv2, hr2, hk2, hb2⟩ := hv.appended (by decide) hrow hB.size (Nat.le_refl _) hown' hgrow; have hc1 := hv1.cell; have hf1 := hv1.frozen)
    exact ⟨hk2.from _, hb2, ⟨_, hv2, by simpa using hr2, by simp⟩, hB.trans hb2⟩
  case done =>
    rintro D ys W hD rfl ⟨⟨v, hv, hrow, hnil⟩, hB⟩ hK
    have hcv := hv.cell
    gi_wp2
    refine ⟨by simp, .inl ⟨_, _, rfl, run_takeDeferred hK, ?_⟩⟩
    exact ⟨_, results_tmp rfl _ _ _, v, rfl, ownsRow_putObj hrow _ hK rfl, hB.trans (belowK_b (w := w) (Nat.le_refl _) W D _ _ (by simp at hD; omega) hK rfl rfl)⟩
  case stop =>
    rintro D c pre W _ _ h _
    exact h.elim

theorem lib_AppendSeq (Bs b cap : Nat) (zs : List Str) (hlen : zs.length ≤ 1000) (w : World) (hBs : w.cell? ⟨Bs, 0, none⟩ = some (.slice (some ⟨b, 0, none⟩) zs.length cap)) (hc : ∀ j, j < zs.length → w.cell? ⟨b, j, none⟩ = some (.string ⟨(zs[j]?.getD []).toArray⟩)) (hz : 0 < zs.length) :
    Calls Tryz.prog 139 #[.slice none 0 0, .func (.func 82) #[] #[.pointer (some ⟨Bs, 0, none⟩)]] w fun e W' => ∃ v, e = .returned v ∧ W'.ownsRow w.heap.size 9 1 v zs.length (zs.map fun s => Value.string ⟨s.toArray⟩) ∧ Below w.heap.size w W' :=
  (callsIn_wide (n := 6)).1 (appendSeq_in Fence.wide 6 trivial trivial rfl (by omega) Bs b cap zs hlen w hBs hc hz)

set_option maxHeartbeats 1000000 in
theorem lib_Collect (Bs b cap : Nat) (zs : List Str) (hlen : zs.length ≤ 1000) (w : World) (hBs : w.cell? ⟨Bs, 0, none⟩ = some (.slice (some ⟨b, 0, none⟩) zs.length cap)) (hc : ∀ j, j < zs.length → w.cell? ⟨b, j, none⟩ = some (.string ⟨(zs[j]?.getD []).toArray⟩)) (hz : 0 < zs.length) :
    Calls Tryz.prog 80 #[.func (.func 82) #[] #[.pointer (some ⟨Bs, 0, none⟩)]] w fun e W' => ∃ v, e = .returned v ∧ W'.ownsRow w.heap.size 9 1 v zs.length (zs.map fun s => Value.string ⟨s.toArray⟩) ∧ Below w.heap.size w W' := by
  have H := Lib.hid (lib_AppendSeq Bs b cap zs hlen w hBs hc hz)
  clear hBs hc
  go_enter Tryz.func80, Tryz.ntmps80
  go_wp2_with fail
  refine H.out.mono ?_
  rintro e w1 ⟨v, rfl, ho, hb⟩
  go_wp2
  go_ret
  exact ⟨v, rfl, ho, hb⟩

theorem below_row {B : Nat} (w : World) (n g : Nat) (d : Array Str) (os : Array Obj) (hg : B ≤ g) (hB : B ≤ w.heap.size) : Below B w (grow (putRow encStr (Sort.ahead w n) g 0 d) os) := by
  have h1 : Below B w (putRow encStr (Sort.ahead w n) g 0 d) := ⟨rfl, rfl, rfl, by simp [putRow, mapBlock, Sort.ahead], fun k hk => by
    have : ¬ g = k := by omega
    simp [putRow, mapBlock, Sort.ahead, Array.getElem?_modify, this]⟩
  exact h1.trans ((below_grow _ os).mono (by simpa [putRow, mapBlock, Sort.ahead] using hB))

theorem holds_of_owns {w : World} {B : Nat} {v : Value} {zs : List Str} (h : w.ownsRow B 9 1 v zs.length (zs.map fun s => Value.string ⟨s.toArray⟩)) (hz : 0 < zs.length) :
    ∃ g cap, v = .slice (some ⟨g, 0, none⟩) zs.length cap ∧ B ≤ g ∧ g < w.heap.size ∧ zs.length ≤ cap ∧ Holds encStr w g 0 zs.toArray := by
  rcases h.2 with ⟨_, hn⟩ | ⟨g, cap, cur, rfl, hg, hc, hcap, _, hsz, htk⟩
  · omega
  · refine ⟨g, cap, rfl, hg, (Array.getElem?_eq_some_iff.1 hc).1, hcap, fun j hj => ?_⟩
    have hj' : j < zs.length := by simpa using hj
    refine ⟨?_, Lib.frozen_of_heap hc _⟩
    rw [Nat.zero_add, Lib.cell_of_heap hc, ← Array.getElem?_toList]
    have h1 : (cur.toList.take (zs.length * 1))[j]? = cur.toList[j]? := by rw [List.getElem?_take_of_lt (by omega)]
    rw [← h1, htk, List.getElem?_map, List.getElem?_eq_getElem hj', getElem!_pos zs.toArray j hj]
    simp [encStr]

set_option maxHeartbeats 1000000 in
theorem lib_Sorted (Bs b cap : Nat) (zs : List Str) (hlen : zs.length ≤ 1000) (w : World) (hBs : w.cell? ⟨Bs, 0, none⟩ = some (.slice (some ⟨b, 0, none⟩) zs.length cap)) (hc : ∀ j, j < zs.length → w.cell? ⟨b, j, none⟩ = some (.string ⟨(zs[j]?.getD []).toArray⟩)) (hz : 0 < zs.length) :
    Calls Tryz.prog 41 #[.func (.func 82) #[] #[.pointer (some ⟨Bs, 0, none⟩)]] w fun e W' => ∃ g c, e = .returned (.slice (some ⟨g, 0, none⟩) zs.length c) ∧ Q w W' ∧ w.heap.size ≤ g ∧ g < W'.heap.size ∧ zs.length ≤ c ∧ Holds encStr W' g 0 (zs.mergeSort fun x y => decide (x ≤ y)).toArray := by
  have H := Lib.hid (lib_Collect Bs b cap zs hlen w hBs hc hz)
  clear hBs hc
  go_enter Tryz.func41, Tryz.ntmps41
  go_wp2_with fail
  refine H.out.mono ?_
  rintro e w1 ⟨v, rfl, ho, hb⟩
  obtain ⟨g, c, rfl, hg, hgl, hcap, hh⟩ := holds_of_owns ho hz
  clear ho
  go_wp2_with fail
  refine (Tryz.slices_Sort_string g 0 c zs w1 hh hgl (by omega)).mono ?_
  rintro e w2 ⟨rfl, n, os, rfl⟩
  have hgw : g < (putRow encStr (Sort.ahead w1 n) g 0 (zs.mergeSort fun x y => decide (x ≤ y)).toArray).heap.size := by simpa [putRow, mapBlock, Sort.ahead] using hgl
  have hbr := below_row w1 n g (zs.mergeSort fun x y => decide (x ≤ y)).toArray os hg hb.size
  have hh2 : Holds encStr (putRow encStr (Sort.ahead w1 n) g 0 (zs.mergeSort fun x y => decide (x ≤ y)).toArray) g 0 (zs.mergeSort fun x y => decide (x ≤ y)).toArray :=
    holds_putRow encStr (Sort.ahead w1 n) g 0 zs.toArray _ (show Holds encStr (Sort.ahead w1 n) g 0 zs.toArray from hh) (by simp)
  have hh3 := holds_grow encStr _ os g 0 _ hgw hh2
  have hl2 : g < (grow (putRow encStr (Sort.ahead w1 n) g 0 (zs.mergeSort fun x y => decide (x ≤ y)).toArray) os).heap.size := by simp [Sort.grow]; omega
  clear hh hh2 hgw
  generalize grow (putRow encStr (Sort.ahead w1 n) g 0 (zs.mergeSort fun x y => decide (x ≤ y)).toArray) os = w3 at *
  go_wp2
  go_ret
  exact ⟨g, c, rfl, hb.trans hbr, hg, hl2, hcap, hh3⟩

set_option maxHeartbeats 1000000 in
theorem lib_Values (a : Option Addr) (n c : Nat) (w : World) :
    Calls Tryz.prog 42 #[.slice a n c] w fun e w' => e = .returned (.func (.func 82) #[] #[.pointer (some ⟨w.heap.size, 0, none⟩)]) ∧ w' = w.alloc (.cells #[.slice a n c] 50) := by
  go_enter Tryz.func42, Tryz.ntmps42
  go_wp2
  go_ret
  exact ⟨rfl, rfl⟩

/-- The words of the kinds. -/
def kindsL : List Str := wordStrs.tail

set_option maxHeartbeats 1000000 in
theorem timber_Kinds (w : World) (hE : Env w) :
    Calls Tryz.prog 32 #[] w fun e w' => ∃ g cap, e = .returned (.slice (some ⟨g, 0, none⟩) 12 cap) ∧ Q w w' ∧ g < w'.heap.size ∧ Holds encStr w' g 0 kindsL.toArray := by
  have H := Lib.hid (Tryz.slices_Clone_string 0 1 12 12 (kindsL.map fun s => (⟨s.toArray⟩ : ByteArray)) w (by decide) (by decide) (fun j hj => by
    have hj' : j < 12 := by have h := hj; rw [List.length_map] at h; exact h
    rw [hE.words.cell (1 + j) (by rw [wordStrs_len]; omega)]
    have e : wordStrs.getD (1 + j) [] = kindsL.getD j [] := by
      have : ∀ i : Fin 12, wordStrs.getD (1 + i.val) [] = kindsL.getD i.val [] := by decide
      exact this ⟨j, hj'⟩
    rw [e]
    have hk : j < kindsL.length := hj'
    simp [List.getD_eq_getElem?_getD, List.getElem?_eq_getElem hk]))
  go_enter Tryz.func32, Tryz.ntmps32
  go_wp2_with fail
  refine H.out.mono ?_
  rintro e w1 ⟨v, rfl, ho, hne, hb⟩
  have ho2 : w1.ownsRow w.heap.size 9 1 v kindsL.length (kindsL.map fun s => Value.string ⟨s.toArray⟩) := by
    rw [List.take_of_length_le (by decide), List.map_map] at ho
    exact ho
  obtain ⟨g, c, rfl, hg, hgl, hcap, hh⟩ := holds_of_owns ho2 (by decide)
  clear ho ho2 hne
  go_wp2
  go_ret
  exact ⟨g, c, rfl, hb, hgl, hh⟩

end Go.Proofs.YtgkikkabmcihhaaGreatDoor

namespace Go.Proofs.YtgkikkabmcihhaaGreatDoor
open Go.RowKit Kp Go.Sort Go.Maps

theorem u8_range {x : Int} (h : (Go.Lit.int .u8 x).wf = true) : 0 ≤ x ∧ x ≤ 255 := by
  have h2 : (decide (IntKind.min .u8 ≤ x) && decide (x ≤ IntKind.max .u8)) = true := h
  rw [show IntKind.min .u8 = 0 from rfl, show IntKind.max .u8 = 255 from rfl] at h2
  simpa using h2
theorem kindsL_len : kindsL.length = 12 := rfl
theorem compact_nodup (zs : List Str) (h : zs.Nodup) : Lib.compact zs = zs := by
  refine Lib.compact_all zs fun j hj => ?_
  by_cases h0 : j = 0
  · subst h0; exact Lib.keeps_lt_one _ 0 (by omega)
  · refine Lib.keeps_pos fun he => ?_
    have hj1 : j - 1 < zs.length := by omega
    rw [getElem!_pos zs.toArray j (by simpa using hj), getElem!_pos zs.toArray (j - 1) (by simpa using hj1)] at he
    have := (List.getElem_inj h).1 (by simpa using he)
    omega
theorem kindsL_nodup : kindsL.Nodup := by decide
theorem sorted_len : (kindsL.mergeSort fun x y => decide (x ≤ y)).length = 12 := by rw [List.length_mergeSort]; rfl
theorem compact_kinds : (Lib.compact (kindsL.mergeSort fun x y => decide (x ≤ y))).length = 12 := by
  rw [compact_nodup _ ((List.mergeSort_perm kindsL _).nodup_iff.2 kindsL_nodup)]
  exact sorted_len
theorem scheck_word (K : Nat) (h1 : 1 ≤ K) (h2 : K ≤ 12) : scheck [⟨(K : Int), 1, 1000⟩] [] = 0 := by
  rw [scheck_zero]
  refine ⟨?_, by simp, by simp⟩
  intro s hs
  simp only [List.mem_cons, List.not_mem_nil, or_false] at hs
  subst hs
  unfold Sz.ok; simp only; omega
theorem sprint_word (K : Nat) : sprint [⟨(K : Int), 1, 1000⟩] = wordStrs.getD K [] ++ [32, 49, 32, 49, 48, 48, 48, 10] := by
  have h1 : Lib.itoa 1 = [49] := itoa_one
  have h2 : Lib.itoa 1000 = [49, 48, 48, 48] := by simp [Lib.itoa, Lib.decDigits]
  unfold sprint sline
  simp only [List.flatMap_cons, List.flatMap_nil, Int.toNat_natCast, h1, h2, List.append_assoc, List.nil_append, List.cons_append, List.append_nil]

theorem holds_cell {w : World} {g : Nat} {zs : List Str} (h : Holds encStr w g 0 zs.toArray) (j : Nat) (hj : j < zs.length) : w.cell? ⟨g, j, none⟩ = some (.string ⟨(zs[j]?.getD []).toArray⟩) := by
  have := (h j (by simpa using hj)).1
  rw [Nat.zero_add, getElem!_pos zs.toArray j (by simpa using hj)] at this
  rw [this, List.getElem?_eq_getElem hj]
  simp [encStr]
theorem holds_keep {w w' : World} {g B : Nat} {d : Array Str} (h : Holds encStr w g 0 d) (hb : Below B w w') (hg : g < B) : Holds encStr w' g 0 d := fun j hj => by
  have := h j hj
  refine ⟨(hb.cell (p := ⟨g, 0 + j, none⟩) hg).trans this.1, ?_⟩
  have h2 := this.2
  unfold World.frozen? at h2 ⊢
  rw [hb.block g hg]; exact h2

theorem print_word (k : Nat) (hk : k < 12) (w : World) (hE : Env w) (b : Nat) (t : TypeId) (hb : Blk w b [.int .i64 ((k : Int) + 1), .int .i64 1, .int .i64 1000] t) :
    ∃ Y Z : ByteArray, ⟨(kindsL[k]?.getD []).toArray⟩ = Y ∧ (∀ w, (Op.stringOp .add Y ⟨#[32, 49, 32, 49, 48, 48, 48, 10]⟩).run Tryz.prog w = .ok (.string Z) w) ∧
    Calls Tryz.prog 25 #[.slice (some ⟨b, 0, none⟩) 1 1] w fun e w' => e = .returned (.tuple #[.string Z, .int .i64 0]) ∧ Q w w' := by
  have e : ((k + 1 : Nat) : Int) = (k : Int) + 1 := by omega
  have h := timber_Print [⟨((k + 1 : Nat) : Int), 1, 1000⟩] (by simp) (.slice (some ⟨b, 0, none⟩) 1 1) w hE ⟨_, 1, rfl, fun i hi => ?_⟩ (scheck_word (k + 1) (by omega) (by omega))
  · rw [sprint_word] at h
    have e1 : wordStrs.getD (k + 1) [] = kindsL[k]?.getD [] := by
      have : ∀ i : Fin 12, wordStrs.getD (i.val + 1) [] = kindsL[i.val]?.getD [] := by decide
      exact this ⟨k, hk⟩
    have e2 : (kindsL[k]?.getD []).length ≤ 10 := by
      have : ∀ i : Fin 12, (kindsL[i.val]?.getD []).length ≤ 10 := by decide
      exact this ⟨k, hk⟩
    rw [e1] at h
    exact ⟨_, _, rfl, add_rule _ _ [32, 49, 32, 49, 48, 48, 48, 10] (by simp; omega), h⟩
  · have : i = 0 := by simp only [List.length_cons, List.length_nil] at hi; omega
    subst this
    refine ⟨b, 0, rfl, hb.lt, ?_, (hb.cell 1).trans rfl, (hb.cell 2).trans rfl⟩
    rw [show ([⟨((k + 1 : Nat) : Int), 1, 1000⟩] : List Sz).getD 0 ⟨0, 0, 0⟩ = ⟨((k + 1 : Nat) : Int), 1, 1000⟩ from rfl]
    simp only [e]
    exact (hb.cell 0).trans rfl

theorem below_put {B : Nat} (w : World) (n g : Nat) (d : Array Str) (hg : B ≤ g) : Below B w (putRow encStr (Sort.ahead w n) g 0 d) :=
  ⟨rfl, rfl, rfl, by simp [putRow, mapBlock, Sort.ahead], fun k hk => by
    have : ¬ g = k := by omega
    simp [putRow, mapBlock, Sort.ahead, Array.getElem?_modify, this]⟩

set_option maxRecDepth 100000 in
set_option maxHeartbeats 2000000 in
theorem words_walk (x : Int) (hx0 : 0 ≤ x) (hx1 : x ≤ 255) (w : World) (hE : Env w) :
    Calls Tryz.prog 10 #[.int .u8 x] w fun e w' => e = .returned (.bool true) ∧ Q w w' := by
  have hr0 : 0 ≤ x % 12 := Int.emod_nonneg _ (by decide)
  have hr1 : x % 12 < 12 := Int.emod_lt_of_pos _ (by decide)
  go_enter Tryz.func10, Tryz.ntmps10
  go_wp2_with fail
  refine (timber_Kinds _ hE).mono ?_
  rintro e w1 ⟨g, cap, rfl, hQ1, hg, hK⟩
  go_wp2_with fail
  obtain ⟨k, hx12⟩ : ∃ k : Nat, x % 12 = (k : Int) := ⟨(x % 12).toNat, by omega⟩
  have hk : k < 12 := by omega
  rw [hx12]
  clear hx12 hr0 hr1 hx0 hx1
  have hq0 : Q w1 (w1.alloc (.cells [.int .i64 ((k : Int) + 1), .int .i64 1, .int .i64 1000].toArray 35)) := (by repeat (first | exact Below.refl _ _ | assumption | refine below_drewN ?_ _ | refine Below.drew ?_ | refine Below.alloc ?_ (by first | (simp; done) | (simp; omega)) _ | refine Below.setCell ?_ (by first | (simp; done) | (simp; omega)) _))
  obtain ⟨Y, Z, hY, hZ, hP⟩ := print_word k hk _ (hE.q (hQ1.trans (hq0.mono hQ1.size))) w1.heap.size 35 (Blk.new w1 _ _)
  refine hP.mono ?_
  clear hP
  rintro e w2 ⟨rfl, hq2⟩
  have hQ2 := hQ1.trans ((hq0.trans (hq2.mono hq0.size)).mono hQ1.size)
  have hW := hq0.trans (hq2.mono hq0.size)
  have hg2 : g < w2.heap.size := Nat.lt_of_lt_of_le hg hW.size
  have hH2 := Lib.hid (holds_keep hK hW hg)
  clear hq0 hq2 hK hW
  go_wp2_with fail
  refine (lib_Values _ _ _ _).mono ?_
  rintro e w3 ⟨rfl, rfl⟩
  have hq3 : Q w2 (w2.alloc (.cells #[.slice (some ⟨g, 0, none⟩) 12 cap] 50)) := (by repeat (first | exact Below.refl _ _ | assumption | refine below_drewN ?_ _ | refine Below.drew ?_ | refine Below.alloc ?_ (by first | (simp; done) | (simp; omega)) _ | refine Below.setCell ?_ (by first | (simp; done) | (simp; omega)) _))
  have hB3 := (Boxed.new w2 50 (.slice (some ⟨g, 0, none⟩) 12 cap)).cell
  have hH3 := Lib.hid (holds_keep hH2.out hq3 hg2)
  clear hH2
  have HS := Lib.hid (lib_Sorted w2.heap.size g cap kindsL (by decide) _ hB3 (fun j hj => holds_cell hH3.out j hj) (by decide))
  clear hB3
  go_wp2_with fail
  refine HS.out.mono ?_
  clear HS
  rintro e w4 ⟨g4, c4, rfl, hq4, hg4, hgl4, hc4, hH4⟩
  have hQ4 := hQ2.trans ((hq3.trans (hq4.mono hq3.size)).mono hQ2.size)
  have hW4 := hq3.trans (hq4.mono hq3.size)
  have hK4 := holds_keep hH3.out hq4 (by simp; omega)
  have hgg : g < w4.heap.size := Nat.lt_of_lt_of_le hg2 hW4.size
  have b0 := holds_cell hK4 k hk
  rw [hY] at b0
  have hs1 : (w4.heap.size) = (w4.heap.size) := rfl
  have hb4 : w2.heap.size ≤ g4 := by simp at hg4; omega
  have b1 := holds_cell hK4 0 (by decide)
  have b2 := holds_cell hK4 11 (by decide)
  have HC := Lib.hid (Tryz.slices_Compact_string g4 0 c4 (kindsL.mergeSort fun x y => decide (x ≤ y)) w4 hH4 (by rw [sorted_len]; decide) (by rw [sorted_len]; exact hc4))
  rw [sorted_len, compact_kinds] at HC
  rw [kindsL_len]
  clear hH3 hK4 hH4 hW4 hs1
  go_wp2_with fail
  refine HC.out.mono ?_
  clear HC
  rintro e w5 ⟨rfl, n5, rfl⟩
  have hP5 := below_put (B := w2.heap.size) w4 n5 g4 (Lib.compact (kindsL.mergeSort fun x y => decide (x ≤ y)) ++ List.replicate (12 - 12) []).toArray hb4
  generalize putRow encStr (Sort.ahead w4 n5) g4 0 (Lib.compact (kindsL.mergeSort fun x y => decide (x ≤ y)) ++ List.replicate (12 - 12) []).toArray = w5 at *
  have c1 := (hP5.cell (p := ⟨g, 0, none⟩) hg2).trans b1
  have c2 := (hP5.cell (p := ⟨g, 11, none⟩) hg2).trans b2
  have hQ5 := hQ4.trans (hP5.mono hQ2.size)
  rw [show (⟨(kindsL[0]?.getD []).toArray⟩ : ByteArray) = ⟨#[99, 111, 109, 109, 111, 110]⟩ from rfl] at c1
  rw [show (⟨(kindsL[11]?.getD []).toArray⟩ : ByteArray) = ⟨#[104, 101, 97, 100, 101, 114]⟩ from rfl] at c2
  clear b0 b1 b2 hP5
  go_wp2_with fail
  refine (awake_any _ (hE.q hQ5)).mono ?_
  rintro e w6 ⟨rfl, hq6⟩
  go_wp2
  go_ret
  exact ⟨rfl, hQ5.trans (hq6.mono hQ5.size)⟩

end Go.Proofs.YtgkikkabmcihhaaGreatDoor

namespace Kp
open Go.Lib (decDigits itoa nDigits)

/-- The parts with a blank between each two. -/
def joinS : List Str → Str
  | [] => []
  | [a] => a
  | a :: b :: r => a ++ 32 :: joinS (b :: r)
/-- No part has a blank or an end of a line. -/
def partsOk (ps : List Str) : Prop := ps ≠ [] ∧ ∀ p ∈ ps, ¬ (32 : UInt8) ∈ p ∧ ¬ (10 : UInt8) ∈ p

theorem joinS_blank : ∀ (ps : List Str), ps ≠ [] → joinS (ps ++ [[]]) = joinS ps ++ [32]
  | [], h => absurd rfl h
  | [a], _ => by simp [joinS]
  | a :: b :: r, _ => by
    have ih := joinS_blank (b :: r) (by simp)
    simp only [List.cons_append] at ih
    simp only [List.cons_append, joinS, ih, List.append_assoc]
theorem joinS_snoc : ∀ (ps : List Str) (p : Str) (c : UInt8), joinS (ps ++ [p ++ [c]]) = joinS (ps ++ [p]) ++ [c]
  | [], p, c => by simp [joinS]
  | [a], p, c => by simp [joinS]
  | a :: b :: r, p, c => by
    have ih := joinS_snoc (b :: r) p c
    simp only [List.cons_append] at ih
    simp only [List.cons_append, joinS, ih, List.append_assoc]
theorem joinS_no10 : ∀ (ps : List Str), (∀ p ∈ ps, ¬ (32 : UInt8) ∈ p ∧ ¬ (10 : UInt8) ∈ p) → ¬ (10 : UInt8) ∈ joinS ps
  | [], _ => by simp [joinS]
  | [a], h => (h a (by simp)).2
  | a :: b :: r, h => by
    have ih := joinS_no10 (b :: r) (fun p hp => h p (by simp only [List.mem_cons] at hp ⊢; exact .inr hp))
    simp only [joinS, List.mem_append, List.mem_cons, not_or]
    exact ⟨(h a (by simp)).2, by decide, ih⟩
theorem joinS_nil : ∀ (ps : List Str), ps ≠ [] → (joinS ps = [] ↔ ps = [[]])
  | [], h => absurd rfl h
  | [a], _ => by simp [joinS]
  | a :: b :: r, _ => by simp [joinS]

theorem joinS_last : ∀ (ps : List Str) (p : Str), p.length ≤ (joinS (ps ++ [p])).length
  | [], p => by simp [joinS]
  | [a], p => by simp [joinS]; omega
  | a :: b :: r, p => by
    have ih := joinS_last (b :: r) p
    simp only [List.cons_append] at ih
    simp only [List.cons_append, joinS, List.length_append, List.length_cons]
    omega
theorem has_not {c : UInt8} {s : Str} (h : ¬ c ∈ s) : has c s = false := by simpa [has] using h
theorem num_not {s : Str} (h : (32 : UInt8) ∈ s) : numOk s = false := by
  cases hb : numOk s with
  | false => rfl
  | true =>
    obtain ⟨n, hn, rfl⟩ := numOk_iff.1 hb
    exact absurd h (dec_plain n 32 (by decide))

/-- What the parts say of their line. -/
theorem lineOk_three {a b c : Str} (ha : ¬ (32 : UInt8) ∈ a) (hb : ¬ (32 : UInt8) ∈ b) :
    lineOk (joinS [a, b, c]) = (decide (a ≠ []) && decide (a ∈ wordStrs) && numOk b && numOk c) ∧ lineSz (joinS [a, b, c]) = ⟨wordStrs.idxOf a, nval b, nval c⟩ := by
  have e : joinS [a, b, c] = a ++ 32 :: (b ++ 32 :: c) := rfl
  unfold lineOk lineSz
  rw [e, bef_app ha, aft_app ha, has_app, bef_app hb, aft_app hb, Bool.true_and]
  exact ⟨rfl, rfl⟩
theorem lineOk_else {ps : List Str} (h : partsOk ps) (hl : ps.length ≠ 3) : lineOk (joinS ps) = false := by
  obtain ⟨h0, h1⟩ := h
  match ps, h0, h1, hl with
  | [a], _, h1, _ =>
    have ha := (h1 a (by simp)).1
    unfold lineOk
    rw [show joinS [a] = a from rfl, (has_false (has_not ha)).2]
    simp [has]
  | [a, b], _, h1, _ =>
    have ha := (h1 a (by simp)).1
    have hb := (h1 b (by simp)).1
    unfold lineOk
    rw [show joinS [a, b] = a ++ 32 :: b from rfl, aft_app ha, has_not hb]
    simp
  | a :: b :: c :: d :: r, _, h1, _ =>
    have ha := (h1 a (by simp)).1
    have hb := (h1 b (by simp)).1
    have e : joinS (a :: b :: c :: d :: r) = a ++ 32 :: (b ++ 32 :: (c ++ 32 :: joinS (d :: r))) := rfl
    unfold lineOk
    rw [e, bef_app ha, aft_app ha, aft_app hb, num_not (s := c ++ 32 :: joinS (d :: r)) (by simp)]
    simp
  | [a, b, c], _, _, hl => exact absurd rfl hl

/-- A blank, another sign, the end of a line, the end of the text. -/
theorem partsOk_one : partsOk [[]] := ⟨by simp, by simp⟩
theorem partsOk_blank {ps : List Str} (h : partsOk ps) : partsOk (ps ++ [[]]) := by
  refine ⟨by simp, fun p hp => ?_⟩
  simp only [List.mem_append, List.mem_singleton] at hp
  rcases hp with hp | rfl
  · exact h.2 p hp
  · simp
theorem partsOk_snoc {ps : List Str} {p : Str} {c : UInt8} (h : partsOk (ps ++ [p])) (h1 : c ≠ 32) (h2 : c ≠ 10) : partsOk (ps ++ [p ++ [c]]) := by
  refine ⟨by simp, fun q hq => ?_⟩
  simp only [List.mem_append, List.mem_singleton] at hq
  rcases hq with hq | rfl
  · exact h.2 q (by simp [hq])
  · obtain ⟨a, b⟩ := h.2 p (by simp)
    simp only [List.mem_append, List.mem_singleton, not_or]
    exact ⟨⟨a, Ne.symm h1⟩, b, Ne.symm h2⟩
theorem parts_end {ps : List Str} (h : partsOk ps) : parseL (joinS ps) = if ps = [[]] then some [] else none := by
  by_cases he : ps = [[]]
  · subst he; rw [if_pos rfl]; exact parseL_nil
  · rw [if_neg he]
    exact parseL_bad (fun e => he ((joinS_nil ps h.1).1 e)) (.inl (has_not (joinS_no10 ps h.2)))
theorem parts_line {ps : List Str} (h : partsOk ps) (rest : Str) : parseL (joinS ps ++ 10 :: rest) = if lineOk (joinS ps) = true then (parseL rest).map (lineSz (joinS ps) :: ·) else none := by
  have hn := joinS_no10 ps h.2
  by_cases hk : lineOk (joinS ps) = true
  · rw [if_pos hk, parseL_cons (by simp) has_app (by rw [bef_app hn]; exact hk), bef_app hn, aft_app hn]
  · rw [if_neg hk]
    exact parseL_bad (by simp) (.inr (by rw [bef_app hn]; simpa using hk))

end Kp

namespace Go.Proofs.YtgkikkabmcihhaaGreatDoor
open Go.RowKit Kp

set_option maxHeartbeats 1000000 in
theorem ref36_Find (l : List Sz) (hln : l.length < 4611686018427387904) (kind : Int) (v : Value) (w : World) (hl : SzSl w v l) :
    Calls Tryz.prog 28 #[v, .int .i64 kind] w fun e w' => e = .returned (.tuple #[szV (fsz l kind), .int .i64 (ferr l kind)]) ∧ Q w w' := by
  have HL := Lib.hid hl
  go_enter Tryz.func28, Tryz.ntmps28
  go_wp2_with fail
  have hq0 : Q w (w.alloc (.cells #[.int .i64 0, .int .i64 0, .int .i64 0] 35)) := (by repeat (first | exact Below.refl _ _ | assumption | refine below_drewN ?_ _ | refine Below.drew ?_ | refine Below.alloc ?_ (by first | (simp; done) | (simp; omega)) _ | refine Below.setCell ?_ (by first | (simp; done) | (simp; omega)) _))
  refine (ref36_Check l hln v _ (hl.keep hq0)).mono ?_
  rintro e w1 ⟨rfl, hq1⟩
  have hQ1 : Q w w1 := hq0.trans (hq1.mono hq0.size)
  have BR := (Blk.new w [.int .i64 0, .int .i64 0, .int .i64 0] 35).keep hq1 (by simp)
  clear hl hq0 hq1
  by_cases hs : scheck l [] = 0
  · have hsb : (scheck l [] != 0) = false := by rw [hs]; rfl
    have HS := Lib.hid hs
    clear hs
    generalize hx : scheck l [] = x at hsb
    have HXX := Lib.hid hx
    clear hx
    rcases HL.out.cases with ⟨rfl, a, cap, rfl⟩ | ⟨b, o, cap, rfl, hA⟩
    · have HR : Hid (szV (fsz [] kind) = .agg #[.int .i64 0, .int .i64 0, .int .i64 0] ∧ ferr [] kind = 6) := Lib.hid ⟨rfl, rfl⟩
      go_wp2
      go_loopw [6] (fun i wr => i = .int .i64 0 ∧ Q w wr ∧ Blk wr w.heap.size [.int .i64 0, .int .i64 0, .int .i64 0] 35) (fun _ _ => 0)
      case atStart => exact ⟨rfl, hQ1, BR⟩
      case round =>
        obtain ⟨rfl, hQ, BR2⟩ := hrel
        have l2 := BR2.lt
        have f0 := BR2.frozen 0
        have f1 := BR2.frozen 1
        have f2 := BR2.frozen 2
        have c0 := BR2.cell 0
        have c1 := BR2.cell 1
        have c2 := BR2.cell 2
        simp only [List.getElem?_cons_zero, List.getElem?_cons_succ] at c0 c1 c2
        go_wp2_with fail
        refine bodyPost_ret (v := .tuple #[.agg #[.int .i64 0, .int .i64 0, .int .i64 0], .int .i64 6])
          (ret_refFind _ _ w.heap.size _ _ _ _ 4 5 _ rfl rfl rfl ((((BR2.set 0 _).set 1 _).set 2 _).cell 0) ((((BR2.set 0 _).set 1 _).set 2 _).cell 1) ((((BR2.set 0 _).set 1 _).set 2 _).cell 2)) rfl ⟨by rw [HR.out.1, HR.out.2], ?_⟩
        exact ((hQ.setCell (p := ⟨w.heap.size, 0, none⟩) (Nat.le_refl _) _).setCell (p := ⟨w.heap.size, 1, none⟩) (Nat.le_refl _) _).setCell (p := ⟨w.heap.size, 2, none⟩) (Nat.le_refl _) _
    · have HA := Lib.hid hA
      clear hA
      go_wp2
      go_loopw [6] (fun i wr => ∃ k : Nat, k ≤ l.length ∧ i = .int .i64 k ∧ Q w wr ∧ Blk wr w.heap.size [.int .i64 0, .int .i64 0, .int .i64 0] 35 ∧ Hid (∀ j, j < k → (l.getD j ⟨0, 0, 0⟩).k ≠ kind)) (fun i _ => l.length - (intOf i).toNat)
      case atStart => exact ⟨0, by omega, rfl, hQ1, BR, Lib.hid (fun j hj => absurd hj (Nat.not_lt_zero _))⟩
      case round =>
        obtain ⟨k, hk, rfl, hQ, BR2, HN0⟩ := hrel
        have HN := Lib.hid HN0.out
        clear HN0
        have l2 := BR2.lt
        have f0 := BR2.frozen 0
        have f1 := BR2.frozen 1
        have f2 := BR2.frozen 2
        have c0 := BR2.cell 0
        have c1 := BR2.cell 1
        have c2 := BR2.cell 2
        simp only [List.getElem?_cons_zero, List.getElem?_cons_succ] at c0 c1 c2
        by_cases hlt : k < l.length
        · have HA2 := Lib.hid (HA.out.keep hQ HA.out.1)
          obtain ⟨d0, d1, d2⟩ := HA2.out.2 k hlt
          have hk0 : (0 : Int) ≤ (k : Int) := by omega
          have hkl : (k : Int) < (l.length : Int) := by omega
          by_cases heq : (l.getD k ⟨0, 0, 0⟩).k = kind
          · have HF : Hid (sfind l kind = some (l.getD k ⟨0, 0, 0⟩)) := Lib.hid (sfind_at hlt HN.out heq)
            have HR : Hid (szV (fsz l kind) = .agg #[.int .i64 (l.getD k ⟨0, 0, 0⟩).k, .int .i64 (l.getD k ⟨0, 0, 0⟩).w, .int .i64 (l.getD k ⟨0, 0, 0⟩).d] ∧ ferr l kind = 0) := Lib.hid (by
              unfold fsz ferr; rw [if_pos HS.out, if_pos HS.out, HF.out]; exact ⟨rfl, rfl⟩)
            have hb : ((l.getD k ⟨0, 0, 0⟩).k == kind) = true := by rw [beq_iff_eq]; exact heq
            clear heq HF
            generalize l.getD k ⟨0, 0, 0⟩ = s at d0 d1 d2 hb HR
            go_wp2_with fail
            refine bodyPost_ret (v := .tuple #[.agg #[.int .i64 s.k, .int .i64 s.w, .int .i64 s.d], .int .i64 0])
              (ret_refFind _ _ w.heap.size _ _ _ _ 4 5 _ rfl rfl rfl ((((BR2.set 0 _).set 1 _).set 2 _).cell 0) ((((BR2.set 0 _).set 1 _).set 2 _).cell 1) ((((BR2.set 0 _).set 1 _).set 2 _).cell 2)) rfl ⟨by rw [HR.out.1, HR.out.2], ?_⟩
            exact ((hQ.setCell (p := ⟨w.heap.size, 0, none⟩) (Nat.le_refl _) _).setCell (p := ⟨w.heap.size, 1, none⟩) (Nat.le_refl _) _).setCell (p := ⟨w.heap.size, 2, none⟩) (Nat.le_refl _) _
          · have HNe : Hid (∀ i, i < k + 1 → (l.getD i ⟨0, 0, 0⟩).k ≠ kind) := Lib.hid (fun i hi => by
              by_cases hij : i = k
              · subst hij; exact heq
              · exact HN.out i (by omega))
            have hb : ((l.getD k ⟨0, 0, 0⟩).k == kind) = false := by rw [beq_eq_false_iff_ne]; exact heq
            clear heq
            generalize l.getD k ⟨0, 0, 0⟩ = s at d0 d1 d2 hb
            go_wp2
            go_roundw
            case rel => exact ⟨k + 1, by omega, by go_num, hQ, BR2, HNe⟩
            case measure => simp [intOf]; omega
        · obtain rfl : k = l.length := by omega
          have HR : Hid (szV (fsz l kind) = .agg #[.int .i64 0, .int .i64 0, .int .i64 0] ∧ ferr l kind = 6) := Lib.hid (by
            unfold fsz ferr; rw [if_pos HS.out, if_pos HS.out, sfind_all HN.out]; exact ⟨rfl, rfl⟩)
          go_wp2_with fail
          refine bodyPost_ret (v := .tuple #[.agg #[.int .i64 0, .int .i64 0, .int .i64 0], .int .i64 6])
            (ret_refFind _ _ w.heap.size _ _ _ _ 4 5 _ rfl rfl rfl ((((BR2.set 0 _).set 1 _).set 2 _).cell 0) ((((BR2.set 0 _).set 1 _).set 2 _).cell 1) ((((BR2.set 0 _).set 1 _).set 2 _).cell 2)) rfl ⟨by rw [HR.out.1, HR.out.2], ?_⟩
          exact ((hQ.setCell (p := ⟨w.heap.size, 0, none⟩) (Nat.le_refl _) _).setCell (p := ⟨w.heap.size, 1, none⟩) (Nat.le_refl _) _).setCell (p := ⟨w.heap.size, 2, none⟩) (Nat.le_refl _) _
  · have hsb : (scheck l [] != 0) = true := by rw [bne_iff_ne]; exact hs
    have HR : Hid (szV (fsz l kind) = .agg #[.int .i64 0, .int .i64 0, .int .i64 0] ∧ ferr l kind = 1) := Lib.hid (by
      unfold fsz ferr; rw [if_neg hs, if_neg hs]; exact ⟨rfl, rfl⟩)
    clear hs
    generalize scheck l [] = x at hsb
    have l2 := BR.lt
    have f0 := BR.frozen 0
    have f1 := BR.frozen 1
    have f2 := BR.frozen 2
    have c0 := BR.cell 0
    have c1 := BR.cell 1
    have c2 := BR.cell 2
    simp only [List.getElem?_cons_zero, List.getElem?_cons_succ] at c0 c1 c2
    go_wp2_with fail
    refine bodyPost_ret (v := .tuple #[.agg #[.int .i64 0, .int .i64 0, .int .i64 0], .int .i64 1])
      (ret_refFind _ _ w.heap.size _ _ _ _ 4 5 _ rfl rfl rfl ((((BR.set 0 _).set 1 _).set 2 _).cell 0) ((((BR.set 0 _).set 1 _).set 2 _).cell 1) ((((BR.set 0 _).set 1 _).set 2 _).cell 2)) rfl ⟨by rw [HR.out.1, HR.out.2], ?_⟩
    exact ((hQ1.setCell (p := ⟨w.heap.size, 0, none⟩) (Nat.le_refl _) _).setCell (p := ⟨w.heap.size, 1, none⟩) (Nat.le_refl _) _).setCell (p := ⟨w.heap.size, 2, none⟩) (Nat.le_refl _) _

end Go.Proofs.YtgkikkabmcihhaaGreatDoor

namespace Go.Proofs.YtgkikkabmcihhaaGreatDoor
open Go.RowKit Kp

theorem Q.refl (w : World) : Q w w := Below.refl _ _
theorem Q.trans {w w1 w2 : World} (h : Q w w1) (h1 : Q w1 w2) : Q w w2 := Below.trans h (h1.mono h.size)
theorem qcell {w w' : World} (h : Q w w') {p : Addr} {v : Value} (hc : w.cell? p = some v) : w'.cell? p = some v :=
  (h.cell (World.block_lt_of_cell? w _ hc)).trans hc

section
variable {P : Program} {l : List Oper} {R : Exit → Act → World → Prop} {md : Region.Mode} {n : Nat}

/-- The first n of the region in whatever order, from this world and from every one that it may go on to; then what is left, one by one. -/
def Walks (P : Program) (md : Region.Mode) (l : List Oper) (R : Exit → Act → World → Prop) (n : Nat) : Nat → Array Bool → Act → World → Prop
  | 0, ls, a, w => Region.seqB md l.toArray (l.toArray.size - n) n ls = true ∧ ∀ w', Q w w' → wpList P l.toArray R (l.drop n) a w'
  | f + 1, ls, a, w => Region.ready md l.toArray ls ≠ [] ∧
    ∀ i ∈ Region.ready md l.toArray ls, i < n ∧ ∀ w', Q w w' → wpOp P l.toArray R i (fun a' w'' => Q w' w'' ∧ Walks P md l R n f (ls.setIfInBounds i true) a' w'') a w'

theorem Walks.later : ∀ {f : Nat} {ls : Array Bool} {a : Act} {w w' : World}, Walks P md l R n f ls a w → Q w w' → Walks P md l R n f ls a w'
  | 0, _, _, _, _, h, hq => ⟨h.1, fun _ h1 => h.2 _ (hq.trans h1)⟩
  | _ + 1, _, _, _, _, h, hq => ⟨h.1, fun i hi => ⟨(h.2 i hi).1, fun _ h1 => (h.2 i hi).2 _ (hq.trans h1)⟩⟩

theorem Walks.any (hn : n ≤ l.length) : ∀ {f : Nat} {ls : Array Bool} {a : Act} {w : World}, Walks P md l R n f ls a w → wpAny P md l.toArray R (f + (l.toArray.size - n)) ls a w
  | 0, ls, a, w, h => by
    rw [Nat.zero_add]
    have hd : (l.drop n).length = l.toArray.size - n := by simp
    have := wpAny_of_seq (md := md) (Q' := R) (l.drop n) n ls a w (fun j => by simp [List.getElem?_drop]) (by rw [hd]; exact h.1) (h.2 w (Q.refl w))
    rwa [hd] at this
  | f + 1, ls, a, w, h => by
    rw [show f + 1 + (l.toArray.size - n) = (f + (l.toArray.size - n)) + 1 by omega]
    exact ⟨fun e => absurd e h.1, fun i hi => wpOp_mono (fun _ _ h' => Walks.any hn h'.2) ((h.2 i hi).2 w (Q.refl w))⟩

/-- The operation does the same at both. -/
def Alike (ops : Array Oper) (o : Oper) (a a' : Act) : Prop := execOp a'.eval o = execOp a.eval o ∧ Region.wanted o (yielded ops a'.tmps) = Region.wanted o (yielded ops a.tmps)

theorem wpOp_alike {ops : Array Oper} {j : Nat} {oi oj : Oper} {v : Value} (hj : ops[j]? = some oj) (hap : oi.apart ops oj = true)
    (hsi : ∀ cs b, oi.op ≠ .select cs b) (hsj : ∀ cs b, oj.op ≠ .select cs b)
    (hR : ∀ c a w, R (.panic c) (a.put oi.dst v) w → R (.panic c) a w) {K : Act → World → Prop} {a : Act} {w : World}
    (h : wpOp P ops R j K (a.put oi.dst v) w) : wpOp P ops R j (fun a' w' => Alike ops oi a a' ∧ K (a'.put oi.dst v) w') a w := by
  obtain ⟨h1, h2, h3⟩ := Oper.apart_spec hap
  have al : ∀ u, Alike ops oi a (a.put oj.dst u) := fun u => ⟨execOp_put oi hsi a oj.dst u h3, wanted_put oi a oj.dst u h3⟩
  have alD : ∀ d u, Alike ops oi a (({ a with defers := d :: a.defers } : Act).put oj.dst u) := fun d u => ⟨execOp_put oi hsi { a with defers := d :: a.defers } oj.dst u h3, wanted_put oi { a with defers := d :: a.defers } oj.dst u h3⟩
  unfold wpOp at h ⊢
  simp only [hj] at h ⊢
  rw [wanted_put oj a oi.dst v h1] at h
  by_cases hw : Region.wanted oj (yielded ops a.tmps) = true
  · rw [if_pos hw] at h ⊢
    rcases h with h | ⟨ha, hl⟩
    · left
      unfold Oper.wp at h ⊢
      rw [execOp_put oj hsj a oi.dst v h1] at h
      generalize (execOp a.eval oj).run P w = r at h ⊢
      match r, h with
      | .ok (.value u) w', h =>
        simp only [Oper.upon] at h ⊢
        rw [Act.put_comm a v u h2] at h
        exact ⟨al u, h⟩
      | .ok .skip w', h =>
        simp only [Oper.upon] at h ⊢
        rw [Act.put_comm a v undef h2] at h
        exact ⟨al undef, h⟩
      | .ok (.defer d) w', h =>
        simp only [Oper.upon] at h ⊢
        rw [Act.put_defers, Act.put_comm _ v undef h2] at h
        exact ⟨alD d undef, h⟩
      | .ok (.enter f args) w', h =>
        simp only [Oper.upon] at h ⊢
        refine Calls.mono h fun e w'' he => ?_
        match e, he with
        | .returned u, he => exact ⟨al u, by rw [← Act.put_comm a v u h2]; exact he⟩
        | .panicked c, he => exact hR _ _ _ he
        | .outgrown, he => exact he
      | .ok (.row row args) w', h =>
        simp only [Oper.upon] at h ⊢
        refine Rows.mono h fun u w'' he => ?_
        rw [Act.put_comm a v u h2] at he
        exact ⟨al u, he⟩
      | .halt x w', h =>
        cases x <;> simp only [Oper.upon] at h ⊢
        exact hR _ _ _ h
    · right
      unfold Oper.asks at ha ⊢
      rw [execOp_put oj hsj a oi.dst v h1] at ha
      exact ⟨ha, hl⟩
  · rw [if_neg hw] at h ⊢
    rw [Act.put_comm a v undef h2] at h
    exact ⟨al undef, h⟩

/-- In every world that may come it leaves this value, and all that stood as it was. -/
def Does (P : Program) (ops : Array Oper) (o : Oper) (v : Value) (a : Act) (w : World) : Prop :=
  (Region.wanted o (yielded ops a.tmps) = true ∧ ∀ w', Q w w' → (execOp a.eval o).run P w' = .ok (.value v) w') ∨
  (Region.wanted o (yielded ops a.tmps) = true ∧ ∃ f args, (∀ w', Q w w' → (execOp a.eval o).run P w' = .ok (.enter f args) w') ∧ ∀ w', Q w w' → Calls P f args w' fun e w'' => e = .returned v ∧ Q w' w'') ∨
  (Region.wanted o (yielded ops a.tmps) = false ∧ v = undef)

theorem Does.alike {ops : Array Oper} {o : Oper} {v : Value} {a a' : Act} {w w' : World} (h : Does P ops o v a w) (ha : Alike ops o a a') (hq : Q w w') : Does P ops o v a' w' := by
  unfold Does
  rw [ha.1, ha.2]
  rcases h with ⟨h1, h2⟩ | ⟨h1, f, args, h2, h3⟩ | h
  · exact .inl ⟨h1, fun w2 h => h2 w2 (hq.trans h)⟩
  · exact .inr (.inl ⟨h1, f, args, fun w2 h => h2 w2 (hq.trans h), fun w2 h => h3 w2 (hq.trans h)⟩)
  · exact .inr (.inr h)

theorem Does.wpOp {ops : Array Oper} {i : Nat} {o : Oper} {v : Value} {a : Act} {w w' : World} (h : Does P ops o v a w) (hi : ops[i]? = some o) (hq : Q w w') {K : Act → World → Prop}
    (hK : ∀ w'', Q w' w'' → K (a.put o.dst v) w'') : wpOp P ops R i K a w' := by
  unfold Go.wpOp
  simp only [hi]
  rcases h with ⟨h1, h2⟩ | ⟨h1, f, args, h2, h3⟩ | ⟨h1, rfl⟩
  · rw [if_pos h1]
    left
    unfold Oper.wp
    rw [h2 w' hq]
    exact hK w' (Q.refl w')
  · rw [if_pos h1]
    left
    unfold Oper.wp
    rw [h2 w' hq]
    refine (h3 w' hq).mono fun e w'' he => ?_
    obtain ⟨rfl, hq'⟩ := he
    exact hK w'' hq'
  · rw [if_neg (by simp [h1])]
    exact hK w' (Q.refl w')

/-- None of those behind the first n may come up as long as one of the first n has not. -/
def headB (md : Region.Mode) (ops : Array Oper) (n : Nat) : Bool := Region.noSelect ops && (decide (n = ops.size) || (decide (n < ops.size) && Region.sinkB md ops n && Region.chainB md ops n))
theorem headB_lt {ops : Array Oper} {ls : Array Bool} (h : headB md ops n = true) (inv : HeadInv md ops n ls) {i : Nat} (hi : i < n) (hr : i ∈ Region.ready md ops ls) : ∀ j ∈ Region.ready md ops ls, j < n := by
  intro j hj
  unfold headB at h
  simp only [Bool.and_eq_true, Bool.or_eq_true, decide_eq_true_eq] at h
  rcases h.2 with h | ⟨⟨hn, hs⟩, hc⟩
  · rw [h]
    obtain ⟨_, oj, hoj, _⟩ := mem_ready.1 hj
    exact (Array.getElem?_eq_some_iff.1 hoj).1
  · rcases Nat.lt_or_ge j n with h | h
    · exact h
    · exact absurd hj (tail_waits hs hc hn inv _ i rfl hi (mem_ready.1 hr).1 j h)
theorem headB_sel {ops : Array Oper} (h : headB md ops n = true) (j : Nat) (o : Oper) (cs : Array SelectCase) (b : Bool) (ho : ops[j]? = some o) : o.op ≠ .select cs b := by
  unfold headB at h
  rw [Bool.and_eq_true] at h
  exact Region.noSelect_spec h.1 j o cs b ho

theorem walks_first {i : Nat} {oi : Oper} {v : Value} (hi : l.toArray[i]? = some oi) (hB : headB md l.toArray n = true) (hin : i < n)
    (hR : ∀ c a w, R (.panic c) (a.put oi.dst v) w → R (.panic c) a w) :
    ∀ (f : Nat) (ls : Array Bool) (a : Act) (w : World), HeadInv md l.toArray n ls →
      (∀ j oj, l.toArray[j]? = some oj → j ≠ i → ls.getD j true = false → (∀ e ∈ oj.after, Region.binds md e = true → e.on ≠ i) → oi.apart l.toArray oj = true) →
      i ∈ Region.ready md l.toArray ls → Does P l.toArray oi v a w →
      Walks P md l R n f (ls.setIfInBounds i true) (a.put oi.dst v) w → Walks P md l R n (f + 1) ls a w := by
  intro f
  induction f with
  | zero =>
    intro ls a w inv _ hr hd H
    refine ⟨fun h => (by rw [h] at hr; cases hr), fun j hj => ⟨headB_lt hB inv hin hr j hj, fun w' hq => ?_⟩⟩
    by_cases hji : j = i
    · subst hji
      exact hd.wpOp hi hq fun w'' hq' => ⟨hq', Walks.later (f := 0) H (hq.trans hq')⟩
    · have h1 := headB_lt hB inv hin hr j hj
      have h2 := seqB_ready H.1 j (ready_mono hj hji)
      omega
  | succ f ih =>
    intro ls a w inv hf hr hd H
    refine ⟨fun h => (by rw [h] at hr; cases hr), fun j hj => ?_⟩
    have hjn := headB_lt hB inv hin hr j hj
    refine ⟨hjn, fun w' hq => ?_⟩
    by_cases hji : j = i
    · subst hji
      exact hd.wpOp hi hq fun w'' hq' => ⟨hq', H.later (hq.trans hq')⟩
    · have h1 := (H.2 j (ready_mono hj hji)).2 w' hq
      obtain ⟨hjun, oj, hoj, hall⟩ := mem_ready.1 hj
      have hno : ∀ e ∈ oj.after, Region.binds md e = true → e.on ≠ i := fun e he hb heq => by
        have h1 := hall e he hb
        rw [heq, getD_both (mem_ready.1 hr).1] at h1
        cases h1
      have h2 := wpOp_alike hoj (hf j oj hoj hji hjun hno) (fun cs b => headB_sel hB i oi cs b hi) (fun cs b => headB_sel hB j oj cs b hoj) hR h1
      have hf' : ∀ k ok, l.toArray[k]? = some ok → k ≠ i → (ls.setIfInBounds j true).getD k true = false →
          (∀ e ∈ ok.after, Region.binds md e = true → e.on ≠ i) → oi.apart l.toArray ok = true := fun k ok hk hki hun hn => by
        by_cases hjk : j = k
        · subst hjk; exact hf j ok hk hki hjun hn
        · rw [getD_set_ne true hjk] at hun
          exact hf k ok hk hki hun hn
      refine wpOp_mono (fun a' w'' h3 => ⟨h3.2.1, ih (ls.setIfInBounds j true) a' w'' (inv.set hj hjn) hf' (ready_mono hr (Ne.symm hji)) (hd.alike h3.1 (hq.trans h3.2.1)) ?_⟩) h2
      rw [Array.setIfInBounds_comm _ _ hji]
      exact h3.2.2

/-- The walk, where those that have come up lie as they may. -/
def Steadily (P : Program) (md : Region.Mode) (l : List Oper) (R : Exit → Act → World → Prop) (n f : Nat) (ls : Array Bool) (a : Act) (w : World) : Prop :=
  headB md l.toArray n = true → HeadInv md l.toArray n ls → Walks P md l R n f ls a w

/-- The beginning: the first n are taken in whatever order, the others come up one by one behind them. -/
theorem wp_steadily (n : Nat) {id : Nat} {a : Act} {w : World} (hm : P.follows .mixedOrders = true) (hB : headB .any l.toArray n = true) (hn : decide (n ≤ l.length) = true)
    (h : Steadily P .any l R n n (Array.replicate l.toArray.size false) a w.drew) : (Code.region id l.toArray true).wp P R a w := by
  have hn' : n ≤ l.length := by simpa using hn
  have inv0 : HeadInv .any l.toArray n (Array.replicate l.toArray.size false) :=
    ⟨by simp, fun j oj _ hl => (by rw [getD_replicate_false] at hl; cases hl), fun t _ ht => getD_in (by simpa using ht) (getD_replicate_false _ _)⟩
  refine wp_region_any hm ?_
  have := Walks.any hn' (h hB inv0)
  rwa [show n + (l.toArray.size - n) = l.toArray.size by simp; omega] at this

theorem at_list {i : Nat} {oi : Oper} (hi : l[i]? = some oi) : l.toArray[i]? = some oi := by simpa using hi

theorem steadily_first {i : Nat} {oi : Oper} {v : Value} {f : Nat} {ls : Array Bool} {a : Act} {w : World} (hi : l[i]? = some oi) (hin : decide (i < n) = true)
    (hf : Region.free md l.toArray ls i = true) (hr : (Region.ready md l.toArray ls).contains i = true)
    (hR : ∀ c a w, R (.panic c) (a.put oi.dst v) w → R (.panic c) a w) (hd : Does P l.toArray oi v a w)
    (h : Steadily P md l R n f (ls.setIfInBounds i true) (a.put oi.dst v) w) : Steadily P md l R n (f + 1) ls a w := fun hB inv => by
  have hr' : i ∈ Region.ready md l.toArray ls := by simpa using hr
  have hin' : i < n := by simpa using hin
  exact walks_first (at_list hi) hB hin' hR f ls a w inv (Region.free_spec (at_list hi) hf) hr' hd (h hB (inv.set hr' hin'))

/-- An operation that yields its value is taken first. -/
theorem steadily_value {i : Nat} {oi : Oper} {v : Value} {f : Nat} {ls : Array Bool} {a : Act} {w : World} (hi : l[i]? = some oi) (hin : decide (i < n) = true)
    (hf : Region.free md l.toArray ls i = true) (hr : (Region.ready md l.toArray ls).contains i = true)
    (hR : ∀ c a w, R (.panic c) (a.put oi.dst v) w → R (.panic c) a w) (hw : Region.wanted oi (yielded l.toArray a.tmps) = true)
    (hx : ∀ w', Q w w' → (execOp a.eval oi).run P w' = .ok (.value v) w')
    (h : Steadily P md l R n f (ls.setIfInBounds i true) (a.put oi.dst v) w) : Steadily P md l R n (f + 1) ls a w :=
  steadily_first hi hin hf hr hR (.inl ⟨hw, hx⟩) h

/-- An operation that is not wanted. -/
theorem steadily_idle {i : Nat} {oi : Oper} {f : Nat} {ls : Array Bool} {a : Act} {w : World} (hi : l[i]? = some oi) (hin : decide (i < n) = true)
    (hf : Region.free md l.toArray ls i = true) (hr : (Region.ready md l.toArray ls).contains i = true)
    (hR : ∀ c a w, R (.panic c) (a.put oi.dst undef) w → R (.panic c) a w) (hw : Region.wanted oi (yielded l.toArray a.tmps) = false)
    (h : Steadily P md l R n f (ls.setIfInBounds i true) (a.put oi.dst undef) w) : Steadily P md l R n (f + 1) ls a w :=
  steadily_first hi hin hf hr hR (.inr (.inr ⟨hw, rfl⟩)) h

/-- A call is taken first. -/
theorem steadily_call {i : Nat} {oi : Oper} {v : Value} {n f : Nat} {ls : Array Bool} {a : Act} {w : World} {g : FuncId} {args : Array Value} (hi : l[i]? = some oi) (hin : decide (i < n) = true)
    (hf : Region.free md l.toArray ls i = true) (hr : (Region.ready md l.toArray ls).contains i = true)
    (hR : ∀ c a w, R (.panic c) (a.put oi.dst v) w → R (.panic c) a w) (hw : Region.wanted oi (yielded l.toArray a.tmps) = true)
    (hx : ∀ w', Q w w' → (execOp a.eval oi).run P w' = .ok (.enter g args) w')
    (hc : ∀ w', Q w w' → Calls P g args w' fun e w'' => e = .returned v ∧ Q w' w'')
    (h : Steadily P md l R n f (ls.setIfInBounds i true) (a.put oi.dst v) w) : Steadily P md l R n (f + 1) ls a w :=
  steadily_first hi hin hf hr hR (.inr (.inl ⟨hw, g, args, hx, hc⟩)) h

/-- An operation that alone may come up. -/
theorem steadily_one {i : Nat} {oi : Oper} {f : Nat} {ls : Array Bool} {a : Act} {w : World} (hi : l[i]? = some oi) (hin : decide (i < n) = true)
    (hr : Region.ready md l.toArray ls = [i]) (hw : Region.wanted oi (yielded l.toArray a.tmps) = true)
    (h : ∀ w', Q w w' → ∀ K : Act → World → Prop, (∀ v w'', Q w' w'' → Steadily P md l R n f (ls.setIfInBounds i true) (a.put oi.dst v) w'' → K (a.put oi.dst v) w'') → Oper.wp P oi a w' K R) : Steadily P md l R n (f + 1) ls a w := fun hB inv => by
  have hr' : i ∈ Region.ready md l.toArray ls := by rw [hr]; simp
  have hin' : i < n := by simpa using hin
  refine ⟨fun h => (by rw [h] at hr; cases hr), fun j hj => ?_⟩
  rw [hr] at hj
  obtain rfl : j = i := by simpa using hj
  refine ⟨hin', fun w' hq => ?_⟩
  unfold wpOp
  simp only [at_list hi]
  rw [if_pos hw]
  exact .inl (h w' hq _ fun v w'' hq' hS => ⟨hq', hS hB (inv.set hr' hin')⟩)

/-- Memory is made: it alone may come up. -/
theorem steadily_alloc {i : Nat} {oi : Oper} {f : Nat} {ls : Array Bool} {a : Act} {w : World} (o : Obj) (hi : l[i]? = some oi) (hin : decide (i < n) = true)
    (hr : Region.ready md l.toArray ls = [i]) (hw : Region.wanted oi (yielded l.toArray a.tmps) = true)
    (hx : ∀ w', Q w w' → (execOp a.eval oi).run P w' = .ok (.value (.pointer (some ⟨w'.heap.size, 0, none⟩))) (w'.alloc o))
    (h : ∀ w', Q w w' → Steadily P md l R n f (ls.setIfInBounds i true) (a.put oi.dst (.pointer (some ⟨w'.heap.size, 0, none⟩))) (w'.alloc o)) : Steadily P md l R n (f + 1) ls a w :=
  steadily_one hi hin hr hw fun w' hq K hK => by
    unfold Oper.wp
    rw [hx w' hq]
    exact hK _ _ ((Below.refl _ _).alloc (Nat.le_refl _) _) (h w' hq)

/-- A call that alone may come up. -/
theorem steadily_only {i : Nat} {oi : Oper} {n f : Nat} {ls : Array Bool} {a : Act} {w : World} {g : FuncId} {args : Array Value} (hi : l[i]? = some oi) (hin : decide (i < n) = true)
    (hr : Region.ready md l.toArray ls = [i]) (hw : Region.wanted oi (yielded l.toArray a.tmps) = true)
    (hx : ∀ w', Q w w' → (execOp a.eval oi).run P w' = .ok (.enter g args) w')
    (hc : ∀ w', Q w w' → Calls P g args w' fun e w'' => ∃ v, e = .returned v ∧ Q w' w'' ∧ Steadily P md l R n f (ls.setIfInBounds i true) (a.put oi.dst v) w'') : Steadily P md l R n (f + 1) ls a w :=
  steadily_one hi hin hr hw fun w' hq K hK => by
    unfold Oper.wp
    rw [hx w' hq]
    refine (hc w' hq).mono fun e w'' he => ?_
    obtain ⟨v, rfl, h1, h2⟩ := he
    exact hK v w'' h1 h2

/-- The first n have come up: what is left goes one by one. -/
theorem steadily_done {ls : Array Bool} {a : Act} {w : World} (hB : Region.seqB md l.toArray (l.toArray.size - n) n ls = true) (h : ∀ w', Q w w' → wpList P l.toArray R (l.drop n) a w') : Steadily P md l R n 0 ls a w :=
  fun _ _ => ⟨hB, h⟩

end
end Go.Proofs.YtgkikkabmcihhaaGreatDoor

namespace Go.Proofs.YtgkikkabmcihhaaGreatDoor
open Go.RowKit Kp

/-- The words of the kinds, as values. -/
def kindVs : List Value := kindsL.map fun s => Value.string ⟨s.toArray⟩

set_option maxHeartbeats 1000000 in
theorem ref36_Kinds (w : World) :
    Calls Tryz.prog 33 #[] w fun e w' => e = .returned (.slice (some ⟨w.heap.size, 0, none⟩) 12 12) ∧ Q w w' ∧ Blk w' w.heap.size kindVs 9 := by
  go_enter Tryz.func33, Tryz.ntmps33
  go_wp2
  go_ret
  refine ⟨rfl, (by repeat (first | exact Below.refl _ _ | assumption | refine below_drewN ?_ _ | refine Below.drew ?_ | refine Below.alloc ?_ (by first | (simp; done) | (simp; omega)) _ | refine Below.setCell ?_ (by first | (simp; done) | (simp; omega)) _)), ?_⟩
  exact Blk.new w kindVs 9

theorem decDigits_lt {n : Nat} (h : n < 10) : Lib.decDigits n = [48 + UInt8.ofNat n] := by
  unfold Lib.decDigits
  rw [dif_pos h]
  have : ∀ i : Fin 10, UInt8.ofNat (48 + i.val) = 48 + UInt8.ofNat i.val := by decide
  rw [this ⟨n, h⟩]

set_option maxHeartbeats 1000000 in
theorem ref36_digit (n : Nat) (hn : n < 10) (w : World) :
    Calls Tryz.prog 63 #[.int .i64 n] w fun e w' => e = .returned (.string ⟨(Lib.decDigits n).toArray⟩) ∧ w' = w := by
  have hc : n = 0 ∨ n = 1 ∨ n = 2 ∨ n = 3 ∨ n = 4 ∨ n = 5 ∨ n = 6 ∨ n = 7 ∨ n = 8 ∨ n = 9 := by omega
  rw [decDigits_lt hn]
  clear hn
  rcases hc with rfl | rfl | rfl | rfl | rfl | rfl | rfl | rfl | rfl | rfl <;>
  · go_enter Tryz.func63, Tryz.ntmps63
    go_wp2
    go_ret
    exact ⟨rfl, rfl⟩

theorem decDigits_step {n : Nat} (h : 10 ≤ n) : Lib.decDigits n = Lib.decDigits (n / 10) ++ Lib.decDigits (n % 10) := by
  rw [decDigits_lt (Nat.mod_lt n (by decide))]
  conv => lhs; unfold Lib.decDigits
  rw [dif_neg (by omega)]
  have : ∀ i : Fin 10, UInt8.ofNat (48 + i.val) = 48 + UInt8.ofNat i.val := by decide
  rw [this ⟨n % 10, Nat.mod_lt n (by decide)⟩]

set_option maxHeartbeats 1000000 in
theorem ref36_decimal : ∀ (k n : Nat), n < 10 ^ k → n ≤ 10000 → ∀ (w : World),
    Calls Tryz.prog 63 #[.int .i64 n] w fun e w' => e = .returned (.string ⟨(Lib.decDigits n).toArray⟩) ∧ w' = w
  | 0, n, h, _, w => ref36_digit n (by simp at h; omega) w
  | k + 1, n, h, hn, w => by
    by_cases h10 : n < 10
    · exact ref36_digit n h10 w
    · have h1 := Lib.hid (ref36_decimal k (n / 10) (by rw [Nat.pow_succ] at h; omega) (by omega))
      have h2 := Lib.hid (ref36_digit (n % 10) (Nat.mod_lt n (by decide)))
      have e := decDigits_step (n := n) (by omega)
      have l1 : (Lib.decDigits (n / 10)).length ≤ 4 := (decDigits_len_le _ 4 (by decide)).2 (by omega)
      have l2 : (Lib.decDigits (n % 10)).length ≤ 4 := (decDigits_len_le _ 4 (by decide)).2 (by omega)
      generalize Lib.decDigits n = X at *
      generalize Lib.decDigits (n / 10) = Y at *
      generalize Lib.decDigits (n % 10) = Z at *
      go_enter Tryz.func63, Tryz.ntmps63
      go_wp2_with fail
      refine (h1.out _).mono ?_
      rintro e w1 ⟨rfl, rfl⟩
      go_wp2_with fail
      refine (h2.out _).mono ?_
      rintro e w1 ⟨rfl, rfl⟩
      go_wp2
      go_ret
      exact ⟨by rw [e]; rfl, rfl⟩

end Go.Proofs.YtgkikkabmcihhaaGreatDoor

namespace Go.Proofs.YtgkikkabmcihhaaGreatDoor
open Go.RowKit Kp

theorem ref36_dec (z : Int) (h0 : 0 ≤ z) (h1 : z ≤ 1000) (w : World) :
    Calls Tryz.prog 63 #[.int .i64 z] w fun e w' => e = .returned (.string ⟨(Lib.itoa z).toArray⟩) ∧ Q w w' := by
  obtain ⟨n, rfl⟩ : ∃ n : Nat, z = n := ⟨z.toNat, by omega⟩
  refine (ref36_decimal 4 n (by omega) (by omega) w).mono ?_
  rintro e w' ⟨rfl, rfl⟩
  exact ⟨by rw [← dec_eq_itoa], Q.refl _⟩

theorem add_rule2 (P : Program) (a b : Str) (h : a.length + b.length ≤ 1000000) (w : World) : (Op.stringOp .add ⟨a.toArray⟩ ⟨b.toArray⟩).run P w = .ok (.string ⟨(a ++ b).toArray⟩) w := by
  rw [run_string_add_sum w _ _ (by show a.length + b.length ≤ _; omega), ByteArray.mk_append_mk]
theorem six (P : Program) (S wd A B : Str) (hS : S.length ≤ 100000) (h0 : wd.length ≤ 10) (hA : A.length ≤ 4) (hB : B.length ≤ 4) : ∃ XS X0 XA XB T1 T2 T3 T4 T5 T6 : ByteArray,
    (⟨S.toArray⟩ : ByteArray) = XS ∧ (⟨wd.toArray⟩ : ByteArray) = X0 ∧ (⟨A.toArray⟩ : ByteArray) = XA ∧ (⟨B.toArray⟩ : ByteArray) = XB ∧
    (∀ w, (Op.stringOp .add XS X0).run P w = .ok (.string T1) w) ∧ (∀ w, (Op.stringOp .add T1 ⟨#[32]⟩).run P w = .ok (.string T2) w) ∧ (∀ w, (Op.stringOp .add T2 XA).run P w = .ok (.string T3) w) ∧ (∀ w, (Op.stringOp .add T3 ⟨#[32]⟩).run P w = .ok (.string T4) w) ∧
    (∀ w, (Op.stringOp .add T4 XB).run P w = .ok (.string T5) w) ∧ (∀ w, (Op.stringOp .add T5 ⟨#[10]⟩).run P w = .ok (.string T6) w) ∧ T6 = ⟨(S ++ (wd ++ [32] ++ A ++ [32] ++ B ++ [10])).toArray⟩ := by
  refine ⟨_, _, _, _, _, _, _, _, _, _, rfl, rfl, rfl, rfl, add_rule2 P _ _ (by omega), add_rule2 P _ [32] (by simp; omega), add_rule2 P _ _ (by simp; omega), add_rule2 P _ [32] (by simp; omega), add_rule2 P _ _ (by simp; omega), add_rule2 P _ [10] (by simp; omega), ?_⟩
  simp only [List.append_assoc]

set_option maxRecDepth 100000 in
set_option maxHeartbeats 2000000 in
theorem ref36_Print (l : List Sz) (hln : l.length < 1000) (v : Value) (w : World) (hl : SzSl w v l) (hb : scheck l [] = 0) :
    Calls Tryz.prog 29 #[v] w fun e w' => e = .returned (.tuple #[.string ⟨(sprint l).toArray⟩, .int .i64 0]) ∧ Q w w' := by
  obtain ⟨a, cap, rfl, hc⟩ := hl
  have HC := ref36_Check l (by omega) (.slice a l.length cap) w ⟨a, cap, rfl, hc⟩
  rw [hb] at HC
  go_enter Tryz.func29, Tryz.ntmps29
  go_wp2_with fail
  refine HC.mono ?_
  rintro e w1 ⟨rfl, hQ1⟩
  clear HC
  go_wp2_with fail
  go_loopw [4, 5] (fun o i wr => ∃ k : Nat, k ≤ l.length ∧ o = .string ⟨(sprint (l.take k)).toArray⟩ ∧ i = .int .i64 k ∧ Q w wr) (fun _ i _ => l.length - (intOf i).toNat)
  case atStart => exact ⟨0, by omega, rfl, rfl, hQ1⟩
  case round =>
    obtain ⟨k, hk, rfl, rfl, hQ⟩ := hrel
    by_cases hlt : k < l.length
    · obtain ⟨b, o, ha, hbb, c0, c1, c2⟩ := hc k hlt
      subst ha
      clear hc
      have hok : (l.getD k ⟨0, 0, 0⟩).ok := by
        have hm : l.getD k ⟨0, 0, 0⟩ ∈ l := by rw [List.getD_eq_getElem?_getD, List.getElem?_eq_getElem hlt]; exact List.getElem_mem hlt
        exact ((scheck_zero l []).1 hb).1 _ hm
      have hT : Hid (sprint (l.take (k + 1)) = sprint (l.take k) ++ sline (l.getD k ⟨0, 0, 0⟩)) := Lib.hid (by
        rw [List.take_succ_eq_append_getElem hlt, List.getD_eq_getElem?_getD, List.getElem?_eq_getElem hlt]
        unfold sprint; rw [List.flatMap_append]; simp only [List.flatMap_cons, List.flatMap_nil, List.append_nil]; rfl)
      generalize l.getD k ⟨0, 0, 0⟩ = s at *
      obtain ⟨sk, sw, sd⟩ := s
      obtain ⟨o1, o2, o3, o4, o5, o6⟩ := hok
      simp only at o1 o2 o3 o4 o5 o6 c0 c1 c2
      have d0 := qcell (hQ.drew) c0
      have d1 := qcell (hQ.drew) c1
      have d2 := qcell (hQ.drew) c2
      obtain ⟨K, rfl⟩ : ∃ K : Nat, sk = (K : Int) + 1 := ⟨(sk - 1).toNat, by omega⟩
      have hK : K < 12 := by omega
      have hwl : (kindsL[K]?.getD []).length ≤ 10 := (by decide : ∀ j : Nat, j < 12 → (kindsL[j]?.getD []).length ≤ 10) K hK
      have hlw : (Lib.itoa sw).length ≤ 4 := by rw [show sw = ((sw.toNat : Nat) : Int) from by omega, ← dec_eq_itoa]; exact (decDigits_len_le _ 4 (by decide)).2 (by omega)
      have hld : (Lib.itoa sd).length ≤ 4 := by rw [show sd = ((sd.toNat : Nat) : Int) from by omega, ← dec_eq_itoa]; exact (decDigits_len_le _ 4 (by decide)).2 (by omega)
      have HPL := sprint_len (l.take k) (by rw [List.length_take]; omega) (fun x hx => ((scheck_zero l []).1 hb).1 _ (List.mem_of_mem_take hx))
      have hT2 : sprint (l.take (k + 1)) = sprint (l.take k) ++ (kindsL[K]?.getD [] ++ [32] ++ Lib.itoa sw ++ [32] ++ Lib.itoa sd ++ [10]) := by
        rw [hT.out]; unfold sline
        rw [show ((K : Int) + 1).toNat = K + 1 from by omega, show wordStrs.getD (K + 1) [] = kindsL[K]?.getD [] from by unfold kindsL; simp]
      obtain ⟨XS, X0, XA, XB, T1, T2, T3, T4, T5, T6, xS, x0, xA, xB, r1, r2, r3, r4, r5, r6, x6⟩ := six Tryz.prog (sprint (l.take k)) (kindsL[K]?.getD []) (Lib.itoa sw) (Lib.itoa sd) HPL hwl hlw hld
      rw [← hT2] at x6
      have HK : Hid (∀ (W : World) (g : Nat), Blk W g kindVs 9 → W.cell? ⟨g, K, none⟩ = some (.string X0)) := Lib.hid (fun W g h => by
        rw [h.cell K]; unfold kindVs
        rw [List.getElem?_map, ← x0, List.getElem?_eq_getElem (show K < kindsL.length from hK)]; rfl)
      have HX := Lib.hid x6
      have HA0 := ref36_dec sw (by omega) (by omega)
      have HB0 := ref36_dec sd (by omega) (by omega)
      simp only [xA] at HA0
      simp only [xB] at HB0
      have HA := Lib.hid HA0
      have HB := Lib.hid HB0
      simp only [xS]
      have hK0 : (0 : Int) ≤ (K : Int) := by omega
      have hK1 : (K : Int) < 12 := by omega
      have hwr := Go.IntWalk.i64_in (K : Int) (by omega)
      clear c0 c1 c2 o1 o2 o3 o4 o5 o6 HA0 HB0 x0 xA xB xS x6 hwl hlw hld HPL hT2 hT
      go_wp2_with fail
      refine wp_steadily 29 rfl (by kernel_rfl) rfl ?_
      refine steadily_value (i := 0) (v := ?_) rfl rfl (by kernel_rfl) (by kernel_rfl) (fun _ _ _ h => h) (by rfl) ?_ ?_
      rotate_left
      · (intro w' hq; go_simp; try with_reducible rfl)
      simp only [Act.put, List.setIfInBounds_toArray, List.set_cons_zero, List.set_cons_succ]
      refine steadily_value (i := 2) (v := ?_) rfl rfl (by kernel_rfl) (by kernel_rfl) (fun _ _ _ h => h) (by rfl) ?_ ?_
      rotate_left
      · (intro w' hq; go_simp; try with_reducible rfl)
      simp only [Act.put, List.setIfInBounds_toArray, List.set_cons_zero, List.set_cons_succ]
      refine steadily_value (i := 3) (v := ?_) rfl rfl (by kernel_rfl) (by kernel_rfl) (fun _ _ _ h => h) (by rfl) ?_ ?_
      rotate_left
      · (intro w' hq; go_simp; try with_reducible rfl)
      simp only [Act.put, List.setIfInBounds_toArray, List.set_cons_zero, List.set_cons_succ]
      refine steadily_value (i := 4) (v := ?_) rfl rfl (by kernel_rfl) (by kernel_rfl) (fun _ _ _ h => h) (by rfl) ?_ ?_
      rotate_left
      · (intro w' hq; go_simp; try with_reducible rfl)
      simp only [Act.put, List.setIfInBounds_toArray, List.set_cons_zero, List.set_cons_succ]
      refine steadily_value (i := 5) (v := ?_) rfl rfl (by kernel_rfl) (by kernel_rfl) (fun _ _ _ h => h) (by rfl) ?_ ?_
      rotate_left
      · (intro w' hq; go_simp; try with_reducible rfl)
      simp only [Act.put, List.setIfInBounds_toArray, List.set_cons_zero, List.set_cons_succ]
      refine steadily_value (i := 6) (v := ?_) rfl rfl (by kernel_rfl) (by kernel_rfl) (fun _ _ _ h => h) (by rfl) ?_ ?_
      rotate_left
      · (intro w' hq; have hc := qcell hq d0; go_simp; try with_reducible rfl)
      simp only [Act.put, List.setIfInBounds_toArray, List.set_cons_zero, List.set_cons_succ]
      refine steadily_value (i := 7) (v := ?_) rfl rfl (by kernel_rfl) (by kernel_rfl) (fun _ _ _ h => h) (by rfl) ?_ ?_
      rotate_left
      · (intro w' hq; go_simp; try with_reducible rfl)
      simp only [Act.put, List.setIfInBounds_toArray, List.set_cons_zero, List.set_cons_succ]
      refine steadily_value (i := 12) (v := ?_) rfl rfl (by kernel_rfl) (by kernel_rfl) (fun _ _ _ h => h) (by rfl) ?_ ?_
      rotate_left
      · (intro w' hq; go_simp; try with_reducible rfl)
      simp only [Act.put, List.setIfInBounds_toArray, List.set_cons_zero, List.set_cons_succ]
      refine steadily_value (i := 13) (v := ?_) rfl rfl (by kernel_rfl) (by kernel_rfl) (fun _ _ _ h => h) (by rfl) ?_ ?_
      rotate_left
      · (intro w' hq; go_simp; try with_reducible rfl)
      simp only [Act.put, List.setIfInBounds_toArray, List.set_cons_zero, List.set_cons_succ]
      refine steadily_value (i := 14) (v := ?_) rfl rfl (by kernel_rfl) (by kernel_rfl) (fun _ _ _ h => h) (by rfl) ?_ ?_
      rotate_left
      · (intro w' hq; go_simp; try with_reducible rfl)
      simp only [Act.put, List.setIfInBounds_toArray, List.set_cons_zero, List.set_cons_succ]
      refine steadily_value (i := 15) (v := ?_) rfl rfl (by kernel_rfl) (by kernel_rfl) (fun _ _ _ h => h) (by rfl) ?_ ?_
      rotate_left
      · (intro w' hq; go_simp; try with_reducible rfl)
      simp only [Act.put, List.setIfInBounds_toArray, List.set_cons_zero, List.set_cons_succ]
      refine steadily_value (i := 16) (v := ?_) rfl rfl (by kernel_rfl) (by kernel_rfl) (fun _ _ _ h => h) (by rfl) ?_ ?_
      rotate_left
      · (intro w' hq; have hc := qcell hq d1; go_simp; try with_reducible rfl)
      simp only [Act.put, List.setIfInBounds_toArray, List.set_cons_zero, List.set_cons_succ]
      refine steadily_value (i := 20) (v := ?_) rfl rfl (by kernel_rfl) (by kernel_rfl) (fun _ _ _ h => h) (by rfl) ?_ ?_
      rotate_left
      · (intro w' hq; go_simp; try with_reducible rfl)
      simp only [Act.put, List.setIfInBounds_toArray, List.set_cons_zero, List.set_cons_succ]
      refine steadily_value (i := 21) (v := ?_) rfl rfl (by kernel_rfl) (by kernel_rfl) (fun _ _ _ h => h) (by rfl) ?_ ?_
      rotate_left
      · (intro w' hq; go_simp; try with_reducible rfl)
      simp only [Act.put, List.setIfInBounds_toArray, List.set_cons_zero, List.set_cons_succ]
      refine steadily_value (i := 22) (v := ?_) rfl rfl (by kernel_rfl) (by kernel_rfl) (fun _ _ _ h => h) (by rfl) ?_ ?_
      rotate_left
      · (intro w' hq; go_simp; try with_reducible rfl)
      simp only [Act.put, List.setIfInBounds_toArray, List.set_cons_zero, List.set_cons_succ]
      refine steadily_value (i := 23) (v := ?_) rfl rfl (by kernel_rfl) (by kernel_rfl) (fun _ _ _ h => h) (by rfl) ?_ ?_
      rotate_left
      · (intro w' hq; go_simp; try with_reducible rfl)
      simp only [Act.put, List.setIfInBounds_toArray, List.set_cons_zero, List.set_cons_succ]
      refine steadily_value (i := 24) (v := ?_) rfl rfl (by kernel_rfl) (by kernel_rfl) (fun _ _ _ h => h) (by rfl) ?_ ?_
      rotate_left
      · (intro w' hq; have hc := qcell hq d2; go_simp; try with_reducible rfl)
      simp only [Act.put, List.setIfInBounds_toArray, List.set_cons_zero, List.set_cons_succ]
      refine steadily_only (i := 1) rfl rfl (by kernel_rfl) (by rfl) ?_ (fun w' hq => (ref36_Kinds w').mono ?_)
      · (intro w' hq; go_simp; try with_reducible rfl)
      rintro e w2 ⟨rfl, hq2, BK⟩
      refine ⟨_, rfl, hq2, ?_⟩
      simp only [Act.put, List.setIfInBounds_toArray, List.set_cons_zero, List.set_cons_succ]
      have hk2 := HK.out _ _ BK
      refine steadily_value (i := 8) (v := ?_) rfl rfl (by kernel_rfl) (by kernel_rfl) (fun _ _ _ h => h) (by rfl) ?_ ?_
      rotate_left
      · (intro w' hq; go_simp; try with_reducible rfl)
      simp only [Act.put, List.setIfInBounds_toArray, List.set_cons_zero, List.set_cons_succ]
      refine steadily_value (i := 9) (v := ?_) rfl rfl (by kernel_rfl) (by kernel_rfl) (fun _ _ _ h => h) (by rfl) ?_ ?_
      rotate_left
      · (intro w' hq; have hc := qcell hq hk2; go_simp; try with_reducible rfl)
      simp only [Act.put, List.setIfInBounds_toArray, List.set_cons_zero, List.set_cons_succ]
      refine steadily_value (i := 10) (v := ?_) rfl rfl (by kernel_rfl) (by kernel_rfl) (fun _ _ _ h => h) (by rfl) ?_ ?_
      rotate_left
      · (intro w' hq; go_simp; try with_reducible rfl)
      simp only [Act.put, List.setIfInBounds_toArray, List.set_cons_zero, List.set_cons_succ]
      refine steadily_value (i := 11) (v := ?_) rfl rfl (by kernel_rfl) (by kernel_rfl) (fun _ _ _ h => h) (by rfl) ?_ ?_
      rotate_left
      · (intro w' hq; go_simp; try with_reducible rfl)
      simp only [Act.put, List.setIfInBounds_toArray, List.set_cons_zero, List.set_cons_succ]
      refine steadily_call (i := 17) (v := _) rfl rfl (by kernel_rfl) (by kernel_rfl) (fun _ _ _ h => h) (by rfl) ?_ (fun w' hq => HA.out w') ?_
      · (intro w' hq; go_simp; try with_reducible rfl)
      simp only [Act.put, List.setIfInBounds_toArray, List.set_cons_zero, List.set_cons_succ]
      refine steadily_value (i := 18) (v := ?_) rfl rfl (by kernel_rfl) (by kernel_rfl) (fun _ _ _ h => h) (by rfl) ?_ ?_
      rotate_left
      · (intro w' hq; go_simp; try with_reducible rfl)
      simp only [Act.put, List.setIfInBounds_toArray, List.set_cons_zero, List.set_cons_succ]
      refine steadily_value (i := 19) (v := ?_) rfl rfl (by kernel_rfl) (by kernel_rfl) (fun _ _ _ h => h) (by rfl) ?_ ?_
      rotate_left
      · (intro w' hq; go_simp; try with_reducible rfl)
      simp only [Act.put, List.setIfInBounds_toArray, List.set_cons_zero, List.set_cons_succ]
      refine steadily_call (i := 25) (v := _) rfl rfl (by kernel_rfl) (by kernel_rfl) (fun _ _ _ h => h) (by rfl) ?_ (fun w' hq => HB.out w') ?_
      · (intro w' hq; go_simp; try with_reducible rfl)
      simp only [Act.put, List.setIfInBounds_toArray, List.set_cons_zero, List.set_cons_succ]
      refine steadily_value (i := 26) (v := ?_) rfl rfl (by kernel_rfl) (by kernel_rfl) (fun _ _ _ h => h) (by rfl) ?_ ?_
      rotate_left
      · (intro w' hq; go_simp; try with_reducible rfl)
      simp only [Act.put, List.setIfInBounds_toArray, List.set_cons_zero, List.set_cons_succ]
      refine steadily_value (i := 27) (v := ?_) rfl rfl (by kernel_rfl) (by kernel_rfl) (fun _ _ _ h => h) (by rfl) ?_ ?_
      rotate_left
      · (intro w' hq; go_simp; try with_reducible rfl)
      simp only [Act.put, List.setIfInBounds_toArray, List.set_cons_zero, List.set_cons_succ]
      refine steadily_value (i := 28) (v := ?_) rfl rfl (by kernel_rfl) (by kernel_rfl) (fun _ _ _ h => h) (by rfl) ?_ ?_
      rotate_left
      · (intro w' hq; go_simp; try with_reducible rfl)
      simp only [Act.put, List.setIfInBounds_toArray, List.set_cons_zero, List.set_cons_succ]
      refine steadily_done (by kernel_rfl) (fun w3 hq3 => ?_)
      simp only [List.drop_succ_cons, List.drop_zero]
      go_wp2
      exact ⟨⟨k + 1, by omega, by rw [HX.out], by go_num, ((Q.trans hQ.drew hq).trans hq2).trans hq3⟩, by simp [intOf]; omega⟩
    · obtain rfl : k = l.length := by omega
      rw [List.take_length]
      clear hc
      go_wp2
      go_ret2
      exact ⟨rfl, hQ⟩

set_option maxHeartbeats 1000000 in
theorem ref36_Print_bad (l : List Sz) (hln : l.length < 4611686018427387904) (v : Value) (w : World) (hl : SzSl w v l) (hb : (scheck l [] != 0) = true) :
    Calls Tryz.prog 29 #[v] w fun e w' => e = .returned (.tuple #[.string ⟨#[]⟩, .int .i64 1]) ∧ Q w w' := by
  obtain ⟨a, cap, rfl, hc⟩ := hl
  have HC := Lib.hid (ref36_Check l hln (.slice a l.length cap) w ⟨a, cap, rfl, hc⟩)
  clear hc
  generalize scheck l [] = x at *
  go_enter Tryz.func29, Tryz.ntmps29
  go_wp2_with fail
  refine HC.out.mono ?_
  rintro e w1 ⟨rfl, hQ1⟩
  go_wp2
  go_ret2
  exact ⟨rfl, hQ1⟩

end Go.Proofs.YtgkikkabmcihhaaGreatDoor

namespace Go.Proofs.YtgkikkabmcihhaaGreatDoor
open Go.RowKit Kp

/-- The number of a string; -1 if it is none. -/
def numVal (s : Str) : Int := if numOk s = true then (nval s : Int) else -1

theorem numOk_empty : numOk [] = false := by
  cases hb : numOk [] with
  | false => rfl
  | true =>
    obtain ⟨n, hn, he⟩ := numOk_iff.1 hb
    exact absurd he.symm (by unfold Lib.decDigits; split <;> simp)
theorem numOk_long {s : Str} (h : 4 < s.length) : numOk s = false := by
  cases hb : numOk s with
  | false => rfl
  | true => simp only [numOk, decide_eq_true_eq] at hb; omega
theorem numOk_zero {s : Str} (h : 1 < s.length) (h0 : at0 s 0 = 48) : numOk s = false := by
  cases hb : numOk s with
  | false => rfl
  | true =>
    obtain ⟨n, hn, he⟩ := numOk_iff.1 hb
    match s, h, h0 with
    | c :: d :: r, _, h0 =>
      have hc : c = 48 := h0
      subst hc
      have hd : ∀ x ∈ d :: r, isDig x = true := fun x hx => decDigits_dig n x (by rw [← he]; simp only [List.mem_cons] at hx ⊢; exact .inr hx)
      have h1 := nval_lt (d :: r) hd
      have h2 : nval (48 :: d :: r) = nval (d :: r) := by rw [nval_cons]; simp
      have h3 : n = nval (48 :: d :: r) := by rw [he, nval_decDigits]
      have h4 := (decDigits_len_le n (d :: r).length (by simp)).2 (by omega)
      rw [← he] at h4
      simp at h4
      omega
theorem numOk_stop {s : Str} {k : Nat} (hk : k < s.length) (h : isDig (at0 s k) = false) : numOk s = false := by
  cases hb : numOk s with
  | false => rfl
  | true =>
    obtain ⟨n, hn, he⟩ := numOk_iff.1 hb
    have : isDig (at0 s k) = true := by
      rw [at0_get s k hk]
      exact decDigits_dig n _ (by rw [← he]; exact List.getElem_mem hk)
    rw [this] at h; cases h
theorem numOk_all {s : Str} (h0 : s ≠ []) (h4 : s.length ≤ 4) (hz : s.length = 1 ∨ at0 s 0 ≠ 48) (h : AllDig (s.take s.length)) : numOk s = true := by
  rw [List.take_length] at h
  simp only [numOk, decide_eq_true_eq]
  refine ⟨h4, decDigits_nval s h0 h fun hh => ?_⟩
  match s, h0, hz with
  | c :: r, _, hz =>
    simp at hh
    subst hh
    rcases hz with hz | hz
    · have : r = [] := List.eq_nil_of_length_eq_zero (by simpa using hz)
      subst this; rfl
    · exact absurd rfl hz

set_option maxHeartbeats 1000000 in
theorem ref36_number (s : Str) (hl : s.length ≤ 100000) (w : World) :
    Calls Tryz.prog 64 #[.string ⟨s.toArray⟩] w fun e w' => e = .returned (.int .i64 (numVal s)) ∧ ∃ n, w' = w.drewN n := by
  have hcase : (s.length = 0 ∧ Hid (numVal s = -1)) ∨ (4 < s.length ∧ Hid (numVal s = -1)) ∨ (1 < s.length ∧ s.length ≤ 4 ∧ ((((at0 s 0).toNat : Int) == 48) = true) ∧ Hid (numVal s = -1)) ∨ (0 < s.length ∧ s.length ≤ 4 ∧ Hid (s.length = 1 ∨ at0 s 0 ≠ 48) ∧ (s.length = 1 ∨ (1 < s.length ∧ (((at0 s 0).toNat : Int) == 48) = false))) := by
    by_cases h0 : s.length = 0
    · left; refine ⟨h0, Lib.hid ?_⟩
      have : s = [] := List.eq_nil_of_length_eq_zero h0
      subst this; unfold numVal; rw [numOk_empty]; rfl
    · by_cases h4 : 4 < s.length
      · right; left; refine ⟨h4, Lib.hid ?_⟩; unfold numVal; rw [numOk_long h4]; rfl
      · by_cases hz : at0 s 0 = 48
        · by_cases h1 : 1 < s.length
          · right; right; left
            refine ⟨h1, by omega, by rw [hz]; rfl, Lib.hid ?_⟩; unfold numVal; rw [numOk_zero h1 hz]; rfl
          · right; right; right
            exact ⟨by omega, by omega, Lib.hid (.inl (by omega)), .inl (by omega)⟩
        · right; right; right
          refine ⟨by omega, by omega, Lib.hid (.inr hz), ?_⟩
          have hb : (((at0 s 0).toNat : Int) == 48) = false := by
            rw [beq_eq_false_iff_ne]; intro e; apply hz; apply UInt8.toNat_inj.1; exact Int.ofNat_inj.1 e
          by_cases h1 : s.length = 1
          · exact .inl h1
          · exact .inr ⟨by omega, hb⟩
  go_enter Tryz.func64, Tryz.ntmps64
  rcases hcase with ⟨h0, HV⟩ | ⟨h4, HV⟩ | ⟨h1, h4, hz, HV⟩ | ⟨h0, h4, HZ, hz⟩
  · go_wp2
    go_ret
    exact ⟨by rw [HV.out]; rfl, 0, rfl⟩
  · have hl0 : ((s.length : Int) == 0) = false := by simp; intro e; subst e; simp at h4
    go_wp2
    go_ret
    exact ⟨by rw [HV.out]; rfl, 0, rfl⟩
  · have hl0 : ((s.length : Int) == 0) = false := by simp; intro e; subst e; simp at h1
    go_wp2
    go_ret
    exact ⟨by rw [HV.out]; rfl, 0, rfl⟩
  · have hl0 : ((s.length : Int) == 0) = false := by simp; intro e; subst e; simp at h0
    rcases hz with hz | ⟨hz, hzb⟩
    all_goals
      go_wp2
      go_loopw [3, 4] (fun n i wr => ∃ k : Nat, k ≤ s.length ∧ i = .int .i64 k ∧ n = .int .i64 (nval (s.take k)) ∧ Hid (AllDig (s.take k)) ∧ ∃ m, wr = w.drewN m) (fun _ i _ => s.length - (intOf i).toNat)
      case atStart => exact ⟨0, by omega, rfl, rfl, Lib.hid (by simp [AllDig]), 0, rfl⟩
      case round =>
        obtain ⟨k, hk, rfl, rfl, HD, m, rfl⟩ := hrel
        by_cases hlt : k < s.length
        · have hk0 : (0 : Int) ≤ k := by omega
          have hkl : (k : Int) < s.length := by omega
          cases hd : isDig (at0 s k) with
          | true =>
            have hd2 := (isDig_iff _).1 hd
            have HS := Lib.hid (nval_take_succ hlt)
            have HN := Lib.hid (HD.out.snoc hlt hd)
            have hb := nval_take_lt HD.out
            have hp : 10 ^ k ≤ 10000 := Nat.le_trans (Nat.pow_le_pow_right (by decide) (show k ≤ 4 by omega)) (by decide)
            clear hd
            go_wp2
            go_roundw
            case rel => exact ⟨k + 1, by omega, by go_num, by rw [HS.out]; go_num, HN, m, rfl⟩
            case measure => simp [intOf]; omega
          | false =>
            have HV : Hid (numVal s = -1) := Lib.hid (by unfold numVal; rw [numOk_stop hlt hd]; rfl)
            have hd2 := (isDig_false_iff _).1 hd
            clear hd
            rcases hd2 with hd2 | hd2
            · go_wp2
              go_ret
              exact ⟨by rw [HV.out]; rfl, m, rfl⟩
            · have hd3 : 48 ≤ (at0 s k).toNat := by omega
              go_wp2
              go_ret
              exact ⟨by rw [HV.out]; rfl, m, rfl⟩
        · obtain rfl : k = s.length := by omega
          have HV : Hid (numVal s = (nval (s.take s.length) : Nat)) := Lib.hid (by
            unfold numVal; rw [numOk_all (by intro e; subst e; simp at h0) h4 HZ.out HD.out, List.take_length]; rfl)
          go_wp2
          go_ret
          exact ⟨by rw [HV.out]; rfl, m, rfl⟩

end Go.Proofs.YtgkikkabmcihhaaGreatDoor

namespace Go.Proofs.YtgkikkabmcihhaaGreatDoor
open Go.RowKit Kp

/-- Strings as values. -/
def strVs (ps : List Str) : List Value := ps.map fun s => .string ⟨s.toArray⟩
theorem strVs_len (ps : List Str) : (strVs ps).length = ps.length := by simp [strVs]
theorem strVs_at (ps : List Str) (j : Nat) (hj : j < ps.length) : (strVs ps)[j]? = some (.string ⟨(ps[j]?.getD []).toArray⟩) := by
  simp [strVs, hj]

theorem rows_apart {w : World} {B1 B2 z1 z2 n1 n2 : Nat} {e1 e2 : TypeId} {v1 v2 : Value} {xs1 xs2 : List Value} (h1 : w.ownsRow B1 e1 z1 v1 n1 xs1) (h2 : w.ownsRow B2 e2 z2 v2 n2 xs2) (he : e1 ≠ e2) : v1.ownBlock = none ∨ v1.ownBlock ≠ v2.ownBlock := by
  rcases h1.2 with ⟨rfl, _⟩ | ⟨g1, c1, u1, rfl, _, k1, _⟩
  · exact .inl rfl
  · rcases h2.2 with ⟨rfl, _⟩ | ⟨g2, c2, u2, rfl, _, k2, _⟩
    · exact .inr (by simp [Value.ownBlock])
    · right
      intro e
      simp only [Value.ownBlock, Option.some.injEq] at e
      subst e
      rw [k1] at k2
      injection k2 with k2
      injection k2 with _ k2 _
      exact he k2

theorem byte_at (s : Str) (k : Nat) (h : k < s.length) : (⟨s.toArray⟩ : ByteArray).extract k (k + 1) = ⟨[at0 s k].toArray⟩ := by
  apply ByteArray.ext
  rw [ByteArray.data_extract]
  simp only [List.extract_toArray, List.extract_eq_take_drop]
  rw [show k + 1 - k = 1 from by omega, List.drop_eq_getElem_cons h, at0_get s k h]
  rfl

theorem ref36_number_q (s : Str) (hl : s.length ≤ 100000) (w : World) :
    Calls Tryz.prog 64 #[.string ⟨s.toArray⟩] w fun e w' => e = .returned (.int .i64 (numVal s)) ∧ Q w w' :=
  (ref36_number s hl w).mono fun e w' h => by
    obtain ⟨rfl, n, rfl⟩ := h
    exact ⟨rfl, Below.drewN (Below.refl _ _) n⟩

/-- The kind of a word after j words have been looked at. -/
def kfold (a : Str) : Nat → Nat
  | 0 => 0
  | j + 1 => if kindsL[j]?.getD [] = a then j + 1 else kfold a j
theorem kfold_not (a : Str) : ∀ (j : Nat), (∀ i, i < j → kindsL[i]?.getD [] ≠ a) → kfold a j = 0
  | 0, _ => rfl
  | j + 1, h => by
    unfold kfold
    rw [if_neg (h j (by omega))]
    exact kfold_not a j (fun i hi => h i (by omega))
theorem kfold_le (a : Str) : ∀ (j : Nat), kfold a j ≤ j
  | 0 => Nat.le_refl _
  | j + 1 => by
    unfold kfold
    have := kfold_le a j
    split <;> omega
theorem kfold_word (a : Str) : (a ≠ [] ∧ a ∈ wordStrs ∧ kfold a 12 = wordStrs.idxOf a ∧ kfold a 12 ≠ 0) ∨ ((a = [] ∨ ¬ a ∈ wordStrs) ∧ kfold a 12 = 0) := by
  by_cases h : a ∈ wordStrs
  · have h2 : ∀ i : Fin 13, (wordStrs.getD i.val [] ≠ [] ∧ kfold (wordStrs.getD i.val []) 12 = wordStrs.idxOf (wordStrs.getD i.val []) ∧ kfold (wordStrs.getD i.val []) 12 ≠ 0) ∨ (wordStrs.getD i.val [] = [] ∧ kfold (wordStrs.getD i.val []) 12 = 0) := by decide
    have hi := List.idxOf_lt_length_of_mem h
    have e : wordStrs.getD (wordStrs.idxOf a) [] = a := by rw [List.getD_eq_getElem?_getD, List.getElem?_eq_getElem hi]; simp
    have h3 := h2 ⟨wordStrs.idxOf a, hi⟩
    simp only [e] at h3
    rcases h3 with ⟨x, y, z⟩ | ⟨x, y⟩
    · exact .inl ⟨x, h, y, z⟩
    · exact .inr ⟨.inl x, y⟩
  · refine .inr ⟨.inr h, kfold_not a 12 fun i hi e => h ?_⟩
    have h2 : ∀ i : Fin 12, kindsL[i.val]?.getD [] ∈ wordStrs := by decide
    rw [← e]
    exact h2 ⟨i, hi⟩
theorem numVal_neg (s : Str) : (numOk s = true ∧ numVal s = nval s ∧ ¬ numVal s < 0) ∨ (numOk s = false ∧ numVal s < 0) := by
  unfold numVal
  cases h : numOk s with
  | true => exact .inl ⟨rfl, rfl, by simp⟩
  | false => exact .inr ⟨rfl, by simp⟩

theorem kind_at (a : Str) (j : Nat) (hj : j < 12) : ∃ X : Str, (∀ (W : World) (g : Nat), Blk W g kindVs 9 → W.cell? ⟨g, j, none⟩ = some (.string ⟨X.toArray⟩)) ∧
    (((X == a) = true ∧ kfold a (j + 1) = j + 1) ∨ ((X == a) = false ∧ kfold a (j + 1) = kfold a j)) := by
  refine ⟨kindsL[j]?.getD [], fun W g h => ?_, ?_⟩
  · rw [h.cell j]; unfold kindVs
    rw [List.getElem?_map, List.getElem?_eq_getElem (show j < kindsL.length from hj)]; rfl
  · unfold kfold
    by_cases he : kindsL[j]?.getD [] = a
    · rw [if_pos he]; exact .inl ⟨by rw [beq_iff_eq]; exact he, rfl⟩
    · rw [if_neg he]; exact .inr ⟨by rw [beq_eq_false_iff_ne]; exact he, by cases j <;> rfl⟩

theorem three_of : ∀ (ps : List Str), ps.length = 3 → ∃ a b c, ps = [a, b, c]
  | [a, b, c], _ => ⟨a, b, c, rfl⟩

/-- Where the loop stands. -/
structure PSt (s : Str) (w : World) (k : Nat) (out : List Sz) (ps : List Str) (o p : Value) (wr : World) : Prop where
  ok : partsOk ps
  says : parseL s = (parseL (joinS ps ++ s.drop k)).map (out ++ ·)
  outs : wr.ownsRow w.heap.size 35 3 o out.length (szCells out)
  parts : wr.ownsRow w.heap.size 9 1 p ps.length (strVs ps)
  lenO : out.length ≤ k
  lenP : ps.length ≤ k + 1
  lenJ : (joinS ps).length ≤ k
  q : Q w wr

set_option maxRecDepth 100000 in
set_option maxHeartbeats 2000000 in
theorem ref36_Parse (s : Str) (hs : s.length ≤ 10000) (w : World) :
    Calls Tryz.prog 30 #[.string ⟨s.toArray⟩] w fun e w' => ∃ v er, e = .returned (.tuple #[v, .int .i64 er]) ∧ Hid (ParseRes s v er w') ∧ Q w w' := by
  obtain ⟨i0, hi, hz0, hz1, hz2⟩ := info_parts infoSize
  obtain ⟨j0, ji, jz0, jz1, jz2⟩ := info_parts infoString
  have hl0 : decide ((65536 : Int) < (s.length : Int)) = false := by simp; omega
  go_enter Tryz.func30, Tryz.ntmps30
  go_wp2
  go_loopw [4, 5, 6] (fun ov pv i wr => ∃ (k : Nat) (out : List Sz) (ps : List Str) (o p : Value), k ≤ s.length ∧ o = ov ∧ p = pv ∧ i = .int .i64 k ∧ Hid (PSt s w k out ps o p wr)) (fun _ _ i _ => s.length - (intOf i).toNat)
  case atStart =>
    refine ⟨0, [], [[]], _, _, by omega, rfl, rfl, rfl, Lib.hid ⟨partsOk_one, ?_, ?_, ?_, by simp, by simp, by simp [joinS], ?_⟩⟩
    · cases h : parseL s <;> simp [joinS, h]
    · exact (World.ownsRow_lit w #[] 0 (Nat.le_refl _) (by unfold maxLen; omega) rfl).alloc _
    · have := World.ownsRow_lit (base := w.heap.size) (e := 9) (size := 1) (w.alloc (.cells #[] 35)) #[.string ⟨#[]⟩] 1 (by simp) (by unfold maxLen; omega) rfl
      simpa [strVs] using this
    · exact ((Below.refl _ _).alloc (Nat.le_refl _) _).alloc (by simp) _
  case round =>
    obtain ⟨k, out, ps, o, p, hk, rfl, rfl, rfl, HP⟩ := hrel
    by_cases hlt : k < s.length
    · have hk0 : (0 : Int) ≤ (k : Int) := by omega
      have hkl : (k : Int) < s.length := by omega
      have hdrop : s.drop k = at0 s k :: s.drop (k + 1) := by rw [at0_get s k hlt]; exact List.drop_eq_getElem_cons hlt
      by_cases h32 : at0 s k = 32
      · have hb : (((at0 s k).toNat : Int) == 32) = true := by rw [h32]; rfl
        have HX : Hid (parseL s = (parseL (joinS (ps ++ [[]]) ++ s.drop (k + 1))).map (out ++ ·)) := Lib.hid (by
          rw [HP.out.says, hdrop, h32, joinS_blank ps HP.out.ok.1, List.append_assoc, List.singleton_append])
        have hp := HP.out.parts
        have ho := HP.out.outs
        have hq := HP.out.q
        have hne := rows_apart ho hp (by decide)
        have hlp := HP.out.lenP
        have hws := hq.size
        go_wp2_with (at_builtin; refine wpList_append_own _ rfl (.tmp 25) (.tmp 26) 50 rfl w.heap.size 9 j0 _ 1 16 Tryz.underlying50 ji jz0 jz1 jz2 rfl (by decide) _ ps.length (strVs ps) rfl (hp.alloc _) ⟨wr.heap.size, 0, none⟩ 1 1 [.string ⟨#[]⟩] rfl rfl (cell_one_new _ _ _) (by simp [Value.oneCell']) (by unfold maxLen; omega) (by omega) (by simp; omega) ?_)
        intro v' w1 hown' hgrow _
        have hq1 : Q w w1 := (hq.alloc hws _).grown hgrow (by simp; omega) (fun j hj => (hp.lt j hj).1)
        have ho1 := (ho.alloc (.cells #[.string ⟨#[]⟩] 9)).kept hgrow hne
        have HN : Hid (PSt s w (k + 1) out (ps ++ [[]]) o v' w1) := Lib.hid ⟨partsOk_blank HP.out.ok, HX.out, ho1, by simpa [strVs] using hown', by have := HP.out.lenO; omega, by simp; omega, by rw [joinS_blank ps HP.out.ok.1]; have := HP.out.lenJ; simp; omega, hq1⟩
        clear hown' hgrow ho1 hp ho hq hne hq1
        go_wp2
        go_roundw
        case rel => exact ⟨k + 1, out, ps ++ [[]], o, v', by omega, rfl, rfl, by go_num, HN⟩
        case measure => simp [intOf]; omega
      · have hb : (((at0 s k).toNat : Int) == 32) = false := by
          rw [beq_eq_false_iff_ne]; intro e; apply h32; apply UInt8.toNat_inj.1; exact Int.ofNat_inj.1 e
        by_cases h10 : at0 s k = 10
        · have hc : (((at0 s k).toNat : Int) != 10) = false := by rw [h10]; rfl
          have hp := HP.out.parts
          have hq := HP.out.q
          have hsay := HP.out.says
          rw [hdrop, h10, parts_line HP.out.ok] at hsay
          by_cases hl3 : ps.length = 3
          · obtain ⟨a, b, c, rfl⟩ := three_of ps hl3
            have h3 := lineOk_three (a := a) (b := b) (c := c) (HP.out.ok.2 a (by simp)).1 (HP.out.ok.2 b (by simp)).1
            have hls : a.length ≤ 10000 ∧ b.length ≤ 10000 ∧ c.length ≤ 10000 := by
              have := HP.out.lenJ
              simp [joinS] at this
              omega
            rw [h3.1, h3.2] at hsay
            obtain ⟨gp, cp, rfl, hg1, hg2⟩ := hp.form (by simp)
            have hc0 := hp.cellAt 0 (by simp)
            have hc1 := hp.cellAt 1 (by simp)
            have hc2 := hp.cellAt 2 (by simp)
            rw [show (strVs [a, b, c])[0]? = some (.string ⟨a.toArray⟩) from rfl] at hc0
            rw [show (strVs [a, b, c])[1]? = some (.string ⟨b.toArray⟩) from rfl] at hc1
            rw [show (strVs [a, b, c])[2]? = some (.string ⟨c.toArray⟩) from rfl] at hc2
            simp only [List.length_cons, List.length_nil, Nat.zero_add, Nat.reduceAdd] at hp HP ⊢
            have HNb := Lib.hid (ref36_number_q b (by omega))
            have HNc := Lib.hid (ref36_number_q c (by omega))
            have HS := Lib.hid hsay
            have HK := Lib.hid (kfold_word a)
            have HVb := Lib.hid (numVal_neg b)
            have HVc := Lib.hid (numVal_neg c)
            generalize hnb : numVal b = nb at *
            generalize hnc : numVal c = nc at *
            have d1 : wr.drew.cell? ⟨gp, 1, none⟩ = some (.string ⟨b.toArray⟩) := hc1
            have d2 : wr.drew.cell? ⟨gp, 2, none⟩ = some (.string ⟨c.toArray⟩) := hc2
            clear h3 hsay hls hl3
            go_wp2_with fail
            refine wp_steadily 10 rfl (by kernel_rfl) rfl ?_
            refine steadily_value (i := 0) (v := ?_) rfl rfl (by kernel_rfl) (by kernel_rfl) (fun _ _ _ h => h) (by rfl) ?_ ?_
            rotate_left
            · (intro w' hq; go_simp; try with_reducible rfl)
            simp only [Act.put, List.setIfInBounds_toArray, List.set_cons_zero, List.set_cons_succ]
            refine steadily_value (i := 1) (v := ?_) rfl rfl (by kernel_rfl) (by kernel_rfl) (fun _ _ _ h => h) (by rfl) ?_ ?_
            rotate_left
            · (intro w' hq; go_simp; try with_reducible rfl)
            simp only [Act.put, List.setIfInBounds_toArray, List.set_cons_zero, List.set_cons_succ]
            refine steadily_value (i := 2) (v := ?_) rfl rfl (by kernel_rfl) (by kernel_rfl) (fun _ _ _ h => h) (by rfl) ?_ ?_
            rotate_left
            · (intro w' hq; have hc := qcell hq d1; go_simp; try with_reducible rfl)
            simp only [Act.put, List.setIfInBounds_toArray, List.set_cons_zero, List.set_cons_succ]
            refine steadily_value (i := 4) (v := ?_) rfl rfl (by kernel_rfl) (by kernel_rfl) (fun _ _ _ h => h) (by rfl) ?_ ?_
            rotate_left
            · (intro w' hq; go_simp; try with_reducible rfl)
            simp only [Act.put, List.setIfInBounds_toArray, List.set_cons_zero, List.set_cons_succ]
            refine steadily_value (i := 5) (v := ?_) rfl rfl (by kernel_rfl) (by kernel_rfl) (fun _ _ _ h => h) (by rfl) ?_ ?_
            rotate_left
            · (intro w' hq; go_simp; try with_reducible rfl)
            simp only [Act.put, List.setIfInBounds_toArray, List.set_cons_zero, List.set_cons_succ]
            refine steadily_value (i := 6) (v := ?_) rfl rfl (by kernel_rfl) (by kernel_rfl) (fun _ _ _ h => h) (by rfl) ?_ ?_
            rotate_left
            · (intro w' hq; have hc := qcell hq d2; go_simp; try with_reducible rfl)
            simp only [Act.put, List.setIfInBounds_toArray, List.set_cons_zero, List.set_cons_succ]
            refine steadily_call (i := 3) (v := _) rfl rfl (by kernel_rfl) (by kernel_rfl) (fun _ _ _ h => h) (by rfl) ?_ (fun w' hq => HNb.out w') ?_
            · (intro w' hq; go_simp; try with_reducible rfl)
            simp only [Act.put, List.setIfInBounds_toArray, List.set_cons_zero, List.set_cons_succ]
            refine steadily_call (i := 7) (v := _) rfl rfl (by kernel_rfl) (by kernel_rfl) (fun _ _ _ h => h) (by rfl) ?_ (fun w' hq => HNc.out w') ?_
            · (intro w' hq; go_simp; try with_reducible rfl)
            simp only [Act.put, List.setIfInBounds_toArray, List.set_cons_zero, List.set_cons_succ]
            refine steadily_value (i := 8) (v := ?_) rfl rfl (by kernel_rfl) (by kernel_rfl) (fun _ _ _ h => h) (by rfl) ?_ ?_
            rotate_left
            · (intro w' hq; go_simp; try with_reducible rfl)
            simp only [Act.put, List.setIfInBounds_toArray, List.set_cons_zero, List.set_cons_succ]
            refine steadily_alloc (i := 9) (.cells #[.int .i64 0, .int .i64 0, .int .i64 0] 35) rfl rfl (by kernel_rfl) (by rfl) ?_ (fun w1 hq1 => ?_)
            · (intro w' hq; go_simp; try with_reducible rfl)
            simp only [Act.put, List.setIfInBounds_toArray, List.set_cons_zero, List.set_cons_succ]
            refine steadily_done (by kernel_rfl) (fun w4 hq4 => ?_)
            simp only [List.drop_succ_cons, List.drop_zero]
            have hbx : wr.heap.size ≤ w1.heap.size := hq1.size
            have hqr : Q wr w4 := Below.trans (Below.trans ((Below.refl wr.heap.size wr).drew) (hq1.alloc hbx _)) (hq4.mono (by simp; omega))
            have BX := (Blk.new w1 [.int .i64 0, .int .i64 0, .int .i64 0] 35).keep hq4 (by simp)
            have lx := BX.lt
            have x0 := BX.cell 0
            have x1 := BX.cell 1
            have x2 := BX.cell 2
            have f0 := BX.frozen 0
            have f1 := BX.frozen 1
            have f2 := BX.frozen 2
            simp only [List.getElem?_cons_zero, List.getElem?_cons_succ] at x0 x1 x2
            generalize w1.heap.size = bx at *
            clear hq1 hq4 d1 d2
            go_wp2_with fail
            have BX5 := ((BX.set 0 (.int .i64 0)).set 1 (.int .i64 nb)).set 2 (.int .i64 nc)
            simp only [List.set_cons_zero, List.set_cons_succ] at BX5
            have hq5 : Q wr (((w4.setCell ⟨bx, 0, none⟩ (.int .i64 0)).setCell ⟨bx, 1, none⟩ (.int .i64 nb)).setCell ⟨bx, 2, none⟩ (.int .i64 nc)) :=
              ((hqr.setCell (p := ⟨bx, 0, none⟩) hbx _).setCell (p := ⟨bx, 1, none⟩) hbx _).setCell (p := ⟨bx, 2, none⟩) hbx _
            generalize ((w4.setCell ⟨bx, 0, none⟩ (.int .i64 0)).setCell ⟨bx, 1, none⟩ (.int .i64 nb)).setCell ⟨bx, 2, none⟩ (.int .i64 nc) = w5 at *
            clear BX lx x0 x1 x2 f0 f1 f2 hqr
            obtain ⟨w0, rfl⟩ : ∃ w0, w0 = wr := ⟨_, rfl⟩
            go_loopw [8] (fun i wl => ∃ j : Nat, j ≤ 12 ∧ i = .int .i64 j ∧ Q w0 wl ∧ Blk wl bx [.int .i64 (kfold a j : Nat), .int .i64 nb, .int .i64 nc] 35) (fun i _ => 12 - (intOf i).toNat)
            case atStart => exact ⟨0, by omega, rfl, hq5, BX5⟩
            case round =>
              obtain ⟨j, hj, rfl, hqj, BJ⟩ := hrel
              have hj0 : (0 : Int) ≤ (j : Int) := by omega
              by_cases hjl : j < 12
              · have hjl2 : (j : Int) < 12 := by omega
                obtain ⟨X, hX, hXa⟩ := kind_at a j hjl
                go_wp2_with fail
                refine (ref36_Kinds _).mono ?_
                rintro e w6 ⟨rfl, hq6, -⟩
                go_wp2_with fail
                have e0 : w6.drew.cell? ⟨gp, 0, none⟩ = some (.string ⟨a.toArray⟩) := qcell (Q.trans hqj hq6) hc0
                refine wp_steadily 8 rfl (by kernel_rfl) rfl ?_
                refine steadily_value (i := 1) (v := ?_) rfl rfl (by kernel_rfl) (by kernel_rfl) (fun _ _ _ h => h) (by rfl) ?_ ?_
                rotate_left
                · (intro w' hq; go_simp; try with_reducible rfl)
                simp only [Act.put, List.setIfInBounds_toArray, List.set_cons_zero, List.set_cons_succ]
                refine steadily_value (i := 4) (v := ?_) rfl rfl (by kernel_rfl) (by kernel_rfl) (fun _ _ _ h => h) (by rfl) ?_ ?_
                rotate_left
                · (intro w' hq; go_simp; try with_reducible rfl)
                simp only [Act.put, List.setIfInBounds_toArray, List.set_cons_zero, List.set_cons_succ]
                refine steadily_value (i := 5) (v := ?_) rfl rfl (by kernel_rfl) (by kernel_rfl) (fun _ _ _ h => h) (by rfl) ?_ ?_
                rotate_left
                · (intro w' hq; go_simp; try with_reducible rfl)
                simp only [Act.put, List.setIfInBounds_toArray, List.set_cons_zero, List.set_cons_succ]
                refine steadily_value (i := 6) (v := ?_) rfl rfl (by kernel_rfl) (by kernel_rfl) (fun _ _ _ h => h) (by rfl) ?_ ?_
                rotate_left
                · (intro w' hq; have hc := qcell hq e0; go_simp; try with_reducible rfl)
                simp only [Act.put, List.setIfInBounds_toArray, List.set_cons_zero, List.set_cons_succ]
                refine steadily_only (i := 0) rfl rfl (by kernel_rfl) (by rfl) ?_ (fun w' hq => (ref36_Kinds w').mono ?_)
                · (intro w' hq; go_simp; try with_reducible rfl)
                rintro e w7 ⟨rfl, hq7, BK⟩
                refine ⟨_, rfl, hq7, ?_⟩
                simp only [Act.put, List.setIfInBounds_toArray, List.set_cons_zero, List.set_cons_succ]
                have hk2 := hX _ _ BK
                rcases hXa with ⟨hx, hkf⟩ | ⟨hx, hkf⟩
                · refine steadily_value (i := 2) (v := ?_) rfl rfl (by kernel_rfl) (by kernel_rfl) (fun _ _ _ h => h) (by rfl) ?_ ?_
                  rotate_left
                  · (intro w' hq; go_simp; try with_reducible rfl)
                  simp only [Act.put, List.setIfInBounds_toArray, List.set_cons_zero, List.set_cons_succ]
                  refine steadily_value (i := 3) (v := ?_) rfl rfl (by kernel_rfl) (by kernel_rfl) (fun _ _ _ h => h) (by rfl) ?_ ?_
                  rotate_left
                  · (intro w' hq; have hc := qcell hq hk2; go_simp; try with_reducible rfl)
                  simp only [Act.put, List.setIfInBounds_toArray, List.set_cons_zero, List.set_cons_succ]
                  refine steadily_value (i := 7) (v := ?_) rfl rfl (by kernel_rfl) (by kernel_rfl) (fun _ _ _ h => h) (by rfl) ?_ ?_
                  rotate_left
                  · (intro w' hq; go_simp; try with_reducible rfl)
                  simp only [Act.put, List.setIfInBounds_toArray, List.set_cons_zero, List.set_cons_succ]
                  refine steadily_done (by kernel_rfl) (fun w8 hq8 => ?_)
                  simp only [List.drop_succ_cons, List.drop_zero]
                  have hqA : Q wr w8 := Q.trans (Q.trans (Q.trans (Below.drew hq6) hq) hq7) hq8
                  have B8 := BJ.keep hqA BJ.lt
                  have lx := B8.lt
                  have x0 := B8.cell 0
                  have f0 := B8.frozen 0
                  simp only [List.getElem?_cons_zero] at x0
                  have B9 := B8.set 0 (.int .i64 ((j : Int) + 1))
                  simp only [List.set_cons_zero] at B9
                  have hq9 : Q w0 (w8.setCell ⟨bx, 0, none⟩ (.int .i64 ((j : Int) + 1))) := (Below.setCell (p := ⟨bx, 0, none⟩) (Q.trans hqj hqA) hbx _)
                  clear BJ B8 BK hk2 e0
                  go_wp2
                  go_roundw
                  case rel => exact ⟨j + 1, by omega, by go_num, hq9, by rw [hkf]; exact B9⟩
                  case measure => simp [intOf]; omega
                · refine steadily_value (i := 2) (v := ?_) rfl rfl (by kernel_rfl) (by kernel_rfl) (fun _ _ _ h => h) (by rfl) ?_ ?_
                  rotate_left
                  · (intro w' hq; go_simp; try with_reducible rfl)
                  simp only [Act.put, List.setIfInBounds_toArray, List.set_cons_zero, List.set_cons_succ]
                  refine steadily_value (i := 3) (v := ?_) rfl rfl (by kernel_rfl) (by kernel_rfl) (fun _ _ _ h => h) (by rfl) ?_ ?_
                  rotate_left
                  · (intro w' hq; have hc := qcell hq hk2; go_simp; try with_reducible rfl)
                  simp only [Act.put, List.setIfInBounds_toArray, List.set_cons_zero, List.set_cons_succ]
                  refine steadily_value (i := 7) (v := ?_) rfl rfl (by kernel_rfl) (by kernel_rfl) (fun _ _ _ h => h) (by rfl) ?_ ?_
                  rotate_left
                  · (intro w' hq; go_simp; try with_reducible rfl)
                  simp only [Act.put, List.setIfInBounds_toArray, List.set_cons_zero, List.set_cons_succ]
                  refine steadily_done (by kernel_rfl) (fun w8 hq8 => ?_)
                  simp only [List.drop_succ_cons, List.drop_zero]
                  have hqA : Q wr w8 := Q.trans (Q.trans (Q.trans (Below.drew hq6) hq) hq7) hq8
                  have B8 := BJ.keep hqA BJ.lt
                  clear BJ BK hk2 e0
                  go_wp2
                  go_roundw
                  case rel => exact ⟨j + 1, by omega, by go_num, Q.trans hqj hqA, by rw [hkf]; exact B8⟩
                  case measure => simp [intOf]; omega
              · obtain rfl : j = 12 := by omega
                go_wp2_with fail
                refine (ref36_Kinds _).mono ?_
                rintro e w6 ⟨rfl, hq6, -⟩
                have hq6' : Q w0 w6 := Q.trans hqj hq6
                have B6 := BJ.keep hq6 BJ.lt
                have lx := B6.lt
                have x0 := B6.cell 0
                have x1 := B6.cell 1
                have x2 := B6.cell 2
                simp only [List.getElem?_cons_zero, List.getElem?_cons_succ] at x0 x1 x2
                have hQ6 : Q w w6 := Q.trans HP.out.q hq6'
                have HBad : (kfold a 12 = 0 ∨ numOk b = false ∨ numOk c = false) → Hid (ParseRes s (.slice none 0 0) 3 w6) := fun h => by
                  have hn : parseL s = none := by
                    rw [HS.out, if_neg]
                    · rfl
                    · simp only [Bool.and_eq_true, decide_eq_true_eq]
                      rintro ⟨⟨⟨u1, u2⟩, u3⟩, u4⟩
                      rcases h with h | h | h
                      · rcases HK.out with ⟨_, _, _, h2⟩ | ⟨h1, _⟩
                        · exact h2 h
                        · rcases h1 with h1 | h1
                          · exact u1 h1
                          · exact h1 u2
                      · rw [u3] at h; cases h
                      · rw [u4] at h; cases h
                  exact Lib.hid (.inl ⟨hn, rfl, rfl⟩)
                clear hq6 BJ
                rcases HK.out with ⟨k1, k2, k3, k4⟩ | ⟨_, k4⟩
                · have hkb : (((kfold a 12 : Nat) : Int) == 0) = false := by rw [beq_eq_false_iff_ne]; omega
                  rcases HVb.out with ⟨v1, v2, v3⟩ | ⟨v1, v3⟩
                  · rcases HVc.out with ⟨z1, z2, z3⟩ | ⟨z1, z3⟩
                    · have HX : Hid (parseL s = (parseL (joinS [[]] ++ s.drop (k + 1))).map ((out ++ [⟨(kfold a 12 : Nat), nb, nc⟩]) ++ ·)) := Lib.hid (by
                        rw [HS.out, v1, z1, if_pos (by simp [k1, k2]), k3, v2, z2, Option.map_map]
                        simp only [joinS, List.nil_append]
                        congr 1; funext m; simp)
                      clear HBad HK HVb HVc HS k1 k2 k3 k4 v1 v2 z1 z2
                      generalize kfold a 12 = kk at *
                      have ho6 := ownsRow_keep HP.out.outs hq6'
                      have hok : out.length ≤ k := HP.out.lenO
                      have hws := hQ6.size
                      have hcs : szCells (out ++ [⟨(kk : Nat), nb, nc⟩]) = szCells out ++ [.int .i64 kk, .int .i64 nb, .int .i64 nc] := by unfold szCells; rw [List.flatMap_append]; rfl
                      have HSC := Lib.hid hcs
                      clear hcs
                      go_wp2_with (at_builtin; refine wpList_append_own _ rfl (.tmp 91) (.tmp 93) 31 rfl w.heap.size 35 i0 _ 3 24 Tryz.underlying31 hi hz0 hz1 hz2 rfl (by decide) _ out.length (szCells out) rfl (ho6.alloc _) ⟨w6.heap.size, 0, none⟩ 1 1 [.int .i64 kk, .int .i64 nb, .int .i64 nc] rfl rfl ?qc2 ?qc3 ?qc4 ?qc5 ?qc6 ?_)
                      case qc2 =>
                        intro i u hj
                        have hB := (Blk.new w6 [.int .i64 (kk : Int), .int .i64 nb, .int .i64 nc] 35).cell i
                        rw [Addr.add_lit, Nat.zero_add]
                        exact hB.trans hj
                      case qc3 =>
                        intro u hu
                        simp only [List.mem_cons, List.not_mem_nil, or_false] at hu
                        rcases hu with rfl | rfl | rfl <;> rfl
                      case qc4 => unfold maxLen; omega
                      case qc5 => omega
                      case qc6 => simp; omega
                      intro v' w7 hown7 hgrow7 _
                      have hq7 : Q w w7 := (hQ6.alloc hws _).grown hgrow7 (by simp; omega) (fun i hi => (ho6.lt i hi).1)
                      have ho8 : (w7.alloc (.cells #[.string ⟨#[]⟩] 9)).ownsRow w.heap.size 35 3 v' (out ++ [(⟨(kk : Nat), nb, nc⟩ : Sz)]).length (szCells (out ++ [⟨(kk : Nat), nb, nc⟩])) := by
                        rw [HSC.out, List.length_append]; exact hown7.alloc _
                      have hp8 := World.ownsRow_lit (base := w.heap.size) (e := 9) (size := 1) w7 #[.string ⟨#[]⟩] 1 hq7.size (by unfold maxLen; omega) rfl
                      have HN : Hid (PSt s w (k + 1) (out ++ [⟨(kk : Nat), nb, nc⟩]) [[]] v' (.slice (some ⟨w7.heap.size, 0, none⟩) 1 1) (w7.alloc (.cells #[.string ⟨#[]⟩] 9))) :=
                        Lib.hid ⟨partsOk_one, HX.out, ho8, by simpa [strVs] using hp8, by simp; omega, by simp, by simp [joinS], hq7.alloc hq7.size _⟩
                      clear hown7 hgrow7 ho8 hp8 ho6 B6
                      go_wp2
                      go_roundw
                      case rel => exact ⟨k + 1, out ++ [⟨(kk : Nat), nb, nc⟩], [[]], v', _, by omega, rfl, rfl, by go_num, HN⟩
                      case measure => simp [intOf]; omega
                    · have HX := HBad (.inr (.inr z1))
                      clear HBad HK HVb HVc HS
                      go_wp2
                      go_ret2
                      exact ⟨_, _, rfl, HX, hQ6⟩
                  · have HX := HBad (.inr (.inl v1))
                    clear HBad HK HVb HVc HS
                    go_wp2
                    go_ret2
                    exact ⟨_, _, rfl, HX, hQ6⟩
                · have HX := HBad (.inl k4)
                  have hkb : (((kfold a 12 : Nat) : Int) == 0) = true := by rw [k4]; rfl
                  clear HBad HK HVb HVc HS
                  go_wp2
                  go_ret2
                  exact ⟨_, _, rfl, HX, hQ6⟩
          · have HX : Hid (ParseRes s (.slice none 0 0) 3 wr) := Lib.hid (.inl ⟨by rw [hsay, lineOk_else HP.out.ok hl3]; rfl, rfl, rfl⟩)
            have hn0 : 0 < ps.length := List.length_pos_iff.2 HP.out.ok.1
            obtain ⟨gp, cp, rfl, hg1, hg2⟩ := hp.form hn0
            have hlb : ((ps.length : Int) != 3) = true := by rw [bne_iff_ne]; omega
            clear hsay hp hl3
            go_wp2
            go_ret2
            exact ⟨_, _, rfl, HX, hq⟩
        · have hc : (((at0 s k).toNat : Int) != 10) = true := by
            rw [bne_iff_ne]; intro e; apply h10; apply UInt8.toNat_inj.1; exact Int.ofNat_inj.1 e
          obtain ⟨init, last, rfl⟩ : ∃ init last, ps = init ++ [last] := ⟨ps.dropLast, ps.getLast HP.out.ok.1, (List.dropLast_concat_getLast HP.out.ok.1).symm⟩
          have hp := HP.out.parts
          have hps : (init ++ [last]).length = init.length + 1 := by simp
          rw [hps] at hp
          obtain ⟨gp, cp, rfl, hg1, hg2⟩ := hp.form (by omega)
          have hcl := hp.cellAt init.length (by omega)
          have hfl := hp.frozenAt init.length
          rw [show (strVs (init ++ [last]))[init.length]? = some (.string ⟨last.toArray⟩) from by simp [strVs]] at hcl
          have hcd : wr.drew.cell? ⟨gp, init.length, none⟩ = some (.string ⟨last.toArray⟩) := hcl
          have hw1 := Go.IntWalk.i64_in (init.length : Int) (by have := HP.out.lenP; rw [hps] at this; omega)
          have hw2 := Go.IntWalk.i64_in ((k : Int) + 1) (by omega)
          have hk1 : (k : Int) + 1 ≤ s.length := by omega
          have hw3 : (init.length : Int) < (init.length : Int) + 1 := by omega
          have hw4 : (0 : Int) ≤ (init.length : Int) := by omega
          have hk2 : (0 : Int) ≤ (k : Int) + 1 := by omega
          have hk3 : (k : Int) ≤ (k : Int) + 1 := by omega
          obtain ⟨C, hC⟩ : ∃ C : ByteArray, ⟨[at0 s k].toArray⟩ = C := ⟨_, rfl⟩
          obtain ⟨L, hL⟩ : ∃ L : ByteArray, ⟨last.toArray⟩ = L := ⟨_, rfl⟩
          obtain ⟨Z, hZ⟩ : ∃ Z : ByteArray, ⟨(last ++ [at0 s k]).toArray⟩ = Z := ⟨_, rfl⟩
          have hex := byte_at s k hlt
          have hlen : last.length ≤ 10000 := by
            have h1 := HP.out.lenJ
            have h2 : last.length ≤ (joinS (init ++ [last])).length := joinS_last init last
            omega
          have hadd := add_rule2 Tryz.prog last [at0 s k] (by simp; omega)
          rw [hC] at hex hadd
          rw [hL] at hadd hcd
          rw [hZ] at hadd
          go_wp2_with fail
          refine wp_steadily 17 rfl (by kernel_rfl) rfl ?_
          refine steadily_value (i := 0) (v := ?_) rfl rfl (by kernel_rfl) (by kernel_rfl) (fun _ _ _ h => h) (by rfl) ?_ ?_
          rotate_left
          · (intro w' hq; go_simp; try with_reducible rfl)
          simp only [Act.put, List.setIfInBounds_toArray, List.set_cons_zero, List.set_cons_succ]
          refine steadily_value (i := 1) (v := ?_) rfl rfl (by kernel_rfl) (by kernel_rfl) (fun _ _ _ h => h) (by rfl) ?_ ?_
          rotate_left
          · (intro w' hq; go_simp; try with_reducible rfl)
          simp only [Act.put, List.setIfInBounds_toArray, List.set_cons_zero, List.set_cons_succ]
          refine steadily_value (i := 2) (v := ?_) rfl rfl (by kernel_rfl) (by kernel_rfl) (fun _ _ _ h => h) (by rfl) ?_ ?_
          rotate_left
          · (intro w' hq; go_simp; try with_reducible rfl)
          simp only [Act.put, List.setIfInBounds_toArray, List.set_cons_zero, List.set_cons_succ]
          refine steadily_value (i := 3) (v := ?_) rfl rfl (by kernel_rfl) (by kernel_rfl) (fun _ _ _ h => h) (by rfl) ?_ ?_
          rotate_left
          · (intro w' hq; go_simp; try with_reducible rfl)
          simp only [Act.put, List.setIfInBounds_toArray, List.set_cons_zero, List.set_cons_succ]
          refine steadily_value (i := 4) (v := ?_) rfl rfl (by kernel_rfl) (by kernel_rfl) (fun _ _ _ h => h) (by rfl) ?_ ?_
          rotate_left
          · (intro w' hq; go_simp; try with_reducible rfl)
          simp only [Act.put, List.setIfInBounds_toArray, List.set_cons_zero, List.set_cons_succ]
          refine steadily_value (i := 5) (v := ?_) rfl rfl (by kernel_rfl) (by kernel_rfl) (fun _ _ _ h => h) (by rfl) ?_ ?_
          rotate_left
          · (intro w' hq; go_simp; try with_reducible rfl)
          simp only [Act.put, List.setIfInBounds_toArray, List.set_cons_zero, List.set_cons_succ]
          refine steadily_value (i := 6) (v := ?_) rfl rfl (by kernel_rfl) (by kernel_rfl) (fun _ _ _ h => h) (by rfl) ?_ ?_
          rotate_left
          · (intro w' hq; go_simp; try with_reducible rfl)
          simp only [Act.put, List.setIfInBounds_toArray, List.set_cons_zero, List.set_cons_succ]
          refine steadily_value (i := 7) (v := ?_) rfl rfl (by kernel_rfl) (by kernel_rfl) (fun _ _ _ h => h) (by rfl) ?_ ?_
          rotate_left
          · (intro w' hq; go_simp; try with_reducible rfl)
          simp only [Act.put, List.setIfInBounds_toArray, List.set_cons_zero, List.set_cons_succ]
          refine steadily_value (i := 8) (v := ?_) rfl rfl (by kernel_rfl) (by kernel_rfl) (fun _ _ _ h => h) (by rfl) ?_ ?_
          rotate_left
          · (intro w' hq; go_simp; try with_reducible rfl)
          simp only [Act.put, List.setIfInBounds_toArray, List.set_cons_zero, List.set_cons_succ]
          refine steadily_value (i := 9) (v := ?_) rfl rfl (by kernel_rfl) (by kernel_rfl) (fun _ _ _ h => h) (by rfl) ?_ ?_
          rotate_left
          · (intro w' hq; have hc := qcell hq hcd; go_simp; try with_reducible rfl)
          simp only [Act.put, List.setIfInBounds_toArray, List.set_cons_zero, List.set_cons_succ]
          refine steadily_value (i := 10) (v := ?_) rfl rfl (by kernel_rfl) (by kernel_rfl) (fun _ _ _ h => h) (by rfl) ?_ ?_
          rotate_left
          · (intro w' hq; go_simp; try with_reducible rfl)
          simp only [Act.put, List.setIfInBounds_toArray, List.set_cons_zero, List.set_cons_succ]
          refine steadily_value (i := 11) (v := ?_) rfl rfl (by kernel_rfl) (by kernel_rfl) (fun _ _ _ h => h) (by rfl) ?_ ?_
          rotate_left
          · (intro w' hq; go_simp; try with_reducible rfl)
          simp only [Act.put, List.setIfInBounds_toArray, List.set_cons_zero, List.set_cons_succ]
          refine steadily_value (i := 12) (v := ?_) rfl rfl (by kernel_rfl) (by kernel_rfl) (fun _ _ _ h => h) (by rfl) ?_ ?_
          rotate_left
          · (intro w' hq; go_simp; try with_reducible rfl)
          simp only [Act.put, List.setIfInBounds_toArray, List.set_cons_zero, List.set_cons_succ]
          refine steadily_value (i := 13) (v := ?_) rfl rfl (by kernel_rfl) (by kernel_rfl) (fun _ _ _ h => h) (by rfl) ?_ ?_
          rotate_left
          · (intro w' hq; go_simp; try with_reducible rfl)
          simp only [Act.put, List.setIfInBounds_toArray, List.set_cons_zero, List.set_cons_succ]
          refine steadily_value (i := 14) (v := ?_) rfl rfl (by kernel_rfl) (by kernel_rfl) (fun _ _ _ h => h) (by rfl) ?_ ?_
          rotate_left
          · (intro w' hq; go_simp; try with_reducible rfl)
          simp only [Act.put, List.setIfInBounds_toArray, List.set_cons_zero, List.set_cons_succ]
          refine steadily_value (i := 15) (v := ?_) rfl rfl (by kernel_rfl) (by kernel_rfl) (fun _ _ _ h => h) (by rfl) ?_ ?_
          rotate_left
          · (intro w' hq; go_simp; try with_reducible rfl)
          simp only [Act.put, List.setIfInBounds_toArray, List.set_cons_zero, List.set_cons_succ]
          refine steadily_value (i := 16) (v := ?_) rfl rfl (by kernel_rfl) (by kernel_rfl) (fun _ _ _ h => h) (by rfl) ?_ ?_
          rotate_left
          · (intro w' hq; go_simp; try with_reducible rfl)
          simp only [Act.put, List.setIfInBounds_toArray, List.set_cons_zero, List.set_cons_succ]
          refine steadily_done (by kernel_rfl) (fun w3 hq3 => ?_)
          simp only [List.drop_succ_cons, List.drop_zero]
          have hqq : Q wr w3 := Below.trans ((Below.refl wr.heap.size wr).drew) hq3
          have ho3 := ownsRow_keep HP.out.outs hqq
          have hp3 := ownsRow_keep hp hqq
          have hcl3 := qcell hqq hcl
          have hfl3 := hp3.frozenAt init.length
          obtain ⟨hp4, hgw⟩ := hp3.stored init.length (.string Z)
          have ho4 := ho3.kept hgw (rows_apart ho3 hp3 (by decide))
          have hq4 : Q w (w3.setCell ⟨gp, init.length, none⟩ (.string Z)) := (HP.out.q.trans hqq).setCell (p := ⟨gp, init.length, none⟩) hg1 _
          rw [show (strVs (init ++ [last])).set init.length (.string Z) = strVs (init ++ [last ++ [at0 s k]]) from by rw [← hZ]; simp [strVs]] at hp4
          have HN : Hid (PSt s w (k + 1) out (init ++ [last ++ [at0 s k]]) o (.slice (some ⟨gp, 0, none⟩) (init.length + 1) cp) (w3.setCell ⟨gp, init.length, none⟩ (.string Z))) :=
            Lib.hid ⟨partsOk_snoc HP.out.ok h32 h10, by rw [HP.out.says, hdrop, joinS_snoc, List.append_assoc, List.singleton_append], ho4, by simpa using hp4, by have := HP.out.lenO; omega, by have := HP.out.lenP; simp at this ⊢; omega, by rw [joinS_snoc]; have := HP.out.lenJ; simp; omega, hq4⟩
          clear hp4 ho4 ho3 hp3 hgw hq4 hp hcl hadd hex hZ hL hC hcd hq3
          go_wp2
          go_roundw
          case rel => exact ⟨k + 1, out, init ++ [last ++ [at0 s k]], o, _, by omega, rfl, rfl, by go_num, HN⟩
          case measure => simp [intOf]; omega
    · obtain rfl : k = s.length := by omega
      have hpe := parts_end HP.out.ok
      have hsay := HP.out.says
      rw [List.drop_length, List.append_nil, hpe] at hsay
      have hp := HP.out.parts
      have hq := HP.out.q
      by_cases hps : ps = [[]]
      · rw [if_pos hps] at hsay
        subst hps
        have HL : Hid (parseL s = some out) := Lib.hid (by rw [hsay]; simp)
        obtain ⟨gp, cp, rfl, hg1, hg2⟩ := hp.form (by decide)
        have hc0 := hp.cellAt 0 (by decide)
        rw [show (strVs [[]])[0]? = some (.string ⟨#[]⟩) from rfl] at hc0
        have hsl := (szOwn_of HP.out.outs).sl
        have hln : out.length < 4611686018427387904 := by have := HP.out.lenO; omega
        clear hpe hsay hp
        go_wp2_with fail
        refine (ref36_Check out hln _ _ hsl).mono ?_
        rintro e w1 ⟨rfl, hq1⟩
        have hsl1 := hsl.keep hq1
        have hQ1 := hq.trans hq1
        by_cases hsc : scheck out [] = 0
        · have HX : Hid (ParseRes s o 0 w1) := Lib.hid (.inr ⟨out, HL.out, .inr ⟨hsc, rfl, hsl1⟩⟩)
          rw [hsc]
          go_wp2
          go_ret2
          exact ⟨_, _, rfl, HX, hQ1⟩
        · have HX : Hid (ParseRes s (.slice none 0 0) (scheck out []) w1) := Lib.hid (.inr ⟨out, HL.out, .inl ⟨hsc, rfl, rfl⟩⟩)
          have hb : (scheck out [] != 0) = true := by rw [bne_iff_ne]; exact hsc
          clear hsc
          generalize scheck out [] = x at *
          go_wp2
          go_ret2
          exact ⟨_, _, rfl, HX, hQ1⟩
      · rw [if_neg hps] at hsay
        have HX : Hid (ParseRes s (.slice none 0 0) 3 wr) := Lib.hid (.inl ⟨by rw [hsay]; rfl, rfl, rfl⟩)
        by_cases hl1 : ps.length = 1
        · obtain ⟨a, rfl⟩ : ∃ a, ps = [a] := List.length_eq_one_iff.1 hl1
          have ha : a ≠ [] := fun e => hps (by rw [e])
          have hab : a.isEmpty = false := by simpa using ha
          obtain ⟨gp, cp, rfl, hg1, hg2⟩ := hp.form (by simp)
          have hc0 := hp.cellAt 0 (by simp)
          rw [show (strVs [a])[0]? = some (.string ⟨a.toArray⟩) from rfl] at hc0
          clear hpe hsay hp hps ha
          go_wp2
          go_ret2
          exact ⟨_, _, rfl, HX, hq⟩
        · have hn0 : 0 < ps.length := List.length_pos_iff.2 HP.out.ok.1
          obtain ⟨gp, cp, rfl, hg1, hg2⟩ := hp.form hn0
          have hlb : ((ps.length : Int) != 1) = true := by rw [bne_iff_ne]; omega
          clear hpe hsay hp hps
          go_wp2
          go_ret2
          exact ⟨_, _, rfl, HX, hq⟩

end Go.Proofs.YtgkikkabmcihhaaGreatDoor

namespace Go.Proofs.YtgkikkabmcihhaaGreatDoor
open Go.RowKit Kp Go.Sort

theorem prints (l : List Sz) (hln : l.length ≤ 16) : ∃ (T : Str) (er : Int), (∀ v W, Env W → SzSl W v l → Calls Tryz.prog 25 #[v] W fun e w' => e = .returned (.tuple #[.string ⟨T.toArray⟩, .int .i64 er]) ∧ Q W w') ∧
    (∀ v W, SzSl W v l → Calls Tryz.prog 29 #[v] W fun e w' => e = .returned (.tuple #[.string ⟨T.toArray⟩, .int .i64 er]) ∧ Q W w') := by
  by_cases hs : scheck l [] = 0
  · exact ⟨sprint l, 0, fun v W hE h => timber_Print l (by omega) v W hE h hs, fun v W h => ref36_Print l (by omega) v W h hs⟩
  · exact ⟨[], 1, fun v W hE h => timber_Print_bad l (by omega) v W h hs, fun v W h => ref36_Print_bad l (by omega) v W h (by rw [bne_iff_ne]; exact hs)⟩

theorem parse_len (s : Str) (l : List Sz) (h : parseL s = some l) : l.length ≤ s.length := by
  have h1 := print_parse s.length s l (Nat.le_refl _) h
  have h2 := len_le_sprint l
  rw [h1] at h2; exact h2

theorem parses {s : Str} (hs : s.length ≤ 1000) {v1 v2 : Value} {e1 e2 : Int} {w1 w2 : World} (h1 : ParseRes s v1 e1 w1) (h2 : ParseRes s v2 e2 w2) : e1 = e2 ∧ ∃ l : List Sz, l.length ≤ 1000 ∧ SzSl w1 v1 l ∧ SzSl w2 v2 l := by
  have nl : ∀ W, SzSl W (.slice none 0 0) [] := fun W => ⟨none, 0, rfl, fun i hi => absurd hi (Nat.not_lt_zero _)⟩
  rcases h1 with ⟨a, rfl, rfl⟩ | ⟨l, a, h1⟩
  · rcases h2 with ⟨b, rfl, rfl⟩ | ⟨m, b, h2⟩
    · exact ⟨rfl, [], by simp, nl _, nl _⟩
    · rw [a] at b; cases b
  · rcases h2 with ⟨b, rfl, rfl⟩ | ⟨m, b, h2⟩
    · rw [a] at b; cases b
    · rw [a] at b; injection b with b; subst b
      rcases h1 with ⟨x, rfl, rfl⟩ | ⟨x, rfl, x1⟩
      · rcases h2 with ⟨y, rfl, rfl⟩ | ⟨y, rfl, y1⟩
        · exact ⟨rfl, [], by simp, nl _, nl _⟩
        · exact absurd y x
      · rcases h2 with ⟨y, rfl, rfl⟩ | ⟨y, rfl, y1⟩
        · exact absurd x y
        · exact ⟨rfl, l, by have := parse_len s l a; omega, x1, y1⟩

def kindB : List ByteArray := kindsL.map fun s => ⟨s.toArray⟩
theorem kindB_len : kindB.length = 12 := rfl
theorem kindB_at (j : Nat) (hj : j < 12) : kindB.getD j ByteArray.empty = ⟨(kindsL[j]?.getD []).toArray⟩ := by
  unfold kindB
  rw [List.getD_eq_getElem?_getD, List.getElem?_map, List.getElem?_eq_getElem (show j < kindsL.length from hj)]; rfl

theorem equal_kinds (g cap b : Nat) (w : World) (hH : Holds encStr w g 0 kindsL.toArray) (hB : Blk w b kindVs 9) :
    Calls Tryz.prog 31 #[.slice (some ⟨g, 0, none⟩) 12 cap, .slice (some ⟨b, 0, none⟩) 12 12] w fun e w' => e = .returned (.bool true) ∧ Q w w' := by
  have h := Tryz.slices_Equal_string g 0 12 cap b 0 12 12 kindB kindB w (by rw [kindB_len]; omega) (by rw [kindB_len]; omega) (by decide) (by decide)
    (fun j hj => by
      have hj' : j < 12 := hj
      rw [Nat.zero_add, holds_cell hH j hj', kindB_at j hj'])
    (fun j hj => by
      have hj' : j < 12 := hj
      rw [Nat.zero_add, hB.cell j, kindB_at j hj']
      unfold kindVs
      rw [List.getElem?_map, List.getElem?_eq_getElem (show j < kindsL.length from hj')]; rfl)
  rw [decide_eq_true rfl] at h
  refine h.mono ?_
  rintro e w' ⟨rfl, n, rfl⟩
  exact ⟨rfl, Below.drewN (Below.refl _ _) n⟩

set_option maxRecDepth 100000 in
set_option maxHeartbeats 4000000 in
theorem sizes_walk (l : List Sz) (hln : l.length < 4611686018427387904) (kind : Int) (s : Str) (hsl : s.length ≤ 9223372036854775807) (v : Value) (w : World) (hE : Env w) (hl : SzSl w v l) :
    Calls Tryz.prog 7 #[v, .int .i64 kind, .string ⟨s.toArray⟩] w fun e w' => e = .returned (.bool true) ∧ Q w w' := by
  have HG := ref36_Great l v w hl hln
  by_cases h16 : 16 < l.length
  · rw [decide_eq_true h16] at HG
    have HG := Lib.hid HG
    clear h16
    obtain ⟨a, cap, rfl, -⟩ := hl
    go_enter Tryz.func7, Tryz.ntmps7
    go_wp2_with fail
    refine HG.out.mono ?_
    rintro e w1 ⟨rfl, rfl⟩
    go_wp2_with fail
    refine (awake_any _ hE).mono ?_
    rintro e w1 ⟨rfl, hq1⟩
    go_wp2
    go_ret
    exact ⟨rfl, hq1⟩
  · rw [decide_eq_false h16] at HG
    have HG := Lib.hid HG
    have HL := Lib.hid hl
    by_cases h200 : 200 < s.length
    · have hd : decide ((200 : Int) < (s.length : Int)) = true := by simp; omega
      obtain ⟨a, cap, rfl, -⟩ := hl
      go_enter Tryz.func7, Tryz.ntmps7
      go_wp2_with fail
      refine HG.out.mono ?_
      rintro e w1 ⟨rfl, rfl⟩
      go_wp2_with fail
      refine (awake_any _ hE).mono ?_
      rintro e w1 ⟨rfl, hq1⟩
      go_wp2
      go_ret
      exact ⟨rfl, hq1⟩
    · have hd : decide ((200 : Int) < (s.length : Int)) = false := by simp; omega
      obtain ⟨T, er, HP1, HP2⟩ := prints l (by omega)
      have HA1 := Lib.hid (timber_Parse s (by omega))
      have HA2 := Lib.hid (ref36_Parse s (by omega))
      have HP1 := Lib.hid HP1
      have HP2 := Lib.hid HP2
      have HF1 := Lib.hid (timber_Find l hln kind v)
      have HF2 := Lib.hid (ref36_Find l hln kind v)
      have HC1 := Lib.hid (timber_Check l hln v)
      have HC2 := Lib.hid (ref36_Check l hln v)
      have HPS : Hid (∀ (v1 v2 : Value) (e1 e2 : Int) (w1 w2 : World), ParseRes s v1 e1 w1 → ParseRes s v2 e2 w2 → e1 = e2 ∧ ∃ l : List Sz, l.length ≤ 1000 ∧ SzSl w1 v1 l ∧ SzSl w2 v2 l) := Lib.hid (fun _ _ _ _ _ _ h1 h2 => parses (by omega) h1 h2)
      clear hl
      generalize hfz : fsz l kind = z at *
      generalize hfe : ferr l kind = fe at *
      obtain ⟨zk, zw, zd⟩ := z
      unfold szV at HF1 HF2
      simp only at HF1 HF2
      generalize scheck l [] = sc at *
      go_enter Tryz.func7, Tryz.ntmps7
      go_wp2_with fail
      refine HG.out.mono ?_
      rintro e w1 ⟨rfl, rfl⟩
      go_wp2_with fail
      refine (HF1.out _ HL.out).mono ?_
      rintro e w1 ⟨rfl, hq1⟩
      have hqa : Q w1 (w1.alloc (.cells #[.int .i64 zk, .int .i64 zw, .int .i64 zd] 35)) := (by repeat (first | exact Below.refl _ _ | assumption | refine below_drewN ?_ _ | refine Below.drew ?_ | refine Below.alloc ?_ (by first | (simp; done) | (simp; omega)) _ | refine Below.setCell ?_ (by first | (simp; done) | (simp; omega)) _))
      have B1 := Blk.new w1 [.int .i64 zk, .int .i64 zw, .int .i64 zd] 35
      have hQa := Q.trans hq1 hqa
      clear hqa
      go_wp2_with fail
      refine (HF2.out _ (HL.out.keep hQa)).mono ?_
      rintro e w2 ⟨rfl, hq2⟩
      go_wp2_with fail
      have hqb : Q w2 (w2.alloc (.cells #[.int .i64 zk, .int .i64 zw, .int .i64 zd] 35)) := (by repeat (first | exact Below.refl _ _ | assumption | refine below_drewN ?_ _ | refine Below.drew ?_ | refine Below.alloc ?_ (by first | (simp; done) | (simp; omega)) _ | refine Below.setCell ?_ (by first | (simp; done) | (simp; omega)) _))
      have B2 := Blk.new w2 [.int .i64 zk, .int .i64 zw, .int .i64 zd] 35
      have B1 := B1.keep (Q.trans hq2 hqb) B1.lt
      have hQb := Q.trans hQa (Q.trans hq2 hqb)
      clear hqb hq2 hQa hq1 HF1 HF2
      generalize w1.heap.size = b1 at *
      generalize hW : w2.alloc (.cells [.int .i64 zk, .int .i64 zw, .int .i64 zd].toArray 35) = wb at *
      clear hW
      generalize w2.heap.size = b2 at *
      refine (HP1.out _ _ (hE.q hQb) (HL.out.keep hQb)).mono ?_
      rintro e w3 ⟨rfl, hq3⟩
      have hQ3 := Q.trans hQb hq3
      go_wp2_with fail
      refine (HP2.out _ _ (HL.out.keep hQ3)).mono ?_
      rintro e w4 ⟨rfl, hq4⟩
      have hQ4 := Q.trans hQ3 hq4
      go_wp2_with fail
      refine (HA1.out _ (hE.q hQ4)).mono ?_
      rintro e w5 ⟨v1, er1, rfl, HR1, hq5⟩
      have hQ5 := Q.trans hQ4 hq5
      go_wp2_with fail
      refine (HA2.out _).mono ?_
      rintro e w6 ⟨v2, er2, rfl, HR2, hq6⟩
      obtain ⟨rfl, m, hm, hu, hv⟩ := HPS.out _ _ _ _ _ _ HR1.out HR2.out
      have hu := hu.keep hq6
      have hQ6 := Q.trans hQ5 hq6
      have hq26 := Q.trans (Q.trans (Q.trans hq3 hq4) hq5) hq6
      have B1 := B1.keep hq26 B1.lt
      have B2 := B2.keep hq26 B2.lt
      clear HPS HR1 HR2 HA1 HA2 HP1 HP2 hq26 hq3 hq4 hq5 hq6 hQ3 hQ4 hQ5 hQb
      go_wp2_with fail
      refine (HC1.out _ (HL.out.keep hQ6)).mono ?_
      rintro e w7 ⟨rfl, hq7⟩
      have hQ7 := Q.trans hQ6 hq7
      go_wp2_with fail
      refine (HC2.out _ (HL.out.keep hQ7)).mono ?_
      rintro e w8 ⟨rfl, hq8⟩
      have hq68 := Q.trans hq7 hq8
      have hQ8 := Q.trans hQ7 hq8
      have B1 := B1.keep hq68 B1.lt
      have B2 := B2.keep hq68 B2.lt
      have HU := Lib.hid (hu.keep hq68)
      have HV := Lib.hid (hv.keep hq68)
      clear hu hv hq7 hq8 hq68 hQ6 hQ7 HC1 HC2
      have a0 := B1.cell 0
      have a1 := B1.cell 1
      have a2 := B1.cell 2
      have c0 := B2.cell 0
      have c1 := B2.cell 1
      have c2 := B2.cell 2
      simp only [List.getElem?_cons_zero, List.getElem?_cons_succ] at a0 a1 a2 c0 c1 c2
      have RE := eqSz ⟨zk, zw, zd⟩ ⟨zk, zw, zd⟩
      rw [decide_eq_true rfl] at RE
      unfold szV at RE
      simp only at RE
      have HEq := Lib.hid (equal_size m (by omega) v1 v2 w8 HU.out HV.out)
      clear B1 B2
      go_wp2_with fail
      refine HEq.out.mono ?_
      rintro e w9 ⟨rfl, hq9⟩
      have hQ9 := Q.trans hQ8 hq9
      clear a0 a1 a2 c0 c1 c2 RE HEq HU HV hq9
      go_wp2_with fail
      refine (timber_Kinds _ (hE.q hQ9)).mono ?_
      rintro e w10 ⟨g, cap, rfl, hq10, hg, hH⟩
      have hQ10 := Q.trans hQ9 hq10
      have HH := Lib.hid hH
      clear hH
      go_wp2_with fail
      refine (ref36_Kinds _).mono ?_
      rintro e w11 ⟨rfl, hq11, BK⟩
      have hQ11 := Q.trans hQ10 hq11
      have HQ := Lib.hid (equal_kinds g cap _ _ (holds_keep HH.out hq11 hg) BK)
      clear HH BK
      go_wp2_with fail
      refine HQ.out.mono ?_
      rintro e w12 ⟨rfl, hq12⟩
      have hQ12 := Q.trans hQ11 hq12
      clear HQ
      go_wp2_with fail
      refine (awake_any _ (hE.q hQ12)).mono ?_
      rintro e w13 ⟨rfl, hq13⟩
      go_wp2
      go_ret
      exact ⟨rfl, Q.trans hQ12 hq13⟩

end Go.Proofs.YtgkikkabmcihhaaGreatDoor
