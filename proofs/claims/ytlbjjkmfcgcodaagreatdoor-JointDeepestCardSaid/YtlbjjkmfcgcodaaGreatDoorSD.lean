/-
  BT BU BV BW BX Rn2 BY BZ CA CB CC and the beginning of CD, one behind the other: rational, root, surd at one term, timber at any number.
-/
import Derived.Test.YtlbjjkmfcgcodaaGreatDoorG08
import Derived.Test.YtlbjjkmfcgcodaaGreatDoorG02
import Derived.Test.YtlbjjkmfcgcodaaGreatDoorG05
import Derived.Test.YtlbjjkmfcgcodaaGreatDoorG00
import Derived.Test.YtlbjjkmfcgcodaaGreatDoorG01
import Derived.Test.YtlbjjkmfcgcodaaGreatDoorG04
import Derived.Test.YtlbjjkmfcgcodaaGreatDoorBI1
import Derived.Test.YtlbjjkmfcgcodaaGreatDoorG06
import Derived.Lib.MinMax
namespace Go.Proofs.YtlbjjkmfcgcodaaGreatDoor
open Go.RowKit Kp
open Go.Lib (decDigits)
theorem itoa_of_form {a : Str} (h : ichk a ≠ 11) : Lib.itoa (ival a) = a ∧ (ichk a = 4 ↔ 300 < (unsig a).length) := by
  rcases ichk_cases a with h0 | h4 | h11
  · refine ⟨(itoa_ival h0).1, ?_⟩
    unfold ichk at h0 ⊢
    split at h0
    · cases h0
    · split at h0
      · cases h0
      · next h1 h2 =>
        rw [if_neg h1, if_neg h2]
        exact ⟨fun e => absurd e (by decide), fun e => absurd e h2⟩
  · unfold ichk at h4 ⊢
    split at h4
    · cases h4
    · next h1 =>
      split at h4
      · next h2 =>
        rw [if_neg h1, if_pos h2]
        refine ⟨?_, fun _ => h2, fun _ => rfl⟩
        simp only [not_or, Classical.not_not, not_and] at h1
        obtain ⟨ne, hz, hd⟩ := h1
        have hh : (unsig a).head? ≠ some 48 := fun e => by
          have := hz e
          have h3 : unsig a = [48] ∨ a = [48] := by
            first | exact .inl this.2 | exact .inl this | exact .inr this | exact .inr this.2
          rcases h3 with h3 | h3
          · rw [h3] at h2; simp at h2
          · rw [h3] at h2; simp [unsig] at h2
        have hdd := decDigits_nval (unsig a) ne hd (fun e => absurd e hh)
        by_cases hm : a.head? = some 45
        · have hc := unsig_cons hm
          have hpos : nval (unsig a) ≠ 0 := by
            intro e; rw [e] at hdd; rw [← hdd] at hh; exact hh (by simp [decDigits])
          have hv : ival a = -(nval (unsig a) : Int) := by
            unfold ival; rw [if_pos hm]; unfold unsig; rw [if_pos hm]
          rw [hv, itoa_neg (by omega), show (-(nval (unsig a) : Int)).natAbs = nval (unsig a) by omega, hdd]
          exact hc.symm
        · have hc := unsig_same hm
          rw [hc] at hdd
          unfold ival
          rw [if_neg hm, itoa_nonneg (by omega), Int.toNat_natCast, hdd]
      · cases h4
  · exact absurd h11 h
theorem read_ways (a : Str) (h : ¬ rbad a) :
    (rchk a = 4 ∧ natOf a = none ∧ 300 < (unsig (numPart a)).length) ∨ (rchk a = 4 ∧ natOf a = none ∧ (unsig (numPart a)).length ≤ 300 ∧ 300 < (denStr a).length) ∨
    ((unsig (numPart a)).length ≤ 300 ∧ (denStr a).length ≤ 300 ∧ ∃ (z : Int) (k : Nat), 0 < k ∧ numPart a = Lib.itoa z ∧ denStr a = Lib.itoa (k : Int) ∧ lim z = false ∧ lim (k : Int) = false ∧ rchk a = if Nat.gcd z.natAbs k = 1 then 0 else 11) := by
  have hb := h
  unfold rbad at hb
  simp only [not_or, not_and] at hb
  obtain ⟨f1, f2⟩ := itoa_of_form hb.1
  have hd : ichk (denStr a) ≠ 11 ∧ (denStr a).head? ≠ some 45 ∧ denStr a ≠ [48] := by
    by_cases hs : hasSlash a = true
    · obtain ⟨b1, b2, b3, b4⟩ := hb.2 hs
      unfold denStr; rw [if_pos hs]
      exact ⟨b1, b2, b3⟩
    · unfold denStr; rw [if_neg hs]
      exact ⟨by rw [← itoa_one]; exact ichk_ne_eleven 1, by decide, by decide⟩
  obtain ⟨g1, g2⟩ := itoa_of_form hd.1
  rw [unsig_same hd.2.1] at g2
  have hn : rchk a ≠ 0 → natOf a = none := natOf_bad
  by_cases c1 : 300 < (unsig (numPart a)).length
  · have hr : rchk a = 4 := by unfold rchk; rw [if_neg h, if_pos (.inl (f2.2 c1))]
    exact .inl ⟨hr, hn (by rw [hr]; decide), c1⟩
  · by_cases c2 : 300 < (denStr a).length
    · have hr : rchk a = 4 := by unfold rchk; rw [if_neg h, if_pos (.inr (g2.2 c2))]
      exact .inr (.inl ⟨hr, hn (by rw [hr]; decide), by omega, c2⟩)
    · refine .inr (.inr ⟨by omega, by omega, ival (numPart a), (ival (denStr a)).toNat, ?_⟩)
      have hd0 : 0 ≤ ival (denStr a) := by unfold ival; rw [if_neg hd.2.1]; omega
      have hd1 : ival (denStr a) ≠ 0 := fun e => by rw [e, itoa_zero] at g1; exact hd.2.2 g1.symm
      have ec : ((ival (denStr a)).toNat : Int) = ival (denStr a) := by omega
      have z1 : ichk (numPart a) = 0 := ichk_zero_of hb.1 (fun e => c1 (f2.1 e))
      have z2 : ichk (denStr a) = 0 := ichk_zero_of hd.1 (fun e => c2 (g2.1 e))
      refine ⟨by omega, f1.symm, by rw [ec]; exact g1.symm, (itoa_ival z1).2, by rw [ec]; exact (itoa_ival z2).2, ?_⟩
      unfold rchk
      rw [if_neg h, if_neg (by rw [z1, z2]; rintro (x | x) <;> cases x), show (ival (denStr a)).toNat = (ival (denStr a)).natAbs by omega]
      by_cases hg : Nat.gcd (ival (numPart a)).natAbs (ival (denStr a)).natAbs = 1
      · rw [if_neg (by simpa using hg), if_pos hg]
      · rw [if_pos hg, if_neg hg]
def readV (a : Str) : Value := if rchk a = 0 then .tuple #[.agg #[.string ⟨(numPart a).toArray⟩, .string ⟨(denStr a).toArray⟩], .int .i64 0] else .tuple #[.agg #[.string ⟨#[]⟩, .string ⟨#[]⟩], .int .i64 (rchk a)]
set_option maxRecDepth 100000 in
set_option maxHeartbeats 2000000 in
theorem rational_read (a : Str) (hl : a.length ≤ 1000000000) (w : World) (hE : Env w) :
    Calls Tryz.prog 44 #[.string ⟨a.toArray⟩] w fun e w' => e = .returned (readV a) ∧ Q w w' := by
  have hrb : rbad a → rchk a = 11 := fun h => by unfold rchk; rw [if_pos h]
  have hcut := Lib.hid (fun w hw => rational_cut a hl w hw)
  have hnat := Lib.hid (fun w => rational_nativeOf a hl w)
  by_cases hb : rbad a
  · have hv : readV a = .tuple #[.agg #[.string ⟨#[]⟩, .string ⟨#[]⟩], .int .i64 11] := by unfold readV; rw [hrb hb, if_neg (by decide)]
    have hc : cutV a = .tuple #[.agg #[.string ⟨#[]⟩, .string ⟨#[]⟩], .bool false] := by unfold cutV; rw [if_pos hb]
    rw [hc] at hcut
    rw [hv]
    clear hb hrb hnat hv hc
    go_enter Tryz.func44, Tryz.ntmps44
    go_wp2_with fail
    refine (hcut.out _ (hE.q bt)).mono ?_
    rintro e w1 ⟨rfl, hq1⟩
    have hz1 := hq1.size
    rw [World.size_alloc] at hz1
    have hQ1 : Q w w1 := (show Below w.heap.size w _ from bt).trans (hq1.mono (by simp))
    have B1 := (Blk.new w [.string ⟨#[]⟩, .string ⟨#[]⟩] 97).keep hq1 (by simp)
    have B1' := B1.alloc (.cells #[.string ⟨#[]⟩, .string ⟨#[]⟩] 97)
    have c0 := B1'.cell 0
    have c1 := B1'.cell 1
    have f0 := B1'.frozen 0
    have f1 := B1'.frozen 1
    simp only [List.getElem?_cons_zero, List.getElem?_cons_succ] at c0 c1
    go_wp2_with fail
    refine bodyPost_ret (v := .tuple #[.agg #[.string ⟨#[]⟩, .string ⟨#[]⟩], .int .i64 11])
      (ret_read _ _ w.heap.size _ _ _ rfl rfl (((B1'.set 0 _).set 1 _).cell 0) (((B1'.set 0 _).set 1 _).cell 1)) rfl ⟨rfl, ?_⟩
    exact ((hQ1.alloc (by omega) _).setCell (p := ⟨w.heap.size, 0, none⟩) (Nat.le_refl _) _).setCell (p := ⟨w.heap.size, 1, none⟩) (Nat.le_refl _) _
  · have hc : cutV a = .tuple #[.agg #[.string ⟨(numPart a).toArray⟩, .string ⟨(denStr a).toArray⟩], .bool true] := by unfold cutV; rw [if_neg hb]
    rw [hc] at hcut
    have hw := read_ways a hb
    have hun := unsig_len (numPart a)
    have hnl := numPart_len a
    have hdl : (denStr a).length ≤ a.length + 1 := by
      unfold denStr; split
      · have := denPart_len a; omega
      · simp
    have HG := Lib.hid (fun (z : Int) (k : Nat) h1 h2 w hw => integer_Gcd z (k : Int) h1 h2 w hw)
    obtain ⟨V, hV⟩ : ∃ V, readV a = V := ⟨_, rfl⟩
    rw [hV]
    unfold readV at hV
    generalize numPart a = N at *
    generalize denStr a = D at *
    have HV := Lib.hid hV
    clear hV
    clear hc hrb hb
    go_enter Tryz.func44, Tryz.ntmps44
    go_wp2_with fail
    refine (hcut.out _ (hE.q bt)).mono ?_
    rintro e w1 ⟨rfl, hq1⟩
    have hz1 := hq1.size
    rw [World.size_alloc] at hz1
    have hQ1 : Q w w1 := (show Below w.heap.size w _ from bt).trans (hq1.mono (by simp))
    have B1 := (Blk.new w [.string ⟨#[]⟩, .string ⟨#[]⟩] 97).keep hq1 (by simp)
    go_wp2_with fail
    refine (hnat.out _).mono ?_
    rintro e w2 ⟨rfl, hq2⟩
    have hz2 := hq2.size
    rw [World.size_alloc] at hz2
    have hQ2 : Q w w2 := Q.trans hQ1 (Q.trans ((Below.refl _ w1).alloc (Nat.le_refl _) _) hq2)
    have B2 := (Blk.new w1 [.string ⟨N.toArray⟩, .string ⟨D.toArray⟩] 97).keep hq2 (by simp)
    have B1' := (B1.keep (Below.refl (w1.heap.size) w1 |>.alloc (Nat.le_refl _) (.cells #[.string ⟨N.toArray⟩, .string ⟨D.toArray⟩] 97)) (by omega)).keep hq2 (by simp; omega)
    have c0 := B1'.cell 0
    have c1 := B1'.cell 1
    have f0 := B1'.frozen 0
    have f1 := B1'.frozen 1
    have d0 := B2.cell 0
    have d1 := B2.cell 1
    have l1 := B1'.lt
    have l2 := B2.lt
    simp only [List.getElem?_cons_zero, List.getElem?_cons_succ] at c0 c1 d0 d1
    cases hno : natOf a with
    | some nd =>
      obtain ⟨n, d⟩ := nd
      rw [natOfV_some hno]
      obtain ⟨q, hq, -, -, hs⟩ := natOf_some hno
      have hr0 : rchk a = 0 := by
        have : natOf a ≠ none := by rw [hno]; simp
        by_cases h : rchk a = 0
        · exact h
        · exact absurd (natOf_bad h) this
      have HW : Hid (V = .tuple #[.agg #[.string ⟨N.toArray⟩, .string ⟨D.toArray⟩], .int .i64 0]) := Lib.hid (by rw [← HV.out, hr0, if_pos rfl])
      clear hno hs hq hw
      go_wp2_with fail
      refine bodyPost_ret (v := .tuple #[.agg #[.string ⟨N.toArray⟩, .string ⟨D.toArray⟩], .int .i64 0])
        (ret_read _ _ w.heap.size _ _ _ rfl rfl ((((B1'.set 0 _).set 1 _).alloc _).cell 0) ((((B1'.set 0 _).set 1 _).alloc _).cell 1)) rfl ⟨by rw [HW.out], ?_⟩
      exact ((hQ2.setCell (p := ⟨w.heap.size, 0, none⟩) (Nat.le_refl _) _).setCell (p := ⟨w.heap.size, 1, none⟩) (Nat.le_refl _) _).alloc (by simp; omega) _
    | none =>
      rw [natOfV_none hno]
      clear hno
      rcases hw with ⟨hr, -, h1⟩ | ⟨hr, -, h1, h2⟩ | ⟨h1, h2, z, k, hk, rfl, rfl, hz, hk2, hr⟩
      · have HW : Hid (V = .tuple #[.agg #[.string ⟨#[]⟩, .string ⟨#[]⟩], .int .i64 4]) := Lib.hid (by rw [← HV.out, hr, if_neg (by decide)])
        have h1' : (300 : Int) < ((unsig N).length : Int) := by omega
        clear hr
        go_wp2_with (go_at_call 87; refine (lib_TrimMinus N _).mono ?_; rintro e w3 ⟨rfl, rfl⟩)
        refine bodyPost_ret (v := .tuple #[.agg #[.string ⟨#[]⟩, .string ⟨#[]⟩], .int .i64 4])
          (ret_read _ _ w.heap.size _ _ _ rfl rfl ((((B1'.set 0 _).set 1 _).alloc _).cell 0) ((((B1'.set 0 _).set 1 _).alloc _).cell 1)) rfl ⟨by rw [HW.out], ?_⟩
        exact ((hQ2.setCell (p := ⟨w.heap.size, 0, none⟩) (Nat.le_refl _) _).setCell (p := ⟨w.heap.size, 1, none⟩) (Nat.le_refl _) _).alloc (by simp; omega) _
      · have HW : Hid (V = .tuple #[.agg #[.string ⟨#[]⟩, .string ⟨#[]⟩], .int .i64 4]) := Lib.hid (by rw [← HV.out, hr, if_neg (by decide)])
        have h1' : ((unsig N).length : Int) ≤ 300 := by omega
        have h2' : (300 : Int) < (D.length : Int) := by omega
        clear hr
        go_wp2_with (go_at_call 87; refine (lib_TrimMinus N _).mono ?_; rintro e w3 ⟨rfl, rfl⟩)
        refine bodyPost_ret (v := .tuple #[.agg #[.string ⟨#[]⟩, .string ⟨#[]⟩], .int .i64 4])
          (ret_read _ _ w.heap.size _ _ _ rfl rfl ((((B1'.set 0 _).set 1 _).alloc _).cell 0) ((((B1'.set 0 _).set 1 _).alloc _).cell 1)) rfl ⟨by rw [HW.out], ?_⟩
        exact ((hQ2.setCell (p := ⟨w.heap.size, 0, none⟩) (Nat.le_refl _) _).setCell (p := ⟨w.heap.size, 1, none⟩) (Nat.le_refl _) _).alloc (by simp; omega) _
      · have hr1 : rchk (Lib.itoa z) = rchk (Lib.itoa z) := rfl
        have h1' : ((unsig (Lib.itoa z)).length : Int) ≤ 300 := by omega
        have h2' : ((Lib.itoa (k : Int)).length : Int) ≤ 300 := by omega
        have HG1 := Lib.hid (fun w hw => HG.out z k hz hk2 w hw)
        rw [Int.natAbs_natCast] at HG1
        by_cases hk1 : k = 1
        · have HW : Hid (V = .tuple #[.agg #[.string ⟨(Lib.itoa z).toArray⟩, .string ⟨(Lib.itoa (k : Int)).toArray⟩], .int .i64 0]) := Lib.hid (by rw [← HV.out, show rchk a = 0 by rw [hr]; exact if_pos (by rw [hk1]; exact Nat.gcd_one_right _), if_pos rfl])
          have hd1 : (Lib.itoa (k : Int) == [49]) = true := by rw [hk1, show ((1 : Nat) : Int) = 1 from rfl, itoa_one]; rfl
          clear hr hr1 hk1 HG1
          go_wp2_with (go_at_call 87; refine (lib_TrimMinus _ _).mono ?_; rintro e w3 ⟨rfl, rfl⟩)
          refine bodyPost_ret (v := .tuple #[.agg #[.string ⟨(Lib.itoa z).toArray⟩, .string ⟨(Lib.itoa (k : Int)).toArray⟩], .int .i64 0])
            (ret_read _ _ w.heap.size _ _ _ rfl rfl ((((B1'.set 0 _).set 1 _).alloc _).cell 0) ((((B1'.set 0 _).set 1 _).alloc _).cell 1)) rfl ⟨by rw [HW.out], ?_⟩
          exact ((hQ2.setCell (p := ⟨w.heap.size, 0, none⟩) (Nat.le_refl _) _).setCell (p := ⟨w.heap.size, 1, none⟩) (Nat.le_refl _) _).alloc (by simp; omega) _
        · have hd1 : (Lib.itoa (k : Int) == [49]) = false := by
            rw [beq_eq_false_iff_ne, ← itoa_one]; exact fun e => hk1 (by have := itoa_inj e; omega)
          by_cases hg : Nat.gcd z.natAbs k = 1
          · have HW : Hid (V = .tuple #[.agg #[.string ⟨(Lib.itoa z).toArray⟩, .string ⟨(Lib.itoa (k : Int)).toArray⟩], .int .i64 0]) := Lib.hid (by rw [← HV.out, show rchk a = 0 by rw [hr]; exact if_pos hg, if_pos rfl])
            rw [hg, show ((1 : Nat) : Int) = 1 from rfl, itoa_one] at HG1
            clear hr hr1 hk1 hg
            go_wp2_with (first | (go_at_call 87; refine (lib_TrimMinus _ _).mono ?_; rintro e w3 ⟨rfl, rfl⟩) | fail)
            refine (HG1.out _ (hE.q (hQ2.alloc (by omega) _))).mono ?_
            rintro e w4 ⟨rfl, hq4⟩
            have hQ4 : Q w w4 := Q.trans (hQ2.alloc (by omega) _) hq4
            have C1 := (B1'.alloc (.cells #[.int .i64 0, .int .i64 0] 93)).keep hq4 (by simp; omega)
            have C2 := (B2.alloc (.cells #[.int .i64 0, .int .i64 0] 93)).keep hq4 (by simp; omega)
            have x0 := C1.cell 0
            have x1 := C1.cell 1
            have y0 := C1.frozen 0
            have y1 := C1.frozen 1
            have x2 := C2.cell 0
            have x3 := C2.cell 1
            simp only [List.getElem?_cons_zero, List.getElem?_cons_succ] at x0 x1 x2 x3
            clear HG1 c0 c1 f0 f1 d0 d1
            go_wp2_with fail
            refine bodyPost_ret (v := .tuple #[.agg #[.string ⟨(Lib.itoa z).toArray⟩, .string ⟨(Lib.itoa (k : Int)).toArray⟩], .int .i64 0])
              (ret_read _ _ w.heap.size _ _ _ rfl rfl (((C1.set 0 _).set 1 _).cell 0) (((C1.set 0 _).set 1 _).cell 1)) rfl ⟨by rw [HW.out], ?_⟩
            exact (hQ4.setCell (p := ⟨w.heap.size, 0, none⟩) (Nat.le_refl _) _).setCell (p := ⟨w.heap.size, 1, none⟩) (Nat.le_refl _) _
          · have HW : Hid (V = .tuple #[.agg #[.string ⟨#[]⟩, .string ⟨#[]⟩], .int .i64 11]) := Lib.hid (by rw [← HV.out, show rchk a = 11 by rw [hr]; exact if_neg hg, if_neg (by decide)])
            have hg1 : (Lib.itoa (Nat.gcd z.natAbs k : Int) == [49]) = false := by
              rw [beq_eq_false_iff_ne, ← itoa_one]; exact fun e => hg (by have := itoa_inj e; omega)
            have hg1' := bne_of_f hg1
            clear hr hr1 hk1 hg
            go_wp2_with (first | (go_at_call 87; refine (lib_TrimMinus _ _).mono ?_; rintro e w3 ⟨rfl, rfl⟩) | fail)
            refine (HG1.out _ (hE.q (hQ2.alloc (by omega) _))).mono ?_
            rintro e w4 ⟨rfl, hq4⟩
            have hQ4 : Q w w4 := Q.trans (hQ2.alloc (by omega) _) hq4
            have C1 := (B1'.alloc (.cells #[.int .i64 0, .int .i64 0] 93)).keep hq4 (by simp; omega)
            have C2 := (B2.alloc (.cells #[.int .i64 0, .int .i64 0] 93)).keep hq4 (by simp; omega)
            have x0 := C1.cell 0
            have x1 := C1.cell 1
            have y0 := C1.frozen 0
            have y1 := C1.frozen 1
            have x2 := C2.cell 0
            have x3 := C2.cell 1
            simp only [List.getElem?_cons_zero, List.getElem?_cons_succ] at x0 x1 x2 x3
            clear HG1 c0 c1 f0 f1 d0 d1
            go_wp2_with fail
            refine bodyPost_ret (v := .tuple #[.agg #[.string ⟨#[]⟩, .string ⟨#[]⟩], .int .i64 11])
              (ret_read _ _ w.heap.size _ _ _ rfl rfl (((C1.set 0 _).set 1 _).cell 0) (((C1.set 0 _).set 1 _).cell 1)) rfl ⟨by rw [HW.out], ?_⟩
            exact (hQ4.setCell (p := ⟨w.heap.size, 0, none⟩) (Nat.le_refl _) _).setCell (p := ⟨w.heap.size, 1, none⟩) (Nat.le_refl _) _
theorem readV_rstr (q : Rat) (h : rlim q = false) : readV (rstr q) = .tuple #[.agg #[.string ⟨(Lib.itoa q.num).toArray⟩, .string ⟨(Lib.itoa (q.den : Int)).toArray⟩], .int .i64 0] := by
  unfold readV; rw [show rchk (rstr q) = 0 by rw [rchk_rstr, h]; rfl, if_pos rfl, numPart_rstr, denStr_rstr]
theorem readV_bad {a : Str} (h : rchk a ≠ 0) : readV a = .tuple #[.agg #[.string ⟨#[]⟩, .string ⟨#[]⟩], .int .i64 (rchk a)] := by
  unfold readV; rw [if_neg h]
theorem rstr_len {q : Rat} (h : rlim q = false) : (rstr q).length ≤ 1000 := by
  unfold rlim at h
  rw [Bool.or_eq_false_iff] at h
  have h1 := itoa_len q.num h.1
  have h2 := itoa_len (q.den : Int) h.2
  unfold rstr; split
  · omega
  · rw [dec_eq_itoa, List.length_append, List.length_cons]; omega
theorem rational_read_num (q : Rat) (h : rlim q = false) (w : World) (hE : Env w) :
    Calls Tryz.prog 44 #[.string ⟨(rstr q).toArray⟩] w fun e w' => e = .returned (.tuple #[.agg #[.string ⟨(Lib.itoa q.num).toArray⟩, .string ⟨(Lib.itoa (q.den : Int)).toArray⟩], .int .i64 0]) ∧ Q w w' := by
  rw [← readV_rstr q h]
  exact rational_read _ (by have := rstr_len h; omega) w hE
set_option maxHeartbeats 400000 in
theorem rational_Check (a : Str) (hl : a.length ≤ 1000000000) (w : World) (hE : Env w) :
    Calls Tryz.prog 14 #[.string ⟨a.toArray⟩] w fun e w' => e = .returned (.int .i64 (rchk a)) ∧ Q w w' := by
  have HR := Lib.hid (rational_read a hl w hE)
  by_cases h : rchk a = 0
  · have hv : readV a = .tuple #[.agg #[.string ⟨(numPart a).toArray⟩, .string ⟨(denStr a).toArray⟩], .int .i64 0] := by unfold readV; rw [if_pos h]
    rw [hv] at HR
    rw [h]
    clear hv h
    go_enter Tryz.func14, Tryz.ntmps14
    go_wp2_with fail
    refine HR.out.mono ?_
    rintro e w1 ⟨rfl, hq1⟩
    go_wp2
    go_ret
    exact ⟨rfl, hq1.alloc hq1.size _⟩
  · rw [readV_bad h] at HR
    clear h
    go_enter Tryz.func14, Tryz.ntmps14
    go_wp2_with fail
    refine HR.out.mono ?_
    rintro e w1 ⟨rfl, hq1⟩
    go_wp2
    go_ret
    exact ⟨rfl, hq1.alloc hq1.size _⟩
set_option maxHeartbeats 400000 in
theorem rational_Parts (q : Rat) (h : rlim q = false) (w : World) (hE : Env w) :
    Calls Tryz.prog 109 #[.string ⟨(rstr q).toArray⟩] w fun e w' => e = .returned (.tuple #[.string ⟨(Lib.itoa q.num).toArray⟩, .string ⟨(Lib.itoa (q.den : Int)).toArray⟩, .int .i64 0]) ∧ Q w w' := by
  go_enter Tryz.func109, Tryz.ntmps109
  go_wp2_with fail
  refine (rational_read_num q h _ hE).mono ?_
  rintro e w1 ⟨rfl, hq1⟩
  go_wp2
  go_quiet (fail)
  go_wp2
  go_ret3
  exact ⟨rfl, Below.drewN (hq1.alloc hq1.size _) _⟩
end Go.Proofs.YtlbjjkmfcgcodaaGreatDoor
namespace Go.Proofs.YtlbjjkmfcgcodaaGreatDoor
open Go.RowKit Kp
open Go.Lib (decDigits)
theorem lim_le {x y : Int} (h : lim y = false) (hxy : x.natAbs ≤ y.natAbs) : lim x = false := by
  rw [lim_false] at h ⊢; omega
theorem lim_fdiv {n : Int} (h : lim n = false) {g : Nat} : lim (n.fdiv (g : Int)) = false := by
  refine lim_le h ?_
  rw [Int.fdiv_eq_ediv_of_nonneg _ (by omega)]
  rcases Nat.eq_zero_or_pos g with rfl | hg
  · simp
  · rcases Int.le_total 0 n with h0 | h0
    · have h1 : 0 ≤ n / (g : Int) := Int.ediv_nonneg h0 (by omega)
      have h2 : n / (g : Int) ≤ n := Int.ediv_le_self _ h0
      omega
    · have h1 := Int.ediv_mul_le n (show (g : Int) ≠ 0 by omega)
      have h2 : n ≤ n / (g : Int) := by
        refine (Int.le_ediv_iff_mul_le (by omega)).2 ?_
        have : n * (g : Int) ≤ n * 1 := Int.mul_le_mul_of_nonpos_left h0 (by omega)
        omega
      have h3 : n / (g : Int) ≤ 0 := by
        by_cases h : n / (g : Int) ≤ 0
        · exact h
        · have : 1 * (g : Int) ≤ n / (g : Int) * (g : Int) := Int.mul_le_mul_of_nonneg_right (by omega) (by omega)
          omega
      omega
set_option maxHeartbeats 800000 in
theorem rational_number_pos (n : Int) (k : Nat) (hk : 0 < k) (hn : lim n = false) (hd : lim (k : Int) = false) (w : World) (hE : Env w) :
    Calls Tryz.prog 40 #[.string ⟨(Lib.itoa n).toArray⟩, .string ⟨(Lib.itoa (k : Int)).toArray⟩] w fun e w' => e = .returned (.tuple #[.string ⟨(rstr (Rat.divInt n k)).toArray⟩, .int .i64 0]) ∧ Q w w' := by
  have hg1 : 0 < Nat.gcd n.natAbs k := Nat.gcd_pos_of_pos_right _ (by omega)
  have hg2 : Nat.gcd n.natAbs k ≤ k := Nat.le_of_dvd (by omega) (Nat.gcd_dvd_right ..)
  have HR := Lib.hid (rstr_divInt_f n k hk)
  generalize rstr (Rat.divInt n k) = r at *
  have HG := Lib.hid (fun w hw => integer_Gcd n (k : Int) hn hd w hw)
  rw [Int.natAbs_natCast] at HG
  have hmin : decide ((Lib.itoa (k : Int)).head? = some 45) = false := by
    rw [← dec_eq_itoa, decide_eq_false_iff_not]; exact decDigits_head_ne_minus k
  have lg : lim ((Nat.gcd n.natAbs k : Nat) : Int) = false := lim_le hd (by omega)
  generalize hgg : Nat.gcd n.natAbs k = g at *
  clear hgg
  have lm1 := lim_fdiv hn (g := g)
  have lm2 := lim_fdiv hd (g := g)
  have lq1 := itoa_len _ lm1
  have lq2 := itoa_len _ lm2
  have lq3 := itoa_len _ hn
  have lq4 := itoa_len _ hd
  have hg0 : (g : Int) ≠ 0 := by omega
  have HD := Lib.hid (fun (z : Int) hz w hw => integer_Divide z (g : Int) hz lg hg0 w hw)
  by_cases h1 : g = 1
  · have hb : (Lib.itoa (g : Int) == [49]) = true := by rw [h1]; simp [Lib.itoa, Lib.decDigits]
    have hb' := bne_of_t hb
    have e1 : n.fdiv (g : Int) = n := by rw [h1]; simp
    have e2 : (k : Int).fdiv (g : Int) = k := by rw [h1]; simp
    rw [e1, e2] at HR
    clear e1 e2
    by_cases h2 : (k : Int) = 1
    · have hc : (Lib.itoa (k : Int) == [49]) = true := by rw [h2]; simp [Lib.itoa, Lib.decDigits]
      have H2 := Lib.hid h2
      clear h2 h1
      go_enter Tryz.func40, Tryz.ntmps40
      go_wp2_with (first | (go_at_call 77; refine (lib_HasMinus _ _).mono ?_; rintro e w1 ⟨rfl, rfl⟩) | (go_at_call 79; refine (HG.out _ hE).mono ?_; rintro e w1 ⟨rfl, hq1⟩))
      go_ret2
      exact ⟨by rw [HR.out, if_pos H2.out]; rfl, hq1⟩
    · have hc : (Lib.itoa (k : Int) == [49]) = false := by
        rw [beq_eq_false_iff_ne, ← itoa_one]; exact fun e => h2 (itoa_inj e)
      have H2 := Lib.hid h2
      clear h2 h1
      go_enter Tryz.func40, Tryz.ntmps40
      go_wp2_with (first | (go_at_call 77; refine (lib_HasMinus _ _).mono ?_; rintro e w1 ⟨rfl, rfl⟩) | (go_at_call 79; refine (HG.out _ hE).mono ?_; rintro e w1 ⟨rfl, hq1⟩))
      go_ret2
      exact ⟨by rw [HR.out, if_neg H2.out]; first | rfl | (simp; done), hq1⟩
  · have hb : (Lib.itoa (g : Int) == [49]) = false := by
      rw [beq_eq_false_iff_ne, ← itoa_one]; exact fun e => h1 (by have := itoa_inj e; omega)
    have hb' := bne_of_f hb
    by_cases h2 : (k : Int).fdiv (g : Int) = 1
    · have hc : (Lib.itoa ((k : Int).fdiv (g : Int)) == [49]) = true := by rw [h2]; simp [Lib.itoa, Lib.decDigits]
      have H2 := Lib.hid h2
      clear h2 h1
      go_enter Tryz.func40, Tryz.ntmps40
      go_wp2_with (first | (go_at_call 77; refine (lib_HasMinus _ _).mono ?_; rintro e w1 ⟨rfl, rfl⟩) | (go_at_call 79; refine (HG.out _ hE).mono ?_; rintro e w1 ⟨rfl, hq1⟩) | fail)
      refine (HD.out n hn _ (hE.q hq1)).mono ?_
      rintro e w2 ⟨rfl, hq2⟩
      have hQ2 : Q w w2 := Q.trans hq1 hq2
      go_wp2_with fail
      refine (HD.out (k : Int) hd _ (hE.q hQ2)).mono ?_
      rintro e w3 ⟨rfl, hq3⟩
      go_wp2
      go_ret2
      exact ⟨by rw [HR.out, if_pos H2.out]; rfl, Q.trans hQ2 hq3⟩
    · have hc : (Lib.itoa ((k : Int).fdiv (g : Int)) == [49]) = false := by
        rw [beq_eq_false_iff_ne, ← itoa_one]; exact fun e => h2 (itoa_inj e)
      have H2 := Lib.hid h2
      clear h2 h1
      go_enter Tryz.func40, Tryz.ntmps40
      go_wp2_with (first | (go_at_call 77; refine (lib_HasMinus _ _).mono ?_; rintro e w1 ⟨rfl, rfl⟩) | (go_at_call 79; refine (HG.out _ hE).mono ?_; rintro e w1 ⟨rfl, hq1⟩) | fail)
      refine (HD.out n hn _ (hE.q hq1)).mono ?_
      rintro e w2 ⟨rfl, hq2⟩
      have hQ2 : Q w w2 := Q.trans hq1 hq2
      go_wp2_with fail
      refine (HD.out (k : Int) hd _ (hE.q hQ2)).mono ?_
      rintro e w3 ⟨rfl, hq3⟩
      go_wp2
      go_ret2
      exact ⟨by rw [HR.out, if_neg H2.out]; first | rfl | (simp; done), Q.trans hQ2 hq3⟩
set_option maxHeartbeats 400000 in
theorem rational_opposite (z : Int) (hz : lim z = false) (w : World) :
    Calls Tryz.prog 78 #[.string ⟨(Lib.itoa z).toArray⟩] w fun e w' => e = .returned (.string ⟨(Lib.itoa (-z)).toArray⟩) ∧ w = w' := by
  have hl := itoa_len z hz
  by_cases h0 : z = 0
  · subst h0
    rw [show (-0 : Int) = 0 from rfl, itoa_zero]
    go_enter Tryz.func78, Tryz.ntmps78
    go_wp2_with fail
    go_ret
    exact ⟨rfl, rfl⟩
  · have hne : (Lib.itoa z == [48]) = false := by
      rw [beq_eq_false_iff_ne, ← itoa_zero]; exact fun e => h0 (itoa_inj e)
    have hu : unsig (Lib.itoa z) = decDigits z.natAbs := unsig_itoa z
    have HU := Lib.hid hu
    by_cases hs : z < 0
    · have hm : decide ((Lib.itoa z).head? = some 45) = true := by rw [itoa_neg hs]; rfl
      have HR : Hid (Lib.itoa (-z) = decDigits z.natAbs) := Lib.hid (by rw [itoa_nonneg (by omega)]; congr 1; omega)
      clear hu
      go_enter Tryz.func78, Tryz.ntmps78
      go_wp2_with (go_at_call 125; refine (lib_CutMinus _ _).mono ?_; rintro e w1 ⟨rfl, rfl⟩)
      go_ret
      exact ⟨by rw [HR.out, HU.out]; rfl, rfl⟩
    · have hm : decide ((Lib.itoa z).head? = some 45) = false := by
        rw [itoa_nonneg (by omega), decide_eq_false_iff_not]; exact decDigits_head_ne_minus _
      have HR : Hid (Lib.itoa (-z) = 45 :: Lib.itoa z) := Lib.hid (by rw [itoa_neg (by omega), itoa_nonneg (by omega)]; congr 2; omega)
      clear hu
      go_enter Tryz.func78, Tryz.ntmps78
      go_wp2_with (go_at_call 125; refine (lib_CutMinus _ _).mono ?_; rintro e w1 ⟨rfl, rfl⟩)
      go_ret
      exact ⟨by rw [HR.out]; first | rfl | (simp; done), rfl⟩
theorem lim_neg {z : Int} (h : lim z = false) : lim (-z) = false := lim_le h (by omega)
set_option maxHeartbeats 800000 in
theorem rational_number_neg (n : Int) (k : Nat) (hk : 0 < k) (hn : lim n = false) (hd : lim (k : Int) = false) (w : World) (hE : Env w) :
    Calls Tryz.prog 40 #[.string ⟨(Lib.itoa (-n)).toArray⟩, .string ⟨(Lib.itoa (-(k : Int))).toArray⟩] w fun e w' => e = .returned (.tuple #[.string ⟨(rstr (Rat.divInt n k)).toArray⟩, .int .i64 0]) ∧ Q w w' := by
  have hg1 : 0 < Nat.gcd n.natAbs k := Nat.gcd_pos_of_pos_right _ (by omega)
  have hg2 : Nat.gcd n.natAbs k ≤ k := Nat.le_of_dvd (by omega) (Nat.gcd_dvd_right ..)
  have HR := Lib.hid (rstr_divInt_f n k hk)
  generalize rstr (Rat.divInt n k) = r at *
  have HG := Lib.hid (fun w hw => integer_Gcd n (k : Int) hn hd w hw)
  rw [Int.natAbs_natCast] at HG
  have hmin : decide ((Lib.itoa (-(k : Int))).head? = some 45) = true := by rw [itoa_neg (by omega)]; rfl
  have HO1 := Lib.hid (fun w => rational_opposite (-n) (lim_neg hn) w)
  have HO2 := Lib.hid (fun w => rational_opposite (-(k : Int)) (lim_neg hd) w)
  rw [Int.neg_neg] at HO1 HO2
  generalize Lib.itoa (-n) = A1 at *
  generalize Lib.itoa (-(k : Int)) = A2 at *
  have lg : lim ((Nat.gcd n.natAbs k : Nat) : Int) = false := lim_le hd (by omega)
  generalize hgg : Nat.gcd n.natAbs k = g at *
  clear hgg
  have lm1 := lim_fdiv hn (g := g)
  have lm2 := lim_fdiv hd (g := g)
  have lq1 := itoa_len _ lm1
  have lq2 := itoa_len _ lm2
  have lq3 := itoa_len _ hn
  have lq4 := itoa_len _ hd
  have hg0 : (g : Int) ≠ 0 := by omega
  have HD := Lib.hid (fun (z : Int) hz w hw => integer_Divide z (g : Int) hz lg hg0 w hw)
  by_cases h1 : g = 1
  · have hb : (Lib.itoa (g : Int) == [49]) = true := by rw [h1]; simp [Lib.itoa, Lib.decDigits]
    have hb' := bne_of_t hb
    have e1 : n.fdiv (g : Int) = n := by rw [h1]; simp
    have e2 : (k : Int).fdiv (g : Int) = k := by rw [h1]; simp
    rw [e1, e2] at HR
    clear e1 e2
    by_cases h2 : (k : Int) = 1
    · have hc : (Lib.itoa (k : Int) == [49]) = true := by rw [h2]; simp [Lib.itoa, Lib.decDigits]
      have H2 := Lib.hid h2
      clear h2 h1
      go_enter Tryz.func40, Tryz.ntmps40
      go_wp2_with (first | (go_at_call 77; refine (lib_HasMinus _ _).mono ?_; rintro e w1 ⟨rfl, rfl⟩) | (go_at_call 78; (first | with_reducible refine (HO1.out _).mono ?_ | with_reducible refine (HO2.out _).mono ?_); rintro e w1 ⟨rfl, rfl⟩) | (go_at_call 79; refine (HG.out _ hE).mono ?_; rintro e w1 ⟨rfl, hq1⟩))
      go_ret2
      exact ⟨by rw [HR.out, if_pos H2.out]; rfl, hq1⟩
    · have hc : (Lib.itoa (k : Int) == [49]) = false := by
        rw [beq_eq_false_iff_ne, ← itoa_one]; exact fun e => h2 (itoa_inj e)
      have H2 := Lib.hid h2
      clear h2 h1
      go_enter Tryz.func40, Tryz.ntmps40
      go_wp2_with (first | (go_at_call 77; refine (lib_HasMinus _ _).mono ?_; rintro e w1 ⟨rfl, rfl⟩) | (go_at_call 78; (first | with_reducible refine (HO1.out _).mono ?_ | with_reducible refine (HO2.out _).mono ?_); rintro e w1 ⟨rfl, rfl⟩) | (go_at_call 79; refine (HG.out _ hE).mono ?_; rintro e w1 ⟨rfl, hq1⟩))
      go_ret2
      exact ⟨by rw [HR.out, if_neg H2.out]; first | rfl | (simp; done), hq1⟩
  · have hb : (Lib.itoa (g : Int) == [49]) = false := by
      rw [beq_eq_false_iff_ne, ← itoa_one]; exact fun e => h1 (by have := itoa_inj e; omega)
    have hb' := bne_of_f hb
    by_cases h2 : (k : Int).fdiv (g : Int) = 1
    · have hc : (Lib.itoa ((k : Int).fdiv (g : Int)) == [49]) = true := by rw [h2]; simp [Lib.itoa, Lib.decDigits]
      have H2 := Lib.hid h2
      clear h2 h1
      go_enter Tryz.func40, Tryz.ntmps40
      go_wp2_with (first | (go_at_call 77; refine (lib_HasMinus _ _).mono ?_; rintro e w1 ⟨rfl, rfl⟩) | (go_at_call 78; (first | with_reducible refine (HO1.out _).mono ?_ | with_reducible refine (HO2.out _).mono ?_); rintro e w1 ⟨rfl, rfl⟩) | (go_at_call 79; refine (HG.out _ hE).mono ?_; rintro e w1 ⟨rfl, hq1⟩) | fail)
      refine (HD.out n hn _ (hE.q hq1)).mono ?_
      rintro e w2 ⟨rfl, hq2⟩
      have hQ2 : Q w w2 := Q.trans hq1 hq2
      go_wp2_with fail
      refine (HD.out (k : Int) hd _ (hE.q hQ2)).mono ?_
      rintro e w3 ⟨rfl, hq3⟩
      go_wp2
      go_ret2
      exact ⟨by rw [HR.out, if_pos H2.out]; rfl, Q.trans hQ2 hq3⟩
    · have hc : (Lib.itoa ((k : Int).fdiv (g : Int)) == [49]) = false := by
        rw [beq_eq_false_iff_ne, ← itoa_one]; exact fun e => h2 (itoa_inj e)
      have H2 := Lib.hid h2
      clear h2 h1
      go_enter Tryz.func40, Tryz.ntmps40
      go_wp2_with (first | (go_at_call 77; refine (lib_HasMinus _ _).mono ?_; rintro e w1 ⟨rfl, rfl⟩) | (go_at_call 78; (first | with_reducible refine (HO1.out _).mono ?_ | with_reducible refine (HO2.out _).mono ?_); rintro e w1 ⟨rfl, rfl⟩) | (go_at_call 79; refine (HG.out _ hE).mono ?_; rintro e w1 ⟨rfl, hq1⟩) | fail)
      refine (HD.out n hn _ (hE.q hq1)).mono ?_
      rintro e w2 ⟨rfl, hq2⟩
      have hQ2 : Q w w2 := Q.trans hq1 hq2
      go_wp2_with fail
      refine (HD.out (k : Int) hd _ (hE.q hQ2)).mono ?_
      rintro e w3 ⟨rfl, hq3⟩
      go_wp2
      go_ret2
      exact ⟨by rw [HR.out, if_neg H2.out]; first | rfl | (simp; done), Q.trans hQ2 hq3⟩
theorem rational_number (n k : Int) (hk : k ≠ 0) (hn : lim n = false) (hd : lim k = false) (w : World) (hE : Env w) :
    Calls Tryz.prog 40 #[.string ⟨(Lib.itoa n).toArray⟩, .string ⟨(Lib.itoa k).toArray⟩] w fun e w' => e = .returned (.tuple #[.string ⟨(rstr (Rat.divInt n k)).toArray⟩, .int .i64 0]) ∧ Q w w' := by
  rcases Int.lt_or_gt_of_ne hk with h | h
  · obtain ⟨m, hm⟩ := Int.eq_ofNat_of_zero_le (show 0 ≤ -k by omega)
    have h1 := rational_number_neg (-n) m (by omega) (lim_neg hn) (by rw [← hm]; exact lim_neg hd) w hE
    rw [Int.neg_neg, ← hm, Int.neg_neg, Rat.neg_divInt_neg] at h1
    exact h1
  · obtain ⟨m, rfl⟩ := Int.eq_ofNat_of_zero_le (show 0 ≤ k by omega)
    exact rational_number_pos n m (by omega) hn hd w hE
end Go.Proofs.YtlbjjkmfcgcodaaGreatDoor
namespace Go.Proofs.YtlbjjkmfcgcodaaGreatDoor
open Go.RowKit Kp
open Go.Lib (decDigits)
theorem rsV_ok {z : Int} (h : lim z = false) : rsV z = .tuple #[.string ⟨(Lib.itoa z).toArray⟩, .int .i64 0] := by unfold rsV; rw [h]; rfl
theorem rlim_parts {q : Rat} (h : rlim q = false) : lim q.num = false ∧ lim (q.den : Int) = false := by
  unfold rlim at h; rwa [Bool.or_eq_false_iff] at h
set_option maxRecDepth 100000 in
set_option maxHeartbeats 1000000 in
theorem rational_crossed (a b c d : Int) (ha : lim a = false) (hb : lim b = false) (hc : lim c = false) (hd : lim d = false) (h1 : lim (a * d) = false) (h2 : lim (c * b) = false) (w : World) (hE : Env w) :
    Calls Tryz.prog 45 #[.agg #[.string ⟨(Lib.itoa a).toArray⟩, .string ⟨(Lib.itoa b).toArray⟩], .agg #[.string ⟨(Lib.itoa c).toArray⟩, .string ⟨(Lib.itoa d).toArray⟩]] w fun e w' => e = .returned (.tuple #[.string ⟨(Lib.itoa (a * d)).toArray⟩, .string ⟨(Lib.itoa (c * b)).toArray⟩, .int .i64 0]) ∧ Q w w' := by
  have M1 := Lib.hid (fun w hw => integer_Mul a d ha hd w hw)
  have M2 := Lib.hid (fun w hw => integer_Mul c b hc hb w hw)
  rw [rsV_ok h1] at M1
  rw [rsV_ok h2] at M2
  clear ha hb hc hd h1 h2
  generalize Lib.itoa (a * d) = X at *
  generalize Lib.itoa (c * b) = Y at *
  generalize Lib.itoa a = A at *
  generalize Lib.itoa b = B at *
  generalize Lib.itoa c = C at *
  generalize Lib.itoa d = D at *
  go_enter Tryz.func45, Tryz.ntmps45
  go_wp2_with fail
  refine (M1.out _ (hE.q bt)).mono ?_
  rintro e w1 ⟨rfl, hq1⟩
  have B1 := ((Blk.new w [.string ⟨A.toArray⟩, .string ⟨B.toArray⟩] 97).alloc (.cells #[.string ⟨C.toArray⟩, .string ⟨D.toArray⟩] 97)).keep hq1 (by simp; omega)
  have B2 := (Blk.new (w.alloc (.cells #[.string ⟨A.toArray⟩, .string ⟨B.toArray⟩] 97)) [.string ⟨C.toArray⟩, .string ⟨D.toArray⟩] 97).keep hq1 (by simp)
  rw [World.size_alloc] at B2
  have hQ1 : Q w w1 := Q.trans (show Below w.heap.size w _ from bt) hq1
  have c0 := B1.cell 0
  have c1 := B1.cell 1
  have d0 := B2.cell 0
  have d1 := B2.cell 1
  simp only [List.getElem?_cons_zero, List.getElem?_cons_succ] at c0 c1 d0 d1
  go_wp2_with fail
  refine (M2.out _ (hE.q hQ1)).mono ?_
  rintro e w2 ⟨rfl, hq2⟩
  have hQ2 := Q.trans hQ1 hq2
  clear M1 M2 c0 c1 d0 d1
  go_wp2
  go_ret3
  exact ⟨rfl, hQ2⟩
set_option maxRecDepth 100000 in
set_option maxHeartbeats 1000000 in
theorem rational_Mul2 (a b c d : Int) (ha : lim a = false) (hb : lim b = false) (hc : lim c = false) (hd : lim d = false) (hn : b * d ≠ 0) (h1 : lim (a * c) = false) (h2 : lim (b * d) = false) (w : World) (hE : Env w) :
    Calls Tryz.prog 38 #[.agg #[.string ⟨(Lib.itoa a).toArray⟩, .string ⟨(Lib.itoa b).toArray⟩], .agg #[.string ⟨(Lib.itoa c).toArray⟩, .string ⟨(Lib.itoa d).toArray⟩]] w fun e w' => e = .returned (.tuple #[.string ⟨(rstr (Rat.divInt (a * c) (b * d))).toArray⟩, .int .i64 0]) ∧ Q w w' := by
  have M1 := Lib.hid (fun w hw => integer_Mul a c ha hc w hw)
  have M2 := Lib.hid (fun w hw => integer_Mul b d hb hd w hw)
  have M3 := Lib.hid (fun w hw => rational_number (a * c) (b * d) hn h1 h2 w hw)
  rw [rsV_ok h1] at M1
  rw [rsV_ok h2] at M2
  clear ha hb hc hd h1 h2 hn
  generalize rstr (Rat.divInt (a * c) (b * d)) = R at *
  generalize Lib.itoa (a * c) = X at *
  generalize Lib.itoa (b * d) = Y at *
  generalize Lib.itoa a = A at *
  generalize Lib.itoa b = B at *
  generalize Lib.itoa c = C at *
  generalize Lib.itoa d = D at *
  go_enter Tryz.func38, Tryz.ntmps38
  go_wp2_with fail
  refine (M1.out _ (hE.q bt)).mono ?_
  rintro e w1 ⟨rfl, hq1⟩
  have B1 := ((Blk.new w [.string ⟨A.toArray⟩, .string ⟨B.toArray⟩] 97).alloc (.cells #[.string ⟨C.toArray⟩, .string ⟨D.toArray⟩] 97)).keep hq1 (by simp; omega)
  have B2 := (Blk.new (w.alloc (.cells #[.string ⟨A.toArray⟩, .string ⟨B.toArray⟩] 97)) [.string ⟨C.toArray⟩, .string ⟨D.toArray⟩] 97).keep hq1 (by simp)
  rw [World.size_alloc] at B2
  have hQ1 : Q w w1 := Q.trans (show Below w.heap.size w _ from bt) hq1
  have c0 := B1.cell 0
  have c1 := B1.cell 1
  have d0 := B2.cell 0
  have d1 := B2.cell 1
  simp only [List.getElem?_cons_zero, List.getElem?_cons_succ] at c0 c1 d0 d1
  go_wp2_with fail
  refine (M2.out _ (hE.q hQ1)).mono ?_
  rintro e w2 ⟨rfl, hq2⟩
  have hQ2 := Q.trans hQ1 hq2
  clear M1 M2 c0 c1 d0 d1
  go_wp2_with fail
  refine (M3.out _ (hE.q hQ2)).mono ?_
  rintro e w3 ⟨rfl, hq3⟩
  have hQ3 := Q.trans hQ2 hq3
  go_wp2
  go_ret2
  exact ⟨rfl, hQ3⟩
set_option maxRecDepth 100000 in
set_option maxHeartbeats 1000000 in
theorem rational_Div2 (a b c d : Int) (ha : lim a = false) (hb : lim b = false) (hc : lim c = false) (hd : lim d = false) (hc0 : c ≠ 0) (hn : c * b ≠ 0) (h1 : lim (a * d) = false) (h2 : lim (c * b) = false) (w : World) (hE : Env w) :
    Calls Tryz.prog 82 #[.agg #[.string ⟨(Lib.itoa a).toArray⟩, .string ⟨(Lib.itoa b).toArray⟩], .agg #[.string ⟨(Lib.itoa c).toArray⟩, .string ⟨(Lib.itoa d).toArray⟩]] w fun e w' => e = .returned (.tuple #[.string ⟨(rstr (Rat.divInt (a * d) (c * b))).toArray⟩, .int .i64 0]) ∧ Q w w' := by
  have M1 := Lib.hid (fun w hw => rational_crossed a b c d ha hb hc hd h1 h2 w hw)
  have M3 := Lib.hid (fun w hw => rational_number (a * d) (c * b) hn h1 h2 w hw)
  have hz : (Lib.itoa c == [48]) = false := by
    rw [beq_eq_false_iff_ne, ← itoa_zero]; exact fun e => hc0 (itoa_inj e)
  clear ha hb hc hd h1 h2 hn hc0
  generalize rstr (Rat.divInt (a * d) (c * b)) = R at *
  generalize Lib.itoa (a * d) = X at *
  generalize Lib.itoa (c * b) = Y at *
  generalize Lib.itoa a = A at *
  generalize Lib.itoa b = B at *
  generalize Lib.itoa c = C at *
  generalize Lib.itoa d = D at *
  go_enter Tryz.func82, Tryz.ntmps82
  go_wp2_with fail
  refine (M1.out _ (hE.q bt)).mono ?_
  rintro e w1 ⟨rfl, hq1⟩
  have hQ1 : Q w w1 := Q.trans (show Below w.heap.size w _ from bt) hq1
  go_wp2_with fail
  refine (M3.out _ (hE.q hQ1)).mono ?_
  rintro e w3 ⟨rfl, hq3⟩
  have hQ3 := Q.trans hQ1 hq3
  go_wp2
  go_ret2
  exact ⟨rfl, hQ3⟩
set_option maxRecDepth 100000 in
set_option maxHeartbeats 1000000 in
theorem rational_combined_Add (a b c d : Int) (ha : lim a = false) (hb : lim b = false) (hc : lim c = false) (hd : lim d = false) (hn : b * d ≠ 0) (h1 : lim (a * d) = false) (h2 : lim (c * b) = false) (h3 : lim (a * d + c * b) = false) (h4 : lim (b * d) = false) (w : World) (hE : Env w)
    (p : Nat) (_hp : p < w.heap.size) (hpc : w.cell? ⟨p, 0, none⟩ = some (.func (.func 92) #[] #[])) :
    Calls Tryz.prog 102 #[.agg #[.string ⟨(Lib.itoa a).toArray⟩, .string ⟨(Lib.itoa b).toArray⟩], .agg #[.string ⟨(Lib.itoa c).toArray⟩, .string ⟨(Lib.itoa d).toArray⟩], .pointer (some ⟨p, 0, none⟩)] w fun e w' => e = .returned (.tuple #[.string ⟨(rstr (Rat.divInt (a * d + c * b) (b * d))).toArray⟩, .int .i64 0]) ∧ Q w w' := by
  have M1 := Lib.hid (fun w hw => rational_crossed a b c d ha hb hc hd h1 h2 w hw)
  have M2 := Lib.hid (fun w hw => integer_Add (a * d) (c * b) h1 h2 w hw)
  have M3 := Lib.hid (fun w hw => integer_Mul b d hb hd w hw)
  have M4 := Lib.hid (fun w hw => rational_number (a * d + c * b) (b * d) hn h3 h4 w hw)
  rw [rsV_ok h3] at M2
  rw [rsV_ok h4] at M3
  clear ha hb hc hd h1 h2 h3 h4 hn
  generalize rstr (Rat.divInt (a * d + c * b) (b * d)) = R at *
  generalize Lib.itoa (a * d + c * b) = Z at *
  generalize Lib.itoa (a * d) = X at *
  generalize Lib.itoa (c * b) = Y at *
  generalize Lib.itoa (b * d) = U at *
  generalize Lib.itoa a = A at *
  generalize Lib.itoa b = B at *
  generalize Lib.itoa c = C at *
  generalize Lib.itoa d = D at *
  go_enter Tryz.func102, Tryz.ntmps102
  go_wp2_with fail
  refine (M1.out _ (hE.q bt)).mono ?_
  rintro e w1 ⟨rfl, hq1⟩
  have B1 := ((Blk.new w [.string ⟨A.toArray⟩, .string ⟨B.toArray⟩] 97).alloc (.cells #[.string ⟨C.toArray⟩, .string ⟨D.toArray⟩] 97)).keep hq1 (by simp; omega)
  have B2 := (Blk.new (w.alloc (.cells #[.string ⟨A.toArray⟩, .string ⟨B.toArray⟩] 97)) [.string ⟨C.toArray⟩, .string ⟨D.toArray⟩] 97).keep hq1 (by simp)
  rw [World.size_alloc] at B2
  have hQ1 : Q w w1 := Q.trans (show Below w.heap.size w _ from bt) hq1
  have pc1 := qcell hQ1 hpc
  go_wp2_with fail
  refine (M2.out _ (hE.q hQ1)).mono ?_
  rintro e w2 ⟨rfl, hq2⟩
  have hQ2 := Q.trans hQ1 hq2
  have C1 := B1.keep hq2 B1.lt
  have C2 := B2.keep hq2 B2.lt
  have c0 := C1.cell 0
  have c1 := C1.cell 1
  have d0 := C2.cell 0
  have d1 := C2.cell 1
  simp only [List.getElem?_cons_zero, List.getElem?_cons_succ] at c0 c1 d0 d1
  clear pc1 M1 M2
  go_wp2_with fail
  refine (M3.out _ (hE.q hQ2)).mono ?_
  rintro e w3 ⟨rfl, hq3⟩
  have hQ3 := Q.trans hQ2 hq3
  clear c0 c1 d0 d1 M3
  go_wp2_with fail
  refine (M4.out _ (hE.q hQ3)).mono ?_
  rintro e w4 ⟨rfl, hq4⟩
  have hQ4 := Q.trans hQ3 hq4
  go_wp2
  go_ret2
  exact ⟨rfl, hQ4⟩
set_option maxRecDepth 100000 in
set_option maxHeartbeats 1000000 in
theorem rational_combined_Sub (a b c d : Int) (ha : lim a = false) (hb : lim b = false) (hc : lim c = false) (hd : lim d = false) (hn : b * d ≠ 0) (h1 : lim (a * d) = false) (h2 : lim (c * b) = false) (h3 : lim (a * d - c * b) = false) (h4 : lim (b * d) = false) (w : World) (hE : Env w)
    (p : Nat) (_hp : p < w.heap.size) (hpc : w.cell? ⟨p, 0, none⟩ = some (.func (.func 56) #[] #[])) :
    Calls Tryz.prog 102 #[.agg #[.string ⟨(Lib.itoa a).toArray⟩, .string ⟨(Lib.itoa b).toArray⟩], .agg #[.string ⟨(Lib.itoa c).toArray⟩, .string ⟨(Lib.itoa d).toArray⟩], .pointer (some ⟨p, 0, none⟩)] w fun e w' => e = .returned (.tuple #[.string ⟨(rstr (Rat.divInt (a * d - c * b) (b * d))).toArray⟩, .int .i64 0]) ∧ Q w w' := by
  have M1 := Lib.hid (fun w hw => rational_crossed a b c d ha hb hc hd h1 h2 w hw)
  have M2 := Lib.hid (fun w hw => integer_Sub (a * d) (c * b) h1 h2 w hw)
  have M3 := Lib.hid (fun w hw => integer_Mul b d hb hd w hw)
  have M4 := Lib.hid (fun w hw => rational_number (a * d - c * b) (b * d) hn h3 h4 w hw)
  rw [rsV_ok h3] at M2
  rw [rsV_ok h4] at M3
  clear ha hb hc hd h1 h2 h3 h4 hn
  generalize rstr (Rat.divInt (a * d - c * b) (b * d)) = R at *
  generalize Lib.itoa (a * d - c * b) = Z at *
  generalize Lib.itoa (a * d) = X at *
  generalize Lib.itoa (c * b) = Y at *
  generalize Lib.itoa (b * d) = U at *
  generalize Lib.itoa a = A at *
  generalize Lib.itoa b = B at *
  generalize Lib.itoa c = C at *
  generalize Lib.itoa d = D at *
  go_enter Tryz.func102, Tryz.ntmps102
  go_wp2_with fail
  refine (M1.out _ (hE.q bt)).mono ?_
  rintro e w1 ⟨rfl, hq1⟩
  have B1 := ((Blk.new w [.string ⟨A.toArray⟩, .string ⟨B.toArray⟩] 97).alloc (.cells #[.string ⟨C.toArray⟩, .string ⟨D.toArray⟩] 97)).keep hq1 (by simp; omega)
  have B2 := (Blk.new (w.alloc (.cells #[.string ⟨A.toArray⟩, .string ⟨B.toArray⟩] 97)) [.string ⟨C.toArray⟩, .string ⟨D.toArray⟩] 97).keep hq1 (by simp)
  rw [World.size_alloc] at B2
  have hQ1 : Q w w1 := Q.trans (show Below w.heap.size w _ from bt) hq1
  have pc1 := qcell hQ1 hpc
  go_wp2_with fail
  refine (M2.out _ (hE.q hQ1)).mono ?_
  rintro e w2 ⟨rfl, hq2⟩
  have hQ2 := Q.trans hQ1 hq2
  have C1 := B1.keep hq2 B1.lt
  have C2 := B2.keep hq2 B2.lt
  have c0 := C1.cell 0
  have c1 := C1.cell 1
  have d0 := C2.cell 0
  have d1 := C2.cell 1
  simp only [List.getElem?_cons_zero, List.getElem?_cons_succ] at c0 c1 d0 d1
  clear pc1 M1 M2
  go_wp2_with fail
  refine (M3.out _ (hE.q hQ2)).mono ?_
  rintro e w3 ⟨rfl, hq3⟩
  have hQ3 := Q.trans hQ2 hq3
  clear c0 c1 d0 d1 M3
  go_wp2_with fail
  refine (M4.out _ (hE.q hQ3)).mono ?_
  rintro e w4 ⟨rfl, hq4⟩
  have hQ4 := Q.trans hQ3 hq4
  go_wp2
  go_ret2
  exact ⟨rfl, hQ4⟩
set_option maxHeartbeats 1000000 in
theorem rational_quick_none (x y : Str) (f : Value) (hx : x.length ≤ 1000000000) (hy : y.length ≤ 1000000000) (h : natOf x = none ∨ natOf y = none) (w : World) :
    Calls Tryz.prog 35 #[.string ⟨x.toArray⟩, .string ⟨y.toArray⟩, f] w fun e w' => e = .returned (.tuple #[.string ⟨#[]⟩, .bool false]) ∧ Q w w' := by
  have N1 := Lib.hid (fun w => rational_nativeOf x hx w)
  have N2 := Lib.hid (fun w => rational_nativeOf y hy w)
  cases hn : natOf x with
  | none =>
    rw [natOfV_none hn] at N1
    clear hn h
    go_enter Tryz.func35, Tryz.ntmps35
    go_wp2_with fail
    refine (N1.out _).mono ?_
    rintro e w1 ⟨rfl, hq1⟩
    go_wp2
    go_ret2
    exact ⟨rfl, hq1.alloc hq1.size _⟩
  | some nd =>
    obtain ⟨n, d⟩ := nd
    rw [natOfV_some hn] at N1
    have h2 : natOf y = none := by
      rcases h with h | h
      · rw [h] at hn; cases hn
      · exact h
    rw [natOfV_none h2] at N2
    clear hn h h2
    go_enter Tryz.func35, Tryz.ntmps35
    go_wp2_with fail
    refine (N1.out _).mono ?_
    rintro e w1 ⟨rfl, hq1⟩
    go_wp2_with fail
    refine (N2.out _).mono ?_
    rintro e w2 ⟨rfl, hq2⟩
    have hQ2 : Q w w2 := Q.trans hq1 (Q.trans ((Below.refl _ w1).alloc (Nat.le_refl _) _) hq2)
    go_wp2
    go_ret2
    exact ⟨rfl, hQ2.alloc hQ2.size _⟩
end Go.Proofs.YtlbjjkmfcgcodaaGreatDoor
namespace Go.Proofs.YtlbjjkmfcgcodaaGreatDoor
open Go.RowKit Kp
open Go.Lib (decDigits)
set_option maxRecDepth 100000 in
set_option maxHeartbeats 1000000 in
theorem rational_both_Mul (x y : Rat) (hx : rlim x = false) (hy : rlim y = false) (V1 V2 : Value) (w : World) (hE : Env w)
    (HF : ∀ w', Q w w' → Calls Tryz.prog 38 #[(.agg #[.string ⟨(Lib.itoa x.num).toArray⟩, .string ⟨(Lib.itoa (x.den : Int)).toArray⟩]), (.agg #[.string ⟨(Lib.itoa y.num).toArray⟩, .string ⟨(Lib.itoa (y.den : Int)).toArray⟩])] w' fun e w'' => e = .returned (.tuple #[V1, V2]) ∧ Q w' w'') :
    Calls Tryz.prog 37 #[.string ⟨(rstr x).toArray⟩, .string ⟨(rstr y).toArray⟩, .func (.func 38) #[] #[]] w fun e w' => e = .returned (.tuple #[V1, V2]) ∧ Q w w' := by
  have R1 := Lib.hid (fun w hw => rational_read_num x hx w hw)
  have R2 := Lib.hid (fun w hw => rational_read_num y hy w hw)
  have HF := Lib.hid HF
  clear hx hy
  generalize rstr x = X at *
  generalize rstr y = Y at *
  generalize Lib.itoa x.num = A at *
  generalize Lib.itoa (x.den : Int) = B at *
  generalize Lib.itoa y.num = C at *
  generalize Lib.itoa (y.den : Int) = D at *
  go_enter Tryz.func37, Tryz.ntmps37
  go_wp2_with fail
  refine (R1.out _ hE).mono ?_
  rintro e w1 ⟨rfl, hq1⟩
  go_wp2_with fail
  refine (R2.out _ (hE.q (hq1.alloc hq1.size _))).mono ?_
  rintro e w2 ⟨rfl, hq2⟩
  have hQ2 : Q w w2 := Q.trans hq1 (Q.trans ((Below.refl _ w1).alloc (Nat.le_refl _) _) hq2)
  have B1 := (Blk.new w1 [.string ⟨A.toArray⟩, .string ⟨B.toArray⟩] 97).keep hq2 (by simp)
  have c0 := B1.cell 0
  have c1 := B1.cell 1
  have l1 := B1.lt
  simp only [List.getElem?_cons_zero, List.getElem?_cons_succ] at c0 c1
  go_wp2_with fail
  refine (HF.out _ (hQ2.alloc hQ2.size _)).mono ?_
  rintro e w3 ⟨rfl, hq3⟩
  have hQ3 := Q.trans (hQ2.alloc hQ2.size _) hq3
  clear R1 R2 HF c0 c1
  go_wp2
  go_ret2
  exact ⟨rfl, hQ3⟩
set_option maxRecDepth 100000 in
set_option maxHeartbeats 1000000 in
theorem rational_both_Div (x y : Rat) (hx : rlim x = false) (hy : rlim y = false) (V1 V2 : Value) (w : World) (hE : Env w)
    (HF : ∀ w', Q w w' → Calls Tryz.prog 82 #[(.agg #[.string ⟨(Lib.itoa x.num).toArray⟩, .string ⟨(Lib.itoa (x.den : Int)).toArray⟩]), (.agg #[.string ⟨(Lib.itoa y.num).toArray⟩, .string ⟨(Lib.itoa (y.den : Int)).toArray⟩])] w' fun e w'' => e = .returned (.tuple #[V1, V2]) ∧ Q w' w'') :
    Calls Tryz.prog 37 #[.string ⟨(rstr x).toArray⟩, .string ⟨(rstr y).toArray⟩, .func (.func 82) #[] #[]] w fun e w' => e = .returned (.tuple #[V1, V2]) ∧ Q w w' := by
  have R1 := Lib.hid (fun w hw => rational_read_num x hx w hw)
  have R2 := Lib.hid (fun w hw => rational_read_num y hy w hw)
  have HF := Lib.hid HF
  clear hx hy
  generalize rstr x = X at *
  generalize rstr y = Y at *
  generalize Lib.itoa x.num = A at *
  generalize Lib.itoa (x.den : Int) = B at *
  generalize Lib.itoa y.num = C at *
  generalize Lib.itoa (y.den : Int) = D at *
  go_enter Tryz.func37, Tryz.ntmps37
  go_wp2_with fail
  refine (R1.out _ hE).mono ?_
  rintro e w1 ⟨rfl, hq1⟩
  go_wp2_with fail
  refine (R2.out _ (hE.q (hq1.alloc hq1.size _))).mono ?_
  rintro e w2 ⟨rfl, hq2⟩
  have hQ2 : Q w w2 := Q.trans hq1 (Q.trans ((Below.refl _ w1).alloc (Nat.le_refl _) _) hq2)
  have B1 := (Blk.new w1 [.string ⟨A.toArray⟩, .string ⟨B.toArray⟩] 97).keep hq2 (by simp)
  have c0 := B1.cell 0
  have c1 := B1.cell 1
  have l1 := B1.lt
  simp only [List.getElem?_cons_zero, List.getElem?_cons_succ] at c0 c1
  go_wp2_with fail
  refine (HF.out _ (hQ2.alloc hQ2.size _)).mono ?_
  rintro e w3 ⟨rfl, hq3⟩
  have hQ3 := Q.trans (hQ2.alloc hQ2.size _) hq3
  clear R1 R2 HF c0 c1
  go_wp2
  go_ret2
  exact ⟨rfl, hQ3⟩
set_option maxRecDepth 100000 in
set_option maxHeartbeats 1000000 in
theorem rational_both_comb (x y : Rat) (hx : rlim x = false) (hy : rlim y = false) (p : Nat) (V1 V2 : Value) (w : World) (hE : Env w)
    (HF : ∀ w', Q w w' → Calls Tryz.prog 102 #[(.agg #[.string ⟨(Lib.itoa x.num).toArray⟩, .string ⟨(Lib.itoa (x.den : Int)).toArray⟩]), (.agg #[.string ⟨(Lib.itoa y.num).toArray⟩, .string ⟨(Lib.itoa (y.den : Int)).toArray⟩]), .pointer (some ⟨p, 0, none⟩)] w' fun e w'' => e = .returned (.tuple #[V1, V2]) ∧ Q w' w'') :
    Calls Tryz.prog 37 #[.string ⟨(rstr x).toArray⟩, .string ⟨(rstr y).toArray⟩, .func (.func 102) #[] #[.pointer (some ⟨p, 0, none⟩)]] w fun e w' => e = .returned (.tuple #[V1, V2]) ∧ Q w w' := by
  have R1 := Lib.hid (fun w hw => rational_read_num x hx w hw)
  have R2 := Lib.hid (fun w hw => rational_read_num y hy w hw)
  have HF := Lib.hid HF
  clear hx hy
  generalize rstr x = X at *
  generalize rstr y = Y at *
  generalize Lib.itoa x.num = A at *
  generalize Lib.itoa (x.den : Int) = B at *
  generalize Lib.itoa y.num = C at *
  generalize Lib.itoa (y.den : Int) = D at *
  go_enter Tryz.func37, Tryz.ntmps37
  go_wp2_with fail
  refine (R1.out _ hE).mono ?_
  rintro e w1 ⟨rfl, hq1⟩
  go_wp2_with fail
  refine (R2.out _ (hE.q (hq1.alloc hq1.size _))).mono ?_
  rintro e w2 ⟨rfl, hq2⟩
  have hQ2 : Q w w2 := Q.trans hq1 (Q.trans ((Below.refl _ w1).alloc (Nat.le_refl _) _) hq2)
  have B1 := (Blk.new w1 [.string ⟨A.toArray⟩, .string ⟨B.toArray⟩] 97).keep hq2 (by simp)
  have c0 := B1.cell 0
  have c1 := B1.cell 1
  have l1 := B1.lt
  simp only [List.getElem?_cons_zero, List.getElem?_cons_succ] at c0 c1
  go_wp2_with fail
  refine (HF.out _ (hQ2.alloc hQ2.size _)).mono ?_
  rintro e w3 ⟨rfl, hq3⟩
  have hQ3 := Q.trans (hQ2.alloc hQ2.size _) hq3
  clear R1 R2 HF c0 c1
  go_wp2
  go_ret2
  exact ⟨rfl, hQ3⟩
theorem Rat.mul_is (x y : Rat) : Rat.divInt (x.num * y.num) ((x.den : Int) * y.den) = x * y := by conv => rhs; rw [← Rat.num_divInt_den x, ← Rat.num_divInt_den y, Rat.divInt_mul_divInt]
theorem natOf_none_or {x y : Rat} (h : ¬ (Small8 x ∧ Small8 y)) : natOf (rstr x) = none ∨ natOf (rstr y) = none := by
  by_cases hx : Small8 x
  · exact .inr (natOf_none_of (fun hy => h ⟨hx, hy⟩))
  · exact .inl (natOf_none_of hx)
theorem Rat.add_is (x y : Rat) : Rat.divInt (x.num * y.den + y.num * x.den) ((x.den : Int) * y.den) = x + y := by
  have hxd := x.den_nz
  have hyd := y.den_nz
  conv => rhs; rw [← Rat.num_divInt_den x, ← Rat.num_divInt_den y, Rat.divInt_add_divInt _ _ (by omega) (by omega)]
theorem Rat.sub_is (x y : Rat) : Rat.divInt (x.num * y.den - y.num * x.den) ((x.den : Int) * y.den) = x - y := by
  have hxd := x.den_nz
  have hyd := y.den_nz
  conv => rhs; rw [← Rat.num_divInt_den x, ← Rat.num_divInt_den y, Rat.divInt_sub_divInt _ _ (by omega) (by omega)]
theorem Rat.div_is (x y : Rat) : Rat.divInt (x.num * y.den) (y.num * (x.den : Int)) = x / y := by
  conv => rhs; rw [← Rat.num_divInt_den x, ← Rat.num_divInt_den y, Rat.div_def, Rat.inv_divInt, Rat.divInt_mul_divInt]
  rw [Int.mul_comm (x.den : Int)]
theorem den_mul_ne (x y : Rat) : ((x.den : Int) * y.den) ≠ 0 := by
  have hxd := x.den_nz
  have hyd := y.den_nz
  exact Int.mul_ne_zero (by omega) (by omega)
set_option maxRecDepth 100000 in
set_option maxHeartbeats 1000000 in
theorem rational_Mul (x y : Rat) (hx : rlim x = false) (hy : rlim y = false) (h1 : lim (x.num * y.num) = false) (h2 : lim ((x.den : Int) * y.den) = false) (w : World) (hE : Env w) :
    Calls Tryz.prog 10 #[.string ⟨(rstr x).toArray⟩, .string ⟨(rstr y).toArray⟩] w fun e w' => e = .returned (.tuple #[.string ⟨(rstr (x * y)).toArray⟩, .int .i64 0]) ∧ Q w w' := by
  by_cases hs : Small8 x ∧ Small8 y
  · exact rational_Mul_small x y hs.1 hs.2 w hE
  · have HQ := Lib.hid (fun w => rational_quick_none (rstr x) (rstr y) (.func (.func 36) #[] #[]) (by have := rstr_len hx; omega) (by have := rstr_len hy; omega) (natOf_none_or hs) w)
    have HF := fun w' hw' => rational_Mul2 x.num (x.den : Int) y.num (y.den : Int) (rlim_parts hx).1 (rlim_parts hx).2 (rlim_parts hy).1 (rlim_parts hy).2 (den_mul_ne x y) h1 h2 w' hw'
    rw [Rat.mul_is] at HF
    have HB := Lib.hid (fun w (hw : Env w) => rational_both_Mul x y hx hy _ _ w hw (fun w' hq => HF w' (hw.q hq)))
    clear HF hs hx hy h1 h2
    generalize rstr (x * y) = R at *
    go_enter Tryz.func10, Tryz.ntmps10
    go_wp2_with fail
    refine (HQ.out _).mono ?_
    rintro e w1 ⟨rfl, hq1⟩
    go_wp2_with fail
    refine (HB.out _ (hE.q hq1)).mono ?_
    rintro e w2 ⟨rfl, hq2⟩
    have hQ2 := Q.trans hq1 hq2
    go_wp2
    go_ret2
    exact ⟨rfl, hQ2⟩
set_option maxRecDepth 100000 in
set_option maxHeartbeats 1000000 in
theorem rational_Div (x y : Rat) (hx : rlim x = false) (hy : rlim y = false) (hy0 : y.num ≠ 0) (h1 : lim (x.num * y.den) = false) (h2 : lim (y.num * (x.den : Int)) = false) (w : World) (hE : Env w) :
    Calls Tryz.prog 41 #[.string ⟨(rstr x).toArray⟩, .string ⟨(rstr y).toArray⟩] w fun e w' => e = .returned (.tuple #[.string ⟨(rstr (x / y)).toArray⟩, .int .i64 0]) ∧ Q w w' := by
  by_cases hs : Small8 x ∧ Small8 y
  · exact rational_Div_small x y hs.1 hs.2 hy0 w hE
  · have hz : (rstr y == [48]) = false := by
      rw [beq_eq_false_iff_ne]
      intro e
      have : y = 0 := rstr_inj (by rw [e, ← itoa_zero]; rfl)
      exact hy0 (by rw [this]; rfl)
    have hz' := bne_of_f hz
    have hxd := x.den_nz
    have HQ := Lib.hid (fun w => rational_quick_none (rstr x) (rstr y) (.func (.func 81) #[] #[]) (by have := rstr_len hx; omega) (by have := rstr_len hy; omega) (natOf_none_or hs) w)
    have HF := fun w' hw' => rational_Div2 x.num (x.den : Int) y.num (y.den : Int) (rlim_parts hx).1 (rlim_parts hx).2 (rlim_parts hy).1 (rlim_parts hy).2 hy0 (Int.mul_ne_zero hy0 (by omega)) h1 h2 w' hw'
    rw [Rat.div_is] at HF
    have HB := Lib.hid (fun w (hw : Env w) => rational_both_Div x y hx hy _ _ w hw (fun w' hq => HF w' (hw.q hq)))
    clear HF hs hx hy h1 h2 hy0 hxd
    generalize rstr (x / y) = R at *
    go_enter Tryz.func41, Tryz.ntmps41
    go_wp2_with fail
    refine (HQ.out _).mono ?_
    rintro e w1 ⟨rfl, hq1⟩
    go_wp2_with fail
    refine (HB.out _ (hE.q hq1)).mono ?_
    rintro e w2 ⟨rfl, hq2⟩
    have hQ2 := Q.trans hq1 hq2
    go_wp2
    go_ret2
    exact ⟨rfl, hQ2⟩
theorem rational_combined_is (k : Nat) (w : World) :
    Calls Tryz.prog 55 #[.func (.func k) #[] #[]] w fun e w' => e = .returned (.func (.func 102) #[] #[.pointer (some ⟨w.heap.size, 0, none⟩)]) ∧ Q w w' ∧ w.heap.size < w'.heap.size ∧ w'.cell? ⟨w.heap.size, 0, none⟩ = some (.func (.func k) #[] #[]) := by
  go_enter Tryz.func55, Tryz.ntmps55
  go_wp2
  go_ret
  exact ⟨rfl, (Below.refl _ w).alloc (Nat.le_refl _) _, by simp, (Blk.new w [.func (.func k) #[] #[]] _).cell 0⟩
set_option maxRecDepth 100000 in
set_option maxHeartbeats 1000000 in
theorem rational_Add (x y : Rat) (hx : rlim x = false) (hy : rlim y = false) (h1 : lim (x.num * y.den) = false) (h2 : lim (y.num * (x.den : Int)) = false) (h3 : lim (x.num * y.den + y.num * x.den) = false) (h4 : lim ((x.den : Int) * y.den) = false) (w : World) (hE : Env w) :
    Calls Tryz.prog 49 #[.string ⟨(rstr x).toArray⟩, .string ⟨(rstr y).toArray⟩] w fun e w' => e = .returned (.tuple #[.string ⟨(rstr (x + y)).toArray⟩, .int .i64 0]) ∧ Q w w' := by
  by_cases hs : Small8 x ∧ Small8 y
  · exact rational_Add_small x y hs.1 hs.2 w hE
  · have HQ := Lib.hid (fun w => rational_quick_none (rstr x) (rstr y) (.func (.func 91) #[] #[]) (by have := rstr_len hx; omega) (by have := rstr_len hy; omega) (natOf_none_or hs) w)
    have HF := fun w' hw' p hp hpc => rational_combined_Add x.num (x.den : Int) y.num (y.den : Int) (rlim_parts hx).1 (rlim_parts hx).2 (rlim_parts hy).1 (rlim_parts hy).2 (den_mul_ne x y) h1 h2 h3 h4 w' hw' p hp hpc
    rw [Rat.add_is] at HF
    have HB := Lib.hid (fun w (hw : Env w) p (hp : p < w.heap.size) (hpc : w.cell? ⟨p, 0, none⟩ = some (.func (.func 92) #[] #[])) => rational_both_comb x y hx hy p _ _ w hw (fun w' hq => HF w' (hw.q hq) p (Nat.lt_of_lt_of_le hp hq.size) (qcell hq hpc)))
    have HC := Lib.hid (fun w => rational_combined_is 92 w)
    clear HF hs hx hy h1 h2 h3 h4
    generalize rstr (x + y) = R at *
    go_enter Tryz.func49, Tryz.ntmps49
    go_wp2_with fail
    refine (HQ.out _).mono ?_
    rintro e w1 ⟨rfl, hq1⟩
    go_wp2_with fail
    refine (HC.out _).mono ?_
    rintro e w2 ⟨rfl, hq2, hp, hpc⟩
    have hQ2 := Q.trans hq1 hq2
    go_wp2_with fail
    refine (HB.out _ (hE.q hQ2) _ hp hpc).mono ?_
    rintro e w3 ⟨rfl, hq3⟩
    have hQ3 := Q.trans hQ2 hq3
    go_wp2
    go_ret2
    exact ⟨rfl, hQ3⟩
set_option maxRecDepth 100000 in
set_option maxHeartbeats 1000000 in
theorem rational_Sub (x y : Rat) (hx : rlim x = false) (hy : rlim y = false) (h1 : lim (x.num * y.den) = false) (h2 : lim (y.num * (x.den : Int)) = false) (h3 : lim (x.num * y.den - y.num * x.den) = false) (h4 : lim ((x.den : Int) * y.den) = false) (w : World) (hE : Env w) :
    Calls Tryz.prog 22 #[.string ⟨(rstr x).toArray⟩, .string ⟨(rstr y).toArray⟩] w fun e w' => e = .returned (.tuple #[.string ⟨(rstr (x - y)).toArray⟩, .int .i64 0]) ∧ Q w w' := by
  by_cases hs : Small8 x ∧ Small8 y
  · exact rational_Sub_small x y hs.1 hs.2 w hE
  · have HQ := Lib.hid (fun w => rational_quick_none (rstr x) (rstr y) (.func (.func 54) #[] #[]) (by have := rstr_len hx; omega) (by have := rstr_len hy; omega) (natOf_none_or hs) w)
    have HF := fun w' hw' p hp hpc => rational_combined_Sub x.num (x.den : Int) y.num (y.den : Int) (rlim_parts hx).1 (rlim_parts hx).2 (rlim_parts hy).1 (rlim_parts hy).2 (den_mul_ne x y) h1 h2 h3 h4 w' hw' p hp hpc
    rw [Rat.sub_is] at HF
    have HB := Lib.hid (fun w (hw : Env w) p (hp : p < w.heap.size) (hpc : w.cell? ⟨p, 0, none⟩ = some (.func (.func 56) #[] #[])) => rational_both_comb x y hx hy p _ _ w hw (fun w' hq => HF w' (hw.q hq) p (Nat.lt_of_lt_of_le hp hq.size) (qcell hq hpc)))
    have HC := Lib.hid (fun w => rational_combined_is 56 w)
    clear HF hs hx hy h1 h2 h3 h4
    generalize rstr (x - y) = R at *
    go_enter Tryz.func22, Tryz.ntmps22
    go_wp2_with fail
    refine (HQ.out _).mono ?_
    rintro e w1 ⟨rfl, hq1⟩
    go_wp2_with fail
    refine (HC.out _).mono ?_
    rintro e w2 ⟨rfl, hq2, hp, hpc⟩
    have hQ2 := Q.trans hq1 hq2
    go_wp2_with fail
    refine (HB.out _ (hE.q hQ2) _ hp hpc).mono ?_
    rintro e w3 ⟨rfl, hq3⟩
    have hQ3 := Q.trans hQ2 hq3
    go_wp2
    go_ret2
    exact ⟨rfl, hQ3⟩
end Go.Proofs.YtlbjjkmfcgcodaaGreatDoor
namespace Go.Proofs.YtlbjjkmfcgcodaaGreatDoor
open Go.RowKit Kp
open Go.Lib (decDigits)
def Root90 (q : Rat) : Prop := (decDigits q.num.natAbs).length ≤ 90 ∧ (decDigits q.den).length ≤ 90
theorem lim_len {z : Int} (h : (decDigits z.natAbs).length ≤ 300) : lim z = false := by
  have h1 := ichk_itoa z
  have h2 := itoa_of_form (ichk_ne_eleven z)
  cases hl : lim z with
  | false => rfl
  | true =>
    rw [hl, if_pos rfl] at h1
    have := h2.2.1 h1
    rw [unsig_itoa] at this; omega
theorem Root90.rlim {q : Rat} (h : Root90 q) : rlim q = false := by
  unfold Kp.rlim
  rw [lim_len (z := q.num) (by have := h.1; omega), lim_len (z := (q.den : Int)) (by rw [Int.natAbs_natCast]; have := h.2; omega)]
  rfl
theorem Small8.root90 {q : Rat} (h : Small8 q) : Root90 q := by
  have h1 := (decDigits_len_le q.num.natAbs 8 (by decide)).2 (by have := h.1; omega)
  have h2 := (decDigits_len_le q.den 8 (by decide)).2 (by have := h.2; omega)
  exact ⟨by omega, by omega⟩
end Go.Proofs.YtlbjjkmfcgcodaaGreatDoor
namespace Go.Proofs.YtlbjjkmfcgcodaaGreatDoor
open Go.RowKit Go Kp
section
variable {α : Type} {P : Program} {g : Operand} {ps : Array Tmp} {assign body : Code} {R : Exit → Act → World → Prop} {a : Act} {w : World} {m gf : Nat} {lb : Array Value} {bs : List Nat}
end
end Go.Proofs.YtlbjjkmfcgcodaaGreatDoor
namespace Go.Proofs.YtlbjjkmfcgcodaaGreatDoor
open Go.RowKit Go.Shelf Kp
open Go.Lib (decDigits)
attribute [local go_sem] Oper.semAt_some
end Go.Proofs.YtlbjjkmfcgcodaaGreatDoor
namespace Go.Proofs.YtlbjjkmfcgcodaaGreatDoor
open Go.RowKit Go.Shelf Kp
open Go.Lib (decDigits)
theorem lt_pow_dec (n : Nat) : n < 10 ^ (decDigits n).length := by
  have h := nval_lt (decDigits n) (decDigits_dig n)
  rw [nval_decDigits] at h
  exact h
attribute [local go_sem] Oper.semAt_some
end Go.Proofs.YtlbjjkmfcgcodaaGreatDoor
namespace Go.Proofs.YtlbjjkmfcgcodaaGreatDoor
open Go.RowKit Kp
theorem rational_Check_num (q : Rat) (h : rlim q = false) (w : World) (hE : Env w) :
    Calls Tryz.prog 14 #[.string ⟨(rstr q).toArray⟩] w fun e w' => e = .returned (.int .i64 0) ∧ Q w w' := by
  have := rational_Check (rstr q) (by have := rstr_len h; omega) w hE
  rw [show rchk (rstr q) = 0 by rw [rchk_rstr, h]; rfl] at this
  exact this
end Go.Proofs.YtlbjjkmfcgcodaaGreatDoor
namespace Go.Proofs.YtlbjjkmfcgcodaaGreatDoor
open Go.RowKit Kp
open Go.Lib (decDigits)
def Bd (n : Nat) (q : Rat) : Prop := q.num.natAbs < 10 ^ n ∧ q.den < 10 ^ n
theorem lim_bd {z : Int} {n : Nat} (h : z.natAbs < 10 ^ n) (hn : n ≤ 300) : lim z = false := by
  refine lim_len ?_
  obtain ⟨e, he⟩ : ∃ e : Nat, e = 300 := ⟨_, rfl⟩
  rw [← he] at hn ⊢
  exact (decDigits_len_le _ e (by omega)).2 (Nat.lt_of_lt_of_le h (Nat.pow_le_pow_right (by decide) hn))
theorem Bd.rlim {n : Nat} {q : Rat} (h : Bd n q) (hn : n ≤ 300) : rlim q = false := by
  unfold Kp.rlim
  rw [lim_bd h.1 hn, lim_bd (z := (q.den : Int)) (by rw [Int.natAbs_natCast]; exact h.2) hn]; rfl
theorem Bd.mono {n m : Nat} {q : Rat} (h : Bd n q) (hm : n ≤ m) : Bd m q :=
  ⟨Nat.lt_of_lt_of_le h.1 (Nat.pow_le_pow_right (by decide) hm), Nat.lt_of_lt_of_le h.2 (Nat.pow_le_pow_right (by decide) hm)⟩
theorem Bd.root90 {n : Nat} {q : Rat} (h : Bd n q) (hn : n ≤ 90) : Root90 q := by
  have h' := h.mono hn
  exact ⟨(decDigits_len_le _ 90 (by decide)).2 h'.1, (decDigits_len_le _ 90 (by decide)).2 h'.2⟩
theorem bd_divInt {n : Nat} {z : Int} {k : Nat} (hk : 0 < k) (h1 : z.natAbs < 10 ^ n) (h2 : k < 10 ^ n) : Bd n (Rat.divInt z k) := by
  obtain ⟨e1, e2⟩ := divInt_pos z k hk
  refine ⟨?_, ?_⟩
  · rw [e1]
    have := tdiv_bounds z (Nat.gcd z.natAbs k) (B := (z.natAbs : Int)) (Int.le_refl _)
    omega
  · have h3 : (k : Int) / (Nat.gcd z.natAbs k : Int) ≤ k := Int.ediv_le_self _ (by omega)
    omega
theorem natAbs_mul_lt {a b : Int} {m n : Nat} (ha : a.natAbs < 10 ^ m) (hb : b.natAbs < 10 ^ n) : (a * b).natAbs < 10 ^ (m + n) := by
  rw [Int.natAbs_mul, Nat.pow_add]; exact Nat.mul_lt_mul'' ha hb
theorem den_mul_lt {x y : Rat} {m n : Nat} (hx : Bd m x) (hy : Bd n y) : x.den * y.den < 10 ^ (m + n) := by
  rw [Nat.pow_add]; exact Nat.mul_lt_mul'' hx.2 hy.2
theorem Bd.mul {m n : Nat} {x y : Rat} (hx : Bd m x) (hy : Bd n y) : Bd (m + n) (x * y) := by
  rw [← Rat.mul_is]
  have := bd_divInt (n := m + n) (z := x.num * y.num) (k := x.den * y.den) (Nat.mul_pos x.den_pos y.den_pos) (natAbs_mul_lt hx.1 hy.1) (den_mul_lt hx hy)
  rwa [Int.natCast_mul] at this
theorem cross_lt {m n : Nat} {x y : Rat} (hx : Bd m x) (hy : Bd n y) : (x.num * (y.den : Int)).natAbs < 10 ^ (m + n) :=
  natAbs_mul_lt hx.1 (by rw [Int.natAbs_natCast]; exact hy.2)
theorem sum_lt {m n : Nat} {x y : Rat} (hx : Bd m x) (hy : Bd n y) : (x.num * (y.den : Int) + y.num * (x.den : Int)).natAbs < 10 ^ (m + n + 1) ∧ (x.num * (y.den : Int) - y.num * (x.den : Int)).natAbs < 10 ^ (m + n + 1) := by
  have h1 := cross_lt hx hy
  have h2 := cross_lt hy hx
  rw [Nat.add_comm n m] at h2
  rw [Nat.pow_succ]
  generalize 10 ^ (m + n) = P at *
  omega
theorem Bd.add {m n : Nat} {x y : Rat} (hx : Bd m x) (hy : Bd n y) : Bd (m + n + 1) (x + y) := by
  rw [← Rat.add_is]
  have := bd_divInt (n := m + n + 1) (z := x.num * y.den + y.num * x.den) (k := x.den * y.den) (Nat.mul_pos x.den_pos y.den_pos) (sum_lt hx hy).1 (Nat.lt_of_lt_of_le (den_mul_lt hx hy) (Nat.pow_le_pow_right (by decide) (by omega)))
  rwa [Int.natCast_mul] at this
theorem rational_Mul_bd {m n : Nat} (x y : Rat) (hx : Bd m x) (hy : Bd n y) (h : m + n ≤ 300) (w : World) (hE : Env w) :
    Calls Tryz.prog 10 #[.string ⟨(rstr x).toArray⟩, .string ⟨(rstr y).toArray⟩] w fun e w' => e = .returned (.tuple #[.string ⟨(rstr (x * y)).toArray⟩, .int .i64 0]) ∧ Q w w' :=
  rational_Mul x y (hx.rlim (by omega)) (hy.rlim (by omega)) (lim_bd (natAbs_mul_lt hx.1 hy.1) h) (lim_bd (n := m + n) (by rw [← Int.natCast_mul, Int.natAbs_natCast]; exact den_mul_lt hx hy) h) w hE
theorem rational_Add_bd {m n : Nat} (x y : Rat) (hx : Bd m x) (hy : Bd n y) (h : m + n + 1 ≤ 300) (w : World) (hE : Env w) :
    Calls Tryz.prog 49 #[.string ⟨(rstr x).toArray⟩, .string ⟨(rstr y).toArray⟩] w fun e w' => e = .returned (.tuple #[.string ⟨(rstr (x + y)).toArray⟩, .int .i64 0]) ∧ Q w w' :=
  rational_Add x y (hx.rlim (by omega)) (hy.rlim (by omega)) (lim_bd (cross_lt hx hy) (by omega)) (lim_bd (cross_lt hy hx) (by omega)) (lim_bd (sum_lt hx hy).1 h) (lim_bd (n := m + n) (by rw [← Int.natCast_mul, Int.natAbs_natCast]; exact den_mul_lt hx hy) (by omega)) w hE
theorem rational_Sub_bd {m n : Nat} (x y : Rat) (hx : Bd m x) (hy : Bd n y) (h : m + n + 1 ≤ 300) (w : World) (hE : Env w) :
    Calls Tryz.prog 22 #[.string ⟨(rstr x).toArray⟩, .string ⟨(rstr y).toArray⟩] w fun e w' => e = .returned (.tuple #[.string ⟨(rstr (x - y)).toArray⟩, .int .i64 0]) ∧ Q w w' :=
  rational_Sub x y (hx.rlim (by omega)) (hy.rlim (by omega)) (lim_bd (cross_lt hx hy) (by omega)) (lim_bd (cross_lt hy hx) (by omega)) (lim_bd (sum_lt hx hy).2 h) (lim_bd (n := m + n) (by rw [← Int.natCast_mul, Int.natAbs_natCast]; exact den_mul_lt hx hy) (by omega)) w hE
theorem rational_Div_bd {m n : Nat} (x y : Rat) (hx : Bd m x) (hy : Bd n y) (hy0 : y.num ≠ 0) (h : m + n ≤ 300) (w : World) (hE : Env w) :
    Calls Tryz.prog 41 #[.string ⟨(rstr x).toArray⟩, .string ⟨(rstr y).toArray⟩] w fun e w' => e = .returned (.tuple #[.string ⟨(rstr (x / y)).toArray⟩, .int .i64 0]) ∧ Q w w' :=
  rational_Div x y (hx.rlim (by omega)) (hy.rlim (by omega)) hy0 (lim_bd (cross_lt hx hy) h) (lim_bd (cross_lt hy hx) (by omega)) w hE
theorem bd_one : Bd 1 1 := ⟨by decide, by decide⟩
end Go.Proofs.YtlbjjkmfcgcodaaGreatDoor
namespace Go.Proofs.YtlbjjkmfcgcodaaGreatDoor
open Go.RowKit Kp
open Go.Lib (decDigits)
def aOf (r : Rat) : Rat := Rat.divInt (normM (r.num.toNat * r.den)).1 r.den
def MakeEnd (w : World) (x l : Rat) (e : Ending) (w' : World) : Prop :=
  Q w w' ∧ ((longV x ≤ 60 ∧ longV l ≤ 40 ∧ ∃ v, e = .returned (.tuple #[v, .int .i64 0]) ∧ w'.ownsRow w.heap.size 83 2 v 1 [.string ⟨(rstr x).toArray⟩, .string ⟨(rstr l).toArray⟩]) ∨
    ((60 < longV x ∨ 40 < longV l) ∧ e = .returned (.tuple #[.slice none 0 0, .int .i64 4])))
theorem divInt_num_pos {z : Int} {k : Nat} (hz : 0 < z) (hk : 0 < k) : 0 < (Rat.divInt z k).num := by
  obtain ⟨m, rfl⟩ := Int.eq_ofNat_of_zero_le (show 0 ≤ z by omega)
  obtain ⟨e1, -⟩ := divInt_pos (m : Int) k hk
  rw [Int.natAbs_natCast] at e1
  have h4 := Nat.gcd_dvd_left m k
  have h5 := Nat.le_of_dvd (by omega) h4
  have h6 : 0 < Nat.gcd m k := Nat.gcd_pos_of_pos_left _ (by omega)
  have h7 := Nat.div_pos h5 h6
  rw [Int.tdiv_eq_ediv_of_nonneg (by omega), ← Int.natCast_ediv] at e1
  omega
theorem MakeEnd.base {w w1 : World} {x l : Rat} {e : Ending} {w' : World} (h : MakeEnd w1 x l e w') (hq : Q w w1) : MakeEnd w x l e w' := by
  obtain ⟨h1, h2⟩ := h
  refine ⟨Q.trans hq h1, ?_⟩
  rcases h2 with ⟨a, b, v, hv, ho⟩ | h2
  · exact .inl ⟨a, b, v, hv, Joins.ownsRow_le ho hq.size⟩
  · exact .inr h2
end Go.Proofs.YtlbjjkmfcgcodaaGreatDoor
namespace Kp
end Kp
namespace Go.Proofs.YtlbjjkmfcgcodaaGreatDoor
open Go.RowKit Kp
open Go.Lib (decDigits)
def leftOf (s : Rat) : Nat := (normM (s.num.toNat * s.den)).2
end Go.Proofs.YtlbjjkmfcgcodaaGreatDoor
