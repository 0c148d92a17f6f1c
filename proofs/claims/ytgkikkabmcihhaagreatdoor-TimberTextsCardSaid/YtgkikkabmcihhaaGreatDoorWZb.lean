/-
  Walks: timber.size, Parse.
-/
import Derived.Test.YtgkikkabmcihhaaGreatDoorWZ
import Derived.Test.YtgkikkabmcihhaaGreatDoorWY
import Derived.Test.YtgkikkabmcihhaaGreatDoorWS
namespace Go.Proofs.YtgkikkabmcihhaaGreatDoor
open Go.RowKit Kp

theorem lib_Cut (c : UInt8) (s : Str) (hs : s.length < 4294967281) (w : World) (hE : Env w) :
    Calls Tryz.prog 55 #[.string ⟨s.toArray⟩, .string ⟨#[c]⟩] w fun e w' => e = .returned (.tuple #[.string ⟨(bef c s).toArray⟩, .string ⟨(aft c s).toArray⟩, .bool (has c s)]) ∧ Q w w' := by
  obtain ⟨m, hm⟩ := hE.maxlen
  refine (Tryz.strings_Cut ⟨s.toArray⟩ ⟨#[c]⟩ m w hs hm).mono ?_
  rintro e w' ⟨rfl, n, rfl⟩
  exact ⟨by simp only [cut_one], Below.drewN (Below.refl _ _) n⟩

theorem lib_IndexWords (s : Str) (w : World) (hE : Env w) :
    Calls Tryz.prog 111 #[.slice (some ⟨0, 0, none⟩) 13 13, .string ⟨s.toArray⟩] w fun e w' => ∃ r : Int, e = .returned (.int .i64 r) ∧ Hid (r = if s ∈ wordStrs then ((wordStrs.idxOf s : Nat) : Int) else -1) ∧ w = w' := by
  have h := Tryz.slices_Index_string 0 0 13 13 (wordStrs.map fun s => (⟨s.toArray⟩ : ByteArray)) ⟨s.toArray⟩ w (by decide) (by decide) (fun j hj => by
    have hj' : j < wordStrs.length := by simpa using hj
    rw [Nat.zero_add, hE.words.cell j hj']
    simp [List.getD_eq_getElem?_getD, List.getElem?_eq_getElem hj'])
  refine h.mono ?_
  rintro e w' ⟨rfl, rfl⟩
  refine ⟨_, rfl, Lib.hid ?_, rfl⟩
  have := idx_words wordStrs s 0
  rw [Nat.zero_add] at this
  rw [← this]; rfl

/-- Whether a line is right, as the program asks it. -/
theorem lineOk_parts (s : Str) (K : Int) (h : K = if bef 32 s ∈ wordStrs then ((wordStrs.idxOf (bef 32 s) : Nat) : Int) else -1) :
    lineOk s = (has 32 (aft 32 s) && (!(bef 32 s == [])) && decide (0 < K) && numOk (bef 32 (aft 32 s)) && numOk (aft 32 (aft 32 s))) := by
  unfold lineOk
  by_cases hm : bef 32 s ∈ wordStrs
  · rw [if_pos hm] at h
    by_cases he : bef 32 s = []
    · simp [he]
    · have h0 : wordStrs.idxOf (bef 32 s) ≠ 0 := by
        intro e
        have := List.getElem_idxOf (List.idxOf_lt_length_of_mem hm)
        simp only [e] at this
        exact he this.symm
      have : decide (0 < K) = true := by simp; omega
      have he3 : List.isEmpty (bef 32 s) = false := by simpa using he
      rw [this]; simp [he, hm, he3]
  · rw [if_neg hm] at h
    have : decide (0 < K) = false := by simp; omega
    rw [this]; simp [hm]

set_option maxRecDepth 100000 in
set_option maxHeartbeats 2000000 in
theorem timber_size (s : Str) (hs : s.length ≤ 100000) (w : World) (hE : Env w) :
    Calls Tryz.prog 56 #[.string ⟨s.toArray⟩] w fun e w' => ∃ z, e = .returned (.tuple #[szV z, .bool (lineOk s)]) ∧ Hid (lineOk s = true → z = lineSz s) ∧ Q w w' := by
  have l1 : (bef 32 s).length ≤ 100000 := Nat.le_trans (bef_len s) hs
  have l2 : (aft 32 s).length ≤ 100000 := Nat.le_trans (aft_len s) hs
  have l3 : (bef 32 (aft 32 s)).length ≤ 100000 := Nat.le_trans (bef_len _) l2
  have l4 : (aft 32 (aft 32 s)).length ≤ 100000 := Nat.le_trans (aft_len _) l2
  have HC1 := Lib.hid (lib_Cut 32 s (by omega))
  have HC2 := Lib.hid (lib_Cut 32 (aft 32 s) (by omega))
  have HI := Lib.hid (lib_IndexWords (bef 32 s))
  have HN1 := Lib.hid (timber_number (bef 32 (aft 32 s)) l3)
  have HN2 := Lib.hid (timber_number (aft 32 (aft 32 s)) l4)
  have HP := Lib.hid (lineOk_parts s)
  have HZ : Hid (∀ K z1 z2 : Int, K = (if bef 32 s ∈ wordStrs then ((wordStrs.idxOf (bef 32 s) : Nat) : Int) else -1) → (numOk (bef 32 (aft 32 s)) = true → z1 = nval (bef 32 (aft 32 s))) → (numOk (aft 32 (aft 32 s)) = true → z2 = nval (aft 32 (aft 32 s))) → lineOk s = true → (⟨K, z1, z2⟩ : Sz) = lineSz s) := Lib.hid (fun K z1 z2 hK h1 h2 hl => by
    unfold lineOk at hl
    simp only [Bool.and_eq_true, decide_eq_true_eq] at hl
    obtain ⟨⟨⟨⟨_, _⟩, hm⟩, h4⟩, h5⟩ := hl
    rw [if_pos hm] at hK
    unfold lineSz
    rw [hK, h1 h4, h2 h5])
  clear l1 l2 l3 l4
  generalize lineOk s = R at *
  generalize lineSz s = Z at *
  generalize has 32 (aft 32 s) = b1 at *
  generalize has 32 s = b0 at *
  generalize numOk (bef 32 (aft 32 s)) = b2 at *
  generalize numOk (aft 32 (aft 32 s)) = b3 at *
  generalize nval (bef 32 (aft 32 s)) = n2 at *
  generalize nval (aft 32 (aft 32 s)) = n3 at *
  generalize bef 32 (aft 32 s) = s2 at *
  generalize aft 32 (aft 32 s) = s3 at *
  generalize aft 32 s = s1 at *
  generalize bef 32 s = s0 at *
  go_enter Tryz.func56, Tryz.ntmps56
  go_wp2_with fail
  have hq0 : Q w (w.alloc (.cells #[.int .i64 0, .int .i64 0, .int .i64 0] 35)) := (by repeat (first | exact Below.refl _ _ | assumption | refine below_drewN ?_ _ | refine Below.drew ?_ | refine Below.alloc ?_ (by first | (simp; done) | (simp; omega)) _ | refine Below.setCell ?_ (by first | (simp; done) | (simp; omega)) _))
  have B0 := Blk.new w [.int .i64 0, .int .i64 0, .int .i64 0] 35
  refine (HC1.out _ (hE.q hq0)).mono ?_
  rintro e w1 ⟨rfl, hq1⟩
  have hQ1 := hq0.trans (hq1.mono hq0.size)
  have B1 := B0.keep hq1 (by simp)
  clear hq0 hq1 B0
  go_wp2_with fail
  refine (HC2.out _ (hE.q hQ1)).mono ?_
  rintro e w2 ⟨rfl, hq2⟩
  have hQ2 := hQ1.trans (hq2.mono hQ1.size)
  have B2 := B1.keep hq2 B1.lt
  clear hQ1 hq2 B1
  go_wp2_with fail
  refine (HI.out _ (hE.q hQ2)).mono ?_
  rintro e w3 ⟨K, rfl, HK, rfl⟩
  go_wp2_with fail
  refine (HN1.out _ (hE.q hQ2)).mono ?_
  rintro e w3 ⟨z1, rfl, HZ1, hq3⟩
  have hQ3 := hQ2.trans (hq3.mono hQ2.size)
  have B3 := B2.keep hq3 B2.lt
  clear hQ2 hq3 B2
  go_wp2_with fail
  refine (HN2.out _ (hE.q hQ3)).mono ?_
  rintro e w4 ⟨z2, rfl, HZ2, hq4⟩
  have hQ4 := hQ3.trans (hq4.mono hQ3.size)
  have B4 := B3.keep hq4 B3.lt
  clear hQ3 hq4 B3
  have c0 := B4.cell 0
  have c1 := B4.cell 1
  have c2 := B4.cell 2
  have f0 := B4.frozen 0
  have f1 := B4.frozen 1
  have f2 := B4.frozen 2
  have l4 := B4.lt
  simp only [List.getElem?_cons_zero, List.getElem?_cons_succ] at c0 c1 c2
  have HF : Hid (R = true → (⟨K, z1, z2⟩ : Sz) = Z) := Lib.hid (HZ.out K z1 z2 HK.out HZ1.out HZ2.out)
  have HR : Hid (R = (b1 && (!(s0 == [])) && decide (0 < K) && b2 && b3)) := Lib.hid (HP.out K HK.out)
  have hend : ∀ W', W' = ((w4.setCell ⟨w.heap.size, 0, none⟩ (.int .i64 K)).setCell ⟨w.heap.size, 1, none⟩ (.int .i64 z1)).setCell ⟨w.heap.size, 2, none⟩ (.int .i64 z2) → Q w W' := fun W' e => by
    rw [e]; exact ((hQ4.setCell (p := ⟨w.heap.size, 0, none⟩) (Nat.le_refl _) _).setCell (p := ⟨w.heap.size, 1, none⟩) (Nat.le_refl _) _).setCell (p := ⟨w.heap.size, 2, none⟩) (Nat.le_refl _) _
  have HEnd := Lib.hid hend
  clear HC1 HC2 HI HN1 HN2 HP HZ HK HZ1 HZ2 hend
  cases b1 with
  | false =>
    go_wp2
    refine bodyPost_ret (v := .tuple #[.agg #[.int .i64 K, .int .i64 z1, .int .i64 z2], .bool false]) (ret_refFind _ _ w.heap.size _ _ _ _ 2 3 _ rfl rfl rfl ((((B4.set 0 _).set 1 _).set 2 _).cell 0) ((((B4.set 0 _).set 1 _).set 2 _).cell 1) ((((B4.set 0 _).set 1 _).set 2 _).cell 2)) rfl ⟨⟨K, z1, z2⟩, by rw [HR.out]; rfl, HF, HEnd.out _ rfl⟩
  | true =>
    cases hw : (s0 == []) with
    | true =>
      rw [hw] at HR
      go_wp2
      refine bodyPost_ret (v := .tuple #[.agg #[.int .i64 K, .int .i64 z1, .int .i64 z2], .bool false]) (ret_refFind _ _ w.heap.size _ _ _ _ 2 3 _ rfl rfl rfl ((((B4.set 0 _).set 1 _).set 2 _).cell 0) ((((B4.set 0 _).set 1 _).set 2 _).cell 1) ((((B4.set 0 _).set 1 _).set 2 _).cell 2)) rfl ⟨⟨K, z1, z2⟩, by rw [HR.out]; rfl, HF, HEnd.out _ rfl⟩
    | false =>
      rw [hw] at HR
      have hw2 : (!(s0 == [])) = true := by rw [hw]; rfl
      cases hk : decide (0 < K) with
      | false =>
        rw [hk] at HR
        go_wp2
        refine bodyPost_ret (v := .tuple #[.agg #[.int .i64 K, .int .i64 z1, .int .i64 z2], .bool false]) (ret_refFind _ _ w.heap.size _ _ _ _ 2 3 _ rfl rfl rfl ((((B4.set 0 _).set 1 _).set 2 _).cell 0) ((((B4.set 0 _).set 1 _).set 2 _).cell 1) ((((B4.set 0 _).set 1 _).set 2 _).cell 2)) rfl ⟨⟨K, z1, z2⟩, by rw [HR.out]; rfl, HF, HEnd.out _ rfl⟩
      | true =>
        rw [hk] at HR
        cases b2 with
        | false =>
          go_wp2
          refine bodyPost_ret (v := .tuple #[.agg #[.int .i64 K, .int .i64 z1, .int .i64 z2], .bool false]) (ret_refFind _ _ w.heap.size _ _ _ _ 2 3 _ rfl rfl rfl ((((B4.set 0 _).set 1 _).set 2 _).cell 0) ((((B4.set 0 _).set 1 _).set 2 _).cell 1) ((((B4.set 0 _).set 1 _).set 2 _).cell 2)) rfl ⟨⟨K, z1, z2⟩, by rw [HR.out]; rfl, HF, HEnd.out _ rfl⟩
        | true =>
          go_wp2
          refine bodyPost_ret (v := .tuple #[.agg #[.int .i64 K, .int .i64 z1, .int .i64 z2], .bool b3]) (ret_refFind _ _ w.heap.size _ _ _ _ 2 3 _ rfl rfl rfl ((((B4.set 0 _).set 1 _).set 2 _).cell 0) ((((B4.set 0 _).set 1 _).set 2 _).cell 1) ((((B4.set 0 _).set 1 _).set 2 _).cell 2)) rfl ⟨⟨K, z1, z2⟩, by rw [HR.out]; rfl, HF, HEnd.out _ rfl⟩

/-- What Parse answers. -/
def ParseRes (s : Str) (v : Value) (er : Int) (w : World) : Prop :=
  (parseL s = none ∧ v = .slice none 0 0 ∧ er = 3) ∨ ∃ l, parseL s = some l ∧ ((scheck l [] ≠ 0 ∧ v = .slice none 0 0 ∧ er = scheck l []) ∨ (scheck l [] = 0 ∧ er = 0 ∧ SzSl w v l))

set_option maxRecDepth 100000 in
set_option maxHeartbeats 2000000 in
theorem timber_Parse (s : Str) (hs : s.length ≤ 60000) (w : World) (hE : Env w) :
    Calls Tryz.prog 24 #[.string ⟨s.toArray⟩] w fun e w' => ∃ v er, e = .returned (.tuple #[v, .int .i64 er]) ∧ Hid (ParseRes s v er w') ∧ Q w w' := by
  obtain ⟨i0, hi, hz0, hz1, hz2⟩ := info_parts infoSize
  have hl0 : decide ((65536 : Int) < (s.length : Int)) = false := by simp; omega
  go_enter Tryz.func24, Tryz.ntmps24
  go_wp2
  go_loopw [0, 4] (fun sv ov wr => ∃ (rest : Str) (l : List Sz) (o : Value), sv = .string ⟨rest.toArray⟩ ∧ o = ov ∧ l.length + rest.length ≤ s.length ∧ Hid (parseL s = (parseL rest).map (l ++ ·)) ∧ wr.ownsRow w.heap.size 35 3 o l.length (szCells l) ∧ Q w wr) (fun sv _ _ => match sv with | .string b => b.size | _ => 0)
  case atStart => exact ⟨s, [], _, rfl, rfl, by simp, Lib.hid (by cases parseL s <;> rfl), World.ownsRow_nil _ _ _ _, Below.refl _ _⟩
  case round =>
    obtain ⟨rest, l, o, rfl, rfl, hlen, HP0, hown, hQ⟩ := hrel
    have HP := Lib.hid HP0.out
    clear HP0
    by_cases hr : rest = []
    · subst hr
      have HL : Hid (parseL s = some l) := Lib.hid (by rw [HP.out, parseL_nil]; simp)
      clear HP
      have hO := szOwn_of hown
      have hsl := hO.sl
      have hln : l.length < 4611686018427387904 := by omega
      go_wp2_with fail
      refine (timber_Check l hln _ _ hsl).mono ?_
      rintro e w1 ⟨rfl, hq1⟩
      have hsl1 := hsl.keep hq1
      have hQ1 := hQ.trans (hq1.mono hQ.size)
      by_cases hsc : scheck l [] = 0
      · have HX : Hid (ParseRes s o 0 w1) := Lib.hid (.inr ⟨l, HL.out, .inr ⟨hsc, rfl, hsl1⟩⟩)
        rw [hsc]
        go_wp2
        go_ret2
        exact ⟨_, _, rfl, HX, hQ1⟩
      · have HX : Hid (ParseRes s (.slice none 0 0) (scheck l []) w1) := Lib.hid (.inr ⟨l, HL.out, .inl ⟨hsc, rfl, rfl⟩⟩)
        have hb : (scheck l [] != 0) = true := by rw [bne_iff_ne]; exact hsc
        clear hsc
        generalize scheck l [] = x at *
        go_wp2
        go_ret2
        exact ⟨_, _, rfl, HX, hQ1⟩
    · have hre : (rest == []) = false := by simpa using hr
      have hre2 : (!(rest == [])) = true := by rw [hre]; rfl
      have lb : (bef 10 rest).length ≤ 100000 := Nat.le_trans (bef_len rest) (by omega)
      have la := aft_len (c := 10) rest
      have HC := Lib.hid (lib_Cut 10 rest (by omega))
      have HS := Lib.hid (timber_size (bef 10 rest) lb)
      cases hh : has 10 rest with
      | false =>
        have HX : Hid (∀ W, ParseRes s (.slice none 0 0) 3 W) := Lib.hid (fun W => .inl ⟨by rw [HP.out, parseL_bad hr (.inl hh)]; rfl, rfl, rfl⟩)
        rw [hh] at HC
        clear HP hh lb la hown
        generalize bef 10 rest = ln at *
        generalize aft 10 rest = rs at *
        generalize lineOk ln = ok at *
        generalize lineSz ln = sz at *
        go_wp2_with fail
        refine (HC.out _ (hE.q hQ)).mono ?_
        rintro e w1 ⟨rfl, hq1⟩
        have hQ1 := hQ.trans (hq1.mono hQ.size)
        go_wp2_with fail
        refine (HS.out _ (hE.q hQ1)).mono ?_
        rintro e w2 ⟨⟨zk, zw, zd⟩, rfl, HZ, hq2⟩
        have hQ2 := hQ1.trans (hq2.mono hQ1.size)
        unfold szV
        go_wp2
        go_ret2
        exact ⟨_, _, rfl, Lib.hid (HX.out _), hQ2.alloc hQ2.size _⟩
      | true =>
        have lt := aft_lt rest hh
        rw [hh] at HC
        cases hk : lineOk (bef 10 rest) with
        | false =>
          have HX : Hid (∀ W, ParseRes s (.slice none 0 0) 3 W) := Lib.hid (fun W => .inl ⟨by rw [HP.out, parseL_bad hr (.inr hk)]; rfl, rfl, rfl⟩)
          rw [hk] at HS
          clear HP hh lb la lt hown hk
          generalize bef 10 rest = ln at *
          generalize aft 10 rest = rs at *
          generalize lineSz ln = sz at *
          go_wp2_with fail
          refine (HC.out _ (hE.q hQ)).mono ?_
          rintro e w1 ⟨rfl, hq1⟩
          have hQ1 := hQ.trans (hq1.mono hQ.size)
          go_wp2_with fail
          refine (HS.out _ (hE.q hQ1)).mono ?_
          rintro e w2 ⟨⟨zk, zw, zd⟩, rfl, HZ, hq2⟩
          have hQ2 := hQ1.trans (hq2.mono hQ1.size)
          unfold szV
          go_wp2
          go_ret2
          exact ⟨_, _, rfl, Lib.hid (HX.out _), hQ2.alloc hQ2.size _⟩
        | true =>
          have HX : Hid (parseL s = (parseL (aft 10 rest)).map ((l ++ [lineSz (bef 10 rest)]) ++ ·)) := Lib.hid (by
            rw [HP.out, parseL_cons hr hh hk, Option.map_map]; congr 1; funext m; simp)
          rw [hk] at HS
          clear HP hh lb la hk
          generalize bef 10 rest = ln at *
          generalize aft 10 rest = rs at *
          generalize lineSz ln = sz at *
          go_wp2_with fail
          refine (HC.out _ (hE.q hQ)).mono ?_
          rintro e w1 ⟨rfl, hq1⟩
          have hQ1 := hQ.trans (hq1.mono hQ.size)
          have ho1 := ownsRow_keep hown hq1
          go_wp2_with fail
          refine (HS.out _ (hE.q hQ1)).mono ?_
          rintro e w2 ⟨z, rfl, HZ, hq2⟩
          obtain rfl : z = sz := HZ.out (by trivial)
          have hQ2 := hQ1.trans (hq2.mono hQ1.size)
          have ho2 := ownsRow_keep ho1 hq2
          clear hown ho1 hq1 hq2 hQ1 HZ
          obtain ⟨zk, zw, zd⟩ := z
          unfold szV
          have hnl : l.length + 1 ≤ 100000 := by omega
          have B2 := Blk.new w2 [.int .i64 zk, .int .i64 zw, .int .i64 zd] 35
          have hq3 : Q w2 (w2.alloc (.cells [.int .i64 zk, .int .i64 zw, .int .i64 zd].toArray 35)) := (Below.refl _ _).alloc (Nat.le_refl _) _
          have ho3 := ownsRow_keep ho2 hq3
          have hQ3 := hQ2.trans (hq3.mono hQ2.size)
          have hws := hQ2.size
          have hsc : szCells (l ++ [⟨zk, zw, zd⟩]) = szCells l ++ [.int .i64 zk, .int .i64 zw, .int .i64 zd] := by unfold szCells; rw [List.flatMap_append]; rfl
          have HSC := Lib.hid hsc
          have c0 := B2.cell 0
          have c1 := B2.cell 1
          have c2 := B2.cell 2
          simp only [List.getElem?_cons_zero, List.getElem?_cons_succ] at c0 c1 c2
          clear hq3 ho2 hQ2 hsc
          go_wp2_with (at_builtin; refine wpList_append_own _ rfl (.tmp 33) (.tmp 35) 31 rfl w.heap.size 35 i0 _ 3 24 Tryz.underlying31 hi hz0 hz1 hz2 rfl (by decide) _ l.length (szCells l) rfl (ownsRow_keep ho3 ((Below.refl _ _).alloc (Nat.le_refl _) _)) ⟨w2.heap.size + 1, 0, none⟩ 1 1 [.int .i64 zk, .int .i64 zw, .int .i64 zd] rfl rfl ?qc2 ?qc3 ?qc4 ?qc5 ?qc6 ?_)
          case qc2 =>
            intro j u hj
            have hB := (Blk.new (w2.alloc (Obj.cells [.int .i64 zk, .int .i64 zw, .int .i64 zd].toArray 35)) [.int .i64 zk, .int .i64 zw, .int .i64 zd] 35).cell j
            rw [World.size_alloc] at hB
            rw [Addr.add_lit, Nat.zero_add]
            exact hB.trans hj
          case qc3 =>
            intro u hu
            simp only [List.mem_cons, List.not_mem_nil, or_false] at hu
            rcases hu with rfl | rfl | rfl <;> rfl
          case qc4 => unfold maxLen; omega
          case qc5 => omega
          case qc6 => simp; omega
          intro v' w4 hown4 hgrow4 _
          have hQ4 : Q w w4 := (hQ3.alloc hQ3.size _).grown hgrow4 (by simp; omega) (fun k hk => (ho3.lt k hk).1)
          have HO : Hid (w4.ownsRow w.heap.size 35 3 v' (l ++ [(⟨zk, zw, zd⟩ : Sz)]).length (szCells (l ++ [⟨zk, zw, zd⟩]))) := Lib.hid (by rw [HSC.out, List.length_append]; exact hown4)
          clear hown4 hgrow4 ho3 hQ3 c0 c1 c2 B2 HS HC
          go_wp2
          go_roundw
          case rel => exact ⟨rs, l ++ [⟨zk, zw, zd⟩], v', rfl, rfl, by simp; omega, HX, HO.out, hQ4⟩
          case measure => show rs.length < rest.length; omega

end Go.Proofs.YtgkikkabmcihhaaGreatDoor
