/-
  PA PB PC PD PE PF PG PH PI PJ PK PL LDepths, one behind the other.
-/
import Derived.Test.YtgkikkabmcihhaaGreatDoorQZ

namespace Go.Proofs.YtgkikkabmcihhaaGreatDoor
open Go.RowKit Kp
open Go.Lib (decDigits)

/-- Digits, without zeros in front. -/
def digOK (s : Str) : Bool := decide (digN s ≠ 0 ∧ ¬ digN s < s.length)
theorem digOK_iff (s : Str) : digOK s = true ↔ (s ≠ [] ∧ AllDig s ∧ (s.head? = some 48 → s = [48])) := by
  unfold digOK; rw [decide_eq_true_iff]; exact digN_good
theorem allDig_at {s : Str} (h : AllDig s) (k : Nat) (hk : k < s.length) : isDig (at0 s k) = true := h _ (by rw [at0_get s k hk]; exact List.getElem_mem hk)
theorem allDig_of {s : Str} (h : ∀ k, k < s.length → isDig (at0 s k) = true) : AllDig s := by
  intro c hc
  obtain ⟨k, hk, rfl⟩ := List.mem_iff_getElem.1 hc
  rw [← at0_get s k hk]; exact h k hk
theorem digOK_zero {s : Str} (h : 1 < s.length) (h0 : at0 s 0 = 48) : digOK s = false := by
  rw [← Bool.not_eq_true, digOK_iff]
  rintro ⟨ne, -, hz⟩
  rw [head_at0 ne, h0] at hz
  have := hz rfl
  rw [this] at h; simp at h
theorem digOK_rest {s : Str} (h0 : s ≠ []) (h : ¬ (1 < s.length ∧ at0 s 0 = 48)) : digOK s = true ↔ AllDig s := by
  rw [digOK_iff]
  refine ⟨fun x => x.2.1, fun x => ⟨h0, x, fun e => ?_⟩⟩
  rw [head_at0 h0] at e
  have e48 := Option.some.inj e
  have hl : s.length = 1 := by
    have := List.length_pos_iff.2 h0
    by_cases hc : 1 < s.length
    · exact absurd ⟨hc, e48⟩ h
    · omega
  obtain ⟨c, rfl⟩ := List.length_eq_one_iff.1 hl
  simp only [at0, List.getD_cons_zero] at e48; rw [e48]

set_option maxHeartbeats 1000000 in
theorem ref02_digits (s : Str) (hl : s.length ≤ 1000000000) (w : World) :
    Calls Tryz.prog 150 #[.string ⟨s.toArray⟩] w fun e w' => e = .returned (.bool (digOK s)) ∧ w' = w := by
  obtain ⟨b, hb⟩ : ∃ b, digOK s = b := ⟨_, rfl⟩
  rw [hb]
  by_cases h0 : s.length = 0
  · have hz : ((s.length : Int) == 0) = true := by rw [h0]; rfl
    obtain rfl : b = false := by
      rw [← hb, ← Bool.not_eq_true, digOK_iff]
      rintro ⟨ne, -⟩
      exact ne (List.length_eq_zero_iff.1 h0)
    clear hb h0
    go_enter Tryz.func150, Tryz.ntmps150
    go_wp2
    go_ret
    exact ⟨rfl, rfl⟩
  · have hz : ((s.length : Int) == 0) = false := by rw [beq_eq_false_iff_ne]; omega
    have hpos : (0 : Int) < (s.length : Int) := by omega
    have hne : s ≠ [] := fun e => h0 (by rw [e]; rfl)
    by_cases h1 : 1 < s.length ∧ at0 s 0 = 48
    · obtain rfl : b = false := by rw [← hb]; exact digOK_zero h1.1 h1.2
      have hlt : (1 : Int) < (s.length : Int) := by omega
      have h48 : (((at0 s 0).toNat : Int) == 48) = true := by rw [h1.2]; rfl
      clear h1 hb h0 hne
      go_enter Tryz.func150, Tryz.ntmps150
      go_wp2
      go_ret
      exact ⟨rfl, rfl⟩
    · have hr := digOK_rest hne h1
      rw [hb] at hr
      have HF := Lib.hid (show ∀ k, k < s.length → isDig (at0 s k) = false → b = false from fun k hk hd => by
        cases b with
        | false => rfl
        | true => have := allDig_at (hr.1 rfl) k hk; rw [hd] at this; cases this)
      have HT := Lib.hid (show (∀ k, k < s.length → isDig (at0 s k) = true) → b = true from fun h => hr.2 (allDig_of h))
      have hway : (¬ (1 : Int) < (s.length : Int)) ∨ ((1 : Int) < (s.length : Int) ∧ (((at0 s 0).toNat : Int) == 48) = false) := by
        by_cases hc : 1 < s.length
        · exact .inr ⟨by omega, ne48 (fun e => h1 ⟨hc, e⟩)⟩
        · exact .inl (by omega)
      clear hr h1 hb h0 hne
      go_enter Tryz.func150, Tryz.ntmps150
      rcases hway with hw | ⟨hw, hw2⟩
      all_goals go_wp2
      all_goals go_loop [3] (fun i => ∃ k : Nat, k ≤ s.length ∧ i = .int .i64 k ∧ Hid (∀ j, j < k → isDig (at0 s j) = true)) (fun i => s.length - (intOf i).toNat)
      all_goals first
        | (exact ⟨0, by omega, rfl, Lib.hid (fun j hj => absurd hj (by omega))⟩)
        | (obtain ⟨k, hk, rfl, HK⟩ := hrel
           by_cases hlt : k < s.length
           · cases hd : isDig (at0 s k) with
             | false =>
               obtain rfl : b = false := HF.out k hlt hd
               clear HF HT HK
               rcases (isDig_false_iff _).1 hd with d1 | d1
               · have d2 : (((at0 s k).toNat : Int) < 48) := by omega
                 clear hd
                 go_wp2
                 go_ret
                 exact ⟨rfl, rfl⟩
               · have d2 : ¬ (at0 s k).toNat < 48 := by omega
                 clear hd
                 go_wp2
                 go_ret
                 exact ⟨rfl, rfl⟩
             | true =>
               obtain ⟨d1, d2⟩ := (isDig_iff _).1 hd
               have d1' : ¬ (at0 s k).toNat < 48 := by omega
               have HK2 := Lib.hid (show ∀ j, j < k + 1 → isDig (at0 s j) = true from fun j hj => by
                 by_cases e : j = k
                 · rw [e]; exact hd
                 · exact HK.out j (by omega))
               clear hd
               go_wp2
               go_round
               case rel => exact ⟨k + 1, by omega, by go_num, HK2⟩
               case measure => simp [intOf]; omega
           · obtain rfl : k = s.length := by omega
             obtain rfl : b = true := HT.out HK.out
             clear HF HT HK
             go_wp2
             go_ret
             exact ⟨rfl, rfl⟩)

theorem slash_at {s : Str} {k : Nat} (hk : k < s.length) (h : at0 s k = 47) (hn : ∀ j, j < k → at0 s j ≠ 47) : numPart s = takeS s k ∧ denCut s = dropS s (k + 1) ∧ hasSlash s = true := by
  have e : s = s.take k ++ 47 :: s.drop (k + 1) := by
    conv => lhs; rw [← List.take_append_drop k s, List.drop_eq_getElem_cons hk, ← at0_get s k hk, h]
  have hp : ∀ y ∈ s.take k, decide (y ≠ 47) = true := fun y hy => by
    obtain ⟨j, hj, rfl⟩ := List.mem_iff_getElem.1 hy
    rw [List.length_take] at hj
    rw [List.getElem_take, decide_eq_true_iff, ← at0_get s j (by omega)]
    exact hn j (by omega)
  have hh : hasSlash s = true := by unfold hasSlash; rw [decide_eq_true_iff, e]; simp
  have hn1 := takeWhile_stop (fun c : UInt8 => decide (c ≠ 47)) 47 (s.drop (k + 1)) (by simp) (s.take k) hp
  have hn2 := dropWhile_stop (fun c : UInt8 => decide (c ≠ 47)) 47 (s.drop (k + 1)) (by simp) (s.take k) hp
  rw [← e] at hn1 hn2
  refine ⟨hn1, ?_, hh⟩
  unfold denCut; rw [if_pos hh]; unfold denPart; rw [hn2]; rfl
theorem slash_none {s : Str} (hn : ∀ j, j < s.length → at0 s j ≠ 47) : numPart s = s ∧ denCut s = [] ∧ hasSlash s = false := by
  have hm : ¬ (47 : UInt8) ∈ s := fun hm => by
    obtain ⟨j, hj, e⟩ := List.mem_iff_getElem.1 hm
    exact hn j hj (by rw [at0_get s j hj, e])
  have hh : hasSlash s = false := by unfold hasSlash; rw [decide_eq_false_iff_not]; exact hm
  refine ⟨takeWhile_all _ _ (fun x hx => ?_), ?_, hh⟩
  · rw [decide_eq_true_iff]; intro e; rw [e] at hx; exact hm hx
  · unfold denCut; rw [hh]; rfl
theorem ne47 {c : UInt8} (h : c ≠ 47) : ((c.toNat : Int) == 47) = false := by
  have h2 : c.toNat ≠ 47 := fun e => h (UInt8.toNat_inj.1 e)
  rw [beq_eq_false_iff_ne]; omega

theorem results_tmp4 {fn : Func} {t u v x : Tmp} (h : fn.results = #[.tmp t, .tmp u, .tmp v, .tmp x]) (tmps : Array Value) (P : Program) (w : World) :
    (results fn tmps).run P w = .ok (.tuple #[tmps.getD t undef, tmps.getD u undef, tmps.getD v undef, tmps.getD x undef]) w := by
  simp [results, h, go_sem]

/-- What split hands back: the sign, numerator's and denominator's texts, whether there is a slash. -/
def splitV (a : Str) : Value := .tuple #[.bool (decide (a.head? = some 45)), .string ⟨(numPart (unsig a)).toArray⟩, .string ⟨(denCut (unsig a)).toArray⟩, .bool (hasSlash (unsig a))]

set_option maxHeartbeats 2000000 in
theorem ref02_split (a : Str) (hl : a.length ≤ 1000000000) (w : World) :
    Calls Tryz.prog 149 #[.string ⟨a.toArray⟩] w fun e w' => e = .returned (splitV a) ∧ Q w w' := by
  have hul := unsig_len a
  by_cases hm : a.head? = some 45
  · have hd : decide (a.head? = some 45) = true := by rw [decide_eq_true_iff]; exact hm
    have hc := unsig_cons hm
    have hdr : dropS a 1 = unsig a := by conv => lhs; rw [hc]
                                         rfl
    have ha0 : (((at0 a 0).toNat : Int) == 45) = true := by rw [hc]; rfl
    have hpos : (0 : Int) < (a.length : Int) := by rw [hc, List.length_cons]; omega
    unfold splitV
    rw [hd]
    clear hm hd hc
    generalize unsig a = s at *
    have H1 := Lib.hid (fun k => slash_at (s := s) (k := k))
    have H2 := Lib.hid (slash_none (s := s))
    generalize numPart s = N at *
    generalize denCut s = D at *
    generalize hasSlash s = f at *
    go_enter Tryz.func149, Tryz.ntmps149
    go_wp2
    go_loop [8] (fun i => ∃ k : Nat, k ≤ s.length ∧ i = .int .i64 k ∧ Hid (∀ j, j < k → at0 s j ≠ 47)) (fun i => s.length - (intOf i).toNat)
    case atStart => exact ⟨0, by omega, rfl, Lib.hid (fun j hj => absurd hj (by omega))⟩
    case round =>
      obtain ⟨k, hk, rfl, HK⟩ := hrel
      by_cases hlt : k < s.length
      · by_cases h47 : at0 s k = 47
        · have hb : (((at0 s k).toNat : Int) == 47) = true := by rw [h47]; rfl
          obtain ⟨rfl, rfl, rfl⟩ := H1.out k hlt h47 HK.out
          clear h47 HK H1 H2
          have f1 : (k : Int) ≤ (s.length : Int) := by omega
          have f2 : (k : Int) + 1 ≤ (s.length : Int) := by omega
          have f3 := Go.IntWalk.i64_in ((k : Int) + 1) (by omega)
          go_wp2
          go_quiet (fail)
          go_wp2
          (try simp only [Exit.inBlock, Exit.then])
          refine bodyPost_ret (results_tmp4 rfl _ _ _) rfl ?_
          exact ⟨rfl, (by repeat (first | exact Below.refl _ _ | assumption | refine below_drewN ?_ _ | refine Below.drew ?_ | refine Below.alloc ?_ (by first | (simp; done) | (simp; omega)) _ | refine Below.setCell ?_ (by first | (simp; done) | (simp; omega)) _))⟩
        · have hb := ne47 h47
          have HK2 := Lib.hid (show ∀ j, j < k + 1 → at0 s j ≠ 47 from fun j hj => by
            by_cases e : j = k
            · rw [e]; exact h47
            · exact HK.out j (by omega))
          clear h47
          go_wp2
          go_round
          case rel => exact ⟨k + 1, by omega, by go_num, HK2⟩
          case measure => simp [intOf]; omega
      · obtain rfl : k = s.length := by omega
        obtain ⟨rfl, rfl, rfl⟩ := H2.out HK.out
        clear HK H1 H2
        go_wp2
        (try simp only [Exit.inBlock, Exit.then])
        refine bodyPost_ret (results_tmp4 rfl _ _ _) rfl ?_
        exact ⟨rfl, (by repeat (first | exact Below.refl _ _ | assumption | refine below_drewN ?_ _ | refine Below.drew ?_ | refine Below.alloc ?_ (by first | (simp; done) | (simp; omega)) _ | refine Below.setCell ?_ (by first | (simp; done) | (simp; omega)) _))⟩
  · have hd : decide (a.head? = some 45) = false := by rw [decide_eq_false_iff_not]; exact hm
    have hw : ¬ (0 : Int) < (a.length : Int) ∨ ((0 : Int) < (a.length : Int) ∧ (((at0 a 0).toNat : Int) == 45) = false) := by
      by_cases h : a = []
      · exact .inl (by rw [h]; simp)
      · refine .inr ⟨by have := List.length_pos_iff.2 h; omega, ne45 (fun e => hm (by rw [head_at0 h, e]))⟩
    unfold splitV
    rw [hd, unsig_same hm]
    rw [unsig_same hm] at hul
    clear hm hd
    have H1 := Lib.hid (fun k => slash_at (s := a) (k := k))
    have H2 := Lib.hid (slash_none (s := a))
    generalize numPart a = N at *
    generalize denCut a = D at *
    generalize hasSlash a = f at *
    go_enter Tryz.func149, Tryz.ntmps149
    rcases hw with hw | ⟨hw, hw2⟩
    all_goals go_wp2
    all_goals go_loop [8] (fun i => ∃ k : Nat, k ≤ a.length ∧ i = .int .i64 k ∧ Hid (∀ j, j < k → at0 a j ≠ 47)) (fun i => a.length - (intOf i).toNat)
    all_goals first
      | (exact ⟨0, by omega, rfl, Lib.hid (fun j hj => absurd hj (by omega))⟩)
      | (obtain ⟨k, hk, rfl, HK⟩ := hrel
         by_cases hlt : k < a.length
         · by_cases h47 : at0 a k = 47
           · have hb : (((at0 a k).toNat : Int) == 47) = true := by rw [h47]; rfl
             obtain ⟨rfl, rfl, rfl⟩ := H1.out k hlt h47 HK.out
             clear h47 HK H1 H2
             have f1 : (k : Int) ≤ (a.length : Int) := by omega
             have f2 : (k : Int) + 1 ≤ (a.length : Int) := by omega
             have f3 := Go.IntWalk.i64_in ((k : Int) + 1) (by omega)
             go_wp2
             go_quiet (fail)
             go_wp2
             (try simp only [Exit.inBlock, Exit.then])
             refine bodyPost_ret (results_tmp4 rfl _ _ _) rfl ?_
             exact ⟨rfl, (by repeat (first | exact Below.refl _ _ | assumption | refine below_drewN ?_ _ | refine Below.drew ?_ | refine Below.alloc ?_ (by first | (simp; done) | (simp; omega)) _ | refine Below.setCell ?_ (by first | (simp; done) | (simp; omega)) _))⟩
           · have hb := ne47 h47
             have HK2 := Lib.hid (show ∀ j, j < k + 1 → at0 a j ≠ 47 from fun j hj => by
               by_cases e : j = k
               · rw [e]; exact h47
               · exact HK.out j (by omega))
             clear h47
             go_wp2
             go_round
             case rel => exact ⟨k + 1, by omega, by go_num, HK2⟩
             case measure => simp [intOf]; omega
         · obtain rfl : k = a.length := by omega
           obtain ⟨rfl, rfl, rfl⟩ := H2.out HK.out
           clear HK H1 H2
           go_wp2
           (try simp only [Exit.inBlock, Exit.then])
           refine bodyPost_ret (results_tmp4 rfl _ _ _) rfl ?_
           exact ⟨rfl, (by repeat (first | exact Below.refl _ _ | assumption | refine below_drewN ?_ _ | refine Below.drew ?_ | refine Below.alloc ?_ (by first | (simp; done) | (simp; omega)) _ | refine Below.setCell ?_ (by first | (simp; done) | (simp; omega)) _))⟩)

set_option maxHeartbeats 1000000 in
theorem ref02_small (s : Str) (hd : AllDig s) (hl : s.length ≤ 18) (w : World) :
    Calls Tryz.prog 152 #[.string ⟨s.toArray⟩] w fun e w' => e = .returned (.int .i64 (nval s)) ∧ w' = w := by
  have HD := Lib.hid (fun k hk => allDig_at hd k hk)
  have HLT := Lib.hid (fun k => nval_take_lt (s := s) (k := k) (fun c hc => hd c (List.mem_of_mem_take hc)))
  have HTK := Lib.hid (fun k hk => nval_take_succ (s := s) (k := k) hk)
  have HALL : Hid (s.take s.length = s) := Lib.hid List.take_length
  clear hd
  go_enter Tryz.func152, Tryz.ntmps152
  go_wp2
  go_loop [3, 4] (fun n i => ∃ k : Nat, k ≤ s.length ∧ i = .int .i64 k ∧ n = .int .i64 (nval (s.take k))) (fun _ i => s.length - (intOf i).toNat)
  case atStart => exact ⟨0, by omega, rfl, rfl⟩
  case round =>
    obtain ⟨k, hk, rfl, rfl⟩ := hrel
    by_cases hlt : k < s.length
    · have hv := HLT.out k
      have hp : 10 ^ k ≤ 10 ^ 17 := Nat.pow_le_pow_right (by decide) (by omega)
      have hv2 : nval (s.take k) < 100000000000000000 := Nat.lt_of_lt_of_le hv hp
      clear hv hp
      obtain ⟨d1, d2⟩ := (isDig_iff _).1 (HD.out k hlt)
      have HS : Hid (nval (s.take (k + 1)) = 10 * nval (s.take k) + ((at0 s k).toNat - 48)) := Lib.hid (HTK.out k hlt)
      generalize nval (s.take k) = V at *
      go_wp2
      go_round
      case rel => exact ⟨k + 1, by omega, by go_num, by rw [HS.out]; go_num⟩
      case measure => simp [intOf]; omega
    · obtain rfl : k = s.length := by omega
      rw [HALL.out]
      go_wp2
      go_ret
      exact ⟨rfl, rfl⟩

set_option maxHeartbeats 400000 in
theorem ref02_gcd (a b : Nat) (w : World) (ha1 : a ≤ 9223372036854775807) (hb1 : b ≤ 9223372036854775807) :
    Calls Tryz.prog 151 #[.int .i64 a, .int .i64 b] w fun e w' => e = .returned (.int .i64 (Nat.gcd a b)) ∧ Q w w' := by
  go_enter Tryz.func151, Tryz.ntmps151
  go_wp2
  go_loopw [0, 1] (GcdRel w (Nat.gcd a b)) (fun _ y _ => (intOf y).toNat)
  case atStart => exact ⟨0, a, b, rfl, rfl, ha1, hb1, rfl, rfl⟩
  case round =>
    obtain ⟨n, p, q, rfl, rfl, hp, hq, hg, rfl⟩ := hrel
    have HG := Lib.hid hg; clear hg
    by_cases h0 : q = 0
    · subst h0
      go_wp2
      go_ret
      have := HG.out
      simp at this
      exact ⟨by rw [← this]; rfl, (by repeat (first | exact Below.refl _ _ | assumption | refine below_drewN ?_ _ | refine Below.drew ?_ | refine Below.alloc ?_ (by first | (simp; done) | (simp; omega)) _ | refine Below.setCell ?_ (by first | (simp; done) | (simp; omega)) _))⟩
    · have hne : ((q : Int) == 0) = false := by simp; omega
      have hm := Nat.mod_lt p (show 0 < q by omega)
      go_wp2
      go_quiet (fail)
      go_wp2
      go_roundw
      case rel => exact ⟨n + nq, q, p % q, rfl, by go_num, by omega, by omega, by rw [← HG.out, gcd_step p q], by simp⟩
      case measure => simp [intOf]; omega

/-- decimal has written the digits behind i; n is left. -/
structure Wd2 (X : Int) (out : Str) (i : Nat) (n : Int) : Prop where
  len : out.length = 20
  i1 : 1 ≤ i
  i20 : i ≤ 20
  dig : AllDig (out.drop i)
  val : X = nval (out.drop i) + 10 ^ (20 - i) * n
  n0 : 0 ≤ n
  nlt : n < 10 ^ (i - 1)
  pos : i = 20 ∨ 0 < n
theorem Wd2.start {X : Int} (h0 : 0 ≤ X) (h : X ≤ 9223372036854775807) : Wd2 X (List.replicate 20 0) 20 X := by
  refine ⟨by simp, by omega, by omega, ?_, ?_, h0, ?_, .inl rfl⟩
  · rw [List.drop_of_length_le (by simp)]; intro c hc; cases hc
  · rw [List.drop_of_length_le (by simp)]; simp [nval, nvalF]
  · exact Int.lt_of_le_of_lt h (by decide)
theorem Wd2.step {X : Int} {out : Str} {i : Nat} {n : Int} (h : Wd2 X out i n) {p : Nat} (hp : p + 1 = i) :
    p < 20 ∧ (n / 10 = 0 → (out.set p (UInt8.ofNat (48 + n % 10).toNat)).drop p = decDigits X.toNat) ∧ (n / 10 ≠ 0 → Wd2 X (out.set p (UInt8.ofNat (48 + n % 10).toNat)) p (n / 10)) := by
  subst hp
  have hn0 := h.n0
  have hn1 := h.nlt
  have hl := h.len
  have hi := h.i20
  have hc := u8_ofInt (n := 48 + n % 10) (by omega) (by omega)
  generalize UInt8.ofNat (48 + n % 10).toNat = c at *
  have hlt : p < out.length := by omega
  have e : (out.set p c).drop p = c :: out.drop (p + 1) := by
    rw [List.drop_eq_getElem_cons (by simpa using hlt), List.getElem_set_self]
    congr 1
    rw [List.drop_set_of_lt (by omega)]
  have hd := h.dig
  have hv := h.val
  have hcd : isDig c = true := (isDig_iff _).2 (by omega)
  have hall : AllDig (c :: out.drop (p + 1)) := by
    intro x hx
    rcases List.mem_cons.1 hx with rfl | hx
    · exact hcd
    · exact hd x hx
  have hval : X = nval (c :: out.drop (p + 1)) + 10 ^ (20 - p) * (n / 10) := by
    rw [nval_cons, List.length_drop, show out.length - (p + 1) = 20 - (p + 1) by omega, hv]
    have hpow : (10 : Int) ^ (20 - p) = 10 ^ (20 - (p + 1)) * 10 := by
      rw [show 20 - p = (20 - (p + 1)) + 1 by omega, Int.pow_succ]
    rw [hpow]
    have hcn : ((c.toNat - 48 : Nat) : Int) = n % 10 := by omega
    push_cast
    rw [hcn]
    have hdm : n = 10 * (n / 10) + n % 10 := by omega
    generalize n / 10 = q at *
    generalize n % 10 = r at *
    subst hdm
    generalize (10 : Int) ^ (20 - (p + 1)) = Pw at *
    grind
  refine ⟨by omega, fun h0 => ?_, fun h0 => ?_⟩
  · rw [e]
    rw [h0, Int.mul_zero, Int.add_zero] at hval
    rw [show X.toNat = nval (c :: out.drop (p + 1)) by omega]
    refine (decDigits_nval _ (by simp) hall (fun h48 => ?_)).symm
    simp only [List.head?_cons, Option.some.injEq] at h48
    have hn : n = 0 := by rw [h48] at hc; simp at hc; omega
    rcases h.pos with hp | hp
    · rw [h48, List.drop_of_length_le (by omega)]
    · omega
  · have hp0 : p ≠ 0 := fun e0 => by
      subst e0
      rw [show (10 : Int) ^ (0 + 1 - 1) = 1 from rfl] at hn1
      omega
    refine ⟨by simpa using hl, by omega, by omega, by rw [e]; exact hall, by rw [e]; exact hval, by omega, ?_, .inr (by omega)⟩
    have hpow : (10 : Int) ^ (p + 1 - 1) = 10 ^ (p - 1) * 10 := by
      rw [show p + 1 - 1 = (p - 1) + 1 by omega, Int.pow_succ]
    rw [hpow] at hn1
    omega

end Go.Proofs.YtgkikkabmcihhaaGreatDoor

namespace Go.Proofs.YtgkikkabmcihhaaGreatDoor
open Go.RowKit Kp
open Go.Lib (decDigits)

set_option maxRecDepth 100000 in
set_option maxHeartbeats 2000000 in
theorem ref02_decimal (X : Int) (h0 : 0 ≤ X) (h1 : X ≤ 9223372036854775807) (w : World) :
    Calls Tryz.prog 155 #[.int .i64 X] w fun e w' => e = .returned (.string ⟨(Lib.itoa X).toArray⟩) ∧ Q w w' := by
  rw [itoa_nonneg h0]
  obtain ⟨i0, hi, hz0, hz1, hz2⟩ := info_parts infoByte
  have HS0 := Lib.hid (Wd2.start h0 h1)
  obtain ⟨W5, hmk, hown, hgr⟩ := run_make_full (P := Tryz.prog) w w.heap.size 88 5 i0 _ 1 Tryz.underlying88 hi hz0 hz1 .i64 .i64 20 (by rw [hz2]; omega) (by unfold maxLen; omega) (Nat.le_refl _)
  rw [show (Value.int .u8 0).cells = #[Value.int .u8 0] from rfl, Nat.mul_one, toList_madeCells_one, bytVs_zeros] at hown
  have hq5 : Q w W5 := (Below.refl w.heap.size w).grown hgr (Nat.le_refl _) (fun k hk => by cases hk)
  have hg5 : w.heap.size < W5.heap.size := (hown.lt w.heap.size rfl).2
  obtain ⟨g, hgg⟩ : ∃ g, w.heap.size = g := ⟨_, rfl⟩
  have hgw : w.heap.size ≤ g := by omega
  rw [hgg] at hmk hown hg5
  have HO := Lib.hid hown
  clear hown hgr hgg
  rw [show ((20 : Nat) : Int) = 20 from rfl] at hmk
  go_enter Tryz.func155, Tryz.ntmps155
  go_wp2_with fail
  clear hmk
  go_loopw [0, 4] (fun nv iv wr => ∃ (i : Nat) (N : Int) (out : Str), iv = .int .i64 i ∧ nv = .int .i64 N ∧ N ≤ 9223372036854775807 ∧ Hid (Wd2 X out i N) ∧ Hid (wr.ownsRow g 5 1 (.slice (some ⟨g, 0, none⟩) 20 20) 20 (bytVs out)) ∧ Q w wr) (fun _ iv _ => (intOf iv).toNat)
  case atStart => exact ⟨20, X, _, rfl, rfl, h1, HS0, HO, hq5⟩
  case round =>
    obtain ⟨i, N, out, rfl, rfl, hNm, HI, HO1, hQ⟩ := hrel
    obtain ⟨p, rfl⟩ : ∃ p, i = p + 1 := ⟨i - 1, by have := HI.out.i1; omega⟩
    obtain ⟨hp20, hs0, hs1⟩ := HI.out.step rfl
    have hN0 := HI.out.n0
    have hNb : N < 10 ^ 19 := Int.lt_of_lt_of_le HI.out.nlt (pow_mono (by decide) (by omega))
    have hpe : ((p + 1 : Nat) : Int) - 1 = (p : Int) := by omega
    have hp0 : (0 : Int) ≤ (p : Int) := by omega
    have hpn : (p : Int) < 20 := by omega
    have hpl : (p : Int) ≤ 20 := by omega
    have hw3 := Go.IntWalk.i64_in (p : Int) (by omega)
    have hw4 := Go.IntWalk.i64_in (48 + N % 10) (by omega)
    have hw5 := Go.IntWalk.u8_in (48 + N % 10) (by omega)
    have hr3 := HO1.out
    have hol : out.length = 20 := HI.out.len
    have hc3 := hr3.cellAt p (by omega)
    have hf3 := hr3.frozenAt p
    rw [bytVs_at out p (by omega)] at hc3
    obtain ⟨hr4, -⟩ := hr3.stored p (.int .u8 (48 + N % 10))
    have hc := u8_ofInt (n := 48 + N % 10) (by omega) (by omega)
    have hr5 := hr4
    rw [← hc, bytVs_set] at hr5
    rw [hc] at hr5
    have hol2 : (out.set p (UInt8.ofNat (48 + N % 10).toNat)).length = 20 := by simpa using hol
    have HR5 := Lib.hid hr5
    have HS1 := Lib.hid hs1
    have hQ4 : Q w (wr.setCell ⟨g, p, none⟩ (.int .u8 (48 + N % 10))) := hQ.setCell (p := ⟨g, p, none⟩) hgw _
    by_cases hz : N / 10 = 0
    · have hb : (N / 10 == 0) = true := by rw [beq_iff_eq]; exact hz
      have hcv := bytVs_conv hr5 hol2 p (by omega) (20 - p)
      rw [hs0 hz] at hcv
      clear hr3 hr4 hr5 hc hs0 hs1 HI hNb hz HS1
      go_wp2
      go_ret
      exact ⟨rfl, hQ4⟩
    · have hb : (N / 10 == 0) = false := by rw [beq_eq_false_iff_ne]; exact hz
      have HST := Lib.hid (HS1.out hz)
      clear hr3 hr4 hr5 hc hs0 hs1 HI hNb hz HS1
      go_wp2
      go_roundw
      case rel => exact ⟨p, N / 10, _, by go_num, by go_num, by omega, HST, HR5, hQ4⟩
      case measure => simp [intOf]

theorem gcd_div_pos {n k : Nat} (hk : 0 < k) : 0 < Nat.gcd n k ∧ 0 < k / Nat.gcd n k ∧ (0 < n → 0 < n / Nat.gcd n k) := by
  have hg : 0 < Nat.gcd n k := Nat.gcd_pos_of_pos_right _ hk
  exact ⟨hg, Nat.div_pos (Nat.le_of_dvd hk (Nat.gcd_dvd_right ..)) hg, fun hn => Nat.div_pos (Nat.le_of_dvd hn (Nat.gcd_dvd_left ..)) hg⟩

set_option maxHeartbeats 1000000 in
theorem ref02_quick_pos (n k : Nat) (hk : 0 < k) (hn : n ≤ 4611686018427387904) (hk1 : k ≤ 4611686018427387904) (w : World) :
    Calls Tryz.prog 97 #[.int .i64 n, .int .i64 k] w fun e w' => e = .returned (.string ⟨(rstr (Rat.divInt n k)).toArray⟩) ∧ Q w w' := by
  obtain ⟨p1, p2, -⟩ := gcd_div_pos (n := n) hk
  have hr := rstr_divInt (n : Int) k hk
  rw [Int.natAbs_natCast, Int.tdiv_eq_ediv_of_nonneg (by omega), ← Int.natCast_ediv, ← Int.natCast_ediv] at hr
  have HR := Lib.hid hr
  clear hr
  generalize rstr (Rat.divInt n k) = r at *
  have HG := Lib.hid (ref02_gcd n k w (by omega) (by omega))
  generalize Nat.gcd n k = g at *
  have b1 : n / g ≤ n := Nat.div_le_self ..
  have b2 : k / g ≤ k := Nat.div_le_self ..
  have hd1 : (n : Int) / (g : Int) = ((n / g : Nat) : Int) := by simp
  have hd2 : (k : Int) / (g : Int) = ((k / g : Nat) : Int) := by simp
  generalize n / g = x at *
  generalize k / g = y at *
  have hw1 := Go.IntWalk.i64_in (x : Int) (by omega)
  have hw2 := Go.IntWalk.i64_in (y : Int) (by omega)
  have hg3 : ((g : Int) == 0) = false := by rw [beq_eq_false_iff_ne]; omega
  have hn0 : ¬ (n : Int) < 0 := by omega
  have HD1 := Lib.hid (fun w => ref02_decimal (x : Int) (by omega) (by omega) w)
  have HD2 := Lib.hid (fun w => ref02_decimal (y : Int) (by omega) (by omega) w)
  have l19 : (10 : Nat) ^ 19 = 10000000000000000000 := by decide
  have l1 := itoa_len (x : Int) (lim_bd (n := 19) (by omega) (by decide))
  have l2 := itoa_len (y : Int) (lim_bd (n := 19) (by omega) (by decide))
  clear l19
  by_cases h1 : y = 1
  · have HW : Hid (r = Lib.itoa (x : Int)) := Lib.hid (by rw [HR.out, if_pos (by omega)])
    have hb : ((y : Int) == 1) = true := by rw [beq_iff_eq]; omega
    have ha1 := add_rule Tryz.prog [] (Lib.itoa (x : Int)) (by simp; omega)
    clear HR h1 HD2
    generalize Lib.itoa (x : Int) = X at *
    go_enter Tryz.func97, Tryz.ntmps97
    go_wp2_with fail
    refine HG.out.mono ?_
    rintro e w1 ⟨rfl, hq1⟩
    go_wp2_with fail
    refine (HD1.out _).mono ?_
    rintro e w2 ⟨rfl, hq2⟩
    have hQ2 := Q.trans hq1 hq2
    go_wp2
    go_ret
    exact ⟨by rw [HW.out]; rfl, hQ2⟩
  · have HW : Hid (r = Lib.itoa (x : Int) ++ 47 :: Lib.itoa (y : Int)) := Lib.hid (by rw [HR.out, if_neg (by omega)])
    have hb : ((y : Int) == 1) = false := by rw [beq_eq_false_iff_ne]; omega
    clear HR h1
    generalize Lib.itoa (x : Int) = X at *
    generalize Lib.itoa (y : Int) = Y at *
    go_enter Tryz.func97, Tryz.ntmps97
    go_wp2_with fail
    refine HG.out.mono ?_
    rintro e w1 ⟨rfl, hq1⟩
    go_wp2_with fail
    refine (HD1.out _).mono ?_
    rintro e w2 ⟨rfl, hq2⟩
    have hQ2 := Q.trans hq1 hq2
    go_wp2_with fail
    refine (HD2.out _).mono ?_
    rintro e w3 ⟨rfl, hq3⟩
    have hQ3 := Q.trans hQ2 hq3
    go_wp2
    go_ret
    exact ⟨by rw [HW.out]; first | rfl | (simp; done), hQ3⟩

end Go.Proofs.YtgkikkabmcihhaaGreatDoor

namespace Go.Proofs.YtgkikkabmcihhaaGreatDoor
open Go.RowKit Kp
open Go.Lib (decDigits)

theorem unsig_parts (a : Str) : unsig (numPart a) = numPart (unsig a) ∧ ((numPart a).head? = some 45 ↔ a.head? = some 45) ∧ hasSlash (unsig a) = hasSlash a ∧ denPart (unsig a) = denPart a := by
  cases a with
  | nil => exact ⟨rfl, Iff.rfl, rfl, rfl⟩
  | cons c r =>
    by_cases h : c = 45
    · subst h
      have e1 : numPart (45 :: r) = 45 :: numPart r := by unfold numPart; rw [List.takeWhile_cons, if_pos (by decide)]
      have e2 : unsig (45 :: r) = r := rfl
      rw [e1, e2]
      refine ⟨rfl, by simp, ?_, ?_⟩
      · unfold hasSlash; simp
      · unfold denPart; rw [List.dropWhile_cons, if_pos (by decide)]
    · have hu : unsig (c :: r) = c :: r := unsig_same (by simpa using h)
      rw [hu]
      have e : (numPart (c :: r)).head? ≠ some 45 := by
        unfold numPart; rw [List.takeWhile_cons]; split <;> simp [h]
      exact ⟨unsig_same e, ⟨fun x => absurd x e, fun x => absurd (by simpa using x) h⟩, rfl, rfl⟩

theorem digOK_false (s : Str) : digOK s = false ↔ (digN s = 0 ∨ digN s < s.length) := by
  unfold digOK; rw [decide_eq_false_iff_not]
  constructor <;> (intro h; omega)
theorem digOK_itoa (n : Nat) : digOK (Lib.itoa (n : Int)) = true := by
  rw [← dec_eq_itoa, digOK_iff]
  refine ⟨decDigits_ne n, decDigits_dig n, fun h => ?_⟩
  rcases Nat.eq_zero_or_pos n with h0 | h0
  · rw [h0]; simp [decDigits]
  · exact absurd h (decDigits_head n h0)

theorem chk_ways (a n d : Str) (f mi : Bool) (hn : n = numPart (unsig a)) (hd : d = denCut (unsig a)) (hf : f = hasSlash (unsig a)) (hm : mi = decide (a.head? = some 45)) :
    (rchk a = 11 ∧ (digOK n = false ∨ (digOK n = true ∧ f = true ∧ digOK d = false) ∨ (digOK n = true ∧ f = true ∧ digOK d = true ∧ d = [48]) ∨ (digOK n = true ∧ f = true ∧ digOK d = true ∧ d ≠ [48] ∧ d = [49]) ∨
      (digOK n = true ∧ f = true ∧ digOK d = true ∧ d ≠ [48] ∧ d ≠ [49] ∧ mi = true ∧ n = [48]) ∨ (digOK n = true ∧ f = false ∧ mi = true ∧ n = [48]))) ∨
    (digOK n = true ∧ (mi = true → n ≠ [48]) ∧
      ((f = false ∧ d = [] ∧ ((300 < n.length ∧ rchk a = 4) ∨ (n.length ≤ 300 ∧ rchk a = 0))) ∨
       (f = true ∧ digOK d = true ∧ d ≠ [48] ∧ d ≠ [49] ∧ ((300 < n.length ∧ rchk a = 4) ∨ (n.length ≤ 300 ∧ 300 < d.length ∧ rchk a = 4) ∨
         (n.length ≤ 300 ∧ d.length ≤ 300 ∧ ∃ x k : Nat, n = Lib.itoa (x : Int) ∧ d = Lib.itoa (k : Int) ∧ lim (x : Int) = false ∧ lim (k : Int) = false ∧ rchk a = if Nat.gcd x k = 1 then 0 else 11))))) := by
  obtain ⟨e1, e2, e3, e4⟩ := unsig_parts a
  have hb := rbad_iff a
  rw [e1, ← hn, e2] at hb
  have hfs : f = hasSlash a := by rw [hf, e3]
  have hdp : hasSlash a = true → denPart a = d := by intro h; rw [hd]; unfold denCut; rw [e3, if_pos h, e4]
  have hdn : hasSlash a = false → d = [] := by intro h; rw [hd]; unfold denCut; rw [e3, h]; rfl
  have h11 : rbad a → rchk a = 11 := by intro h; unfold rchk; rw [if_pos h]
  by_cases hbad : rbad a
  · refine .inl ⟨h11 hbad, ?_⟩
    cases hA : digOK n with
    | false => exact .inl rfl
    | true =>
      have hA2 : ¬ (digN n = 0 ∨ digN n < n.length) := fun x => by rw [← digOK_false, hA] at x; cases x
      cases f with
      | false =>
        rcases hb.1 hbad with (h | h | h) | h
        · exact absurd (.inl h) hA2
        · exact absurd (.inr h) hA2
        · exact .inr (.inr (.inr (.inr (.inr ⟨rfl, rfl, by rw [hm]; simpa using h.1, h.2⟩))))
        · rw [← hfs] at h; cases h.1
      | true =>
        rw [hdp hfs.symm] at hb
        cases hB : digOK d with
        | false => exact .inr (.inl ⟨rfl, rfl, rfl⟩)
        | true =>
          have hB2 : ¬ (digN d = 0 ∨ digN d < d.length) := fun x => by rw [← digOK_false, hB] at x; cases x
          by_cases h48 : d = [48]
          · exact .inr (.inr (.inl ⟨rfl, rfl, rfl, h48⟩))
          · by_cases h49 : d = [49]
            · exact .inr (.inr (.inr (.inl ⟨rfl, rfl, rfl, h48, h49⟩)))
            · rcases hb.1 hbad with (h | h | h) | ⟨-, h | h | h | h⟩
              · exact absurd (.inl h) hA2
              · exact absurd (.inr h) hA2
              · exact .inr (.inr (.inr (.inr (.inl ⟨rfl, rfl, rfl, h48, h49, by rw [hm]; simpa using h.1, h.2⟩))))
              · exact absurd (.inl h) hB2
              · exact absurd (.inr h) hB2
              · exact absurd h h48
              · exact absurd h h49
  · have hA : digOK n = true := by
      cases hA : digOK n with
      | true => rfl
      | false =>
        refine absurd (hb.2 (.inl ?_)) hbad
        rcases (digOK_false n).1 hA with h | h
        · exact .inl h
        · exact .inr (.inl h)
    refine .inr ⟨hA, fun hmi e => hbad (hb.2 (.inl (.inr (.inr ⟨by rw [hm] at hmi; simpa using hmi, e⟩)))), ?_⟩
    cases f with
    | false =>
      refine .inl ⟨rfl, hdn hfs.symm, ?_⟩
      have hds : denStr a = [49] := by unfold denStr; rw [← hfs]; rfl
      have hw := read_ways a hbad
      rw [e1, ← hn, hds] at hw
      rcases hw with ⟨hr, -, h1⟩ | ⟨hr, -, h1, h2⟩ | ⟨h1, h2, z, k, hk, hz, hkk, lz, lk, hr⟩
      · exact .inl ⟨h1, hr⟩
      · simp at h2
      · refine .inr ⟨h1, ?_⟩
        rw [← itoa_one] at hkk
        have hk1 : k = 1 := by have := itoa_inj hkk; omega
        rw [hr, hk1, if_pos (Nat.gcd_one_right _)]
    | true =>
      have hds : denStr a = d := by unfold denStr; rw [← hfs, if_pos rfl]; exact hdp hfs.symm
      rw [hdp hfs.symm] at hb
      have hB : digOK d = true := by
        cases hB : digOK d with
        | true => rfl
        | false =>
          refine absurd (hb.2 (.inr ⟨hfs.symm, ?_⟩)) hbad
          rcases (digOK_false d).1 hB with h | h
          · exact .inl h
          · exact .inr (.inl h)
      have h48 : d ≠ [48] := fun h => hbad (hb.2 (.inr ⟨hfs.symm, .inr (.inr (.inl h))⟩))
      have h49 : d ≠ [49] := fun h => hbad (hb.2 (.inr ⟨hfs.symm, .inr (.inr (.inr h))⟩))
      refine .inr ⟨rfl, hB, h48, h49, ?_⟩
      have hw := read_ways a hbad
      rw [hds] at hw
      rcases hw with ⟨hr, -, h1⟩ | ⟨hr, -, h1, h2⟩ | ⟨h1, h2, z, k, hk, hz, hkk, lz, lk, hr⟩
      · rw [e1, ← hn] at h1
        exact .inl ⟨h1, hr⟩
      · rw [e1, ← hn] at h1
        exact .inr (.inl ⟨h1, h2, hr⟩)
      · have hn2 : n = Lib.itoa (z.natAbs : Int) := by rw [hn, ← e1, hz, unsig_itoa, dec_eq_itoa]
        rw [e1, ← hn] at h1
        exact .inr (.inr ⟨h1, h2, z.natAbs, k, hn2, hkk, lim_le lz (by omega), lk, hr⟩)

theorem itoa_small9 {x : Nat} (h : (Lib.itoa (x : Int)).length ≤ 9) : x < 1000000000 := by
  have h1 := abs_lt_len (x : Int)
  have h2 : 10 ^ (Lib.itoa (x : Int)).length ≤ 10 ^ 9 := Nat.pow_le_pow_right (by decide) h
  have e : (10 : Nat) ^ 9 = 1000000000 := by decide
  omega

set_option maxHeartbeats 4000000 in
theorem ref02_Check (a : Str) (hl : a.length ≤ 1000000000) (w : World) (hE : Env w) :
    Calls Tryz.prog 94 #[.string ⟨a.toArray⟩] w fun e w' => e = .returned (.int .i64 (rchk a)) ∧ Q w w' := by
  have HSP := Lib.hid (ref02_split a hl w)
  unfold splitV at HSP
  have hul := unsig_len a
  have hw := chk_ways a _ _ _ _ rfl rfl rfl rfl
  have hnl : (numPart (unsig a)).length ≤ 1000000000 := by have := numPart_len (unsig a); omega
  have hdl : (denCut (unsig a)).length ≤ 1000000000 := by
    have := denPart_len (unsig a)
    unfold denCut; split
    · omega
    · simp
  generalize rchk a = R at *
  generalize numPart (unsig a) = n at *
  generalize denCut (unsig a) = d at *
  generalize hasSlash (unsig a) = f at *
  generalize decide (a.head? = some 45) = mi at *
  have HDN := Lib.hid (ref02_digits n hnl)
  have HDD := Lib.hid (ref02_digits d hdl)
  have wrong : ∀ s t : Str, (s = t → (s == t) = true) ∧ (s ≠ t → (s == t) = false) := fun s t => ⟨fun h => by rw [beq_iff_eq]; exact h, fun h => by rw [beq_eq_false_iff_ne]; exact h⟩
  rcases hw with ⟨rfl, hw⟩ | ⟨h1, h2, hw⟩
  · rcases hw with h1 | ⟨h1, rfl, h3⟩ | ⟨h1, rfl, h3, h4⟩ | ⟨h1, rfl, h3, h4, h5⟩ | ⟨h1, rfl, h3, h4, h5, rfl, h7⟩ | ⟨h1, rfl, rfl, h4⟩
    · rw [h1] at HDN
      clear h1 HDD wrong
      go_enter Tryz.func94, Tryz.ntmps94
      go_wp2_with fail
      refine HSP.out.mono ?_
      rintro e w1 ⟨rfl, hqr⟩
      go_wp2_with fail
      refine (HDN.out _).mono ?_
      rintro e w2 ⟨rfl, rfl⟩
      go_wp2
      go_ret
      exact ⟨rfl, hqr⟩
    · rw [h1] at HDN
      rw [h3] at HDD
      clear h1 h3 wrong
      go_enter Tryz.func94, Tryz.ntmps94
      go_wp2_with fail
      refine HSP.out.mono ?_
      rintro e w1 ⟨rfl, hqr⟩
      go_wp2_with fail
      refine (HDN.out _).mono ?_
      rintro e w2 ⟨rfl, rfl⟩
      go_wp2_with fail
      refine (HDD.out _).mono ?_
      rintro e w2 ⟨rfl, rfl⟩
      go_wp2
      go_ret
      exact ⟨rfl, hqr⟩
    · have b4 := (wrong d [48]).1 h4
      rw [h1] at HDN
      rw [h3] at HDD
      clear h1 h3 wrong h4
      go_enter Tryz.func94, Tryz.ntmps94
      go_wp2_with fail
      refine HSP.out.mono ?_
      rintro e w1 ⟨rfl, hqr⟩
      go_wp2_with fail
      refine (HDN.out _).mono ?_
      rintro e w2 ⟨rfl, rfl⟩
      go_wp2_with fail
      refine (HDD.out _).mono ?_
      rintro e w2 ⟨rfl, rfl⟩
      go_wp2
      go_ret
      exact ⟨rfl, hqr⟩
    · have b4 := (wrong d [48]).2 h4
      have b5 := (wrong d [49]).1 h5
      rw [h1] at HDN
      rw [h3] at HDD
      clear h1 h3 wrong h4 h5
      go_enter Tryz.func94, Tryz.ntmps94
      go_wp2_with fail
      refine HSP.out.mono ?_
      rintro e w1 ⟨rfl, hqr⟩
      go_wp2_with fail
      refine (HDN.out _).mono ?_
      rintro e w2 ⟨rfl, rfl⟩
      go_wp2_with fail
      refine (HDD.out _).mono ?_
      rintro e w2 ⟨rfl, rfl⟩
      go_wp2
      go_ret
      exact ⟨rfl, hqr⟩
    · have b4 := (wrong d [48]).2 h4
      have b5 := (wrong d [49]).2 h5
      have b7 := (wrong n [48]).1 h7
      rw [h1] at HDN
      rw [h3] at HDD
      clear h1 h3 wrong h4 h5 h7
      go_enter Tryz.func94, Tryz.ntmps94
      go_wp2_with fail
      refine HSP.out.mono ?_
      rintro e w1 ⟨rfl, hqr⟩
      go_wp2_with fail
      refine (HDN.out _).mono ?_
      rintro e w2 ⟨rfl, rfl⟩
      go_wp2_with fail
      refine (HDD.out _).mono ?_
      rintro e w2 ⟨rfl, rfl⟩
      go_wp2
      go_ret
      exact ⟨rfl, hqr⟩
    · have b7 := (wrong n [48]).1 h4
      rw [h1] at HDN
      clear h1 wrong h4 HDD
      go_enter Tryz.func94, Tryz.ntmps94
      go_wp2_with fail
      refine HSP.out.mono ?_
      rintro e w1 ⟨rfl, hqr⟩
      go_wp2_with fail
      refine (HDN.out _).mono ?_
      rintro e w2 ⟨rfl, rfl⟩
      go_wp2
      go_ret
      exact ⟨rfl, hqr⟩
  · rw [h1] at HDN
    have hn48 : mi = false ∨ (mi = true ∧ (n == [48]) = false) := by
      cases mi with
      | false => exact .inl rfl
      | true => exact .inr ⟨rfl, (wrong n [48]).2 (h2 rfl)⟩
    clear h1 h2
    rcases hw with ⟨rfl, rfl, hw⟩ | ⟨rfl, h3, h4, h5, hw⟩
    · clear HDD wrong
      rcases hw with ⟨hlen, rfl⟩ | ⟨hlen, rfl⟩
      · have hlen' : (300 : Int) < (n.length : Int) := by omega
        clear hlen
        rcases hn48 with rfl | ⟨rfl, hb⟩
        all_goals
          go_enter Tryz.func94, Tryz.ntmps94
          go_wp2_with fail
          refine HSP.out.mono ?_
          rintro e w1 ⟨rfl, hqr⟩
          go_wp2_with fail
          refine (HDN.out _).mono ?_
          rintro e w2 ⟨rfl, rfl⟩
          go_wp2
          go_ret
          exact ⟨rfl, hqr⟩
      · have hlen' : ¬ (300 : Int) < (n.length : Int) := by omega
        clear hlen
        rcases hn48 with rfl | ⟨rfl, hb⟩
        all_goals
          go_enter Tryz.func94, Tryz.ntmps94
          go_wp2_with fail
          refine HSP.out.mono ?_
          rintro e w1 ⟨rfl, hqr⟩
          go_wp2_with fail
          refine (HDN.out _).mono ?_
          rintro e w2 ⟨rfl, rfl⟩
          go_wp2
          go_ret
          exact ⟨rfl, hqr⟩
    · have b4 := (wrong d [48]).2 h4
      have b5 := (wrong d [49]).2 h5
      rw [h3] at HDD
      clear h3 h4 h5
      rcases hw with ⟨hlen, rfl⟩ | ⟨hlen, hlen2, rfl⟩ | ⟨hlen, hlen2, x, k, rfl, rfl, lx, lk, hr⟩
      · have hlen' : (300 : Int) < (n.length : Int) := by omega
        clear hlen wrong
        rcases hn48 with rfl | ⟨rfl, hb⟩
        all_goals
          go_enter Tryz.func94, Tryz.ntmps94
          go_wp2_with fail
          refine HSP.out.mono ?_
          rintro e w1 ⟨rfl, hqr⟩
          go_wp2_with fail
          refine (HDN.out _).mono ?_
          rintro e w2 ⟨rfl, rfl⟩
          go_wp2_with fail
          refine (HDD.out _).mono ?_
          rintro e w2 ⟨rfl, rfl⟩
          go_wp2
          go_ret
          exact ⟨rfl, hqr⟩
      · have hlen' : ¬ (300 : Int) < (n.length : Int) := by omega
        have hlen2' : (300 : Int) < (d.length : Int) := by omega
        clear hlen hlen2 wrong
        rcases hn48 with rfl | ⟨rfl, hb⟩
        all_goals
          go_enter Tryz.func94, Tryz.ntmps94
          go_wp2_with fail
          refine HSP.out.mono ?_
          rintro e w1 ⟨rfl, hqr⟩
          go_wp2_with fail
          refine (HDN.out _).mono ?_
          rintro e w2 ⟨rfl, rfl⟩
          go_wp2_with fail
          refine (HDD.out _).mono ?_
          rintro e w2 ⟨rfl, rfl⟩
          go_wp2
          go_ret
          exact ⟨rfl, hqr⟩
      · have hlen' : ¬ (300 : Int) < ((Lib.itoa (x : Int)).length : Int) := by omega
        have hlen2' : ¬ (300 : Int) < ((Lib.itoa (k : Int)).length : Int) := by omega
        by_cases h9 : (Lib.itoa (x : Int)).length ≤ 9 ∧ (Lib.itoa (k : Int)).length ≤ 9
        · have h9a : ((Lib.itoa (x : Int)).length : Int) ≤ 9 := by omega
          have h9b : ((Lib.itoa (k : Int)).length : Int) ≤ 9 := by omega
          have bx := itoa_small9 h9.1
          have bk := itoa_small9 h9.2
          have hs1 := fun w => ref02_small (Lib.itoa (x : Int)) (by rw [← dec_eq_itoa]; exact decDigits_dig x) (by omega) w
          have hs2 := fun w => ref02_small (Lib.itoa (k : Int)) (by rw [← dec_eq_itoa]; exact decDigits_dig k) (by omega) w
          have e1 : nval (Lib.itoa (x : Int)) = x := by rw [← dec_eq_itoa, nval_decDigits]
          have e2 : nval (Lib.itoa (k : Int)) = k := by rw [← dec_eq_itoa, nval_decDigits]
          rw [e1] at hs1
          rw [e2] at hs2
          have HS1 := Lib.hid hs1
          have HS2 := Lib.hid hs2
          have HG := Lib.hid (fun w => ref02_gcd x k w (by omega) (by omega))
          have hR : ((((Nat.gcd x k : Nat) : Int) == 1) = true ∧ R = 0) ∨ ((((Nat.gcd x k : Nat) : Int) == 1) = false ∧ R = 11) := by
            by_cases h : Nat.gcd x k = 1
            · rw [if_pos h] at hr; exact .inl ⟨by rw [beq_iff_eq]; omega, hr⟩
            · rw [if_neg h] at hr; exact .inr ⟨by rw [beq_eq_false_iff_ne]; omega, hr⟩
          clear hr
          generalize Nat.gcd x k = g at *
          generalize Lib.itoa (x : Int) = n at *
          generalize Lib.itoa (k : Int) = d at *
          clear hs1 hs2 e1 e2 h9 hlen hlen2 wrong lx lk
          rcases hR with ⟨hg1, rfl⟩ | ⟨hg1, rfl⟩
          all_goals
            first | have hg2 := bne_of_t hg1 | have hg2 := bne_of_f hg1
            rcases hn48 with rfl | ⟨rfl, hb⟩
            all_goals
              go_enter Tryz.func94, Tryz.ntmps94
              go_wp2_with fail
              refine HSP.out.mono ?_
              rintro e w1 ⟨rfl, hqr⟩
              go_wp2_with fail
              refine (HDN.out _).mono ?_
              rintro e w2 ⟨rfl, rfl⟩
              go_wp2_with fail
              refine (HDD.out _).mono ?_
              rintro e w2 ⟨rfl, rfl⟩
              go_wp2_with fail
              refine (HS1.out _).mono ?_
              rintro e w2 ⟨rfl, rfl⟩
              go_wp2_with fail
              refine (HS2.out _).mono ?_
              rintro e w2 ⟨rfl, rfl⟩
              go_wp2_with fail
              refine (HG.out _).mono ?_
              rintro e w2 ⟨rfl, hq2⟩
              replace hq2 := Q.trans hqr hq2
              go_wp2
              go_ret
              exact ⟨rfl, hq2⟩
        · have h9' : ¬ ((Lib.itoa (x : Int)).length : Int) ≤ 9 ∨ (((Lib.itoa (x : Int)).length : Int) ≤ 9 ∧ ¬ ((Lib.itoa (k : Int)).length : Int) ≤ 9) := by omega
          have HG := Lib.hid (fun w hw => ref01_Gcd x k lx lk w hw)
          have hR : ((Lib.itoa (Nat.gcd x k : Int) == [49]) = true ∧ R = 0) ∨ ((Lib.itoa (Nat.gcd x k : Int) == [49]) = false ∧ R = 11) := by
            by_cases h : Nat.gcd x k = 1
            · rw [if_pos h] at hr; exact .inl ⟨by rw [h, show ((1 : Nat) : Int) = 1 from rfl, itoa_one]; rfl, hr⟩
            · rw [if_neg h] at hr; exact .inr ⟨by rw [beq_eq_false_iff_ne, ← itoa_one]; exact fun e => h (by have := itoa_inj e; omega), hr⟩
          clear hr
          generalize Lib.itoa (Nat.gcd x k : Int) = G at *
          generalize Lib.itoa (x : Int) = n at *
          generalize Lib.itoa (k : Int) = d at *
          clear h9 hlen hlen2 wrong lx lk
          rcases hR with ⟨hg1, rfl⟩ | ⟨hg1, rfl⟩
          all_goals
            first | have hg2 := bne_of_t hg1 | have hg2 := bne_of_f hg1
            rcases hn48 with rfl | ⟨rfl, hb⟩
            all_goals
              rcases h9' with h9a | ⟨h9a, h9b⟩
              all_goals
                go_enter Tryz.func94, Tryz.ntmps94
                go_wp2_with fail
                refine HSP.out.mono ?_
                rintro e w1 ⟨rfl, hqr⟩
                go_wp2_with fail
                refine (HDN.out _).mono ?_
                rintro e w2 ⟨rfl, rfl⟩
                go_wp2_with fail
                refine (HDD.out _).mono ?_
                rintro e w2 ⟨rfl, rfl⟩
                go_wp2_with fail
                refine (HG.out _ (hE.q hqr)).mono ?_
                rintro e w2 ⟨rfl, hq2⟩
                replace hq2 := Q.trans hqr hq2
                go_wp2
                go_ret
                exact ⟨rfl, hq2⟩

end Go.Proofs.YtgkikkabmcihhaaGreatDoor

namespace Go.Proofs.YtgkikkabmcihhaaGreatDoor
open Go.RowKit Kp
open Go.Lib (decDigits)

/-- The denominator's text; empty, if there is none. -/
def denT (q : Rat) : Str := if q.den = 1 then [] else Lib.itoa (q.den : Int)
theorem splitV_rstr (q : Rat) : splitV (rstr q) = .tuple #[.bool (decide (q.num < 0)), .string ⟨(Lib.itoa (q.num.natAbs : Int)).toArray⟩, .string ⟨(denT q).toArray⟩, .bool (decide (q.den ≠ 1))] := by
  obtain ⟨e1, e2, e3, e4⟩ := unsig_parts (rstr q)
  have h1 : numPart (unsig (rstr q)) = Lib.itoa (q.num.natAbs : Int) := by rw [← e1, numPart_rstr, unsig_itoa, dec_eq_itoa]
  have h2 : decide ((rstr q).head? = some 45) = decide (q.num < 0) := by
    rw [decide_eq_decide]
    unfold rstr; split
    · have := head_itoa q.num []
      rw [List.append_nil] at this
      exact this
    · exact head_itoa q.num _
  have h3 : hasSlash (unsig (rstr q)) = decide (q.den ≠ 1) ∧ denCut (unsig (rstr q)) = denT q := by
    unfold denCut denT
    rw [e3, e4]
    unfold rstr
    by_cases h : q.den = 1
    · rw [if_pos h, if_pos h, hasSlash_whole]; simp [h]
    · rw [if_neg h, if_neg h, hasSlash_frac, if_pos rfl, denPart_frac, dec_eq_itoa]; simp [h]
  unfold splitV
  rw [h1, h2, h3.1, h3.2]

def Short9 (q : Rat) : Prop := q.num.natAbs < 1000000000 ∧ q.den < 1000000000
theorem itoa9 (x : Nat) : (Lib.itoa (x : Int)).length ≤ 9 ↔ x < 1000000000 := by
  rw [← dec_eq_itoa, decDigits_len_le _ 9 (by decide)]
theorem itoa_dig (x : Nat) : AllDig (Lib.itoa (x : Int)) := by rw [← dec_eq_itoa]; exact decDigits_dig x
theorem nval_itoa (x : Nat) : nval (Lib.itoa (x : Int)) = x := by rw [← dec_eq_itoa, nval_decDigits]

set_option maxHeartbeats 1000000 in
theorem ref02_ints_small (q : Rat) (h : Short9 q) (w : World) :
    Calls Tryz.prog 101 #[.string ⟨(rstr q).toArray⟩] w fun e w' => e = .returned (.tuple #[.int .i64 q.num, .int .i64 (q.den : Int), .bool true]) ∧ Q w w' := by
  obtain ⟨h1, h2⟩ := h
  have hlim : rlim q = false := Bd.rlim (n := 9) ⟨by rw [show (10 : Nat) ^ 9 = 1000000000 by decide]; exact h1, by rw [show (10 : Nat) ^ 9 = 1000000000 by decide]; exact h2⟩ (by decide)
  have HSP := Lib.hid (ref02_split (rstr q) (by have := rstr_len hlim; omega) w)
  rw [splitV_rstr] at HSP
  have l1 := (itoa9 q.num.natAbs).2 h1
  have l1' : ((Lib.itoa (q.num.natAbs : Int)).length : Int) ≤ 9 := by omega
  have hs1 := fun w => ref02_small (Lib.itoa (q.num.natAbs : Int)) (itoa_dig _) (by omega) w
  rw [nval_itoa] at hs1
  have HS1 := Lib.hid hs1
  have hsg : (decide (q.num < 0) = true ∧ q.num = -(q.num.natAbs : Int)) ∨ (decide (q.num < 0) = false ∧ q.num = (q.num.natAbs : Int)) := by
    by_cases hn : q.num < 0
    · exact .inl ⟨by simpa using hn, by omega⟩
    · exact .inr ⟨by simpa using hn, by omega⟩
  by_cases hd : q.den = 1
  · have e1 : denT q = [] := by unfold denT; rw [if_pos hd]
    have e2 : decide (q.den ≠ 1) = false := by simp [hd]
    rw [e1, e2] at HSP
    rw [hd]
    clear hlim hs1 e1 e2 l1 hd
    generalize decide (q.num < 0) = mi at *
    generalize q.num.natAbs = x at *
    generalize q.num = z at *
    generalize rstr q = a at *
    generalize Lib.itoa (x : Int) = X at *
    rcases hsg with ⟨rfl, rfl⟩ | ⟨rfl, rfl⟩
    all_goals
      go_enter Tryz.func101, Tryz.ntmps101
      go_wp2_with fail
      refine HSP.out.mono ?_
      rintro e w1 ⟨rfl, hq0⟩
      go_wp2_with fail
      refine (HS1.out _).mono ?_
      rintro e w2 ⟨rfl, rfl⟩
      go_wp2
      go_ret3
      exact ⟨rfl, hq0⟩
  · have e1 : denT q = Lib.itoa (q.den : Int) := by unfold denT; rw [if_neg hd]
    have e2 : decide (q.den ≠ 1) = true := by simp [hd]
    have l2 := (itoa9 q.den).2 h2
    have l2' : ((Lib.itoa (q.den : Int)).length : Int) ≤ 9 := by omega
    have hs2 := fun w => ref02_small (Lib.itoa (q.den : Int)) (itoa_dig _) (by omega) w
    rw [nval_itoa] at hs2
    have HS2 := Lib.hid hs2
    rw [e1, e2] at HSP
    clear hlim hs1 hs2 e1 e2 l1 l2 hd
    generalize decide (q.num < 0) = mi at *
    generalize q.num.natAbs = x at *
    generalize q.num = z at *
    generalize rstr q = a at *
    generalize q.den = y at *
    generalize Lib.itoa (x : Int) = X at *
    generalize Lib.itoa (y : Int) = Y at *
    rcases hsg with ⟨rfl, rfl⟩ | ⟨rfl, rfl⟩
    all_goals
      go_enter Tryz.func101, Tryz.ntmps101
      go_wp2_with fail
      refine HSP.out.mono ?_
      rintro e w1 ⟨rfl, hq0⟩
      go_wp2_with fail
      refine (HS1.out _).mono ?_
      rintro e w2 ⟨rfl, rfl⟩
      go_wp2_with fail
      refine (HS2.out _).mono ?_
      rintro e w2 ⟨rfl, rfl⟩
      go_wp2
      go_ret3
      exact ⟨rfl, hq0⟩

set_option maxHeartbeats 1000000 in
theorem ref02_ints_long (q : Rat) (h : ¬ Short9 q) (hlim : rlim q = false) (w : World) :
    Calls Tryz.prog 101 #[.string ⟨(rstr q).toArray⟩] w fun e w' => e = .returned (.tuple #[.int .i64 0, .int .i64 0, .bool false]) ∧ Q w w' := by
  have HSP := Lib.hid (ref02_split (rstr q) (by have := rstr_len hlim; omega) w)
  rw [splitV_rstr] at HSP
  have hw : (9 : Int) < ((Lib.itoa (q.num.natAbs : Int)).length : Int) ∨ (¬ (9 : Int) < ((Lib.itoa (q.num.natAbs : Int)).length : Int) ∧ (9 : Int) < ((denT q).length : Int)) := by
    have i1 := itoa9 q.num.natAbs
    have i2 := itoa9 q.den
    by_cases h1 : q.num.natAbs < 1000000000
    · have h2 : ¬ q.den < 1000000000 := fun e => h ⟨h1, e⟩
      have l1 := i1.2 h1
      refine .inr ⟨by omega, ?_⟩
      unfold denT
      rw [if_neg (by omega)]
      have : ¬ (Lib.itoa (q.den : Int)).length ≤ 9 := fun e => h2 (i2.1 e)
      omega
    · exact .inl (by have : ¬ (Lib.itoa (q.num.natAbs : Int)).length ≤ 9 := fun e => h1 (i1.1 e)
                     omega)
  clear hlim h
  generalize decide (q.num < 0) = mi at *
  generalize decide (q.den ≠ 1) = f at *
  generalize denT q = D at *
  generalize rstr q = a at *
  generalize Lib.itoa (q.num.natAbs : Int) = X at *
  rcases hw with hw | ⟨hw, hw2⟩
  all_goals
    go_enter Tryz.func101, Tryz.ntmps101
    go_wp2_with fail
    refine HSP.out.mono ?_
    rintro e w1 ⟨rfl, hq0⟩
    go_wp2
    go_ret3
    exact ⟨rfl, hq0⟩

/-- ints, where one of two numbers is long. -/
theorem ref02_ints_any (q : Rat) (hlim : rlim q = false) (w : World) :
    Calls Tryz.prog 101 #[.string ⟨(rstr q).toArray⟩] w fun e w' => (∃ (n d : Int) (f : Bool), e = .returned (.tuple #[.int .i64 n, .int .i64 d, .bool f]) ∧ (f = true → Short9 q)) ∧ Q w w' := by
  by_cases h : q.num.natAbs < 1000000000 ∧ q.den < 1000000000
  · refine (ref02_ints_small q h w).mono ?_
    rintro e w' ⟨rfl, hq⟩
    exact ⟨⟨_, _, true, rfl, fun _ => h⟩, hq⟩
  · refine (ref02_ints_long q h hlim w).mono ?_
    rintro e w' ⟨rfl, hq⟩
    exact ⟨⟨_, _, false, rfl, fun e => by cases e⟩, hq⟩

set_option maxHeartbeats 1000000 in
theorem ref02_parts (q : Rat) (hlim : rlim q = false) (w : World) :
    Calls Tryz.prog 102 #[.string ⟨(rstr q).toArray⟩] w fun e w' => e = .returned (.tuple #[.string ⟨(Lib.itoa q.num).toArray⟩, .string ⟨(Lib.itoa (q.den : Int)).toArray⟩]) ∧ Q w w' := by
  have HSP := Lib.hid (ref02_split (rstr q) (by have := rstr_len hlim; omega) w)
  rw [splitV_rstr] at HSP
  obtain ⟨ln, ld⟩ := rlim_parts hlim
  have l1 := itoa_len (q.num.natAbs : Int) (lim_le ln (by omega))
  have hsg : (decide (q.num < 0) = true ∧ Lib.itoa q.num = 45 :: Lib.itoa (q.num.natAbs : Int)) ∨ (decide (q.num < 0) = false ∧ Lib.itoa q.num = Lib.itoa (q.num.natAbs : Int)) := by
    by_cases hn : q.num < 0
    · exact .inl ⟨by simpa using hn, by rw [itoa_neg hn, dec_eq_itoa]⟩
    · exact .inr ⟨by simpa using hn, by rw [show ((q.num.natAbs : Nat) : Int) = q.num by omega]⟩
  have hdt : (decide (q.den ≠ 1) = true ∧ denT q = Lib.itoa (q.den : Int)) ∨ (decide (q.den ≠ 1) = false ∧ Lib.itoa (q.den : Int) = [49]) := by
    by_cases hd : q.den = 1
    · exact .inr ⟨by simp [hd], by rw [hd]; exact itoa_one⟩
    · exact .inl ⟨by simp [hd], by unfold denT; rw [if_neg hd]⟩
  clear hlim ln ld
  generalize decide (q.num < 0) = mi at *
  generalize decide (q.den ≠ 1) = f at *
  generalize denT q = D at *
  generalize rstr q = a at *
  generalize Lib.itoa (q.num.natAbs : Int) = X at *
  generalize Lib.itoa q.num = Z at *
  generalize Lib.itoa (q.den : Int) = Y at *
  rcases hsg with ⟨rfl, rfl⟩ | ⟨rfl, rfl⟩
  all_goals
    rcases hdt with ⟨rfl, rfl⟩ | ⟨rfl, rfl⟩
    all_goals
      go_enter Tryz.func102, Tryz.ntmps102
      go_wp2_with fail
      refine HSP.out.mono ?_
      rintro e w1 ⟨rfl, hq0⟩
      go_wp2
      go_ret2
      exact ⟨rfl, hq0⟩

theorem nat_lens {x : Nat} (h : lim (x : Int) = false) : at0 (Lib.itoa (x : Int)) 0 ≠ 45 ∧ 0 < (Lib.itoa (x : Int)).length ∧ (Lib.itoa (x : Int)).length ≤ 300 := by
  rcases itoa_first (x : Int) h with ⟨h1, -⟩ | ⟨-, h1, h2, -, h3, -⟩
  · omega
  · exact ⟨h1, h2, h3⟩
theorem itoa18 {x : Nat} (h : (Lib.itoa (x : Int)).length ≤ 18) : x < 1000000000000000000 := by
  rw [← dec_eq_itoa, decDigits_len_le _ 18 (by decide)] at h
  have e : (10 : Nat) ^ 18 = 1000000000000000000 := by decide
  omega

set_option maxHeartbeats 2000000 in
theorem ref02_make2 (n k : Nat) (hk : 0 < k) (ln : lim (n : Int) = false) (lk : lim (k : Int) = false) (w : World) (hE : Env w) :
    Calls Tryz.prog 98 #[.string ⟨(Lib.itoa (n : Int)).toArray⟩, .string ⟨(Lib.itoa (k : Int)).toArray⟩] w fun e w' => e = .returned (.tuple #[.string ⟨(rstr (Rat.divInt n k)).toArray⟩, .int .i64 0]) ∧ Q w w' := by
  obtain ⟨a1, a2, a3⟩ := nat_lens ln
  obtain ⟨b1, b2, b3⟩ := nat_lens lk
  have a1' := ne45 a1
  have b1' := ne45 b1
  have a2' : (0 : Int) < ((Lib.itoa (n : Int)).length : Int) := by omega
  have b2' : (0 : Int) < ((Lib.itoa (k : Int)).length : Int) := by omega
  by_cases h18 : (Lib.itoa (n : Int)).length ≤ 18 ∧ (Lib.itoa (k : Int)).length ≤ 18
  · have c1 : ((Lib.itoa (n : Int)).length : Int) ≤ 18 := by omega
    have c2 : ((Lib.itoa (k : Int)).length : Int) ≤ 18 := by omega
    have bn := itoa18 h18.1
    have bk := itoa18 h18.2
    have hs1 := fun w => ref02_small (Lib.itoa (n : Int)) (itoa_dig _) h18.1 w
    have hs2 := fun w => ref02_small (Lib.itoa (k : Int)) (itoa_dig _) h18.2 w
    rw [nval_itoa] at hs1 hs2
    have HS1 := Lib.hid hs1
    have HS2 := Lib.hid hs2
    have HQ := Lib.hid (ref02_quick_pos n k hk (by omega) (by omega) w)
    generalize rstr (Rat.divInt n k) = R at *
    generalize Lib.itoa (n : Int) = X at *
    generalize Lib.itoa (k : Int) = Y at *
    clear hs1 hs2 h18 a1 b1
    go_enter Tryz.func98, Tryz.ntmps98
    go_wp2_with fail
    refine (HS1.out _).mono ?_
    rintro e w1 ⟨rfl, rfl⟩
    go_wp2_with fail
    refine (HS2.out _).mono ?_
    rintro e w2 ⟨rfl, rfl⟩
    go_wp2_with fail
    refine HQ.out.mono ?_
    rintro e w3 ⟨rfl, hq⟩
    go_wp2
    go_ret2
    exact ⟨rfl, hq⟩
  · have h18' : ¬ ((Lib.itoa (n : Int)).length : Int) ≤ 18 ∨ (((Lib.itoa (n : Int)).length : Int) ≤ 18 ∧ ¬ ((Lib.itoa (k : Int)).length : Int) ≤ 18) := by omega
    obtain ⟨p1, p2, -⟩ := gcd_div_pos (n := n) hk
    have hr := rstr_divInt (n : Int) k hk
    rw [Int.natAbs_natCast, Int.tdiv_eq_ediv_of_nonneg (by omega), ← Int.natCast_ediv, ← Int.natCast_ediv] at hr
    have HR := Lib.hid hr
    clear hr
    generalize rstr (Rat.divInt n k) = R at *
    have hgk : Nat.gcd n k ≤ k := Nat.le_of_dvd hk (Nat.gcd_dvd_right ..)
    have HG := Lib.hid (ref01_Gcd n k ln lk w hE)
    generalize Nat.gcd n k = g at *
    have q1 : n / g ≤ n := Nat.div_le_self ..
    have q2 : k / g ≤ k := Nat.div_le_self ..
    have lg : lim (g : Int) = false := lim_le lk (by omega)
    have hd1 := fun w hw => ref01_Divide (n : Int) (g : Int) (by omega) (by omega) ln lg w hw
    have hd2 := fun w hw => ref01_Divide (k : Int) (g : Int) (by omega) (by omega) lk lg w hw
    rw [← Int.natCast_ediv] at hd1 hd2
    generalize n / g = x at *
    generalize k / g = y at *
    have l1 : lim (x : Int) = false := lim_le ln (by omega)
    have l2 : lim (y : Int) = false := lim_le lk (by omega)
    have HD1 := Lib.hid hd1
    have HD2 := Lib.hid hd2
    obtain ⟨m1, m2, m3⟩ := nat_lens l1
    obtain ⟨m4, m5, m6⟩ := nat_lens l2
    have m1' := ne45 m1
    have m2' : (0 : Int) < ((Lib.itoa (x : Int)).length : Int) := by omega
    have m3' : ¬ (300 : Int) < ((Lib.itoa (x : Int)).length : Int) := by omega
    have m6' : ¬ (300 : Int) < ((Lib.itoa (y : Int)).length : Int) := by omega
    have hway : ((Lib.itoa (y : Int) == [49]) = true ∧ R = Lib.itoa (x : Int)) ∨ ((Lib.itoa (y : Int) == [49]) = false ∧ R = Lib.itoa (x : Int) ++ 47 :: Lib.itoa (y : Int)) := by
      by_cases h1 : y = 1
      · exact .inl ⟨by rw [h1, show ((1 : Nat) : Int) = 1 from rfl, itoa_one]; rfl, by rw [HR.out, if_pos (by omega)]⟩
      · exact .inr ⟨by rw [beq_eq_false_iff_ne, ← itoa_one]; exact fun e => h1 (by have := itoa_inj e; omega), by rw [HR.out, if_neg (by omega)]⟩
    clear HR hd1 hd2 m1 m4 h18 a1 b1 l1 l2 lg ln lk q1 q2 p1 p2 hgk hk
    generalize Lib.itoa ((n : Int) % (g : Int)) = M1 at *
    generalize Lib.itoa ((k : Int) % (g : Int)) = M2 at *
    generalize Lib.itoa (x : Int) = N1 at *
    generalize Lib.itoa (y : Int) = K1 at *
    generalize Lib.itoa (g : Int) = G at *
    generalize Lib.itoa (n : Int) = X at *
    generalize Lib.itoa (k : Int) = Y at *
    rcases h18' with c1 | ⟨c1, c2⟩
    all_goals
      rcases hway with ⟨h1, HW⟩ | ⟨h1, HW⟩
      all_goals
        have HW2 := Lib.hid HW
        clear HW
        go_enter Tryz.func98, Tryz.ntmps98
        go_wp2_with fail
        refine HG.out.mono ?_
        rintro e w1 ⟨rfl, hq1⟩
        go_wp2_with fail
        refine (HD1.out _ (hE.q hq1)).mono ?_
        rintro e w2 ⟨rfl, hq2⟩
        have hQ2 := Q.trans hq1 hq2
        go_wp2_with fail
        refine (HD2.out _ (hE.q hQ2)).mono ?_
        rintro e w3 ⟨rfl, hq3⟩
        have hQ3 := Q.trans hQ2 hq3
        go_wp2
        go_ret2
        exact ⟨by rw [HW2.out]; first | rfl | (simp; done), hQ3⟩

set_option maxHeartbeats 400000 in
theorem ref02_products (a b c d : Int) (hab : a < 0 ↔ b < 0) (hcd : c < 0 ↔ d < 0) (la : lim a = false) (lb : lim b = false) (lc : lim c = false) (ld : lim d = false) (h1 : lim (a * b) = false) (h2 : lim (c * d) = false) (w : World) (hE : Env w) :
    Calls Tryz.prog 157 #[.string ⟨(Lib.itoa a).toArray⟩, .string ⟨(Lib.itoa b).toArray⟩, .string ⟨(Lib.itoa c).toArray⟩, .string ⟨(Lib.itoa d).toArray⟩] w fun e w' => e = .returned (.tuple #[.string ⟨(Lib.itoa (a * b)).toArray⟩, .string ⟨(Lib.itoa (c * d)).toArray⟩, .int .i64 0]) ∧ Q w w' := by
  have H1 := Lib.hid (ref01_Mul a b hab la lb h1 w hE)
  have H2 := Lib.hid (fun w hw => ref01_Mul c d hcd lc ld h2 w hw)
  generalize Lib.itoa (a * b) = AB at *
  generalize Lib.itoa (c * d) = CD at *
  generalize Lib.itoa a = A at *
  generalize Lib.itoa b = B at *
  generalize Lib.itoa c = C at *
  generalize Lib.itoa d = D at *
  go_enter Tryz.func157, Tryz.ntmps157
  go_wp2_with fail
  refine H1.out.mono ?_
  rintro e w1 ⟨rfl, hq1⟩
  go_wp2_with fail
  refine (H2.out _ (hE.q hq1)).mono ?_
  rintro e w2 ⟨rfl, hq2⟩
  have hQ2 := Q.trans hq1 hq2
  go_wp2
  go_ret3
  exact ⟨rfl, hQ2⟩

set_option maxHeartbeats 400000 in
theorem ref02_mul (n d m c : Int) (X Y : Nat) (hX : n * m = X) (hY : d * c = Y) (hY0 : 0 < Y) (hnm : n < 0 ↔ m < 0) (hdc : d < 0 ↔ c < 0) (ln : lim n = false) (ld : lim d = false) (lm : lim m = false) (lc : lim c = false) (h1 : lim (X : Int) = false) (h2 : lim (Y : Int) = false) (w : World) (hE : Env w) :
    Calls Tryz.prog 103 #[.string ⟨(Lib.itoa n).toArray⟩, .string ⟨(Lib.itoa d).toArray⟩, .string ⟨(Lib.itoa m).toArray⟩, .string ⟨(Lib.itoa c).toArray⟩] w fun e w' => e = .returned (.tuple #[.string ⟨(rstr (Rat.divInt X Y)).toArray⟩, .int .i64 0]) ∧ Q w w' := by
  have H1 := Lib.hid (ref02_products n m d c hnm hdc ln lm ld lc (by rw [hX]; exact h1) (by rw [hY]; exact h2) w hE)
  rw [hX, hY] at H1
  have H2 := Lib.hid (fun w hw => ref02_make2 X Y hY0 h1 h2 w hw)
  clear hX hY
  generalize rstr (Rat.divInt X Y) = R at *
  generalize Lib.itoa (X : Int) = XX at *
  generalize Lib.itoa (Y : Int) = YY at *
  generalize Lib.itoa n = A at *
  generalize Lib.itoa d = B at *
  generalize Lib.itoa m = C at *
  generalize Lib.itoa c = D at *
  go_enter Tryz.func103, Tryz.ntmps103
  go_wp2_with fail
  refine H1.out.mono ?_
  rintro e w1 ⟨rfl, hq1⟩
  go_wp2_with fail
  refine (H2.out _ (hE.q hq1)).mono ?_
  rintro e w2 ⟨rfl, hq2⟩
  have hQ2 := Q.trans hq1 hq2
  go_wp2
  go_ret2
  exact ⟨rfl, hQ2⟩

end Go.Proofs.YtgkikkabmcihhaaGreatDoor

namespace Go.Proofs.YtgkikkabmcihhaaGreatDoor
open Go.RowKit Kp
open Go.Lib (decDigits)

theorem ref02_Check_num (q : Rat) (h : rlim q = false) (w : World) (hE : Env w) :
    Calls Tryz.prog 94 #[.string ⟨(rstr q).toArray⟩] w fun e w' => e = .returned (.int .i64 0) ∧ Q w w' := by
  have H := ref02_Check (rstr q) (by have := rstr_len h; omega) w hE
  rw [rchk_rstr, h] at H
  exact H

set_option maxHeartbeats 400000 in
theorem ref02_check (x y : Rat) (hx : rlim x = false) (hy : rlim y = false) (w : World) (hE : Env w) :
    Calls Tryz.prog 100 #[.string ⟨(rstr x).toArray⟩, .string ⟨(rstr y).toArray⟩] w fun e w' => e = .returned (.int .i64 0) ∧ Q w w' := by
  have H1 := Lib.hid (ref02_Check_num x hx w hE)
  have H2 := Lib.hid (fun w hw => ref02_Check_num y hy w hw)
  generalize rstr x = X at *
  generalize rstr y = Y at *
  go_enter Tryz.func100, Tryz.ntmps100
  go_wp2_with fail
  refine H1.out.mono ?_
  rintro e w1 ⟨rfl, hq1⟩
  go_wp2_with fail
  refine (H2.out _ (hE.q hq1)).mono ?_
  rintro e w2 ⟨rfl, hq2⟩
  have hQ2 := Q.trans hq1 hq2
  go_wp2
  go_ret
  exact ⟨rfl, hQ2⟩

set_option maxHeartbeats 400000 in
theorem ref02_Parts (q : Rat) (h : rlim q = false) (w : World) (hE : Env w) :
    Calls Tryz.prog 161 #[.string ⟨(rstr q).toArray⟩] w fun e w' => e = .returned (.tuple #[.string ⟨(Lib.itoa q.num).toArray⟩, .string ⟨(Lib.itoa (q.den : Int)).toArray⟩, .int .i64 0]) ∧ Q w w' := by
  have H1 := Lib.hid (ref02_Check_num q h w hE)
  have H2 := Lib.hid (fun w => ref02_parts q h w)
  generalize rstr q = X at *
  generalize Lib.itoa q.num = Y at *
  generalize Lib.itoa (q.den : Int) = Z at *
  go_enter Tryz.func161, Tryz.ntmps161
  go_wp2_with fail
  refine H1.out.mono ?_
  rintro e w1 ⟨rfl, hq1⟩
  go_wp2_with fail
  refine (H2.out _).mono ?_
  rintro e w2 ⟨rfl, hq2⟩
  have hQ2 := Q.trans hq1 hq2
  go_wp2
  go_ret3
  exact ⟨rfl, hQ2⟩

set_option maxHeartbeats 400000 in
theorem ref02_Of_pos (k d : Nat) (hk : k ≤ 1000000000000) (hd0 : 0 < d) (hd : d ≤ 1000000000000) (w : World) :
    Calls Tryz.prog 48 #[.int .i64 k, .int .i64 d] w fun e w' => e = .returned (.tuple #[.string ⟨(rstr (Rat.divInt (k : Int) (d : Int))).toArray⟩, .int .i64 0]) ∧ Q w w' := by
  have H1 := Lib.hid (ref02_quick_pos k d hd0 (by omega) (by omega) w)
  generalize rstr (Rat.divInt (k : Int) (d : Int)) = X at *
  have f1 : (-4611686018427387904 : Int) < (k : Int) := by omega
  have f2 : (k : Int) < 4611686018427387904 := by omega
  have f3 : (0 : Int) < (d : Int) := by omega
  have f4 : (d : Int) < 4611686018427387904 := by omega
  have f5 : ((d : Int) == 0) = false := by rw [beq_eq_false_iff_ne]; omega
  generalize (k : Int) = a at *
  generalize (d : Int) = b at *
  clear hk hd hd0
  go_enter Tryz.func48, Tryz.ntmps48
  go_wp2_with fail
  refine H1.out.mono ?_
  rintro e w1 ⟨rfl, hq1⟩
  go_wp2
  go_ret2
  exact ⟨rfl, hq1⟩
theorem ref02_Of_one (k : Nat) (hk : k ≤ 1000000) (w : World) :
    Calls Tryz.prog 48 #[.int .i64 k, .int .i64 1] w fun e w' => e = .returned (.tuple #[.string ⟨(rstr (Rat.divInt (k : Int) (1 : Nat))).toArray⟩, .int .i64 0]) ∧ Q w w' :=
  ref02_Of_pos k 1 (by omega) (by decide) (by decide) w

theorem mul9 {a b : Nat} (ha : a < 1000000000) (hb : b < 1000000000) : a * b < 1000000000000000000 := by
  have h : a * b ≤ 999999999 * 999999999 := Nat.mul_le_mul (by omega) (by omega)
  omega

set_option maxHeartbeats 1000000 in
theorem ref02_Mul (x y : Rat) (hxy : x.num < 0 ↔ y.num < 0) (hx : rlim x = false) (hy : rlim y = false) (h1 : lim (x.num * y.num) = false) (h2 : lim ((x.den : Int) * y.den) = false) (w : World) (hE : Env w) :
    Calls Tryz.prog 95 #[.string ⟨(rstr x).toArray⟩, .string ⟨(rstr y).toArray⟩] w fun e w' => e = .returned (.tuple #[.string ⟨(rstr (x * y)).toArray⟩, .int .i64 0]) ∧ Q w w' := by
  obtain ⟨s1, s2⟩ := natAbs_mul_same hxy
  have hdy : (x.den : Int) * (y.den : Int) = ((x.den * y.den : Nat) : Int) := by simp
  have hny : x.num * y.num = ((x.num.natAbs * y.num.natAbs : Nat) : Int) := by rw [← s1]; simp
  have hv : Rat.divInt ((x.num.natAbs * y.num.natAbs : Nat) : Int) ((x.den * y.den : Nat) : Int) = x * y := by rw [← hny, ← hdy, Rat.mul_is]
  have hk : 0 < x.den * y.den := Nat.mul_pos x.den_pos y.den_pos
  have HC := Lib.hid (ref02_check x y hx hy w hE)
  by_cases hs : Short9 x ∧ Short9 y
  · obtain ⟨⟨b1, b2⟩, b3, b4⟩ := hs
    have m1 := mul9 b1 b3
    have m2 := mul9 b2 b4
    have HI1 := Lib.hid (fun w => ref02_ints_small x ⟨b1, b2⟩ w)
    have HI2 := Lib.hid (fun w => ref02_ints_small y ⟨b3, b4⟩ w)
    have HQ := Lib.hid (fun w => ref02_quick_pos (x.num.natAbs * y.num.natAbs) (x.den * y.den) hk (by omega) (by omega) w)
    rw [hv, ← hny, ← hdy] at HQ
    have hw1 := Go.IntWalk.i64_in (x.num * y.num) (by omega)
    have hw2 := Go.IntWalk.i64_in ((x.den : Int) * (y.den : Int)) (by omega)
    clear hv hk s1 s2 hny hdy m1 m2 b1 b2 b3 b4 h1 h2
    generalize rstr (x * y) = R at *
    generalize rstr x = X at *
    generalize rstr y = Y at *
    generalize x.num = n at *
    generalize y.num = m at *
    generalize (x.den : Int) = d at *
    generalize (y.den : Int) = c at *
    go_enter Tryz.func95, Tryz.ntmps95
    go_wp2_with fail
    refine HC.out.mono ?_
    rintro e w1 ⟨rfl, hq1⟩
    go_wp2_with fail
    refine (HI1.out _).mono ?_
    rintro e w2 ⟨rfl, hq2⟩
    have hQ2 := Q.trans hq1 hq2
    go_wp2_with fail
    refine (HI2.out _).mono ?_
    rintro e w3 ⟨rfl, hq3⟩
    have hQ3 := Q.trans hQ2 hq3
    go_wp2_with fail
    refine (HQ.out _).mono ?_
    rintro e w4 ⟨rfl, hq4⟩
    have hQ4 := Q.trans hQ3 hq4
    go_wp2
    go_ret2
    exact ⟨rfl, hQ4⟩
  · have HI1 := Lib.hid (fun w => ref02_ints_any x hx w)
    have HI2 := Lib.hid (fun w => ref02_ints_any y hy w)
    have HN := Lib.hid hs
    obtain ⟨lx1, lx2⟩ := rlim_parts hx
    obtain ⟨ly1, ly2⟩ := rlim_parts hy
    have HP1 := Lib.hid (fun w => ref02_parts x hx w)
    have HP2 := Lib.hid (fun w => ref02_parts y hy w)
    have hM := fun w hw => ref02_mul x.num (x.den : Int) y.num (y.den : Int) _ _ hny hdy hk hxy (by omega) lx1 lx2 ly1 ly2 (by rw [← hny]; exact h1) (by rw [← hdy]; exact h2) w hw
    rw [hv] at hM
    have HM := Lib.hid hM
    clear hM hv hk s1 s2 hny hdy hs lx1 lx2 ly1 ly2 h1 h2
    generalize rstr (x * y) = R at *
    generalize rstr x = X at *
    generalize rstr y = Y at *
    generalize Lib.itoa x.num = n at *
    generalize Lib.itoa y.num = m at *
    generalize Lib.itoa (x.den : Int) = d at *
    generalize Lib.itoa (y.den : Int) = c at *
    go_enter Tryz.func95, Tryz.ntmps95
    go_wp2_with fail
    refine HC.out.mono ?_
    rintro e w1 ⟨rfl, hq1⟩
    go_wp2_with fail
    refine (HI1.out _).mono ?_
    rintro e w2 ⟨⟨n1, d1, f1, rfl, hf1⟩, hq2⟩
    have hQ2 := Q.trans hq1 hq2
    go_wp2_with fail
    refine (HI2.out _).mono ?_
    rintro e w3 ⟨⟨n2, d2, f2, rfl, hf2⟩, hq3⟩
    have hQ3 := Q.trans hQ2 hq3
    have hff : f1 = false ∨ (f1 = true ∧ f2 = false) := by
      cases f1 with
      | false => exact .inl rfl
      | true =>
        cases f2 with
        | false => exact .inr ⟨rfl, rfl⟩
        | true => exact absurd ⟨hf1 rfl, hf2 rfl⟩ HN.out
    clear hf1 hf2 HN
    rcases hff with rfl | ⟨rfl, rfl⟩
    all_goals
      go_wp2_with fail
      refine (HP1.out _).mono ?_
      rintro e w4 ⟨rfl, hq4⟩
      have hQ4 := Q.trans hQ3 hq4
      go_wp2_with fail
      refine (HP2.out _).mono ?_
      rintro e w5 ⟨rfl, hq5⟩
      have hQ5 := Q.trans hQ4 hq5
      go_wp2_with fail
      refine (HM.out _ (hE.q hQ5)).mono ?_
      rintro e w6 ⟨rfl, hq6⟩
      have hQ6 := Q.trans hQ5 hq6
      go_wp2
      go_ret2
      exact ⟨rfl, hQ6⟩

set_option maxHeartbeats 1000000 in
theorem ref02_Div (x y : Rat) (hx0 : 0 ≤ x.num) (hy0 : 0 < y.num) (hx : rlim x = false) (hy : rlim y = false) (h1 : lim (x.num * (y.den : Int)) = false) (h2 : lim ((x.den : Int) * y.num) = false) (w : World) (hE : Env w) :
    Calls Tryz.prog 49 #[.string ⟨(rstr x).toArray⟩, .string ⟨(rstr y).toArray⟩] w fun e w' => e = .returned (.tuple #[.string ⟨(rstr (x / y)).toArray⟩, .int .i64 0]) ∧ Q w w' := by
  obtain ⟨xn, hxn⟩ := Int.eq_ofNat_of_zero_le hx0
  obtain ⟨yn, hyn⟩ := Int.eq_ofNat_of_zero_le (Int.le_of_lt hy0)
  have hny : x.num * (y.den : Int) = ((xn * y.den : Nat) : Int) := by rw [hxn]; simp
  have hdy : (x.den : Int) * y.num = ((x.den * yn : Nat) : Int) := by rw [hyn]; simp
  have hv : Rat.divInt ((xn * y.den : Nat) : Int) ((x.den * yn : Nat) : Int) = x / y := by rw [← hny, ← hdy, ← Rat.div_is, Int.mul_comm (x.den : Int)]
  have hk : 0 < x.den * yn := Nat.mul_pos x.den_pos (by omega)
  have HC := Lib.hid (ref02_check x y hx hy w hE)
  have hy48 : (rstr y == [48]) = false := by
    rw [beq_eq_false_iff_ne]
    intro e
    have e2 : rstr y = rstr 0 := by rw [e, rstr_zero]
    rw [rstr_inj e2] at hy0
    exact absurd hy0 (by decide)
  by_cases hs : Short9 x ∧ Short9 y
  · obtain ⟨⟨b1, b2⟩, b3, b4⟩ := hs
    have m1 := mul9 (a := xn) (b := y.den) (by omega) b4
    have m2 := mul9 (a := x.den) (b := yn) b2 (by omega)
    have HI1 := Lib.hid (fun w => ref02_ints_small x ⟨b1, b2⟩ w)
    have HI2 := Lib.hid (fun w => ref02_ints_small y ⟨b3, b4⟩ w)
    have HQ := Lib.hid (fun w => ref02_quick_pos (xn * y.den) (x.den * yn) hk (by omega) (by omega) w)
    rw [hv, ← hny, ← hdy] at HQ
    have hw1 := Go.IntWalk.i64_in (x.num * (y.den : Int)) (by omega)
    have hw2 := Go.IntWalk.i64_in ((x.den : Int) * y.num) (by omega)
    have hm0 : ¬ y.num < 0 := by omega
    clear hv hk hny hdy m1 m2 b1 b2 b3 b4 h1 h2 hxn hyn hx0 hy0
    generalize rstr (x / y) = R at *
    generalize rstr x = X at *
    generalize rstr y = Y at *
    generalize x.num = n at *
    generalize y.num = m at *
    generalize (x.den : Int) = d at *
    generalize (y.den : Int) = c at *
    go_enter Tryz.func49, Tryz.ntmps49
    go_wp2_with fail
    refine HC.out.mono ?_
    rintro e w1 ⟨rfl, hq1⟩
    go_wp2_with fail
    refine (HI1.out _).mono ?_
    rintro e w2 ⟨rfl, hq2⟩
    have hQ2 := Q.trans hq1 hq2
    go_wp2_with fail
    refine (HI2.out _).mono ?_
    rintro e w3 ⟨rfl, hq3⟩
    have hQ3 := Q.trans hQ2 hq3
    go_wp2_with fail
    refine (HQ.out _).mono ?_
    rintro e w4 ⟨rfl, hq4⟩
    have hQ4 := Q.trans hQ3 hq4
    go_wp2
    go_ret2
    exact ⟨rfl, hQ4⟩
  · have HI1 := Lib.hid (fun w => ref02_ints_any x hx w)
    have HI2 := Lib.hid (fun w => ref02_ints_any y hy w)
    have HN := Lib.hid hs
    obtain ⟨lx1, lx2⟩ := rlim_parts hx
    obtain ⟨ly1, ly2⟩ := rlim_parts hy
    have HP1 := Lib.hid (fun w => ref02_parts x hx w)
    have HP2 := Lib.hid (fun w => ref02_parts y hy w)
    have hM := fun w hw => ref02_mul x.num (x.den : Int) (y.den : Int) y.num _ _ hny hdy hk (by omega) (by omega) lx1 lx2 ly2 ly1 (by rw [← hny]; exact h1) (by rw [← hdy]; exact h2) w hw
    rw [hv] at hM
    have HM := Lib.hid hM
    clear hM hv hk hny hdy hs lx1 lx2 ly1 ly2 h1 h2 hxn hyn hx0 hy0
    generalize rstr (x / y) = R at *
    generalize rstr x = X at *
    generalize rstr y = Y at *
    generalize Lib.itoa x.num = n at *
    generalize Lib.itoa y.num = m at *
    generalize Lib.itoa (x.den : Int) = d at *
    generalize Lib.itoa (y.den : Int) = c at *
    go_enter Tryz.func49, Tryz.ntmps49
    go_wp2_with fail
    refine HC.out.mono ?_
    rintro e w1 ⟨rfl, hq1⟩
    go_wp2_with fail
    refine (HI1.out _).mono ?_
    rintro e w2 ⟨⟨n1, d1, f1, rfl, hf1⟩, hq2⟩
    have hQ2 := Q.trans hq1 hq2
    go_wp2_with fail
    refine (HI2.out _).mono ?_
    rintro e w3 ⟨⟨n2, d2, f2, rfl, hf2⟩, hq3⟩
    have hQ3 := Q.trans hQ2 hq3
    have hff : f1 = false ∨ (f1 = true ∧ f2 = false) := by
      cases f1 with
      | false => exact .inl rfl
      | true =>
        cases f2 with
        | false => exact .inr ⟨rfl, rfl⟩
        | true => exact absurd ⟨hf1 rfl, hf2 rfl⟩ HN.out
    clear hf1 hf2 HN
    rcases hff with rfl | ⟨rfl, rfl⟩
    all_goals
      go_wp2_with fail
      refine (HP1.out _).mono ?_
      rintro e w4 ⟨rfl, hq4⟩
      have hQ4 := Q.trans hQ3 hq4
      go_wp2_with fail
      refine (HP2.out _).mono ?_
      rintro e w5 ⟨rfl, hq5⟩
      have hQ5 := Q.trans hQ4 hq5
      go_wp2_with fail
      refine (HM.out _ (hE.q hQ5)).mono ?_
      rintro e w6 ⟨rfl, hq6⟩
      have hQ6 := Q.trans hQ5 hq6
      go_wp2
      go_ret2
      exact ⟨rfl, hQ6⟩

set_option maxHeartbeats 1000000 in
theorem ref02_add (x y : Rat) (hx0 : 0 ≤ x.num) (hy0 : 0 ≤ y.num) (hx : rlim x = false) (hy : rlim y = false) (h1 : lim (x.num * (y.den : Int)) = false) (h2 : lim (y.num * (x.den : Int)) = false) (h3 : lim (x.num * (y.den : Int) + y.num * (x.den : Int)) = false) (h4 : lim ((x.den : Int) * y.den) = false) (w : World) (hE : Env w) :
    Calls Tryz.prog 154 #[.string ⟨(rstr x).toArray⟩, .string ⟨(rstr y).toArray⟩] w fun e w' => e = .returned (.tuple #[.string ⟨(rstr (x + y)).toArray⟩, .int .i64 0]) ∧ Q w w' := by
  obtain ⟨xn, hxn⟩ := Int.eq_ofNat_of_zero_le hx0
  obtain ⟨yn, hyn⟩ := Int.eq_ofNat_of_zero_le hy0
  have hsum : x.num * (y.den : Int) + y.num * (x.den : Int) = ((xn * y.den + yn * x.den : Nat) : Int) := by rw [hxn, hyn]; simp
  have hdy : (x.den : Int) * (y.den : Int) = ((x.den * y.den : Nat) : Int) := by simp
  have hv : Rat.divInt ((xn * y.den + yn * x.den : Nat) : Int) ((x.den * y.den : Nat) : Int) = x + y := by rw [← hsum, ← hdy, Rat.add_is]
  have hk : 0 < x.den * y.den := Nat.mul_pos x.den_pos y.den_pos
  by_cases hs : Short9 x ∧ Short9 y
  · obtain ⟨⟨b1, b2⟩, b3, b4⟩ := hs
    have m1 := mul9 (a := xn) (b := y.den) (by omega) b4
    have m2 := mul9 (a := yn) (b := x.den) (by omega) b2
    have m3 := mul9 b2 b4
    have e1 : x.num * (y.den : Int) = ((xn * y.den : Nat) : Int) := by rw [hxn]; simp
    have e2 : y.num * (x.den : Int) = ((yn * x.den : Nat) : Int) := by rw [hyn]; simp
    have HI1 := Lib.hid (fun w => ref02_ints_small x ⟨b1, b2⟩ w)
    have HI2 := Lib.hid (fun w => ref02_ints_small y ⟨b3, b4⟩ w)
    have HQ := Lib.hid (fun w => ref02_quick_pos (xn * y.den + yn * x.den) (x.den * y.den) hk (by omega) (by omega) w)
    rw [hv, ← hsum, ← hdy] at HQ
    have hw1 := Go.IntWalk.i64_in (x.num * (y.den : Int)) (by omega)
    have hw2 := Go.IntWalk.i64_in (y.num * (x.den : Int)) (by omega)
    have hw3 := Go.IntWalk.i64_in ((x.den : Int) * (y.den : Int)) (by omega)
    have hw4 := Go.IntWalk.i64_in (x.num * (y.den : Int) + y.num * (x.den : Int)) (by omega)
    clear hv hk hsum hdy m1 m2 m3 b1 b2 b3 b4 h1 h2 h3 h4 hxn hyn e1 e2 hx0 hy0
    generalize rstr (x + y) = R at *
    generalize rstr x = X at *
    generalize rstr y = Y at *
    generalize x.num = n at *
    generalize y.num = m at *
    generalize (x.den : Int) = d at *
    generalize (y.den : Int) = c at *
    go_enter Tryz.func154, Tryz.ntmps154
    go_wp2_with fail
    refine (HI1.out _).mono ?_
    rintro e w1 ⟨rfl, hq1⟩
    go_wp2_with fail
    refine (HI2.out _).mono ?_
    rintro e w2 ⟨rfl, hq2⟩
    have hQ2 := Q.trans hq1 hq2
    go_wp2_with fail
    refine (HQ.out _).mono ?_
    rintro e w3 ⟨rfl, hq3⟩
    have hQ3 := Q.trans hQ2 hq3
    go_wp2
    go_ret2
    exact ⟨rfl, hQ3⟩
  · have HI1 := Lib.hid (fun w => ref02_ints_any x hx w)
    have HI2 := Lib.hid (fun w => ref02_ints_any y hy w)
    have HN := Lib.hid hs
    obtain ⟨lx1, lx2⟩ := rlim_parts hx
    obtain ⟨ly1, ly2⟩ := rlim_parts hy
    have HP1 := Lib.hid (fun w => ref02_parts x hx w)
    have HP2 := Lib.hid (fun w => ref02_parts y hy w)
    have HM1 := Lib.hid (fun w hw => ref02_products x.num (y.den : Int) y.num (x.den : Int) (by omega) (by omega) lx1 ly2 ly1 lx2 h1 h2 w hw)
    have hM2 := fun w hw => ref02_products (x.den : Int) (y.den : Int) 1 1 (by omega) (by omega) lx2 ly2 lim_one lim_one h4 lim_one w hw
    rw [Int.mul_one, itoa_one] at hM2
    have HM2 := Lib.hid hM2
    have HA := Lib.hid (fun w hw => ref01_Add (x.num * (y.den : Int)) (y.num * (x.den : Int)) (Int.mul_nonneg hx0 (by omega)) (Int.mul_nonneg hy0 (by omega)) h1 h2 h3 w hw)
    have hK := fun w hw => ref02_make2 (xn * y.den + yn * x.den) (x.den * y.den) hk (by rw [← hsum]; exact h3) (by rw [← hdy]; exact h4) w hw
    rw [hv, ← hsum, ← hdy] at hK
    have HK := Lib.hid hK
    clear hM2 hK hv hk hsum hdy hs lx1 lx2 ly1 ly2 h1 h2 h3 h4 hxn hyn hx0 hy0
    generalize rstr (x + y) = R at *
    generalize rstr x = X at *
    generalize rstr y = Y at *
    generalize Lib.itoa (x.num * (y.den : Int) + y.num * (x.den : Int)) = S at *
    generalize Lib.itoa (x.num * (y.den : Int)) = S1 at *
    generalize Lib.itoa (y.num * (x.den : Int)) = S2 at *
    generalize Lib.itoa ((x.den : Int) * (y.den : Int)) = S3 at *
    generalize Lib.itoa x.num = n at *
    generalize Lib.itoa y.num = m at *
    generalize Lib.itoa (x.den : Int) = d at *
    generalize Lib.itoa (y.den : Int) = c at *
    go_enter Tryz.func154, Tryz.ntmps154
    go_wp2_with fail
    refine (HI1.out _).mono ?_
    rintro e w1 ⟨⟨n1, d1, f1, rfl, hf1⟩, hq1⟩
    go_wp2_with fail
    refine (HI2.out _).mono ?_
    rintro e w2 ⟨⟨n2, d2, f2, rfl, hf2⟩, hq2⟩
    have hQ2 := Q.trans hq1 hq2
    have hff : f1 = false ∨ (f1 = true ∧ f2 = false) := by
      cases f1 with
      | false => exact .inl rfl
      | true =>
        cases f2 with
        | false => exact .inr ⟨rfl, rfl⟩
        | true => exact absurd ⟨hf1 rfl, hf2 rfl⟩ HN.out
    clear hf1 hf2 HN
    rcases hff with rfl | ⟨rfl, rfl⟩
    all_goals
      go_wp2_with fail
      refine (HP1.out _).mono ?_
      rintro e w3 ⟨rfl, hq3⟩
      have hQ3 := Q.trans hQ2 hq3
      go_wp2_with fail
      refine (HP2.out _).mono ?_
      rintro e w4 ⟨rfl, hq4⟩
      have hQ4 := Q.trans hQ3 hq4
      go_wp2_with fail
      refine (HM1.out _ (hE.q hQ4)).mono ?_
      rintro e w5 ⟨rfl, hq5⟩
      have hQ5 := Q.trans hQ4 hq5
      go_wp2_with fail
      refine (HM2.out _ (hE.q hQ5)).mono ?_
      rintro e w6 ⟨rfl, hq6⟩
      have hQ6 := Q.trans hQ5 hq6
      go_wp2_with fail
      refine (HA.out _ (hE.q hQ6)).mono ?_
      rintro e w7 ⟨rfl, hq7⟩
      have hQ7 := Q.trans hQ6 hq7
      go_wp2_with fail
      refine (HK.out _ (hE.q hQ7)).mono ?_
      rintro e w8 ⟨rfl, hq8⟩
      have hQ8 := Q.trans hQ7 hq8
      go_wp2
      go_ret2
      exact ⟨rfl, hQ8⟩

set_option maxHeartbeats 400000 in
theorem ref02_Add (x y : Rat) (hx0 : 0 ≤ x.num) (hy0 : 0 ≤ y.num) (hx : rlim x = false) (hy : rlim y = false) (h1 : lim (x.num * (y.den : Int)) = false) (h2 : lim (y.num * (x.den : Int)) = false) (h3 : lim (x.num * (y.den : Int) + y.num * (x.den : Int)) = false) (h4 : lim ((x.den : Int) * y.den) = false) (w : World) (hE : Env w) :
    Calls Tryz.prog 96 #[.string ⟨(rstr x).toArray⟩, .string ⟨(rstr y).toArray⟩] w fun e w' => e = .returned (.tuple #[.string ⟨(rstr (x + y)).toArray⟩, .int .i64 0]) ∧ Q w w' := by
  have HC := Lib.hid (ref02_check x y hx hy w hE)
  have HA := Lib.hid (fun w hw => ref02_add x y hx0 hy0 hx hy h1 h2 h3 h4 w hw)
  generalize rstr (x + y) = R at *
  generalize rstr x = X at *
  generalize rstr y = Y at *
  go_enter Tryz.func96, Tryz.ntmps96
  go_wp2_with fail
  refine HC.out.mono ?_
  rintro e w1 ⟨rfl, hq1⟩
  go_wp2_with fail
  refine (HA.out _ (hE.q hq1)).mono ?_
  rintro e w2 ⟨rfl, hq2⟩
  have hQ2 := Q.trans hq1 hq2
  go_wp2
  go_ret2
  exact ⟨rfl, hQ2⟩

set_option maxHeartbeats 1000000 in
/-- Compare of a number that is not negative with 0. -/
theorem ref02_Compare_zero (x : Rat) (hx0 : 0 ≤ x.num) (hx : rlim x = false) (w : World) (hE : Env w) :
    Calls Tryz.prog 158 #[.string ⟨(rstr x).toArray⟩, .string ⟨[48].toArray⟩] w fun e w' => e = .returned (.tuple #[.int .i64 (if x.num = 0 then 0 else 1), .int .i64 0]) ∧ Q w w' := by
  have r0 : rlim 0 = false := Bd.rlim (n := 1) ⟨by decide, by decide⟩ (by decide)
  have HC := Lib.hid (ref02_check x 0 hx r0 w hE)
  have HI2 := Lib.hid (fun w => ref02_ints_small 0 ⟨by decide, by decide⟩ w)
  rw [show ((0 : Rat)).num = 0 from rfl, show (((0 : Rat)).den : Int) = 1 from rfl] at HI2
  rw [rstr_zero] at HC HI2
  obtain ⟨r, hr⟩ : ∃ r : Int, (if x.num = 0 then (0 : Int) else 1) = r := ⟨_, rfl⟩
  rw [hr]
  have HR := Lib.hid hr
  clear hr
  by_cases hs : Short9 x
  · have b1 := hs.1
    have b2 := hs.2
    have HI1 := Lib.hid (fun w => ref02_ints_small x hs w)
    have hway : (x.num = 0 ∧ r = 0) ∨ (0 < x.num ∧ r = 1) := by
      by_cases h : x.num = 0
      · exact .inl ⟨h, by rw [← HR.out, if_pos h]⟩
      · exact .inr ⟨by omega, by rw [← HR.out, if_neg h]⟩
    clear HR hs hx
    generalize rstr x = X at *
    generalize x.num = n at *
    generalize x.den = d at *
    rcases hway with ⟨rfl, rfl⟩ | ⟨h0, rfl⟩
    all_goals
      go_enter Tryz.func158, Tryz.ntmps158
      go_wp2_with fail
      refine HC.out.mono ?_
      rintro e w1 ⟨rfl, hq1⟩
      go_wp2_with fail
      refine (HI1.out _).mono ?_
      rintro e w2 ⟨rfl, hq2⟩
      have hQ2 := Q.trans hq1 hq2
      go_wp2_with fail
      refine (HI2.out _).mono ?_
      rintro e w3 ⟨rfl, hq3⟩
      have hQ3 := Q.trans hQ2 hq3
      go_wp2
      go_ret2
      exact ⟨rfl, hQ3⟩
  · have HI1 := Lib.hid (fun w => ref02_ints_long x hs hx w)
    obtain ⟨lx1, lx2⟩ := rlim_parts hx
    have l0 : lim 0 = false := lim_bd (n := 1) (by decide) (by decide)
    have HP1 := Lib.hid (fun w => ref02_parts x hx w)
    have hP2 := fun w => ref02_parts 0 r0 w
    rw [rstr_zero, show ((0 : Rat)).num = 0 from rfl, show (((0 : Rat)).den : Int) = 1 from rfl, itoa_zero, itoa_one] at hP2
    have HP2 := Lib.hid hP2
    have hM := fun w hw => ref02_products x.num 1 0 (x.den : Int) (by omega) (by omega) lx1 lim_one l0 lx2 (by rw [Int.mul_one]; exact lx1) (by rw [Int.zero_mul]; exact l0) w hw
    rw [Int.mul_one, Int.zero_mul, itoa_zero, itoa_one] at hM
    have HM := Lib.hid hM
    have HZ := Lib.hid (fun w => ref01_Compare_zero x.num hx0 lx1 w)
    rw [HR.out] at HZ
    clear HR hs hx lx1 lx2 hP2 hM
    generalize rstr x = X at *
    generalize Lib.itoa x.num = n at *
    generalize Lib.itoa (x.den : Int) = d at *
    go_enter Tryz.func158, Tryz.ntmps158
    go_wp2_with fail
    refine HC.out.mono ?_
    rintro e w1 ⟨rfl, hq1⟩
    go_wp2_with fail
    refine (HI1.out _).mono ?_
    rintro e w2 ⟨rfl, hq2⟩
    have hQ2 := Q.trans hq1 hq2
    go_wp2_with fail
    refine (HI2.out _).mono ?_
    rintro e w3 ⟨rfl, hq3⟩
    have hQ3 := Q.trans hQ2 hq3
    go_wp2_with fail
    refine (HP1.out _).mono ?_
    rintro e w4 ⟨rfl, hq4⟩
    have hQ4 := Q.trans hQ3 hq4
    go_wp2_with fail
    refine (HP2.out _).mono ?_
    rintro e w5 ⟨rfl, hq5⟩
    have hQ5 := Q.trans hQ4 hq5
    go_wp2_with fail
    refine (HM.out _ (hE.q hQ5)).mono ?_
    rintro e w6 ⟨rfl, hq6⟩
    have hQ6 := Q.trans hQ5 hq6
    go_wp2_with fail
    refine (HZ.out _).mono ?_
    rintro e w7 ⟨rfl, hq7⟩
    have hQ7 := Q.trans hQ6 hq7
    go_wp2
    go_ret2
    exact ⟨rfl, hQ7⟩

end Go.Proofs.YtgkikkabmcihhaaGreatDoor

namespace Go.Proofs.YtgkikkabmcihhaaGreatDoor
open Go.RowKit Kp
open Go.Lib (decDigits)

set_option maxHeartbeats 400000 in
theorem ref03_size (z : Int) (hz : lim z = false) (w : World) :
    Calls Tryz.prog 234 #[.string ⟨(Lib.itoa z).toArray⟩] w fun e w' => e = .returned (.int .i64 ((Lib.itoa (z.natAbs : Int)).length : Int)) ∧ w' = w := by
  have hl := itoa_len z hz
  have hne : (Lib.itoa z == []) = false := by rw [beq_eq_false_iff_ne]; exact itoa_ne z
  have hne2 := bne_of_f hne
  have hway : ((((at0 (Lib.itoa z) 0).toNat : Int) == 45) = true ∧ ((Lib.itoa (z.natAbs : Int)).length : Int) = ((Lib.itoa z).length : Int) - 1) ∨ ((((at0 (Lib.itoa z) 0).toNat : Int) == 45) = false ∧ ((Lib.itoa (z.natAbs : Int)).length : Int) = ((Lib.itoa z).length : Int)) := by
    rcases itoa_first z hz with ⟨h1, h2, -⟩ | ⟨h1, h2, -⟩
    · refine .inl ⟨by rw [h2]; rfl, ?_⟩
      rw [itoa_neg h1, ← dec_eq_itoa, List.length_cons]; omega
    · exact .inr ⟨ne45 h2, by rw [show ((z.natAbs : Nat) : Int) = z by omega]⟩
  have hpos : (0 : Int) < ((Lib.itoa z).length : Int) := by
    have := List.length_pos_iff.2 (itoa_ne z); omega
  generalize Lib.itoa (z.natAbs : Int) = Y at *
  generalize Lib.itoa z = X at *
  rcases hway with ⟨h1, h2⟩ | ⟨h1, h2⟩
  all_goals
    have HW := Lib.hid h2
    clear h2
    go_enter Tryz.func234, Tryz.ntmps234
    go_wp2
    go_ret
    exact ⟨ret_int (by rw [HW.out]; all_goals rfl), rfl⟩

theorem itoa_len90 {z : Int} (h : (decDigits z.natAbs).length ≤ 90) : ¬ (90 : Int) < ((Lib.itoa (z.natAbs : Int)).length : Int) := by
  rw [← dec_eq_itoa]; omega

set_option maxHeartbeats 1000000 in
theorem ref03_check_one (q : Rat) (h : Root90 q) {rest : List Value} {cap : Nat} (b : Nat) (t : TypeId) (w : World) (hE : Env w) (hb : Blk w b (.string ⟨(rstr q).toArray⟩ :: rest) t) :
    Calls Tryz.prog 159 #[.slice (some ⟨b, 0, none⟩) 1 cap] w fun e w' => e = .returned (.int .i64 0) ∧ Q w w' := by
  have hlim := h.rlim
  obtain ⟨l1, l2⟩ := rlim_parts hlim
  have h9 := itoa_len90 (z := q.num) h.1
  have h8 := itoa_len90 (z := (q.den : Int)) (by rw [Int.natAbs_natCast]; exact h.2)
  have HC := Lib.hid (fun w hw => ref02_Check_num q hlim w hw)
  have HP := Lib.hid (fun w hw => ref02_Parts q hlim w hw)
  have HS1 := Lib.hid (fun w => ref03_size q.num l1 w)
  have HS2 := Lib.hid (fun w => ref03_size (q.den : Int) l2 w)
  have HBk := Lib.hid (fun w' (hq : Q w w') => hb.keep hq hb.lt)
  clear h hlim l1 l2
  generalize ((Lib.itoa (q.num.natAbs : Int)).length : Int) = k1 at *
  generalize ((Lib.itoa ((q.den : Int).natAbs : Int)).length : Int) = k2 at *
  generalize rstr q = S at *
  generalize Lib.itoa q.num = X at *
  generalize Lib.itoa (q.den : Int) = Y at *
  go_enter Tryz.func159, Tryz.ntmps159
  go_wp2
  go_loopw [3] (fun i wr => (i = .int .i64 0 ∨ i = .int .i64 1) ∧ Q w wr) (fun i _ => 1 - (intOf i).toNat)
  case atStart => exact ⟨.inl rfl, Below.refl _ _⟩
  case round =>
    obtain ⟨rfl | rfl, hQ⟩ := hrel
    · have c0 := (HBk.out wr hQ).cell 0
      simp only [List.getElem?_cons_zero] at c0
      go_wp2_with fail
      refine (HC.out _ (hE.q hQ)).mono ?_
      rintro e w1 ⟨rfl, hq1⟩
      have hQ1 := Q.trans hQ hq1
      have c0 := (HBk.out w1 hQ1).cell 0
      simp only [List.getElem?_cons_zero] at c0
      go_wp2_with fail
      refine (HP.out _ (hE.q hQ1)).mono ?_
      rintro e w2 ⟨rfl, hq2⟩
      have hQ2 := Q.trans hQ1 hq2
      go_wp2_with fail
      refine (HS1.out _).mono ?_
      rintro e w3 ⟨rfl, rfl⟩
      go_wp2_with fail
      refine (HS2.out _).mono ?_
      rintro e w3 ⟨rfl, rfl⟩
      go_wp2
      go_roundw
      case rel => exact ⟨.inr rfl, hQ2⟩
      case measure => simp [intOf]
    · go_wp2
      go_ret
      exact ⟨rfl, hQ⟩

set_option maxHeartbeats 400000 in
theorem ref03_sign_pos (q : Rat) (hq : 0 < q.num) (hl : rlim q = false) (w : World) :
    Calls Tryz.prog 160 #[.string ⟨(rstr q).toArray⟩] w fun e w' => e = .returned (.int .i64 1) ∧ w' = w := by
  have hne : (rstr q == [48]) = false := by
    rw [beq_eq_false_iff_ne]
    intro e
    have e2 : rstr q = rstr 0 := by rw [e, rstr_zero]
    rw [rstr_inj e2] at hq
    exact absurd hq (by decide)
  have hlen := rstr_len hl
  have h0 : rstr q ≠ [] := by
    unfold rstr; split
    · exact itoa_ne _
    · simp
  have h45 : (((at0 (rstr q) 0).toNat : Int) == 45) = false := ne45 (fun e => by
    have h1 : (rstr q).head? = some 45 := by rw [head_at0 h0, e]
    have h2 : q.num < 0 := by
      unfold rstr at h1
      split at h1
      · have := head_itoa q.num []
        rw [List.append_nil] at this
        exact this.1 h1
      · exact (head_itoa q.num _).1 h1
    omega)
  have hpos : (0 : Int) < ((rstr q).length : Int) := by
    have := List.length_pos_iff.2 h0; omega
  generalize rstr q = X at *
  go_enter Tryz.func160, Tryz.ntmps160
  go_wp2
  go_ret
  exact ⟨rfl, rfl⟩

set_option maxHeartbeats 400000 in
theorem ref03_times (x y : Nat) (lx : lim (x : Int) = false) (ly : lim (y : Int) = false) (lz : lim ((x * y : Nat) : Int) = false) (w : World) (hE : Env w) :
    Calls Tryz.prog 163 #[.string ⟨(Lib.itoa (x : Int)).toArray⟩, .string ⟨(Lib.itoa (y : Int)).toArray⟩] w fun e w' => e = .returned (.string ⟨(Lib.itoa ((x * y : Nat) : Int)).toArray⟩) ∧ Q w w' := by
  rw [Int.natCast_mul] at lz
  have H := ref01_Mul (x : Int) (y : Int) (by omega) lx ly lz w hE
  rw [← Int.natCast_mul] at H
  have HM := Lib.hid H
  clear H
  generalize Lib.itoa ((x * y : Nat) : Int) = R at *
  generalize Lib.itoa (x : Int) = X at *
  generalize Lib.itoa (y : Int) = Y at *
  go_enter Tryz.func163, Tryz.ntmps163
  go_wp2_with fail
  refine HM.out.mono ?_
  rintro e w1 ⟨rfl, hq⟩
  go_wp2
  go_ret
  exact ⟨rfl, hq⟩

set_option maxHeartbeats 400000 in
theorem ref03_quotient (k d : Nat) (hd : 0 < d) (lk : lim (k : Int) = false) (ld : lim (d : Int) = false) (w : World) (hE : Env w) :
    Calls Tryz.prog 165 #[.string ⟨(Lib.itoa (k : Int)).toArray⟩, .string ⟨(Lib.itoa (d : Int)).toArray⟩] w fun e w' => e = .returned (.string ⟨(rstr (Rat.divInt (k : Int) (d : Int))).toArray⟩) ∧ Q w w' := by
  have e1 : rstr ((k : Int) : Rat) = Lib.itoa (k : Int) := rstr_int _
  have e2 : rstr ((d : Int) : Rat) = Lib.itoa (d : Int) := rstr_int _
  have n1 : (((k : Int) : Rat)).num = (k : Int) := rfl
  have n2 : (((d : Int) : Rat)).num = (d : Int) := rfl
  have d1 : (((k : Int) : Rat)).den = 1 := rfl
  have d2 : (((d : Int) : Rat)).den = 1 := rfl
  have r1 : rlim ((k : Int) : Rat) = false := by unfold rlim; rw [n1, d1, lk]; exact lim_one
  have r2 : rlim ((d : Int) : Rat) = false := by unfold rlim; rw [n2, d2, ld]; exact lim_one
  have H := ref02_Div ((k : Int) : Rat) ((d : Int) : Rat) (by rw [n1]; omega) (by rw [n2]; omega) r1 r2 (by rw [n1, d2, show ((1 : Nat) : Int) = 1 from rfl, Int.mul_one]; exact lk) (by rw [n2, d1, show ((1 : Nat) : Int) = 1 from rfl, Int.one_mul]; exact ld) w hE
  rw [e1, e2, ← Rat.div_is, n1, n2, d1, d2, show ((1 : Nat) : Int) = 1 from rfl, Int.mul_one, Int.mul_one] at H
  have HM := Lib.hid H
  clear H
  generalize rstr (Rat.divInt (k : Int) (d : Int)) = R at *
  generalize Lib.itoa (k : Int) = X at *
  generalize Lib.itoa (d : Int) = Y at *
  go_enter Tryz.func165, Tryz.ntmps165
  go_wp2_with fail
  refine HM.out.mono ?_
  rintro e w1 ⟨rfl, hq⟩
  go_wp2
  go_ret
  exact ⟨rfl, hq⟩

/-- native's loop: the next bit is 2^k, or none is left. -/
def BitRel (n : Nat) (b r : Nat) : Prop := (∃ k, k < 30 ∧ b = 2 ^ k ∧ r * r ≤ n ∧ n < (r + 2 ^ (k + 1)) * (r + 2 ^ (k + 1)) ∧ r + 2 ^ (k + 1) ≤ 1073741824) ∨ (b = 0 ∧ r * r ≤ n ∧ n < (r + 1) * (r + 1))
theorem BitRel.start {n : Nat} (h : n < 100000000000000000) : BitRel n 536870912 0 :=
  .inl ⟨29, by decide, by decide, by omega, by have : (0 + 2 ^ (29 + 1)) * (0 + 2 ^ (29 + 1)) = 1152921504606846976 := by decide
                                               omega, by decide⟩
theorem BitRel.next {n k r : Nat} (hk : k < 30) (h1 : r * r ≤ n) (h2 : n < (r + 2 ^ (k + 1)) * (r + 2 ^ (k + 1))) (h3 : r + 2 ^ (k + 1) ≤ 1073741824) :
    BitRel n (2 ^ k / 2) (if (r + 2 ^ k) * (r + 2 ^ k) ≤ n then r + 2 ^ k else r) := by
  have hp : 2 ^ (k + 1) = 2 ^ k + 2 ^ k := by rw [Nat.pow_succ]; omega
  have hpos : 0 < 2 ^ k := Nat.pow_pos (by decide)
  have hall : ∀ s, s = (if (r + 2 ^ k) * (r + 2 ^ k) ≤ n then r + 2 ^ k else r) → s * s ≤ n ∧ n < (s + 2 ^ k) * (s + 2 ^ k) ∧ s + 2 ^ k ≤ 1073741824 := by
    intro s hs
    split at hs
    · next hc => subst hs; exact ⟨hc, by rw [Nat.add_assoc, ← hp]; exact h2, by omega⟩
    · next hc => subst hs; exact ⟨h1, by omega, by omega⟩
  obtain ⟨a, b, c⟩ := hall _ rfl
  generalize (if (r + 2 ^ k) * (r + 2 ^ k) ≤ n then r + 2 ^ k else r) = s at *
  cases k with
  | zero => exact .inr ⟨by decide, a, b⟩
  | succ k =>
    refine .inl ⟨k, by omega, ?_, a, b, c⟩
    rw [Nat.pow_succ]; omega

set_option maxHeartbeats 1000000 in
theorem ref03_native (n : Nat) (hn : n < 100000000000000000) (w : World) :
    Calls Tryz.prog 236 #[.int .i64 n] w fun e w' => e = .returned (.int .i64 (isqrt n)) ∧ Q w w' := by
  go_enter Tryz.func236, Tryz.ntmps236
  go_wp2
  go_loopw [3, 4] (fun rv bv wr => ∃ (b r : Nat), bv = .int .i64 b ∧ rv = .int .i64 r ∧ Hid (BitRel n b r) ∧ Q w wr) (fun _ bv _ => (intOf bv).toNat)
  case atStart => exact ⟨536870912, 0, rfl, rfl, Lib.hid (BitRel.start hn), Below.refl _ _⟩
  case round =>
    obtain ⟨b, r, rfl, rfl, HR, hQ⟩ := hrel
    rcases HR.out with ⟨k, hk, hb, h1, h2, h3⟩ | ⟨rfl, h1, h2⟩
    · have hnx := BitRel.next hk h1 h2 h3
      rw [← hb] at hnx
      have hp : 2 ^ (k + 1) = b + b := by rw [Nat.pow_succ, hb]; omega
      have hb0 : 0 < b := by rw [hb]; exact Nat.pow_pos (by decide)
      have hb1 : (0 : Int) < (b : Int) := by omega
      have hrb : r + b ≤ 1073741824 := by omega
      have hsq : (r + b) * (r + b) ≤ 1073741824 * 1073741824 := Nat.mul_le_mul hrb hrb
      have e1 : ((r : Int) + (b : Int)) * ((r : Int) + (b : Int)) = (((r + b) * (r + b) : Nat) : Int) := by simp
      have hw1 := Go.IntWalk.i64_in ((r : Int) + (b : Int)) (by omega)
      have hw2 := Go.IntWalk.i64_in (((r : Int) + (b : Int)) * ((r : Int) + (b : Int))) (by omega)
      have HDV := Lib.hid (show (b : Int) / 2 = ((b / 2 : Nat) : Int) by simp)
      have HRB := Lib.hid (show (r : Int) + (b : Int) = ((r + b : Nat) : Int) by simp)
      by_cases hc : (r + b) * (r + b) ≤ n
      · have hc' : ((r : Int) + (b : Int)) * ((r : Int) + (b : Int)) ≤ (n : Int) := by rw [e1]; omega
        rw [if_pos hc] at hnx
        have HN := Lib.hid hnx
        clear hnx hb h1 h2 h3 hp hsq e1 hc HR hk
        go_wp2
        go_roundw
        case rel => exact ⟨b / 2, r + b, by rw [← HDV.out], by rw [← HRB.out], HN, hQ⟩
        case measure => simp only [intOf]; omega
      · have hc' : ¬ ((r : Int) + (b : Int)) * ((r : Int) + (b : Int)) ≤ (n : Int) := by rw [e1]; omega
        rw [if_neg hc] at hnx
        have HN := Lib.hid hnx
        clear hnx hb h1 h2 h3 hp hsq e1 hc HR hk
        go_wp2
        go_roundw
        case rel => exact ⟨b / 2, r, by rw [← HDV.out], rfl, HN, hQ⟩
        case measure => simp only [intOf]; omega
    · have HI := Lib.hid (isqrt_of ⟨h1, h2⟩)
      clear h1 h2 HR
      go_wp2
      go_ret
      exact ⟨ret_int (by rw [HI.out]; all_goals rfl), hQ⟩

theorem short17n {n : Nat} (h : (Lib.itoa (n : Int)).length ≤ 17) : n < 100000000000000000 := by have := abs_lt17 h; omega

set_option maxHeartbeats 1000000 in
theorem ref03_square (n : Nat) (hn : 0 < n) (hl : lim (n : Int) = false) (w : World) (hE : Env w) :
    Calls Tryz.prog 164 #[.string ⟨(Lib.itoa (n : Int)).toArray⟩] w fun e w' => e = .returned (.tuple #[.string ⟨(Lib.itoa (isqrt n : Int)).toArray⟩, .bool (decide (isqrt n * isqrt n = n))]) ∧ Q w w' := by
  have hrn := isqrt_le n
  have hrs := isqrt_sq_le n
  by_cases hs : (Lib.itoa (n : Int)).length ≤ 17
  · have hs' : ((Lib.itoa (n : Int)).length : Int) ≤ 17 := by omega
    have bn := short17n hs
    have HA := Lib.hid (fun w => lib_Atoi (n : Int) (by omega) w)
    have HN := Lib.hid (fun w => ref03_native n bn w)
    have HI := Lib.hid (fun w hw => lib_Itoa (isqrt n : Int) (by omega) (by omega) w hw)
    have e1 : (isqrt n : Int) * (isqrt n : Int) = ((isqrt n * isqrt n : Nat) : Int) := by simp
    have hw1 := Go.IntWalk.i64_in ((isqrt n : Int) * (isqrt n : Int)) (by omega)
    obtain ⟨t, ht⟩ : ∃ t, decide (isqrt n * isqrt n = n) = t := ⟨_, rfl⟩
    have hb : ((isqrt n : Int) * (isqrt n : Int) == (n : Int)) = t := by
      rw [e1, ← ht]
      by_cases h : isqrt n * isqrt n = n
      · rw [h, decide_eq_true rfl]; simp
      · rw [decide_eq_false h, beq_eq_false_iff_ne]; omega
    rw [ht]
    clear e1 ht hrs hs hl hn
    generalize isqrt n = r at *
    generalize Lib.itoa (r : Int) = R at *
    generalize Lib.itoa (n : Int) = X at *
    go_enter Tryz.func164, Tryz.ntmps164
    go_wp2_with fail
    refine (HA.out _).mono ?_
    rintro e w1 ⟨rfl, hq1⟩
    go_wp2_with fail
    refine (HN.out _).mono ?_
    rintro e w2 ⟨rfl, hq2⟩
    have hQ2 := Q.trans hq1 hq2
    go_wp2_with fail
    refine (HI.out _ (hE.q hQ2)).mono ?_
    rintro e w3 ⟨rfl, hq3⟩
    have hQ3 := Q.trans hQ2 hq3
    go_wp2
    go_ret2
    exact ⟨rfl, hQ3⟩
  · have hs' : ¬ ((Lib.itoa (n : Int)).length : Int) ≤ 17 := by omega
    have hlen := itoa_len (n : Int) hl
    have lr : lim (isqrt n : Int) = false := lim_le hl (by omega)
    have ls : lim ((isqrt n * isqrt n : Nat) : Int) = false := lim_le hl (by omega)
    have HR := Lib.hid (ref01_Root n hn hl w)
    have HT := Lib.hid (fun w hw => ref03_times (isqrt n) (isqrt n) lr lr ls w hw)
    obtain ⟨t, ht⟩ : ∃ t, decide (isqrt n * isqrt n = n) = t := ⟨_, rfl⟩
    have hb : (Lib.itoa ((isqrt n * isqrt n : Nat) : Int) == Lib.itoa (n : Int)) = t := by
      rw [← ht]
      by_cases h : isqrt n * isqrt n = n
      · rw [h, decide_eq_true rfl]; simp
      · rw [decide_eq_false h, beq_eq_false_iff_ne]; exact fun e => h (by have := itoa_inj e; omega)
    rw [ht]
    clear ht hrs hrn hs hl hn lr ls
    generalize Lib.itoa ((isqrt n * isqrt n : Nat) : Int) = RR at *
    generalize Lib.itoa (isqrt n : Int) = R at *
    generalize Lib.itoa (n : Int) = X at *
    go_enter Tryz.func164, Tryz.ntmps164
    go_wp2_with fail
    refine HR.out.mono ?_
    rintro e w1 ⟨rfl, hq1⟩
    go_wp2_with fail
    refine (HT.out _ (hE.q hq1)).mono ?_
    rintro e w2 ⟨rfl, hq2⟩
    have hQ2 := Q.trans hq1 hq2
    go_wp2
    go_ret2
    exact ⟨rfl, hQ2⟩

end Go.Proofs.YtgkikkabmcihhaaGreatDoor

namespace Go.Proofs.YtgkikkabmcihhaaGreatDoor
open Go.RowKit Kp
open Go.Lib (decDigits)

/-- The primes below 100, as values. -/
def primeVs : List Value := primesL.map fun p : Nat => Value.int .i64 (p : Int)
set_option maxHeartbeats 1000000 in
theorem ref03_primes (w : World) :
    Calls Tryz.prog 235 #[] w fun e w' => e = .returned (.slice (some ⟨w.heap.size, 0, none⟩) 25 25) ∧ Q w w' ∧ Blk w' w.heap.size primeVs 3 := by
  go_enter Tryz.func235, Tryz.ntmps235
  go_wp2
  go_ret
  refine ⟨rfl, (by repeat (first | exact Below.refl _ _ | assumption | refine below_drewN ?_ _ | refine Below.drew ?_ | refine Below.alloc ?_ (by first | (simp; done) | (simp; omega)) _ | refine Below.setCell ?_ (by first | (simp; done) | (simp; omega)) _)), ?_⟩
  exact Blk.new w primeVs 3
theorem primeVs_at (k : Nat) (h : k < 25) : primeVs[k]? = some (.int .i64 (primesL.getD k 0 : Int)) := by
  unfold primeVs
  have hl : k < primesL.length := h
  rw [List.getElem?_map, List.getElem?_eq_getElem hl, List.getD_eq_getElem?_getD, List.getElem?_eq_getElem hl]; rfl

set_option maxRecDepth 100000 in
set_option maxHeartbeats 2000000 in
theorem ref03_reduced_short (n : Nat) (hn : 0 < n) (hl : (Lib.itoa (n : Int)).length ≤ 17) (w : World) (hE : Env w) :
    Calls Tryz.prog 162 #[.string ⟨(Lib.itoa (n : Int)).toArray⟩] w fun e w' => e = .returned (.tuple #[.string ⟨(Lib.itoa ((stripAll primesL (1, n)).2 : Int)).toArray⟩, .string ⟨(Lib.itoa ((stripAll primesL (1, n)).1 : Int)).toArray⟩]) ∧ Q w w' := by
  have hs' : ((Lib.itoa (n : Int)).length : Int) ≤ 17 := by omega
  have bn := short17n hl
  have HA := Lib.hid (fun w => lib_Atoi (n : Int) (by omega) w)
  have HP := Lib.hid (ref03_primes w)
  have hinv0 : StripInv n 1 n := ⟨hn, by decide, by simp⟩
  have HI0 := Lib.hid hinv0
  obtain ⟨r, hr⟩ : ∃ r, stripAll primesL (1, n) = r := ⟨_, rfl⟩
  rw [hr]
  have HRES : Hid (stripAll (primesL.take 25) (1, n) = r) := Lib.hid hr
  clear hr hinv0 hl
  generalize Lib.itoa (n : Int) = X at *
  go_enter Tryz.func162, Tryz.ntmps162
  go_wp2_with fail
  refine HP.out.mono ?_
  rintro e w1 ⟨rfl, hq1, B1⟩
  generalize w.heap.size = b at *
  go_wp2_with fail
  refine (HA.out _).mono ?_
  rintro e w2 ⟨rfl, hq2⟩
  have hQ2 := Q.trans hq1 hq2
  have B2 := B1.keep hq2 B1.lt
  clear HP HA B1
  go_wp2_with fail
  go_loopw [5, 7, 8] (fun m c i wr => ∃ (k a l : Nat), k ≤ 25 ∧ i = .int .i64 k ∧ c = .int .i64 a ∧ m = .int .i64 l ∧ Hid (stripAll (primesL.take k) (1, n) = (a, l)) ∧ Hid (StripInv n a l) ∧ Q w2 wr) (fun _ _ i _ => 25 - (intOf i).toNat)
  case atStart => exact ⟨0, 1, n, by omega, rfl, rfl, rfl, Lib.hid rfl, HI0, Below.refl _ _⟩
  case round =>
    obtain ⟨k, a, l, hk, rfl, rfl, rfl, HS, HI, hQ⟩ := hrel
    by_cases hlt : k < 25
    · have hp := prime_bounds k hlt
      have HT := Lib.hid (stripAll_take_succ k hlt (1, n))
      have HC := Lib.hid (fun W (h : Q w2 W) => ((B2.keep h B2.lt).cell k).trans (primeVs_at k hlt))
      have hk2 : (k : Int) < 25 := by omega
      have hk3 : ¬ (k : Int) < 0 := by omega
      generalize hpp : primesL.getD k 0 = p at *
      have HPP := Lib.hid hpp
      clear hpp
      go_wp2_with fail
      go_loopw [5, 7] (fun m c wi => ∃ (a l : Nat), c = .int .i64 a ∧ m = .int .i64 l ∧ Hid (stripP p a l = stripAll (primesL.take (k + 1)) (1, n)) ∧ Hid (StripInv n a l) ∧ Q w2 wi) (fun m _ _ => (intOf m).toNat)
      case atStart => exact ⟨a, l, rfl, rfl, Lib.hid (by rw [HT.out, HS.out]), HI, hQ⟩
      case round =>
        obtain ⟨a', b', rfl, rfl, HS', HI', hQ'⟩ := hrel
        have hc0 := HC.out wr hQ'
        have hb' := HI'.out.bounds.1
        have ha' := HI'.out.small bn
        have hpp0 : 4 ≤ p * p := Nat.mul_le_mul hp.1 hp.1
        have hpp1 : p * p ≤ 97 * 97 := Nat.mul_le_mul hp.2 hp.2
        have hap : a' * p ≤ 1000000000 * 97 := Nat.mul_le_mul (by omega) hp.2
        have c1 : (p : Int) * p = ((p * p : Nat) : Int) := by simp
        have c2 : (a' : Int) * p = ((a' * p : Nat) : Int) := by simp
        have d1 : (p : Int) * p ≤ 10000 := by rw [c1]; omega
        have d2 : 0 < (p : Int) * p := by rw [c1]; omega
        have d3 : (a' : Int) * p ≤ 100000000000 := by rw [c2]; omega
        have d4 : 0 ≤ (a' : Int) * p := by rw [c2]; omega
        have d5 : ((p : Int) * p == 0) = false := by simp; omega
        have c3 : (b' : Int) % ((p : Int) * p) = ((b' % (p * p) : Nat) : Int) := by simp
        have c4 : (b' : Int) / ((p : Int) * p) = ((b' / (p * p) : Nat) : Int) := by simp
        have d6 : 0 ≤ (b' : Int) / ((p : Int) * p) := Int.ediv_nonneg (by omega) (by omega)
        have hble : b' / (p * p) ≤ b' := Nat.div_le_self _ _
        have d7 : (b' : Int) / ((p : Int) * p) ≤ 100000000000000000 := Int.le_trans (Int.ediv_le_self _ (by omega)) (by omega)
        have hw1 := Go.IntWalk.i64_in ((p : Int) * (p : Int)) (by omega)
        have C2 := Lib.hid c2
        have C4 := Lib.hid c4
        by_cases hz : b' % (p * p) = 0
        · have t : ((b' : Int) % ((p : Int) * p) == 0) = true := by rw [c3, hz]; rfl
          have HN := Lib.hid (HI'.out.next hp.1 hz)
          have hlt' : b' / (p * p) < b' := Nat.div_lt_self HI'.out.pos (by omega)
          have HY := Lib.hid (stripP_yes (c := a') hp.1 HI'.out.pos hz)
          clear c1 c2 c3 c4 hz
          go_wp2
          go_quiet (fail)
          go_wp2
          go_quiet (fail)
          go_wp2
          go_roundw
          case rel => exact ⟨a' * p, b' / (p * p), by rw [C2.out], by rw [C4.out], Lib.hid (by rw [← HY.out]; exact HS'.out), HN, (by repeat (first | exact Below.refl _ _ | assumption | refine below_drewN ?_ _ | refine Below.drew ?_ | refine Below.alloc ?_ (by first | (simp; done) | (simp; omega)) _ | refine Below.setCell ?_ (by first | (simp; done) | (simp; omega)) _))⟩
          case measure => simp only [intOf]; rw [C4.out, Int.toNat_natCast, Int.toNat_natCast]; exact hlt'
        · have t : ((b' : Int) % ((p : Int) * p) == 0) = false := by rw [c3]; simp; omega
          have HY := Lib.hid (stripP_no (p := p) (c := a') (m := b') hz)
          clear c1 c2 c3 c4 hz
          go_wp2
          go_quiet (fail)
          go_wp2
          go_roundw
          case rel => exact ⟨k + 1, a', b', by omega, by go_num, rfl, rfl, Lib.hid (by rw [← HS'.out, HY.out]), HI', (by repeat (first | exact Below.refl _ _ | assumption | refine below_drewN ?_ _ | refine Below.drew ?_ | refine Below.alloc ?_ (by first | (simp; done) | (simp; omega)) _ | refine Below.setCell ?_ (by first | (simp; done) | (simp; omega)) _))⟩
          case measure => simp only [intOf]; omega
    · obtain rfl : k = 25 := by omega
      have hble := HI.out.bounds
      have hr2 : r = (a, l) := by rw [← HRES.out]; exact HS.out
      subst hr2
      have H1 := Lib.hid (fun w hw => lib_Itoa (l : Int) (by omega) (by omega) w hw)
      have H2 := Lib.hid (fun w hw => lib_Itoa (a : Int) (by omega) (by omega) w hw)
      have hQw := Q.trans hQ2 hQ
      go_wp2_with fail
      refine (H1.out _ (hE.q hQw)).mono ?_
      rintro e w3 ⟨rfl, hq3⟩
      have hQ3 := Q.trans hQw hq3
      go_wp2_with fail
      refine (H2.out _ (hE.q hQ3)).mono ?_
      rintro e w4 ⟨rfl, hq4⟩
      have hQ4 := Q.trans hQ3 hq4
      go_wp2
      go_ret2
      exact ⟨rfl, hQ4⟩

/-- The number that a string value shows. -/
def strN : Value → Nat
  | .string s => nval s.data.toList
  | _ => 0
theorem strN_itoa (x : Nat) : strN (.string ⟨(Lib.itoa (x : Int)).toArray⟩) = x := nval_itoa x

set_option maxRecDepth 100000 in
set_option maxHeartbeats 2000000 in
theorem ref03_reduced_long (n : Nat) (hn : 0 < n) (hl : 17 < (Lib.itoa (n : Int)).length) (hlim : lim (n : Int) = false) (w : World) (hE : Env w) :
    Calls Tryz.prog 162 #[.string ⟨(Lib.itoa (n : Int)).toArray⟩] w fun e w' => e = .returned (.tuple #[.string ⟨(Lib.itoa ((stripAll primesL (1, n)).2 : Int)).toArray⟩, .string ⟨(Lib.itoa ((stripAll primesL (1, n)).1 : Int)).toArray⟩]) ∧ Q w w' := by
  have hlen := itoa_len (n : Int) hlim
  have hs' : ¬ ((Lib.itoa (n : Int)).length : Int) ≤ 17 := by omega
  have HP := Lib.hid (ref03_primes w)
  have hinv0 : StripInv n 1 n := ⟨hn, by decide, by simp⟩
  have HI0 := Lib.hid hinv0
  obtain ⟨r, hr⟩ : ∃ r, stripAll primesL (1, n) = r := ⟨_, rfl⟩
  rw [hr]
  have HRES : Hid (stripAll (primesL.take 25) (1, n) = r) := Lib.hid hr
  obtain ⟨X, hX⟩ : ∃ X, Lib.itoa (n : Int) = X := ⟨_, rfl⟩
  rw [hX] at hs' hlen ⊢
  have HX := Lib.hid hX
  have h49 := itoa_one
  have H49 := Lib.hid h49
  clear hr hinv0 hl hX h49
  go_enter Tryz.func162, Tryz.ntmps162
  go_wp2_with fail
  refine HP.out.mono ?_
  rintro e w2 ⟨rfl, hQ2, B2⟩
  generalize w.heap.size = b at *
  clear HP
  go_wp2_with fail
  go_loopw [0, 9, 10] (fun m c i wr => ∃ (k a l : Nat) (A L : Str), k ≤ 25 ∧ i = .int .i64 k ∧ c = .string ⟨A.toArray⟩ ∧ m = .string ⟨L.toArray⟩ ∧ Hid (A = Lib.itoa (a : Int)) ∧ Hid (L = Lib.itoa (l : Int)) ∧ Hid (stripAll (primesL.take k) (1, n) = (a, l)) ∧ Hid (StripInv n a l) ∧ Q w2 wr) (fun _ _ i _ => 25 - (intOf i).toNat)
  case atStart => exact ⟨0, 1, n, [49], X, by omega, rfl, rfl, rfl, Lib.hid H49.out.symm, Lib.hid HX.out.symm, Lib.hid rfl, HI0, Below.refl _ _⟩
  case round =>
    obtain ⟨k, a, l, A, L, hk, rfl, rfl, rfl, HA, HL, HS, HI, hQ⟩ := hrel
    by_cases hlt : k < 25
    · have hp := prime_bounds k hlt
      have HT := Lib.hid (stripAll_take_succ k hlt (1, n))
      have HC := Lib.hid (fun W (h : Q w2 W) => ((B2.keep h B2.lt).cell k).trans (primeVs_at k hlt))
      have hk2 : (k : Int) < 25 := by omega
      have hk3 : ¬ (k : Int) < 0 := by omega
      have hk4 : (0 : Int) ≤ (k : Int) := by omega
      generalize hpp : primesL.getD k 0 = p at *
      have HPP := Lib.hid hpp
      clear hpp
      have hpp0 : 4 ≤ p * p := Nat.mul_le_mul hp.1 hp.1
      have hpp1 : p * p ≤ 97 * 97 := Nat.mul_le_mul hp.2 hp.2
      have c1 : (p : Int) * p = ((p * p : Nat) : Int) := by simp
      have hw1 := Go.IntWalk.i64_in ((p : Int) * (p : Int)) (by rw [c1]; omega)
      have HI2 := Lib.hid (fun w hw => lib_Itoa ((p : Int) * (p : Int)) (by rw [c1]; omega) (by rw [c1]; omega) w hw)
      have HI1 := Lib.hid (fun w hw => lib_Itoa (p : Int) (by omega) (by omega) w hw)
      have hc0 := HC.out wr hQ
      have hsp : Lib.itoa ((p : Int) * (p : Int)) = Lib.itoa ((p * p : Nat) : Int) := by rw [c1]
      rw [hsp] at HI2
      clear hsp c1
      have lp : lim (p : Int) = false := lim_small (by omega)
      have lpp : lim ((p * p : Nat) : Int) = false := lim_small (by omega)
      obtain ⟨P2, hP2⟩ : ∃ P2, Lib.itoa ((p * p : Nat) : Int) = P2 := ⟨_, rfl⟩
      obtain ⟨P1, hP1⟩ : ∃ P1, Lib.itoa (p : Int) = P1 := ⟨_, rfl⟩
      rw [hP2] at HI2
      rw [hP1] at HI1
      have HP2 := Lib.hid hP2
      have HP1 := Lib.hid hP1
      have HLP := Lib.hid lp
      have HLPP := Lib.hid lpp
      clear hP2 hP1 lp lpp
      go_wp2_with fail
      refine wp_steadily 11 rfl (by kernel_rfl) rfl ?_
      refine steadily_value (i := 0) (v := ?_) rfl rfl (by kernel_rfl) (by kernel_rfl) (fun _ _ _ h => h) (by rfl) ?_ ?_
      rotate_left
      · (intro w' hq; go_simp; try with_reducible rfl)
      simp only [Act.put, List.setIfInBounds_toArray, List.set_cons_zero, List.set_cons_succ]
      refine steadily_value (i := 1) (v := ?_) rfl rfl (by kernel_rfl) (by kernel_rfl) (fun _ _ _ h => h) (by rfl) ?_ ?_
      rotate_left
      · (intro w' hq; go_simp; try with_reducible rfl)
      simp only [Act.put, List.setIfInBounds_toArray, List.set_cons_zero, List.set_cons_succ]
      refine steadily_value (i := 2) (v := ?_) rfl rfl (by kernel_rfl) (by kernel_rfl) (fun _ _ _ h => h) (by rfl) ?_ ?_
      rotate_left
      · (intro w' hq; go_simp; try with_reducible rfl)
      simp only [Act.put, List.setIfInBounds_toArray, List.set_cons_zero, List.set_cons_succ]
      refine steadily_value (i := 3) (v := ?_) rfl rfl (by kernel_rfl) (by kernel_rfl) (fun _ _ _ h => h) (by rfl) ?_ ?_
      rotate_left
      · (intro w' hq; have hc0 := qcell hq hc0; go_simp; try with_reducible rfl)
      simp only [Act.put, List.setIfInBounds_toArray, List.set_cons_zero, List.set_cons_succ]
      refine steadily_value (i := 4) (v := ?_) rfl rfl (by kernel_rfl) (by kernel_rfl) (fun _ _ _ h => h) (by rfl) ?_ ?_
      rotate_left
      · (intro w' hq; go_simp; try with_reducible rfl)
      simp only [Act.put, List.setIfInBounds_toArray, List.set_cons_zero, List.set_cons_succ]
      refine steadily_value (i := 5) (v := ?_) rfl rfl (by kernel_rfl) (by kernel_rfl) (fun _ _ _ h => h) (by rfl) ?_ ?_
      rotate_left
      · (intro w' hq; go_simp; try with_reducible rfl)
      simp only [Act.put, List.setIfInBounds_toArray, List.set_cons_zero, List.set_cons_succ]
      refine steadily_value (i := 6) (v := ?_) rfl rfl (by kernel_rfl) (by kernel_rfl) (fun _ _ _ h => h) (by rfl) ?_ ?_
      rotate_left
      · (intro w' hq; go_simp; try with_reducible rfl)
      simp only [Act.put, List.setIfInBounds_toArray, List.set_cons_zero, List.set_cons_succ]
      refine steadily_value (i := 7) (v := ?_) rfl rfl (by kernel_rfl) (by kernel_rfl) (fun _ _ _ h => h) (by rfl) ?_ ?_
      rotate_left
      · (intro w' hq; have hc0 := qcell hq hc0; go_simp; try with_reducible rfl)
      simp only [Act.put, List.setIfInBounds_toArray, List.set_cons_zero, List.set_cons_succ]
      refine steadily_value (i := 8) (v := ?_) rfl rfl (by kernel_rfl) (by kernel_rfl) (fun _ _ _ h => h) (by rfl) ?_ ?_
      rotate_left
      · (intro w' hq; go_simp; try with_reducible rfl)
      simp only [Act.put, List.setIfInBounds_toArray, List.set_cons_zero, List.set_cons_succ]
      refine steadily_call (i := 9) (v := _) rfl rfl (by kernel_rfl) (by kernel_rfl) (fun _ _ _ h => h) (by rfl) ?_ (fun w' hq => HI2.out w' (hE.q (Q.trans (Q.trans hQ2 hQ) (Below.trans (Below.drew (Q.refl wr)) hq)))) ?_
      · (intro w' hq; go_simp; try with_reducible rfl)
      simp only [Act.put, List.setIfInBounds_toArray, List.set_cons_zero, List.set_cons_succ]
      refine steadily_value (i := 10) (v := ?_) rfl rfl (by kernel_rfl) (by kernel_rfl) (fun _ _ _ h => h) (by rfl) ?_ ?_
      rotate_left
      · (intro w' hq; go_simp; try with_reducible rfl)
      simp only [Act.put, List.setIfInBounds_toArray, List.set_cons_zero, List.set_cons_succ]
      refine steadily_done (by kernel_rfl) (fun w3 hq3 => ?_)
      have hQ3 : Q w2 w3 := Q.trans hQ (Below.trans (Below.drew (Q.refl wr)) hq3)
      simp only [List.drop_succ_cons, List.drop_zero]
      clear hc0
      go_wp2_with fail
      go_loopw [0, 9] (fun m c wi => ∃ (a l : Nat) (A L : Str), c = .string ⟨A.toArray⟩ ∧ m = .string ⟨L.toArray⟩ ∧ Hid (A = Lib.itoa (a : Int)) ∧ Hid (L = Lib.itoa (l : Int)) ∧ Hid (stripP p a l = stripAll (primesL.take (k + 1)) (1, n)) ∧ Hid (StripInv n a l) ∧ Q w2 wi) (fun m _ _ => strN m)
      case atStart => exact ⟨a, l, A, L, rfl, rfl, HA, HL, Lib.hid (by rw [HT.out, HS.out]), HI, hQ3⟩
      case round =>
        obtain ⟨a', b', A', L', rfl, rfl, HA', HL', HS', HI', hQ'⟩ := hrel
        have hbb := HI'.out.bounds
        have lb : lim (b' : Int) = false := lim_le hlim (by omega)
        have la : lim (a' : Int) = false := lim_le hlim (by omega)
        have hd := fun w hw => ref01_Divide (b' : Int) ((p * p : Nat) : Int) (by omega) (by omega) lb HLPP.out w hw
        rw [← Int.natCast_ediv, ← Int.natCast_emod, ← HL'.out, HP2.out] at hd
        have HD := Lib.hid hd
        clear hd
        by_cases hz : b' % (p * p) = 0
        · have t : (Lib.itoa ((b' % (p * p) : Nat) : Int) == [48]) = true := by rw [hz, show ((0 : Nat) : Int) = 0 from rfl, itoa_zero]; rfl
          have t2 := bne_of_t t
          have HN := Lib.hid (HI'.out.next hp.1 hz)
          have hlt' : b' / (p * p) < b' := Nat.div_lt_self HI'.out.pos (by omega)
          have HY := Lib.hid (stripP_yes (c := a') hp.1 HI'.out.pos hz)
          have hnb := HN.out.bounds
          have htm := fun w hw => ref03_times a' p la HLP.out (lim_le hlim (by omega)) w hw
          rw [← HA'.out, HP1.out] at htm
          have HTM := Lib.hid htm
          have hc0 := fun W (h : Q wr W) => HC.out W (Q.trans hQ' h)
          have HC2 := Lib.hid hc0
          clear hz htm hc0
          generalize Lib.itoa ((b' % (p * p) : Nat) : Int) = M at *
          obtain ⟨NL, hNL⟩ : ∃ NL, Lib.itoa ((b' / (p * p) : Nat) : Int) = NL := ⟨_, rfl⟩
          obtain ⟨NA, hNA⟩ : ∃ NA, Lib.itoa ((a' * p : Nat) : Int) = NA := ⟨_, rfl⟩
          rw [hNL] at HD
          rw [hNA] at HTM
          have HNL := Lib.hid hNL
          have HNA := Lib.hid hNA
          have hm1 : strN (.string ⟨NL.toArray⟩) = b' / (p * p) := by rw [← hNL]; exact strN_itoa _
          have hm2 : strN (.string ⟨L'.toArray⟩) = b' := by rw [HL'.out]; exact strN_itoa _
          have HM := Lib.hid (show strN (.string ⟨NL.toArray⟩) < strN (.string ⟨L'.toArray⟩) by rw [hm1, hm2]; exact hlt')
          clear hNL hNA hm1 hm2 hlt' hnb
          go_wp2_with fail
          refine (HD.out _ (hE.q (Q.trans hQ2 hQ'))).mono ?_
          rintro e w4 ⟨rfl, hq4⟩
          have hQ4 := Q.trans hQ' hq4
          have hc4 := HC2.out w4 hq4
          go_wp2_with fail
          refine (HI1.out _ (hE.q (Q.trans hQ2 hQ4))).mono ?_
          rintro e w5 ⟨rfl, hq5⟩
          have hQ5 := Q.trans hQ4 hq5
          go_wp2_with fail
          refine (HTM.out _ (hE.q (Q.trans hQ2 hQ5))).mono ?_
          rintro e w6 ⟨rfl, hq6⟩
          have hQ6 := Q.trans hQ5 hq6
          go_wp2
          go_roundw
          case rel => exact ⟨a' * p, b' / (p * p), NA, NL, rfl, rfl, Lib.hid HNA.out.symm, Lib.hid HNL.out.symm, Lib.hid (by rw [← HY.out]; exact HS'.out), HN, hQ6⟩
          case measure => exact HM.out
        · have t : (Lib.itoa ((b' % (p * p) : Nat) : Int) == [48]) = false := by
            rw [beq_eq_false_iff_ne, ← itoa_zero]; exact fun e => hz (by have := itoa_inj e; omega)
          have t2 := bne_of_f t
          have HY := Lib.hid (stripP_no (p := p) (c := a') (m := b') hz)
          clear hz
          generalize Lib.itoa ((b' % (p * p) : Nat) : Int) = M at *
          generalize Lib.itoa ((b' / (p * p) : Nat) : Int) = NL at *
          go_wp2_with fail
          refine (HD.out _ (hE.q (Q.trans hQ2 hQ'))).mono ?_
          rintro e w4 ⟨rfl, hq4⟩
          have hQ4 := Q.trans hQ' hq4
          go_wp2
          go_roundw
          case rel => exact ⟨k + 1, a', b', A', L', by omega, by go_num, rfl, rfl, HA', HL', Lib.hid (by rw [← HS'.out, HY.out]), HI', hQ4⟩
          case measure => simp only [intOf]; omega
    · obtain rfl : k = 25 := by omega
      have hr2 : r = (a, l) := by rw [← HRES.out]; exact HS.out
      subst hr2
      have hQw := Q.trans hQ2 hQ
      go_wp2
      go_ret2
      exact ⟨by rw [HA.out, HL.out]; rfl, hQw⟩

theorem ref03_reduced (n : Nat) (hn : 0 < n) (hlim : lim (n : Int) = false) (w : World) (hE : Env w) :
    Calls Tryz.prog 162 #[.string ⟨(Lib.itoa (n : Int)).toArray⟩] w fun e w' => e = .returned (.tuple #[.string ⟨(Lib.itoa ((stripAll primesL (1, n)).2 : Int)).toArray⟩, .string ⟨(Lib.itoa ((stripAll primesL (1, n)).1 : Int)).toArray⟩]) ∧ Q w w' := by
  by_cases hl : (Lib.itoa (n : Int)).length ≤ 17
  · exact ref03_reduced_short n hn hl w hE
  · exact ref03_reduced_long n hn (by omega) hlim w hE

end Go.Proofs.YtgkikkabmcihhaaGreatDoor

namespace Go.Proofs.YtgkikkabmcihhaaGreatDoor
open Go.RowKit Kp
open Go.Lib (decDigits)

set_option maxRecDepth 100000 in
set_option maxHeartbeats 2000000 in
theorem ref03_Normal (q : Rat) (h : Root90 q) (hp : 0 < q.num) (w : World) (hE : Env w) :
    Calls Tryz.prog 105 #[.string ⟨(rstr q).toArray⟩] w fun e w' => e = .returned (.tuple #[.string ⟨(rstr (Rat.divInt (normM (q.num.toNat * q.den)).1 q.den)).toArray⟩, .string ⟨(Lib.itoa ((normM (q.num.toNat * q.den)).2 : Int)).toArray⟩, .int .i64 0]) ∧ Q w w' := by
  obtain ⟨z, hz⟩ := Int.eq_ofNat_of_zero_le (Int.le_of_lt hp)
  have hlim := h.rlim
  obtain ⟨l1, l2⟩ := rlim_parts hlim
  have l3 := lim_prod h
  have hzt : q.num.toNat = z := by omega
  rw [hzt]
  have hm0 : 0 < z * q.den := Nat.mul_pos (by omega) q.den_pos
  have HCK := Lib.hid (fun b w hw hb => ref03_check_one q h (rest := []) (cap := 1) b 22 w hw hb)
  have HSG := Lib.hid (fun w => ref03_sign_pos q hp hlim w)
  have hP := fun w hw => ref02_Parts q hlim w hw
  rw [hz] at hP l1 l3
  rw [← Int.natCast_mul] at l3
  have HP := Lib.hid hP
  have HT := Lib.hid (fun w hw => ref03_times z q.den l1 l2 l3 w hw)
  have HR := Lib.hid (fun w hw => ref03_reduced (z * q.den) hm0 l3 w hw)
  obtain ⟨s1, s2, s3, s4⟩ := stripAll_spec primesL primesL_ge 1 (z * q.den) hm0 (by decide)
  have hM : normM (z * q.den) = if isqrt (stripAll primesL (1, z * q.den)).2 * isqrt (stripAll primesL (1, z * q.den)).2 = (stripAll primesL (1, z * q.den)).2 then ((stripAll primesL (1, z * q.den)).1 * isqrt (stripAll primesL (1, z * q.den)).2, 1) else stripAll primesL (1, z * q.den) := rfl
  obtain ⟨n1, n2, n3, n4⟩ := normM_spec hm0
  generalize normM (z * q.den) = N at *
  generalize hst : stripAll primesL (1, z * q.den) = st at *
  obtain ⟨c, l⟩ := st
  simp only at s1 s2 s3 s4 hM HR
  have hlm : l ≤ z * q.den := s4
  have hinv : StripInv (z * q.den) c l := ⟨s1, s2, by rw [s3]; simp⟩
  have hcb := hinv.bounds.2
  have HS := Lib.hid (fun w hw => ref03_square l s1 (lim_le l3 (by omega)) w hw)
  have hway : (decide (isqrt l * isqrt l = l) = true ∧ N = (c * isqrt l, 1)) ∨ (decide (isqrt l * isqrt l = l) = false ∧ N = (c, l)) := by
    by_cases hd : isqrt l * isqrt l = l
    · exact .inl ⟨decide_eq_true hd, by rw [hM, if_pos hd]⟩
    · exact .inr ⟨decide_eq_false hd, by rw [hM, if_neg hd]⟩
  clear hM s1 s2 s3 s4 hst hlm hinv
  generalize decide (isqrt l * isqrt l = l) = t at *
  rcases hway with ⟨rfl, rfl⟩ | ⟨rfl, rfl⟩
  · simp only at n1 n2 n3 n4 ⊢
    have hcr : c * isqrt l ≤ z * q.den := by
      have := sq_le_of n3 n1
      have h4 : c * isqrt l * 1 ≤ c * isqrt l * (c * isqrt l) := Nat.mul_le_mul_left _ n2
      omega
    have hri : isqrt l ≤ z * q.den := by
      have h0 : 0 < c := Nat.pos_of_mul_pos_right n2
      have : 1 * isqrt l ≤ c * isqrt l := Nat.mul_le_mul_right _ h0
      omega
    have lc : lim (c : Int) = false := lim_le l3 (by omega)
    have lr : lim (isqrt l : Int) = false := lim_le l3 (by omega)
    have lcr : lim ((c * isqrt l : Nat) : Int) = false := lim_le l3 (by omega)
    have HT2 := Lib.hid (fun w hw => ref03_times c (isqrt l) lc lr lcr w hw)
    have HQ := Lib.hid (fun w hw => ref03_quotient (c * isqrt l) q.den q.den_pos lcr l2 w hw)
    rw [show ((1 : Nat) : Int) = 1 from rfl, itoa_one]
    clear n1 n2 n3 n4 hcr hri lc lr lcr l1 l2 l3 hcb hm0 hlim h hp hz hzt hP
    generalize rstr (Rat.divInt ((c * isqrt l : Nat) : Int) (q.den : Int)) = R at *
    generalize Lib.itoa ((c * isqrt l : Nat) : Int) = CR at *
    generalize Lib.itoa (isqrt l : Int) = RL at *
    generalize Lib.itoa (c : Int) = C at *
    generalize Lib.itoa (l : Int) = L at *
    generalize Lib.itoa ((z * q.den : Nat) : Int) = ZD at *
    generalize Lib.itoa (q.den : Int) = D at *
    generalize Lib.itoa (z : Int) = Z at *
    generalize rstr q = S at *
    go_enter Tryz.func105, Tryz.ntmps105
    go_wp2_with fail
    have hqa : Q w (w.alloc (.cells [.string ⟨S.toArray⟩].toArray 22)) := (Below.refl _ w).alloc (Nat.le_refl _) _
    refine (HCK.out _ _ (hE.q hqa) (Blk.new w _ _)).mono ?_
    rintro e w1 ⟨rfl, hq1⟩
    have hQ1 := Q.trans hqa hq1
    go_wp2_with fail
    refine (HSG.out _).mono ?_
    rintro e w2 ⟨rfl, rfl⟩
    go_wp2_with fail
    refine (HSG.out _).mono ?_
    rintro e w2 ⟨rfl, rfl⟩
    go_wp2_with fail
    refine (HP.out _ (hE.q hQ1)).mono ?_
    rintro e w2 ⟨rfl, hq2⟩
    have hQ2 := Q.trans hQ1 hq2
    go_wp2_with fail
    refine (HT.out _ (hE.q hQ2)).mono ?_
    rintro e w3 ⟨rfl, hq3⟩
    have hQ3 := Q.trans hQ2 hq3
    go_wp2_with fail
    refine (HR.out _ (hE.q hQ3)).mono ?_
    rintro e w4 ⟨rfl, hq4⟩
    have hQ4 := Q.trans hQ3 hq4
    go_wp2_with fail
    refine (HS.out _ (hE.q hQ4)).mono ?_
    rintro e w5 ⟨rfl, hq5⟩
    have hQ5 := Q.trans hQ4 hq5
    go_wp2_with fail
    refine (HT2.out _ (hE.q hQ5)).mono ?_
    rintro e w6 ⟨rfl, hq6⟩
    have hQ6 := Q.trans hQ5 hq6
    go_wp2_with fail
    refine (HQ.out _ (hE.q hQ6)).mono ?_
    rintro e w7 ⟨rfl, hq7⟩
    have hQ7 := Q.trans hQ6 hq7
    go_wp2
    go_ret3
    exact ⟨rfl, hQ7⟩
  · have lc : lim (c : Int) = false := lim_le l3 (by omega)
    have HQ := Lib.hid (fun w hw => ref03_quotient c q.den q.den_pos lc l2 w hw)
    clear n1 n2 n3 n4 lc l1 l2 l3 hcb hm0 hlim h hp hz hzt hP
    simp only
    generalize rstr (Rat.divInt (c : Int) (q.den : Int)) = R at *
    generalize Lib.itoa (isqrt l : Int) = RL at *
    generalize Lib.itoa (c : Int) = C at *
    generalize Lib.itoa (l : Int) = L at *
    generalize Lib.itoa ((z * q.den : Nat) : Int) = ZD at *
    generalize Lib.itoa (q.den : Int) = D at *
    generalize Lib.itoa (z : Int) = Z at *
    generalize rstr q = S at *
    go_enter Tryz.func105, Tryz.ntmps105
    go_wp2_with fail
    have hqa : Q w (w.alloc (.cells [.string ⟨S.toArray⟩].toArray 22)) := (Below.refl _ w).alloc (Nat.le_refl _) _
    refine (HCK.out _ _ (hE.q hqa) (Blk.new w _ _)).mono ?_
    rintro e w1 ⟨rfl, hq1⟩
    have hQ1 := Q.trans hqa hq1
    go_wp2_with fail
    refine (HSG.out _).mono ?_
    rintro e w2 ⟨rfl, rfl⟩
    go_wp2_with fail
    refine (HSG.out _).mono ?_
    rintro e w2 ⟨rfl, rfl⟩
    go_wp2_with fail
    refine (HP.out _ (hE.q hQ1)).mono ?_
    rintro e w2 ⟨rfl, hq2⟩
    have hQ2 := Q.trans hQ1 hq2
    go_wp2_with fail
    refine (HT.out _ (hE.q hQ2)).mono ?_
    rintro e w3 ⟨rfl, hq3⟩
    have hQ3 := Q.trans hQ2 hq3
    go_wp2_with fail
    refine (HR.out _ (hE.q hQ3)).mono ?_
    rintro e w4 ⟨rfl, hq4⟩
    have hQ4 := Q.trans hQ3 hq4
    go_wp2_with fail
    refine (HS.out _ (hE.q hQ4)).mono ?_
    rintro e w5 ⟨rfl, hq5⟩
    have hQ5 := Q.trans hQ4 hq5
    go_wp2_with fail
    refine (HQ.out _ (hE.q hQ5)).mono ?_
    rintro e w7 ⟨rfl, hq7⟩
    have hQ7 := Q.trans hQ5 hq7
    go_wp2
    go_ret3
    exact ⟨rfl, hQ7⟩

end Go.Proofs.YtgkikkabmcihhaaGreatDoor

namespace Go.Proofs.YtgkikkabmcihhaaGreatDoor
open Go.RowKit Kp
open Go.Lib (decDigits)

theorem longV_is (q : Rat) : longV q = max ((Lib.itoa (q.num.natAbs : Int)).length : Int) ((Lib.itoa (q.den : Int)).length : Int) := by
  unfold longV
  rw [unsig_itoa, unsig_itoa, Int.natAbs_natCast, dec_eq_itoa, dec_eq_itoa]

set_option maxHeartbeats 1000000 in
theorem ref04_long (q : Rat) (hl : rlim q = false) (m : Int) (w : World) (hE : Env w) :
    Calls Tryz.prog 106 #[.string ⟨(rstr q).toArray⟩, .int .i64 m] w fun e w' => e = .returned (.bool (decide (m < longV q))) ∧ Q w w' := by
  obtain ⟨l1, l2⟩ := rlim_parts hl
  have hlen := itoa_len q.num l1
  have HP := Lib.hid (ref02_Parts q hl w hE)
  have hpos : (0 : Int) < ((Lib.itoa q.num).length : Int) := by
    have := List.length_pos_iff.2 (itoa_ne q.num); omega
  have hway : ((((at0 (Lib.itoa q.num) 0).toNat : Int) == 45) = true ∧ (Lib.itoa q.num).length = (Lib.itoa (q.num.natAbs : Int)).length + 1) ∨ ((((at0 (Lib.itoa q.num) 0).toNat : Int) == 45) = false ∧ (Lib.itoa q.num).length = (Lib.itoa (q.num.natAbs : Int)).length) := by
    rcases itoa_first q.num l1 with ⟨h1, h2, -⟩ | ⟨h1, h2, -⟩
    · refine .inl ⟨by rw [h2]; rfl, ?_⟩
      rw [itoa_neg h1, ← dec_eq_itoa, List.length_cons]
    · exact .inr ⟨ne45 h2, by rw [show ((q.num.natAbs : Nat) : Int) = q.num by omega]⟩
  rw [longV_is]
  obtain ⟨k1, hk1⟩ : ∃ k1, (Lib.itoa (q.num.natAbs : Int)).length = k1 := ⟨_, rfl⟩
  obtain ⟨k2, hk2⟩ : ∃ k2, (Lib.itoa (q.den : Int)).length = k2 := ⟨_, rfl⟩
  have hld := itoa_len (q.den : Int) l2
  rw [hk1] at hway ⊢
  rw [hk2] at hld ⊢
  have hv : decide (m < max (k1 : Int) (k2 : Int)) = (decide (m < (k1 : Int)) || decide (m < (k2 : Int))) := by
    rw [← Bool.decide_or, decide_eq_decide]; omega
  have HV := Lib.hid hv
  clear hk1 l1 l2 hl hv
  generalize rstr q = S at *
  generalize Lib.itoa q.num = X at *
  generalize Lib.itoa (q.den : Int) = Y at *
  subst hk2
  rcases hway with ⟨h1, h2⟩ | ⟨h1, h2⟩
  · obtain rfl : k1 = X.length - 1 := by omega
    clear h2
    go_enter Tryz.func106, Tryz.ntmps106
    go_wp2_with fail
    refine HP.out.mono ?_
    rintro e w1 ⟨rfl, hq⟩
    go_wp2
    all_goals
      go_ret
      refine ⟨?_, hq⟩
      rw [HV.out]
      first
        | rfl
        | (clear HV HP; simp [*]; done)
  · subst h2
    go_enter Tryz.func106, Tryz.ntmps106
    go_wp2_with fail
    refine HP.out.mono ?_
    rintro e w1 ⟨rfl, hq⟩
    go_wp2
    all_goals
      go_ret
      refine ⟨?_, hq⟩
      rw [HV.out]
      first
        | rfl
        | (clear HV HP; simp [*]; done)

set_option maxHeartbeats 400000 in
theorem ref04_compare_pos (q : Rat) (hp : 0 < q.num) (hl : rlim q = false) (w : World) (hE : Env w) :
    Calls Tryz.prog 104 #[.string ⟨(rstr q).toArray⟩, .string ⟨[48].toArray⟩] w fun e w' => e = .returned (.int .i64 1) ∧ Q w w' := by
  have H := ref02_Compare_zero q (by omega) hl w hE
  rw [if_neg (by omega)] at H
  have HC := Lib.hid H
  clear H
  generalize rstr q = S at *
  go_enter Tryz.func104, Tryz.ntmps104
  go_wp2_with fail
  refine HC.out.mono ?_
  rintro e w1 ⟨rfl, hq⟩
  go_wp2
  go_ret
  exact ⟨rfl, hq⟩

/-- A term whose root is normal (and a number). -/
structure TermR (x : Rat) (l : Nat) : Prop where
  lim : rlim x = false
  ne : x ≠ 0
  norm : NormL l
  lbd : Bd 84 (l : Rat)

theorem rstr_ne48 {x : Rat} (h : x ≠ 0) : (rstr x == [48]) = false := by
  rw [beq_eq_false_iff_ne]
  intro e
  exact h (rstr_inj (show rstr x = rstr 0 by rw [e, rstr_zero]))
theorem ref03_Normal_norm (l : Nat) (hl : NormL l) (hb : Bd 84 (l : Rat)) (w : World) (hE : Env w) :
    Calls Tryz.prog 105 #[.string ⟨(Lib.itoa (l : Int)).toArray⟩] w fun e w' => e = .returned (.tuple #[.string ⟨#[49]⟩, .string ⟨(Lib.itoa (l : Int)).toArray⟩, .int .i64 0]) ∧ Q w w' := by
  have h := ref03_Normal (l : Rat) (hb.root90 (by decide)) (by rw [Rat.num_natCast]; have := hl.1; omega) w hE
  rw [rstr_nat, Rat.num_natCast, Rat.den_natCast, Int.toNat_natCast, Nat.mul_one, hl.2] at h
  rw [show Rat.divInt ((1 : Nat) : Int) ((1 : Nat) : Int) = 1 by rfl, rstr_one] at h
  exact h

set_option maxRecDepth 100000 in
set_option maxHeartbeats 2000000 in
theorem ref04_checkTerm (x : Rat) (l : Nat) (ht : TermR x l) (w : World) (hE : Env w) :
    Calls Tryz.prog 167 #[.agg #[.string ⟨(rstr x).toArray⟩, .string ⟨(Lib.itoa (l : Int)).toArray⟩]] w fun e w' => (e = .returned (.int .i64 (if 60 < longV x ∨ 40 < longV (l : Rat) then 4 else 0))) ∧ Q w w' := by
  obtain ⟨hx, hne, hn, hb⟩ := ht
  have hlr := hb.rlim (by decide)
  have hlp : 0 < ((l : Rat)).num := by rw [Rat.num_natCast]; have := hn.1; omega
  have HC1 := Lib.hid (fun w hw => ref02_Check_num x hx w hw)
  have HC2 := Lib.hid (fun w hw => ref02_Check_num (l : Rat) hlr w hw)
  have HL1 := Lib.hid (fun w hw => ref04_long x hx 60 w hw)
  have HL2 := Lib.hid (fun w hw => ref04_long (l : Rat) hlr 40 w hw)
  have hP := fun w hw => ref02_Parts (l : Rat) hlr w hw
  rw [Rat.num_natCast, Rat.den_natCast, show ((1 : Nat) : Int) = 1 from rfl, itoa_one] at hP
  have HP := Lib.hid hP
  have HCP := Lib.hid (fun w hw => ref04_compare_pos (l : Rat) hlp hlr w hw)
  have HN := Lib.hid (fun w hw => ref03_Normal_norm l hn hb w hw)
  rw [rstr_nat] at HC2 HL2 HP HCP
  have hx48 := rstr_ne48 hne
  have hway : (decide (60 < longV x) = true ∧ (if 60 < longV x ∨ 40 < longV (l : Rat) then (4 : Int) else 0) = 4) ∨ (decide (60 < longV x) = false ∧ decide (40 < longV (l : Rat)) = true ∧ (if 60 < longV x ∨ 40 < longV (l : Rat) then (4 : Int) else 0) = 4) ∨
      (decide (60 < longV x) = false ∧ decide (40 < longV (l : Rat)) = false ∧ (if 60 < longV x ∨ 40 < longV (l : Rat) then (4 : Int) else 0) = 0) := by
    by_cases h1 : 60 < longV x
    · exact .inl ⟨decide_eq_true h1, if_pos (.inl h1)⟩
    · by_cases h2 : 40 < longV (l : Rat)
      · exact .inr (.inl ⟨decide_eq_false h1, decide_eq_true h2, if_pos (.inr h2)⟩)
      · exact .inr (.inr ⟨decide_eq_false h1, decide_eq_false h2, if_neg (by rintro (h | h); exact h1 h; exact h2 h)⟩)
  generalize (if 60 < longV x ∨ 40 < longV (l : Rat) then (4 : Int) else 0) = r at *
  generalize decide (60 < longV x) = t1 at *
  generalize decide (40 < longV (l : Rat)) = t2 at *
  have h49 : (Lib.itoa (l : Int) == [49]) = true ∨ (Lib.itoa (l : Int) == [49]) = false := by cases (Lib.itoa (l : Int) == [49]) <;> simp
  have heq : (Lib.itoa (l : Int) == Lib.itoa (l : Int)) = true := by simp
  have heq2 := bne_of_t heq
  clear hP hlp hlr hn hb hx hne
  generalize rstr x = X at *
  generalize Lib.itoa (l : Int) = L at *
  have B1 := Blk.new w [.string ⟨X.toArray⟩, .string ⟨L.toArray⟩] 66
  have hqa : Q w (w.alloc (.cells [.string ⟨X.toArray⟩, .string ⟨L.toArray⟩].toArray 66)) := (Below.refl _ w).alloc (Nat.le_refl _) _
  have HBk := Lib.hid (fun W (h : Q (w.alloc (.cells [.string ⟨X.toArray⟩, .string ⟨L.toArray⟩].toArray 66)) W) => B1.keep h B1.lt)
  rcases hway with ⟨rfl, rfl⟩ | ⟨rfl, rfl, rfl⟩ | ⟨rfl, rfl, rfl⟩
  · go_enter Tryz.func167, Tryz.ntmps167
    go_wp2_with fail
    refine (HC1.out _ (hE.q hqa)).mono ?_
    rintro e w1 ⟨rfl, hq1⟩
    have c0 := (HBk.out _ hq1).cell 0
    have c1 := (HBk.out _ hq1).cell 1
    simp only [List.getElem?_cons_zero, List.getElem?_cons_succ] at c0 c1
    go_wp2_with fail
    refine (HC2.out _ (hE.q (Q.trans hqa hq1))).mono ?_
    rintro e w2 ⟨rfl, hq2⟩
    have hQ2 := Q.trans hq1 hq2
    have c0 := (HBk.out _ hQ2).cell 0
    have c1 := (HBk.out _ hQ2).cell 1
    simp only [List.getElem?_cons_zero, List.getElem?_cons_succ] at c0 c1
    go_wp2_with fail
    refine (HL1.out _ (hE.q (Q.trans hqa hQ2))).mono ?_
    rintro e w3 ⟨rfl, hq3⟩
    have hQ3 := Q.trans hQ2 hq3
    go_wp2
    go_ret
    exact ⟨rfl, Q.trans hqa hQ3⟩
  · go_enter Tryz.func167, Tryz.ntmps167
    go_wp2_with fail
    refine (HC1.out _ (hE.q hqa)).mono ?_
    rintro e w1 ⟨rfl, hq1⟩
    have c0 := (HBk.out _ hq1).cell 0
    have c1 := (HBk.out _ hq1).cell 1
    simp only [List.getElem?_cons_zero, List.getElem?_cons_succ] at c0 c1
    go_wp2_with fail
    refine (HC2.out _ (hE.q (Q.trans hqa hq1))).mono ?_
    rintro e w2 ⟨rfl, hq2⟩
    have hQ2 := Q.trans hq1 hq2
    have c0 := (HBk.out _ hQ2).cell 0
    have c1 := (HBk.out _ hQ2).cell 1
    simp only [List.getElem?_cons_zero, List.getElem?_cons_succ] at c0 c1
    go_wp2_with fail
    refine (HL1.out _ (hE.q (Q.trans hqa hQ2))).mono ?_
    rintro e w3 ⟨rfl, hq3⟩
    have hQ3 := Q.trans hQ2 hq3
    have c0 := (HBk.out _ hQ3).cell 0
    have c1 := (HBk.out _ hQ3).cell 1
    simp only [List.getElem?_cons_zero, List.getElem?_cons_succ] at c0 c1
    go_wp2_with fail
    refine (HL2.out _ (hE.q (Q.trans hqa hQ3))).mono ?_
    rintro e w4 ⟨rfl, hq4⟩
    have hQ4 := Q.trans hQ3 hq4
    go_wp2
    go_ret
    exact ⟨rfl, Q.trans hqa hQ4⟩
  · rcases h49 with h49 | h49
    all_goals
      go_enter Tryz.func167, Tryz.ntmps167
      go_wp2_with fail
      refine (HC1.out _ (hE.q hqa)).mono ?_
      rintro e w1 ⟨rfl, hq1⟩
      have c0 := (HBk.out _ hq1).cell 0
      have c1 := (HBk.out _ hq1).cell 1
      simp only [List.getElem?_cons_zero, List.getElem?_cons_succ] at c0 c1
      go_wp2_with fail
      refine (HC2.out _ (hE.q (Q.trans hqa hq1))).mono ?_
      rintro e w2 ⟨rfl, hq2⟩
      have hQ2 := Q.trans hq1 hq2
      have c0 := (HBk.out _ hQ2).cell 0
      have c1 := (HBk.out _ hQ2).cell 1
      simp only [List.getElem?_cons_zero, List.getElem?_cons_succ] at c0 c1
      go_wp2_with fail
      refine (HL1.out _ (hE.q (Q.trans hqa hQ2))).mono ?_
      rintro e w3 ⟨rfl, hq3⟩
      have hQ3 := Q.trans hQ2 hq3
      have c0 := (HBk.out _ hQ3).cell 0
      have c1 := (HBk.out _ hQ3).cell 1
      simp only [List.getElem?_cons_zero, List.getElem?_cons_succ] at c0 c1
      go_wp2_with fail
      refine (HL2.out _ (hE.q (Q.trans hqa hQ3))).mono ?_
      rintro e w4 ⟨rfl, hq4⟩
      have hQ4 := Q.trans hQ3 hq4
      have c0 := (HBk.out _ hQ4).cell 0
      have c1 := (HBk.out _ hQ4).cell 1
      simp only [List.getElem?_cons_zero, List.getElem?_cons_succ] at c0 c1
      go_wp2_with fail
      refine (HP.out _ (hE.q (Q.trans hqa hQ4))).mono ?_
      rintro e w5 ⟨rfl, hq5⟩
      have hQ5 := Q.trans hQ4 hq5
      have c0 := (HBk.out _ hQ5).cell 0
      have c1 := (HBk.out _ hQ5).cell 1
      simp only [List.getElem?_cons_zero, List.getElem?_cons_succ] at c0 c1
      go_wp2_with fail
      refine (HCP.out _ (hE.q (Q.trans hqa hQ5))).mono ?_
      rintro e w6 ⟨rfl, hq6⟩
      have hQ6 := Q.trans hQ5 hq6
      have c0 := (HBk.out _ hQ6).cell 0
      have c1 := (HBk.out _ hQ6).cell 1
      simp only [List.getElem?_cons_zero, List.getElem?_cons_succ] at c0 c1
      go_wp2_with fail
      first
        | (refine (HN.out _ (hE.q (Q.trans hqa hQ6))).mono ?_
           rintro e w7 ⟨rfl, hq7⟩
           have hQ7 := Q.trans hQ6 hq7
           have c0 := (HBk.out _ hQ7).cell 0
           have c1 := (HBk.out _ hQ7).cell 1
           simp only [List.getElem?_cons_zero, List.getElem?_cons_succ] at c0 c1
           go_wp2
           go_ret
           exact ⟨rfl, Q.trans hqa hQ7⟩)
        | (go_ret
           exact ⟨rfl, Q.trans hqa hQ6⟩)

end Go.Proofs.YtgkikkabmcihhaaGreatDoor

namespace Go.Proofs.YtgkikkabmcihhaaGreatDoor
open Go.RowKit Kp
open Go.Lib (decDigits)

/-- What Check says of a term whose root is normal. -/
def termE (x l : Rat) : Int := if 60 < longV x ∨ 40 < longV l then 4 else 0
theorem termE_ways (x l : Rat) : termE x l = 4 ∨ termE x l = 0 := by unfold termE; split <;> simp

set_option maxRecDepth 100000 in
set_option maxHeartbeats 1000000 in
theorem ref04_Check_one (x : Rat) (l : Nat) (ht : TermR x l) {rest : List Value} {cap : Nat} (g : Nat) (t : TypeId) (w : World) (hE : Env w) (hb : Blk w g (.string ⟨(rstr x).toArray⟩ :: .string ⟨(Lib.itoa (l : Int)).toArray⟩ :: rest) t) :
    Calls Tryz.prog 109 #[.slice (some ⟨g, 0, none⟩) 1 cap] w fun e w' => e = .returned (.int .i64 (termE x (l : Rat))) ∧ Q w w' := by
  have HC := Lib.hid (fun w hw => ref04_checkTerm x l ht w hw)
  have hway := termE_ways x (l : Rat)
  rw [show (if 60 < longV x ∨ 40 < longV (l : Rat) then (4 : Int) else 0) = termE x (l : Rat) from rfl] at HC
  generalize termE x (l : Rat) = r at *
  generalize rstr x = X at *
  generalize Lib.itoa (l : Int) = L at *
  clear ht
  have HB := Lib.hid (fun W (h : Q w W) => hb.keep h hb.lt)
  rcases hway with rfl | rfl
  · go_enter Tryz.func109, Tryz.ntmps109
    go_wp2
    go_loopw [3] (fun i wr => i = .int .i64 0 ∧ Q w wr) (fun i _ => 0)
    case atStart => exact ⟨rfl, Below.refl _ _⟩
    case round =>
      obtain ⟨rfl, hQ⟩ := hrel
      have c0 := (HB.out wr hQ).cell 0
      have c1 := (HB.out wr hQ).cell 1
      simp only [List.getElem?_cons_zero, List.getElem?_cons_succ] at c0 c1
      go_wp2_with fail
      refine (HC.out _ (hE.q hQ)).mono ?_
      rintro e w1 ⟨rfl, hq1⟩
      go_wp2
      go_ret
      exact ⟨rfl, Q.trans hQ hq1⟩
  · go_enter Tryz.func109, Tryz.ntmps109
    go_wp2
    go_loopw [3] (fun i wr => (i = .int .i64 0 ∨ i = .int .i64 1) ∧ Q w wr) (fun i _ => 1 - (intOf i).toNat)
    case atStart => exact ⟨.inl rfl, Below.refl _ _⟩
    case round =>
      obtain ⟨rfl | rfl, hQ⟩ := hrel
      · have c0 := (HB.out wr hQ).cell 0
        have c1 := (HB.out wr hQ).cell 1
        simp only [List.getElem?_cons_zero, List.getElem?_cons_succ] at c0 c1
        go_wp2_with fail
        refine (HC.out _ (hE.q hQ)).mono ?_
        rintro e w1 ⟨rfl, hq1⟩
        have hQ1 := Q.trans hQ hq1
        go_wp2
        try go_quiet (fail)
        go_wp2
        go_loopw [5] (fun k wi => k = .int .i64 0 ∧ Q w1 wi) (fun k _ => 0)
        case atStart => exact ⟨rfl, (by repeat (first | exact Below.refl _ _ | assumption | refine below_drewN ?_ _ | refine Below.drew ?_ | refine Below.alloc ?_ (by first | (simp; done) | (simp; omega)) _ | refine Below.setCell ?_ (by first | (simp; done) | (simp; omega)) _))⟩
        case round =>
          obtain ⟨rfl, hq2⟩ := hrel
          have hQ2 := Q.trans hQ1 hq2
          go_wp2
          go_roundw
          case rel => exact ⟨.inr rfl, hQ2⟩
          case measure => simp [intOf]
      · go_wp2
        go_ret
        exact ⟨rfl, hQ⟩

end Go.Proofs.YtgkikkabmcihhaaGreatDoor

namespace Go.Proofs.YtgkikkabmcihhaaGreatDoor
open Go.RowKit Kp
open Go.Lib (decDigits)

theorem depth_pos {k : Nat} (h1 : 1 ≤ k) : 0 < (Rat.divInt (k : Int) (1 : Nat)).num := divInt_num_pos (by omega) (by decide)
theorem infoClass4 : (Tryz.prog.info? 143).map (fun i => (i.zero, i.size, i.bytes)) = some (some (.agg #[.string ⟨#[]⟩, .string ⟨#[]⟩]), 2, 32) := by kernel_rfl
theorem infoTerm4 : (Tryz.prog.info? 66).map (fun i => (i.zero, i.size, i.bytes)) = some (some (.agg #[.string ⟨#[]⟩, .string ⟨#[]⟩]), 2, 32) := by kernel_rfl

/-- What Make does with its one term: the root's factor and what is left (1 and 1 at the root 1). -/
theorem ref04_mul_root (c r : Rat) (hc : Bd 4 c) (hcp : 0 < c.num) (hr : Bd 42 r) (hp : 0 < r.num) (w : World) (hE : Env w) :
    Calls Tryz.prog 95 #[.string ⟨(rstr c).toArray⟩, .string ⟨(rstr (aOf r)).toArray⟩] w fun e w' => e = .returned (.tuple #[.string ⟨(rstr (c * aOf r)).toArray⟩, .int .i64 0]) ∧ Q w w' := by
  have ba := aOf_bd hr hp
  obtain ⟨h1, -⟩ := nd_lt hr hp
  have hap : 0 < (aOf r).num := by
    unfold aOf
    exact divInt_num_pos (by have := (normM_spec h1).2.1; omega) r.den_pos
  exact ref02_Mul c (aOf r) (by omega) (hc.rlim (by decide)) (ba.rlim (by decide)) (lim_bd (natAbs_mul_lt hc.1 ba.1) (by decide)) (lim_bd (n := 4 + (42 + 42)) (by rw [← Int.natCast_mul, Int.natAbs_natCast]; exact den_mul_lt hc ba) (by decide)) w hE

set_option maxRecDepth 100000 in
set_option maxHeartbeats 4000000 in
theorem ref04_Make_root (c r : Rat) (hc : Bd 4 c) (hcp : 0 < c.num) (hc0 : c ≠ 0) (hr : Bd 42 r) (hp : 0 < r.num) {rest : List Value} {cap : Nat} (b : Nat) (t : TypeId) (w : World) (hE : Env w) (hb : Blk w b (.string ⟨(rstr c).toArray⟩ :: .string ⟨(rstr r).toArray⟩ :: rest) t) :
    Calls Tryz.prog 50 #[.slice (some ⟨b, 0, none⟩) 1 cap] w (MakeEnd w (c * aOf r) (lOf r)) := by
  have l0 := hb.lt
  have ba := aOf_bd hr hp
  have bl := lOf_bd hr hp (by decide)
  have hx0 : c * aOf r ≠ 0 := fun e => by
    rcases Rat.mul_eq_zero.1 e with h | h
    · exact hc0 h
    · exact aOf_ne hr hp h
  have ht : TermR (c * aOf r) (leftOf r) := ⟨(hc.mul ba).rlim (by decide), hx0, left_pos r hp, bl⟩
  have hcr := hc.rlim (by decide)
  have hrr := hr.rlim (by decide)
  have hlr := bl.rlim (by decide)
  have HC1 := Lib.hid (fun w hw => ref02_Check_num c hcr w hw)
  have HC2 := Lib.hid (fun w hw => ref02_Check_num r hrr w hw)
  have HCP := Lib.hid (fun w hw => ref04_compare_pos r hp hrr w hw)
  have hN := fun w hw => ref03_Normal r (hr.root90 (by decide)) hp w hw
  rw [show Rat.divInt (normM (r.num.toNat * r.den)).1 r.den = aOf r from rfl, show ((normM (r.num.toNat * r.den)).2 : Int) = (leftOf r : Int) from rfl] at hN
  have HN := Lib.hid hN
  have hL := fun w hw => ref04_long (lOf r) hlr 90 w hw
  rw [decide_eq_false (by have := longV_bd bl (by decide); omega), lOf_left, rstr_nat] at hL
  have HL := Lib.hid hL
  have HM := Lib.hid (fun w hw => ref04_mul_root c r hc hcp hr hp w hw)
  have HK := Lib.hid (fun rest cap g t w hw hb => ref04_Check_one (c * aOf r) (leftOf r) ht (rest := rest) (cap := cap) g t w hw hb)
  have hc48 := rstr_ne48 hc0
  have hr48 := rstr_ne48 (x := r) (fun e => by rw [e] at hp; exact absurd hp (by decide))
  have hx48 := rstr_ne48 hx0
  have hx48' := bne_of_f hx48
  have hone : ((rstr r == [49]) = true ∧ rstr (aOf r) = [49] ∧ Lib.itoa (leftOf r : Int) = [49]) ∨ (rstr r == [49]) = false := by
    by_cases h : r = 1
    · refine .inl ⟨by rw [h, rstr_one]; rfl, by rw [h, aOf_one, rstr_one], ?_⟩
      have e := lOf_one
      rw [lOf_left] at e
      rw [h, ← rstr_nat, e, rstr_one]
    · refine .inr ?_
      rw [beq_eq_false_iff_ne, ← rstr_one]; exact fun e => h (rstr_inj e)
  have hend : ∀ e w', (Q w w' ∧ ((termE (c * aOf r) (leftOf r : Rat) = 0 ∧ ∃ v, e = .returned (.tuple #[v, .int .i64 0]) ∧ w'.ownsRow w.heap.size 66 2 v 1 [.string ⟨(rstr (c * aOf r)).toArray⟩, .string ⟨(Lib.itoa (leftOf r : Int)).toArray⟩]) ∨ (termE (c * aOf r) (leftOf r : Rat) = 4 ∧ e = .returned (.tuple #[.slice none 0 0, .int .i64 4])))) → MakeEnd w (c * aOf r) (lOf r) e w' := by
    rintro e w' ⟨hq, h⟩
    refine ⟨hq, ?_⟩
    rw [lOf_left, rstr_nat]
    by_cases h2 : 60 < longV (c * aOf r) ∨ 40 < longV (leftOf r : Rat)
    · have e4 : termE (c * aOf r) (leftOf r : Rat) = 4 := if_pos h2
      rcases h with ⟨h0, -⟩ | ⟨-, h⟩
      · rw [e4] at h0; cases h0
      · exact .inr ⟨h2, h⟩
    · have e4 : termE (c * aOf r) (leftOf r : Rat) = 0 := if_neg h2
      rcases h with ⟨-, h⟩ | ⟨h0, -⟩
      · exact .inl ⟨by omega, by omega, h⟩
      · rw [e4] at h0; cases h0
  refine Calls.mono ?_ hend
  have hte := termE_ways (c * aOf r) (leftOf r : Rat)
  clear hend hN hL ht hx0 hcr hrr hlr ba bl
  generalize termE (c * aOf r) (leftOf r : Rat) = te at *
  generalize rstr (c * aOf r) = X at *
  generalize rstr (aOf r) = A at *
  generalize Lib.itoa (leftOf r : Int) = L at *
  generalize rstr c = C at *
  generalize rstr r = R at *
  obtain ⟨i0, hi, hz0, hz1, hz2⟩ := info_of infoClass4
  obtain ⟨j0, hj, hy0, hy1, hy2⟩ := info_of infoTerm4
  have HI := Lib.hid hi
  have HZ := Lib.hid hz0
  have HS := Lib.hid hz1
  have HB := Lib.hid hz2
  have JI := Lib.hid hj
  have JZ := Lib.hid hy0
  have JS := Lib.hid hy1
  have JB := Lib.hid hy2
  clear hi hz0 hz1 hz2 hj hy0 hy1 hy2 hc hcp hc0 hr hp
  have HBk := Lib.hid (fun W (h : Q w W) => hb.keep h l0)
  rcases hone with ⟨hR1, rfl, rfl⟩ | hR1
  · have hR2 := bne_of_t hR1
    go_enter Tryz.func50, Tryz.ntmps50
    go_wp2
    go_loopw [4] (fun i wr => (i = .int .i64 0 ∨ i = .int .i64 1) ∧ Q w wr) (fun i _ => 1 - (intOf i).toNat)
    case atStart => exact ⟨.inl rfl, Below.refl _ _⟩
    case round =>
      obtain ⟨rfl | rfl, hQ⟩ := hrel
      · have c0 := (HBk.out wr hQ).cell 0
        simp only [List.getElem?_cons_zero] at c0
        go_wp2_with fail
        refine (HC1.out _ (hE.q hQ)).mono ?_
        rintro e w1 ⟨rfl, hq1⟩
        have hQ1 := Q.trans hQ hq1
        have c1 := (HBk.out w1 hQ1).cell 1
        simp only [List.getElem?_cons_zero, List.getElem?_cons_succ] at c1
        go_wp2_with fail
        refine (HC2.out _ (hE.q hQ1)).mono ?_
        rintro e w2 ⟨rfl, hq2⟩
        have hQ2 := Q.trans hQ1 hq2
        have c1 := (HBk.out w2 hQ2).cell 1
        simp only [List.getElem?_cons_zero, List.getElem?_cons_succ] at c1
        go_wp2_with fail
        refine (HCP.out _ (hE.q hQ2)).mono ?_
        rintro e w3 ⟨rfl, hq3⟩
        have hQ3 := Q.trans hQ2 hq3
        go_wp2
        go_roundw
        case rel => exact ⟨.inr rfl, hQ3⟩
        case measure => simp [intOf]
      · have hrow0 := World.ownsRow_lit (base := w.heap.size) (e := 143) (size := 2) wr #[] 0 hQ.size (by decide) (by decide)
        have hqa : Q w (wr.alloc (.cells #[] 143)) := hQ.alloc hQ.size _
        go_wp2_with fail
        clear HC1 HC2 HCP
        generalize wr.heap.size = g0 at *
        generalize wr.alloc (Obj.cells #[] 143) = W0 at *
        clear hQ
        go_loopw [7, 8] (fun all i wi => (∃ g n c, all = .slice (some ⟨g, 0, none⟩) n c ∧ i = .int .i64 0 ∧ Q w wi ∧ wi.ownsRow w.heap.size 143 2 all n [] ∧ Hid (n = 0)) ∨ (∃ g cp, all = .slice (some ⟨g, 0, none⟩) 1 cp ∧ i = .int .i64 1 ∧ Q w wi ∧ wi.ownsRow w.heap.size 143 2 all 1 [.string ⟨X.toArray⟩, .string ⟨[49].toArray⟩])) (fun _ i _ => 1 - (intOf i).toNat)
        case atStart => exact .inl ⟨_, 0, 0, rfl, rfl, hqa, hrow0, Lib.hid rfl⟩
        case round =>
          rcases hrel with ⟨g, n, cz, rfl, rfl, hQ1, hrow, HZ0⟩ | ⟨g, cp, rfl, rfl, hQ1, hown⟩
          · have c0 := (HBk.out wr hQ1).cell 0
            have c1 := (HBk.out wr hQ1).cell 1
            simp only [List.getElem?_cons_zero, List.getElem?_cons_succ] at c0 c1
            go_wp2_with fail
            refine (HM.out _ (hE.q hQ1)).mono ?_
            rintro e w3 ⟨rfl, hq3⟩
            have hQ4 := Q.trans hQ1 hq3
            have hrow3 := ownsRow_keep hrow hq3
            clear c0 c1 hrow hq3 hQ1
            have BT := Blk.new w3 [.string ⟨X.toArray⟩, .string ⟨[49].toArray⟩] 143
            have hqb : Q w (w3.alloc (Obj.cells [.string ⟨X.toArray⟩, .string ⟨[49].toArray⟩].toArray 143)) := hQ4.alloc hQ4.size _
            have hrow4 := hrow3.alloc (Obj.cells [.string ⟨X.toArray⟩, .string ⟨[49].toArray⟩].toArray 143)
            have hsz : (w3.alloc (Obj.cells [.string ⟨X.toArray⟩, .string ⟨[49].toArray⟩].toArray 143)).heap.size = w3.heap.size + 1 := by simp
            go_wp2_with fail
            have b0 := BT.cell 0
            have b1 := BT.cell 1
            simp only [List.getElem?_cons_zero, List.getElem?_cons_succ] at b0 b1
            have hnew := Blk.new (w3.alloc (Obj.cells [.string ⟨X.toArray⟩, .string ⟨[49].toArray⟩].toArray 143)) [.string ⟨X.toArray⟩, .string ⟨[49].toArray⟩] 143
            rw [hsz] at hnew
            have hrow5 := hrow4.alloc (Obj.cells [.string ⟨X.toArray⟩, .string ⟨[49].toArray⟩].toArray 143)
            obtain ⟨W5, hW5⟩ : ∃ W, W = w3.alloc (Obj.cells [.string ⟨X.toArray⟩, .string ⟨[49].toArray⟩].toArray 143) := ⟨_, rfl⟩
            go_loopw [17, 18] (fun f k wi => f = .bool false ∧ k = .int .i64 0 ∧ wi = W5) (fun _ _ _ => 0)
            case atStart => exact ⟨rfl, rfl, hW5.symm⟩
            case round =>
              obtain ⟨rfl, rfl, rfl⟩ := hrel
              subst hW5
              have hzz : w.heap.size ≤ w3.heap.size := hQ4.size
              have hn1 : ¬ (0 : Int) < (n : Int) := by have := HZ0.out; omega
              have hn2 : n + 1 ≤ maxLen := by have := HZ0.out; subst this; decide
              have hn3 : (n + 1) * 32 ≤ 140737488355328 := by have := HZ0.out; subst this; decide
              go_wp2_with (at_builtin; refine wpList_append_lies _ (by rfl) (.tmp 153) (.tmp 155) 140 (by rfl) w.heap.size 143 i0 _ 2 32 Tryz.underlying140 HI.out HZ.out HS.out HB.out rfl (by decide) (.slice (some ⟨g, 0, none⟩) n cz) n [] (by rfl) hrow5 ⟨w3.heap.size + 1, 0, none⟩ 1 1 [.string ⟨X.toArray⟩, .string ⟨[49].toArray⟩] (by rfl) (by rfl) (World.news_of_block (cs := #[.string ⟨X.toArray⟩, .string ⟨[49].toArray⟩]) (t := 143) (fr := (0, 0)) hnew) (by simp [Value.oneCell']) (by decide) hn2 hn3 (by simp; omega) (w3.heap.size + 2) (by simp) ?_; intro g4 cap4 w4 hown4 hgrow4 hat4 hlt4)
              obtain rfl := HZ0.out
              have hqc := hqb.alloc hqb.size (Obj.cells [.string ⟨X.toArray⟩, .string ⟨[49].toArray⟩].toArray 143)
              exact ⟨.inr ⟨g4, cap4, rfl, rfl, hqc.grown hgrow4 (by simp; omega) (by rintro k ⟨⟩; exact (hrow5.lt _ rfl).1), hown4⟩, by simp [intOf]⟩
          · have orow0 := World.ownsRow_lit (base := w.heap.size) (e := 66) (size := 2) wr #[] 0 hQ1.size (by decide) (by decide)
            have hqo : Q w (wr.alloc (.cells #[] 66)) := hQ1.alloc hQ1.size _
            have hown0 := hown.alloc (Obj.cells #[] 66)
            clear hown
            go_wp2_with fail
            generalize wr.heap.size = h0 at *
            generalize wr.alloc (Obj.cells #[] 66) = W6 at *
            clear hQ1 HN HL HM
            go_loopw [7, 21] (fun all o wi => (∃ g cp h n cz, all = .slice (some ⟨g, 0, none⟩) 1 cp ∧ o = .slice (some ⟨h, 0, none⟩) n cz ∧ Hid (n = 0) ∧ Q w wi ∧ wi.ownsRow w.heap.size 143 2 all 1 [.string ⟨X.toArray⟩, .string ⟨[49].toArray⟩] ∧ wi.ownsRow w.heap.size 66 2 o n []) ∨ (∃ a cp h cz, all = .slice a 0 cp ∧ o = .slice (some ⟨h, 0, none⟩) 1 cz ∧ Q w wi ∧ wi.ownsRow w.heap.size 66 2 o 1 [.string ⟨X.toArray⟩, .string ⟨[49].toArray⟩])) (fun all _ _ => slLen all)
            case atStart => exact .inl ⟨_, _, _, 0, 0, rfl, rfl, Lib.hid rfl, hqo, hown0, orow0⟩
            case round =>
              rcases hrel with ⟨g, cp, h, n, cz, rfl, rfl, HZ1, hQ2, hown, orow⟩ | ⟨a, cp, h, cz, rfl, rfl, hQ2, orow⟩
              · have e0 := hown.cellAt 0 (by omega)
                have e1 := hown.cellAt 1 (by omega)
                have ef := hown.frozenAt 0
                have ef1 := hown.frozenAt 1
                simp only [List.getElem?_cons_zero, List.getElem?_cons_succ] at e0 e1
                go_wp2_with fail
                go_loopw [22, 23] (fun m k wi => m = .int .i64 0 ∧ k = .int .i64 1 ∧ wi = wr) (fun _ _ _ => 0)
                case atStart => exact ⟨rfl, rfl, rfl⟩
                case round =>
                  obtain ⟨rfl, rfl, rfl⟩ := hrel
                  go_wp2_with fail
                  refine wp_steadily 13 rfl (by kernel_rfl) rfl ?_
                  refine steadily_value (i := 0) (v := ?_) rfl rfl (by kernel_rfl) (by kernel_rfl) (fun _ _ _ h => h) (by rfl) ?_ ?_
                  rotate_left
                  · (intro w' hq; go_simp; try with_reducible rfl)
                  simp only [Act.put, List.setIfInBounds_toArray, List.set_cons_zero, List.set_cons_succ]
                  refine steadily_value (i := 1) (v := ?_) rfl rfl (by kernel_rfl) (by kernel_rfl) (fun _ _ _ h => h) (by rfl) ?_ ?_
                  rotate_left
                  · (intro w' hq; go_simp; try with_reducible rfl)
                  simp only [Act.put, List.setIfInBounds_toArray, List.set_cons_zero, List.set_cons_succ]
                  refine steadily_value (i := 2) (v := ?_) rfl rfl (by kernel_rfl) (by kernel_rfl) (fun _ _ _ h => h) (by rfl) ?_ ?_
                  rotate_left
                  · (intro w' hq; go_simp; try with_reducible rfl)
                  simp only [Act.put, List.setIfInBounds_toArray, List.set_cons_zero, List.set_cons_succ]
                  refine steadily_value (i := 3) (v := ?_) rfl rfl (by kernel_rfl) (by kernel_rfl) (fun _ _ _ h => h) (by rfl) ?_ ?_
                  rotate_left
                  · (intro w' hq; go_simp; try with_reducible rfl)
                  simp only [Act.put, List.setIfInBounds_toArray, List.set_cons_zero, List.set_cons_succ]
                  refine steadily_value (i := 4) (v := ?_) rfl rfl (by kernel_rfl) (by kernel_rfl) (fun _ _ _ h => h) (by rfl) ?_ ?_
                  rotate_left
                  · (intro w' hq; go_simp; try with_reducible rfl)
                  simp only [Act.put, List.setIfInBounds_toArray, List.set_cons_zero, List.set_cons_succ]
                  refine steadily_value (i := 5) (v := ?_) rfl rfl (by kernel_rfl) (by kernel_rfl) (fun _ _ _ h => h) (by rfl) ?_ ?_
                  rotate_left
                  · (intro w' hq; have hc0 := qcell hq e0; go_simp; try with_reducible rfl)
                  simp only [Act.put, List.setIfInBounds_toArray, List.set_cons_zero, List.set_cons_succ]
                  refine steadily_value (i := 6) (v := ?_) rfl rfl (by kernel_rfl) (by kernel_rfl) (fun _ _ _ h => h) (by rfl) ?_ ?_
                  rotate_left
                  · (intro w' hq; go_simp; try with_reducible rfl)
                  simp only [Act.put, List.setIfInBounds_toArray, List.set_cons_zero, List.set_cons_succ]
                  refine steadily_value (i := 7) (v := ?_) rfl rfl (by kernel_rfl) (by kernel_rfl) (fun _ _ _ h => h) (by rfl) ?_ ?_
                  rotate_left
                  · (intro w' hq; go_simp; try with_reducible rfl)
                  simp only [Act.put, List.setIfInBounds_toArray, List.set_cons_zero, List.set_cons_succ]
                  refine steadily_value (i := 8) (v := ?_) rfl rfl (by kernel_rfl) (by kernel_rfl) (fun _ _ _ h => h) (by rfl) ?_ ?_
                  rotate_left
                  · (intro w' hq; go_simp; try with_reducible rfl)
                  simp only [Act.put, List.setIfInBounds_toArray, List.set_cons_zero, List.set_cons_succ]
                  refine steadily_value (i := 9) (v := ?_) rfl rfl (by kernel_rfl) (by kernel_rfl) (fun _ _ _ h => h) (by rfl) ?_ ?_
                  rotate_left
                  · (intro w' hq; go_simp; try with_reducible rfl)
                  simp only [Act.put, List.setIfInBounds_toArray, List.set_cons_zero, List.set_cons_succ]
                  refine steadily_value (i := 10) (v := ?_) rfl rfl (by kernel_rfl) (by kernel_rfl) (fun _ _ _ h => h) (by rfl) ?_ ?_
                  rotate_left
                  · (intro w' hq; have hc0 := qcell hq e1; go_simp; try with_reducible rfl)
                  simp only [Act.put, List.setIfInBounds_toArray, List.set_cons_zero, List.set_cons_succ]
                  refine steadily_value (i := 11) (v := ?_) rfl rfl (by kernel_rfl) (by kernel_rfl) (fun _ _ _ h => h) (by rfl) ?_ ?_
                  rotate_left
                  · (intro w' hq; go_simp; try with_reducible rfl)
                  simp only [Act.put, List.setIfInBounds_toArray, List.set_cons_zero, List.set_cons_succ]
                  refine steadily_make (i := 12) (fun w' => .slice (some ⟨w'.heap.size, 0, none⟩) 1 1) (.cells #[.string ⟨X.toArray⟩, .string ⟨[49].toArray⟩] 66) rfl rfl (by kernel_rfl) (by rfl) (fun w' hq => ?_) (fun w7 hq7 => ?_)
                  · go_simp; try with_reducible rfl
                  simp only [Act.put, List.setIfInBounds_toArray, List.set_cons_zero, List.set_cons_succ]
                  refine steadily_done (by kernel_rfl) (fun w8 hq8 => ?_)
                  simp only [List.drop_succ_cons, List.drop_zero]
                  have hnew := (Blk.new w7 [.string ⟨X.toArray⟩, .string ⟨[49].toArray⟩] 66).keep hq8 (by simp)
                  have hq18 : Q wr w8 := Q.trans (Q.trans (Q.trans (Below.drew (Q.refl wr)) hq7) ((Below.refl _ w7).alloc (Nat.le_refl _) _)) hq8
                  have hQ8 := Q.trans hQ2 hq18
                  have orow8 := ownsRow_keep orow hq18
                  have hzz : w.heap.size ≤ w8.heap.size := hQ8.size
                  have hn2 : n + 1 ≤ maxLen := by have := HZ1.out; subst this; decide
                  have hn3 : (n + 1) * 32 ≤ 140737488355328 := by have := HZ1.out; subst this; decide
                  clear e0 e1 ef ef1 hq8 hq7 orow hown
                  go_wp2_with (at_builtin; refine wpList_append_lies _ (by rfl) (.tmp 186) (.tmp 198) 25 (by rfl) w.heap.size 66 j0 _ 2 32 Tryz.underlying25 JI.out JZ.out JS.out JB.out rfl (by decide) (.slice (some ⟨h, 0, none⟩) n cz) n [] (by rfl) orow8 ⟨w7.heap.size, 0, none⟩ 1 1 [.string ⟨X.toArray⟩, .string ⟨[49].toArray⟩] (by rfl) (by rfl) (World.news_of_block (cs := #[.string ⟨X.toArray⟩, .string ⟨[49].toArray⟩]) (t := 66) (fr := (0, 0)) hnew) (by simp [Value.oneCell']) (by decide) hn2 hn3 hzz w8.heap.size rfl ?_; intro g4 cap4 w4 hown4 hgrow4 hat4 hlt4)
                  obtain rfl := HZ1.out
                  have hQ9 := hQ8.grown hgrow4 hzz (by rintro k ⟨⟩; exact (orow8.lt _ rfl).1)
                  refine wp_steadily 11 rfl (by kernel_rfl) rfl ?_
                  have hw11 := Go.IntWalk.i64_in (1 : Int) (by omega)
                  refine steadily_value (i := 1) (v := ?_) rfl rfl (by kernel_rfl) (by kernel_rfl) (fun _ _ _ h => h) (by rfl) ?_ ?_
                  rotate_left
                  · (intro w' hq; go_simp; try with_reducible rfl)
                  simp only [Act.put, List.setIfInBounds_toArray, List.set_cons_zero, List.set_cons_succ]
                  refine steadily_value (i := 2) (v := ?_) rfl rfl (by kernel_rfl) (by kernel_rfl) (fun _ _ _ h => h) (by rfl) ?_ ?_
                  rotate_left
                  · (intro w' hq; go_simp; try with_reducible rfl)
                  simp only [Act.put, List.setIfInBounds_toArray, List.set_cons_zero, List.set_cons_succ]
                  refine steadily_value (i := 3) (v := ?_) rfl rfl (by kernel_rfl) (by kernel_rfl) (fun _ _ _ h => h) (by rfl) ?_ ?_
                  rotate_left
                  · (intro w' hq; go_simp; try with_reducible rfl)
                  simp only [Act.put, List.setIfInBounds_toArray, List.set_cons_zero, List.set_cons_succ]
                  refine steadily_value (i := 5) (v := ?_) rfl rfl (by kernel_rfl) (by kernel_rfl) (fun _ _ _ h => h) (by rfl) ?_ ?_
                  rotate_left
                  · (intro w' hq; go_simp; try with_reducible rfl)
                  simp only [Act.put, List.setIfInBounds_toArray, List.set_cons_zero, List.set_cons_succ]
                  refine steadily_value (i := 6) (v := ?_) rfl rfl (by kernel_rfl) (by kernel_rfl) (fun _ _ _ h => h) (by rfl) ?_ ?_
                  rotate_left
                  · (intro w' hq; go_simp; try with_reducible rfl)
                  simp only [Act.put, List.setIfInBounds_toArray, List.set_cons_zero, List.set_cons_succ]
                  refine steadily_value (i := 7) (v := ?_) rfl rfl (by kernel_rfl) (by kernel_rfl) (fun _ _ _ h => h) (by rfl) ?_ ?_
                  rotate_left
                  · (intro w' hq; go_simp; try with_reducible rfl)
                  simp only [Act.put, List.setIfInBounds_toArray, List.set_cons_zero, List.set_cons_succ]
                  refine steadily_value (i := 8) (v := ?_) rfl rfl (by kernel_rfl) (by kernel_rfl) (fun _ _ _ h => h) (by rfl) ?_ ?_
                  rotate_left
                  · (intro w' hq; go_simp; try with_reducible rfl)
                  simp only [Act.put, List.setIfInBounds_toArray, List.set_cons_zero, List.set_cons_succ]
                  have had : ∀ (p q : Addr), (if cp = 1 then some p else some q) = some (if cp = 1 then p else q) := fun p q => by split <;> rfl
                  rw [had]
                  clear had
                  generalize (if cp = 1 then (⟨g, 0, none⟩ : Addr) else ⟨g, 2, none⟩) = ad
                  refine steadily_make (i := 0) (fun w' => .slice (some ⟨w'.heap.size, 0, none⟩) 0 0) (.cells #[] 143) rfl rfl (by kernel_rfl) (by rfl) (fun w' hq => ?_) (fun w5 hq5 => ?_)
                  · go_simp; try with_reducible rfl
                  simp only [Act.put, List.setIfInBounds_toArray, List.set_cons_zero, List.set_cons_succ]
                  refine steadily_value (i := 4) (v := ?_) rfl rfl (by kernel_rfl) (by kernel_rfl) (fun _ _ _ h => h) (by rfl) ?_ ?_
                  rotate_left
                  · (intro w' hq; go_simp; try with_reducible rfl)
                  simp only [Act.put, List.setIfInBounds_toArray, List.set_cons_zero, List.set_cons_succ]
                  refine steadily_value (i := 9) (v := ?_) rfl rfl (by kernel_rfl) (by kernel_rfl) (fun _ _ _ h => h) (by rfl) ?_ ?_
                  rotate_left
                  · (intro w' hq; go_simp; try with_reducible rfl)
                  simp only [Act.put, List.setIfInBounds_toArray, List.set_cons_zero, List.set_cons_succ]
                  refine steadily_value (i := 10) (v := ?_) rfl rfl (by kernel_rfl) (by kernel_rfl) (fun _ _ _ h => h) (by rfl) ?_ ?_
                  rotate_left
                  · (intro w' hq; go_simp; try with_reducible rfl)
                  simp only [Act.put, List.setIfInBounds_toArray, List.set_cons_zero, List.set_cons_succ]
                  refine steadily_done (by kernel_rfl) (fun w6 hq6 => ?_)
                  simp only [List.drop_succ_cons, List.drop_nil]
                  have hq46 : Q w4 w6 := Q.trans (Q.trans (Q.trans (Below.drew (Q.refl w4)) hq5) ((Below.refl _ w5).alloc (Nat.le_refl _) _)) hq6
                  have hQ6 := Q.trans hQ9 hq46
                  have hown6 := ownsRow_keep hown4 hq46
                  clear hq5 hq6 hq46 hown4 hgrow4 hat4 hlt4 hQ9
                  go_wp2
                  go_roundw
                  case rel => exact .inr ⟨_, _, _, _, rfl, rfl, hQ6, hown6⟩
                  case measure => simp [slLen]
              · obtain ⟨h', cz', rs, heq, -, hblk⟩ := row_blk orow
                obtain ⟨rfl, -⟩ : h' = h ∧ cz' = cz := by
                  injection heq with e1 e2 e3
                  injection e1 with e1
                  injection e1 with e1
                  exact ⟨e1.symm, e3.symm⟩
                have HK1 := Lib.hid (fun hw => HK.out rs cz h' 66 wr hw hblk)
                clear HK heq hblk
                rcases hte with rfl | rfl
                · go_wp2_with fail
                  refine (HK1.out (hE.q hQ2)).mono ?_
                  rintro e w9 ⟨rfl, hq9⟩
                  have hQ9 := Q.trans hQ2 hq9
                  go_wp2
                  go_ret2
                  exact ⟨hQ9, rfl⟩
                · go_wp2_with fail
                  refine (HK1.out (hE.q hQ2)).mono ?_
                  rintro e w9 ⟨rfl, hq9⟩
                  have hQ9 := Q.trans hQ2 hq9
                  have orow9 := ownsRow_keep orow hq9
                  go_wp2
                  go_ret2
                  exact ⟨hQ9, _, rfl, orow9⟩
  · have hR2 := bne_of_f hR1
    go_enter Tryz.func50, Tryz.ntmps50
    go_wp2
    go_loopw [4] (fun i wr => (i = .int .i64 0 ∨ i = .int .i64 1) ∧ Q w wr) (fun i _ => 1 - (intOf i).toNat)
    case atStart => exact ⟨.inl rfl, Below.refl _ _⟩
    case round =>
      obtain ⟨rfl | rfl, hQ⟩ := hrel
      · have c0 := (HBk.out wr hQ).cell 0
        simp only [List.getElem?_cons_zero] at c0
        go_wp2_with fail
        refine (HC1.out _ (hE.q hQ)).mono ?_
        rintro e w1 ⟨rfl, hq1⟩
        have hQ1 := Q.trans hQ hq1
        have c1 := (HBk.out w1 hQ1).cell 1
        simp only [List.getElem?_cons_zero, List.getElem?_cons_succ] at c1
        go_wp2_with fail
        refine (HC2.out _ (hE.q hQ1)).mono ?_
        rintro e w2 ⟨rfl, hq2⟩
        have hQ2 := Q.trans hQ1 hq2
        have c1 := (HBk.out w2 hQ2).cell 1
        simp only [List.getElem?_cons_zero, List.getElem?_cons_succ] at c1
        go_wp2_with fail
        refine (HCP.out _ (hE.q hQ2)).mono ?_
        rintro e w3 ⟨rfl, hq3⟩
        have hQ3 := Q.trans hQ2 hq3
        go_wp2
        go_roundw
        case rel => exact ⟨.inr rfl, hQ3⟩
        case measure => simp [intOf]
      · have hrow0 := World.ownsRow_lit (base := w.heap.size) (e := 143) (size := 2) wr #[] 0 hQ.size (by decide) (by decide)
        have hqa : Q w (wr.alloc (.cells #[] 143)) := hQ.alloc hQ.size _
        go_wp2_with fail
        clear HC1 HC2 HCP
        generalize wr.heap.size = g0 at *
        generalize wr.alloc (Obj.cells #[] 143) = W0 at *
        clear hQ
        go_loopw [7, 8] (fun all i wi => (∃ g n c, all = .slice (some ⟨g, 0, none⟩) n c ∧ i = .int .i64 0 ∧ Q w wi ∧ wi.ownsRow w.heap.size 143 2 all n [] ∧ Hid (n = 0)) ∨ (∃ g cp, all = .slice (some ⟨g, 0, none⟩) 1 cp ∧ i = .int .i64 1 ∧ Q w wi ∧ wi.ownsRow w.heap.size 143 2 all 1 [.string ⟨X.toArray⟩, .string ⟨L.toArray⟩])) (fun _ i _ => 1 - (intOf i).toNat)
        case atStart => exact .inl ⟨_, 0, 0, rfl, rfl, hqa, hrow0, Lib.hid rfl⟩
        case round =>
          rcases hrel with ⟨g, n, cz, rfl, rfl, hQ1, hrow, HZ0⟩ | ⟨g, cp, rfl, rfl, hQ1, hown⟩
          · have c0 := (HBk.out wr hQ1).cell 0
            have c1 := (HBk.out wr hQ1).cell 1
            simp only [List.getElem?_cons_zero, List.getElem?_cons_succ] at c0 c1
            go_wp2_with fail
            refine (HN.out _ (hE.q hQ1)).mono ?_
            rintro e w1 ⟨rfl, hq1⟩
            have hQ2 := Q.trans hQ1 hq1
            clear c0 c1
            go_wp2_with fail
            refine (HL.out _ (hE.q hQ2)).mono ?_
            rintro e w2 ⟨rfl, hq2⟩
            have hQ3 := Q.trans hQ2 hq2
            have c0 := (HBk.out w2 hQ3).cell 0
            simp only [List.getElem?_cons_zero] at c0
            go_wp2_with fail
            refine (HM.out _ (hE.q hQ3)).mono ?_
            rintro e w3 ⟨rfl, hq3⟩
            have hQ4 := Q.trans hQ3 hq3
            have hrow3 := ownsRow_keep (ownsRow_keep (ownsRow_keep hrow hq1) hq2) hq3
            clear c0 hrow hq1 hq2 hq3 hQ1 hQ2 hQ3
            have BT := Blk.new w3 [.string ⟨X.toArray⟩, .string ⟨L.toArray⟩] 143
            have hqb : Q w (w3.alloc (Obj.cells [.string ⟨X.toArray⟩, .string ⟨L.toArray⟩].toArray 143)) := hQ4.alloc hQ4.size _
            have hrow4 := hrow3.alloc (Obj.cells [.string ⟨X.toArray⟩, .string ⟨L.toArray⟩].toArray 143)
            have hsz : (w3.alloc (Obj.cells [.string ⟨X.toArray⟩, .string ⟨L.toArray⟩].toArray 143)).heap.size = w3.heap.size + 1 := by simp
            go_wp2_with fail
            have b0 := BT.cell 0
            have b1 := BT.cell 1
            simp only [List.getElem?_cons_zero, List.getElem?_cons_succ] at b0 b1
            have hnew := Blk.new (w3.alloc (Obj.cells [.string ⟨X.toArray⟩, .string ⟨L.toArray⟩].toArray 143)) [.string ⟨X.toArray⟩, .string ⟨L.toArray⟩] 143
            rw [hsz] at hnew
            have hrow5 := hrow4.alloc (Obj.cells [.string ⟨X.toArray⟩, .string ⟨L.toArray⟩].toArray 143)
            obtain ⟨W5, hW5⟩ : ∃ W, W = w3.alloc (Obj.cells [.string ⟨X.toArray⟩, .string ⟨L.toArray⟩].toArray 143) := ⟨_, rfl⟩
            go_loopw [17, 18] (fun f k wi => f = .bool false ∧ k = .int .i64 0 ∧ wi = W5) (fun _ _ _ => 0)
            case atStart => exact ⟨rfl, rfl, hW5.symm⟩
            case round =>
              obtain ⟨rfl, rfl, rfl⟩ := hrel
              subst hW5
              have hzz : w.heap.size ≤ w3.heap.size := hQ4.size
              have hn1 : ¬ (0 : Int) < (n : Int) := by have := HZ0.out; omega
              have hn2 : n + 1 ≤ maxLen := by have := HZ0.out; subst this; decide
              have hn3 : (n + 1) * 32 ≤ 140737488355328 := by have := HZ0.out; subst this; decide
              go_wp2_with (at_builtin; refine wpList_append_lies _ (by rfl) (.tmp 153) (.tmp 155) 140 (by rfl) w.heap.size 143 i0 _ 2 32 Tryz.underlying140 HI.out HZ.out HS.out HB.out rfl (by decide) (.slice (some ⟨g, 0, none⟩) n cz) n [] (by rfl) hrow5 ⟨w3.heap.size + 1, 0, none⟩ 1 1 [.string ⟨X.toArray⟩, .string ⟨L.toArray⟩] (by rfl) (by rfl) (World.news_of_block (cs := #[.string ⟨X.toArray⟩, .string ⟨L.toArray⟩]) (t := 143) (fr := (0, 0)) hnew) (by simp [Value.oneCell']) (by decide) hn2 hn3 (by simp; omega) (w3.heap.size + 2) (by simp) ?_; intro g4 cap4 w4 hown4 hgrow4 hat4 hlt4)
              obtain rfl := HZ0.out
              have hqc := hqb.alloc hqb.size (Obj.cells [.string ⟨X.toArray⟩, .string ⟨L.toArray⟩].toArray 143)
              exact ⟨.inr ⟨g4, cap4, rfl, rfl, hqc.grown hgrow4 (by simp; omega) (by rintro k ⟨⟩; exact (hrow5.lt _ rfl).1), hown4⟩, by simp [intOf]⟩
          · have orow0 := World.ownsRow_lit (base := w.heap.size) (e := 66) (size := 2) wr #[] 0 hQ1.size (by decide) (by decide)
            have hqo : Q w (wr.alloc (.cells #[] 66)) := hQ1.alloc hQ1.size _
            have hown0 := hown.alloc (Obj.cells #[] 66)
            clear hown
            go_wp2_with fail
            generalize wr.heap.size = h0 at *
            generalize wr.alloc (Obj.cells #[] 66) = W6 at *
            clear hQ1 HN HL HM
            go_loopw [7, 21] (fun all o wi => (∃ g cp h n cz, all = .slice (some ⟨g, 0, none⟩) 1 cp ∧ o = .slice (some ⟨h, 0, none⟩) n cz ∧ Hid (n = 0) ∧ Q w wi ∧ wi.ownsRow w.heap.size 143 2 all 1 [.string ⟨X.toArray⟩, .string ⟨L.toArray⟩] ∧ wi.ownsRow w.heap.size 66 2 o n []) ∨ (∃ a cp h cz, all = .slice a 0 cp ∧ o = .slice (some ⟨h, 0, none⟩) 1 cz ∧ Q w wi ∧ wi.ownsRow w.heap.size 66 2 o 1 [.string ⟨X.toArray⟩, .string ⟨L.toArray⟩])) (fun all _ _ => slLen all)
            case atStart => exact .inl ⟨_, _, _, 0, 0, rfl, rfl, Lib.hid rfl, hqo, hown0, orow0⟩
            case round =>
              rcases hrel with ⟨g, cp, h, n, cz, rfl, rfl, HZ1, hQ2, hown, orow⟩ | ⟨a, cp, h, cz, rfl, rfl, hQ2, orow⟩
              · have e0 := hown.cellAt 0 (by omega)
                have e1 := hown.cellAt 1 (by omega)
                have ef := hown.frozenAt 0
                have ef1 := hown.frozenAt 1
                simp only [List.getElem?_cons_zero, List.getElem?_cons_succ] at e0 e1
                go_wp2_with fail
                go_loopw [22, 23] (fun m k wi => m = .int .i64 0 ∧ k = .int .i64 1 ∧ wi = wr) (fun _ _ _ => 0)
                case atStart => exact ⟨rfl, rfl, rfl⟩
                case round =>
                  obtain ⟨rfl, rfl, rfl⟩ := hrel
                  go_wp2_with fail
                  refine wp_steadily 13 rfl (by kernel_rfl) rfl ?_
                  refine steadily_value (i := 0) (v := ?_) rfl rfl (by kernel_rfl) (by kernel_rfl) (fun _ _ _ h => h) (by rfl) ?_ ?_
                  rotate_left
                  · (intro w' hq; go_simp; try with_reducible rfl)
                  simp only [Act.put, List.setIfInBounds_toArray, List.set_cons_zero, List.set_cons_succ]
                  refine steadily_value (i := 1) (v := ?_) rfl rfl (by kernel_rfl) (by kernel_rfl) (fun _ _ _ h => h) (by rfl) ?_ ?_
                  rotate_left
                  · (intro w' hq; go_simp; try with_reducible rfl)
                  simp only [Act.put, List.setIfInBounds_toArray, List.set_cons_zero, List.set_cons_succ]
                  refine steadily_value (i := 2) (v := ?_) rfl rfl (by kernel_rfl) (by kernel_rfl) (fun _ _ _ h => h) (by rfl) ?_ ?_
                  rotate_left
                  · (intro w' hq; go_simp; try with_reducible rfl)
                  simp only [Act.put, List.setIfInBounds_toArray, List.set_cons_zero, List.set_cons_succ]
                  refine steadily_value (i := 3) (v := ?_) rfl rfl (by kernel_rfl) (by kernel_rfl) (fun _ _ _ h => h) (by rfl) ?_ ?_
                  rotate_left
                  · (intro w' hq; go_simp; try with_reducible rfl)
                  simp only [Act.put, List.setIfInBounds_toArray, List.set_cons_zero, List.set_cons_succ]
                  refine steadily_value (i := 4) (v := ?_) rfl rfl (by kernel_rfl) (by kernel_rfl) (fun _ _ _ h => h) (by rfl) ?_ ?_
                  rotate_left
                  · (intro w' hq; go_simp; try with_reducible rfl)
                  simp only [Act.put, List.setIfInBounds_toArray, List.set_cons_zero, List.set_cons_succ]
                  refine steadily_value (i := 5) (v := ?_) rfl rfl (by kernel_rfl) (by kernel_rfl) (fun _ _ _ h => h) (by rfl) ?_ ?_
                  rotate_left
                  · (intro w' hq; have hc0 := qcell hq e0; go_simp; try with_reducible rfl)
                  simp only [Act.put, List.setIfInBounds_toArray, List.set_cons_zero, List.set_cons_succ]
                  refine steadily_value (i := 6) (v := ?_) rfl rfl (by kernel_rfl) (by kernel_rfl) (fun _ _ _ h => h) (by rfl) ?_ ?_
                  rotate_left
                  · (intro w' hq; go_simp; try with_reducible rfl)
                  simp only [Act.put, List.setIfInBounds_toArray, List.set_cons_zero, List.set_cons_succ]
                  refine steadily_value (i := 7) (v := ?_) rfl rfl (by kernel_rfl) (by kernel_rfl) (fun _ _ _ h => h) (by rfl) ?_ ?_
                  rotate_left
                  · (intro w' hq; go_simp; try with_reducible rfl)
                  simp only [Act.put, List.setIfInBounds_toArray, List.set_cons_zero, List.set_cons_succ]
                  refine steadily_value (i := 8) (v := ?_) rfl rfl (by kernel_rfl) (by kernel_rfl) (fun _ _ _ h => h) (by rfl) ?_ ?_
                  rotate_left
                  · (intro w' hq; go_simp; try with_reducible rfl)
                  simp only [Act.put, List.setIfInBounds_toArray, List.set_cons_zero, List.set_cons_succ]
                  refine steadily_value (i := 9) (v := ?_) rfl rfl (by kernel_rfl) (by kernel_rfl) (fun _ _ _ h => h) (by rfl) ?_ ?_
                  rotate_left
                  · (intro w' hq; go_simp; try with_reducible rfl)
                  simp only [Act.put, List.setIfInBounds_toArray, List.set_cons_zero, List.set_cons_succ]
                  refine steadily_value (i := 10) (v := ?_) rfl rfl (by kernel_rfl) (by kernel_rfl) (fun _ _ _ h => h) (by rfl) ?_ ?_
                  rotate_left
                  · (intro w' hq; have hc0 := qcell hq e1; go_simp; try with_reducible rfl)
                  simp only [Act.put, List.setIfInBounds_toArray, List.set_cons_zero, List.set_cons_succ]
                  refine steadily_value (i := 11) (v := ?_) rfl rfl (by kernel_rfl) (by kernel_rfl) (fun _ _ _ h => h) (by rfl) ?_ ?_
                  rotate_left
                  · (intro w' hq; go_simp; try with_reducible rfl)
                  simp only [Act.put, List.setIfInBounds_toArray, List.set_cons_zero, List.set_cons_succ]
                  refine steadily_make (i := 12) (fun w' => .slice (some ⟨w'.heap.size, 0, none⟩) 1 1) (.cells #[.string ⟨X.toArray⟩, .string ⟨L.toArray⟩] 66) rfl rfl (by kernel_rfl) (by rfl) (fun w' hq => ?_) (fun w7 hq7 => ?_)
                  · go_simp; try with_reducible rfl
                  simp only [Act.put, List.setIfInBounds_toArray, List.set_cons_zero, List.set_cons_succ]
                  refine steadily_done (by kernel_rfl) (fun w8 hq8 => ?_)
                  simp only [List.drop_succ_cons, List.drop_zero]
                  have hnew := (Blk.new w7 [.string ⟨X.toArray⟩, .string ⟨L.toArray⟩] 66).keep hq8 (by simp)
                  have hq18 : Q wr w8 := Q.trans (Q.trans (Q.trans (Below.drew (Q.refl wr)) hq7) ((Below.refl _ w7).alloc (Nat.le_refl _) _)) hq8
                  have hQ8 := Q.trans hQ2 hq18
                  have orow8 := ownsRow_keep orow hq18
                  have hzz : w.heap.size ≤ w8.heap.size := hQ8.size
                  have hn2 : n + 1 ≤ maxLen := by have := HZ1.out; subst this; decide
                  have hn3 : (n + 1) * 32 ≤ 140737488355328 := by have := HZ1.out; subst this; decide
                  clear e0 e1 ef ef1 hq8 hq7 orow hown
                  go_wp2_with (at_builtin; refine wpList_append_lies _ (by rfl) (.tmp 186) (.tmp 198) 25 (by rfl) w.heap.size 66 j0 _ 2 32 Tryz.underlying25 JI.out JZ.out JS.out JB.out rfl (by decide) (.slice (some ⟨h, 0, none⟩) n cz) n [] (by rfl) orow8 ⟨w7.heap.size, 0, none⟩ 1 1 [.string ⟨X.toArray⟩, .string ⟨L.toArray⟩] (by rfl) (by rfl) (World.news_of_block (cs := #[.string ⟨X.toArray⟩, .string ⟨L.toArray⟩]) (t := 66) (fr := (0, 0)) hnew) (by simp [Value.oneCell']) (by decide) hn2 hn3 hzz w8.heap.size rfl ?_; intro g4 cap4 w4 hown4 hgrow4 hat4 hlt4)
                  obtain rfl := HZ1.out
                  have hQ9 := hQ8.grown hgrow4 hzz (by rintro k ⟨⟩; exact (orow8.lt _ rfl).1)
                  refine wp_steadily 11 rfl (by kernel_rfl) rfl ?_
                  have hw11 := Go.IntWalk.i64_in (1 : Int) (by omega)
                  refine steadily_value (i := 1) (v := ?_) rfl rfl (by kernel_rfl) (by kernel_rfl) (fun _ _ _ h => h) (by rfl) ?_ ?_
                  rotate_left
                  · (intro w' hq; go_simp; try with_reducible rfl)
                  simp only [Act.put, List.setIfInBounds_toArray, List.set_cons_zero, List.set_cons_succ]
                  refine steadily_value (i := 2) (v := ?_) rfl rfl (by kernel_rfl) (by kernel_rfl) (fun _ _ _ h => h) (by rfl) ?_ ?_
                  rotate_left
                  · (intro w' hq; go_simp; try with_reducible rfl)
                  simp only [Act.put, List.setIfInBounds_toArray, List.set_cons_zero, List.set_cons_succ]
                  refine steadily_value (i := 3) (v := ?_) rfl rfl (by kernel_rfl) (by kernel_rfl) (fun _ _ _ h => h) (by rfl) ?_ ?_
                  rotate_left
                  · (intro w' hq; go_simp; try with_reducible rfl)
                  simp only [Act.put, List.setIfInBounds_toArray, List.set_cons_zero, List.set_cons_succ]
                  refine steadily_value (i := 5) (v := ?_) rfl rfl (by kernel_rfl) (by kernel_rfl) (fun _ _ _ h => h) (by rfl) ?_ ?_
                  rotate_left
                  · (intro w' hq; go_simp; try with_reducible rfl)
                  simp only [Act.put, List.setIfInBounds_toArray, List.set_cons_zero, List.set_cons_succ]
                  refine steadily_value (i := 6) (v := ?_) rfl rfl (by kernel_rfl) (by kernel_rfl) (fun _ _ _ h => h) (by rfl) ?_ ?_
                  rotate_left
                  · (intro w' hq; go_simp; try with_reducible rfl)
                  simp only [Act.put, List.setIfInBounds_toArray, List.set_cons_zero, List.set_cons_succ]
                  refine steadily_value (i := 7) (v := ?_) rfl rfl (by kernel_rfl) (by kernel_rfl) (fun _ _ _ h => h) (by rfl) ?_ ?_
                  rotate_left
                  · (intro w' hq; go_simp; try with_reducible rfl)
                  simp only [Act.put, List.setIfInBounds_toArray, List.set_cons_zero, List.set_cons_succ]
                  refine steadily_value (i := 8) (v := ?_) rfl rfl (by kernel_rfl) (by kernel_rfl) (fun _ _ _ h => h) (by rfl) ?_ ?_
                  rotate_left
                  · (intro w' hq; go_simp; try with_reducible rfl)
                  simp only [Act.put, List.setIfInBounds_toArray, List.set_cons_zero, List.set_cons_succ]
                  have had : ∀ (p q : Addr), (if cp = 1 then some p else some q) = some (if cp = 1 then p else q) := fun p q => by split <;> rfl
                  rw [had]
                  clear had
                  generalize (if cp = 1 then (⟨g, 0, none⟩ : Addr) else ⟨g, 2, none⟩) = ad
                  refine steadily_make (i := 0) (fun w' => .slice (some ⟨w'.heap.size, 0, none⟩) 0 0) (.cells #[] 143) rfl rfl (by kernel_rfl) (by rfl) (fun w' hq => ?_) (fun w5 hq5 => ?_)
                  · go_simp; try with_reducible rfl
                  simp only [Act.put, List.setIfInBounds_toArray, List.set_cons_zero, List.set_cons_succ]
                  refine steadily_value (i := 4) (v := ?_) rfl rfl (by kernel_rfl) (by kernel_rfl) (fun _ _ _ h => h) (by rfl) ?_ ?_
                  rotate_left
                  · (intro w' hq; go_simp; try with_reducible rfl)
                  simp only [Act.put, List.setIfInBounds_toArray, List.set_cons_zero, List.set_cons_succ]
                  refine steadily_value (i := 9) (v := ?_) rfl rfl (by kernel_rfl) (by kernel_rfl) (fun _ _ _ h => h) (by rfl) ?_ ?_
                  rotate_left
                  · (intro w' hq; go_simp; try with_reducible rfl)
                  simp only [Act.put, List.setIfInBounds_toArray, List.set_cons_zero, List.set_cons_succ]
                  refine steadily_value (i := 10) (v := ?_) rfl rfl (by kernel_rfl) (by kernel_rfl) (fun _ _ _ h => h) (by rfl) ?_ ?_
                  rotate_left
                  · (intro w' hq; go_simp; try with_reducible rfl)
                  simp only [Act.put, List.setIfInBounds_toArray, List.set_cons_zero, List.set_cons_succ]
                  refine steadily_done (by kernel_rfl) (fun w6 hq6 => ?_)
                  simp only [List.drop_succ_cons, List.drop_nil]
                  have hq46 : Q w4 w6 := Q.trans (Q.trans (Q.trans (Below.drew (Q.refl w4)) hq5) ((Below.refl _ w5).alloc (Nat.le_refl _) _)) hq6
                  have hQ6 := Q.trans hQ9 hq46
                  have hown6 := ownsRow_keep hown4 hq46
                  clear hq5 hq6 hq46 hown4 hgrow4 hat4 hlt4 hQ9
                  go_wp2
                  go_roundw
                  case rel => exact .inr ⟨_, _, _, _, rfl, rfl, hQ6, hown6⟩
                  case measure => simp [slLen]
              · obtain ⟨h', cz', rs, heq, -, hblk⟩ := row_blk orow
                obtain ⟨rfl, -⟩ : h' = h ∧ cz' = cz := by
                  injection heq with e1 e2 e3
                  injection e1 with e1
                  injection e1 with e1
                  exact ⟨e1.symm, e3.symm⟩
                have HK1 := Lib.hid (fun hw => HK.out rs cz h' 66 wr hw hblk)
                clear HK heq hblk
                rcases hte with rfl | rfl
                · go_wp2_with fail
                  refine (HK1.out (hE.q hQ2)).mono ?_
                  rintro e w9 ⟨rfl, hq9⟩
                  have hQ9 := Q.trans hQ2 hq9
                  go_wp2
                  go_ret2
                  exact ⟨hQ9, rfl⟩
                · go_wp2_with fail
                  refine (HK1.out (hE.q hQ2)).mono ?_
                  rintro e w9 ⟨rfl, hq9⟩
                  have hQ9 := Q.trans hQ2 hq9
                  have orow9 := ownsRow_keep orow hq9
                  go_wp2
                  go_ret2
                  exact ⟨hQ9, _, rfl, orow9⟩

end Go.Proofs.YtgkikkabmcihhaaGreatDoor

namespace Go.Proofs.YtgkikkabmcihhaaGreatDoor
open Go.RowKit Kp
open Go.Lib (decDigits)

theorem ref02_Mul_sq (p : Rat) (hp : Bd 20 p) (w : World) (hE : Env w) :
    Calls Tryz.prog 95 #[.string ⟨(rstr p).toArray⟩, .string ⟨(rstr p).toArray⟩] w fun e w' => e = .returned (.tuple #[.string ⟨(rstr (p * p)).toArray⟩, .int .i64 0]) ∧ Q w w' :=
  ref02_Mul p p Iff.rfl (hp.rlim (by decide)) (hp.rlim (by decide)) (lim_bd (natAbs_mul_lt hp.1 hp.1) (by decide)) (lim_bd (n := 20 + 20) (by rw [← Int.natCast_mul, Int.natAbs_natCast]; exact den_mul_lt hp hp) (by decide)) w hE
theorem ref02_Add_one (q : Rat) (hq0 : 0 ≤ q.num) (hq : Bd 40 q) (w : World) (hE : Env w) :
    Calls Tryz.prog 96 #[.string ⟨(rstr q).toArray⟩, .string ⟨[49].toArray⟩] w fun e w' => e = .returned (.tuple #[.string ⟨(rstr (1 + q)).toArray⟩, .int .i64 0]) ∧ Q w w' := by
  have hs := sum_lt hq bd_one
  have h := ref02_Add q 1 hq0 (by decide) (hq.rlim (by decide)) (bd_one.rlim (by decide)) (lim_bd (cross_lt hq bd_one) (by decide)) (lim_bd (cross_lt bd_one hq) (by decide)) (lim_bd hs.1 (by decide)) (lim_bd (n := 40 + 1) (by rw [← Int.natCast_mul, Int.natAbs_natCast]; exact den_mul_lt hq bd_one) (by decide)) w hE
  rw [rstr_one, Rat.add_comm] at h
  exact h
theorem ref02_Div_one (s : Rat) (hs0 : 0 < s.num) (hs : Bd 42 s) (w : World) (hE : Env w) :
    Calls Tryz.prog 49 #[.string ⟨[49].toArray⟩, .string ⟨(rstr s).toArray⟩] w fun e w' => e = .returned (.tuple #[.string ⟨(rstr (1 / s)).toArray⟩, .int .i64 0]) ∧ Q w w' := by
  have h := ref02_Div 1 s (by decide) hs0 (bd_one.rlim (by decide)) (hs.rlim (by decide)) (lim_bd (cross_lt bd_one hs) (by decide)) (by
    rw [show (((1 : Rat)).den : Int) = 1 from rfl, Int.one_mul]; exact (rlim_parts (hs.rlim (by decide))).1) w hE
  rw [rstr_one] at h
  exact h

set_option maxHeartbeats 400000 in
theorem ref36_within (n : Int) (w : World) :
    Calls Tryz.prog 51 #[.int .i64 n] w fun e w' => e = .returned (.bool (decide (1 ≤ n ∧ n ≤ 1000))) ∧ w' = w := by
  by_cases h1 : 1 ≤ n
  · by_cases h2 : n ≤ 1000
    · rw [decide_eq_true ⟨h1, h2⟩]
      go_enter Tryz.func51, Tryz.ntmps51
      go_wp2
      go_ret
      exact ⟨rfl, rfl⟩
    · rw [decide_eq_false (fun h => h2 h.2)]
      go_enter Tryz.func51, Tryz.ntmps51
      go_wp2
      go_ret
      exact ⟨rfl, rfl⟩
  · rw [decide_eq_false (fun h => h1 h.1)]
    go_enter Tryz.func51, Tryz.ntmps51
    go_wp2
    go_ret
    exact ⟨rfl, rfl⟩

set_option maxHeartbeats 400000 in
theorem ref36_slope (p : Rat) (hp : Bd 20 p) (k : Nat) (h1 : 1 ≤ k) (h2 : k ≤ 1000) (w : World) (hE : Env w) :
    Calls Tryz.prog 47 #[.string ⟨(rstr p).toArray⟩, .int .i64 k] w fun e w' => e = .returned (.tuple #[.string ⟨(rstr (1 + p * p)).toArray⟩, .int .i64 0]) ∧ Q w w' := by
  have HC := Lib.hid (ref02_Check_num p (hp.rlim (by decide)) w hE)
  have hW := fun w => ref36_within (k : Int) w
  rw [decide_eq_true ⟨by omega, by omega⟩] at hW
  have HW := Lib.hid hW
  have HM := Lib.hid (fun w hw => ref02_Mul_sq p hp w hw)
  have HA := Lib.hid (fun w hw => ref02_Add_one (p * p) (sq_num_nonneg p) (hp.mul hp) w hw)
  clear hW
  generalize rstr (1 + p * p) = R at *
  generalize rstr (p * p) = PP at *
  generalize rstr p = P at *
  go_enter Tryz.func47, Tryz.ntmps47
  go_wp2_with fail
  refine HC.out.mono ?_
  rintro e w1 ⟨rfl, hq1⟩
  go_wp2_with fail
  refine (HW.out _).mono ?_
  rintro e w2 ⟨rfl, rfl⟩
  go_wp2_with fail
  refine (HM.out _ (hE.q hq1)).mono ?_
  rintro e w2 ⟨rfl, hq2⟩
  have hQ2 := Q.trans hq1 hq2
  go_wp2_with fail
  refine (HA.out _ (hE.q hQ2)).mono ?_
  rintro e w3 ⟨rfl, hq3⟩
  have hQ3 := Q.trans hQ2 hq3
  go_wp2
  go_ret2
  exact ⟨rfl, hQ3⟩

set_option maxHeartbeats 400000 in
theorem ref36_slope_bad (a : Str) (ha : a.length ≤ 1000000000) (d : Int) (h : rchk a ≠ 0 ∨ d < 1 ∨ 1000 < d) (w : World) (hE : Env w) :
    Calls Tryz.prog 47 #[.string ⟨a.toArray⟩, .int .i64 d] w fun e w' => e = .returned (.tuple #[.string ⟨#[]⟩, .int .i64 (if rchk a ≠ 0 then rchk a else 2)]) ∧ Q w w' := by
  have HC := Lib.hid (ref02_Check a ha w hE)
  by_cases hr : rchk a = 0
  · rw [if_neg (fun x => x hr)]
    rw [hr] at HC
    have hW := fun w => ref36_within d w
    rw [decide_eq_false (by rintro ⟨x, y⟩; rcases h with h | h | h; exact h hr; omega; omega)] at hW
    have HW := Lib.hid hW
    clear hW hr h
    go_enter Tryz.func47, Tryz.ntmps47
    go_wp2_with fail
    refine HC.out.mono ?_
    rintro e w1 ⟨rfl, hq1⟩
    go_wp2_with fail
    refine (HW.out _).mono ?_
    rintro e w2 ⟨rfl, rfl⟩
    go_wp2
    go_ret2
    exact ⟨rfl, hq1⟩
  · rw [if_pos hr]
    have hb : (rchk a == 0) = false := by rw [beq_eq_false_iff_ne]; exact hr
    have hb2 := bne_of_f hb
    clear hr h
    generalize rchk a = R at *
    go_enter Tryz.func47, Tryz.ntmps47
    go_wp2_with fail
    refine HC.out.mono ?_
    rintro e w1 ⟨rfl, hq1⟩
    go_wp2
    go_ret2
    exact ⟨rfl, hq1⟩

set_option maxHeartbeats 1000000 in
theorem ref36_Square (p : Rat) (hp : Bd 20 p) (k : Nat) (h1 : 1 ≤ k) (h2 : k ≤ 1000) (w : World) (hE : Env w) :
    Calls Tryz.prog 13 #[.string ⟨(rstr p).toArray⟩, .int .i64 k] w (MakeEnd w (Rat.divInt (k : Int) (1 : Nat) * aOf (1 / (1 + p * p))) (lOf (1 / (1 + p * p)))) := by
  have HS := Lib.hid (ref36_slope p hp k h1 h2 w hE)
  have bs := stretch_bd hp
  have ps := stretch_pos p
  have bk := depth_bd h2
  have nk := depth_ne h1
  have HO := Lib.hid (fun w => ref02_Of_one k (by omega) w)
  have HD := Lib.hid (fun w hw => ref02_Div_one (1 + p * p) ps bs w hw)
  have hM := fun b t w hw hb => ref04_Make_root (rest := []) (cap := 1) (Rat.divInt (k : Int) (1 : Nat)) (1 / (1 + p * p)) bk (depth_pos h1) nk (inv_bd bs ps) (inv_pos _ ps) b t w hw hb
  have HM := Lib.hid hM
  clear hM bs ps bk nk
  generalize Rat.divInt (k : Int) (1 : Nat) * aOf (1 / (1 + p * p)) = x at *
  generalize lOf (1 / (1 + p * p)) = l at *
  generalize rstr (1 / (1 + p * p)) = R at *
  generalize rstr (Rat.divInt (k : Int) (1 : Nat)) = C at *
  generalize rstr (1 + p * p) = S at *
  go_enter Tryz.func13, Tryz.ntmps13
  go_wp2_with fail
  refine HS.out.mono ?_
  rintro e w1 ⟨rfl, hQ1⟩
  go_wp2_with fail
  refine (HO.out _).mono ?_
  rintro e w2 ⟨rfl, hq2⟩
  have hQ2 := Q.trans hQ1 hq2
  go_wp2_with fail
  refine (HD.out _ (hE.q hQ2)).mono ?_
  rintro e w3 ⟨rfl, hq3⟩
  have hQ3 := Q.trans hQ2 hq3
  go_wp2_with fail
  have hqa := hQ3.alloc hQ3.size (Obj.cells [.string ⟨C.toArray⟩, .string ⟨R.toArray⟩].toArray 66)
  refine (HM.out w3.heap.size 66 _ (hE.q hqa) (Blk.new w3 _ _)).mono ?_
  rintro e w4 hend
  replace hend := hend.base hqa
  have HEND := Lib.hid hend
  obtain ⟨hQ4, ⟨a1, a2, v, rfl, hown⟩ | ⟨a1, rfl⟩⟩ := hend
  · clear a1 a2 hown hqa
    go_wp2
    go_ret2
    exact HEND.out
  · clear a1 hqa
    go_wp2
    go_ret2
    exact HEND.out

set_option maxHeartbeats 1000000 in
theorem ref36_Plumb (p : Rat) (hp : Bd 20 p) (k : Nat) (h1 : 1 ≤ k) (h2 : k ≤ 1000) (w : World) (hE : Env w) :
    Calls Tryz.prog 15 #[.string ⟨(rstr p).toArray⟩, .int .i64 k] w (MakeEnd w (Rat.divInt (k : Int) (1 : Nat) * aOf (1 + p * p)) (lOf (1 + p * p))) := by
  have HS := Lib.hid (ref36_slope p hp k h1 h2 w hE)
  have bs := stretch_bd hp
  have ps := stretch_pos p
  have bk := depth_bd h2
  have nk := depth_ne h1
  have HO := Lib.hid (fun w => ref02_Of_one k (by omega) w)
  have hM := fun b t w hw hb => ref04_Make_root (rest := []) (cap := 1) (Rat.divInt (k : Int) (1 : Nat)) (1 + p * p) bk (depth_pos h1) nk bs ps b t w hw hb
  have HM := Lib.hid hM
  clear hM bs ps bk nk
  generalize Rat.divInt (k : Int) (1 : Nat) * aOf (1 + p * p) = x at *
  generalize lOf (1 + p * p) = l at *
  generalize rstr (Rat.divInt (k : Int) (1 : Nat)) = C at *
  generalize rstr (1 + p * p) = S at *
  go_enter Tryz.func15, Tryz.ntmps15
  go_wp2_with fail
  refine HS.out.mono ?_
  rintro e w1 ⟨rfl, hQ1⟩
  go_wp2_with fail
  refine (HO.out _).mono ?_
  rintro e w2 ⟨rfl, hq2⟩
  have hQ2 := Q.trans hQ1 hq2
  go_wp2_with fail
  have hqa := hQ2.alloc hQ2.size (Obj.cells [.string ⟨C.toArray⟩, .string ⟨S.toArray⟩].toArray 66)
  refine (HM.out w2.heap.size 66 _ (hE.q hqa) (Blk.new w2 _ _)).mono ?_
  rintro e w4 hend
  replace hend := hend.base hqa
  have HEND := Lib.hid hend
  obtain ⟨hQ4, ⟨a1, a2, v, rfl, hown⟩ | ⟨a1, rfl⟩⟩ := hend
  · clear a1 a2 hown hqa
    go_wp2
    go_ret2
    exact HEND.out
  · clear a1 hqa
    go_wp2
    go_ret2
    exact HEND.out

end Go.Proofs.YtgkikkabmcihhaaGreatDoor

namespace Go.Proofs.YtgkikkabmcihhaaGreatDoor
open Go.RowKit Kp
open Go.Lib (decDigits)

/-- What Square and Plumb answer where there is no depth. -/
def badV (a : Str) : Value := .tuple #[.slice none 0 0, .int .i64 (if rchk a ≠ 0 then rchk a else 2)]
theorem badE (a : Str) : (if rchk a ≠ 0 then rchk a else 2) ≠ 0 := by split <;> omega

set_option maxHeartbeats 400000 in
theorem timber_Square_bad (a : Str) (ha : a.length ≤ 1000000000) (d : Int) (hd : -9223372036854775808 ≤ d ∧ d ≤ 9223372036854775807) (h : rchk a ≠ 0 ∨ d < 1 ∨ 1000 < d) (w : World) (hE : Env w) :
    Calls Tryz.prog 12 #[.string ⟨a.toArray⟩, .int .i64 d] w fun e w' => e = .returned (badV a) ∧ Q w w' := by
  have HS := Lib.hid (timber_stretched_bad a ha d hd h w hE)
  have hb := badE a
  unfold badV
  generalize (if rchk a ≠ 0 then rchk a else 2) = r at *
  have hb1 : (r == 0) = false := by rw [beq_eq_false_iff_ne]; exact hb
  have hb2 := bne_of_f hb1
  clear hb h hd
  go_enter Tryz.func12, Tryz.ntmps12
  go_wp2_with fail
  refine HS.out.mono ?_
  rintro e w1 ⟨rfl, hq1⟩
  go_wp2
  go_ret2
  exact ⟨rfl, hq1⟩

set_option maxHeartbeats 400000 in
theorem timber_Plumb_bad (a : Str) (ha : a.length ≤ 1000000000) (d : Int) (hd : -9223372036854775808 ≤ d ∧ d ≤ 9223372036854775807) (h : rchk a ≠ 0 ∨ d < 1 ∨ 1000 < d) (w : World) (hE : Env w) :
    Calls Tryz.prog 14 #[.string ⟨a.toArray⟩, .int .i64 d] w fun e w' => e = .returned (badV a) ∧ Q w w' := by
  have HS := Lib.hid (timber_stretched_bad a ha d hd h w hE)
  have hb := badE a
  unfold badV
  generalize (if rchk a ≠ 0 then rchk a else 2) = r at *
  have hb1 : (r == 0) = false := by rw [beq_eq_false_iff_ne]; exact hb
  have hb2 := bne_of_f hb1
  clear hb h hd
  go_enter Tryz.func14, Tryz.ntmps14
  go_wp2_with fail
  refine HS.out.mono ?_
  rintro e w1 ⟨rfl, hq1⟩
  go_wp2
  go_ret2
  exact ⟨rfl, hq1⟩

set_option maxHeartbeats 400000 in
theorem ref36_Square_bad (a : Str) (ha : a.length ≤ 1000000000) (d : Int) (h : rchk a ≠ 0 ∨ d < 1 ∨ 1000 < d) (w : World) (hE : Env w) :
    Calls Tryz.prog 13 #[.string ⟨a.toArray⟩, .int .i64 d] w fun e w' => e = .returned (badV a) ∧ Q w w' := by
  have HS := Lib.hid (ref36_slope_bad a ha d h w hE)
  have hb := badE a
  unfold badV
  generalize (if rchk a ≠ 0 then rchk a else 2) = r at *
  have hb1 : (r == 0) = false := by rw [beq_eq_false_iff_ne]; exact hb
  have hb2 := bne_of_f hb1
  clear hb h
  go_enter Tryz.func13, Tryz.ntmps13
  go_wp2_with fail
  refine HS.out.mono ?_
  rintro e w1 ⟨rfl, hq1⟩
  go_wp2
  go_ret2
  exact ⟨rfl, hq1⟩

set_option maxHeartbeats 400000 in
theorem ref36_Plumb_bad (a : Str) (ha : a.length ≤ 1000000000) (d : Int) (h : rchk a ≠ 0 ∨ d < 1 ∨ 1000 < d) (w : World) (hE : Env w) :
    Calls Tryz.prog 15 #[.string ⟨a.toArray⟩, .int .i64 d] w fun e w' => e = .returned (badV a) ∧ Q w w' := by
  have HS := Lib.hid (ref36_slope_bad a ha d h w hE)
  have hb := badE a
  unfold badV
  generalize (if rchk a ≠ 0 then rchk a else 2) = r at *
  have hb1 : (r == 0) = false := by rw [beq_eq_false_iff_ne]; exact hb
  have hb2 := bne_of_f hb1
  clear hb h
  go_enter Tryz.func15, Tryz.ntmps15
  go_wp2_with fail
  refine HS.out.mono ?_
  rintro e w1 ⟨rfl, hq1⟩
  go_wp2
  go_ret2
  exact ⟨rfl, hq1⟩

set_option maxHeartbeats 400000 in
theorem ref04_Same_nil (w : World) :
    Calls Tryz.prog 16 #[.slice none 0 0, .slice none 0 0] w fun e w' => e = .returned (.bool true) ∧ Q w w' := by
  go_enter Tryz.func16, Tryz.ntmps16
  go_wp2
  go_loopw [5] (fun i wr => i = .int .i64 0 ∧ Q w wr) (fun i _ => 0)
  case atStart => exact ⟨rfl, Below.refl _ _⟩
  case round =>
    obtain ⟨rfl, hQ⟩ := hrel
    go_wp2
    go_ret
    exact ⟨rfl, hQ⟩

/-- An ending of Make: its value and error. -/
def EndsAs (w : World) (x l : Rat) (v : Value) (z : Int) : Prop :=
  (longV x ≤ 60 ∧ longV l ≤ 40 ∧ z = 0 ∧ ∃ B, w.ownsRow B 66 2 v 1 [.string ⟨(rstr x).toArray⟩, .string ⟨(rstr l).toArray⟩]) ∨ ((60 < longV x ∨ 40 < longV l) ∧ z = 4 ∧ v = .slice none 0 0)
theorem MakeEnd.ends {w : World} {x l : Rat} {e : Ending} {w' : World} (h : MakeEnd w x l e w') : Q w w' ∧ ∃ v z, e = .returned (.tuple #[v, .int .i64 z]) ∧ EndsAs w' x l v z := by
  obtain ⟨hq, ⟨h1, h2, v, rfl, ho⟩ | ⟨h1, rfl⟩⟩ := h
  · exact ⟨hq, v, 0, rfl, .inl ⟨h1, h2, rfl, _, ho⟩⟩
  · exact ⟨hq, _, 4, rfl, .inr ⟨h1, rfl, rfl⟩⟩
theorem EndsAs.keep {w w' : World} {x l : Rat} {v : Value} {z : Int} (h : EndsAs w x l v z) (hq : Q w w') : EndsAs w' x l v z := by
  rcases h with ⟨h1, h2, h3, B, ho⟩ | h
  · exact .inl ⟨h1, h2, h3, B, ownsRow_keep ho hq⟩
  · exact .inr h

theorem Same_ends {w : World} {x l : Rat} {v1 v2 : Value} {z1 z2 : Int} (h1 : EndsAs w x l v1 z1) (h2 : EndsAs w x l v2 z2) :
    z1 = z2 ∧ Calls Tryz.prog 16 #[v1, v2] w fun e w' => e = .returned (.bool true) ∧ Q w w' := by
  rcases h1 with ⟨a1, a2, rfl, B1, o1⟩ | ⟨a1, rfl, rfl⟩
  · rcases h2 with ⟨b1, b2, rfl, B2, o2⟩ | ⟨b1, rfl, rfl⟩
    · refine ⟨rfl, ?_⟩
      obtain ⟨g, c1, r1, rfl, -, k1⟩ := row_blk o1
      obtain ⟨h, c2, r2, rfl, -, k2⟩ := row_blk o2
      have x0 := k1.cell 0
      have x1 := k1.cell 1
      have y0 := k2.cell 0
      have y1 := k2.cell 1
      simp only [List.getElem?_cons_zero, List.getElem?_cons_succ] at x0 x1 y0 y1
      refine (ref04_Same_one g h c1 c2 _ _ w x0 x1 y0 y1).mono ?_
      rintro e w' ⟨rfl, n, rfl⟩
      exact ⟨rfl, (by repeat (first | exact Below.refl _ _ | assumption | refine below_drewN ?_ _ | refine Below.drew ?_ | refine Below.alloc ?_ (by first | (simp; done) | (simp; omega)) _ | refine Below.setCell ?_ (by first | (simp; done) | (simp; omega)) _))⟩
    · omega
  · rcases h2 with ⟨b1, b2, rfl, B2, o2⟩ | ⟨b1, rfl, rfl⟩
    · omega
    · exact ⟨rfl, ref04_Same_nil w⟩

theorem rval_bd {a : Str} (h : rchk a = 0) (hl : a.length ≤ 20) : Bd 20 (rval a) := by
  obtain ⟨h1, h2⟩ := rstr_rval h
  have e1 := numPart_rstr (rval a)
  have e2 := denStr_rstr (rval a)
  rw [h1] at e1 e2
  have l1 := numPart_len a
  have l2 : (denStr a).length ≤ 20 := by
    unfold denStr; split
    · have := denPart_len a; omega
    · simp
  rw [e1] at l1
  rw [e2] at l2
  have b1 := abs_lt_len (rval a).num
  have b2 := abs_lt_len ((rval a).den : Int)
  rw [Int.natAbs_natCast] at b2
  exact ⟨Nat.lt_of_lt_of_le b1 (Nat.pow_le_pow_right (by decide) (by omega)), Nat.lt_of_lt_of_le b2 (Nat.pow_le_pow_right (by decide) (by omega))⟩

theorem i64_range {x : Int} (h : (Go.Lit.int .i64 x).wf = true) : -9223372036854775808 ≤ x ∧ x ≤ 9223372036854775807 := by
  have h2 : (decide (IntKind.min .i64 ≤ x) && decide (x ≤ IntKind.max .i64)) = true := h
  rw [show IntKind.min .i64 = -9223372036854775808 from rfl, show IntKind.max .i64 = 9223372036854775807 from rfl] at h2
  simpa using h2

set_option maxHeartbeats 2000000 in
theorem depths_walk (a : Str) (ha : a.length ≤ 9223372036854775807) (d : Int) (hd : -9223372036854775808 ≤ d ∧ d ≤ 9223372036854775807) (w : World) (hE : Env w) :
    Calls Tryz.prog 3 #[.string ⟨a.toArray⟩, .int .i64 d] w fun e w' => e = .returned (.bool true) ∧ Q w w' := by
  by_cases h20 : 20 < a.length
  · have h20' : (20 : Int) < (a.length : Int) := by omega
    go_enter Tryz.func3, Tryz.ntmps3
    go_wp2_with fail
    refine (awake_any _ hE).mono ?_
    rintro e w1 ⟨rfl, hq1⟩
    go_wp2
    go_ret
    exact ⟨rfl, hq1⟩
  · have h20' : ¬ (20 : Int) < (a.length : Int) := by omega
    by_cases hbad : rchk a ≠ 0 ∨ d < 1 ∨ 1000 < d
    · have H1 := Lib.hid (timber_Square_bad a (by omega) d hd hbad)
      have H2 := Lib.hid (ref36_Square_bad a (by omega) d hbad)
      have H3 := Lib.hid (timber_Plumb_bad a (by omega) d hd hbad)
      have H4 := Lib.hid (ref36_Plumb_bad a (by omega) d hbad)
      unfold badV at H1 H2 H3 H4
      generalize (if rchk a ≠ 0 then rchk a else 2) = r at *
      have hrr : (r == r) = true := by simp
      clear hbad hd
      go_enter Tryz.func3, Tryz.ntmps3
      go_wp2_with fail
      refine (H1.out _ hE).mono ?_
      rintro e w1 ⟨rfl, hq1⟩
      go_wp2_with fail
      refine (H2.out _ (hE.q hq1)).mono ?_
      rintro e w2 ⟨rfl, hq2⟩
      have hQ2 := Q.trans hq1 hq2
      go_wp2_with fail
      refine (H3.out _ (hE.q hQ2)).mono ?_
      rintro e w3 ⟨rfl, hq3⟩
      have hQ3 := Q.trans hQ2 hq3
      go_wp2_with fail
      refine (H4.out _ (hE.q hQ3)).mono ?_
      rintro e w4 ⟨rfl, hq4⟩
      have hQ4 := Q.trans hQ3 hq4
      go_wp2_with fail
      refine (ref04_Same_nil _).mono ?_
      rintro e w5 ⟨rfl, hq5⟩
      have hQ5 := Q.trans hQ4 hq5
      go_wp2_with fail
      refine (ref04_Same_nil _).mono ?_
      rintro e w6 ⟨rfl, hq6⟩
      have hQ6 := Q.trans hQ5 hq6
      go_wp2_with fail
      refine (awake_any _ (hE.q hQ6)).mono ?_
      rintro e w7 ⟨rfl, hq7⟩
      have hQ7 := Q.trans hQ6 hq7
      go_wp2
      go_ret
      exact ⟨rfl, hQ7⟩
    · have hr : rchk a = 0 := Classical.byContradiction fun h => hbad (.inl h)
      have hd1 : 1 ≤ d := by omega
      have hd2 : d ≤ 1000 := by omega
      obtain ⟨k, rfl⟩ := Int.eq_ofNat_of_zero_le (show 0 ≤ d by omega)
      have bp := rval_bd hr (by omega)
      obtain ⟨ea, -⟩ := rstr_rval hr
      generalize rval a = p at *
      subst ea
      have H1 := Lib.hid (timber_Square_g p bp k (by omega) (by omega))
      have H2 := Lib.hid (ref36_Square p bp k (by omega) (by omega))
      have H3 := Lib.hid (timber_Plumb_g p bp k (by omega) (by omega))
      have H4 := Lib.hid (ref36_Plumb p bp k (by omega) (by omega))
      generalize Rat.divInt (k : Int) (1 : Nat) * aOf (1 / (1 + p * p)) = x1 at *
      generalize lOf (1 / (1 + p * p)) = l1 at *
      generalize Rat.divInt (k : Int) (1 : Nat) * aOf (1 + p * p) = x2 at *
      generalize lOf (1 + p * p) = l2 at *
      generalize rstr p = S at *
      clear hbad hd hr bp
      go_enter Tryz.func3, Tryz.ntmps3
      go_wp2_with fail
      refine (H1.out _ hE).mono ?_
      rintro e w1 hend
      obtain ⟨hq1, v1, z1, rfl, hv1⟩ := hend.ends
      have E1 := Lib.hid hv1
      clear hend hv1
      go_wp2_with fail
      refine (H2.out _ (hE.q hq1)).mono ?_
      rintro e w2 hend
      obtain ⟨hq2, v2, z2, rfl, hv2⟩ := hend.ends
      have E2 := Lib.hid hv2
      have hQ2 := Q.trans hq1 hq2
      have hz := (Same_ends (E1.out.keep hq2) E2.out).1
      subst hz
      clear hend hv2
      go_wp2_with fail
      refine (H3.out _ (hE.q hQ2)).mono ?_
      rintro e w3 hend
      obtain ⟨hq3, v3, z3, rfl, hv3⟩ := hend.ends
      have E3 := Lib.hid hv3
      have hQ3 := Q.trans hQ2 hq3
      clear hend hv3
      go_wp2_with fail
      refine (H4.out _ (hE.q hQ3)).mono ?_
      rintro e w4 hend
      obtain ⟨hq4, v4, z4, rfl, hv4⟩ := hend.ends
      have E4 := Lib.hid hv4
      have hQ4 := Q.trans hQ3 hq4
      have hz := (Same_ends (E3.out.keep hq4) E4.out).1
      subst hz
      clear hend hv4
      have HS1 := Lib.hid (Same_ends (E1.out.keep (Q.trans hq2 (Q.trans hq3 hq4))) (E2.out.keep (Q.trans hq3 hq4))).2
      have HS2 := Lib.hid (fun W (h : Q w4 W) => (Same_ends (E3.out.keep (Q.trans hq4 h)) (E4.out.keep h)).2)
      have hz1 : (z1 == z1) = true := by simp
      have hz3 : (z3 == z3) = true := by simp
      clear E1 E2 E3 E4
      go_wp2_with fail
      refine HS1.out.mono ?_
      rintro e w5 ⟨rfl, hq5⟩
      have hQ5 := Q.trans hQ4 hq5
      go_wp2_with fail
      refine (HS2.out _ hq5).mono ?_
      rintro e w6 ⟨rfl, hq6⟩
      have hQ6 := Q.trans hQ5 hq6
      go_wp2_with fail
      refine (awake_any _ (hE.q hQ6)).mono ?_
      rintro e w7 ⟨rfl, hq7⟩
      have hQ7 := Q.trans hQ6 hq7
      go_wp2
      go_ret
      exact ⟨rfl, hQ7⟩

end Go.Proofs.YtgkikkabmcihhaaGreatDoor
