/-
  Walks: the package rational.; Walks: rational.nativeOf at a string with a sign.; Walks: the package rational, numbers with short parts.; Walks: rational.digits, cut.; Walks: rational.read, Check, Parts at numbers with short parts; quick.
-/
import Derived.Test.YtlbjjkmfcgcodaaGreatDoorG02
import Derived.Test.YtlbjjkmfcgcodaaGreatDoorG00
namespace Go.Proofs.YtlbjjkmfcgcodaaGreatDoor
open Go.RowKit Kp
def natOfV (a : Str) : Value := match natOf a with
  | some (n, d) => .tuple #[.agg #[.int .i64 n, .int .i64 d], .bool true]
  | none => .tuple #[.agg #[.int .i64 0, .int .i64 0], .bool false]
theorem natOfV_none {a : Str} (h : natOf a = none) : natOfV a = .tuple #[.agg #[.int .i64 0, .int .i64 0], .bool false] := by unfold natOfV; rw [h]
theorem natOfV_some {a : Str} {n d : Int} (h : natOf a = some (n, d)) : natOfV a = .tuple #[.agg #[.int .i64 n, .int .i64 d], .bool true] := by unfold natOfV; rw [h]
theorem natOf_ways (a own : Str) (neg : Bool) (hown : own = unsig a) (hneg : neg = decide (a.head? = some 45)) :
    (natOfV a = .tuple #[.agg #[.int .i64 0, .int .i64 0], .bool false] ∧
      (natOk own = false ∨
       (natOk own = true ∧ neg = true ∧ ((natN own : Int) == 0) = true) ∨
       (natOk own = true ∧ (neg = false ∨ ((natN own : Int) == 0) = false) ∧ (natRest own == []) = false ∧ 0 < (natRest own).length ∧
          (((((at0 (natRest own) 0).toNat : Int) == 47) = false) ∨
           ((((at0 (natRest own) 0).toNat : Int) == 47) = true ∧
             (natOk (dropS (natRest own) 1) = false ∨
              (natOk (dropS (natRest own) 1) = true ∧ (natRest (dropS (natRest own) 1) == []) = false) ∨
              (natOk (dropS (natRest own) 1) = true ∧ natRest (dropS (natRest own) 1) = [] ∧ natN (dropS (natRest own) 1) < 2) ∨
              (natOk (dropS (natRest own) 1) = true ∧ natRest (dropS (natRest own) 1) = [] ∧ 2 ≤ natN (dropS (natRest own) 1) ∧ ((Nat.gcd (natN own) (natN (dropS (natRest own) 1)) : Int) == 1) = false))))))) ∨
    (natOk own = true ∧ (neg = false ∨ ((natN own : Int) == 0) = false) ∧
      ((natRest own = [] ∧ natOfV a = .tuple #[.agg #[.int .i64 (if neg then -(natN own : Int) else natN own), .int .i64 1], .bool true]) ∨
       ((natRest own == []) = false ∧ 0 < (natRest own).length ∧ ((((at0 (natRest own) 0).toNat : Int) == 47) = true) ∧ natOk (dropS (natRest own) 1) = true ∧ natRest (dropS (natRest own) 1) = [] ∧ 2 ≤ natN (dropS (natRest own) 1) ∧
          ((Nat.gcd (natN own) (natN (dropS (natRest own) 1)) : Int) == 1) = true ∧ natOfV a = .tuple #[.agg #[.int .i64 (if neg then -(natN own : Int) else natN own), .int .i64 (natN (dropS (natRest own) 1))], .bool true]))) := by
  have h47 : ∀ c : UInt8, ((c.toNat : Int) == 47) = decide (c = 47) := by
    intro c
    by_cases h : c = 47
    · subst h; rfl
    · have : c.toNat ≠ 47 := fun e => h (UInt8.toNat_inj.1 e)
      simp [h]; omega
  have e1 : ∀ n : Nat, ((n : Int) == 1) = decide (n = 1) := by intro n; by_cases h : n = 1 <;> simp [h]; omega
  have e0 : ∀ n : Nat, ((n : Int) == 0) = decide (n = 0) := by intro n; by_cases h : n = 0 <;> simp [h]
  have hV : ∀ {r}, natOf a = r → natOfV a = (match r with
      | some (n, d) => .tuple #[.agg #[.int .i64 n, .int .i64 d], .bool true]
      | none => .tuple #[.agg #[.int .i64 0, .int .i64 0], .bool false]) := by intro r h; unfold natOfV; rw [h]
  have hn2 : (a.head? = some 45) = (neg = true) := by rw [hneg]; simp
  unfold natOf at hV
  rw [← hown] at hV
  simp only [hn2] at hV
  simp only [h47, e1, e0]
  cases hA : natOk own with
  | false => exact .inl ⟨hV (r := none) (by rw [if_pos (.inl hA)]), .inl rfl⟩
  | true =>
    by_cases hB : neg = true ∧ natN own = 0
    · exact .inl ⟨hV (r := none) (by rw [if_pos (.inr hB)]), .inr (.inl ⟨rfl, hB.1, by simp [hB.2]⟩)⟩
    · have hB' : neg = false ∨ decide (natN own = 0) = false := by
        cases neg with
        | false => exact .inl rfl
        | true => exact .inr (by simpa using hB)
      have n1 : ¬ (natOk own = false ∨ (neg = true ∧ natN own = 0)) := by rw [hA]; simpa using hB
      rw [if_neg n1] at hV
      by_cases hC : natRest own = []
      · rw [if_pos hC] at hV
        exact .inr ⟨rfl, hB', .inl ⟨hC, hV rfl⟩⟩
      · rw [if_neg hC] at hV
        have hC1 : (natRest own == []) = false := by simpa using hC
        have hC2 : 0 < (natRest own).length := List.length_pos_iff.2 hC
        by_cases hD : at0 (natRest own) 0 = 47
        · rw [if_neg (fun x => x hD)] at hV
          cases hE : natOk (dropS (natRest own) 1) with
          | false => exact .inl ⟨hV (r := none) (by rw [if_pos (.inl hE)]), .inr (.inr ⟨rfl, hB', hC1, hC2, .inr ⟨by simpa using hD, .inl rfl⟩⟩)⟩
          | true =>
            by_cases hF : natRest (dropS (natRest own) 1) = []
            · by_cases hG : natN (dropS (natRest own) 1) < 2
              · exact .inl ⟨hV (r := none) (by rw [if_pos (.inr (.inr (.inl hG)))]), .inr (.inr ⟨rfl, hB', hC1, hC2, .inr ⟨by simpa using hD, .inr (.inr (.inl ⟨rfl, hF, hG⟩))⟩⟩)⟩
              · by_cases hH : Nat.gcd (natN own) (natN (dropS (natRest own) 1)) = 1
                · rw [if_neg (by rw [hE]; rintro (x | x | x | x); · cases x
                                 · exact x hF
                                 · exact hG x
                                 · exact x hH)] at hV
                  exact .inr ⟨rfl, hB', .inr ⟨hC1, hC2, by simpa using hD, rfl, hF, by omega, by simpa using hH, hV rfl⟩⟩
                · exact .inl ⟨hV (r := none) (by rw [if_pos (.inr (.inr (.inr hH)))]), .inr (.inr ⟨rfl, hB', hC1, hC2, .inr ⟨by simpa using hD, .inr (.inr (.inr ⟨rfl, hF, by omega, by simpa using hH⟩))⟩⟩)⟩
            · exact .inl ⟨hV (r := none) (by rw [if_pos (.inr (.inl hF))]), .inr (.inr ⟨rfl, hB', hC1, hC2, .inr ⟨by simpa using hD, .inr (.inl ⟨rfl, by simpa using hF⟩)⟩⟩)⟩
        · rw [if_pos hD] at hV
          exact .inl ⟨hV (r := none) rfl, .inr (.inr ⟨rfl, hB', hC1, hC2, .inl (by simpa using hD)⟩)⟩
theorem ne45 {c : UInt8} (h : c ≠ 45) : ((c.toNat : Int) == 45) = false := by
  have h2 : c.toNat ≠ 45 := fun e => h (UInt8.toNat_inj.1 e)
  simp; omega
set_option maxRecDepth 100000 in
set_option maxHeartbeats 2000000 in
theorem rational_nativeOf_plus (a : Str) (ha : a.length ≤ 1000000000) (hm : a.head? ≠ some 45) (w : World) :
    Calls Tryz.prog 42 #[.string ⟨a.toArray⟩] w fun e w' => e = .returned (natOfV a) ∧ Q w w' := by
  have hne : a ≠ [] → (a == []) = false ∧ 0 < a.length ∧ ((((at0 a 0).toNat : Int) == 45) = false) := by
    intro h
    refine ⟨by simpa using h, List.length_pos_iff.2 h, ne45 (fun e => hm ?_)⟩
    rw [head_at0 h, e]
  have hl1 := natRest_len a
  have hl2 := dropS_len (natRest a) 1
  have hb1 := natN_lt a
  have hb2 := natN_lt (dropS (natRest a) 1)
  rcases natOf_ways a a false (unsig_same hm).symm (by simp [hm]) with ⟨HV, hw | ⟨_, h, _⟩ | ⟨hw, _, hr, hr2, hx⟩⟩ | ⟨hw, _, hx⟩
  · have HW := Lib.hid HV
    clear HV
    by_cases hn : a = []
    · subst hn
      clear hne hm
      go_enter Tryz.func42, Tryz.ntmps42
      go_wp2_with (go_at_call 83; refine (rational_nativeInt [] _ (by decide)).mono ?_; rintro e w1 ⟨rfl, n1, rfl⟩)
      exact bodyPost_ret (v := .tuple #[.agg #[.int .i64 0, .int .i64 0], .bool false]) (by simp [results, Tryz.results42, go_sem]) rfl ⟨by rw [HW.out], bt⟩
    · obtain ⟨h, h2, h3⟩ := hne hn
      clear hne hn hm
      go_enter Tryz.func42, Tryz.ntmps42
      go_wp2_with (go_at_call 83; refine (rational_nativeInt _ _ (by omega)).mono ?_; rintro e w1 ⟨rfl, n1, rfl⟩)
      exact bodyPost_ret (v := .tuple #[.agg #[.int .i64 0, .int .i64 0], .bool false]) (by simp [results, Tryz.results42, go_sem]) rfl ⟨by rw [HW.out], bt⟩
  · cases h
  · have HW := Lib.hid HV
    obtain ⟨h, h2, h3⟩ := hne (natOk_ne hw)
    clear HV hne hm
    have h' := bne_of_f h
    have hr' := bne_of_f hr
    rcases hx with hx | ⟨hx, hy | ⟨hy, hz⟩ | ⟨hy, hz, hu⟩ | ⟨hy, hz, hu, hv⟩⟩
    all_goals
      first | have hx' := bne_of_f hx | have hx' := bne_of_t hx
      first | have hz' := bne_of_f hz | skip
      first | have hv' := bne_of_f hv | skip
      go_enter Tryz.func42, Tryz.ntmps42
      go_wp2_with (first | (go_at_call 83; refine (rational_nativeInt _ _ (by omega)).mono ?_; rintro e w1 ⟨rfl, n1, rfl⟩) | (go_at_call 84; refine (rational_gcd _ _ _ (by omega) (by omega)).mono ?_; rintro e w1 ⟨rfl, n1, rfl⟩))
      exact bodyPost_ret (v := .tuple #[.agg #[.int .i64 0, .int .i64 0], .bool false]) (by simp [results, Tryz.results42, go_sem]) rfl ⟨by rw [HW.out], bt⟩
  · obtain ⟨h, h2, h3⟩ := hne (natOk_ne hw)
    clear hne hm
    have h' := bne_of_f h
    rcases hx with ⟨hx, HV⟩ | ⟨hr, hr2, hx, hy, hz, hu, hv, HV⟩
    all_goals
      first | (have hx' := bne_of_t hx; have hv' := bne_of_t hv; have hr' := bne_of_f hr) | skip
      have HW := Lib.hid HV
      clear HV
      go_enter Tryz.func42, Tryz.ntmps42
      go_wp2_with (first | (go_at_call 83; refine (rational_nativeInt _ _ (by omega)).mono ?_; rintro e w1 ⟨rfl, n1, rfl⟩) | (go_at_call 84; refine (rational_gcd _ _ _ (by omega) (by omega)).mono ?_; rintro e w1 ⟨rfl, n1, rfl⟩))
      first
        | exact bodyPost_ret (v := .tuple #[.agg #[.int .i64 (natN a), .int .i64 1], .bool true]) (by simp [results, Tryz.results42, go_sem]) rfl ⟨by rw [HW.out]; rfl, bt⟩
        | exact bodyPost_ret (v := .tuple #[.agg #[.int .i64 (natN a), .int .i64 (natN (dropS (natRest a) 1))], .bool true]) (by simp [results, Tryz.results42, go_sem]) rfl ⟨by rw [HW.out]; rfl, bt⟩
end Go.Proofs.YtlbjjkmfcgcodaaGreatDoor
namespace Go.Proofs.YtlbjjkmfcgcodaaGreatDoor
open Go.RowKit Kp
set_option maxRecDepth 100000 in
set_option maxHeartbeats 2000000 in
theorem rational_nativeOf_minus (a : Str) (ha : a.length ≤ 1000000000) (hm : a.head? = some 45) (w : World) :
    Calls Tryz.prog 42 #[.string ⟨a.toArray⟩] w fun e w' => e = .returned (natOfV a) ∧ Q w w' := by
  have hne : a ≠ [] := by intro e; rw [e] at hm; cases hm
  have h : (a == []) = false := by simpa using hne
  have h' := bne_of_f h
  have h2 : 0 < a.length := List.length_pos_iff.2 hne
  have h3 : ((((at0 a 0).toNat : Int) == 45) = true) := by
    rw [head_at0 hne] at hm; rw [Option.some.inj hm]; rfl
  have hown : dropS a 1 = unsig a := by rw [unsig_cons hm]; rfl
  have hlo := dropS_len a 1
  have hl1 := natRest_len (dropS a 1)
  have hl2 := dropS_len (natRest (dropS a 1)) 1
  have hb1 := natN_lt (dropS a 1)
  have hb2 := natN_lt (dropS (natRest (dropS a 1)) 1)
  have hlt : (dropS a 1).length < a.length := by omega
  rcases natOf_ways a (dropS a 1) true hown (by simp [hm]) with ⟨HV, hw | ⟨hw, _, hz⟩ | ⟨hw, hn, hr, hr2, hx⟩⟩ | ⟨hw, hn, hx⟩
  · have HW := Lib.hid HV
    clear HV hne hm hown
    go_enter Tryz.func42, Tryz.ntmps42
    go_wp2_with (go_at_call 83; refine (rational_nativeInt _ _ (by omega)).mono ?_; rintro e w1 ⟨rfl, n1, rfl⟩)
    exact bodyPost_ret (v := .tuple #[.agg #[.int .i64 0, .int .i64 0], .bool false]) (by simp [results, Tryz.results42, go_sem]) rfl ⟨by rw [HW.out], bt⟩
  · have HW := Lib.hid HV
    clear HV hne hm hown
    go_enter Tryz.func42, Tryz.ntmps42
    go_wp2_with (go_at_call 83; refine (rational_nativeInt _ _ (by omega)).mono ?_; rintro e w1 ⟨rfl, n1, rfl⟩)
    exact bodyPost_ret (v := .tuple #[.agg #[.int .i64 0, .int .i64 0], .bool false]) (by simp [results, Tryz.results42, go_sem]) rfl ⟨by rw [HW.out], bt⟩
  · have HW := Lib.hid HV
    have hn : ((natN (dropS a 1) : Int) == 0) = false := hn.elim (fun e => by cases e) id
    clear HV hne hm hown
    have hr' := bne_of_f hr
    rcases hx with hx | ⟨hx, hy | ⟨hy, hz⟩ | ⟨hy, hz, hu⟩ | ⟨hy, hz, hu, hv⟩⟩
    all_goals
      first | have hx' := bne_of_f hx | have hx' := bne_of_t hx
      first | have hz' := bne_of_f hz | skip
      first | have hv' := bne_of_f hv | skip
      go_enter Tryz.func42, Tryz.ntmps42
      go_wp2_with (first | (go_at_call 83; refine (rational_nativeInt _ _ (by omega)).mono ?_; rintro e w1 ⟨rfl, n1, rfl⟩) | (go_at_call 84; refine (rational_gcd _ _ _ (by omega) (by omega)).mono ?_; rintro e w1 ⟨rfl, n1, rfl⟩))
      exact bodyPost_ret (v := .tuple #[.agg #[.int .i64 0, .int .i64 0], .bool false]) (by simp [results, Tryz.results42, go_sem]) rfl ⟨by rw [HW.out], bt⟩
  · have hn : ((natN (dropS a 1) : Int) == 0) = false := hn.elim (fun e => by cases e) id
    clear hne hm hown
    rcases hx with ⟨hx, HV⟩ | ⟨hr, hr2, hx, hy, hz, hu, hv, HV⟩
    all_goals
      first | (have hx' := bne_of_t hx; have hv' := bne_of_t hv; have hr' := bne_of_f hr) | skip
      have HW := Lib.hid HV
      clear HV
      go_enter Tryz.func42, Tryz.ntmps42
      go_wp2_with (first | (go_at_call 83; refine (rational_nativeInt _ _ (by omega)).mono ?_; rintro e w1 ⟨rfl, n1, rfl⟩) | (go_at_call 84; refine (rational_gcd _ _ _ (by omega) (by omega)).mono ?_; rintro e w1 ⟨rfl, n1, rfl⟩))
      first
        | exact bodyPost_ret (v := .tuple #[.agg #[.int .i64 (-(natN (dropS a 1) : Int)), .int .i64 1], .bool true]) (by simp [results, Tryz.results42, go_sem]) rfl ⟨by rw [HW.out]; rfl, bt⟩
        | exact bodyPost_ret (v := .tuple #[.agg #[.int .i64 (-(natN (dropS a 1) : Int)), .int .i64 (natN (dropS (natRest (dropS a 1)) 1))], .bool true]) (by simp [results, Tryz.results42, go_sem]) rfl ⟨by rw [HW.out]; rfl, bt⟩
theorem rational_nativeOf (a : Str) (ha : a.length ≤ 1000000000) (w : World) :
    Calls Tryz.prog 42 #[.string ⟨a.toArray⟩] w fun e w' => e = .returned (natOfV a) ∧ Q w w' := by
  by_cases hm : a.head? = some 45
  · exact rational_nativeOf_minus a ha hm w
  · exact rational_nativeOf_plus a ha hm w
end Go.Proofs.YtlbjjkmfcgcodaaGreatDoor
namespace Go.Proofs.YtlbjjkmfcgcodaaGreatDoor
open Go.RowKit Kp
set_option maxHeartbeats 400000 in
theorem native_number_pos (n : Int) (k : Nat) (hk : 0 < k) (hn : n.natAbs ≤ 100000000000000000) (hd1 : k ≤ 100000000000000000) (w : World) (hE : Env w) :
    Calls Tryz.prog 71 #[.agg #[.int .i64 n, .int .i64 k]] w fun e w' => e = .returned (.string ⟨(rstr (Rat.divInt n k)).toArray⟩) ∧ Q w w' := by
  have hmx := max_neg n
  have hg1 : 0 < Nat.gcd n.natAbs k := Nat.gcd_pos_of_pos_right _ (by omega)
  obtain ⟨b1, b2⟩ := tdiv_bounds n (Nat.gcd n.natAbs k) (B := 100000000000000000) (by omega)
  have b3 : 0 ≤ (k : Int) / (Nat.gcd n.natAbs k : Int) := Int.ediv_nonneg (by omega) (by omega)
  have b4 : (k : Int) / (Nat.gcd n.natAbs k : Int) ≤ 100000000000000000 := Int.le_trans (Int.ediv_le_self _ (by omega)) (by omega)
  have HR := Lib.hid (rstr_divInt n k hk)
  generalize rstr (Rat.divInt n k) = r at *
  have HG := Lib.hid (rational_gcd n.natAbs k)
  generalize hgg : Nat.gcd n.natAbs k = g at *
  clear hgg
  have hg3 : ((g : Int) == 0) = false := by simp; omega
  have l1 := itoa_len (n.tdiv g) (lim_small (by omega))
  have l2 := itoa_len ((k : Int) / (g : Int)) (lim_small (by omega))
  by_cases h1 : (k : Int) / (g : Int) = 1
  · have hb : ((k : Int) / (g : Int) == 1) = true := by simpa using h1
    have H1 := Lib.hid h1
    clear h1
    go_enter Tryz.func71, Tryz.ntmps71
    go_wp2_with (go_at_call 84; refine (HG.out _ (by omega) (by omega)).mono ?_; rintro e w1 ⟨rfl, n1, rfl⟩)
    go_quiet (fail)
    go_wp2_with fail
    refine (lib_Itoa _ (by omega) (by omega) _ (hE.q bt)).mono ?_
    rintro e w3 ⟨rfl, hq3⟩
    go_wp2
    go_ret
    exact ⟨by rw [HR.out, if_pos H1.out]; rfl, (show Below w.heap.size w _ from bt).trans (hq3.mono (by simp))⟩
  · have hb : ((k : Int) / (g : Int) == 1) = false := by simpa using h1
    have H1 := Lib.hid h1
    clear h1
    go_enter Tryz.func71, Tryz.ntmps71
    go_wp2_with (go_at_call 84; refine (HG.out _ (by omega) (by omega)).mono ?_; rintro e w1 ⟨rfl, n1, rfl⟩)
    go_quiet (fail)
    go_wp2_with fail
    refine (lib_Itoa _ (by omega) (by omega) _ (hE.q bt)).mono ?_
    rintro e w3 ⟨rfl, hq3⟩
    have hQ3 : Q w w3 := (show Below w.heap.size w _ from bt).trans (hq3.mono (by simp))
    go_wp2_with fail
    refine (lib_Itoa _ (by omega) (by omega) _ (hE.q hQ3)).mono ?_
    rintro e w4 ⟨rfl, hq4⟩
    go_wp2
    go_ret
    exact ⟨by rw [HR.out, if_neg H1.out]; first | rfl | (simp; done), hQ3.trans (hq4.mono hQ3.size)⟩
set_option maxHeartbeats 400000 in
theorem native_number_neg (n : Int) (k : Nat) (hk : 0 < k) (hn : n.natAbs ≤ 100000000000000000) (hd1 : k ≤ 100000000000000000) (w : World) (hE : Env w) :
    Calls Tryz.prog 71 #[.agg #[.int .i64 n, .int .i64 (-(k : Int))]] w fun e w' => e = .returned (.string ⟨(rstr (Rat.divInt n (-(k : Int)))).toArray⟩) ∧ Q w w' := by
  have e0 : Rat.divInt n (-(k : Int)) = Rat.divInt (-n) k := by rw [Rat.divInt_neg']
  rw [e0]
  have hmx : max (-n) n = n.natAbs := by omega
  have hg1 : 0 < Nat.gcd n.natAbs k := Nat.gcd_pos_of_pos_right _ (by omega)
  obtain ⟨b1, b2⟩ := tdiv_bounds n (Nat.gcd n.natAbs k) (B := 100000000000000000) (by omega)
  have b3 : 0 ≤ (k : Int) / (Nat.gcd n.natAbs k : Int) := Int.ediv_nonneg (by omega) (by omega)
  have b4 : (k : Int) / (Nat.gcd n.natAbs k : Int) ≤ 100000000000000000 := Int.le_trans (Int.ediv_le_self _ (by omega)) (by omega)
  have hr := rstr_divInt (-n) k hk
  rw [Int.natAbs_neg, Int.neg_tdiv] at hr
  have HR := Lib.hid hr
  clear hr
  generalize rstr (Rat.divInt (-n) k) = r at *
  have HG := Lib.hid (rational_gcd n.natAbs k)
  generalize hgg : Nat.gcd n.natAbs k = g at *
  clear hgg e0
  have hg3 : ((g : Int) == 0) = false := by simp; omega
  have l1 := itoa_len (-(n.tdiv g)) (lim_small (by omega))
  have l2 := itoa_len ((k : Int) / (g : Int)) (lim_small (by omega))
  by_cases h1 : (k : Int) / (g : Int) = 1
  · have hb : ((k : Int) / (g : Int) == 1) = true := by simpa using h1
    have H1 := Lib.hid h1
    clear h1
    go_enter Tryz.func71, Tryz.ntmps71
    go_wp2_with (go_at_call 84; go_loud (refine (HG.out _ (by omega) (by omega)).mono ?_); rintro e w1 ⟨rfl, n1, rfl⟩)
    go_quiet (fail)
    go_wp2_with fail
    refine (lib_Itoa _ (by omega) (by omega) _ (hE.q bt)).mono ?_
    rintro e w3 ⟨rfl, hq3⟩
    go_wp2
    go_ret
    exact ⟨by rw [HR.out, if_pos H1.out]; rfl, (show Below w.heap.size w _ from bt).trans (hq3.mono (by simp))⟩
  · have hb : ((k : Int) / (g : Int) == 1) = false := by simpa using h1
    have H1 := Lib.hid h1
    clear h1
    go_enter Tryz.func71, Tryz.ntmps71
    go_wp2_with (go_at_call 84; go_loud (refine (HG.out _ (by omega) (by omega)).mono ?_); rintro e w1 ⟨rfl, n1, rfl⟩)
    go_quiet (fail)
    go_wp2_with fail
    refine (lib_Itoa _ (by omega) (by omega) _ (hE.q bt)).mono ?_
    rintro e w3 ⟨rfl, hq3⟩
    have hQ3 : Q w w3 := (show Below w.heap.size w _ from bt).trans (hq3.mono (by simp))
    go_wp2_with fail
    refine (lib_Itoa _ (by omega) (by omega) _ (hE.q hQ3)).mono ?_
    rintro e w4 ⟨rfl, hq4⟩
    go_wp2
    go_ret
    exact ⟨by rw [HR.out, if_neg H1.out]; first | rfl | (simp; done), hQ3.trans (hq4.mono hQ3.size)⟩
end Go.Proofs.YtlbjjkmfcgcodaaGreatDoor
namespace Go.Proofs.YtlbjjkmfcgcodaaGreatDoor
open Go.RowKit Kp
theorem lt_bool_t {a b : Nat} (h : a < b) : decide ((a : Int) < b) = true := by simp; omega
theorem lt_bool_f {a b : Nat} (h : ¬ a < b) : decide ((a : Int) < b) = false := by simp; omega
theorem eq0_bool_t {a : Nat} (h : a = 0) : ((a : Int) == 0) = true := by simp [h]
theorem eq0_bool_f {a : Nat} (h : a ≠ 0) : ((a : Int) == 0) = false := by simp [h]
set_option maxHeartbeats 400000 in
theorem rational_digits (s : Str) (hl : s.length ≤ 1000000000) (w : World) :
    Calls Tryz.prog 136 #[.string ⟨s.toArray⟩] w fun e w' => e = .returned (.int .i64 (digN s)) ∧ w = w' := by
  go_enter Tryz.func136, Tryz.ntmps136
  go_wp2
  go_loop [3] (fun i => ∃ k : Nat, k ≤ s.length ∧ i = .int .i64 k ∧ AllDig (s.take k)) (fun i => s.length - (intOf i).toNat)
  case atStart => exact ⟨0, by omega, rfl, by simp [AllDig]⟩
  case round =>
    obtain ⟨k, hk, rfl, had⟩ := hrel
    have HD := Lib.hid had; clear had
    by_cases h1 : k < s.length
    · cases hd : isDig (at0 s k) with
      | true =>
        have hd' := (isDig_iff _).1 hd
        have HN := Lib.hid (HD.out.snoc h1 hd)
        clear hd
        go_wp2
        go_round
        case rel => exact ⟨k + 1, by omega, by go_num, HN.out⟩
        case measure => simp [intOf]; omega
      | false =>
        have HT := Lib.hid (takeWhile_len_of HD.out hk (.inr hd))
        have hd' := (isDig_false_iff _).1 hd
        clear hd
        by_cases hz : 1 < k ∧ at0 s 0 = 48
        · have hz1 := hz.1
          have hz2 : ((((at0 s 0).toNat : Int)) == 48) = true := by rw [hz.2]; rfl
          have HR : Hid (digN s = 0) := Lib.hid (by unfold digN; rw [HT.out, if_pos hz])
          clear hz
          rcases hd' with hd' | hd'
          all_goals
            go_wp2
            go_ret
            exact ⟨ret_int (by rw [HR.out]; all_goals rfl), rfl⟩
        · have HR : Hid (digN s = k) := Lib.hid (by unfold digN; rw [HT.out, if_neg hz])
          have hz' : k ≤ 1 ∨ (1 < k ∧ ((((at0 s 0).toNat : Int)) == 48) = false) := by
            by_cases a : k ≤ 1
            · exact .inl a
            · exact .inr ⟨by omega, beq48 (fun e => hz ⟨by omega, e⟩)⟩
          clear hz
          rcases hd' with hd' | hd' <;> rcases hz' with hz' | ⟨hz', hz2⟩
          all_goals
            go_wp2
            go_ret
            exact ⟨ret_int (by rw [HR.out]; all_goals rfl), rfl⟩
    · have HT := Lib.hid (takeWhile_len_of HD.out hk (.inl (by omega)))
      by_cases hz : 1 < k ∧ at0 s 0 = 48
      · have hz1 := hz.1
        have hz2 : ((((at0 s 0).toNat : Int)) == 48) = true := by rw [hz.2]; rfl
        have HR : Hid (digN s = 0) := Lib.hid (by unfold digN; rw [HT.out, if_pos hz])
        clear hz
        go_wp2
        go_ret
        exact ⟨ret_int (by rw [HR.out]; all_goals rfl), rfl⟩
      · have HR : Hid (digN s = k) := Lib.hid (by unfold digN; rw [HT.out, if_neg hz])
        have hz' : k ≤ 1 ∨ (1 < k ∧ ((((at0 s 0).toNat : Int)) == 48) = false) := by
          by_cases a : k ≤ 1
          · exact .inl a
          · exact .inr ⟨by omega, beq48 (fun e => hz ⟨by omega, e⟩)⟩
        clear hz
        rcases hz' with hz' | ⟨hz', hz2⟩
        all_goals
          go_wp2
          go_ret
          exact ⟨ret_int (by rw [HR.out]; all_goals rfl), rfl⟩
def cutV (a : Str) : Value := if rbad a then .tuple #[.agg #[.string ⟨#[]⟩, .string ⟨#[]⟩], .bool false] else .tuple #[.agg #[.string ⟨(numPart a).toArray⟩, .string ⟨(denStr a).toArray⟩], .bool true]
theorem cut_ways (a : Str) :
    (cutV a = .tuple #[.agg #[.string ⟨#[]⟩, .string ⟨#[]⟩], .bool false] ∧
      (digN (unsig (numPart a)) = 0 ∨
       (digN (unsig (numPart a)) ≠ 0 ∧ digN (unsig (numPart a)) < (unsig (numPart a)).length) ∨
       (digN (unsig (numPart a)) ≠ 0 ∧ ¬ digN (unsig (numPart a)) < (unsig (numPart a)).length ∧
         ((decide ((numPart a).head? = some 45) = true ∧ (unsig (numPart a) == [48]) = true) ∨
          ((decide ((numPart a).head? = some 45) = false ∨ (unsig (numPart a) == [48]) = false) ∧ hasSlash a = true ∧
            (digN (denCut a) = 0 ∨ (digN (denCut a) ≠ 0 ∧ digN (denCut a) < (denCut a).length) ∨
             (digN (denCut a) ≠ 0 ∧ ¬ digN (denCut a) < (denCut a).length ∧ ((denCut a == [48]) = true ∨ ((denCut a == [48]) = false ∧ (denCut a == [49]) = true))))))))) ∨
    (digN (unsig (numPart a)) ≠ 0 ∧ ¬ digN (unsig (numPart a)) < (unsig (numPart a)).length ∧ (decide ((numPart a).head? = some 45) = false ∨ (unsig (numPart a) == [48]) = false) ∧
      ((hasSlash a = false ∧ cutV a = .tuple #[.agg #[.string ⟨(numPart a).toArray⟩, .string ⟨#[49]⟩], .bool true]) ∨
       (hasSlash a = true ∧ digN (denCut a) ≠ 0 ∧ ¬ digN (denCut a) < (denCut a).length ∧ (denCut a == [48]) = false ∧ (denCut a == [49]) = false ∧
         cutV a = .tuple #[.agg #[.string ⟨(numPart a).toArray⟩, .string ⟨(denCut a).toArray⟩], .bool true]))) := by
  have hbad : rbad a → cutV a = .tuple #[.agg #[.string ⟨#[]⟩, .string ⟨#[]⟩], .bool false] := fun h => by unfold cutV; rw [if_pos h]
  have hgood : ¬ rbad a → cutV a = .tuple #[.agg #[.string ⟨(numPart a).toArray⟩, .string ⟨(denStr a).toArray⟩], .bool true] := fun h => by unfold cutV; rw [if_neg h]
  rw [rbad_iff] at hbad hgood
  by_cases h0 : digN (unsig (numPart a)) = 0
  · exact .inl ⟨hbad (.inl (.inl h0)), .inl h0⟩
  · by_cases h1 : digN (unsig (numPart a)) < (unsig (numPart a)).length
    · exact .inl ⟨hbad (.inl (.inr (.inl h1))), .inr (.inl ⟨h0, h1⟩)⟩
    · by_cases h2 : (numPart a).head? = some 45 ∧ unsig (numPart a) = [48]
      · exact .inl ⟨hbad (.inl (.inr (.inr h2))), .inr (.inr ⟨h0, h1, .inl ⟨by simpa using h2.1, by simpa using h2.2⟩⟩)⟩
      · have h2' : decide ((numPart a).head? = some 45) = false ∨ (unsig (numPart a) == [48]) = false := by
          by_cases hm : (numPart a).head? = some 45
          · exact .inr (by simpa using fun e => h2 ⟨hm, e⟩)
          · exact .inl (by simpa using hm)
        have hfirst : ¬ (digN (unsig (numPart a)) = 0 ∨ digN (unsig (numPart a)) < (unsig (numPart a)).length ∨ ((numPart a).head? = some 45 ∧ unsig (numPart a) = [48])) := by
          rintro (x | x | x)
          · exact h0 x
          · exact h1 x
          · exact h2 x
        cases hs : hasSlash a with
        | false =>
          refine .inr ⟨h0, h1, h2', .inl ⟨rfl, ?_⟩⟩
          have := hgood (by rintro (x | ⟨x, _⟩); · exact hfirst x
                            · rw [hs] at x; cases x)
          rw [this]; unfold denStr; rw [hs]; rfl
        | true =>
          have ed : denCut a = denPart a := by unfold denCut; rw [hs]; rfl
          have es : denStr a = denPart a := by unfold denStr; rw [hs]; rfl
          rw [ed]
          by_cases d0 : digN (denPart a) = 0
          · exact .inl ⟨hbad (.inr ⟨hs, .inl d0⟩), .inr (.inr ⟨h0, h1, .inr ⟨h2', rfl, .inl d0⟩⟩)⟩
          · by_cases d1 : digN (denPart a) < (denPart a).length
            · exact .inl ⟨hbad (.inr ⟨hs, .inr (.inl d1)⟩), .inr (.inr ⟨h0, h1, .inr ⟨h2', rfl, .inr (.inl ⟨d0, d1⟩)⟩⟩)⟩
            · by_cases d2 : denPart a = [48]
              · exact .inl ⟨hbad (.inr ⟨hs, .inr (.inr (.inl d2))⟩), .inr (.inr ⟨h0, h1, .inr ⟨h2', rfl, .inr (.inr ⟨d0, d1, .inl (by simpa using d2)⟩)⟩⟩)⟩
              · by_cases d3 : denPart a = [49]
                · exact .inl ⟨hbad (.inr ⟨hs, .inr (.inr (.inr d3))⟩), .inr (.inr ⟨h0, h1, .inr ⟨h2', rfl, .inr (.inr ⟨d0, d1, .inr ⟨by simpa using d2, by simpa using d3⟩⟩)⟩⟩)⟩
                · refine .inr ⟨h0, h1, h2', .inr ⟨rfl, d0, d1, by simpa using d2, by simpa using d3, ?_⟩⟩
                  have := hgood (by rintro (x | ⟨_, x | x | x | x⟩); · exact hfirst x
                                    · exact d0 x
                                    · exact d1 x
                                    · exact d2 x
                                    · exact d3 x)
                  rw [this, es]
theorem denCut_len (a : Str) : (denCut a).length ≤ a.length := by
  unfold denCut; split
  · exact denPart_len a
  · simp
set_option maxRecDepth 100000 in
set_option maxHeartbeats 2000000 in
theorem rational_cut (a : Str) (hl : a.length ≤ 1000000000) (w : World) (hE : Env w) :
    Calls Tryz.prog 86 #[.string ⟨a.toArray⟩] w fun e w' => e = .returned (cutV a) ∧ Q w w' := by
  have l1 := numPart_len a
  have l2 := denCut_len a
  have l3 := unsig_len (numPart a)
  rcases cut_ways a with ⟨HV, h | ⟨h, h1⟩ | ⟨h, h1, ⟨h2, h3⟩ | ⟨h2 | h2, h3, h4 | ⟨h4, h5⟩ | ⟨h4, h5, h6 | ⟨h6, h7⟩⟩⟩⟩⟩ | ⟨h, h1, h2 | h2, ⟨h3, HV⟩ | ⟨h3, h4, h5, h6, h7, HV⟩⟩
  all_goals
    have HW := Lib.hid HV
    clear HV
    first | have g0 := eq0_bool_t h | have g0 := eq0_bool_f h
    first | have g1 := lt_bool_t h1 | have g1 := lt_bool_f h1 | skip
    first | have g2 := eq0_bool_t h4 | have g2 := eq0_bool_f h4 | skip
    first | have g3 := lt_bool_t h5 | have g3 := lt_bool_f h5 | skip
    clear h
    go_enter Tryz.func86, Tryz.ntmps86
    go_wp2_with (first | (go_at_call 135; refine (lib_CutSlash a (by omega) _ (hE.q bt)).mono ?_; rintro e w1 ⟨rfl, n1, rfl⟩) | (go_at_call 125; refine (lib_CutMinus _ _).mono ?_; rintro e w1 ⟨rfl, rfl⟩) | (go_at_call 136; refine (rational_digits _ (by omega) _).mono ?_; rintro e w1 ⟨rfl, rfl⟩))
  all_goals
    first
    | (refine bodyPost_ret (v := .tuple #[.agg #[.string ⟨#[]⟩, .string ⟨#[]⟩], .bool false]) ?_ rfl ?_
       · simp [results, Tryz.results86, go_sem]
       · exact ⟨by rw [HW.out], bt⟩)
    | (refine bodyPost_ret (v := .tuple #[.agg #[.string ⟨(numPart a).toArray⟩, .string ⟨#[49]⟩], .bool true]) ?_ rfl ?_
       · simp [results, Tryz.results86, go_sem]
       · exact ⟨by rw [HW.out], bt⟩)
    | (refine bodyPost_ret (v := .tuple #[.agg #[.string ⟨(numPart a).toArray⟩, .string ⟨(denCut a).toArray⟩], .bool true]) ?_ rfl ?_
       · simp [results, Tryz.results86, go_sem]
       · exact ⟨by rw [HW.out], bt⟩)
end Go.Proofs.YtlbjjkmfcgcodaaGreatDoor
namespace Go.Proofs.YtlbjjkmfcgcodaaGreatDoor
open Go.RowKit Kp
theorem ret_read (tmps : Array Value) (W : World) (b : Nat) (x y u : Value) (hp : tmps.getD 2 undef = .pointer (some ⟨b, 0, none⟩)) (hu : tmps.getD 3 undef = u)
    (c0 : W.cell? ⟨b, 0, none⟩ = some x) (c1 : W.cell? ⟨b, 1, none⟩ = some y) :
    (results Tryz.f44 tmps).run Tryz.prog W = .ok (.tuple #[.agg #[x, y], u]) W := by
  simp only [Array.getD_eq_getD_getElem?] at hp hu
  simp [results, Tryz.results44, go_sem, hp, hu, c0, c1]
theorem cutV_rstr (q : Rat) : cutV (rstr q) = .tuple #[.agg #[.string ⟨(Lib.itoa q.num).toArray⟩, .string ⟨(Lib.itoa (q.den : Int)).toArray⟩], .bool true] := by
  unfold cutV; rw [if_neg (rbad_rstr q), numPart_rstr, denStr_rstr]
theorem natOfV_small {q : Rat} (h : Small8 q) : natOfV (rstr q) = .tuple #[.agg #[.int .i64 q.num, .int .i64 (q.den : Int)], .bool true] := natOfV_some (natOf_small h)
theorem small_len {q : Rat} (h : Small8 q) : (rstr q).length ≤ 1000 := by
  have h1 := itoa_len q.num (lim_small (by have := h.1; omega))
  have h2 := itoa_len (q.den : Int) (lim_small (by have := h.2; omega))
  unfold rstr; split
  · omega
  · rw [dec_eq_itoa, List.length_append, List.length_cons]; omega
set_option maxRecDepth 100000 in
set_option maxHeartbeats 1000000 in
theorem rational_read_small (q : Rat) (h : Small8 q) (w : World) (hE : Env w) :
    Calls Tryz.prog 44 #[.string ⟨(rstr q).toArray⟩] w fun e w' => e = .returned (.tuple #[.agg #[.string ⟨(Lib.itoa q.num).toArray⟩, .string ⟨(Lib.itoa (q.den : Int)).toArray⟩], .int .i64 0]) ∧ Q w w' := by
  have hl := small_len h
  go_enter Tryz.func44, Tryz.ntmps44
  go_wp2_with fail
  refine (rational_cut _ (by omega) _ (hE.q bt)).mono ?_
  rw [cutV_rstr]
  rintro e w1 ⟨rfl, hq1⟩
  have hz1 := hq1.size
  rw [World.size_alloc] at hz1
  have hQ1 : Q w w1 := (show Below w.heap.size w _ from bt).trans (hq1.mono (by simp))
  have B1 := (Blk.new w [.string ⟨#[]⟩, .string ⟨#[]⟩] 97).keep hq1 (by simp)
  go_wp2_with fail
  refine (rational_nativeOf _ (by omega) _).mono ?_
  rw [natOfV_small h]
  rintro e w2 ⟨rfl, hq2⟩
  have hz2 := hq2.size
  rw [World.size_alloc] at hz2
  have hQ2 : Q w w2 := hQ1.trans ((show Below w1.heap.size w1 _ from bt).trans (hq2.mono (by simp)) |>.mono hQ1.size)
  have B2 := (Blk.new w1 [.string ⟨(Lib.itoa q.num).toArray⟩, .string ⟨(Lib.itoa (q.den : Int)).toArray⟩] 97).keep hq2 (by simp)
  have B1' := (B1.keep (Below.refl (w1.heap.size) w1 |>.alloc (Nat.le_refl _) (.cells #[.string ⟨(Lib.itoa q.num).toArray⟩, .string ⟨(Lib.itoa (q.den : Int)).toArray⟩] 97)) (by omega)).keep hq2 (by simp; omega)
  have c0 := B1'.cell 0
  have c1 := B1'.cell 1
  have f0 := B1'.frozen 0
  have f1 := B1'.frozen 1
  have d0 := B2.cell 0
  have d1 := B2.cell 1
  have l1 := B1'.lt
  have l2 := B2.lt
  simp only [List.getElem?_cons_zero, List.getElem?_cons_succ] at c0 c1 d0 d1
  go_wp2_with fail
  refine bodyPost_ret (v := .tuple #[.agg #[.string ⟨(Lib.itoa q.num).toArray⟩, .string ⟨(Lib.itoa (q.den : Int)).toArray⟩], .int .i64 0])
    (ret_read _ _ w.heap.size _ _ _ rfl rfl ((((B1'.set 0 _).set 1 _).alloc _).cell 0) ((((B1'.set 0 _).set 1 _).alloc _).cell 1)) rfl ⟨rfl, ?_⟩
  exact ((hQ2.setCell (p := ⟨w.heap.size, 0, none⟩) (Nat.le_refl _) _).setCell (p := ⟨w.heap.size, 1, none⟩) (Nat.le_refl _) _).alloc (by simp; omega) _
end Go.Proofs.YtlbjjkmfcgcodaaGreatDoor
