/-
  Walks: the package rational.; Walks: rational.nativeOf at a string with a sign.
-/
import Derived.Test.YtohlpeicpoaanaaGreatDoorWC
import Derived.Test.YtohlpeicpoaanaaGreatDoorRootM
namespace Go.Proofs.YtohlpeicpoaanaaGreatDoor
section
open Go.RowKit Kp
def natOfV (a:Str):Value:=match natOf a with
 | some (n,d)=>.tuple #[.agg #[.int .i64 n,.int .i64 d],.bool true]
 | none=>.tuple #[.agg #[.int .i64 0,.int .i64 0],.bool false]
theorem natOfV_none {a:Str} (h:natOf a=none):natOfV a=.tuple #[.agg #[.int .i64 0,.int .i64 0],.bool false]:=by unfold natOfV; rw [h]
theorem natOfV_some {a:Str} {n d:Int} (h:natOf a=some (n,d)):natOfV a=.tuple #[.agg #[.int .i64 n,.int .i64 d],.bool true]:=by unfold natOfV; rw [h]
theorem natOf_ways (a own : Str) (neg : Bool) (hown : own = unsig a) (hneg : neg = decide (a.head? = some 45)) :
    (natOfV a = .tuple #[.agg #[.int .i64 0, .int .i64 0], .bool false] ∧
      (natOk own = false ∨
       (natOk own = true ∧ neg = true ∧ ((natN own : Int) == 0) = true) ∨
       (natOk own = true ∧ (neg = false ∨ ((natN own : Int) == 0) = false) ∧ (natRest own == []) = false ∧ 0 < (natRest own).length ∧
          (((((at0 (natRest own) 0).toNat : Int) == 47) = false) ∨
           ((((at0 (natRest own) 0).toNat : Int) == 47) = true ∧
             (natOk (dropS (natRest own) 1) = false ∨
              (natOk (dropS (natRest own) 1) = true ∧ (natRest (dropS (natRest own) 1) == []) = false) ∨
              (natOk (dropS (natRest own) 1) = true ∧ natRest (dropS (natRest own) 1) = [] ∧ natN (dropS (natRest own) 1) < 2) ∨
              (natOk (dropS (natRest own) 1) = true ∧ natRest (dropS (natRest own) 1) = [] ∧ 2 ≤ natN (dropS (natRest own) 1) ∧ ((Nat.gcd (natN own) (natN (dropS (natRest own) 1)) : Int) == 1) = false))))))) ∨
    (natOk own = true ∧ (neg = false ∨ ((natN own : Int) == 0) = false) ∧
      ((natRest own = [] ∧ natOfV a = .tuple #[.agg #[.int .i64 (if neg then -(natN own : Int) else natN own), .int .i64 1], .bool true]) ∨
       ((natRest own == []) = false ∧ 0 < (natRest own).length ∧ ((((at0 (natRest own) 0).toNat : Int) == 47) = true) ∧ natOk (dropS (natRest own) 1) = true ∧ natRest (dropS (natRest own) 1) = [] ∧ 2 ≤ natN (dropS (natRest own) 1) ∧
          ((Nat.gcd (natN own) (natN (dropS (natRest own) 1)) : Int) == 1) = true ∧ natOfV a = .tuple #[.agg #[.int .i64 (if neg then -(natN own : Int) else natN own), .int .i64 (natN (dropS (natRest own) 1))], .bool true]))) := by
  have h47 : ∀ c : UInt8, ((c.toNat : Int) == 47) = decide (c = 47) := by
    intro c
    by_cases h : c = 47
    · subst h; rfl
    · have : c.toNat ≠ 47 := fun e => h (UInt8.toNat_inj.1 e)
      simp [h]; omega
  have e1 : ∀ n : Nat, ((n : Int) == 1) = decide (n = 1) := by intro n; by_cases h : n = 1 <;> simp [h]; omega
  have e0 : ∀ n : Nat, ((n : Int) == 0) = decide (n = 0) := by intro n; by_cases h : n = 0 <;> simp [h]
  have hV : ∀ {r}, natOf a = r → natOfV a = (match r with
      | some (n, d) => .tuple #[.agg #[.int .i64 n, .int .i64 d], .bool true]
      | none => .tuple #[.agg #[.int .i64 0, .int .i64 0], .bool false]) := by intro r h; unfold natOfV; rw [h]
  have hn2 : (a.head? = some 45) = (neg = true) := by rw [hneg]; simp
  unfold natOf at hV
  rw [← hown] at hV
  simp only [hn2] at hV
  simp only [h47, e1, e0]
  cases hA : natOk own with
  | false => exact .inl ⟨hV (r := none) (by rw [if_pos (.inl hA)]), .inl rfl⟩
  | true =>
    by_cases hB : neg = true ∧ natN own = 0
    · exact .inl ⟨hV (r := none) (by rw [if_pos (.inr hB)]), .inr (.inl ⟨rfl, hB.1, by simp [hB.2]⟩)⟩
    · have hB' : neg = false ∨ decide (natN own = 0) = false := by
        cases neg with
        | false => exact .inl rfl
        | true => exact .inr (by simpa using hB)
      have n1 : ¬ (natOk own = false ∨ (neg = true ∧ natN own = 0)) := by rw [hA]; simpa using hB
      rw [if_neg n1] at hV
      by_cases hC : natRest own = []
      · rw [if_pos hC] at hV
        exact .inr ⟨rfl, hB', .inl ⟨hC, hV rfl⟩⟩
      · rw [if_neg hC] at hV
        have hC1 : (natRest own == []) = false := by simpa using hC
        have hC2 : 0 < (natRest own).length := List.length_pos_iff.2 hC
        by_cases hD : at0 (natRest own) 0 = 47
        · rw [if_neg (fun x => x hD)] at hV
          cases hE : natOk (dropS (natRest own) 1) with
          | false => exact .inl ⟨hV (r := none) (by rw [if_pos (.inl hE)]), .inr (.inr ⟨rfl, hB', hC1, hC2, .inr ⟨by simpa using hD, .inl rfl⟩⟩)⟩
          | true =>
            by_cases hF : natRest (dropS (natRest own) 1) = []
            · by_cases hG : natN (dropS (natRest own) 1) < 2
              · exact .inl ⟨hV (r := none) (by rw [if_pos (.inr (.inr (.inl hG)))]), .inr (.inr ⟨rfl, hB', hC1, hC2, .inr ⟨by simpa using hD, .inr (.inr (.inl ⟨rfl, hF, hG⟩))⟩⟩)⟩
              · by_cases hH : Nat.gcd (natN own) (natN (dropS (natRest own) 1)) = 1
                · rw [if_neg (by rw [hE]; rintro (x | x | x | x); · cases x
                                 · exact x hF
                                 · exact hG x
                                 · exact x hH)] at hV
                  exact .inr ⟨rfl, hB', .inr ⟨hC1, hC2, by simpa using hD, rfl, hF, by omega, by simpa using hH, hV rfl⟩⟩
                · exact .inl ⟨hV (r := none) (by rw [if_pos (.inr (.inr (.inr hH)))]), .inr (.inr ⟨rfl, hB', hC1, hC2, .inr ⟨by simpa using hD, .inr (.inr (.inr ⟨rfl, hF, by omega, by simpa using hH⟩))⟩⟩)⟩
            · exact .inl ⟨hV (r := none) (by rw [if_pos (.inr (.inl hF))]), .inr (.inr ⟨rfl, hB', hC1, hC2, .inr ⟨by simpa using hD, .inr (.inl ⟨rfl, by simpa using hF⟩)⟩⟩)⟩
        · rw [if_pos hD] at hV
          exact .inl ⟨hV (r := none) rfl, .inr (.inr ⟨rfl, hB', hC1, hC2, .inl (by simpa using hD)⟩)⟩
theorem ne45 {c:UInt8} (h:c≠45):((c.toNat:Int) == 45)=false:=by
 have h2:c.toNat≠45:=fun e=>h (UInt8.toNat_inj.1 e)
 simp; omega
set_option maxRecDepth 100000 in
set_option maxHeartbeats 2000000 in
theorem rational_nativeOf_plus (a:Str) (ha:a.length≤1000000000) (hm:a.head?≠some 45) (w:World) :
  Calls Tryz.prog 99 #[.string ⟨a.toArray⟩] w fun e w'=>e=.returned (natOfV a)∧Q w w':=by
 have hne:a≠[]→(a == [])=false∧0<a.length∧((((at0 a 0).toNat:Int) == 45)=false):=by
  intro h
  refine ⟨by simpa using h,List.length_pos_iff.2 h,ne45 (fun e=>hm ?_)⟩
  rw [head_at0 h,e]
 have hl1:=natRest_len a
 have hl2:=dropS_len (natRest a) 1
 have hb1:=natN_lt a
 have hb2:=natN_lt (dropS (natRest a) 1)
 rcases natOf_ways a a false (unsig_same hm).symm (by simp [hm]) with ⟨HV,hw | ⟨_,h,_⟩ | ⟨hw,_,hr,hr2,hx⟩⟩ | ⟨hw,_,hx⟩
 ·have HW:=LH HV
  clear HV
  by_cases hn:a=[]
  ·subst hn
   clear hne hm
   go_enter Tryz.func99,Tryz.ntmps99
   go_wp2_with (go_at_call 132; refine (rational_nativeInt [] _ (by decide)).mono ?_; rintro e w1 ⟨rfl,n1,rfl⟩)
   exact bodyPost_ret (v:=.tuple #[.agg #[.int .i64 0,.int .i64 0],.bool false]) (by simp [results,Tryz.results99,go_sem]) rfl ⟨by rw [HW.out],bt⟩
  ·obtain ⟨h,h2,h3⟩:=hne hn
   clear hne hn hm
   go_enter Tryz.func99,Tryz.ntmps99
   go_wp2_with (go_at_call 132; refine (rational_nativeInt _ _ (by omega)).mono ?_; rintro e w1 ⟨rfl,n1,rfl⟩)
   exact bodyPost_ret (v:=.tuple #[.agg #[.int .i64 0,.int .i64 0],.bool false]) (by simp [results,Tryz.results99,go_sem]) rfl ⟨by rw [HW.out],bt⟩
 ·cases h
 ·have HW:=LH HV
  obtain ⟨h,h2,h3⟩:=hne (natOk_ne hw)
  clear HV hne hm
  have h':=bne_of_f h
  have hr':=bne_of_f hr
  rcases hx with hx | ⟨hx,hy | ⟨hy,hz⟩ | ⟨hy,hz,hu⟩ | ⟨hy,hz,hu,hv⟩⟩
  all_goals
   first | have hx':=bne_of_f hx | have hx':=bne_of_t hx
   first | have hz':=bne_of_f hz | skip
   first | have hv':=bne_of_f hv | skip
   go_enter Tryz.func99,Tryz.ntmps99
   go_wp2_with (first | (go_at_call 132; refine (rational_nativeInt _ _ (by omega)).mono ?_; rintro e w1 ⟨rfl,n1,rfl⟩) | (go_at_call 133; refine (rational_gcd _ _ _ (by omega) (by omega)).mono ?_; rintro e w1 ⟨rfl,n1,rfl⟩))
   exact bodyPost_ret (v:=.tuple #[.agg #[.int .i64 0,.int .i64 0],.bool false]) (by simp [results,Tryz.results99,go_sem]) rfl ⟨by rw [HW.out],bt⟩
 ·obtain ⟨h,h2,h3⟩:=hne (natOk_ne hw)
  clear hne hm
  have h':=bne_of_f h
  rcases hx with ⟨hx,HV⟩ | ⟨hr,hr2,hx,hy,hz,hu,hv,HV⟩
  all_goals
   first | (have hx':=bne_of_t hx; have hv':=bne_of_t hv; have hr':=bne_of_f hr) | skip
   have HW:=LH HV
   clear HV
   go_enter Tryz.func99,Tryz.ntmps99
   go_wp2_with (first | (go_at_call 132; refine (rational_nativeInt _ _ (by omega)).mono ?_; rintro e w1 ⟨rfl,n1,rfl⟩) | (go_at_call 133; refine (rational_gcd _ _ _ (by omega) (by omega)).mono ?_; rintro e w1 ⟨rfl,n1,rfl⟩))
   first
    | exact bodyPost_ret (v:=.tuple #[.agg #[.int .i64 (natN a),.int .i64 1],.bool true]) (by simp [results,Tryz.results99,go_sem]) rfl ⟨by rw [HW.out]; rfl,bt⟩
    | exact bodyPost_ret (v:=.tuple #[.agg #[.int .i64 (natN a),.int .i64 (natN (dropS (natRest a) 1))],.bool true]) (by simp [results,Tryz.results99,go_sem]) rfl ⟨by rw [HW.out]; rfl,bt⟩
end
section
open Go.RowKit Kp
set_option maxRecDepth 100000 in
set_option maxHeartbeats 2000000 in
theorem rational_nativeOf_minus (a:Str) (ha:a.length≤1000000000) (hm:a.head?=some 45) (w:World) :
  Calls Tryz.prog 99 #[.string ⟨a.toArray⟩] w fun e w'=>e=.returned (natOfV a)∧Q w w':=by
 have hne:a≠[]:=by intro e; rw [e] at hm; cases hm
 have h:(a == [])=false:=by simpa using hne
 have h':=bne_of_f h
 have h2:0<a.length:=List.length_pos_iff.2 hne
 have h3:((((at0 a 0).toNat:Int) == 45)=true):=by
  rw [head_at0 hne] at hm; rw [Option.some.inj hm]; rfl
 have hown:dropS a 1=unsig a:=by rw [unsig_cons hm]; rfl
 have hlo:=dropS_len a 1
 have hl1:=natRest_len (dropS a 1)
 have hl2:=dropS_len (natRest (dropS a 1)) 1
 have hb1:=natN_lt (dropS a 1)
 have hb2:=natN_lt (dropS (natRest (dropS a 1)) 1)
 have hlt:(dropS a 1).length<a.length:=by omega
 rcases natOf_ways a (dropS a 1) true hown (by simp [hm]) with ⟨HV,hw | ⟨hw,_,hz⟩ | ⟨hw,hn,hr,hr2,hx⟩⟩ | ⟨hw,hn,hx⟩
 ·have HW:=LH HV
  clear HV hne hm hown
  go_enter Tryz.func99,Tryz.ntmps99
  go_wp2_with (go_at_call 132; refine (rational_nativeInt _ _ (by omega)).mono ?_; rintro e w1 ⟨rfl,n1,rfl⟩)
  exact bodyPost_ret (v:=.tuple #[.agg #[.int .i64 0,.int .i64 0],.bool false]) (by simp [results,Tryz.results99,go_sem]) rfl ⟨by rw [HW.out],bt⟩
 ·have HW:=LH HV
  clear HV hne hm hown
  go_enter Tryz.func99,Tryz.ntmps99
  go_wp2_with (go_at_call 132; refine (rational_nativeInt _ _ (by omega)).mono ?_; rintro e w1 ⟨rfl,n1,rfl⟩)
  exact bodyPost_ret (v:=.tuple #[.agg #[.int .i64 0,.int .i64 0],.bool false]) (by simp [results,Tryz.results99,go_sem]) rfl ⟨by rw [HW.out],bt⟩
 ·have HW:=LH HV
  have hn:((natN (dropS a 1):Int) == 0)=false:=hn.elim (fun e=>by cases e) id
  clear HV hne hm hown
  have hr':=bne_of_f hr
  rcases hx with hx | ⟨hx,hy | ⟨hy,hz⟩ | ⟨hy,hz,hu⟩ | ⟨hy,hz,hu,hv⟩⟩
  all_goals
   first | have hx':=bne_of_f hx | have hx':=bne_of_t hx
   first | have hz':=bne_of_f hz | skip
   first | have hv':=bne_of_f hv | skip
   go_enter Tryz.func99,Tryz.ntmps99
   go_wp2_with (first | (go_at_call 132; refine (rational_nativeInt _ _ (by omega)).mono ?_; rintro e w1 ⟨rfl,n1,rfl⟩) | (go_at_call 133; refine (rational_gcd _ _ _ (by omega) (by omega)).mono ?_; rintro e w1 ⟨rfl,n1,rfl⟩))
   exact bodyPost_ret (v:=.tuple #[.agg #[.int .i64 0,.int .i64 0],.bool false]) (by simp [results,Tryz.results99,go_sem]) rfl ⟨by rw [HW.out],bt⟩
 ·have hn:((natN (dropS a 1):Int) == 0)=false:=hn.elim (fun e=>by cases e) id
  clear hne hm hown
  rcases hx with ⟨hx,HV⟩ | ⟨hr,hr2,hx,hy,hz,hu,hv,HV⟩
  all_goals
   first | (have hx':=bne_of_t hx; have hv':=bne_of_t hv; have hr':=bne_of_f hr) | skip
   have HW:=LH HV
   clear HV
   go_enter Tryz.func99,Tryz.ntmps99
   go_wp2_with (first | (go_at_call 132; refine (rational_nativeInt _ _ (by omega)).mono ?_; rintro e w1 ⟨rfl,n1,rfl⟩) | (go_at_call 133; refine (rational_gcd _ _ _ (by omega) (by omega)).mono ?_; rintro e w1 ⟨rfl,n1,rfl⟩))
   first
    | exact bodyPost_ret (v:=.tuple #[.agg #[.int .i64 (-(natN (dropS a 1):Int)),.int .i64 1],.bool true]) (by simp [results,Tryz.results99,go_sem]) rfl ⟨by rw [HW.out]; rfl,bt⟩
    | exact bodyPost_ret (v:=.tuple #[.agg #[.int .i64 (-(natN (dropS a 1):Int)),.int .i64 (natN (dropS (natRest (dropS a 1)) 1))],.bool true]) (by simp [results,Tryz.results99,go_sem]) rfl ⟨by rw [HW.out]; rfl,bt⟩
theorem rational_nativeOf (a:Str) (ha:a.length≤1000000000) (w:World) :
  Calls Tryz.prog 99 #[.string ⟨a.toArray⟩] w fun e w'=>e=.returned (natOfV a)∧Q w w':=by
 by_cases hm:a.head?=some 45
 ·exact rational_nativeOf_minus a ha hm w
 ·exact rational_nativeOf_plus a ha hm w
end
end Go.Proofs.YtohlpeicpoaanaaGreatDoor
