/-
  Walks: the package rational.; Walks: rational.nativeOf at a string with a sign.; Walks: the package rational, numbers with short parts.; Walks: rational.digits, cut.; Walks: rational.read, Check, Parts at numbers with short parts; quick.; Walks: sum, difference, product and quotient of numbers with short parts. (Printed by mkquick.py.)
-/
import Derived.Test.YtagkadlaeeoblaaGreatDoorBM02
import Derived.Test.YtagkadlaeeoblaaGreatDoorBM00
set_option maxRecDepth 100000
set_option maxHeartbeats 2000000
namespace Go.Proofs.YtagkadlaeeoblaaGreatDoor
section
open Go.RowKit Kp
def zdS(a:Str):Value:=match zcu a with
 | some (n,d)=>.tuple #[.agg #[.int .i64 n,.int .i64 d],.bool true]
 | none=>.tuple #[.agg #[.int .i64 0,.int .i64 0],.bool false]
theorem zda{a:Str}(h:zcu a=none):zdS a=.tuple #[.agg #[.int .i64 0,.int .i64 0],.bool false]:=by unfold zdS;rw[h]
theorem zec{a:Str}{n d:Int}(h:zcu a=some (n,d)):zdS a=.tuple #[.agg #[.int .i64 n,.int .i64 d],.bool true]:=by unfold zdS;rw[h]
theorem zkh(a own : Str)(neg : Bool)(hown : own = zq a)(hneg : neg = decide (a.head? = some 45)) :
    (zdS a = .tuple #[.agg #[.int .i64 0, .int .i64 0], .bool false] ∧
      (zb5 own = false ∨
       (zb5 own = true ∧ neg = true ∧ ((zb1 own : Int) == 0) = true) ∨
       (zb5 own = true ∧ (neg = false ∨ ((zb1 own : Int) == 0) = false) ∧ (zy own == []) = false ∧ 0 < (zy own).length ∧
          (((((at0 (zy own) 0).toNat : Int) == 47) = false) ∨
           ((((at0 (zy own) 0).toNat : Int) == 47) = true ∧
             (zb5 (za8 (zy own) 1) = false ∨
              (zb5 (za8 (zy own) 1) = true ∧ (zy (za8 (zy own) 1) == []) = false) ∨
              (zb5 (za8 (zy own) 1) = true ∧ zy (za8 (zy own) 1) = [] ∧ zb1 (za8 (zy own) 1) < 2) ∨
              (zb5 (za8 (zy own) 1) = true ∧ zy (za8 (zy own) 1) = [] ∧ 2 ≤ zb1 (za8 (zy own) 1) ∧ ((Nat.gcd (zb1 own) (zb1 (za8 (zy own) 1)) : Int) == 1) = false))))))) ∨
    (zb5 own = true ∧ (neg = false ∨ ((zb1 own : Int) == 0) = false) ∧
      ((zy own = [] ∧ zdS a = .tuple #[.agg #[.int .i64 (if neg then -(zb1 own : Int)else zb1 own), .int .i64 1], .bool true]) ∨
       ((zy own == []) = false ∧ 0 < (zy own).length ∧ ((((at0 (zy own) 0).toNat : Int) == 47) = true) ∧ zb5 (za8 (zy own) 1) = true ∧ zy (za8 (zy own) 1) = [] ∧ 2 ≤ zb1 (za8 (zy own) 1) ∧
          ((Nat.gcd (zb1 own) (zb1 (za8 (zy own) 1)) : Int) == 1) = true ∧ zdS a = .tuple #[.agg #[.int .i64 (if neg then -(zb1 own : Int)else zb1 own), .int .i64 (zb1 (za8 (zy own) 1))], .bool true]))) := by
  have h47 : ∀ c : UInt8, ((c.toNat : Int) == 47) = decide (c = 47) := by
    intro c
    by_cases h : c = 47
    · subst h;rfl
    · have : c.toNat ≠ 47 := fun e => h (UInt8.toNat_inj.1 e)
      simp[h];omega
  have e1 : ∀ n : Nat, ((n : Int) == 1) = decide (n = 1) := by intro n;by_cases h : n = 1 <;> simp[h];omega
  have e0 : ∀ n : Nat, ((n : Int) == 0) = decide (n = 0) := by intro n;by_cases h : n = 0 <;> simp[h]
  have hV : ∀ {r}, zcu a = r → zdS a = (match r with
      | some (n, d) => .tuple #[.agg #[.int .i64 n, .int .i64 d], .bool true]
      | none => .tuple #[.agg #[.int .i64 0, .int .i64 0], .bool false]) := by intro r h;unfold zdS;rw[h]
  have hn2 : (a.head? = some 45) = (neg = true) := by rw[hneg];simp
  unfold zcu at hV
  rw[← hown]at hV
  simp only[hn2]at hV
  simp only[h47, e1, e0]
  cases hA : zb5 own with
  | false => exact .inl ⟨hV (r := none) (by rw[if_pos (.inl hA)]), .inl rfl⟩
  | true =>
    by_cases hB : neg = true ∧ zb1 own = 0
    · exact .inl ⟨hV (r := none) (by rw[if_pos (.inr hB)]), .inr (.inl ⟨rfl, hB.1, by simp[hB.2]⟩)⟩
    · have hB' : neg = false ∨ decide (zb1 own = 0) = false := by
        cases neg with
        | false => exact .inl rfl
        | true => exact .inr (by simpa using hB)
      have n1 : ¬ (zb5 own = false ∨ (neg = true ∧ zb1 own = 0)) := by rw[hA];simpa using hB
      rw[if_neg n1]at hV
      by_cases hC : zy own = []
      · rw[if_pos hC]at hV
        exact .inr ⟨rfl, hB', .inl ⟨hC, hV rfl⟩⟩
      · rw[if_neg hC]at hV
        have hC1 : (zy own == []) = false := by simpa using hC
        have hC2 : 0 < (zy own).length := List.length_pos_iff.2 hC
        by_cases hD : at0 (zy own) 0 = 47
        · rw[if_neg (fun x => x hD)]at hV
          cases hE : zb5 (za8 (zy own) 1)with
          | false => exact .inl ⟨hV (r := none) (by rw[if_pos (.inl hE)]), .inr (.inr ⟨rfl, hB', hC1, hC2, .inr ⟨by simpa using hD, .inl rfl⟩⟩)⟩
          | true =>
            by_cases hF : zy (za8 (zy own) 1) = []
            · by_cases hG : zb1 (za8 (zy own) 1) < 2
              · exact .inl ⟨hV (r := none) (by rw[if_pos (.inr (.inr (.inl hG)))]), .inr (.inr ⟨rfl, hB', hC1, hC2, .inr ⟨by simpa using hD, .inr (.inr (.inl ⟨rfl, hF, hG⟩))⟩⟩)⟩
              · by_cases hH : Nat.gcd (zb1 own) (zb1 (za8 (zy own) 1)) = 1
                · rw [if_neg (by rw [hE]; rintro (x | x | x | x); · cases x
                                 · exact x hF
                                 · exact hG x
                                 · exact x hH)]at hV
                  exact .inr ⟨rfl, hB', .inr ⟨hC1, hC2, by simpa using hD, rfl, hF, by omega, by simpa using hH, hV rfl⟩⟩
                · exact .inl ⟨hV (r := none) (by rw[if_pos (.inr (.inr (.inr hH)))]), .inr (.inr ⟨rfl, hB', hC1, hC2, .inr ⟨by simpa using hD, .inr (.inr (.inr ⟨rfl, hF, by omega, by simpa using hH⟩))⟩⟩)⟩
            · exact .inl ⟨hV (r := none) (by rw[if_pos (.inr (.inl hF))]), .inr (.inr ⟨rfl, hB', hC1, hC2, .inr ⟨by simpa using hD, .inr (.inl ⟨rfl, by simpa using hF⟩)⟩⟩)⟩
        · rw[if_pos hD]at hV
          exact .inl ⟨hV (r := none) rfl, .inr (.inr ⟨rfl, hB', hC1, hC2, .inl (by simpa using hD)⟩)⟩
theorem zt9{c:UInt8}(h:c≠45):((c.toNat:Int) == 45)=false:=by
 have h2:c.toNat≠45:=fun e=>h (UInt8.toNat_inj.1 e)
 simp;omega
theorem zes(a:Str)(ha:a.length≤1000000000)(hm:a.head?≠some 45)(w:World) :
  CR 111 #[.string ⟨a.toArray⟩] w (zdS a):=by
 have hne:a≠[]→(a == [])=false∧0<a.length∧((((at0 a 0).toNat:Int) == 45)=false):=by
  intro h
  refine⟨by simpa using h,List.length_pos_iff.2 h,zt9 (fun e=>hm ?_)⟩
  rw[zcW h,e]
 have hl1:=zi6 a
 have hl2:=zgQ (zy a) 1
 have hb1:=zld a
 have hb2:=zld (za8 (zy a) 1)
 rcases zkh a a false (zct hm).symm (by simp[hm])with⟨HV,hw | ⟨_,h,_⟩|⟨hw,_,hr,hr2,hx⟩⟩|⟨hw,_,hx⟩
 ·have HW:=LH HV
  clear HV
  by_cases hn:a=[]
  ·subst hn
   clear hne hm
   go_enter Tryz.func111,Tryz.ntmps111
   go_wp2_with (go_at_call 171;refine(zal [] _ (by decide)).mono ?_;rintro e w1 ⟨rfl,n1,rfl⟩)
   exact bodyPost_ret (v:=.tuple #[.agg #[.int .i64 0,.int .i64 0],.bool false]) (by simp[results,Tryz.results111,go_sem]) rfl ⟨by rw[HW.out],bt⟩
  ·obtain⟨h,h2,h3⟩:=hne hn
   clear hne hn hm
   go_enter Tryz.func111,Tryz.ntmps111
   go_wp2_with (go_at_call 171;refine(zal _ _ (by omega)).mono ?_;rintro e w1 ⟨rfl,n1,rfl⟩)
   exact bodyPost_ret (v:=.tuple #[.agg #[.int .i64 0,.int .i64 0],.bool false]) (by simp[results,Tryz.results111,go_sem]) rfl ⟨by rw[HW.out],bt⟩
 ·cases h
 ·have HW:=LH HV
  obtain⟨h,h2,h3⟩:=hne (zn2 hw)
  clear HV hne hm
  have h':=zaB h
  have hr':=zaB hr
  rcases hx with hx | ⟨hx,hy | ⟨hy,hz⟩|⟨hy,hz,hu⟩|⟨hy,hz,hu,hv⟩⟩
  all_goals
   first | have hx':=zaB hx | have hx':=zbU hx
   first | have hz':=zaB hz | skip
   first | have hv':=zaB hv | skip
   go_enter Tryz.func111,Tryz.ntmps111
   go_wp2_with (first | (go_at_call 171;refine(zal _ _ (by omega)).mono ?_;rintro e w1 ⟨rfl,n1,rfl⟩)|(go_at_call 172;refine(zb8 _ _ _ (by omega) (by omega)).mono ?_;rintro e w1 ⟨rfl,n1,rfl⟩))
   exact bodyPost_ret (v:=.tuple #[.agg #[.int .i64 0,.int .i64 0],.bool false]) (by simp[results,Tryz.results111,go_sem]) rfl ⟨by rw[HW.out],bt⟩
 ·obtain⟨h,h2,h3⟩:=hne (zn2 hw)
  clear hne hm
  have h':=zaB h
  rcases hx with⟨hx,HV⟩|⟨hr,hr2,hx,hy,hz,hu,hv,HV⟩
  all_goals
   first | (have hx':=zbU hx;have hv':=zbU hv;have hr':=zaB hr) | skip
   have HW:=LH HV
   clear HV
   go_enter Tryz.func111,Tryz.ntmps111
   go_wp2_with (first | (go_at_call 171;refine(zal _ _ (by omega)).mono ?_;rintro e w1 ⟨rfl,n1,rfl⟩)|(go_at_call 172;refine(zb8 _ _ _ (by omega) (by omega)).mono ?_;rintro e w1 ⟨rfl,n1,rfl⟩))
   first
    | exact bodyPost_ret (v:=.tuple #[.agg #[.int .i64 (zb1 a),.int .i64 1],.bool true]) (by simp[results,Tryz.results111,go_sem]) rfl ⟨by rw[HW.out];rfl,bt⟩
    | exact bodyPost_ret (v:=.tuple #[.agg #[.int .i64 (zb1 a),.int .i64 (zb1 (za8 (zy a) 1))],.bool true]) (by simp[results,Tryz.results111,go_sem]) rfl ⟨by rw[HW.out];rfl,bt⟩
end
section
open Go.RowKit Kp
theorem zd9(a:Str)(ha:a.length≤1000000000)(hm:a.head? = some 45)(w:World) :
  CR 111 #[.string ⟨a.toArray⟩] w (zdS a):=by
 have hne:a≠[]:=by intro e;rw[e]at hm;cases hm
 have h:(a == [])=false:=by simpa using hne
 have h':=zaB h
 have h2:0<a.length:=List.length_pos_iff.2 hne
 have h3:((((at0 a 0).toNat:Int) == 45)=true):=by
  rw[zcW hne]at hm;rw[Option.some.inj hm];rfl
 have hown:za8 a 1=zq a:=by rw[zgZ hm];rfl
 have hlo:=zgQ a 1
 have hl1:=zi6 (za8 a 1)
 have hl2:=zgQ (zy (za8 a 1)) 1
 have hb1:=zld (za8 a 1)
 have hb2:=zld (za8 (zy (za8 a 1)) 1)
 have hlt:(za8 a 1).length<a.length:=by omega
 rcases zkh a (za8 a 1) true hown (by simp[hm])with⟨HV,hw | ⟨hw,_,hz⟩|⟨hw,hn,hr,hr2,hx⟩⟩|⟨hw,hn,hx⟩
 ·have HW:=LH HV
  clear HV hne hm hown
  go_enter Tryz.func111,Tryz.ntmps111
  go_wp2_with (go_at_call 171;refine(zal _ _ (by omega)).mono ?_;rintro e w1 ⟨rfl,n1,rfl⟩)
  exact bodyPost_ret (v:=.tuple #[.agg #[.int .i64 0,.int .i64 0],.bool false]) (by simp[results,Tryz.results111,go_sem]) rfl ⟨by rw[HW.out],bt⟩
 ·have HW:=LH HV
  clear HV hne hm hown
  go_enter Tryz.func111,Tryz.ntmps111
  go_wp2_with (go_at_call 171;refine(zal _ _ (by omega)).mono ?_;rintro e w1 ⟨rfl,n1,rfl⟩)
  exact bodyPost_ret (v:=.tuple #[.agg #[.int .i64 0,.int .i64 0],.bool false]) (by simp[results,Tryz.results111,go_sem]) rfl ⟨by rw[HW.out],bt⟩
 ·have HW:=LH HV
  have hn:((zb1 (za8 a 1):Int) == 0)=false:=hn.elim (fun e=>by cases e) id
  clear HV hne hm hown
  have hr':=zaB hr
  rcases hx with hx | ⟨hx,hy | ⟨hy,hz⟩|⟨hy,hz,hu⟩|⟨hy,hz,hu,hv⟩⟩
  all_goals
   first | have hx':=zaB hx | have hx':=zbU hx
   first | have hz':=zaB hz | skip
   first | have hv':=zaB hv | skip
   go_enter Tryz.func111,Tryz.ntmps111
   go_wp2_with (first | (go_at_call 171;refine(zal _ _ (by omega)).mono ?_;rintro e w1 ⟨rfl,n1,rfl⟩)|(go_at_call 172;refine(zb8 _ _ _ (by omega) (by omega)).mono ?_;rintro e w1 ⟨rfl,n1,rfl⟩))
   exact bodyPost_ret (v:=.tuple #[.agg #[.int .i64 0,.int .i64 0],.bool false]) (by simp[results,Tryz.results111,go_sem]) rfl ⟨by rw[HW.out],bt⟩
 ·have hn:((zb1 (za8 a 1):Int) == 0)=false:=hn.elim (fun e=>by cases e) id
  clear hne hm hown
  rcases hx with⟨hx,HV⟩|⟨hr,hr2,hx,hy,hz,hu,hv,HV⟩
  all_goals
   first | (have hx':=zbU hx;have hv':=zbU hv;have hr':=zaB hr) | skip
   have HW:=LH HV
   clear HV
   go_enter Tryz.func111,Tryz.ntmps111
   go_wp2_with (first | (go_at_call 171;refine(zal _ _ (by omega)).mono ?_;rintro e w1 ⟨rfl,n1,rfl⟩)|(go_at_call 172;refine(zb8 _ _ _ (by omega) (by omega)).mono ?_;rintro e w1 ⟨rfl,n1,rfl⟩))
   first
    | exact bodyPost_ret (v:=.tuple #[.agg #[.int .i64 (-(zb1 (za8 a 1):Int)),.int .i64 1],.bool true]) (by simp[results,Tryz.results111,go_sem]) rfl ⟨by rw[HW.out];rfl,bt⟩
    | exact bodyPost_ret (v:=.tuple #[.agg #[.int .i64 (-(zb1 (za8 a 1):Int)),.int .i64 (zb1 (za8 (zy (za8 a 1)) 1))],.bool true]) (by simp[results,Tryz.results111,go_sem]) rfl ⟨by rw[HW.out];rfl,bt⟩
theorem zC(a:Str)(ha:a.length≤1000000000)(w:World) :
  CR 111 #[.string ⟨a.toArray⟩] w (zdS a):=by
 by_cases hm:a.head? = some 45
 ·exact zd9 a ha hm w
 ·exact zes a ha hm w
end
section
open Go.RowKit Kp
theorem zhe(n:Int)(k:Nat)(hk:0<k)(hn:n.natAbs≤100000000000000000)(hd1:k≤100000000000000000)(w:World)(hE:Env w) :
  CR 112 #[.agg #[.int .i64 n,.int .i64 k]] w (.string ⟨(zh (Rat.divInt n k)).toArray⟩):=by
 have hmx:=zqp n
 have hg1:0<Nat.gcd n.natAbs k:=Nat.gcd_pos_of_pos_right _ (by omega)
 obtain⟨b1,b2⟩:=zfz n (Nat.gcd n.natAbs k) (B:=100000000000000000) (by omega)
 have b3:0≤(k:Int) / (Nat.gcd n.natAbs k:Int):=Int.ediv_nonneg (by omega) (by omega)
 have b4:(k:Int) / (Nat.gcd n.natAbs k:Int)≤100000000000000000:=Int.le_trans (Int.ediv_le_self _ (by omega)) (by omega)
 have HR:=LH (zd4 n k hk)
 generalize zh (Rat.divInt n k)=r at *
 have HG:=LH (zb8 n.natAbs k)
 generalize hgg:Nat.gcd n.natAbs k=g at *
 clear hgg
 have hg3:((g:Int) == 0)=false:=by simp;omega
 have l1:=zW (n.tdiv g) (zci (by omega))
 have l2:=zW ((k:Int) / (g:Int)) (zci (by omega))
 by_cases h1:(k:Int) / (g:Int)=1
 ·have hb:((k:Int) / (g:Int) == 1)=true:=by simpa using h1
  have H1:=LH h1
  clear h1
  go_enter Tryz.func112,Tryz.ntmps112
  go_wp2_with (go_at_call 172;refine(HG.out _ (by omega) (by omega)).mono ?_;rintro e w1 ⟨rfl,n1,rfl⟩)
  go_quiet (fail)
  go_wp2_with fail
  refine cx (zas _ (by omega) (by omega) _ (hE.q bt)) fun w3 hq3=>?_
  go_wp2
  go_ret
  exact⟨by rw[HR.out,if_pos H1.out];rfl,(show Below w.heap.size w _ from bt).trans (hq3.mono (by simp))⟩
 ·have hb:((k:Int) / (g:Int) == 1)=false:=by simpa using h1
  have H1:=LH h1
  clear h1
  go_enter Tryz.func112,Tryz.ntmps112
  go_wp2_with (go_at_call 172;refine(HG.out _ (by omega) (by omega)).mono ?_;rintro e w1 ⟨rfl,n1,rfl⟩)
  go_quiet (fail)
  go_wp2_with fail
  refine cx (zas _ (by omega) (by omega) _ (hE.q bt)) fun w3 hq3=>?_
  have hQ3:Q w w3:=(show Below w.heap.size w _ from bt).trans (hq3.mono (by simp))
  go_wp2_with fail
  refine cx (zas _ (by omega) (by omega) _ (hE.q hQ3)) fun w4 hq4=>?_
  go_wp2
  go_ret
  exact⟨by rw[HR.out,if_neg H1.out];first | rfl | (simp;done),hQ3.trans (hq4.mono hQ3.size)⟩
theorem zhf(n:Int)(k:Nat)(hk:0<k)(hn:n.natAbs≤100000000000000000)(hd1:k≤100000000000000000)(w:World)(hE:Env w) :
  CR 112 #[.agg #[.int .i64 n,.int .i64 (-(k:Int))]] w (.string ⟨(zh (Rat.divInt n (-(k:Int)))).toArray⟩):=by
 have e0:Rat.divInt n (-(k:Int))=Rat.divInt (-n) k:=by rw[Rat.divInt_neg']
 rw[e0]
 have hmx:max (-n) n=n.natAbs:=by omega
 have hg1:0<Nat.gcd n.natAbs k:=Nat.gcd_pos_of_pos_right _ (by omega)
 obtain⟨b1,b2⟩:=zfz n (Nat.gcd n.natAbs k) (B:=100000000000000000) (by omega)
 have b3:0≤(k:Int) / (Nat.gcd n.natAbs k:Int):=Int.ediv_nonneg (by omega) (by omega)
 have b4:(k:Int) / (Nat.gcd n.natAbs k:Int)≤100000000000000000:=Int.le_trans (Int.ediv_le_self _ (by omega)) (by omega)
 have hr:=zd4 (-n) k hk
 rw[Int.natAbs_neg,Int.neg_tdiv]at hr
 have HR:=LH hr
 clear hr
 generalize zh (Rat.divInt (-n) k)=r at *
 have HG:=LH (zb8 n.natAbs k)
 generalize hgg:Nat.gcd n.natAbs k=g at *
 clear hgg e0
 have hg3:((g:Int) == 0)=false:=by simp;omega
 have l1:=zW (-(n.tdiv g)) (zci (by omega))
 have l2:=zW ((k:Int) / (g:Int)) (zci (by omega))
 by_cases h1:(k:Int) / (g:Int)=1
 ·have hb:((k:Int) / (g:Int) == 1)=true:=by simpa using h1
  have H1:=LH h1
  clear h1
  go_enter Tryz.func112,Tryz.ntmps112
  go_wp2_with (go_at_call 172;go_loud (refine(HG.out _ (by omega) (by omega)).mono ?_);rintro e w1 ⟨rfl,n1,rfl⟩)
  go_quiet (fail)
  go_wp2_with fail
  refine cx (zas _ (by omega) (by omega) _ (hE.q bt)) fun w3 hq3=>?_
  go_wp2
  go_ret
  exact⟨by rw[HR.out,if_pos H1.out];rfl,(show Below w.heap.size w _ from bt).trans (hq3.mono (by simp))⟩
 ·have hb:((k:Int) / (g:Int) == 1)=false:=by simpa using h1
  have H1:=LH h1
  clear h1
  go_enter Tryz.func112,Tryz.ntmps112
  go_wp2_with (go_at_call 172;go_loud (refine(HG.out _ (by omega) (by omega)).mono ?_);rintro e w1 ⟨rfl,n1,rfl⟩)
  go_quiet (fail)
  go_wp2_with fail
  refine cx (zas _ (by omega) (by omega) _ (hE.q bt)) fun w3 hq3=>?_
  have hQ3:Q w w3:=(show Below w.heap.size w _ from bt).trans (hq3.mono (by simp))
  go_wp2_with fail
  refine cx (zas _ (by omega) (by omega) _ (hE.q hQ3)) fun w4 hq4=>?_
  go_wp2
  go_ret
  exact⟨by rw[HR.out,if_neg H1.out];first | rfl | (simp;done),hQ3.trans (hq4.mono hQ3.size)⟩
end
section
open Go.RowKit Kp
theorem zms{a b:Nat}(h:a<b):decide ((a:Int)<b)=true:=by simp;omega
theorem zmt{a b:Nat}(h:¬ a<b):decide ((a:Int)<b)=false:=by simp;omega
theorem zkw{a:Nat}(h:a=0):((a:Int) == 0)=true:=by simp[h]
theorem zkx{a:Nat}(h:a≠0):((a:Int) == 0)=false:=by simp[h]
theorem ziU(s:Str)(hl:s.length≤1000000000)(w:World) :
  Calls Tryz.prog 230 #[.string ⟨s.toArray⟩] w fun e w'=>e=.returned (.int .i64 (zdi s))∧w=w':=by
 go_enter Tryz.func230,Tryz.ntmps230
 go_wp2
 go_loop [3] (fun i=>∃ k:Nat,k≤s.length∧i=.int .i64 k∧zaS (s.take k)) (fun i=>s.length - (intOf i).toNat)
 case atStart=>exact⟨0,by omega,rfl,by simp[zaS]⟩
 case round =>
  obtain⟨k,hk,rfl,had⟩:=hrel
  have HD:=LH had;clear had
  by_cases h1:k<s.length
  ·cases hd:zaD (at0 s k)with
   | true =>
    have hd':=(zdd _).1 hd
    have HN:=LH (HD.out.snoc h1 hd)
    clear hd
    go_wp2
    go_round
    case rel=>exact⟨k+1,by omega,by go_num,HN.out⟩
    case measure=>simp[intOf];omega
   | false =>
    have HT:=LH (zen HD.out hk (.inr hd))
    have hd':=(zeU _).1 hd
    clear hd
    by_cases hz:1<k∧at0 s 0=48
    ·have hz1:=hz.1
     have hz2:((((at0 s 0).toNat:Int)) == 48)=true:=by rw[hz.2];rfl
     have HR:Hid (zdi s=0):=LH (by unfold zdi;rw[HT.out,if_pos hz])
     clear hz
     rcases hd' with hd' | hd'
     all_goals
      go_wp2
      go_ret
      exact⟨zcO (by rw[HR.out];all_goals rfl),rfl⟩
    ·have HR:Hid (zdi s=k):=LH (by unfold zdi;rw[HT.out,if_neg hz])
     have hz':k≤1∨(1<k∧((((at0 s 0).toNat:Int)) == 48)=false):=by
      by_cases a:k≤1
      ·exact .inl a
      ·exact .inr ⟨by omega,ztk (fun e=>hz ⟨by omega,e⟩)⟩
     clear hz
     rcases hd' with hd' | hd' <;> rcases hz' with hz' | ⟨hz',hz2⟩
     all_goals
      go_wp2
      go_ret
      exact⟨zcO (by rw[HR.out];all_goals rfl),rfl⟩
  ·have HT:=LH (zen HD.out hk (.inl (by omega)))
   by_cases hz:1<k∧at0 s 0=48
   ·have hz1:=hz.1
    have hz2:((((at0 s 0).toNat:Int)) == 48)=true:=by rw[hz.2];rfl
    have HR:Hid (zdi s=0):=LH (by unfold zdi;rw[HT.out,if_pos hz])
    clear hz
    go_wp2
    go_ret
    exact⟨zcO (by rw[HR.out];all_goals rfl),rfl⟩
   ·have HR:Hid (zdi s=k):=LH (by unfold zdi;rw[HT.out,if_neg hz])
    have hz':k≤1∨(1<k∧((((at0 s 0).toNat:Int)) == 48)=false):=by
     by_cases a:k≤1
     ·exact .inl a
     ·exact .inr ⟨by omega,ztk (fun e=>hz ⟨by omega,e⟩)⟩
    clear hz
    rcases hz' with hz' | ⟨hz',hz2⟩
    all_goals
     go_wp2
     go_ret
     exact⟨zcO (by rw[HR.out];all_goals rfl),rfl⟩
def cutV(a:Str):Value:=if znX a then .tuple #[.agg #[.string ⟨#[]⟩,.string ⟨#[]⟩],.bool false]else .tuple #[.agg #[.string ⟨(zx a).toArray⟩,.string ⟨(zaR a).toArray⟩],.bool true]
theorem zr1(a : Str) :
    (cutV a = .tuple #[.agg #[.string ⟨#[]⟩, .string ⟨#[]⟩], .bool false] ∧
      (zdi (zq (zx a)) = 0 ∨
       (zdi (zq (zx a)) ≠ 0 ∧ zdi (zq (zx a)) < (zq (zx a)).length) ∨
       (zdi (zq (zx a)) ≠ 0 ∧ ¬ zdi (zq (zx a)) < (zq (zx a)).length ∧
         ((decide ((zx a).head? = some 45) = true ∧ (zq (zx a) == [48]) = true) ∨
          ((decide ((zx a).head? = some 45) = false ∨ (zq (zx a) == [48]) = false) ∧ zat a = true ∧
            (zdi (zbV a) = 0 ∨ (zdi (zbV a) ≠ 0 ∧ zdi (zbV a) < (zbV a).length) ∨
             (zdi (zbV a) ≠ 0 ∧ ¬ zdi (zbV a) < (zbV a).length ∧ ((zbV a == [48]) = true ∨ ((zbV a == [48]) = false ∧ (zbV a == [49]) = true))))))))) ∨
    (zdi (zq (zx a)) ≠ 0 ∧ ¬ zdi (zq (zx a)) < (zq (zx a)).length ∧ (decide ((zx a).head? = some 45) = false ∨ (zq (zx a) == [48]) = false) ∧
      ((zat a = false ∧ cutV a = .tuple #[.agg #[.string ⟨(zx a).toArray⟩, .string ⟨#[49]⟩], .bool true]) ∨
       (zat a = true ∧ zdi (zbV a) ≠ 0 ∧ ¬ zdi (zbV a) < (zbV a).length ∧ (zbV a == [48]) = false ∧ (zbV a == [49]) = false ∧
         cutV a = .tuple #[.agg #[.string ⟨(zx a).toArray⟩, .string ⟨(zbV a).toArray⟩], .bool true]))) := by
  have hbad : znX a → cutV a = .tuple #[.agg #[.string ⟨#[]⟩, .string ⟨#[]⟩], .bool false] := fun h => by unfold cutV;rw[if_pos h]
  have hgood : ¬ znX a → cutV a = .tuple #[.agg #[.string ⟨(zx a).toArray⟩, .string ⟨(zaR a).toArray⟩], .bool true] := fun h => by unfold cutV;rw[if_neg h]
  rw[zrs]at hbad hgood
  by_cases h0 : zdi (zq (zx a)) = 0
  · exact .inl ⟨hbad (.inl (.inl h0)), .inl h0⟩
  · by_cases h1 : zdi (zq (zx a)) < (zq (zx a)).length
    · exact .inl ⟨hbad (.inl (.inr (.inl h1))), .inr (.inl ⟨h0, h1⟩)⟩
    · by_cases h2 : (zx a).head? = some 45 ∧ zq (zx a) = [48]
      · exact .inl ⟨hbad (.inl (.inr (.inr h2))), .inr (.inr ⟨h0, h1, .inl ⟨by simpa using h2.1, by simpa using h2.2⟩⟩)⟩
      · have h2' : decide ((zx a).head? = some 45) = false ∨ (zq (zx a) == [48]) = false := by
          by_cases hm : (zx a).head? = some 45
          · exact .inr (by simpa using fun e => h2 ⟨hm, e⟩)
          · exact .inl (by simpa using hm)
        have hfirst : ¬ (zdi (zq (zx a)) = 0 ∨ zdi (zq (zx a)) < (zq (zx a)).length ∨ ((zx a).head? = some 45 ∧ zq (zx a) = [48])) := by
          rintro(x | x | x)
          · exact h0 x
          · exact h1 x
          · exact h2 x
        cases hs : zat a with
        | false =>
          refine .inr ⟨h0, h1, h2', .inl ⟨rfl, ?_⟩⟩
          have := hgood (by rintro (x | ⟨x, _⟩); · exact hfirst x
                            · rw[hs]at x;cases x)
          rw[this];unfold zaR;rw[hs];rfl
        | true =>
          have ed : zbV a = zaH a := by unfold zbV;rw[hs];rfl
          have es : zaR a = zaH a := by unfold zaR;rw[hs];rfl
          rw[ed]
          by_cases d0 : zdi (zaH a) = 0
          · exact .inl ⟨hbad (.inr ⟨hs, .inl d0⟩), .inr (.inr ⟨h0, h1, .inr ⟨h2', rfl, .inl d0⟩⟩)⟩
          · by_cases d1 : zdi (zaH a) < (zaH a).length
            · exact .inl ⟨hbad (.inr ⟨hs, .inr (.inl d1)⟩), .inr (.inr ⟨h0, h1, .inr ⟨h2', rfl, .inr (.inl ⟨d0, d1⟩)⟩⟩)⟩
            · by_cases d2 : zaH a = [48]
              · exact .inl ⟨hbad (.inr ⟨hs, .inr (.inr (.inl d2))⟩), .inr (.inr ⟨h0, h1, .inr ⟨h2', rfl, .inr (.inr ⟨d0, d1, .inl (by simpa using d2)⟩)⟩⟩)⟩
              · by_cases d3 : zaH a = [49]
                · exact .inl ⟨hbad (.inr ⟨hs, .inr (.inr (.inr d3))⟩), .inr (.inr ⟨h0, h1, .inr ⟨h2', rfl, .inr (.inr ⟨d0, d1, .inr ⟨by simpa using d2, by simpa using d3⟩⟩)⟩⟩)⟩
                · refine .inr ⟨h0, h1, h2', .inr ⟨rfl, d0, d1, by simpa using d2, by simpa using d3, ?_⟩⟩
                  have := hgood (by rintro (x | ⟨_, x | x | x | x⟩); · exact hfirst x
                                    · exact d0 x
                                    · exact d1 x
                                    · exact d2 x
                                    · exact d3 x)
                  rw[this, es]
theorem zpu(a:Str):(zbV a).length≤a.length:=by
 unfold zbV;split
 ·exact zjx a
 ·simp
theorem zl7(a : Str)(hl : a.length ≤ 1000000000)(w : World)(hE : Env w) :
    CR 173 #[.string ⟨a.toArray⟩] w (cutV a) := by
  have l1 := zi3 a
  have l2 := zpu a
  have l3 := ziz (zx a)
  rcases zr1 a with⟨HV, h | ⟨h, h1⟩|⟨h, h1, ⟨h2, h3⟩|⟨h2 | h2, h3, h4 | ⟨h4, h5⟩|⟨h4, h5, h6 | ⟨h6, h7⟩⟩⟩⟩⟩|⟨h, h1, h2 | h2, ⟨h3, HV⟩|⟨h3, h4, h5, h6, h7, HV⟩⟩
  all_goals
    have HW := LH HV
    clear HV
    first | have g0 := zkw h | have g0 := zkx h
    first | have g1 := zms h1 | have g1 := zmt h1 | skip
    first | have g2 := zkw h4 | have g2 := zkx h4 | skip
    first | have g3 := zms h5 | have g3 := zmt h5 | skip
    clear h
    go_enter Tryz.func173, Tryz.ntmps173
    go_wp2_with (first | (go_at_call 229;refine(zmw a (by omega) _ (hE.q bt)).mono ?_;rintro e w1 ⟨rfl, n1, rfl⟩)|(go_at_call 176;refine(zds _ _).mono ?_;rintro e w1 ⟨rfl, rfl⟩)|(go_at_call 230;refine(ziU _ (by omega) _).mono ?_;rintro e w1 ⟨rfl, rfl⟩))
  all_goals
    first
    | (refine bodyPost_ret (v := .tuple #[.agg #[.string ⟨#[]⟩, .string ⟨#[]⟩], .bool false]) ?_ rfl ?_
       · simp[results, Tryz.results173, go_sem]
       · exact⟨by rw[HW.out], bt⟩)
    | (refine bodyPost_ret (v := .tuple #[.agg #[.string ⟨(zx a).toArray⟩, .string ⟨#[49]⟩], .bool true]) ?_ rfl ?_
       · simp[results, Tryz.results173, go_sem]
       · exact⟨by rw[HW.out], bt⟩)
    | (refine bodyPost_ret (v := .tuple #[.agg #[.string ⟨(zx a).toArray⟩, .string ⟨(zbV a).toArray⟩], .bool true]) ?_ rfl ?_
       · simp[results, Tryz.results173, go_sem]
       · exact⟨by rw[HW.out], bt⟩)
end
section
open Go.RowKit Kp
theorem zd6(tmps:Array Value)(W:World)(b:Nat)(x y u:Value)(hp:tmps.getD 2 undef=.pointer (some ⟨b,0,none⟩))(hu:tmps.getD 3 undef=u)
  (c0:W.cell? ⟨b,0,none⟩=some x)(c1:W.cell? ⟨b,1,none⟩=some y) :
  (results Tryz.f113 tmps).run Tryz.prog W=.ok (.tuple #[.agg #[x,y],u]) W:=by
 simp only[Array.getD_eq_getD_getElem?]at hp hu
 simp[results,Tryz.results113,go_sem,hp,hu,c0,c1]
theorem za0{q:Rat}(h:zS q):zdS (zh q)=.tuple #[.agg #[.int .i64 q.num,.int .i64 (q.den:Int)],.bool true]:=zec (znk h)
theorem zcF{q:Rat}(h:zS q):(zh q).length≤1000:=by
 have h1:=zW q.num (zci (by have:=h.1;omega))
 have h2:=zW (q.den:Int) (zci (by have:=h.2;omega))
 unfold zh;split
 ·omega
 ·rw[zV,List.length_append,List.length_cons];omega
end
section
open Go.RowKit Kp
theorem zab{a b:Int}(ha:a.natAbs<100000000)(hb:b.natAbs<100000000):-10000000000000000≤a*b∧a*b≤10000000000000000:=by
 have h:a.natAbs*b.natAbs≤100000000*100000000:=Nat.mul_le_mul (by omega) (by omega)
 rw[← Int.natAbs_mul]at h
 omega
theorem zfH(x y:Rat)(hx:zS x)(hy:zS y)(w:World) :
  CR 59 #[.agg #[.int .i64 x.num,.int .i64 (x.den:Int)],.agg #[.int .i64 y.num,.int .i64 (y.den:Int)]] w (.agg #[.int .i64 (x.num*y.num),.int .i64 ((x.den:Int)*y.den)]):=by
 obtain⟨hx1,hx2⟩:=hx
 obtain⟨hy1,hy2⟩:=hy
 have m0:=zab (a:=x.num) (b:=y.num) (by omega) (by omega)
 have m1:=zab (a:=(x.den:Int)) (b:=(y.den:Int)) (by omega) (by omega)
 go_enter Tryz.func59,Tryz.ntmps59
 go_wp2
 refine bodyPost_ret (v:=.agg #[.int .i64 (x.num*y.num),.int .i64 ((x.den:Int)*y.den)]) ?_ rfl ⟨rfl,bt⟩
 simp[results,Tryz.results59,go_sem]
theorem zfJ(x y:Rat)(hx:zS x)(hy:zS y)(w:World) :
  CR 155 #[.agg #[.int .i64 x.num,.int .i64 (x.den:Int)],.agg #[.int .i64 y.num,.int .i64 (y.den:Int)]] w (.agg #[.int .i64 (x.num*y.den+y.num*x.den),.int .i64 ((x.den:Int)*y.den)]):=by
 obtain⟨hx1,hx2⟩:=hx
 obtain⟨hy1,hy2⟩:=hy
 have m0:=zab (a:=x.num) (b:=(y.den:Int)) (by omega) (by omega)
 have m1:=zab (a:=y.num) (b:=(x.den:Int)) (by omega) (by omega)
 have m2:=zab (a:=(x.den:Int)) (b:=(y.den:Int)) (by omega) (by omega)
 go_enter Tryz.func155,Tryz.ntmps155
 go_wp2
 refine bodyPost_ret (v:=.agg #[.int .i64 (x.num*y.den+y.num*x.den),.int .i64 ((x.den:Int)*y.den)]) ?_ rfl ⟨rfl,bt⟩
 simp[results,Tryz.results155,go_sem]
theorem zfG(x y:Rat)(hx:zS x)(hy:zS y)(w:World) :
  CR 160 #[.agg #[.int .i64 x.num,.int .i64 (x.den:Int)],.agg #[.int .i64 y.num,.int .i64 (y.den:Int)]] w (.agg #[.int .i64 (x.num*y.den - y.num*x.den),.int .i64 ((x.den:Int)*y.den)]):=by
 obtain⟨hx1,hx2⟩:=hx
 obtain⟨hy1,hy2⟩:=hy
 have m0:=zab (a:=x.num) (b:=(y.den:Int)) (by omega) (by omega)
 have m1:=zab (a:=y.num) (b:=(x.den:Int)) (by omega) (by omega)
 have m2:=zab (a:=(x.den:Int)) (b:=(y.den:Int)) (by omega) (by omega)
 go_enter Tryz.func160,Tryz.ntmps160
 go_wp2
 refine bodyPost_ret (v:=.agg #[.int .i64 (x.num*y.den - y.num*x.den),.int .i64 ((x.den:Int)*y.den)]) ?_ rfl ⟨rfl,bt⟩
 simp[results,Tryz.results160,go_sem]
theorem zfI(x y:Rat)(hx:zS x)(hy:zS y)(w:World) :
  CR 99 #[.agg #[.int .i64 x.num,.int .i64 (x.den:Int)],.agg #[.int .i64 y.num,.int .i64 (y.den:Int)]] w (.agg #[.int .i64 (x.num*y.den),.int .i64 ((x.den:Int)*y.num)]):=by
 obtain⟨hx1,hx2⟩:=hx
 obtain⟨hy1,hy2⟩:=hy
 have m0:=zab (a:=x.num) (b:=(y.den:Int)) (by omega) (by omega)
 have m1:=zab (a:=(x.den:Int)) (b:=y.num) (by omega) (by omega)
 go_enter Tryz.func99,Tryz.ntmps99
 go_wp2
 refine bodyPost_ret (v:=.agg #[.int .i64 (x.num*y.den),.int .i64 ((x.den:Int)*y.num)]) ?_ rfl ⟨rfl,bt⟩
 simp[results,Tryz.results99,go_sem]
theorem zcV(n d:Int)(hd:d≠0)(hn:n.natAbs≤100000000000000000)(hd1:d.natAbs≤100000000000000000)(w:World)(hE:Env w) :
  CR 112 #[.agg #[.int .i64 n,.int .i64 d]] w (.string ⟨(zh (Rat.divInt n d)).toArray⟩):=by
 by_cases h:0<d
 ·obtain⟨k,rfl⟩:=Int.eq_ofNat_of_zero_le (Int.le_of_lt h)
  exact zhe n k (by omega) hn (by omega) w hE
 ·obtain⟨k,hk⟩:=Int.eq_ofNat_of_zero_le (show 0≤-d by omega)
  obtain rfl:d = -(k:Int):=by omega
  exact zhf n k (by omega) hn (by omega) w hE
theorem zgn(x y:Rat)(hx:zS x)(hy:zS y)(w:World)(hE:Env w) :
  CR 58 #[.string ⟨(zh x).toArray⟩,.string ⟨(zh y).toArray⟩,.func (.func 59) #[] #[]] w (.tuple #[.string ⟨(zh (x*y)).toArray⟩,.bool true]):=by
 have hlx:=zcF hx
 have hly:=zcF hy
 have hxd:=x.den_nz
 have hyd:=y.den_nz
 have HR:Hid (Rat.divInt (x.num*y.num) ((x.den:Int)*y.den)=x*y):=LH (by conv=>rhs;rw[← Rat.num_divInt_den x,← Rat.num_divInt_den y,Rat.divInt_mul_divInt])
 have hd0:((x.den:Int)*y.den)≠0:=Int.mul_ne_zero (by omega) (by omega)
 obtain⟨hx1,hx2⟩:=hx
 obtain⟨hy1,hy2⟩:=hy
 have m0:=zab (a:=x.num) (b:=y.num) (by omega) (by omega)
 have m1:=zab (a:=(x.den:Int)) (b:=(y.den:Int)) (by omega) (by omega)
 go_enter Tryz.func58,Tryz.ntmps58
 go_wp2_with fail
 refine(zC _ (by omega) _).mono ?_
 rw[za0 ⟨hx1,hx2⟩]
 rintro e w1⟨rfl,hq1⟩
 go_wp2_with fail
 refine(zC _ (by omega) _).mono ?_
 rw[za0 ⟨hy1,hy2⟩]
 rintro e w2⟨rfl,hq2⟩
 have hz2:=hq2.size
 rw[World.size_alloc]at hz2
 have hQ2:Q w w2:=hq1.trans ((show Below w1.heap.size w1 _ from bt).trans (hq2.mono (by simp)) |>.mono hq1.size)
 have B1:=(Blk.new w1 [.int .i64 x.num,.int .i64 (x.den:Int)] 115).keep hq2 (by simp)
 have c0:=B1.cell
 have l1:=B1.lt
 go_wp2_with fail
 refine cx (zfH x y ⟨hx1,hx2⟩ ⟨hy1,hy2⟩ _) fun w3 hq3=>?_
 have hQ3:Q w w3:=hQ2.trans ((show Below w2.heap.size w2 _ from bt).trans (hq3.mono (by simp)) |>.mono hQ2.size)
 go_wp2_with fail
 refine cx (zcV _ _ hd0 (by omega) (by omega) _ (hE.q hQ3)) fun w4 hq4=>?_
 go_wp2
 go_ret2
 exact⟨by rw[← HR.out];rfl,hQ3.trans (hq4.mono hQ3.size)⟩
theorem zgr(x y:Rat)(hx:zS x)(hy:zS y)(w:World)(hE:Env w) :
  CR 33 #[.string ⟨(zh x).toArray⟩,.string ⟨(zh y).toArray⟩] w (.tuple #[.string ⟨(zh (x*y)).toArray⟩,.int .i64 0]):=by
 go_enter Tryz.func33,Tryz.ntmps33
 go_wp2_with fail
 refine cx (zgn x y hx hy _ hE) fun w1 hq1=>?_
 go_wp2
 go_ret2
 exact⟨rfl,hq1⟩
theorem zgp(x y:Rat)(hx:zS x)(hy:zS y)(w:World)(hE:Env w) :
  CR 58 #[.string ⟨(zh x).toArray⟩,.string ⟨(zh y).toArray⟩,.func (.func 155) #[] #[]] w (.tuple #[.string ⟨(zh (x+y)).toArray⟩,.bool true]):=by
 have hlx:=zcF hx
 have hly:=zcF hy
 have hxd:=x.den_nz
 have hyd:=y.den_nz
 have HR:Hid (Rat.divInt (x.num*y.den+y.num*x.den) ((x.den:Int)*y.den)=x+y):=LH (by conv=>rhs;rw[← Rat.num_divInt_den x,← Rat.num_divInt_den y,Rat.divInt_add_divInt _ _ (by omega) (by omega)])
 have hd0:((x.den:Int)*y.den)≠0:=Int.mul_ne_zero (by omega) (by omega)
 obtain⟨hx1,hx2⟩:=hx
 obtain⟨hy1,hy2⟩:=hy
 have m0:=zab (a:=x.num) (b:=(y.den:Int)) (by omega) (by omega)
 have m1:=zab (a:=y.num) (b:=(x.den:Int)) (by omega) (by omega)
 have m2:=zab (a:=(x.den:Int)) (b:=(y.den:Int)) (by omega) (by omega)
 go_enter Tryz.func58,Tryz.ntmps58
 go_wp2_with fail
 refine(zC _ (by omega) _).mono ?_
 rw[za0 ⟨hx1,hx2⟩]
 rintro e w1⟨rfl,hq1⟩
 go_wp2_with fail
 refine(zC _ (by omega) _).mono ?_
 rw[za0 ⟨hy1,hy2⟩]
 rintro e w2⟨rfl,hq2⟩
 have hz2:=hq2.size
 rw[World.size_alloc]at hz2
 have hQ2:Q w w2:=hq1.trans ((show Below w1.heap.size w1 _ from bt).trans (hq2.mono (by simp)) |>.mono hq1.size)
 have B1:=(Blk.new w1 [.int .i64 x.num,.int .i64 (x.den:Int)] 115).keep hq2 (by simp)
 have c0:=B1.cell
 have l1:=B1.lt
 go_wp2_with fail
 refine cx (zfJ x y ⟨hx1,hx2⟩ ⟨hy1,hy2⟩ _) fun w3 hq3=>?_
 have hQ3:Q w w3:=hQ2.trans ((show Below w2.heap.size w2 _ from bt).trans (hq3.mono (by simp)) |>.mono hQ2.size)
 go_wp2_with fail
 refine cx (zcV _ _ hd0 (by omega) (by omega) _ (hE.q hQ3)) fun w4 hq4=>?_
 go_wp2
 go_ret2
 exact⟨by rw[← HR.out];rfl,hQ3.trans (hq4.mono hQ3.size)⟩
theorem zgt(x y:Rat)(hx:zS x)(hy:zS y)(w:World)(hE:Env w) :
  CR 84 #[.string ⟨(zh x).toArray⟩,.string ⟨(zh y).toArray⟩] w (.tuple #[.string ⟨(zh (x+y)).toArray⟩,.int .i64 0]):=by
 go_enter Tryz.func84,Tryz.ntmps84
 go_wp2_with fail
 refine cx (zgp x y hx hy _ hE) fun w1 hq1=>?_
 go_wp2
 go_ret2
 exact⟨rfl,hq1⟩
theorem zgm(x y:Rat)(hx:zS x)(hy:zS y)(w:World)(hE:Env w) :
  CR 58 #[.string ⟨(zh x).toArray⟩,.string ⟨(zh y).toArray⟩,.func (.func 160) #[] #[]] w (.tuple #[.string ⟨(zh (x - y)).toArray⟩,.bool true]):=by
 have hlx:=zcF hx
 have hly:=zcF hy
 have hxd:=x.den_nz
 have hyd:=y.den_nz
 have HR:Hid (Rat.divInt (x.num*y.den - y.num*x.den) ((x.den:Int)*y.den)=x - y):=LH (by conv=>rhs;rw[← Rat.num_divInt_den x,← Rat.num_divInt_den y,Rat.divInt_sub_divInt _ _ (by omega) (by omega)])
 have hd0:((x.den:Int)*y.den)≠0:=Int.mul_ne_zero (by omega) (by omega)
 obtain⟨hx1,hx2⟩:=hx
 obtain⟨hy1,hy2⟩:=hy
 have m0:=zab (a:=x.num) (b:=(y.den:Int)) (by omega) (by omega)
 have m1:=zab (a:=y.num) (b:=(x.den:Int)) (by omega) (by omega)
 have m2:=zab (a:=(x.den:Int)) (b:=(y.den:Int)) (by omega) (by omega)
 go_enter Tryz.func58,Tryz.ntmps58
 go_wp2_with fail
 refine(zC _ (by omega) _).mono ?_
 rw[za0 ⟨hx1,hx2⟩]
 rintro e w1⟨rfl,hq1⟩
 go_wp2_with fail
 refine(zC _ (by omega) _).mono ?_
 rw[za0 ⟨hy1,hy2⟩]
 rintro e w2⟨rfl,hq2⟩
 have hz2:=hq2.size
 rw[World.size_alloc]at hz2
 have hQ2:Q w w2:=hq1.trans ((show Below w1.heap.size w1 _ from bt).trans (hq2.mono (by simp)) |>.mono hq1.size)
 have B1:=(Blk.new w1 [.int .i64 x.num,.int .i64 (x.den:Int)] 115).keep hq2 (by simp)
 have c0:=B1.cell
 have l1:=B1.lt
 go_wp2_with fail
 refine cx (zfG x y ⟨hx1,hx2⟩ ⟨hy1,hy2⟩ _) fun w3 hq3=>?_
 have hQ3:Q w w3:=hQ2.trans ((show Below w2.heap.size w2 _ from bt).trans (hq3.mono (by simp)) |>.mono hQ2.size)
 go_wp2_with fail
 refine cx (zcV _ _ hd0 (by omega) (by omega) _ (hE.q hQ3)) fun w4 hq4=>?_
 go_wp2
 go_ret2
 exact⟨by rw[← HR.out];rfl,hQ3.trans (hq4.mono hQ3.size)⟩
theorem zgq(x y:Rat)(hx:zS x)(hy:zS y)(w:World)(hE:Env w) :
  CR 97 #[.string ⟨(zh x).toArray⟩,.string ⟨(zh y).toArray⟩] w (.tuple #[.string ⟨(zh (x - y)).toArray⟩,.int .i64 0]):=by
 go_enter Tryz.func97,Tryz.ntmps97
 go_wp2_with fail
 refine cx (zgm x y hx hy _ hE) fun w1 hq1=>?_
 go_wp2
 go_ret2
 exact⟨rfl,hq1⟩
theorem zgo(x y:Rat)(hx:zS x)(hy:zS y)(hy0:y.num≠0)(w:World)(hE:Env w) :
  CR 58 #[.string ⟨(zh x).toArray⟩,.string ⟨(zh y).toArray⟩,.func (.func 99) #[] #[]] w (.tuple #[.string ⟨(zh (x / y)).toArray⟩,.bool true]):=by
 have hlx:=zcF hx
 have hly:=zcF hy
 have hxd:=x.den_nz
 have hyd:=y.den_nz
 have HR:Hid (Rat.divInt (x.num*y.den) ((x.den:Int)*y.num)=x / y):=LH (by conv=>rhs;rw[← Rat.num_divInt_den x,← Rat.num_divInt_den y,Rat.div_def,Rat.inv_divInt,Rat.divInt_mul_divInt])
 have hd0:((x.den:Int)*y.num)≠0:=Int.mul_ne_zero (by omega) hy0
 obtain⟨hx1,hx2⟩:=hx
 obtain⟨hy1,hy2⟩:=hy
 have m0:=zab (a:=x.num) (b:=(y.den:Int)) (by omega) (by omega)
 have m1:=zab (a:=(x.den:Int)) (b:=y.num) (by omega) (by omega)
 go_enter Tryz.func58,Tryz.ntmps58
 go_wp2_with fail
 refine(zC _ (by omega) _).mono ?_
 rw[za0 ⟨hx1,hx2⟩]
 rintro e w1⟨rfl,hq1⟩
 go_wp2_with fail
 refine(zC _ (by omega) _).mono ?_
 rw[za0 ⟨hy1,hy2⟩]
 rintro e w2⟨rfl,hq2⟩
 have hz2:=hq2.size
 rw[World.size_alloc]at hz2
 have hQ2:Q w w2:=hq1.trans ((show Below w1.heap.size w1 _ from bt).trans (hq2.mono (by simp)) |>.mono hq1.size)
 have B1:=(Blk.new w1 [.int .i64 x.num,.int .i64 (x.den:Int)] 115).keep hq2 (by simp)
 have c0:=B1.cell
 have l1:=B1.lt
 go_wp2_with fail
 refine cx (zfI x y ⟨hx1,hx2⟩ ⟨hy1,hy2⟩ _) fun w3 hq3=>?_
 have hQ3:Q w w3:=hQ2.trans ((show Below w2.heap.size w2 _ from bt).trans (hq3.mono (by simp)) |>.mono hQ2.size)
 go_wp2_with fail
 refine cx (zcV _ _ hd0 (by omega) (by omega) _ (hE.q hQ3)) fun w4 hq4=>?_
 go_wp2
 go_ret2
 exact⟨by rw[← HR.out];rfl,hQ3.trans (hq4.mono hQ3.size)⟩
theorem zgs(x y:Rat)(hx:zS x)(hy:zS y)(hy0:y.num≠0)(w:World)(hE:Env w) :
  CR 54 #[.string ⟨(zh x).toArray⟩,.string ⟨(zh y).toArray⟩] w (.tuple #[.string ⟨(zh (x / y)).toArray⟩,.int .i64 0]):=by
 have hn:(zh y == [48])=false:=by
  rw[beq_eq_false_iff_ne];intro e;apply hy0
  have:zh y=zh 0:=by rw[e];simp[zh,Lib.itoa,Lib.decDigits]
  rw[zaY this];rfl
 have hn':=zaB hn
 go_enter Tryz.func54,Tryz.ntmps54
 go_wp2_with fail
 refine cx (zgo x y hx hy hy0 _ hE) fun w1 hq1=>?_
 go_wp2
 go_ret2
 exact⟨rfl,hq1⟩
end
end Go.Proofs.YtagkadlaeeoblaaGreatDoor
