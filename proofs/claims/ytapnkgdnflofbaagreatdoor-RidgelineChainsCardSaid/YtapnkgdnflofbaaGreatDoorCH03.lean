/-
  Walks: the package rational.; Walks: rational.nativeOf at a string with a sign.; Walks: the package rational, numbers with short parts.; Walks: rational.digits, cut.; Walks: rational.read, Check, Parts at numbers with short parts; quick.; Walks: sum, difference, product and quotient of numbers with short parts. (Printed by mkquick.py.)
-/
import Derived.Test.YtapnkgdnflofbaaGreatDoorCH02
import Derived.Test.YtapnkgdnflofbaaGreatDoorCH00
set_option maxRecDepth 100000
set_option maxHeartbeats 2000000
namespace Go.Proofs.YtapnkgdnflofbaaGreatDoor
section
open Go.RowKit Kp
def zdN(a:Str):Value:=match zcm a with
 | some (n,d)=>.tuple #[.agg #[.int .i64 n,.int .i64 d],.bool true]
 | none=>.tuple #[.agg #[.int .i64 0,.int .i64 0],.bool false]
theorem zc4{a:Str}(h:zcm a=none):zdN a=.tuple #[.agg #[.int .i64 0,.int .i64 0],.bool false]:=by unfold zdN;rw[h]
theorem zd9{a:Str}{n d:Int}(h:zcm a=some (n,d)):zdN a=.tuple #[.agg #[.int .i64 n,.int .i64 d],.bool true]:=by unfold zdN;rw[h]
theorem zjM(a own : Str)(neg : Bool)(hown : own = zo a)(hneg : neg = decide (a.head? = some 45)) :
    (zdN a = .tuple #[.agg #[.int .i64 0, .int .i64 0], .bool false] ∧
      (zbT own = false ∨
    (zbT own = true ∧ neg = true ∧ ((zbO own : Int) == 0) = true) ∨
    (zbT own = true ∧ (neg = false ∨ ((zbO own : Int) == 0) = false) ∧ (zy own == []) = false ∧ 0 < (zy own).length ∧
          (((((at0 (zy own) 0).toNat : Int) == 47) = false) ∨
    ((((at0 (zy own) 0).toNat : Int) == 47) = true ∧
    (zbT (zaR (zy own) 1) = false ∨
              (zbT (zaR (zy own) 1) = true ∧ (zy (zaR (zy own) 1) == []) = false) ∨
              (zbT (zaR (zy own) 1) = true ∧ zy (zaR (zy own) 1) = [] ∧ zbO (zaR (zy own) 1) < 2) ∨
              (zbT (zaR (zy own) 1) = true ∧ zy (zaR (zy own) 1) = [] ∧ 2 ≤ zbO (zaR (zy own) 1) ∧ ((Nat.gcd (zbO own) (zbO (zaR (zy own) 1)) : Int) == 1) = false))))))) ∨
    (zbT own = true ∧ (neg = false ∨ ((zbO own : Int) == 0) = false) ∧
      ((zy own = [] ∧ zdN a = .tuple #[.agg #[.int .i64 (if neg then -(zbO own : Int)else zbO own), .int .i64 1], .bool true]) ∨
    ((zy own == []) = false ∧ 0 < (zy own).length ∧ ((((at0 (zy own) 0).toNat : Int) == 47) = true) ∧ zbT (zaR (zy own) 1) = true ∧ zy (zaR (zy own) 1) = [] ∧ 2 ≤ zbO (zaR (zy own) 1) ∧
          ((Nat.gcd (zbO own) (zbO (zaR (zy own) 1)) : Int) == 1) = true ∧ zdN a = .tuple #[.agg #[.int .i64 (if neg then -(zbO own : Int)else zbO own), .int .i64 (zbO (zaR (zy own) 1))], .bool true]))) := by
  have h47 : ∀ c : UInt8, ((c.toNat : Int) == 47) = decide (c = 47) := by
    intro c
    by_cases h : c = 47
    · subst h;rfl
    · have : c.toNat ≠ 47 := fun e => h (UInt8.toNat_inj.1 e)
      simp[h];omega
  have e1 : ∀ n : Nat, ((n : Int) == 1) = decide (n = 1) := by intro n;by_cases h : n = 1 <;> simp[h];omega
  have e0 : ∀ n : Nat, ((n : Int) == 0) = decide (n = 0) := by intro n;by_cases h : n = 0 <;> simp[h]
  have hV : ∀ {r}, zcm a = r → zdN a = (match r with
      | some (n, d) => .tuple #[.agg #[.int .i64 n, .int .i64 d], .bool true]
      | none => .tuple #[.agg #[.int .i64 0, .int .i64 0], .bool false]) := by intro r h;unfold zdN;rw[h]
  have hn2 : (a.head? = some 45) = (neg = true) := by rw[hneg];simp
  unfold zcm at hV
  rw[← hown]at hV
  simp only[hn2]at hV
  simp only[h47, e1, e0]
  cases hA : zbT own with
  | false => exact .inl ⟨hV (r := none) (by rw[if_pos (.inl hA)]), .inl rfl⟩
  | true =>
    by_cases hB : neg = true ∧ zbO own = 0
    · exact .inl ⟨hV (r := none) (by rw[if_pos (.inr hB)]), .inr (.inl ⟨rfl, hB.1, by simp[hB.2]⟩)⟩
    · have hB' : neg = false ∨ decide (zbO own = 0) = false := by
        cases neg with
        | false => exact .inl rfl
        | true => exact .inr (by simpa using hB)
      have n1 : ¬ (zbT own = false ∨ (neg = true ∧ zbO own = 0)) := by rw[hA];simpa using hB
      rw[if_neg n1]at hV
      by_cases hC : zy own = []
      · rw[if_pos hC]at hV
        exact .inr ⟨rfl, hB', .inl ⟨hC, hV rfl⟩⟩
      · rw[if_neg hC]at hV
        have hC1 : (zy own == []) = false := by simpa using hC
        have hC2 : 0 < (zy own).length := List.length_pos_iff.2 hC
        by_cases hD : at0 (zy own) 0 = 47
        · rw[if_neg (fun x => x hD)]at hV
          cases hE : zbT (zaR (zy own) 1)with
          | false => exact .inl ⟨hV (r := none) (by rw[if_pos (.inl hE)]), .inr (.inr ⟨rfl, hB', hC1, hC2, .inr ⟨by simpa using hD, .inl rfl⟩⟩)⟩
          | true =>
            by_cases hF : zy (zaR (zy own) 1) = []
            · by_cases hG : zbO (zaR (zy own) 1) < 2
              · exact .inl ⟨hV (r := none) (by rw[if_pos (.inr (.inr (.inl hG)))]), .inr (.inr ⟨rfl, hB', hC1, hC2, .inr ⟨by simpa using hD, .inr (.inr (.inl ⟨rfl, hF, hG⟩))⟩⟩)⟩
              · by_cases hH : Nat.gcd (zbO own) (zbO (zaR (zy own) 1)) = 1
                · rw[if_neg (by
                    rw[hE];rintro(x | x | x | x);· cases x
                    · exact x hF
                    · exact hG x
                    · exact x hH)]at hV
                  exact .inr ⟨rfl, hB', .inr ⟨hC1, hC2, by simpa using hD, rfl, hF, by omega, by simpa using hH, hV rfl⟩⟩
                · exact .inl ⟨hV (r := none) (by rw[if_pos (.inr (.inr (.inr hH)))]), .inr (.inr ⟨rfl, hB', hC1, hC2, .inr ⟨by simpa using hD, .inr (.inr (.inr ⟨rfl, hF, by omega, by simpa using hH⟩))⟩⟩)⟩
            · exact .inl ⟨hV (r := none) (by rw[if_pos (.inr (.inl hF))]), .inr (.inr ⟨rfl, hB', hC1, hC2, .inr ⟨by simpa using hD, .inr (.inl ⟨rfl, by simpa using hF⟩)⟩⟩)⟩
        · rw[if_pos hD]at hV
          exact .inl ⟨hV (r := none) rfl, .inr (.inr ⟨rfl, hB', hC1, hC2, .inl (by simpa using hD)⟩)⟩
theorem ztT{c:UInt8}(h:c≠45):((c.toNat:Int) == 45)=false:=by
 have h2:c.toNat≠45:=fun e=>h (UInt8.toNat_inj.1 e)
 simp;omega
theorem zep(a:Str)(ha:a.length≤1000000000)(hm:a.head?≠some 45)(w:World) :
  CR 79 #[.string ⟨a.toArray⟩] w (zdN a):=by
 have hne:a≠[]→(a == [])=false∧0<a.length∧((((at0 a 0).toNat:Int) == 45)=false):=by
  intro h
  refine⟨by simpa using h,List.length_pos_iff.2 h,ztT (fun e=>hm ?_)⟩
  rw[zbP h,e]
 have hl1:=ziC a
 have hl2:=zgy (zy a) 1
 have hb1:=zkL a
 have hb2:=zkL (zaR (zy a) 1)
 rcases zjM a a false (za3 hm).symm (by simp[hm])with⟨HV,hw | ⟨_,h,_⟩|⟨hw,_,hr,hr2,hx⟩⟩|⟨hw,_,hx⟩
 ·have HW:=LH HV
  clear HV
  by_cases hn:a=[]
  ·subst hn
   clear hne hm
   go_enter Tryz.func79,Tryz.ntmps79
   go_wp2_with (go_at_call 151;refine(zaj [] _ (by decide)).mono ?_;rintro e w1 ⟨rfl,n1,rfl⟩)
   exact bodyPost_ret (v:=.tuple #[.agg #[.int .i64 0,.int .i64 0],.bool false]) (by simp[results,Tryz.results79,go_sem]) rfl ⟨by rw[HW.out],bt⟩
  ·obtain⟨h,h2,h3⟩:=hne hn
   clear hne hn hm
   go_enter Tryz.func79,Tryz.ntmps79
   go_wp2_with (go_at_call 151;refine(zaj _ _ (by omega)).mono ?_;rintro e w1 ⟨rfl,n1,rfl⟩)
   exact bodyPost_ret (v:=.tuple #[.agg #[.int .i64 0,.int .i64 0],.bool false]) (by simp[results,Tryz.results79,go_sem]) rfl ⟨by rw[HW.out],bt⟩
 ·cases h
 ·have HW:=LH HV
  obtain⟨h,h2,h3⟩:=hne (znN hw)
  clear HV hne hm
  have h':=zaB h
  have hr':=zaB hr
  rcases hx with hx | ⟨hx,hy | ⟨hy,hz⟩|⟨hy,hz,hu⟩|⟨hy,hz,hu,hv⟩⟩
  all_goals
   first | have hx':=zaB hx | have hx':=zbR hx
   first | have hz':=zaB hz | skip
   first | have hv':=zaB hv | skip
   go_enter Tryz.func79,Tryz.ntmps79
   go_wp2_with (first | (go_at_call 151;refine(zaj _ _ (by omega)).mono ?_;rintro e w1 ⟨rfl,n1,rfl⟩)|(go_at_call 152;refine(zbX _ _ _ (by omega) (by omega)).mono ?_;rintro e w1 ⟨rfl,n1,rfl⟩))
   exact bodyPost_ret (v:=.tuple #[.agg #[.int .i64 0,.int .i64 0],.bool false]) (by simp[results,Tryz.results79,go_sem]) rfl ⟨by rw[HW.out],bt⟩
 ·obtain⟨h,h2,h3⟩:=hne (znN hw)
  clear hne hm
  have h':=zaB h
  rcases hx with⟨hx,HV⟩|⟨hr,hr2,hx,hy,hz,hu,hv,HV⟩
  all_goals
   first | (have hx':=zbR hx;have hv':=zbR hv;have hr':=zaB hr) | skip
   have HW:=LH HV
   clear HV
   go_enter Tryz.func79,Tryz.ntmps79
   go_wp2_with (first | (go_at_call 151;refine(zaj _ _ (by omega)).mono ?_;rintro e w1 ⟨rfl,n1,rfl⟩)|(go_at_call 152;refine(zbX _ _ _ (by omega) (by omega)).mono ?_;rintro e w1 ⟨rfl,n1,rfl⟩))
   first
    | exact bodyPost_ret (v:=.tuple #[.agg #[.int .i64 (zbO a),.int .i64 1],.bool true]) (by simp[results,Tryz.results79,go_sem]) rfl ⟨by rw[HW.out];rfl,bt⟩
    | exact bodyPost_ret (v:=.tuple #[.agg #[.int .i64 (zbO a),.int .i64 (zbO (zaR (zy a) 1))],.bool true]) (by simp[results,Tryz.results79,go_sem]) rfl ⟨by rw[HW.out];rfl,bt⟩
theorem zd4(a:Str)(ha:a.length≤1000000000)(hm:a.head? = some 45)(w:World) :
  CR 79 #[.string ⟨a.toArray⟩] w (zdN a):=by
 have hne:a≠[]:=by intro e;rw[e]at hm;cases hm
 have h:(a == [])=false:=by simpa using hne
 have h':=zaB h
 have h2:0<a.length:=List.length_pos_iff.2 hne
 have h3:((((at0 a 0).toNat:Int) == 45)=true):=by
  rw[zbP hne]at hm;rw[Option.some.inj hm];rfl
 have hown:zaR a 1=zo a:=by rw[zdG hm];rfl
 have hlo:=zgy a 1
 have hl1:=ziC (zaR a 1)
 have hl2:=zgy (zy (zaR a 1)) 1
 have hb1:=zkL (zaR a 1)
 have hb2:=zkL (zaR (zy (zaR a 1)) 1)
 have hlt:(zaR a 1).length<a.length:=by omega
 rcases zjM a (zaR a 1) true hown (by simp[hm])with⟨HV,hw | ⟨hw,_,hz⟩|⟨hw,hn,hr,hr2,hx⟩⟩|⟨hw,hn,hx⟩
 ·have HW:=LH HV
  clear HV hne hm hown
  go_enter Tryz.func79,Tryz.ntmps79
  go_wp2_with (go_at_call 151;refine(zaj _ _ (by omega)).mono ?_;rintro e w1 ⟨rfl,n1,rfl⟩)
  exact bodyPost_ret (v:=.tuple #[.agg #[.int .i64 0,.int .i64 0],.bool false]) (by simp[results,Tryz.results79,go_sem]) rfl ⟨by rw[HW.out],bt⟩
 ·have HW:=LH HV
  clear HV hne hm hown
  go_enter Tryz.func79,Tryz.ntmps79
  go_wp2_with (go_at_call 151;refine(zaj _ _ (by omega)).mono ?_;rintro e w1 ⟨rfl,n1,rfl⟩)
  exact bodyPost_ret (v:=.tuple #[.agg #[.int .i64 0,.int .i64 0],.bool false]) (by simp[results,Tryz.results79,go_sem]) rfl ⟨by rw[HW.out],bt⟩
 ·have HW:=LH HV
  have hn:((zbO (zaR a 1):Int) == 0)=false:=hn.elim (fun e=>by cases e) id
  clear HV hne hm hown
  have hr':=zaB hr
  rcases hx with hx | ⟨hx,hy | ⟨hy,hz⟩|⟨hy,hz,hu⟩|⟨hy,hz,hu,hv⟩⟩
  all_goals
   first | have hx':=zaB hx | have hx':=zbR hx
   first | have hz':=zaB hz | skip
   first | have hv':=zaB hv | skip
   go_enter Tryz.func79,Tryz.ntmps79
   go_wp2_with (first | (go_at_call 151;refine(zaj _ _ (by omega)).mono ?_;rintro e w1 ⟨rfl,n1,rfl⟩)|(go_at_call 152;refine(zbX _ _ _ (by omega) (by omega)).mono ?_;rintro e w1 ⟨rfl,n1,rfl⟩))
   exact bodyPost_ret (v:=.tuple #[.agg #[.int .i64 0,.int .i64 0],.bool false]) (by simp[results,Tryz.results79,go_sem]) rfl ⟨by rw[HW.out],bt⟩
 ·have hn:((zbO (zaR a 1):Int) == 0)=false:=hn.elim (fun e=>by cases e) id
  clear hne hm hown
  rcases hx with⟨hx,HV⟩|⟨hr,hr2,hx,hy,hz,hu,hv,HV⟩
  all_goals
   first | (have hx':=zbR hx;have hv':=zbR hv;have hr':=zaB hr) | skip
   have HW:=LH HV
   clear HV
   go_enter Tryz.func79,Tryz.ntmps79
   go_wp2_with (first | (go_at_call 151;refine(zaj _ _ (by omega)).mono ?_;rintro e w1 ⟨rfl,n1,rfl⟩)|(go_at_call 152;refine(zbX _ _ _ (by omega) (by omega)).mono ?_;rintro e w1 ⟨rfl,n1,rfl⟩))
   first
    | exact bodyPost_ret (v:=.tuple #[.agg #[.int .i64 (-(zbO (zaR a 1):Int)),.int .i64 1],.bool true]) (by simp[results,Tryz.results79,go_sem]) rfl ⟨by rw[HW.out];rfl,bt⟩
    | exact bodyPost_ret (v:=.tuple #[.agg #[.int .i64 (-(zbO (zaR a 1):Int)),.int .i64 (zbO (zaR (zy (zaR a 1)) 1))],.bool true]) (by simp[results,Tryz.results79,go_sem]) rfl ⟨by rw[HW.out];rfl,bt⟩
theorem zH(a:Str)(ha:a.length≤1000000000)(w:World) :
  CR 79 #[.string ⟨a.toArray⟩] w (zdN a):=by
 by_cases hm:a.head? = some 45
 ·exact zd4 a ha hm w
 ·exact zep a ha hm w
theorem zgX(n:Int)(k:Nat)(hk:0<k)(hn:n.natAbs≤100000000000000000)(hd1:k≤100000000000000000)(w:World)(hE:Env w) :
  CR 139 #[.agg #[.int .i64 n,.int .i64 k]] w (.string ⟨(ze (Rat.divInt n k)).toArray⟩):=by
 have hmx:=zp6 n
 have hg1:0<Nat.gcd n.natAbs k:=Nat.gcd_pos_of_pos_right _ (by omega)
 obtain⟨b1,b2⟩:=zfo n (Nat.gcd n.natAbs k) (B:=100000000000000000) (by omega)
 have b3:0≤(k:Int) / (Nat.gcd n.natAbs k:Int):=Int.ediv_nonneg (by omega) (by omega)
 have b4:(k:Int) / (Nat.gcd n.natAbs k:Int)≤100000000000000000:=Int.le_trans (Int.ediv_le_self _ (by omega)) (by omega)
 have HR:=LH (zfp n k hk)
 generalize ze (Rat.divInt n k)=r at *
 have HG:=LH (zbX n.natAbs k)
 generalize hgg:Nat.gcd n.natAbs k=g at *
 clear hgg
 have hg3:((g:Int) == 0)=false:=by simp;omega
 have l1:=zU (n.tdiv g) (zca (by omega))
 have l2:=zU ((k:Int) / (g:Int)) (zca (by omega))
 by_cases h1:(k:Int) / (g:Int)=1
 ·have hb:((k:Int) / (g:Int) == 1)=true:=by simpa using h1
  have H1:=LH h1
  clear h1
  go_enter Tryz.func139,Tryz.ntmps139
  go_wp2_with (go_at_call 152;refine(HG.out _ (by omega) (by omega)).mono ?_;rintro e w1 ⟨rfl,n1,rfl⟩)
  go_quiet (fail)
  go_wp2_with fail
  refine cx (zaq _ (by omega) (by omega) _ (hE.q bt)) fun w3 hq3=>?_
  go_wp2
  go_ret
  exact⟨by rw[HR.out,if_pos H1.out];rfl,(show Below w.heap.size w _ from bt).trans (hq3.mono (by simp))⟩
 ·have hb:((k:Int) / (g:Int) == 1)=false:=by simpa using h1
  have H1:=LH h1
  clear h1
  go_enter Tryz.func139,Tryz.ntmps139
  go_wp2_with (go_at_call 152;refine(HG.out _ (by omega) (by omega)).mono ?_;rintro e w1 ⟨rfl,n1,rfl⟩)
  go_quiet (fail)
  go_wp2_with fail
  refine cx (zaq _ (by omega) (by omega) _ (hE.q bt)) fun w3 hq3=>?_
  have hQ3:Q w w3:=(show Below w.heap.size w _ from bt).trans (hq3.mono (by simp))
  go_wp2_with fail
  refine cx (zaq _ (by omega) (by omega) _ (hE.q hQ3)) fun w4 hq4=>?_
  go_wp2
  go_ret
  exact⟨by rw[HR.out,if_neg H1.out];first | rfl | (simp;done),hQ3.trans (hq4.mono hQ3.size)⟩
theorem zgY(n:Int)(k:Nat)(hk:0<k)(hn:n.natAbs≤100000000000000000)(hd1:k≤100000000000000000)(w:World)(hE:Env w) :
  CR 139 #[.agg #[.int .i64 n,.int .i64 (-(k:Int))]] w (.string ⟨(ze (Rat.divInt n (-(k:Int)))).toArray⟩):=by
 have e0:Rat.divInt n (-(k:Int))=Rat.divInt (-n) k:=by rw[Rat.divInt_neg']
 rw[e0]
 have hmx:max (-n) n=n.natAbs:=by omega
 have hg1:0<Nat.gcd n.natAbs k:=Nat.gcd_pos_of_pos_right _ (by omega)
 obtain⟨b1,b2⟩:=zfo n (Nat.gcd n.natAbs k) (B:=100000000000000000) (by omega)
 have b3:0≤(k:Int) / (Nat.gcd n.natAbs k:Int):=Int.ediv_nonneg (by omega) (by omega)
 have b4:(k:Int) / (Nat.gcd n.natAbs k:Int)≤100000000000000000:=Int.le_trans (Int.ediv_le_self _ (by omega)) (by omega)
 have hr:=zfp (-n) k hk
 rw[Int.natAbs_neg,Int.neg_tdiv]at hr
 have HR:=LH hr
 clear hr
 generalize ze (Rat.divInt (-n) k)=r at *
 have HG:=LH (zbX n.natAbs k)
 generalize hgg:Nat.gcd n.natAbs k=g at *
 clear hgg e0
 have hg3:((g:Int) == 0)=false:=by simp;omega
 have l1:=zU (-(n.tdiv g)) (zca (by omega))
 have l2:=zU ((k:Int) / (g:Int)) (zca (by omega))
 by_cases h1:(k:Int) / (g:Int)=1
 ·have hb:((k:Int) / (g:Int) == 1)=true:=by simpa using h1
  have H1:=LH h1
  clear h1
  go_enter Tryz.func139,Tryz.ntmps139
  go_wp2_with (go_at_call 152;go_loud (refine(HG.out _ (by omega) (by omega)).mono ?_);rintro e w1 ⟨rfl,n1,rfl⟩)
  go_quiet (fail)
  go_wp2_with fail
  refine cx (zaq _ (by omega) (by omega) _ (hE.q bt)) fun w3 hq3=>?_
  go_wp2
  go_ret
  exact⟨by rw[HR.out,if_pos H1.out];rfl,(show Below w.heap.size w _ from bt).trans (hq3.mono (by simp))⟩
 ·have hb:((k:Int) / (g:Int) == 1)=false:=by simpa using h1
  have H1:=LH h1
  clear h1
  go_enter Tryz.func139,Tryz.ntmps139
  go_wp2_with (go_at_call 152;go_loud (refine(HG.out _ (by omega) (by omega)).mono ?_);rintro e w1 ⟨rfl,n1,rfl⟩)
  go_quiet (fail)
  go_wp2_with fail
  refine cx (zaq _ (by omega) (by omega) _ (hE.q bt)) fun w3 hq3=>?_
  have hQ3:Q w w3:=(show Below w.heap.size w _ from bt).trans (hq3.mono (by simp))
  go_wp2_with fail
  refine cx (zaq _ (by omega) (by omega) _ (hE.q hQ3)) fun w4 hq4=>?_
  go_wp2
  go_ret
  exact⟨by rw[HR.out,if_neg H1.out];first | rfl | (simp;done),hQ3.trans (hq4.mono hQ3.size)⟩
theorem zlT{a b:Nat}(h:a<b):decide ((a:Int)<b)=true:=by simp;omega
theorem zlU{a b:Nat}(h:¬ a<b):decide ((a:Int)<b)=false:=by simp;omega
theorem zjX{a:Nat}(h:a=0):((a:Int) == 0)=true:=by simp[h]
theorem zjY{a:Nat}(h:a≠0):((a:Int) == 0)=false:=by simp[h]
theorem ziq(s:Str)(hl:s.length≤1000000000)(w:World) :
  Calls Tryz.prog 210 #[.string ⟨s.toArray⟩] w fun e w'=>e=.returned (.int .i64 (zcw s))∧w=w':=by
 go_enter Tryz.func210,Tryz.ntmps210
 go_wp2
 go_loop [3] (fun i=>∃ k:Nat,k≤s.length∧i=.int .i64 k∧zay (s.take k)) (fun i=>s.length - (intOf i).toNat)
 case atStart=>exact⟨0,by omega,rfl,by simp[zay]⟩
 case round =>
  obtain⟨k,hk,rfl,had⟩:=hrel
  have HD:=LH had;clear had
  by_cases h1:k<s.length
  ·cases hd:zar (at0 s k)with
   | true =>
    have hd':=(zcC _).1 hd
    have HN:=LH (HD.out.snoc h1 hd)
    clear hd
    go_wp2
    go_round
    case rel=>exact⟨k+1,by omega,by go_num,HN.out⟩
    case measure=>simp[intOf];omega
   | false =>
    have HT:=LH (zeh HD.out hk (.inr hd))
    have hd':=(zc6 _).1 hd
    clear hd
    by_cases hz:1<k∧at0 s 0=48
    ·have hz1:=hz.1
     have hz2:((((at0 s 0).toNat:Int)) == 48)=true:=by rw[hz.2];rfl
     have HR:Hid (zcw s=0):=LH (by unfold zcw;rw[HT.out,if_pos hz])
     clear hz
     rcases hd' with hd' | hd'
     all_goals
      go_wp2
      go_ret
      exact⟨zcH (by rw[HR.out];all_goals rfl),rfl⟩
    ·have HR:Hid (zcw s=k):=LH (by unfold zcw;rw[HT.out,if_neg hz])
     have hz':k≤1∨(1<k∧((((at0 s 0).toNat:Int)) == 48)=false):=by
      by_cases a:k≤1
      ·exact .inl a
      ·exact .inr ⟨by omega,ztc (fun e=>hz ⟨by omega,e⟩)⟩
     clear hz
     rcases hd' with hd' | hd' <;> rcases hz' with hz' | ⟨hz',hz2⟩
     all_goals
      go_wp2
      go_ret
      exact⟨zcH (by rw[HR.out];all_goals rfl),rfl⟩
  ·have HT:=LH (zeh HD.out hk (.inl (by omega)))
   by_cases hz:1<k∧at0 s 0=48
   ·have hz1:=hz.1
    have hz2:((((at0 s 0).toNat:Int)) == 48)=true:=by rw[hz.2];rfl
    have HR:Hid (zcw s=0):=LH (by unfold zcw;rw[HT.out,if_pos hz])
    clear hz
    go_wp2
    go_ret
    exact⟨zcH (by rw[HR.out];all_goals rfl),rfl⟩
   ·have HR:Hid (zcw s=k):=LH (by unfold zcw;rw[HT.out,if_neg hz])
    have hz':k≤1∨(1<k∧((((at0 s 0).toNat:Int)) == 48)=false):=by
     by_cases a:k≤1
     ·exact .inl a
     ·exact .inr ⟨by omega,ztc (fun e=>hz ⟨by omega,e⟩)⟩
    clear hz
    rcases hz' with hz' | ⟨hz',hz2⟩
    all_goals
     go_wp2
     go_ret
     exact⟨zcH (by rw[HR.out];all_goals rfl),rfl⟩
def cutV(a:Str):Value:=if zly a then .tuple #[.agg #[.string ⟨#[]⟩,.string ⟨#[]⟩],.bool false]else .tuple #[.agg #[.string ⟨(zq a).toArray⟩,.string ⟨(zal a).toArray⟩],.bool true]
theorem zrO(a:Str) :
  (cutV a=.tuple #[.agg #[.string ⟨#[]⟩,.string ⟨#[]⟩],.bool false] ∧
   (zcw (zo (zq a))=0 ∨
  (zcw (zo (zq a))≠0∧zcw (zo (zq a))<(zo (zq a)).length) ∨
  (zcw (zo (zq a))≠0∧¬ zcw (zo (zq a))<(zo (zq a)).length ∧
  ((decide ((zq a).head? = some 45)=true∧(zo (zq a) == [48])=true) ∨
     ((decide ((zq a).head? = some 45)=false∨(zo (zq a) == [48])=false)∧zC a=true ∧
      (zcw (zaD a)=0∨(zcw (zaD a)≠0∧zcw (zaD a)<(zaD a).length) ∨
  (zcw (zaD a)≠0∧¬ zcw (zaD a)<(zaD a).length∧((zaD a == [48])=true∨((zaD a == [48])=false∧(zaD a == [49])=true))))))))) ∨
  (zcw (zo (zq a))≠0∧¬ zcw (zo (zq a))<(zo (zq a)).length∧(decide ((zq a).head? = some 45)=false∨(zo (zq a) == [48])=false) ∧
   ((zC a=false∧cutV a=.tuple #[.agg #[.string ⟨(zq a).toArray⟩,.string ⟨#[49]⟩],.bool true]) ∨
  (zC a=true∧zcw (zaD a)≠0∧¬ zcw (zaD a)<(zaD a).length∧(zaD a == [48])=false∧(zaD a == [49])=false ∧
  cutV a=.tuple #[.agg #[.string ⟨(zq a).toArray⟩,.string ⟨(zaD a).toArray⟩],.bool true]))):=by
 have hbad:zly a→cutV a=.tuple #[.agg #[.string ⟨#[]⟩,.string ⟨#[]⟩],.bool false]:=fun h=>by unfold cutV;rw[if_pos h]
 have hgood:¬ zly a→cutV a=.tuple #[.agg #[.string ⟨(zq a).toArray⟩,.string ⟨(zal a).toArray⟩],.bool true]:=fun h=>by unfold cutV;rw[if_neg h]
 rw[znI]at hbad hgood
 by_cases h0:zcw (zo (zq a))=0
 ·exact .inl ⟨hbad (.inl (.inl h0)),.inl h0⟩
 ·by_cases h1:zcw (zo (zq a))<(zo (zq a)).length
  ·exact .inl ⟨hbad (.inl (.inr (.inl h1))),.inr (.inl ⟨h0,h1⟩)⟩
  ·by_cases h2:(zq a).head? = some 45∧zo (zq a)=[48]
   ·exact .inl ⟨hbad (.inl (.inr (.inr h2))),.inr (.inr ⟨h0,h1,.inl ⟨by simpa using h2.1,by simpa using h2.2⟩⟩)⟩
   ·have h2':decide ((zq a).head? = some 45)=false∨(zo (zq a) == [48])=false:=by
     by_cases hm:(zq a).head? = some 45
     ·exact .inr (by simpa using fun e=>h2 ⟨hm,e⟩)
     ·exact .inl (by simpa using hm)
    have hfirst:¬ (zcw (zo (zq a))=0∨zcw (zo (zq a))<(zo (zq a)).length∨((zq a).head? = some 45∧zo (zq a)=[48])):=by
     rintro(x | x | x)
     ·exact h0 x
     ·exact h1 x
     ·exact h2 x
    cases hs:zC a with
    | false =>
     refine .inr ⟨h0,h1,h2',.inl ⟨rfl,?_⟩⟩
     have:=hgood (by
      rintro(x | ⟨x,_⟩);· exact hfirst x
      ·rw[hs]at x;cases x)
     rw[this];unfold zal;rw[hs];rfl
    | true =>
     have ed:zaD a=zV a:=by unfold zaD;rw[hs];rfl
     have es:zal a=zV a:=by unfold zal;rw[hs];rfl
     rw[ed]
     by_cases d0:zcw (zV a)=0
     ·exact .inl ⟨hbad (.inr ⟨hs,.inl d0⟩),.inr (.inr ⟨h0,h1,.inr ⟨h2',rfl,.inl d0⟩⟩)⟩
     ·by_cases d1:zcw (zV a)<(zV a).length
      ·exact .inl ⟨hbad (.inr ⟨hs,.inr (.inl d1)⟩),.inr (.inr ⟨h0,h1,.inr ⟨h2',rfl,.inr (.inl ⟨d0,d1⟩)⟩⟩)⟩
      ·by_cases d2:zV a=[48]
       ·exact .inl ⟨hbad (.inr ⟨hs,.inr (.inr (.inl d2))⟩),.inr (.inr ⟨h0,h1,.inr ⟨h2',rfl,.inr (.inr ⟨d0,d1,.inl (by simpa using d2)⟩)⟩⟩)⟩
       ·by_cases d3:zV a=[49]
        ·exact .inl ⟨hbad (.inr ⟨hs,.inr (.inr (.inr d3))⟩),.inr (.inr ⟨h0,h1,.inr ⟨h2',rfl,.inr (.inr ⟨d0,d1,.inr ⟨by simpa using d2,by simpa using d3⟩⟩)⟩⟩)⟩
        ·refine .inr ⟨h0,h1,h2',.inr ⟨rfl,d0,d1,by simpa using d2,by simpa using d3,?_⟩⟩
         have:=hgood (by
          rintro(x | ⟨_,x | x | x | x⟩);· exact hfirst x
          ·exact d0 x
          ·exact d1 x
          ·exact d2 x
          ·exact d3 x)
         rw[this,es]
theorem zpf(a:Str):(zaD a).length≤a.length:=by
 unfold zaD;split
 ·exact zee a
 ·simp
theorem zlz(a:Str)(hl:a.length≤1000000000)(w:World)(hE:Env w) :
  CR 154 #[.string ⟨a.toArray⟩] w (cutV a):=by
 have l1:=zd8 a
 have l2:=zpf a
 have l3:=zdF (zq a)
 rcases zrO a with⟨HV,h | ⟨h,h1⟩|⟨h,h1,⟨h2,h3⟩|⟨h2 | h2,h3,h4 | ⟨h4,h5⟩|⟨h4,h5,h6 | ⟨h6,h7⟩⟩⟩⟩⟩|⟨h,h1,h2 | h2,⟨h3,HV⟩|⟨h3,h4,h5,h6,h7,HV⟩⟩
 all_goals
  have HW:=LH HV
  clear HV
  first | have g0:=zjX h | have g0:=zjY h
  first | have g1:=zlT h1 | have g1:=zlU h1 | skip
  first | have g2:=zjX h4 | have g2:=zjY h4 | skip
  first | have g3:=zlT h5 | have g3:=zlU h5 | skip
  clear h
  go_enter Tryz.func154,Tryz.ntmps154
  go_wp2_with (first | (go_at_call 209;refine(zlZ a (by omega) _ (hE.q bt)).mono ?_;rintro e w1 ⟨rfl,n1,rfl⟩)|(go_at_call 199;refine(zdj _ _).mono ?_;rintro e w1 ⟨rfl,rfl⟩)|(go_at_call 210;refine(ziq _ (by omega) _).mono ?_;rintro e w1 ⟨rfl,rfl⟩))
 all_goals
  first
  | (
    refine bodyPost_ret (v:=.tuple #[.agg #[.string ⟨#[]⟩,.string ⟨#[]⟩],.bool false]) ?_ rfl ?_
    ·simp[results,Tryz.results154,go_sem]
    ·exact⟨by rw[HW.out],bt⟩)
  | (
    refine bodyPost_ret (v:=.tuple #[.agg #[.string ⟨(zq a).toArray⟩,.string ⟨#[49]⟩],.bool true]) ?_ rfl ?_
    ·simp[results,Tryz.results154,go_sem]
    ·exact⟨by rw[HW.out],bt⟩)
  | (
    refine bodyPost_ret (v:=.tuple #[.agg #[.string ⟨(zq a).toArray⟩,.string ⟨(zaD a).toArray⟩],.bool true]) ?_ rfl ?_
    ·simp[results,Tryz.results154,go_sem]
    ·exact⟨by rw[HW.out],bt⟩)
theorem zd0(tmps:Array Value)(W:World)(b:Nat)(x y u:Value)(hp:tmps.getD 2 undef=.pointer (some ⟨b,0,none⟩))(hu:tmps.getD 3 undef=u)
  (c0:W.cell? ⟨b,0,none⟩=some x)(c1:W.cell? ⟨b,1,none⟩=some y) :
  (results Tryz.f81 tmps).run Tryz.prog W=.ok (.tuple #[.agg #[x,y],u]) W:=by
 simp only[Array.getD_eq_getD_getElem?]at hp hu
 simp[results,Tryz.results81,go_sem,hp,hu,c0,c1]
theorem zaU{q:Rat}(h:zR q):zdN (ze q)=.tuple #[.agg #[.int .i64 q.num,.int .i64 (q.den:Int)],.bool true]:=zd9 (zm3 h)
theorem zcy{q:Rat}(h:zR q):(ze q).length≤1000:=by
 have h1:=zU q.num (zca (by have:=h.1;omega))
 have h2:=zU (q.den:Int) (zca (by have:=h.2;omega))
 unfold ze;split
 ·omega
 ·rw[zB,List.length_append,List.length_cons];omega
theorem zac{a b:Int}(ha:a.natAbs<100000000)(hb:b.natAbs<100000000):-10000000000000000≤a*b∧a*b≤10000000000000000:=by
 have h:a.natAbs*b.natAbs≤100000000*100000000:=Nat.mul_le_mul (by omega) (by omega)
 rw[← Int.natAbs_mul]at h
 omega
theorem zfx(x y:Rat)(hx:zR x)(hy:zR y)(w:World) :
  CR 75 #[.agg #[.int .i64 x.num,.int .i64 (x.den:Int)],.agg #[.int .i64 y.num,.int .i64 (y.den:Int)]] w (.agg #[.int .i64 (x.num*y.num),.int .i64 ((x.den:Int)*y.den)]):=by
 obtain⟨hx1,hx2⟩:=hx
 obtain⟨hy1,hy2⟩:=hy
 have m0:=zac (a:=x.num) (b:=y.num) (by omega) (by omega)
 have m1:=zac (a:=(x.den:Int)) (b:=(y.den:Int)) (by omega) (by omega)
 go_enter Tryz.func75,Tryz.ntmps75
 go_wp2
 refine bodyPost_ret (v:=.agg #[.int .i64 (x.num*y.num),.int .i64 ((x.den:Int)*y.den)]) ?_ rfl ⟨rfl,bt⟩
 simp[results,Tryz.results75,go_sem]
theorem zfz(x y:Rat)(hx:zR x)(hy:zR y)(w:World) :
  CR 275 #[.agg #[.int .i64 x.num,.int .i64 (x.den:Int)],.agg #[.int .i64 y.num,.int .i64 (y.den:Int)]] w (.agg #[.int .i64 (x.num*y.den+y.num*x.den),.int .i64 ((x.den:Int)*y.den)]):=by
 obtain⟨hx1,hx2⟩:=hx
 obtain⟨hy1,hy2⟩:=hy
 have m0:=zac (a:=x.num) (b:=(y.den:Int)) (by omega) (by omega)
 have m1:=zac (a:=y.num) (b:=(x.den:Int)) (by omega) (by omega)
 have m2:=zac (a:=(x.den:Int)) (b:=(y.den:Int)) (by omega) (by omega)
 go_enter Tryz.func275,Tryz.ntmps275
 go_wp2
 refine bodyPost_ret (v:=.agg #[.int .i64 (x.num*y.den+y.num*x.den),.int .i64 ((x.den:Int)*y.den)]) ?_ rfl ⟨rfl,bt⟩
 simp[results,Tryz.results275,go_sem]
theorem zfw(x y:Rat)(hx:zR x)(hy:zR y)(w:World) :
  CR 71 #[.agg #[.int .i64 x.num,.int .i64 (x.den:Int)],.agg #[.int .i64 y.num,.int .i64 (y.den:Int)]] w (.agg #[.int .i64 (x.num*y.den - y.num*x.den),.int .i64 ((x.den:Int)*y.den)]):=by
 obtain⟨hx1,hx2⟩:=hx
 obtain⟨hy1,hy2⟩:=hy
 have m0:=zac (a:=x.num) (b:=(y.den:Int)) (by omega) (by omega)
 have m1:=zac (a:=y.num) (b:=(x.den:Int)) (by omega) (by omega)
 have m2:=zac (a:=(x.den:Int)) (b:=(y.den:Int)) (by omega) (by omega)
 go_enter Tryz.func71,Tryz.ntmps71
 go_wp2
 refine bodyPost_ret (v:=.agg #[.int .i64 (x.num*y.den - y.num*x.den),.int .i64 ((x.den:Int)*y.den)]) ?_ rfl ⟨rfl,bt⟩
 simp[results,Tryz.results71,go_sem]
theorem zfy(x y:Rat)(hx:zR x)(hy:zR y)(w:World) :
  CR 93 #[.agg #[.int .i64 x.num,.int .i64 (x.den:Int)],.agg #[.int .i64 y.num,.int .i64 (y.den:Int)]] w (.agg #[.int .i64 (x.num*y.den),.int .i64 ((x.den:Int)*y.num)]):=by
 obtain⟨hx1,hx2⟩:=hx
 obtain⟨hy1,hy2⟩:=hy
 have m0:=zac (a:=x.num) (b:=(y.den:Int)) (by omega) (by omega)
 have m1:=zac (a:=(x.den:Int)) (b:=y.num) (by omega) (by omega)
 go_enter Tryz.func93,Tryz.ntmps93
 go_wp2
 refine bodyPost_ret (v:=.agg #[.int .i64 (x.num*y.den),.int .i64 ((x.den:Int)*y.num)]) ?_ rfl ⟨rfl,bt⟩
 simp[results,Tryz.results93,go_sem]
theorem zcR(n d:Int)(hd:d≠0)(hn:n.natAbs≤100000000000000000)(hd1:d.natAbs≤100000000000000000)(w:World)(hE:Env w) :
  CR 139 #[.agg #[.int .i64 n,.int .i64 d]] w (.string ⟨(ze (Rat.divInt n d)).toArray⟩):=by
 by_cases h:0<d
 ·obtain⟨k,rfl⟩:=Int.eq_ofNat_of_zero_le (Int.le_of_lt h)
  exact zgX n k (by omega) hn (by omega) w hE
 ·obtain⟨k,hk⟩:=Int.eq_ofNat_of_zero_le (show 0≤-d by omega)
  obtain rfl:d = -(k:Int):=by omega
  exact zgY n k (by omega) hn (by omega) w hE
theorem zf4(x y:Rat)(hx:zR x)(hy:zR y)(w:World)(hE:Env w) :
  CR 70 #[.string ⟨(ze x).toArray⟩,.string ⟨(ze y).toArray⟩,.func (.func 75) #[] #[]] w (.tuple #[.string ⟨(ze (x*y)).toArray⟩,.bool true]):=by
 have hlx:=zcy hx
 have hly:=zcy hy
 have hxd:=x.den_nz
 have hyd:=y.den_nz
 have HR:Hid (Rat.divInt (x.num*y.num) ((x.den:Int)*y.den)=x*y):=LH (by conv=>rhs;rw[← Rat.num_divInt_den x,← Rat.num_divInt_den y,Rat.divInt_mul_divInt])
 have hd0:((x.den:Int)*y.den)≠0:=Int.mul_ne_zero (by omega) (by omega)
 obtain⟨hx1,hx2⟩:=hx
 obtain⟨hy1,hy2⟩:=hy
 have m0:=zac (a:=x.num) (b:=y.num) (by omega) (by omega)
 have m1:=zac (a:=(x.den:Int)) (b:=(y.den:Int)) (by omega) (by omega)
 go_enter Tryz.func70,Tryz.ntmps70
 go_wp2_with fail
 refine(zH _ (by omega) _).mono ?_
 rw[zaU ⟨hx1,hx2⟩]
 rintro e w1⟨rfl,hq1⟩
 go_wp2_with fail
 refine(zH _ (by omega) _).mono ?_
 rw[zaU ⟨hy1,hy2⟩]
 rintro e w2⟨rfl,hq2⟩
 have hz2:=hq2.size
 rw[World.size_alloc]at hz2
 have hQ2:Q w w2:=hq1.trans ((show Below w1.heap.size w1 _ from bt).trans (hq2.mono (by simp)) |>.mono hq1.size)
 have B1:=(Blk.new w1 [.int .i64 x.num,.int .i64 (x.den:Int)] 126).keep hq2 (by simp)
 have c0:=B1.cell
 have l1:=B1.lt
 go_wp2_with fail
 refine cx (zfx x y ⟨hx1,hx2⟩ ⟨hy1,hy2⟩ _) fun w3 hq3=>?_
 have hQ3:Q w w3:=hQ2.trans ((show Below w2.heap.size w2 _ from bt).trans (hq3.mono (by simp)) |>.mono hQ2.size)
 go_wp2_with fail
 refine cx (zcR _ _ hd0 (by omega) (by omega) _ (hE.q hQ3)) fun w4 hq4=>?_
 go_wp2
 go_ret2
 exact⟨by rw[← HR.out];rfl,hQ3.trans (hq4.mono hQ3.size)⟩
theorem zf8(x y:Rat)(hx:zR x)(hy:zR y)(w:World)(hE:Env w) :
  CR 43 #[.string ⟨(ze x).toArray⟩,.string ⟨(ze y).toArray⟩] w (.tuple #[.string ⟨(ze (x*y)).toArray⟩,.int .i64 0]):=by
 go_enter Tryz.func43,Tryz.ntmps43
 go_wp2_with fail
 refine cx (zf4 x y hx hy _ hE) fun w1 hq1=>?_
 go_wp2
 go_ret2
 exact⟨rfl,hq1⟩
theorem zf6(x y:Rat)(hx:zR x)(hy:zR y)(w:World)(hE:Env w) :
  CR 70 #[.string ⟨(ze x).toArray⟩,.string ⟨(ze y).toArray⟩,.func (.func 275) #[] #[]] w (.tuple #[.string ⟨(ze (x+y)).toArray⟩,.bool true]):=by
 have hlx:=zcy hx
 have hly:=zcy hy
 have hxd:=x.den_nz
 have hyd:=y.den_nz
 have HR:Hid (Rat.divInt (x.num*y.den+y.num*x.den) ((x.den:Int)*y.den)=x+y):=LH (by conv=>rhs;rw[← Rat.num_divInt_den x,← Rat.num_divInt_den y,Rat.divInt_add_divInt _ _ (by omega) (by omega)])
 have hd0:((x.den:Int)*y.den)≠0:=Int.mul_ne_zero (by omega) (by omega)
 obtain⟨hx1,hx2⟩:=hx
 obtain⟨hy1,hy2⟩:=hy
 have m0:=zac (a:=x.num) (b:=(y.den:Int)) (by omega) (by omega)
 have m1:=zac (a:=y.num) (b:=(x.den:Int)) (by omega) (by omega)
 have m2:=zac (a:=(x.den:Int)) (b:=(y.den:Int)) (by omega) (by omega)
 go_enter Tryz.func70,Tryz.ntmps70
 go_wp2_with fail
 refine(zH _ (by omega) _).mono ?_
 rw[zaU ⟨hx1,hx2⟩]
 rintro e w1⟨rfl,hq1⟩
 go_wp2_with fail
 refine(zH _ (by omega) _).mono ?_
 rw[zaU ⟨hy1,hy2⟩]
 rintro e w2⟨rfl,hq2⟩
 have hz2:=hq2.size
 rw[World.size_alloc]at hz2
 have hQ2:Q w w2:=hq1.trans ((show Below w1.heap.size w1 _ from bt).trans (hq2.mono (by simp)) |>.mono hq1.size)
 have B1:=(Blk.new w1 [.int .i64 x.num,.int .i64 (x.den:Int)] 126).keep hq2 (by simp)
 have c0:=B1.cell
 have l1:=B1.lt
 go_wp2_with fail
 refine cx (zfz x y ⟨hx1,hx2⟩ ⟨hy1,hy2⟩ _) fun w3 hq3=>?_
 have hQ3:Q w w3:=hQ2.trans ((show Below w2.heap.size w2 _ from bt).trans (hq3.mono (by simp)) |>.mono hQ2.size)
 go_wp2_with fail
 refine cx (zcR _ _ hd0 (by omega) (by omega) _ (hE.q hQ3)) fun w4 hq4=>?_
 go_wp2
 go_ret2
 exact⟨by rw[← HR.out];rfl,hQ3.trans (hq4.mono hQ3.size)⟩
theorem zga(x y:Rat)(hx:zR x)(hy:zR y)(w:World)(hE:Env w) :
  CR 212 #[.string ⟨(ze x).toArray⟩,.string ⟨(ze y).toArray⟩] w (.tuple #[.string ⟨(ze (x+y)).toArray⟩,.int .i64 0]):=by
 go_enter Tryz.func212,Tryz.ntmps212
 go_wp2_with fail
 refine cx (zf6 x y hx hy _ hE) fun w1 hq1=>?_
 go_wp2
 go_ret2
 exact⟨rfl,hq1⟩
theorem zf3(x y:Rat)(hx:zR x)(hy:zR y)(w:World)(hE:Env w) :
  CR 70 #[.string ⟨(ze x).toArray⟩,.string ⟨(ze y).toArray⟩,.func (.func 71) #[] #[]] w (.tuple #[.string ⟨(ze (x - y)).toArray⟩,.bool true]):=by
 have hlx:=zcy hx
 have hly:=zcy hy
 have hxd:=x.den_nz
 have hyd:=y.den_nz
 have HR:Hid (Rat.divInt (x.num*y.den - y.num*x.den) ((x.den:Int)*y.den)=x - y):=LH (by conv=>rhs;rw[← Rat.num_divInt_den x,← Rat.num_divInt_den y,Rat.divInt_sub_divInt _ _ (by omega) (by omega)])
 have hd0:((x.den:Int)*y.den)≠0:=Int.mul_ne_zero (by omega) (by omega)
 obtain⟨hx1,hx2⟩:=hx
 obtain⟨hy1,hy2⟩:=hy
 have m0:=zac (a:=x.num) (b:=(y.den:Int)) (by omega) (by omega)
 have m1:=zac (a:=y.num) (b:=(x.den:Int)) (by omega) (by omega)
 have m2:=zac (a:=(x.den:Int)) (b:=(y.den:Int)) (by omega) (by omega)
 go_enter Tryz.func70,Tryz.ntmps70
 go_wp2_with fail
 refine(zH _ (by omega) _).mono ?_
 rw[zaU ⟨hx1,hx2⟩]
 rintro e w1⟨rfl,hq1⟩
 go_wp2_with fail
 refine(zH _ (by omega) _).mono ?_
 rw[zaU ⟨hy1,hy2⟩]
 rintro e w2⟨rfl,hq2⟩
 have hz2:=hq2.size
 rw[World.size_alloc]at hz2
 have hQ2:Q w w2:=hq1.trans ((show Below w1.heap.size w1 _ from bt).trans (hq2.mono (by simp)) |>.mono hq1.size)
 have B1:=(Blk.new w1 [.int .i64 x.num,.int .i64 (x.den:Int)] 126).keep hq2 (by simp)
 have c0:=B1.cell
 have l1:=B1.lt
 go_wp2_with fail
 refine cx (zfw x y ⟨hx1,hx2⟩ ⟨hy1,hy2⟩ _) fun w3 hq3=>?_
 have hQ3:Q w w3:=hQ2.trans ((show Below w2.heap.size w2 _ from bt).trans (hq3.mono (by simp)) |>.mono hQ2.size)
 go_wp2_with fail
 refine cx (zcR _ _ hd0 (by omega) (by omega) _ (hE.q hQ3)) fun w4 hq4=>?_
 go_wp2
 go_ret2
 exact⟨by rw[← HR.out];rfl,hQ3.trans (hq4.mono hQ3.size)⟩
theorem zf7(x y:Rat)(hx:zR x)(hy:zR y)(w:World)(hE:Env w) :
  CR 42 #[.string ⟨(ze x).toArray⟩,.string ⟨(ze y).toArray⟩] w (.tuple #[.string ⟨(ze (x - y)).toArray⟩,.int .i64 0]):=by
 go_enter Tryz.func42,Tryz.ntmps42
 go_wp2_with fail
 refine cx (zf3 x y hx hy _ hE) fun w1 hq1=>?_
 go_wp2
 go_ret2
 exact⟨rfl,hq1⟩
theorem zf5(x y:Rat)(hx:zR x)(hy:zR y)(hy0:y.num≠0)(w:World)(hE:Env w) :
  CR 70 #[.string ⟨(ze x).toArray⟩,.string ⟨(ze y).toArray⟩,.func (.func 93) #[] #[]] w (.tuple #[.string ⟨(ze (x / y)).toArray⟩,.bool true]):=by
 have hlx:=zcy hx
 have hly:=zcy hy
 have hxd:=x.den_nz
 have hyd:=y.den_nz
 have HR:Hid (Rat.divInt (x.num*y.den) ((x.den:Int)*y.num)=x / y):=LH (by conv=>rhs;rw[← Rat.num_divInt_den x,← Rat.num_divInt_den y,Rat.div_def,Rat.inv_divInt,Rat.divInt_mul_divInt])
 have hd0:((x.den:Int)*y.num)≠0:=Int.mul_ne_zero (by omega) hy0
 obtain⟨hx1,hx2⟩:=hx
 obtain⟨hy1,hy2⟩:=hy
 have m0:=zac (a:=x.num) (b:=(y.den:Int)) (by omega) (by omega)
 have m1:=zac (a:=(x.den:Int)) (b:=y.num) (by omega) (by omega)
 go_enter Tryz.func70,Tryz.ntmps70
 go_wp2_with fail
 refine(zH _ (by omega) _).mono ?_
 rw[zaU ⟨hx1,hx2⟩]
 rintro e w1⟨rfl,hq1⟩
 go_wp2_with fail
 refine(zH _ (by omega) _).mono ?_
 rw[zaU ⟨hy1,hy2⟩]
 rintro e w2⟨rfl,hq2⟩
 have hz2:=hq2.size
 rw[World.size_alloc]at hz2
 have hQ2:Q w w2:=hq1.trans ((show Below w1.heap.size w1 _ from bt).trans (hq2.mono (by simp)) |>.mono hq1.size)
 have B1:=(Blk.new w1 [.int .i64 x.num,.int .i64 (x.den:Int)] 126).keep hq2 (by simp)
 have c0:=B1.cell
 have l1:=B1.lt
 go_wp2_with fail
 refine cx (zfy x y ⟨hx1,hx2⟩ ⟨hy1,hy2⟩ _) fun w3 hq3=>?_
 have hQ3:Q w w3:=hQ2.trans ((show Below w2.heap.size w2 _ from bt).trans (hq3.mono (by simp)) |>.mono hQ2.size)
 go_wp2_with fail
 refine cx (zcR _ _ hd0 (by omega) (by omega) _ (hE.q hQ3)) fun w4 hq4=>?_
 go_wp2
 go_ret2
 exact⟨by rw[← HR.out];rfl,hQ3.trans (hq4.mono hQ3.size)⟩
theorem zf9(x y:Rat)(hx:zR x)(hy:zR y)(hy0:y.num≠0)(w:World)(hE:Env w) :
  CR 48 #[.string ⟨(ze x).toArray⟩,.string ⟨(ze y).toArray⟩] w (.tuple #[.string ⟨(ze (x / y)).toArray⟩,.int .i64 0]):=by
 have hn:(ze y == [48])=false:=by
  rw[beq_eq_false_iff_ne];intro e;apply hy0
  have:ze y=ze 0:=by rw[e];simp[ze,Lib.itoa,Lib.decDigits]
  rw[zbt this];rfl
 have hn':=zaB hn
 go_enter Tryz.func48,Tryz.ntmps48
 go_wp2_with fail
 refine cx (zf5 x y hx hy hy0 _ hE) fun w1 hq1=>?_
 go_wp2
 go_ret2
 exact⟨rfl,hq1⟩
end
end Go.Proofs.YtapnkgdnflofbaaGreatDoor
