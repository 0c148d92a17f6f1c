/-
  Walks: the package rational.; Walks: rational.nativeOf at a string with a sign.; Walks: the package rational, numbers with short parts.; Walks: rational.digits, cut.; Walks: rational.read, Check, Parts at numbers with short parts; quick.; Walks: sum, difference, product and quotient of numbers with short parts. (Printed by mkquick.py.)
-/
import Derived.Test.YtbpghkdadajomaaGreatDoorH02
import Derived.Test.YtbpghkdadajomaaGreatDoorH00
set_option maxRecDepth 100000
set_option maxHeartbeats 2000000
namespace Go.Proofs.YtbpghkdadajomaaGreatDoor
section
open Go.RowKit Kp
def zd0(a:Str):Value:=match zcs a with
 | some (n,d)=>.tuple #[.agg #[.int .i64 n,.int .i64 d],.bool true]
 | none=>.tuple #[.agg #[.int .i64 0,.int .i64 0],.bool false]
theorem zdf{a:Str}(h:zcs a=none):zd0 a=.tuple #[.agg #[.int .i64 0,.int .i64 0],.bool false]:=by unfold zd0;rw[h]
theorem zeq{a:Str}{n d:Int}(h:zcs a=some (n,d)):zd0 a=.tuple #[.agg #[.int .i64 n,.int .i64 d],.bool true]:=by unfold zd0;rw[h]
theorem zjI(a own : Str)(neg : Bool)(hown : own = zq a)(hneg : neg = decide (a.head? = some 45)) :
    (zd0 a = .tuple #[.agg #[.int .i64 0, .int .i64 0], .bool false] ∧
      (zb5 own = false ∨
       (zb5 own = true ∧ neg = true ∧ ((zb2 own : Int) == 0) = true) ∨
       (zb5 own = true ∧ (neg = false ∨ ((zb2 own : Int) == 0) = false) ∧ (zx own == []) = false ∧ 0 < (zx own).length ∧
          (((((at0 (zx own) 0).toNat : Int) == 47) = false) ∨
           ((((at0 (zx own) 0).toNat : Int) == 47) = true ∧
             (zb5 (za2 (zx own) 1) = false ∨
              (zb5 (za2 (zx own) 1) = true ∧ (zx (za2 (zx own) 1) == []) = false) ∨
              (zb5 (za2 (zx own) 1) = true ∧ zx (za2 (zx own) 1) = [] ∧ zb2 (za2 (zx own) 1) < 2) ∨
              (zb5 (za2 (zx own) 1) = true ∧ zx (za2 (zx own) 1) = [] ∧ 2 ≤ zb2 (za2 (zx own) 1) ∧ ((Nat.gcd (zb2 own) (zb2 (za2 (zx own) 1)) : Int) == 1) = false))))))) ∨
    (zb5 own = true ∧ (neg = false ∨ ((zb2 own : Int) == 0) = false) ∧
      ((zx own = [] ∧ zd0 a = .tuple #[.agg #[.int .i64 (if neg then -(zb2 own : Int)else zb2 own), .int .i64 1], .bool true]) ∨
       ((zx own == []) = false ∧ 0 < (zx own).length ∧ ((((at0 (zx own) 0).toNat : Int) == 47) = true) ∧ zb5 (za2 (zx own) 1) = true ∧ zx (za2 (zx own) 1) = [] ∧ 2 ≤ zb2 (za2 (zx own) 1) ∧
          ((Nat.gcd (zb2 own) (zb2 (za2 (zx own) 1)) : Int) == 1) = true ∧ zd0 a = .tuple #[.agg #[.int .i64 (if neg then -(zb2 own : Int)else zb2 own), .int .i64 (zb2 (za2 (zx own) 1))], .bool true]))) := by
  have h47 : ∀ c : UInt8, ((c.toNat : Int) == 47) = decide (c = 47) := by
    intro c
    by_cases h : c = 47
    · subst h;rfl
    · have : c.toNat ≠ 47 := fun e => h (UInt8.toNat_inj.1 e)
      simp[h];omega
  have e1 : ∀ n : Nat, ((n : Int) == 1) = decide (n = 1) := by intro n;by_cases h : n = 1 <;> simp[h];omega
  have e0 : ∀ n : Nat, ((n : Int) == 0) = decide (n = 0) := by intro n;by_cases h : n = 0 <;> simp[h]
  have hV : ∀ {r}, zcs a = r → zd0 a = (match r with
      | some (n, d) => .tuple #[.agg #[.int .i64 n, .int .i64 d], .bool true]
      | none => .tuple #[.agg #[.int .i64 0, .int .i64 0], .bool false]) := by intro r h;unfold zd0;rw[h]
  have hn2 : (a.head? = some 45) = (neg = true) := by rw[hneg];simp
  unfold zcs at hV
  rw[← hown]at hV
  simp only[hn2]at hV
  simp only[h47, e1, e0]
  cases hA : zb5 own with
  | false => exact .inl ⟨hV (r := none) (by rw[if_pos (.inl hA)]), .inl rfl⟩
  | true =>
    by_cases hB : neg = true ∧ zb2 own = 0
    · exact .inl ⟨hV (r := none) (by rw[if_pos (.inr hB)]), .inr (.inl ⟨rfl, hB.1, by simp[hB.2]⟩)⟩
    · have hB' : neg = false ∨ decide (zb2 own = 0) = false := by
        cases neg with
        | false => exact .inl rfl
        | true => exact .inr (by simpa using hB)
      have n1 : ¬ (zb5 own = false ∨ (neg = true ∧ zb2 own = 0)) := by rw[hA];simpa using hB
      rw[if_neg n1]at hV
      by_cases hC : zx own = []
      · rw[if_pos hC]at hV
        exact .inr ⟨rfl, hB', .inl ⟨hC, hV rfl⟩⟩
      · rw[if_neg hC]at hV
        have hC1 : (zx own == []) = false := by simpa using hC
        have hC2 : 0 < (zx own).length := List.length_pos_iff.2 hC
        by_cases hD : at0 (zx own) 0 = 47
        · rw[if_neg (fun x => x hD)]at hV
          cases hE : zb5 (za2 (zx own) 1)with
          | false => exact .inl ⟨hV (r := none) (by rw[if_pos (.inl hE)]), .inr (.inr ⟨rfl, hB', hC1, hC2, .inr ⟨by simpa using hD, .inl rfl⟩⟩)⟩
          | true =>
            by_cases hF : zx (za2 (zx own) 1) = []
            · by_cases hG : zb2 (za2 (zx own) 1) < 2
              · exact .inl ⟨hV (r := none) (by rw[if_pos (.inr (.inr (.inl hG)))]), .inr (.inr ⟨rfl, hB', hC1, hC2, .inr ⟨by simpa using hD, .inr (.inr (.inl ⟨rfl, hF, hG⟩))⟩⟩)⟩
              · by_cases hH : Nat.gcd (zb2 own) (zb2 (za2 (zx own) 1)) = 1
                · rw [if_neg (by rw [hE]; rintro (x | x | x | x); · cases x
                                 · exact x hF
                                 · exact hG x
                                 · exact x hH)]at hV
                  exact .inr ⟨rfl, hB', .inr ⟨hC1, hC2, by simpa using hD, rfl, hF, by omega, by simpa using hH, hV rfl⟩⟩
                · exact .inl ⟨hV (r := none) (by rw[if_pos (.inr (.inr (.inr hH)))]), .inr (.inr ⟨rfl, hB', hC1, hC2, .inr ⟨by simpa using hD, .inr (.inr (.inr ⟨rfl, hF, by omega, by simpa using hH⟩))⟩⟩)⟩
            · exact .inl ⟨hV (r := none) (by rw[if_pos (.inr (.inl hF))]), .inr (.inr ⟨rfl, hB', hC1, hC2, .inr ⟨by simpa using hD, .inr (.inl ⟨rfl, by simpa using hF⟩)⟩⟩)⟩
        · rw[if_pos hD]at hV
          exact .inl ⟨hV (r := none) rfl, .inr (.inr ⟨rfl, hB', hC1, hC2, .inl (by simpa using hD)⟩)⟩
theorem zsW{c:UInt8}(h:c≠45):((c.toNat:Int) == 45)=false:=by
 have h2:c.toNat≠45:=fun e=>h (UInt8.toNat_inj.1 e)
 simp;omega
theorem zeH(a:Str)(ha:a.length≤1000000000)(hm:a.head?≠some 45)(w:World) :
  Calls Tryz.prog 96 #[.string ⟨a.toArray⟩] w fun e w'=>e=.returned (zd0 a)∧Q w w':=by
 have hne:a≠[]→(a == [])=false∧0<a.length∧((((at0 a 0).toNat:Int) == 45)=false):=by
  intro h
  refine⟨by simpa using h,List.length_pos_iff.2 h,zsW (fun e=>hm ?_)⟩
  rw[zcF h,e]
 have hl1:=ziK a
 have hl2:=zgR (zx a) 1
 have hb1:=zkI a
 have hb2:=zkI (za2 (zx a) 1)
 rcases zjI a a false (zcr hm).symm (by simp[hm])with⟨HV,hw | ⟨_,h,_⟩|⟨hw,_,hr,hr2,hx⟩⟩|⟨hw,_,hx⟩
 ·have HW:=LH HV
  clear HV
  by_cases hn:a=[]
  ·subst hn
   clear hne hm
   go_enter Tryz.func96,Tryz.ntmps96
   go_wp2_with (go_at_call 155;refine(zao [] _ (by decide)).mono ?_;rintro e w1 ⟨rfl,n1,rfl⟩)
   exact bodyPost_ret (v:=.tuple #[.agg #[.int .i64 0,.int .i64 0],.bool false]) (by simp[results,Tryz.results96,go_sem]) rfl ⟨by rw[HW.out],bt⟩
  ·obtain⟨h,h2,h3⟩:=hne hn
   clear hne hn hm
   go_enter Tryz.func96,Tryz.ntmps96
   go_wp2_with (go_at_call 155;refine(zao _ _ (by omega)).mono ?_;rintro e w1 ⟨rfl,n1,rfl⟩)
   exact bodyPost_ret (v:=.tuple #[.agg #[.int .i64 0,.int .i64 0],.bool false]) (by simp[results,Tryz.results96,go_sem]) rfl ⟨by rw[HW.out],bt⟩
 ·cases h
 ·have HW:=LH HV
  obtain⟨h,h2,h3⟩:=hne (znb hw)
  clear HV hne hm
  have h':=zaw h
  have hr':=zaw hr
  rcases hx with hx | ⟨hx,hy | ⟨hy,hz⟩|⟨hy,hz,hu⟩|⟨hy,hz,hu,hv⟩⟩
  all_goals
   first | have hx':=zaw hx | have hx':=zbV hx
   first | have hz':=zaw hz | skip
   first | have hv':=zaw hv | skip
   go_enter Tryz.func96,Tryz.ntmps96
   go_wp2_with (first | (go_at_call 155;refine(zao _ _ (by omega)).mono ?_;rintro e w1 ⟨rfl,n1,rfl⟩)|(go_at_call 156;refine(zb9 _ _ _ (by omega) (by omega)).mono ?_;rintro e w1 ⟨rfl,n1,rfl⟩))
   exact bodyPost_ret (v:=.tuple #[.agg #[.int .i64 0,.int .i64 0],.bool false]) (by simp[results,Tryz.results96,go_sem]) rfl ⟨by rw[HW.out],bt⟩
 ·obtain⟨h,h2,h3⟩:=hne (znb hw)
  clear hne hm
  have h':=zaw h
  rcases hx with⟨hx,HV⟩|⟨hr,hr2,hx,hy,hz,hu,hv,HV⟩
  all_goals
   first | (have hx':=zbV hx;have hv':=zbV hv;have hr':=zaw hr) | skip
   have HW:=LH HV
   clear HV
   go_enter Tryz.func96,Tryz.ntmps96
   go_wp2_with (first | (go_at_call 155;refine(zao _ _ (by omega)).mono ?_;rintro e w1 ⟨rfl,n1,rfl⟩)|(go_at_call 156;refine(zb9 _ _ _ (by omega) (by omega)).mono ?_;rintro e w1 ⟨rfl,n1,rfl⟩))
   first
    | exact bodyPost_ret (v:=.tuple #[.agg #[.int .i64 (zb2 a),.int .i64 1],.bool true]) (by simp[results,Tryz.results96,go_sem]) rfl ⟨by rw[HW.out];rfl,bt⟩
    | exact bodyPost_ret (v:=.tuple #[.agg #[.int .i64 (zb2 a),.int .i64 (zb2 (za2 (zx a) 1))],.bool true]) (by simp[results,Tryz.results96,go_sem]) rfl ⟨by rw[HW.out];rfl,bt⟩
end
section
open Go.RowKit Kp
theorem zen(a:Str)(ha:a.length≤1000000000)(hm:a.head? = some 45)(w:World) :
  Calls Tryz.prog 96 #[.string ⟨a.toArray⟩] w fun e w'=>e=.returned (zd0 a)∧Q w w':=by
 have hne:a≠[]:=by intro e;rw[e]at hm;cases hm
 have h:(a == [])=false:=by simpa using hne
 have h':=zaw h
 have h2:0<a.length:=List.length_pos_iff.2 hne
 have h3:((((at0 a 0).toNat:Int) == 45)=true):=by
  rw[zcF hne]at hm;rw[Option.some.inj hm];rfl
 have hown:za2 a 1=zq a:=by rw[zgY hm];rfl
 have hlo:=zgR a 1
 have hl1:=ziK (za2 a 1)
 have hl2:=zgR (zx (za2 a 1)) 1
 have hb1:=zkI (za2 a 1)
 have hb2:=zkI (za2 (zx (za2 a 1)) 1)
 have hlt:(za2 a 1).length<a.length:=by omega
 rcases zjI a (za2 a 1) true hown (by simp[hm])with⟨HV,hw | ⟨hw,_,hz⟩|⟨hw,hn,hr,hr2,hx⟩⟩|⟨hw,hn,hx⟩
 ·have HW:=LH HV
  clear HV hne hm hown
  go_enter Tryz.func96,Tryz.ntmps96
  go_wp2_with (go_at_call 155;refine(zao _ _ (by omega)).mono ?_;rintro e w1 ⟨rfl,n1,rfl⟩)
  exact bodyPost_ret (v:=.tuple #[.agg #[.int .i64 0,.int .i64 0],.bool false]) (by simp[results,Tryz.results96,go_sem]) rfl ⟨by rw[HW.out],bt⟩
 ·have HW:=LH HV
  clear HV hne hm hown
  go_enter Tryz.func96,Tryz.ntmps96
  go_wp2_with (go_at_call 155;refine(zao _ _ (by omega)).mono ?_;rintro e w1 ⟨rfl,n1,rfl⟩)
  exact bodyPost_ret (v:=.tuple #[.agg #[.int .i64 0,.int .i64 0],.bool false]) (by simp[results,Tryz.results96,go_sem]) rfl ⟨by rw[HW.out],bt⟩
 ·have HW:=LH HV
  have hn:((zb2 (za2 a 1):Int) == 0)=false:=hn.elim (fun e=>by cases e) id
  clear HV hne hm hown
  have hr':=zaw hr
  rcases hx with hx | ⟨hx,hy | ⟨hy,hz⟩|⟨hy,hz,hu⟩|⟨hy,hz,hu,hv⟩⟩
  all_goals
   first | have hx':=zaw hx | have hx':=zbV hx
   first | have hz':=zaw hz | skip
   first | have hv':=zaw hv | skip
   go_enter Tryz.func96,Tryz.ntmps96
   go_wp2_with (first | (go_at_call 155;refine(zao _ _ (by omega)).mono ?_;rintro e w1 ⟨rfl,n1,rfl⟩)|(go_at_call 156;refine(zb9 _ _ _ (by omega) (by omega)).mono ?_;rintro e w1 ⟨rfl,n1,rfl⟩))
   exact bodyPost_ret (v:=.tuple #[.agg #[.int .i64 0,.int .i64 0],.bool false]) (by simp[results,Tryz.results96,go_sem]) rfl ⟨by rw[HW.out],bt⟩
 ·have hn:((zb2 (za2 a 1):Int) == 0)=false:=hn.elim (fun e=>by cases e) id
  clear hne hm hown
  rcases hx with⟨hx,HV⟩|⟨hr,hr2,hx,hy,hz,hu,hv,HV⟩
  all_goals
   first | (have hx':=zbV hx;have hv':=zbV hv;have hr':=zaw hr) | skip
   have HW:=LH HV
   clear HV
   go_enter Tryz.func96,Tryz.ntmps96
   go_wp2_with (first | (go_at_call 155;refine(zao _ _ (by omega)).mono ?_;rintro e w1 ⟨rfl,n1,rfl⟩)|(go_at_call 156;refine(zb9 _ _ _ (by omega) (by omega)).mono ?_;rintro e w1 ⟨rfl,n1,rfl⟩))
   first
    | exact bodyPost_ret (v:=.tuple #[.agg #[.int .i64 (-(zb2 (za2 a 1):Int)),.int .i64 1],.bool true]) (by simp[results,Tryz.results96,go_sem]) rfl ⟨by rw[HW.out];rfl,bt⟩
    | exact bodyPost_ret (v:=.tuple #[.agg #[.int .i64 (-(zb2 (za2 a 1):Int)),.int .i64 (zb2 (za2 (zx (za2 a 1)) 1))],.bool true]) (by simp[results,Tryz.results96,go_sem]) rfl ⟨by rw[HW.out];rfl,bt⟩
theorem zC(a:Str)(ha:a.length≤1000000000)(w:World) :
  Calls Tryz.prog 96 #[.string ⟨a.toArray⟩] w fun e w'=>e=.returned (zd0 a)∧Q w w':=by
 by_cases hm:a.head? = some 45
 ·exact zen a ha hm w
 ·exact zeH a ha hm w
end
section
open Go.RowKit Kp
theorem zha(n:Int)(k:Nat)(hk:0<k)(hn:n.natAbs≤100000000000000000)(hd1:k≤100000000000000000)(w:World)(hE:Env w) :
  Calls Tryz.prog 97 #[.agg #[.int .i64 n,.int .i64 k]] w fun e w'=>e=.returned (.string ⟨(za (Rat.divInt n k)).toArray⟩)∧Q w w':=by
 have hmx:=zpz n
 have hg1:0<Nat.gcd n.natAbs k:=Nat.gcd_pos_of_pos_right _ (by omega)
 obtain⟨b1,b2⟩:=zfI n (Nat.gcd n.natAbs k) (B:=100000000000000000) (by omega)
 have b3:0≤(k:Int) / (Nat.gcd n.natAbs k:Int):=Int.ediv_nonneg (by omega) (by omega)
 have b4:(k:Int) / (Nat.gcd n.natAbs k:Int)≤100000000000000000:=Int.le_trans (Int.ediv_le_self _ (by omega)) (by omega)
 have HR:=LH (zfK n k hk)
 generalize za (Rat.divInt n k)=r at *
 have HG:=LH (zb9 n.natAbs k)
 generalize hgg:Nat.gcd n.natAbs k=g at *
 clear hgg
 have hg3:((g:Int) == 0)=false:=by simp;omega
 have l1:=zac (n.tdiv g) (zcj (by omega))
 have l2:=zac ((k:Int) / (g:Int)) (zcj (by omega))
 by_cases h1:(k:Int) / (g:Int)=1
 ·have hb:((k:Int) / (g:Int) == 1)=true:=by simpa using h1
  have H1:=LH h1
  clear h1
  go_enter Tryz.func97,Tryz.ntmps97
  go_wp2_with (go_at_call 156;refine(HG.out _ (by omega) (by omega)).mono ?_;rintro e w1 ⟨rfl,n1,rfl⟩)
  go_quiet (fail)
  go_wp2_with fail
  refine(zaq _ (by omega) (by omega) _ (hE.q bt)).mono ?_
  rintro e w3⟨rfl,hq3⟩
  go_wp2
  go_ret
  exact⟨by rw[HR.out,if_pos H1.out];rfl,(show Below w.heap.size w _ from bt).trans (hq3.mono (by simp))⟩
 ·have hb:((k:Int) / (g:Int) == 1)=false:=by simpa using h1
  have H1:=LH h1
  clear h1
  go_enter Tryz.func97,Tryz.ntmps97
  go_wp2_with (go_at_call 156;refine(HG.out _ (by omega) (by omega)).mono ?_;rintro e w1 ⟨rfl,n1,rfl⟩)
  go_quiet (fail)
  go_wp2_with fail
  refine(zaq _ (by omega) (by omega) _ (hE.q bt)).mono ?_
  rintro e w3⟨rfl,hq3⟩
  have hQ3:Q w w3:=(show Below w.heap.size w _ from bt).trans (hq3.mono (by simp))
  go_wp2_with fail
  refine(zaq _ (by omega) (by omega) _ (hE.q hQ3)).mono ?_
  rintro e w4⟨rfl,hq4⟩
  go_wp2
  go_ret
  exact⟨by rw[HR.out,if_neg H1.out];first | rfl | (simp;done),hQ3.trans (hq4.mono hQ3.size)⟩
theorem zhb(n:Int)(k:Nat)(hk:0<k)(hn:n.natAbs≤100000000000000000)(hd1:k≤100000000000000000)(w:World)(hE:Env w) :
  Calls Tryz.prog 97 #[.agg #[.int .i64 n,.int .i64 (-(k:Int))]] w fun e w'=>e=.returned (.string ⟨(za (Rat.divInt n (-(k:Int)))).toArray⟩)∧Q w w':=by
 have e0:Rat.divInt n (-(k:Int))=Rat.divInt (-n) k:=by rw[Rat.divInt_neg']
 rw[e0]
 have hmx:max (-n) n=n.natAbs:=by omega
 have hg1:0<Nat.gcd n.natAbs k:=Nat.gcd_pos_of_pos_right _ (by omega)
 obtain⟨b1,b2⟩:=zfI n (Nat.gcd n.natAbs k) (B:=100000000000000000) (by omega)
 have b3:0≤(k:Int) / (Nat.gcd n.natAbs k:Int):=Int.ediv_nonneg (by omega) (by omega)
 have b4:(k:Int) / (Nat.gcd n.natAbs k:Int)≤100000000000000000:=Int.le_trans (Int.ediv_le_self _ (by omega)) (by omega)
 have hr:=zfK (-n) k hk
 rw[Int.natAbs_neg,Int.neg_tdiv]at hr
 have HR:=LH hr
 clear hr
 generalize za (Rat.divInt (-n) k)=r at *
 have HG:=LH (zb9 n.natAbs k)
 generalize hgg:Nat.gcd n.natAbs k=g at *
 clear hgg e0
 have hg3:((g:Int) == 0)=false:=by simp;omega
 have l1:=zac (-(n.tdiv g)) (zcj (by omega))
 have l2:=zac ((k:Int) / (g:Int)) (zcj (by omega))
 by_cases h1:(k:Int) / (g:Int)=1
 ·have hb:((k:Int) / (g:Int) == 1)=true:=by simpa using h1
  have H1:=LH h1
  clear h1
  go_enter Tryz.func97,Tryz.ntmps97
  go_wp2_with (go_at_call 156;go_loud (refine(HG.out _ (by omega) (by omega)).mono ?_);rintro e w1 ⟨rfl,n1,rfl⟩)
  go_quiet (fail)
  go_wp2_with fail
  refine(zaq _ (by omega) (by omega) _ (hE.q bt)).mono ?_
  rintro e w3⟨rfl,hq3⟩
  go_wp2
  go_ret
  exact⟨by rw[HR.out,if_pos H1.out];rfl,(show Below w.heap.size w _ from bt).trans (hq3.mono (by simp))⟩
 ·have hb:((k:Int) / (g:Int) == 1)=false:=by simpa using h1
  have H1:=LH h1
  clear h1
  go_enter Tryz.func97,Tryz.ntmps97
  go_wp2_with (go_at_call 156;go_loud (refine(HG.out _ (by omega) (by omega)).mono ?_);rintro e w1 ⟨rfl,n1,rfl⟩)
  go_quiet (fail)
  go_wp2_with fail
  refine(zaq _ (by omega) (by omega) _ (hE.q bt)).mono ?_
  rintro e w3⟨rfl,hq3⟩
  have hQ3:Q w w3:=(show Below w.heap.size w _ from bt).trans (hq3.mono (by simp))
  go_wp2_with fail
  refine(zaq _ (by omega) (by omega) _ (hE.q hQ3)).mono ?_
  rintro e w4⟨rfl,hq4⟩
  go_wp2
  go_ret
  exact⟨by rw[HR.out,if_neg H1.out];first | rfl | (simp;done),hQ3.trans (hq4.mono hQ3.size)⟩
end
section
open Go.RowKit Kp
theorem zlK{a b:Nat}(h:a<b):decide ((a:Int)<b)=true:=by simp;omega
theorem zlL{a b:Nat}(h:¬ a<b):decide ((a:Int)<b)=false:=by simp;omega
theorem zjW{a:Nat}(h:a=0):((a:Int) == 0)=true:=by simp[h]
theorem zjX{a:Nat}(h:a≠0):((a:Int) == 0)=false:=by simp[h]
theorem ziz(s:Str)(hl:s.length≤1000000000)(w:World) :
  Calls Tryz.prog 219 #[.string ⟨s.toArray⟩] w fun e w'=>e=.returned (.int .i64 (zdl s))∧w=w':=by
 go_enter Tryz.func219,Tryz.ntmps219
 go_wp2
 go_loop [3] (fun i=>∃ k:Nat,k≤s.length∧i=.int .i64 k∧zaR (s.take k)) (fun i=>s.length - (intOf i).toNat)
 case atStart=>exact⟨0,by omega,rfl,by simp[zaR]⟩
 case round =>
  obtain⟨k,hk,rfl,had⟩:=hrel
  have HD:=LH had;clear had
  by_cases h1:k<s.length
  ·cases hd:zaD (at0 s k)with
   | true =>
    have hd':=(zd6 _).1 hd
    have HN:=LH (HD.out.snoc h1 hd)
    clear hd
    go_wp2
    go_round
    case rel=>exact⟨k+1,by omega,by go_num,HN.out⟩
    case measure=>simp[intOf];omega
   | false =>
    have HT:=LH (zeB HD.out hk (.inr hd))
    have hd':=(ze5 _).1 hd
    clear hd
    by_cases hz:1<k∧at0 s 0=48
    ·have hz1:=hz.1
     have hz2:((((at0 s 0).toNat:Int)) == 48)=true:=by rw[hz.2];rfl
     have HR:Hid (zdl s=0):=LH (by unfold zdl;rw[HT.out,if_pos hz])
     clear hz
     rcases hd' with hd' | hd'
     all_goals
      go_wp2
      go_ret
      exact⟨zcU (by rw[HR.out];all_goals rfl),rfl⟩
    ·have HR:Hid (zdl s=k):=LH (by unfold zdl;rw[HT.out,if_neg hz])
     have hz':k≤1∨(1<k∧((((at0 s 0).toNat:Int)) == 48)=false):=by
      by_cases a:k≤1
      ·exact .inl a
      ·exact .inr ⟨by omega,zr6 (fun e=>hz ⟨by omega,e⟩)⟩
     clear hz
     rcases hd' with hd' | hd' <;> rcases hz' with hz' | ⟨hz',hz2⟩
     all_goals
      go_wp2
      go_ret
      exact⟨zcU (by rw[HR.out];all_goals rfl),rfl⟩
  ·have HT:=LH (zeB HD.out hk (.inl (by omega)))
   by_cases hz:1<k∧at0 s 0=48
   ·have hz1:=hz.1
    have hz2:((((at0 s 0).toNat:Int)) == 48)=true:=by rw[hz.2];rfl
    have HR:Hid (zdl s=0):=LH (by unfold zdl;rw[HT.out,if_pos hz])
    clear hz
    go_wp2
    go_ret
    exact⟨zcU (by rw[HR.out];all_goals rfl),rfl⟩
   ·have HR:Hid (zdl s=k):=LH (by unfold zdl;rw[HT.out,if_neg hz])
    have hz':k≤1∨(1<k∧((((at0 s 0).toNat:Int)) == 48)=false):=by
     by_cases a:k≤1
     ·exact .inl a
     ·exact .inr ⟨by omega,zr6 (fun e=>hz ⟨by omega,e⟩)⟩
    clear hz
    rcases hz' with hz' | ⟨hz',hz2⟩
    all_goals
     go_wp2
     go_ret
     exact⟨zcU (by rw[HR.out];all_goals rfl),rfl⟩
def cutV(a:Str):Value:=if zmt a then .tuple #[.agg #[.string ⟨#[]⟩,.string ⟨#[]⟩],.bool false]else .tuple #[.agg #[.string ⟨(zw a).toArray⟩,.string ⟨(zax a).toArray⟩],.bool true]
theorem zq8(a : Str) :
    (cutV a = .tuple #[.agg #[.string ⟨#[]⟩, .string ⟨#[]⟩], .bool false] ∧
      (zdl (zq (zw a)) = 0 ∨
       (zdl (zq (zw a)) ≠ 0 ∧ zdl (zq (zw a)) < (zq (zw a)).length) ∨
       (zdl (zq (zw a)) ≠ 0 ∧ ¬ zdl (zq (zw a)) < (zq (zw a)).length ∧
         ((decide ((zw a).head? = some 45) = true ∧ (zq (zw a) == [48]) = true) ∨
          ((decide ((zw a).head? = some 45) = false ∨ (zq (zw a) == [48]) = false) ∧ zad a = true ∧
            (zdl (zbX a) = 0 ∨ (zdl (zbX a) ≠ 0 ∧ zdl (zbX a) < (zbX a).length) ∨
             (zdl (zbX a) ≠ 0 ∧ ¬ zdl (zbX a) < (zbX a).length ∧ ((zbX a == [48]) = true ∨ ((zbX a == [48]) = false ∧ (zbX a == [49]) = true))))))))) ∨
    (zdl (zq (zw a)) ≠ 0 ∧ ¬ zdl (zq (zw a)) < (zq (zw a)).length ∧ (decide ((zw a).head? = some 45) = false ∨ (zq (zw a) == [48]) = false) ∧
      ((zad a = false ∧ cutV a = .tuple #[.agg #[.string ⟨(zw a).toArray⟩, .string ⟨#[49]⟩], .bool true]) ∨
       (zad a = true ∧ zdl (zbX a) ≠ 0 ∧ ¬ zdl (zbX a) < (zbX a).length ∧ (zbX a == [48]) = false ∧ (zbX a == [49]) = false ∧
         cutV a = .tuple #[.agg #[.string ⟨(zw a).toArray⟩, .string ⟨(zbX a).toArray⟩], .bool true]))) := by
  have hbad : zmt a → cutV a = .tuple #[.agg #[.string ⟨#[]⟩, .string ⟨#[]⟩], .bool false] := fun h => by unfold cutV;rw[if_pos h]
  have hgood : ¬ zmt a → cutV a = .tuple #[.agg #[.string ⟨(zw a).toArray⟩, .string ⟨(zax a).toArray⟩], .bool true] := fun h => by unfold cutV;rw[if_neg h]
  rw[zqy]at hbad hgood
  by_cases h0 : zdl (zq (zw a)) = 0
  · exact .inl ⟨hbad (.inl (.inl h0)), .inl h0⟩
  · by_cases h1 : zdl (zq (zw a)) < (zq (zw a)).length
    · exact .inl ⟨hbad (.inl (.inr (.inl h1))), .inr (.inl ⟨h0, h1⟩)⟩
    · by_cases h2 : (zw a).head? = some 45 ∧ zq (zw a) = [48]
      · exact .inl ⟨hbad (.inl (.inr (.inr h2))), .inr (.inr ⟨h0, h1, .inl ⟨by simpa using h2.1, by simpa using h2.2⟩⟩)⟩
      · have h2' : decide ((zw a).head? = some 45) = false ∨ (zq (zw a) == [48]) = false := by
          by_cases hm : (zw a).head? = some 45
          · exact .inr (by simpa using fun e => h2 ⟨hm, e⟩)
          · exact .inl (by simpa using hm)
        have hfirst : ¬ (zdl (zq (zw a)) = 0 ∨ zdl (zq (zw a)) < (zq (zw a)).length ∨ ((zw a).head? = some 45 ∧ zq (zw a) = [48])) := by
          rintro(x | x | x)
          · exact h0 x
          · exact h1 x
          · exact h2 x
        cases hs : zad a with
        | false =>
          refine .inr ⟨h0, h1, h2', .inl ⟨rfl, ?_⟩⟩
          have := hgood (by rintro (x | ⟨x, _⟩); · exact hfirst x
                            · rw[hs]at x;cases x)
          rw[this];unfold zax;rw[hs];rfl
        | true =>
          have ed : zbX a = zaj a := by unfold zbX;rw[hs];rfl
          have es : zax a = zaj a := by unfold zax;rw[hs];rfl
          rw[ed]
          by_cases d0 : zdl (zaj a) = 0
          · exact .inl ⟨hbad (.inr ⟨hs, .inl d0⟩), .inr (.inr ⟨h0, h1, .inr ⟨h2', rfl, .inl d0⟩⟩)⟩
          · by_cases d1 : zdl (zaj a) < (zaj a).length
            · exact .inl ⟨hbad (.inr ⟨hs, .inr (.inl d1)⟩), .inr (.inr ⟨h0, h1, .inr ⟨h2', rfl, .inr (.inl ⟨d0, d1⟩)⟩⟩)⟩
            · by_cases d2 : zaj a = [48]
              · exact .inl ⟨hbad (.inr ⟨hs, .inr (.inr (.inl d2))⟩), .inr (.inr ⟨h0, h1, .inr ⟨h2', rfl, .inr (.inr ⟨d0, d1, .inl (by simpa using d2)⟩)⟩⟩)⟩
              · by_cases d3 : zaj a = [49]
                · exact .inl ⟨hbad (.inr ⟨hs, .inr (.inr (.inr d3))⟩), .inr (.inr ⟨h0, h1, .inr ⟨h2', rfl, .inr (.inr ⟨d0, d1, .inr ⟨by simpa using d2, by simpa using d3⟩⟩)⟩⟩)⟩
                · refine .inr ⟨h0, h1, h2', .inr ⟨rfl, d0, d1, by simpa using d2, by simpa using d3, ?_⟩⟩
                  have := hgood (by rintro (x | ⟨_, x | x | x | x⟩); · exact hfirst x
                                    · exact d0 x
                                    · exact d1 x
                                    · exact d2 x
                                    · exact d3 x)
                  rw[this, es]
theorem zoA(a:Str):(zbX a).length≤a.length:=by
 unfold zbX;split
 ·exact zf6 a
 ·simp
theorem zlr(a : Str)(hl : a.length ≤ 1000000000)(w : World)(hE : Env w) :
    Calls Tryz.prog 154 #[.string ⟨a.toArray⟩] w fun e w' => e = .returned (cutV a) ∧ Q w w' := by
  have l1 := zfW a
  have l2 := zoA a
  have l3 := zif (zw a)
  rcases zq8 a with⟨HV, h | ⟨h, h1⟩|⟨h, h1, ⟨h2, h3⟩|⟨h2 | h2, h3, h4 | ⟨h4, h5⟩|⟨h4, h5, h6 | ⟨h6, h7⟩⟩⟩⟩⟩|⟨h, h1, h2 | h2, ⟨h3, HV⟩|⟨h3, h4, h5, h6, h7, HV⟩⟩
  all_goals
    have HW := LH HV
    clear HV
    first | have g0 := zjW h | have g0 := zjX h
    first | have g1 := zlK h1 | have g1 := zlL h1 | skip
    first | have g2 := zjW h4 | have g2 := zjX h4 | skip
    first | have g3 := zlK h5 | have g3 := zlL h5 | skip
    clear h
    go_enter Tryz.func154, Tryz.ntmps154
    go_wp2_with (first | (go_at_call 218;refine(zlN a (by omega) _ (hE.q bt)).mono ?_;rintro e w1 ⟨rfl, n1, rfl⟩)|(go_at_call 144;refine(zdu _ _).mono ?_;rintro e w1 ⟨rfl, rfl⟩)|(go_at_call 219;refine(ziz _ (by omega) _).mono ?_;rintro e w1 ⟨rfl, rfl⟩))
  all_goals
    first
    | (refine bodyPost_ret (v := .tuple #[.agg #[.string ⟨#[]⟩, .string ⟨#[]⟩], .bool false]) ?_ rfl ?_
       · simp[results, Tryz.results154, go_sem]
       · exact⟨by rw[HW.out], bt⟩)
    | (refine bodyPost_ret (v := .tuple #[.agg #[.string ⟨(zw a).toArray⟩, .string ⟨#[49]⟩], .bool true]) ?_ rfl ?_
       · simp[results, Tryz.results154, go_sem]
       · exact⟨by rw[HW.out], bt⟩)
    | (refine bodyPost_ret (v := .tuple #[.agg #[.string ⟨(zw a).toArray⟩, .string ⟨(zbX a).toArray⟩], .bool true]) ?_ rfl ?_
       · simp[results, Tryz.results154, go_sem]
       · exact⟨by rw[HW.out], bt⟩)
end
section
open Go.RowKit Kp
theorem zej(tmps:Array Value)(W:World)(b:Nat)(x y u:Value)(hp:tmps.getD 2 undef=.pointer (some ⟨b,0,none⟩))(hu:tmps.getD 3 undef=u)
  (c0:W.cell? ⟨b,0,none⟩=some x)(c1:W.cell? ⟨b,1,none⟩=some y) :
  (results Tryz.f95 tmps).run Tryz.prog W=.ok (.tuple #[.agg #[x,y],u]) W:=by
 simp only[Array.getD_eq_getD_getElem?]at hp hu
 simp[results,Tryz.results95,go_sem,hp,hu,c0,c1]
theorem zaN{q:Rat}(h:zO q):zd0 (za q)=.tuple #[.agg #[.int .i64 q.num,.int .i64 (q.den:Int)],.bool true]:=zeq (zmH h)
theorem zcd{q:Rat}(h:zO q):(za q).length≤1000:=by
 have h1:=zac q.num (zcj (by have:=h.1;omega))
 have h2:=zac (q.den:Int) (zcj (by have:=h.2;omega))
 unfold za;split
 ·omega
 ·rw[zaa,List.length_append,List.length_cons];omega
end
section
open Go.RowKit Kp
theorem zaf{a b:Int}(ha:a.natAbs<100000000)(hb:b.natAbs<100000000):-10000000000000000≤a*b∧a*b≤10000000000000000:=by
 have h:a.natAbs*b.natAbs≤100000000*100000000:=Nat.mul_le_mul (by omega) (by omega)
 rw[← Int.natAbs_mul]at h
 omega
theorem zfQ(x y:Rat)(hx:zO x)(hy:zO y)(w:World) :
  Calls Tryz.prog 50 #[.agg #[.int .i64 x.num,.int .i64 (x.den:Int)],.agg #[.int .i64 y.num,.int .i64 (y.den:Int)]] w fun e w'=>e=.returned (.agg #[.int .i64 (x.num*y.num),.int .i64 ((x.den:Int)*y.den)])∧Q w w':=by
 obtain⟨hx1,hx2⟩:=hx
 obtain⟨hy1,hy2⟩:=hy
 have m0:=zaf (a:=x.num) (b:=y.num) (by omega) (by omega)
 have m1:=zaf (a:=(x.den:Int)) (b:=(y.den:Int)) (by omega) (by omega)
 go_enter Tryz.func50,Tryz.ntmps50
 go_wp2
 refine bodyPost_ret (v:=.agg #[.int .i64 (x.num*y.num),.int .i64 ((x.den:Int)*y.den)]) ?_ rfl ⟨rfl,bt⟩
 simp[results,Tryz.results50,go_sem]
theorem zfS(x y:Rat)(hx:zO x)(hy:zO y)(w:World) :
  Calls Tryz.prog 77 #[.agg #[.int .i64 x.num,.int .i64 (x.den:Int)],.agg #[.int .i64 y.num,.int .i64 (y.den:Int)]] w fun e w'=>e=.returned (.agg #[.int .i64 (x.num*y.den+y.num*x.den),.int .i64 ((x.den:Int)*y.den)])∧Q w w':=by
 obtain⟨hx1,hx2⟩:=hx
 obtain⟨hy1,hy2⟩:=hy
 have m0:=zaf (a:=x.num) (b:=(y.den:Int)) (by omega) (by omega)
 have m1:=zaf (a:=y.num) (b:=(x.den:Int)) (by omega) (by omega)
 have m2:=zaf (a:=(x.den:Int)) (b:=(y.den:Int)) (by omega) (by omega)
 go_enter Tryz.func77,Tryz.ntmps77
 go_wp2
 refine bodyPost_ret (v:=.agg #[.int .i64 (x.num*y.den+y.num*x.den),.int .i64 ((x.den:Int)*y.den)]) ?_ rfl ⟨rfl,bt⟩
 simp[results,Tryz.results77,go_sem]
theorem zfP(x y:Rat)(hx:zO x)(hy:zO y)(w:World) :
  Calls Tryz.prog 46 #[.agg #[.int .i64 x.num,.int .i64 (x.den:Int)],.agg #[.int .i64 y.num,.int .i64 (y.den:Int)]] w fun e w'=>e=.returned (.agg #[.int .i64 (x.num*y.den - y.num*x.den),.int .i64 ((x.den:Int)*y.den)])∧Q w w':=by
 obtain⟨hx1,hx2⟩:=hx
 obtain⟨hy1,hy2⟩:=hy
 have m0:=zaf (a:=x.num) (b:=(y.den:Int)) (by omega) (by omega)
 have m1:=zaf (a:=y.num) (b:=(x.den:Int)) (by omega) (by omega)
 have m2:=zaf (a:=(x.den:Int)) (b:=(y.den:Int)) (by omega) (by omega)
 go_enter Tryz.func46,Tryz.ntmps46
 go_wp2
 refine bodyPost_ret (v:=.agg #[.int .i64 (x.num*y.den - y.num*x.den),.int .i64 ((x.den:Int)*y.den)]) ?_ rfl ⟨rfl,bt⟩
 simp[results,Tryz.results46,go_sem]
theorem zfR(x y:Rat)(hx:zO x)(hy:zO y)(w:World) :
  Calls Tryz.prog 79 #[.agg #[.int .i64 x.num,.int .i64 (x.den:Int)],.agg #[.int .i64 y.num,.int .i64 (y.den:Int)]] w fun e w'=>e=.returned (.agg #[.int .i64 (x.num*y.den),.int .i64 ((x.den:Int)*y.num)])∧Q w w':=by
 obtain⟨hx1,hx2⟩:=hx
 obtain⟨hy1,hy2⟩:=hy
 have m0:=zaf (a:=x.num) (b:=(y.den:Int)) (by omega) (by omega)
 have m1:=zaf (a:=(x.den:Int)) (b:=y.num) (by omega) (by omega)
 go_enter Tryz.func79,Tryz.ntmps79
 go_wp2
 refine bodyPost_ret (v:=.agg #[.int .i64 (x.num*y.den),.int .i64 ((x.den:Int)*y.num)]) ?_ rfl ⟨rfl,bt⟩
 simp[results,Tryz.results79,go_sem]
theorem zc3(n d:Int)(hd:d≠0)(hn:n.natAbs≤100000000000000000)(hd1:d.natAbs≤100000000000000000)(w:World)(hE:Env w) :
  Calls Tryz.prog 97 #[.agg #[.int .i64 n,.int .i64 d]] w fun e w'=>e=.returned (.string ⟨(za (Rat.divInt n d)).toArray⟩)∧Q w w':=by
 by_cases h:0<d
 ·obtain⟨k,rfl⟩:=Int.eq_ofNat_of_zero_le (Int.le_of_lt h)
  exact zha n k (by omega) hn (by omega) w hE
 ·obtain⟨k,hk⟩:=Int.eq_ofNat_of_zero_le (show 0≤-d by omega)
  obtain rfl:d = -(k:Int):=by omega
  exact zhb n k (by omega) hn (by omega) w hE
theorem zgo(x y:Rat)(hx:zO x)(hy:zO y)(w:World)(hE:Env w) :
  Calls Tryz.prog 45 #[.string ⟨(za x).toArray⟩,.string ⟨(za y).toArray⟩,.func (.func 50) #[] #[]] w fun e w'=>e=.returned (.tuple #[.string ⟨(za (x*y)).toArray⟩,.bool true])∧Q w w':=by
 have hlx:=zcd hx
 have hly:=zcd hy
 have hxd:=x.den_nz
 have hyd:=y.den_nz
 have HR:Hid (Rat.divInt (x.num*y.num) ((x.den:Int)*y.den)=x*y):=LH (by conv=>rhs;rw[← Rat.num_divInt_den x,← Rat.num_divInt_den y,Rat.divInt_mul_divInt])
 have hd0:((x.den:Int)*y.den)≠0:=Int.mul_ne_zero (by omega) (by omega)
 obtain⟨hx1,hx2⟩:=hx
 obtain⟨hy1,hy2⟩:=hy
 have m0:=zaf (a:=x.num) (b:=y.num) (by omega) (by omega)
 have m1:=zaf (a:=(x.den:Int)) (b:=(y.den:Int)) (by omega) (by omega)
 go_enter Tryz.func45,Tryz.ntmps45
 go_wp2_with fail
 refine(zC _ (by omega) _).mono ?_
 rw[zaN ⟨hx1,hx2⟩]
 rintro e w1⟨rfl,hq1⟩
 go_wp2_with fail
 refine(zC _ (by omega) _).mono ?_
 rw[zaN ⟨hy1,hy2⟩]
 rintro e w2⟨rfl,hq2⟩
 have hz2:=hq2.size
 rw[World.size_alloc]at hz2
 have hQ2:Q w w2:=hq1.trans ((show Below w1.heap.size w1 _ from bt).trans (hq2.mono (by simp)) |>.mono hq1.size)
 have B1:=(Blk.new w1 [.int .i64 x.num,.int .i64 (x.den:Int)] 103).keep hq2 (by simp)
 have c0:=B1.cell 0
 have c1:=B1.cell 1
 have l1:=B1.lt
 simp only[zs4,zs5]at c0 c1
 go_wp2_with fail
 refine(zfQ x y ⟨hx1,hx2⟩ ⟨hy1,hy2⟩ _).mono ?_
 rintro e w3⟨rfl,hq3⟩
 have hQ3:Q w w3:=hQ2.trans ((show Below w2.heap.size w2 _ from bt).trans (hq3.mono (by simp)) |>.mono hQ2.size)
 go_wp2_with fail
 refine(zc3 _ _ hd0 (by omega) (by omega) _ (hE.q hQ3)).mono ?_
 rintro e w4⟨rfl,hq4⟩
 go_wp2
 go_ret2
 exact⟨by rw[← HR.out];rfl,hQ3.trans (hq4.mono hQ3.size)⟩
theorem zgs(x y:Rat)(hx:zO x)(hy:zO y)(w:World)(hE:Env w) :
  Calls Tryz.prog 15 #[.string ⟨(za x).toArray⟩,.string ⟨(za y).toArray⟩] w fun e w'=>e=.returned (.tuple #[.string ⟨(za (x*y)).toArray⟩,.int .i64 0])∧Q w w':=by
 go_enter Tryz.func15,Tryz.ntmps15
 go_wp2_with fail
 refine(zgo x y hx hy _ hE).mono ?_
 rintro e w1⟨rfl,hq1⟩
 go_wp2
 go_ret2
 exact⟨rfl,hq1⟩
theorem zgq(x y:Rat)(hx:zO x)(hy:zO y)(w:World)(hE:Env w) :
  Calls Tryz.prog 45 #[.string ⟨(za x).toArray⟩,.string ⟨(za y).toArray⟩,.func (.func 77) #[] #[]] w fun e w'=>e=.returned (.tuple #[.string ⟨(za (x+y)).toArray⟩,.bool true])∧Q w w':=by
 have hlx:=zcd hx
 have hly:=zcd hy
 have hxd:=x.den_nz
 have hyd:=y.den_nz
 have HR:Hid (Rat.divInt (x.num*y.den+y.num*x.den) ((x.den:Int)*y.den)=x+y):=LH (by conv=>rhs;rw[← Rat.num_divInt_den x,← Rat.num_divInt_den y,Rat.divInt_add_divInt _ _ (by omega) (by omega)])
 have hd0:((x.den:Int)*y.den)≠0:=Int.mul_ne_zero (by omega) (by omega)
 obtain⟨hx1,hx2⟩:=hx
 obtain⟨hy1,hy2⟩:=hy
 have m0:=zaf (a:=x.num) (b:=(y.den:Int)) (by omega) (by omega)
 have m1:=zaf (a:=y.num) (b:=(x.den:Int)) (by omega) (by omega)
 have m2:=zaf (a:=(x.den:Int)) (b:=(y.den:Int)) (by omega) (by omega)
 go_enter Tryz.func45,Tryz.ntmps45
 go_wp2_with fail
 refine(zC _ (by omega) _).mono ?_
 rw[zaN ⟨hx1,hx2⟩]
 rintro e w1⟨rfl,hq1⟩
 go_wp2_with fail
 refine(zC _ (by omega) _).mono ?_
 rw[zaN ⟨hy1,hy2⟩]
 rintro e w2⟨rfl,hq2⟩
 have hz2:=hq2.size
 rw[World.size_alloc]at hz2
 have hQ2:Q w w2:=hq1.trans ((show Below w1.heap.size w1 _ from bt).trans (hq2.mono (by simp)) |>.mono hq1.size)
 have B1:=(Blk.new w1 [.int .i64 x.num,.int .i64 (x.den:Int)] 103).keep hq2 (by simp)
 have c0:=B1.cell 0
 have c1:=B1.cell 1
 have l1:=B1.lt
 simp only[zs4,zs5]at c0 c1
 go_wp2_with fail
 refine(zfS x y ⟨hx1,hx2⟩ ⟨hy1,hy2⟩ _).mono ?_
 rintro e w3⟨rfl,hq3⟩
 have hQ3:Q w w3:=hQ2.trans ((show Below w2.heap.size w2 _ from bt).trans (hq3.mono (by simp)) |>.mono hQ2.size)
 go_wp2_with fail
 refine(zc3 _ _ hd0 (by omega) (by omega) _ (hE.q hQ3)).mono ?_
 rintro e w4⟨rfl,hq4⟩
 go_wp2
 go_ret2
 exact⟨by rw[← HR.out];rfl,hQ3.trans (hq4.mono hQ3.size)⟩
theorem zgu(x y:Rat)(hx:zO x)(hy:zO y)(w:World)(hE:Env w) :
  Calls Tryz.prog 36 #[.string ⟨(za x).toArray⟩,.string ⟨(za y).toArray⟩] w fun e w'=>e=.returned (.tuple #[.string ⟨(za (x+y)).toArray⟩,.int .i64 0])∧Q w w':=by
 go_enter Tryz.func36,Tryz.ntmps36
 go_wp2_with fail
 refine(zgq x y hx hy _ hE).mono ?_
 rintro e w1⟨rfl,hq1⟩
 go_wp2
 go_ret2
 exact⟨rfl,hq1⟩
theorem zgn(x y:Rat)(hx:zO x)(hy:zO y)(w:World)(hE:Env w) :
  Calls Tryz.prog 45 #[.string ⟨(za x).toArray⟩,.string ⟨(za y).toArray⟩,.func (.func 46) #[] #[]] w fun e w'=>e=.returned (.tuple #[.string ⟨(za (x - y)).toArray⟩,.bool true])∧Q w w':=by
 have hlx:=zcd hx
 have hly:=zcd hy
 have hxd:=x.den_nz
 have hyd:=y.den_nz
 have HR:Hid (Rat.divInt (x.num*y.den - y.num*x.den) ((x.den:Int)*y.den)=x - y):=LH (by conv=>rhs;rw[← Rat.num_divInt_den x,← Rat.num_divInt_den y,Rat.divInt_sub_divInt _ _ (by omega) (by omega)])
 have hd0:((x.den:Int)*y.den)≠0:=Int.mul_ne_zero (by omega) (by omega)
 obtain⟨hx1,hx2⟩:=hx
 obtain⟨hy1,hy2⟩:=hy
 have m0:=zaf (a:=x.num) (b:=(y.den:Int)) (by omega) (by omega)
 have m1:=zaf (a:=y.num) (b:=(x.den:Int)) (by omega) (by omega)
 have m2:=zaf (a:=(x.den:Int)) (b:=(y.den:Int)) (by omega) (by omega)
 go_enter Tryz.func45,Tryz.ntmps45
 go_wp2_with fail
 refine(zC _ (by omega) _).mono ?_
 rw[zaN ⟨hx1,hx2⟩]
 rintro e w1⟨rfl,hq1⟩
 go_wp2_with fail
 refine(zC _ (by omega) _).mono ?_
 rw[zaN ⟨hy1,hy2⟩]
 rintro e w2⟨rfl,hq2⟩
 have hz2:=hq2.size
 rw[World.size_alloc]at hz2
 have hQ2:Q w w2:=hq1.trans ((show Below w1.heap.size w1 _ from bt).trans (hq2.mono (by simp)) |>.mono hq1.size)
 have B1:=(Blk.new w1 [.int .i64 x.num,.int .i64 (x.den:Int)] 103).keep hq2 (by simp)
 have c0:=B1.cell 0
 have c1:=B1.cell 1
 have l1:=B1.lt
 simp only[zs4,zs5]at c0 c1
 go_wp2_with fail
 refine(zfP x y ⟨hx1,hx2⟩ ⟨hy1,hy2⟩ _).mono ?_
 rintro e w3⟨rfl,hq3⟩
 have hQ3:Q w w3:=hQ2.trans ((show Below w2.heap.size w2 _ from bt).trans (hq3.mono (by simp)) |>.mono hQ2.size)
 go_wp2_with fail
 refine(zc3 _ _ hd0 (by omega) (by omega) _ (hE.q hQ3)).mono ?_
 rintro e w4⟨rfl,hq4⟩
 go_wp2
 go_ret2
 exact⟨by rw[← HR.out];rfl,hQ3.trans (hq4.mono hQ3.size)⟩
theorem zgr(x y:Rat)(hx:zO x)(hy:zO y)(w:World)(hE:Env w) :
  Calls Tryz.prog 13 #[.string ⟨(za x).toArray⟩,.string ⟨(za y).toArray⟩] w fun e w'=>e=.returned (.tuple #[.string ⟨(za (x - y)).toArray⟩,.int .i64 0])∧Q w w':=by
 go_enter Tryz.func13,Tryz.ntmps13
 go_wp2_with fail
 refine(zgn x y hx hy _ hE).mono ?_
 rintro e w1⟨rfl,hq1⟩
 go_wp2
 go_ret2
 exact⟨rfl,hq1⟩
theorem zgp(x y:Rat)(hx:zO x)(hy:zO y)(hy0:y.num≠0)(w:World)(hE:Env w) :
  Calls Tryz.prog 45 #[.string ⟨(za x).toArray⟩,.string ⟨(za y).toArray⟩,.func (.func 79) #[] #[]] w fun e w'=>e=.returned (.tuple #[.string ⟨(za (x / y)).toArray⟩,.bool true])∧Q w w':=by
 have hlx:=zcd hx
 have hly:=zcd hy
 have hxd:=x.den_nz
 have hyd:=y.den_nz
 have HR:Hid (Rat.divInt (x.num*y.den) ((x.den:Int)*y.num)=x / y):=LH (by conv=>rhs;rw[← Rat.num_divInt_den x,← Rat.num_divInt_den y,Rat.div_def,Rat.inv_divInt,Rat.divInt_mul_divInt])
 have hd0:((x.den:Int)*y.num)≠0:=Int.mul_ne_zero (by omega) hy0
 obtain⟨hx1,hx2⟩:=hx
 obtain⟨hy1,hy2⟩:=hy
 have m0:=zaf (a:=x.num) (b:=(y.den:Int)) (by omega) (by omega)
 have m1:=zaf (a:=(x.den:Int)) (b:=y.num) (by omega) (by omega)
 go_enter Tryz.func45,Tryz.ntmps45
 go_wp2_with fail
 refine(zC _ (by omega) _).mono ?_
 rw[zaN ⟨hx1,hx2⟩]
 rintro e w1⟨rfl,hq1⟩
 go_wp2_with fail
 refine(zC _ (by omega) _).mono ?_
 rw[zaN ⟨hy1,hy2⟩]
 rintro e w2⟨rfl,hq2⟩
 have hz2:=hq2.size
 rw[World.size_alloc]at hz2
 have hQ2:Q w w2:=hq1.trans ((show Below w1.heap.size w1 _ from bt).trans (hq2.mono (by simp)) |>.mono hq1.size)
 have B1:=(Blk.new w1 [.int .i64 x.num,.int .i64 (x.den:Int)] 103).keep hq2 (by simp)
 have c0:=B1.cell 0
 have c1:=B1.cell 1
 have l1:=B1.lt
 simp only[zs4,zs5]at c0 c1
 go_wp2_with fail
 refine(zfR x y ⟨hx1,hx2⟩ ⟨hy1,hy2⟩ _).mono ?_
 rintro e w3⟨rfl,hq3⟩
 have hQ3:Q w w3:=hQ2.trans ((show Below w2.heap.size w2 _ from bt).trans (hq3.mono (by simp)) |>.mono hQ2.size)
 go_wp2_with fail
 refine(zc3 _ _ hd0 (by omega) (by omega) _ (hE.q hQ3)).mono ?_
 rintro e w4⟨rfl,hq4⟩
 go_wp2
 go_ret2
 exact⟨by rw[← HR.out];rfl,hQ3.trans (hq4.mono hQ3.size)⟩
theorem zgt(x y:Rat)(hx:zO x)(hy:zO y)(hy0:y.num≠0)(w:World)(hE:Env w) :
  Calls Tryz.prog 37 #[.string ⟨(za x).toArray⟩,.string ⟨(za y).toArray⟩] w fun e w'=>e=.returned (.tuple #[.string ⟨(za (x / y)).toArray⟩,.int .i64 0])∧Q w w':=by
 have hn:(za y == [48])=false:=by
  rw[beq_eq_false_iff_ne];intro e;apply hy0
  have:za y=za 0:=by rw[e];simp[za,Lib.itoa,Lib.decDigits]
  rw[zav this];rfl
 have hn':=zaw hn
 go_enter Tryz.func37,Tryz.ntmps37
 go_wp2_with fail
 refine(zgp x y hx hy hy0 _ hE).mono ?_
 rintro e w1⟨rfl,hq1⟩
 go_wp2
 go_ret2
 exact⟨rfl,hq1⟩
end
end Go.Proofs.YtbpghkdadajomaaGreatDoor
