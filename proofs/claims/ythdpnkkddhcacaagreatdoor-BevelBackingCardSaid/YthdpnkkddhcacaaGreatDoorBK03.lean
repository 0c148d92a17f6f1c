/-
  Walks: the package rational.; Walks: rational.nativeOf at a string with a sign.; Walks: the package rational, numbers with short parts.; Walks: rational.digits, cut.; Walks: rational.read, Check, Parts at numbers with short parts; quick.; Walks: sum, difference, product and quotient of numbers with short parts. (Printed by mkquick.py.)
-/
import Derived.Test.YthdpnkkddhcacaaGreatDoorBK02
import Derived.Test.YthdpnkkddhcacaaGreatDoorBK00
set_option maxRecDepth 100000
set_option maxHeartbeats 2000000
namespace Go.Proofs.YthdpnkkddhcacaaGreatDoor
section
open Go.RowKit Kp
def zdU(a:Str):Value:=match zcx a with
 | some (n,d)=>.tuple #[.agg #[.int .i64 n,.int .i64 d],.bool true]
 | none=>.tuple #[.agg #[.int .i64 0,.int .i64 0],.bool false]
theorem zdc{a:Str}(h:zcx a=none):zdU a=.tuple #[.agg #[.int .i64 0,.int .i64 0],.bool false]:=by unfold zdU;rw[h]
theorem zej{a:Str}{n d:Int}(h:zcx a=some (n,d)):zdU a=.tuple #[.agg #[.int .i64 n,.int .i64 d],.bool true]:=by unfold zdU;rw[h]
theorem zks(a own : Str)(neg : Bool)(hown : own = zo a)(hneg : neg = decide (a.head? = some 45)) :
    (zdU a = .tuple #[.agg #[.int .i64 0, .int .i64 0], .bool false] ∧
      (zb8 own = false ∨
    (zb8 own = true ∧ neg = true ∧ ((zb5 own : Int) == 0) = true) ∨
    (zb8 own = true ∧ (neg = false ∨ ((zb5 own : Int) == 0) = false) ∧ (zy own == []) = false ∧ 0 < (zy own).length ∧
          (((((at0 (zy own) 0).toNat : Int) == 47) = false) ∨
    ((((at0 (zy own) 0).toNat : Int) == 47) = true ∧
    (zb8 (zaY (zy own) 1) = false ∨
              (zb8 (zaY (zy own) 1) = true ∧ (zy (zaY (zy own) 1) == []) = false) ∨
              (zb8 (zaY (zy own) 1) = true ∧ zy (zaY (zy own) 1) = [] ∧ zb5 (zaY (zy own) 1) < 2) ∨
              (zb8 (zaY (zy own) 1) = true ∧ zy (zaY (zy own) 1) = [] ∧ 2 ≤ zb5 (zaY (zy own) 1) ∧ ((Nat.gcd (zb5 own) (zb5 (zaY (zy own) 1)) : Int) == 1) = false))))))) ∨
    (zb8 own = true ∧ (neg = false ∨ ((zb5 own : Int) == 0) = false) ∧
      ((zy own = [] ∧ zdU a = .tuple #[.agg #[.int .i64 (if neg then -(zb5 own : Int)else zb5 own), .int .i64 1], .bool true]) ∨
    ((zy own == []) = false ∧ 0 < (zy own).length ∧ ((((at0 (zy own) 0).toNat : Int) == 47) = true) ∧ zb8 (zaY (zy own) 1) = true ∧ zy (zaY (zy own) 1) = [] ∧ 2 ≤ zb5 (zaY (zy own) 1) ∧
          ((Nat.gcd (zb5 own) (zb5 (zaY (zy own) 1)) : Int) == 1) = true ∧ zdU a = .tuple #[.agg #[.int .i64 (if neg then -(zb5 own : Int)else zb5 own), .int .i64 (zb5 (zaY (zy own) 1))], .bool true]))) := by
  have h47 : ∀ c : UInt8, ((c.toNat : Int) == 47) = decide (c = 47) := by
    intro c
    by_cases h : c = 47
    · subst h;rfl
    · have : c.toNat ≠ 47 := fun e => h (UInt8.toNat_inj.1 e)
      simp[h];omega
  have e1 : ∀ n : Nat, ((n : Int) == 1) = decide (n = 1) := by intro n;by_cases h : n = 1 <;> simp[h];omega
  have e0 : ∀ n : Nat, ((n : Int) == 0) = decide (n = 0) := by intro n;by_cases h : n = 0 <;> simp[h]
  have hV : ∀ {r}, zcx a = r → zdU a = (match r with
      | some (n, d) => .tuple #[.agg #[.int .i64 n, .int .i64 d], .bool true]
      | none => .tuple #[.agg #[.int .i64 0, .int .i64 0], .bool false]) := by intro r h;unfold zdU;rw[h]
  have hn2 : (a.head? = some 45) = (neg = true) := by rw[hneg];simp
  unfold zcx at hV
  rw[← hown]at hV
  simp only[hn2]at hV
  simp only[h47, e1, e0]
  cases hA : zb8 own with
  | false => exact .inl ⟨hV (r := none) (by rw[if_pos (.inl hA)]), .inl rfl⟩
  | true =>
    by_cases hB : neg = true ∧ zb5 own = 0
    · exact .inl ⟨hV (r := none) (by rw[if_pos (.inr hB)]), .inr (.inl ⟨rfl, hB.1, by simp[hB.2]⟩)⟩
    · have hB' : neg = false ∨ decide (zb5 own = 0) = false := by
        cases neg with
        | false => exact .inl rfl
        | true => exact .inr (by simpa using hB)
      have n1 : ¬ (zb8 own = false ∨ (neg = true ∧ zb5 own = 0)) := by rw[hA];simpa using hB
      rw[if_neg n1]at hV
      by_cases hC : zy own = []
      · rw[if_pos hC]at hV
        exact .inr ⟨rfl, hB', .inl ⟨hC, hV rfl⟩⟩
      · rw[if_neg hC]at hV
        have hC1 : (zy own == []) = false := by simpa using hC
        have hC2 : 0 < (zy own).length := List.length_pos_iff.2 hC
        by_cases hD : at0 (zy own) 0 = 47
        · rw[if_neg (fun x => x hD)]at hV
          cases hE : zb8 (zaY (zy own) 1)with
          | false => exact .inl ⟨hV (r := none) (by rw[if_pos (.inl hE)]), .inr (.inr ⟨rfl, hB', hC1, hC2, .inr ⟨by simpa using hD, .inl rfl⟩⟩)⟩
          | true =>
            by_cases hF : zy (zaY (zy own) 1) = []
            · by_cases hG : zb5 (zaY (zy own) 1) < 2
              · exact .inl ⟨hV (r := none) (by rw[if_pos (.inr (.inr (.inl hG)))]), .inr (.inr ⟨rfl, hB', hC1, hC2, .inr ⟨by simpa using hD, .inr (.inr (.inl ⟨rfl, hF, hG⟩))⟩⟩)⟩
              · by_cases hH : Nat.gcd (zb5 own) (zb5 (zaY (zy own) 1)) = 1
                · rw[if_neg (by
                    rw[hE];rintro(x | x | x | x);· cases x
                    · exact x hF
                    · exact hG x
                    · exact x hH)]at hV
                  exact .inr ⟨rfl, hB', .inr ⟨hC1, hC2, by simpa using hD, rfl, hF, by omega, by simpa using hH, hV rfl⟩⟩
                · exact .inl ⟨hV (r := none) (by rw[if_pos (.inr (.inr (.inr hH)))]), .inr (.inr ⟨rfl, hB', hC1, hC2, .inr ⟨by simpa using hD, .inr (.inr (.inr ⟨rfl, hF, by omega, by simpa using hH⟩))⟩⟩)⟩
            · exact .inl ⟨hV (r := none) (by rw[if_pos (.inr (.inl hF))]), .inr (.inr ⟨rfl, hB', hC1, hC2, .inr ⟨by simpa using hD, .inr (.inl ⟨rfl, by simpa using hF⟩)⟩⟩)⟩
        · rw[if_pos hD]at hV
          exact .inl ⟨hV (r := none) rfl, .inr (.inr ⟨rfl, hB', hC1, hC2, .inl (by simpa using hD)⟩)⟩
theorem zuC{c:UInt8}(h:c≠45):((c.toNat:Int) == 45)=false:=by
 have h2:c.toNat≠45:=fun e=>h (UInt8.toNat_inj.1 e)
 simp;omega
theorem zeC(a:Str)(ha:a.length≤1000000000)(hm:a.head?≠some 45)(w:World) :
  CR 139 #[.string ⟨a.toArray⟩] w (zdU a):=by
 have hne:a≠[]→(a == [])=false∧0<a.length∧((((at0 a 0).toNat:Int) == 45)=false):=by
  intro h
  refine⟨by simpa using h,List.length_pos_iff.2 h,zuC (fun e=>hm ?_)⟩
  rw[zb6 h,e]
 have hl1:=zjh a
 have hl2:=zg1 (zy a) 1
 have hb1:=zln a
 have hb2:=zln (zaY (zy a) 1)
 rcases zks a a false (zbi hm).symm (by simp[hm])with⟨HV,hw | ⟨_,h,_⟩|⟨hw,_,hr,hr2,hx⟩⟩|⟨hw,_,hx⟩
 ·have HW:=LH HV
  clear HV
  by_cases hn:a=[]
  ·subst hn
   clear hne hm
   go_enter Tryz.func139,Tryz.ntmps139
   go_wp2_with (go_at_call 208;refine(zas [] _ (by decide)).mono ?_;rintro e w1 ⟨rfl,n1,rfl⟩)
   exact bodyPost_ret (v:=.tuple #[.agg #[.int .i64 0,.int .i64 0],.bool false]) (by simp[results,Tryz.results139,go_sem]) rfl ⟨by rw[HW.out],bt⟩
  ·obtain⟨h,h2,h3⟩:=hne hn
   clear hne hn hm
   go_enter Tryz.func139,Tryz.ntmps139
   go_wp2_with (go_at_call 208;refine(zas _ _ (by omega)).mono ?_;rintro e w1 ⟨rfl,n1,rfl⟩)
   exact bodyPost_ret (v:=.tuple #[.agg #[.int .i64 0,.int .i64 0],.bool false]) (by simp[results,Tryz.results139,go_sem]) rfl ⟨by rw[HW.out],bt⟩
 ·cases h
 ·have HW:=LH HV
  obtain⟨h,h2,h3⟩:=hne (zor hw)
  clear HV hne hm
  have h':=zay h
  have hr':=zay hr
  rcases hx with hx | ⟨hx,hy | ⟨hy,hz⟩|⟨hy,hz,hu⟩|⟨hy,hz,hu,hv⟩⟩
  all_goals
   first | have hx':=zay hx | have hx':=zbH hx
   first | have hz':=zay hz | skip
   first | have hv':=zay hv | skip
   go_enter Tryz.func139,Tryz.ntmps139
   go_wp2_with (first | (go_at_call 208;refine(zas _ _ (by omega)).mono ?_;rintro e w1 ⟨rfl,n1,rfl⟩)|(go_at_call 209;refine(zcb _ _ _ (by omega) (by omega)).mono ?_;rintro e w1 ⟨rfl,n1,rfl⟩))
   exact bodyPost_ret (v:=.tuple #[.agg #[.int .i64 0,.int .i64 0],.bool false]) (by simp[results,Tryz.results139,go_sem]) rfl ⟨by rw[HW.out],bt⟩
 ·obtain⟨h,h2,h3⟩:=hne (zor hw)
  clear hne hm
  have h':=zay h
  rcases hx with⟨hx,HV⟩|⟨hr,hr2,hx,hy,hz,hu,hv,HV⟩
  all_goals
   first | (have hx':=zbH hx;have hv':=zbH hv;have hr':=zay hr) | skip
   have HW:=LH HV
   clear HV
   go_enter Tryz.func139,Tryz.ntmps139
   go_wp2_with (first | (go_at_call 208;refine(zas _ _ (by omega)).mono ?_;rintro e w1 ⟨rfl,n1,rfl⟩)|(go_at_call 209;refine(zcb _ _ _ (by omega) (by omega)).mono ?_;rintro e w1 ⟨rfl,n1,rfl⟩))
   first
    | exact bodyPost_ret (v:=.tuple #[.agg #[.int .i64 (zb5 a),.int .i64 1],.bool true]) (by simp[results,Tryz.results139,go_sem]) rfl ⟨by rw[HW.out];rfl,bt⟩
    | exact bodyPost_ret (v:=.tuple #[.agg #[.int .i64 (zb5 a),.int .i64 (zb5 (zaY (zy a) 1))],.bool true]) (by simp[results,Tryz.results139,go_sem]) rfl ⟨by rw[HW.out];rfl,bt⟩
theorem zeg(a:Str)(ha:a.length≤1000000000)(hm:a.head? = some 45)(w:World) :
  CR 139 #[.string ⟨a.toArray⟩] w (zdU a):=by
 have hne:a≠[]:=by intro e;rw[e]at hm;cases hm
 have h:(a == [])=false:=by simpa using hne
 have h':=zay h
 have h2:0<a.length:=List.length_pos_iff.2 hne
 have h3:((((at0 a 0).toNat:Int) == 45)=true):=by
  rw[zb6 hne]at hm;rw[Option.some.inj hm];rfl
 have hown:zaY a 1=zo a:=by rw[zfj hm];rfl
 have hlo:=zg1 a 1
 have hl1:=zjh (zaY a 1)
 have hl2:=zg1 (zy (zaY a 1)) 1
 have hb1:=zln (zaY a 1)
 have hb2:=zln (zaY (zy (zaY a 1)) 1)
 have hlt:(zaY a 1).length<a.length:=by omega
 rcases zks a (zaY a 1) true hown (by simp[hm])with⟨HV,hw | ⟨hw,_,hz⟩|⟨hw,hn,hr,hr2,hx⟩⟩|⟨hw,hn,hx⟩
 ·have HW:=LH HV
  clear HV hne hm hown
  go_enter Tryz.func139,Tryz.ntmps139
  go_wp2_with (go_at_call 208;refine(zas _ _ (by omega)).mono ?_;rintro e w1 ⟨rfl,n1,rfl⟩)
  exact bodyPost_ret (v:=.tuple #[.agg #[.int .i64 0,.int .i64 0],.bool false]) (by simp[results,Tryz.results139,go_sem]) rfl ⟨by rw[HW.out],bt⟩
 ·have HW:=LH HV
  clear HV hne hm hown
  go_enter Tryz.func139,Tryz.ntmps139
  go_wp2_with (go_at_call 208;refine(zas _ _ (by omega)).mono ?_;rintro e w1 ⟨rfl,n1,rfl⟩)
  exact bodyPost_ret (v:=.tuple #[.agg #[.int .i64 0,.int .i64 0],.bool false]) (by simp[results,Tryz.results139,go_sem]) rfl ⟨by rw[HW.out],bt⟩
 ·have HW:=LH HV
  have hn:((zb5 (zaY a 1):Int) == 0)=false:=hn.elim (fun e=>by cases e) id
  clear HV hne hm hown
  have hr':=zay hr
  rcases hx with hx | ⟨hx,hy | ⟨hy,hz⟩|⟨hy,hz,hu⟩|⟨hy,hz,hu,hv⟩⟩
  all_goals
   first | have hx':=zay hx | have hx':=zbH hx
   first | have hz':=zay hz | skip
   first | have hv':=zay hv | skip
   go_enter Tryz.func139,Tryz.ntmps139
   go_wp2_with (first | (go_at_call 208;refine(zas _ _ (by omega)).mono ?_;rintro e w1 ⟨rfl,n1,rfl⟩)|(go_at_call 209;refine(zcb _ _ _ (by omega) (by omega)).mono ?_;rintro e w1 ⟨rfl,n1,rfl⟩))
   exact bodyPost_ret (v:=.tuple #[.agg #[.int .i64 0,.int .i64 0],.bool false]) (by simp[results,Tryz.results139,go_sem]) rfl ⟨by rw[HW.out],bt⟩
 ·have hn:((zb5 (zaY a 1):Int) == 0)=false:=hn.elim (fun e=>by cases e) id
  clear hne hm hown
  rcases hx with⟨hx,HV⟩|⟨hr,hr2,hx,hy,hz,hu,hv,HV⟩
  all_goals
   first | (have hx':=zbH hx;have hv':=zbH hv;have hr':=zay hr) | skip
   have HW:=LH HV
   clear HV
   go_enter Tryz.func139,Tryz.ntmps139
   go_wp2_with (first | (go_at_call 208;refine(zas _ _ (by omega)).mono ?_;rintro e w1 ⟨rfl,n1,rfl⟩)|(go_at_call 209;refine(zcb _ _ _ (by omega) (by omega)).mono ?_;rintro e w1 ⟨rfl,n1,rfl⟩))
   first
    | exact bodyPost_ret (v:=.tuple #[.agg #[.int .i64 (-(zb5 (zaY a 1):Int)),.int .i64 1],.bool true]) (by simp[results,Tryz.results139,go_sem]) rfl ⟨by rw[HW.out];rfl,bt⟩
    | exact bodyPost_ret (v:=.tuple #[.agg #[.int .i64 (-(zb5 (zaY a 1):Int)),.int .i64 (zb5 (zaY (zy (zaY a 1)) 1))],.bool true]) (by simp[results,Tryz.results139,go_sem]) rfl ⟨by rw[HW.out];rfl,bt⟩
theorem zF(a:Str)(ha:a.length≤1000000000)(w:World) :
  CR 139 #[.string ⟨a.toArray⟩] w (zdU a):=by
 by_cases hm:a.head? = some 45
 ·exact zeg a ha hm w
 ·exact zeC a ha hm w
theorem zho(n:Int)(k:Nat)(hk:0<k)(hn:n.natAbs≤100000000000000000)(hd1:k≤100000000000000000)(w:World)(hE:Env w) :
  CR 140 #[.agg #[.int .i64 n,.int .i64 k]] w (.string ⟨(ze (Rat.divInt n k)).toArray⟩):=by
 have hmx:=zqK n
 have hg1:0<Nat.gcd n.natAbs k:=Nat.gcd_pos_of_pos_right _ (by omega)
 obtain⟨b1,b2⟩:=zfJ n (Nat.gcd n.natAbs k) (B:=100000000000000000) (by omega)
 have b3:0≤(k:Int) / (Nat.gcd n.natAbs k:Int):=Int.ediv_nonneg (by omega) (by omega)
 have b4:(k:Int) / (Nat.gcd n.natAbs k:Int)≤100000000000000000:=Int.le_trans (Int.ediv_le_self _ (by omega)) (by omega)
 have HR:=LH (zd8 n k hk)
 generalize ze (Rat.divInt n k)=r at *
 have HG:=LH (zcb n.natAbs k)
 generalize hgg:Nat.gcd n.natAbs k=g at *
 clear hgg
 have hg3:((g:Int) == 0)=false:=by simp;omega
 have l1:=zW (n.tdiv g) (zck (by omega))
 have l2:=zW ((k:Int) / (g:Int)) (zck (by omega))
 by_cases h1:(k:Int) / (g:Int)=1
 ·have hb:((k:Int) / (g:Int) == 1)=true:=by simpa using h1
  have H1:=LH h1
  clear h1
  go_enter Tryz.func140,Tryz.ntmps140
  go_wp2_with (go_at_call 209;refine(HG.out _ (by omega) (by omega)).mono ?_;rintro e w1 ⟨rfl,n1,rfl⟩)
  go_quiet (fail)
  go_wp2_with fail
  refine cx (zav _ (by omega) (by omega) _ (hE.q bt)) fun w3 hq3=>?_
  go_wp2
  go_ret
  exact⟨by rw[HR.out,if_pos H1.out];rfl,(show Below w.heap.size w _ from bt).trans (hq3.mono (by simp))⟩
 ·have hb:((k:Int) / (g:Int) == 1)=false:=by simpa using h1
  have H1:=LH h1
  clear h1
  go_enter Tryz.func140,Tryz.ntmps140
  go_wp2_with (go_at_call 209;refine(HG.out _ (by omega) (by omega)).mono ?_;rintro e w1 ⟨rfl,n1,rfl⟩)
  go_quiet (fail)
  go_wp2_with fail
  refine cx (zav _ (by omega) (by omega) _ (hE.q bt)) fun w3 hq3=>?_
  have hQ3:Q w w3:=(show Below w.heap.size w _ from bt).trans (hq3.mono (by simp))
  go_wp2_with fail
  refine cx (zav _ (by omega) (by omega) _ (hE.q hQ3)) fun w4 hq4=>?_
  go_wp2
  go_ret
  exact⟨by rw[HR.out,if_neg H1.out];first | rfl | (simp;done),hQ3.trans (hq4.mono hQ3.size)⟩
theorem zhp(n:Int)(k:Nat)(hk:0<k)(hn:n.natAbs≤100000000000000000)(hd1:k≤100000000000000000)(w:World)(hE:Env w) :
  CR 140 #[.agg #[.int .i64 n,.int .i64 (-(k:Int))]] w (.string ⟨(ze (Rat.divInt n (-(k:Int)))).toArray⟩):=by
 have e0:Rat.divInt n (-(k:Int))=Rat.divInt (-n) k:=by rw[Rat.divInt_neg']
 rw[e0]
 have hmx:max (-n) n=n.natAbs:=by omega
 have hg1:0<Nat.gcd n.natAbs k:=Nat.gcd_pos_of_pos_right _ (by omega)
 obtain⟨b1,b2⟩:=zfJ n (Nat.gcd n.natAbs k) (B:=100000000000000000) (by omega)
 have b3:0≤(k:Int) / (Nat.gcd n.natAbs k:Int):=Int.ediv_nonneg (by omega) (by omega)
 have b4:(k:Int) / (Nat.gcd n.natAbs k:Int)≤100000000000000000:=Int.le_trans (Int.ediv_le_self _ (by omega)) (by omega)
 have hr:=zd8 (-n) k hk
 rw[Int.natAbs_neg,Int.neg_tdiv]at hr
 have HR:=LH hr
 clear hr
 generalize ze (Rat.divInt (-n) k)=r at *
 have HG:=LH (zcb n.natAbs k)
 generalize hgg:Nat.gcd n.natAbs k=g at *
 clear hgg e0
 have hg3:((g:Int) == 0)=false:=by simp;omega
 have l1:=zW (-(n.tdiv g)) (zck (by omega))
 have l2:=zW ((k:Int) / (g:Int)) (zck (by omega))
 by_cases h1:(k:Int) / (g:Int)=1
 ·have hb:((k:Int) / (g:Int) == 1)=true:=by simpa using h1
  have H1:=LH h1
  clear h1
  go_enter Tryz.func140,Tryz.ntmps140
  go_wp2_with (go_at_call 209;go_loud (refine(HG.out _ (by omega) (by omega)).mono ?_);rintro e w1 ⟨rfl,n1,rfl⟩)
  go_quiet (fail)
  go_wp2_with fail
  refine cx (zav _ (by omega) (by omega) _ (hE.q bt)) fun w3 hq3=>?_
  go_wp2
  go_ret
  exact⟨by rw[HR.out,if_pos H1.out];rfl,(show Below w.heap.size w _ from bt).trans (hq3.mono (by simp))⟩
 ·have hb:((k:Int) / (g:Int) == 1)=false:=by simpa using h1
  have H1:=LH h1
  clear h1
  go_enter Tryz.func140,Tryz.ntmps140
  go_wp2_with (go_at_call 209;go_loud (refine(HG.out _ (by omega) (by omega)).mono ?_);rintro e w1 ⟨rfl,n1,rfl⟩)
  go_quiet (fail)
  go_wp2_with fail
  refine cx (zav _ (by omega) (by omega) _ (hE.q bt)) fun w3 hq3=>?_
  have hQ3:Q w w3:=(show Below w.heap.size w _ from bt).trans (hq3.mono (by simp))
  go_wp2_with fail
  refine cx (zav _ (by omega) (by omega) _ (hE.q hQ3)) fun w4 hq4=>?_
  go_wp2
  go_ret
  exact⟨by rw[HR.out,if_neg H1.out];first | rfl | (simp;done),hQ3.trans (hq4.mono hQ3.size)⟩
theorem zmv{a b:Nat}(h:a<b):decide ((a:Int)<b)=true:=by simp;omega
theorem zmw{a b:Nat}(h:¬ a<b):decide ((a:Int)<b)=false:=by simp;omega
theorem zkH{a:Nat}(h:a=0):((a:Int) == 0)=true:=by simp[h]
theorem zkI{a:Nat}(h:a≠0):((a:Int) == 0)=false:=by simp[h]
theorem zi6(s:Str)(hl:s.length≤1000000000)(w:World) :
  Calls Tryz.prog 255 #[.string ⟨s.toArray⟩] w fun e w'=>e=.returned (.int .i64 (zcG s))∧w=w':=by
 go_enter Tryz.func255,Tryz.ntmps255
 go_wp2
 go_loop [3] (fun i=>∃ k:Nat,k≤s.length∧i=.int .i64 k∧zaB (s.take k)) (fun i=>s.length - (intOf i).toNat)
 case atStart=>exact⟨0,by omega,rfl,by simp[zaB]⟩
 case round =>
  obtain⟨k,hk,rfl,had⟩:=hrel
  have HD:=LH had;clear had
  by_cases h1:k<s.length
  ·cases hd:zat (at0 s k)with
   | true =>
    have hd':=(zcm _).1 hd
    have HN:=LH (HD.out.snoc h1 hd)
    clear hd
    go_wp2
    go_round
    case rel=>exact⟨k+1,by omega,by go_num,HN.out⟩
    case measure=>simp[intOf];omega
   | false =>
    have HT:=LH (zeu HD.out hk (.inr hd))
    have hd':=(zdf _).1 hd
    clear hd
    by_cases hz:1<k∧at0 s 0=48
    ·have hz1:=hz.1
     have hz2:((((at0 s 0).toNat:Int)) == 48)=true:=by rw[hz.2];rfl
     have HR:Hid (zcG s=0):=LH (by unfold zcG;rw[HT.out,if_pos hz])
     clear hz
     rcases hd' with hd' | hd'
     all_goals
      go_wp2
      go_ret
      exact⟨zcS (by rw[HR.out];all_goals rfl),rfl⟩
    ·have HR:Hid (zcG s=k):=LH (by unfold zcG;rw[HT.out,if_neg hz])
     have hz':k≤1∨(1<k∧((((at0 s 0).toNat:Int)) == 48)=false):=by
      by_cases a:k≤1
      ·exact .inl a
      ·exact .inr ⟨by omega,ztI (fun e=>hz ⟨by omega,e⟩)⟩
     clear hz
     rcases hd' with hd' | hd' <;> rcases hz' with hz' | ⟨hz',hz2⟩
     all_goals
      go_wp2
      go_ret
      exact⟨zcS (by rw[HR.out];all_goals rfl),rfl⟩
  ·have HT:=LH (zeu HD.out hk (.inl (by omega)))
   by_cases hz:1<k∧at0 s 0=48
   ·have hz1:=hz.1
    have hz2:((((at0 s 0).toNat:Int)) == 48)=true:=by rw[hz.2];rfl
    have HR:Hid (zcG s=0):=LH (by unfold zcG;rw[HT.out,if_pos hz])
    clear hz
    go_wp2
    go_ret
    exact⟨zcS (by rw[HR.out];all_goals rfl),rfl⟩
   ·have HR:Hid (zcG s=k):=LH (by unfold zcG;rw[HT.out,if_neg hz])
    have hz':k≤1∨(1<k∧((((at0 s 0).toNat:Int)) == 48)=false):=by
     by_cases a:k≤1
     ·exact .inl a
     ·exact .inr ⟨by omega,ztI (fun e=>hz ⟨by omega,e⟩)⟩
    clear hz
    rcases hz' with hz' | ⟨hz',hz2⟩
    all_goals
     go_wp2
     go_ret
     exact⟨zcS (by rw[HR.out];all_goals rfl),rfl⟩
def cutV(a:Str):Value:=if zm1 a then .tuple #[.agg #[.string ⟨#[]⟩,.string ⟨#[]⟩],.bool false]else .tuple #[.agg #[.string ⟨(zu a).toArray⟩,.string ⟨(zaG a).toArray⟩],.bool true]
theorem zsj(a:Str) :
  (cutV a=.tuple #[.agg #[.string ⟨#[]⟩,.string ⟨#[]⟩],.bool false] ∧
   (zcG (zo (zu a))=0 ∨
  (zcG (zo (zu a))≠0∧zcG (zo (zu a))<(zo (zu a)).length) ∨
  (zcG (zo (zu a))≠0∧¬ zcG (zo (zu a))<(zo (zu a)).length ∧
  ((decide ((zu a).head? = some 45)=true∧(zo (zu a) == [48])=true) ∨
     ((decide ((zu a).head? = some 45)=false∨(zo (zu a) == [48])=false)∧zG a=true ∧
      (zcG (zaJ a)=0∨(zcG (zaJ a)≠0∧zcG (zaJ a)<(zaJ a).length) ∨
  (zcG (zaJ a)≠0∧¬ zcG (zaJ a)<(zaJ a).length∧((zaJ a == [48])=true∨((zaJ a == [48])=false∧(zaJ a == [49])=true))))))))) ∨
  (zcG (zo (zu a))≠0∧¬ zcG (zo (zu a))<(zo (zu a)).length∧(decide ((zu a).head? = some 45)=false∨(zo (zu a) == [48])=false) ∧
   ((zG a=false∧cutV a=.tuple #[.agg #[.string ⟨(zu a).toArray⟩,.string ⟨#[49]⟩],.bool true]) ∨
  (zG a=true∧zcG (zaJ a)≠0∧¬ zcG (zaJ a)<(zaJ a).length∧(zaJ a == [48])=false∧(zaJ a == [49])=false ∧
  cutV a=.tuple #[.agg #[.string ⟨(zu a).toArray⟩,.string ⟨(zaJ a).toArray⟩],.bool true]))):=by
 have hbad:zm1 a→cutV a=.tuple #[.agg #[.string ⟨#[]⟩,.string ⟨#[]⟩],.bool false]:=fun h=>by unfold cutV;rw[if_pos h]
 have hgood:¬ zm1 a→cutV a=.tuple #[.agg #[.string ⟨(zu a).toArray⟩,.string ⟨(zaG a).toArray⟩],.bool true]:=fun h=>by unfold cutV;rw[if_neg h]
 rw[zoj]at hbad hgood
 by_cases h0:zcG (zo (zu a))=0
 ·exact .inl ⟨hbad (.inl (.inl h0)),.inl h0⟩
 ·by_cases h1:zcG (zo (zu a))<(zo (zu a)).length
  ·exact .inl ⟨hbad (.inl (.inr (.inl h1))),.inr (.inl ⟨h0,h1⟩)⟩
  ·by_cases h2:(zu a).head? = some 45∧zo (zu a)=[48]
   ·exact .inl ⟨hbad (.inl (.inr (.inr h2))),.inr (.inr ⟨h0,h1,.inl ⟨by simpa using h2.1,by simpa using h2.2⟩⟩)⟩
   ·have h2':decide ((zu a).head? = some 45)=false∨(zo (zu a) == [48])=false:=by
     by_cases hm:(zu a).head? = some 45
     ·exact .inr (by simpa using fun e=>h2 ⟨hm,e⟩)
     ·exact .inl (by simpa using hm)
    have hfirst:¬ (zcG (zo (zu a))=0∨zcG (zo (zu a))<(zo (zu a)).length∨((zu a).head? = some 45∧zo (zu a)=[48])):=by
     rintro(x | x | x)
     ·exact h0 x
     ·exact h1 x
     ·exact h2 x
    cases hs:zG a with
    | false =>
     refine .inr ⟨h0,h1,h2',.inl ⟨rfl,?_⟩⟩
     have:=hgood (by
      rintro(x | ⟨x,_⟩);· exact hfirst x
      ·rw[hs]at x;cases x)
     rw[this];unfold zaG;rw[hs];rfl
    | true =>
     have ed:zaJ a=zar a:=by unfold zaJ;rw[hs];rfl
     have es:zaG a=zar a:=by unfold zaG;rw[hs];rfl
     rw[ed]
     by_cases d0:zcG (zar a)=0
     ·exact .inl ⟨hbad (.inr ⟨hs,.inl d0⟩),.inr (.inr ⟨h0,h1,.inr ⟨h2',rfl,.inl d0⟩⟩)⟩
     ·by_cases d1:zcG (zar a)<(zar a).length
      ·exact .inl ⟨hbad (.inr ⟨hs,.inr (.inl d1)⟩),.inr (.inr ⟨h0,h1,.inr ⟨h2',rfl,.inr (.inl ⟨d0,d1⟩)⟩⟩)⟩
      ·by_cases d2:zar a=[48]
       ·exact .inl ⟨hbad (.inr ⟨hs,.inr (.inr (.inl d2))⟩),.inr (.inr ⟨h0,h1,.inr ⟨h2',rfl,.inr (.inr ⟨d0,d1,.inl (by simpa using d2)⟩)⟩⟩)⟩
       ·by_cases d3:zar a=[49]
        ·exact .inl ⟨hbad (.inr ⟨hs,.inr (.inr (.inr d3))⟩),.inr (.inr ⟨h0,h1,.inr ⟨h2',rfl,.inr (.inr ⟨d0,d1,.inr ⟨by simpa using d2,by simpa using d3⟩⟩)⟩⟩)⟩
        ·refine .inr ⟨h0,h1,h2',.inr ⟨rfl,d0,d1,by simpa using d2,by simpa using d3,?_⟩⟩
         have:=hgood (by
          rintro(x | ⟨_,x | x | x | x⟩);· exact hfirst x
          ·exact d0 x
          ·exact d1 x
          ·exact d2 x
          ·exact d3 x)
         rw[this,es]
theorem zpT(a:Str):(zaJ a).length≤a.length:=by
 unfold zaJ;split
 ·exact zf7 a
 ·simp
theorem zmb(a:Str)(hl:a.length≤1000000000)(w:World)(hE:Env w) :
  CR 210 #[.string ⟨a.toArray⟩] w (cutV a):=by
 have l1:=zfU a
 have l2:=zpT a
 have l3:=zeJ (zu a)
 rcases zsj a with⟨HV,h | ⟨h,h1⟩|⟨h,h1,⟨h2,h3⟩|⟨h2 | h2,h3,h4 | ⟨h4,h5⟩|⟨h4,h5,h6 | ⟨h6,h7⟩⟩⟩⟩⟩|⟨h,h1,h2 | h2,⟨h3,HV⟩|⟨h3,h4,h5,h6,h7,HV⟩⟩
 all_goals
  have HW:=LH HV
  clear HV
  first | have g0:=zkH h | have g0:=zkI h
  first | have g1:=zmv h1 | have g1:=zmw h1 | skip
  first | have g2:=zkH h4 | have g2:=zkI h4 | skip
  first | have g3:=zmv h5 | have g3:=zmw h5 | skip
  clear h
  go_enter Tryz.func210,Tryz.ntmps210
  go_wp2_with (first | (go_at_call 254;refine(zmz a (by omega) _ (hE.q bt)).mono ?_;rintro e w1 ⟨rfl,n1,rfl⟩)|(go_at_call 166;refine(zds _ _).mono ?_;rintro e w1 ⟨rfl,rfl⟩)|(go_at_call 255;refine(zi6 _ (by omega) _).mono ?_;rintro e w1 ⟨rfl,rfl⟩))
 all_goals
  first
  | (
    refine bodyPost_ret (v:=.tuple #[.agg #[.string ⟨#[]⟩,.string ⟨#[]⟩],.bool false]) ?_ rfl ?_
    ·simp[results,Tryz.results210,go_sem]
    ·exact⟨by rw[HW.out],bt⟩)
  | (
    refine bodyPost_ret (v:=.tuple #[.agg #[.string ⟨(zu a).toArray⟩,.string ⟨#[49]⟩],.bool true]) ?_ rfl ?_
    ·simp[results,Tryz.results210,go_sem]
    ·exact⟨by rw[HW.out],bt⟩)
  | (
    refine bodyPost_ret (v:=.tuple #[.agg #[.string ⟨(zu a).toArray⟩,.string ⟨(zaJ a).toArray⟩],.bool true]) ?_ rfl ?_
    ·simp[results,Tryz.results210,go_sem]
    ·exact⟨by rw[HW.out],bt⟩)
theorem zea(tmps:Array Value)(W:World)(b:Nat)(x y u:Value)(hp:tmps.getD 2 undef=.pointer (some ⟨b,0,none⟩))(hu:tmps.getD 3 undef=u)
  (c0:W.cell? ⟨b,0,none⟩=some x)(c1:W.cell? ⟨b,1,none⟩=some y) :
  (results Tryz.f141 tmps).run Tryz.prog W=.ok (.tuple #[.agg #[x,y],u]) W:=by
 simp only[Array.getD_eq_getD_getElem?]at hp hu
 simp[results,Tryz.results141,go_sem,hp,hu,c0,c1]
theorem za0{q:Rat}(h:zS q):zdU (ze q)=.tuple #[.agg #[.int .i64 q.num,.int .i64 (q.den:Int)],.bool true]:=zej (zny h)
theorem zcH{q:Rat}(h:zS q):(ze q).length≤1000:=by
 have h1:=zW q.num (zck (by have:=h.1;omega))
 have h2:=zW (q.den:Int) (zck (by have:=h.2;omega))
 unfold ze;split
 ·omega
 ·rw[zA,List.length_append,List.length_cons];omega
theorem zai{a b:Int}(ha:a.natAbs<100000000)(hb:b.natAbs<100000000):-10000000000000000≤a*b∧a*b≤10000000000000000:=by
 have h:a.natAbs*b.natAbs≤100000000*100000000:=Nat.mul_le_mul (by omega) (by omega)
 rw[← Int.natAbs_mul]at h
 omega
theorem zfP(x y:Rat)(hx:zS x)(hy:zS y)(w:World) :
  CR 73 #[.agg #[.int .i64 x.num,.int .i64 (x.den:Int)],.agg #[.int .i64 y.num,.int .i64 (y.den:Int)]] w (.agg #[.int .i64 (x.num*y.num),.int .i64 ((x.den:Int)*y.den)]):=by
 obtain⟨hx1,hx2⟩:=hx
 obtain⟨hy1,hy2⟩:=hy
 have m0:=zai (a:=x.num) (b:=y.num) (by omega) (by omega)
 have m1:=zai (a:=(x.den:Int)) (b:=(y.den:Int)) (by omega) (by omega)
 go_enter Tryz.func73,Tryz.ntmps73
 go_wp2
 refine bodyPost_ret (v:=.agg #[.int .i64 (x.num*y.num),.int .i64 ((x.den:Int)*y.den)]) ?_ rfl ⟨rfl,bt⟩
 simp[results,Tryz.results73,go_sem]
theorem zfR(x y:Rat)(hx:zS x)(hy:zS y)(w:World) :
  CR 126 #[.agg #[.int .i64 x.num,.int .i64 (x.den:Int)],.agg #[.int .i64 y.num,.int .i64 (y.den:Int)]] w (.agg #[.int .i64 (x.num*y.den+y.num*x.den),.int .i64 ((x.den:Int)*y.den)]):=by
 obtain⟨hx1,hx2⟩:=hx
 obtain⟨hy1,hy2⟩:=hy
 have m0:=zai (a:=x.num) (b:=(y.den:Int)) (by omega) (by omega)
 have m1:=zai (a:=y.num) (b:=(x.den:Int)) (by omega) (by omega)
 have m2:=zai (a:=(x.den:Int)) (b:=(y.den:Int)) (by omega) (by omega)
 go_enter Tryz.func126,Tryz.ntmps126
 go_wp2
 refine bodyPost_ret (v:=.agg #[.int .i64 (x.num*y.den+y.num*x.den),.int .i64 ((x.den:Int)*y.den)]) ?_ rfl ⟨rfl,bt⟩
 simp[results,Tryz.results126,go_sem]
theorem zfO(x y:Rat)(hx:zS x)(hy:zS y)(w:World) :
  CR 130 #[.agg #[.int .i64 x.num,.int .i64 (x.den:Int)],.agg #[.int .i64 y.num,.int .i64 (y.den:Int)]] w (.agg #[.int .i64 (x.num*y.den - y.num*x.den),.int .i64 ((x.den:Int)*y.den)]):=by
 obtain⟨hx1,hx2⟩:=hx
 obtain⟨hy1,hy2⟩:=hy
 have m0:=zai (a:=x.num) (b:=(y.den:Int)) (by omega) (by omega)
 have m1:=zai (a:=y.num) (b:=(x.den:Int)) (by omega) (by omega)
 have m2:=zai (a:=(x.den:Int)) (b:=(y.den:Int)) (by omega) (by omega)
 go_enter Tryz.func130,Tryz.ntmps130
 go_wp2
 refine bodyPost_ret (v:=.agg #[.int .i64 (x.num*y.den - y.num*x.den),.int .i64 ((x.den:Int)*y.den)]) ?_ rfl ⟨rfl,bt⟩
 simp[results,Tryz.results130,go_sem]
theorem zfQ(x y:Rat)(hx:zS x)(hy:zS y)(w:World) :
  CR 132 #[.agg #[.int .i64 x.num,.int .i64 (x.den:Int)],.agg #[.int .i64 y.num,.int .i64 (y.den:Int)]] w (.agg #[.int .i64 (x.num*y.den),.int .i64 ((x.den:Int)*y.num)]):=by
 obtain⟨hx1,hx2⟩:=hx
 obtain⟨hy1,hy2⟩:=hy
 have m0:=zai (a:=x.num) (b:=(y.den:Int)) (by omega) (by omega)
 have m1:=zai (a:=(x.den:Int)) (b:=y.num) (by omega) (by omega)
 go_enter Tryz.func132,Tryz.ntmps132
 go_wp2
 refine bodyPost_ret (v:=.agg #[.int .i64 (x.num*y.den),.int .i64 ((x.den:Int)*y.num)]) ?_ rfl ⟨rfl,bt⟩
 simp[results,Tryz.results132,go_sem]
theorem zc0(n d:Int)(hd:d≠0)(hn:n.natAbs≤100000000000000000)(hd1:d.natAbs≤100000000000000000)(w:World)(hE:Env w) :
  CR 140 #[.agg #[.int .i64 n,.int .i64 d]] w (.string ⟨(ze (Rat.divInt n d)).toArray⟩):=by
 by_cases h:0<d
 ·obtain⟨k,rfl⟩:=Int.eq_ofNat_of_zero_le (Int.le_of_lt h)
  exact zho n k (by omega) hn (by omega) w hE
 ·obtain⟨k,hk⟩:=Int.eq_ofNat_of_zero_le (show 0≤-d by omega)
  obtain rfl:d = -(k:Int):=by omega
  exact zhp n k (by omega) hn (by omega) w hE
theorem zgz(x y:Rat)(hx:zS x)(hy:zS y)(w:World)(hE:Env w) :
  CR 72 #[.string ⟨(ze x).toArray⟩,.string ⟨(ze y).toArray⟩,.func (.func 73) #[] #[]] w (.tuple #[.string ⟨(ze (x*y)).toArray⟩,.bool true]):=by
 have hlx:=zcH hx
 have hly:=zcH hy
 have hxd:=x.den_nz
 have hyd:=y.den_nz
 have HR:Hid (Rat.divInt (x.num*y.num) ((x.den:Int)*y.den)=x*y):=LH (by conv=>rhs;rw[← Rat.num_divInt_den x,← Rat.num_divInt_den y,Rat.divInt_mul_divInt])
 have hd0:((x.den:Int)*y.den)≠0:=Int.mul_ne_zero (by omega) (by omega)
 obtain⟨hx1,hx2⟩:=hx
 obtain⟨hy1,hy2⟩:=hy
 have m0:=zai (a:=x.num) (b:=y.num) (by omega) (by omega)
 have m1:=zai (a:=(x.den:Int)) (b:=(y.den:Int)) (by omega) (by omega)
 go_enter Tryz.func72,Tryz.ntmps72
 go_wp2_with fail
 refine(zF _ (by omega) _).mono ?_
 rw[za0 ⟨hx1,hx2⟩]
 rintro e w1⟨rfl,hq1⟩
 go_wp2_with fail
 refine(zF _ (by omega) _).mono ?_
 rw[za0 ⟨hy1,hy2⟩]
 rintro e w2⟨rfl,hq2⟩
 have hz2:=hq2.size
 rw[World.size_alloc]at hz2
 have hQ2:Q w w2:=hq1.trans ((show Below w1.heap.size w1 _ from bt).trans (hq2.mono (by simp)) |>.mono hq1.size)
 have B1:=(Blk.new w1 [.int .i64 x.num,.int .i64 (x.den:Int)] 126).keep hq2 (by simp)
 have c0:=B1.cell
 have l1:=B1.lt
 go_wp2_with fail
 refine cx (zfP x y ⟨hx1,hx2⟩ ⟨hy1,hy2⟩ _) fun w3 hq3=>?_
 have hQ3:Q w w3:=hQ2.trans ((show Below w2.heap.size w2 _ from bt).trans (hq3.mono (by simp)) |>.mono hQ2.size)
 go_wp2_with fail
 refine cx (zc0 _ _ hd0 (by omega) (by omega) _ (hE.q hQ3)) fun w4 hq4=>?_
 go_wp2
 go_ret2
 exact⟨by rw[← HR.out];rfl,hQ3.trans (hq4.mono hQ3.size)⟩
theorem zgD(x y:Rat)(hx:zS x)(hy:zS y)(w:World)(hE:Env w) :
  CR 38 #[.string ⟨(ze x).toArray⟩,.string ⟨(ze y).toArray⟩] w (.tuple #[.string ⟨(ze (x*y)).toArray⟩,.int .i64 0]):=by
 go_enter Tryz.func38,Tryz.ntmps38
 go_wp2_with fail
 refine cx (zgz x y hx hy _ hE) fun w1 hq1=>?_
 go_wp2
 go_ret2
 exact⟨rfl,hq1⟩
theorem zgB(x y:Rat)(hx:zS x)(hy:zS y)(w:World)(hE:Env w) :
  CR 72 #[.string ⟨(ze x).toArray⟩,.string ⟨(ze y).toArray⟩,.func (.func 126) #[] #[]] w (.tuple #[.string ⟨(ze (x+y)).toArray⟩,.bool true]):=by
 have hlx:=zcH hx
 have hly:=zcH hy
 have hxd:=x.den_nz
 have hyd:=y.den_nz
 have HR:Hid (Rat.divInt (x.num*y.den+y.num*x.den) ((x.den:Int)*y.den)=x+y):=LH (by conv=>rhs;rw[← Rat.num_divInt_den x,← Rat.num_divInt_den y,Rat.divInt_add_divInt _ _ (by omega) (by omega)])
 have hd0:((x.den:Int)*y.den)≠0:=Int.mul_ne_zero (by omega) (by omega)
 obtain⟨hx1,hx2⟩:=hx
 obtain⟨hy1,hy2⟩:=hy
 have m0:=zai (a:=x.num) (b:=(y.den:Int)) (by omega) (by omega)
 have m1:=zai (a:=y.num) (b:=(x.den:Int)) (by omega) (by omega)
 have m2:=zai (a:=(x.den:Int)) (b:=(y.den:Int)) (by omega) (by omega)
 go_enter Tryz.func72,Tryz.ntmps72
 go_wp2_with fail
 refine(zF _ (by omega) _).mono ?_
 rw[za0 ⟨hx1,hx2⟩]
 rintro e w1⟨rfl,hq1⟩
 go_wp2_with fail
 refine(zF _ (by omega) _).mono ?_
 rw[za0 ⟨hy1,hy2⟩]
 rintro e w2⟨rfl,hq2⟩
 have hz2:=hq2.size
 rw[World.size_alloc]at hz2
 have hQ2:Q w w2:=hq1.trans ((show Below w1.heap.size w1 _ from bt).trans (hq2.mono (by simp)) |>.mono hq1.size)
 have B1:=(Blk.new w1 [.int .i64 x.num,.int .i64 (x.den:Int)] 126).keep hq2 (by simp)
 have c0:=B1.cell
 have l1:=B1.lt
 go_wp2_with fail
 refine cx (zfR x y ⟨hx1,hx2⟩ ⟨hy1,hy2⟩ _) fun w3 hq3=>?_
 have hQ3:Q w w3:=hQ2.trans ((show Below w2.heap.size w2 _ from bt).trans (hq3.mono (by simp)) |>.mono hQ2.size)
 go_wp2_with fail
 refine cx (zc0 _ _ hd0 (by omega) (by omega) _ (hE.q hQ3)) fun w4 hq4=>?_
 go_wp2
 go_ret2
 exact⟨by rw[← HR.out];rfl,hQ3.trans (hq4.mono hQ3.size)⟩
theorem zgF(x y:Rat)(hx:zS x)(hy:zS y)(w:World)(hE:Env w) :
  CR 64 #[.string ⟨(ze x).toArray⟩,.string ⟨(ze y).toArray⟩] w (.tuple #[.string ⟨(ze (x+y)).toArray⟩,.int .i64 0]):=by
 go_enter Tryz.func64,Tryz.ntmps64
 go_wp2_with fail
 refine cx (zgB x y hx hy _ hE) fun w1 hq1=>?_
 go_wp2
 go_ret2
 exact⟨rfl,hq1⟩
theorem zgy(x y:Rat)(hx:zS x)(hy:zS y)(w:World)(hE:Env w) :
  CR 72 #[.string ⟨(ze x).toArray⟩,.string ⟨(ze y).toArray⟩,.func (.func 130) #[] #[]] w (.tuple #[.string ⟨(ze (x - y)).toArray⟩,.bool true]):=by
 have hlx:=zcH hx
 have hly:=zcH hy
 have hxd:=x.den_nz
 have hyd:=y.den_nz
 have HR:Hid (Rat.divInt (x.num*y.den - y.num*x.den) ((x.den:Int)*y.den)=x - y):=LH (by conv=>rhs;rw[← Rat.num_divInt_den x,← Rat.num_divInt_den y,Rat.divInt_sub_divInt _ _ (by omega) (by omega)])
 have hd0:((x.den:Int)*y.den)≠0:=Int.mul_ne_zero (by omega) (by omega)
 obtain⟨hx1,hx2⟩:=hx
 obtain⟨hy1,hy2⟩:=hy
 have m0:=zai (a:=x.num) (b:=(y.den:Int)) (by omega) (by omega)
 have m1:=zai (a:=y.num) (b:=(x.den:Int)) (by omega) (by omega)
 have m2:=zai (a:=(x.den:Int)) (b:=(y.den:Int)) (by omega) (by omega)
 go_enter Tryz.func72,Tryz.ntmps72
 go_wp2_with fail
 refine(zF _ (by omega) _).mono ?_
 rw[za0 ⟨hx1,hx2⟩]
 rintro e w1⟨rfl,hq1⟩
 go_wp2_with fail
 refine(zF _ (by omega) _).mono ?_
 rw[za0 ⟨hy1,hy2⟩]
 rintro e w2⟨rfl,hq2⟩
 have hz2:=hq2.size
 rw[World.size_alloc]at hz2
 have hQ2:Q w w2:=hq1.trans ((show Below w1.heap.size w1 _ from bt).trans (hq2.mono (by simp)) |>.mono hq1.size)
 have B1:=(Blk.new w1 [.int .i64 x.num,.int .i64 (x.den:Int)] 126).keep hq2 (by simp)
 have c0:=B1.cell
 have l1:=B1.lt
 go_wp2_with fail
 refine cx (zfO x y ⟨hx1,hx2⟩ ⟨hy1,hy2⟩ _) fun w3 hq3=>?_
 have hQ3:Q w w3:=hQ2.trans ((show Below w2.heap.size w2 _ from bt).trans (hq3.mono (by simp)) |>.mono hQ2.size)
 go_wp2_with fail
 refine cx (zc0 _ _ hd0 (by omega) (by omega) _ (hE.q hQ3)) fun w4 hq4=>?_
 go_wp2
 go_ret2
 exact⟨by rw[← HR.out];rfl,hQ3.trans (hq4.mono hQ3.size)⟩
theorem zgC(x y:Rat)(hx:zS x)(hy:zS y)(w:World)(hE:Env w) :
  CR 66 #[.string ⟨(ze x).toArray⟩,.string ⟨(ze y).toArray⟩] w (.tuple #[.string ⟨(ze (x - y)).toArray⟩,.int .i64 0]):=by
 go_enter Tryz.func66,Tryz.ntmps66
 go_wp2_with fail
 refine cx (zgy x y hx hy _ hE) fun w1 hq1=>?_
 go_wp2
 go_ret2
 exact⟨rfl,hq1⟩
theorem zgA(x y:Rat)(hx:zS x)(hy:zS y)(hy0:y.num≠0)(w:World)(hE:Env w) :
  CR 72 #[.string ⟨(ze x).toArray⟩,.string ⟨(ze y).toArray⟩,.func (.func 132) #[] #[]] w (.tuple #[.string ⟨(ze (x / y)).toArray⟩,.bool true]):=by
 have hlx:=zcH hx
 have hly:=zcH hy
 have hxd:=x.den_nz
 have hyd:=y.den_nz
 have HR:Hid (Rat.divInt (x.num*y.den) ((x.den:Int)*y.num)=x / y):=LH (by conv=>rhs;rw[← Rat.num_divInt_den x,← Rat.num_divInt_den y,Rat.div_def,Rat.inv_divInt,Rat.divInt_mul_divInt])
 have hd0:((x.den:Int)*y.num)≠0:=Int.mul_ne_zero (by omega) hy0
 obtain⟨hx1,hx2⟩:=hx
 obtain⟨hy1,hy2⟩:=hy
 have m0:=zai (a:=x.num) (b:=(y.den:Int)) (by omega) (by omega)
 have m1:=zai (a:=(x.den:Int)) (b:=y.num) (by omega) (by omega)
 go_enter Tryz.func72,Tryz.ntmps72
 go_wp2_with fail
 refine(zF _ (by omega) _).mono ?_
 rw[za0 ⟨hx1,hx2⟩]
 rintro e w1⟨rfl,hq1⟩
 go_wp2_with fail
 refine(zF _ (by omega) _).mono ?_
 rw[za0 ⟨hy1,hy2⟩]
 rintro e w2⟨rfl,hq2⟩
 have hz2:=hq2.size
 rw[World.size_alloc]at hz2
 have hQ2:Q w w2:=hq1.trans ((show Below w1.heap.size w1 _ from bt).trans (hq2.mono (by simp)) |>.mono hq1.size)
 have B1:=(Blk.new w1 [.int .i64 x.num,.int .i64 (x.den:Int)] 126).keep hq2 (by simp)
 have c0:=B1.cell
 have l1:=B1.lt
 go_wp2_with fail
 refine cx (zfQ x y ⟨hx1,hx2⟩ ⟨hy1,hy2⟩ _) fun w3 hq3=>?_
 have hQ3:Q w w3:=hQ2.trans ((show Below w2.heap.size w2 _ from bt).trans (hq3.mono (by simp)) |>.mono hQ2.size)
 go_wp2_with fail
 refine cx (zc0 _ _ hd0 (by omega) (by omega) _ (hE.q hQ3)) fun w4 hq4=>?_
 go_wp2
 go_ret2
 exact⟨by rw[← HR.out];rfl,hQ3.trans (hq4.mono hQ3.size)⟩
theorem zgE(x y:Rat)(hx:zS x)(hy:zS y)(hy0:y.num≠0)(w:World)(hE:Env w) :
  CR 67 #[.string ⟨(ze x).toArray⟩,.string ⟨(ze y).toArray⟩] w (.tuple #[.string ⟨(ze (x / y)).toArray⟩,.int .i64 0]):=by
 have hn:(ze y == [48])=false:=by
  rw[beq_eq_false_iff_ne];intro e;apply hy0
  have:ze y=ze 0:=by rw[e];simp[ze,Lib.itoa,Lib.decDigits]
  rw[zaS this];rfl
 have hn':=zay hn
 go_enter Tryz.func67,Tryz.ntmps67
 go_wp2_with fail
 refine cx (zgA x y hx hy hy0 _ hE) fun w1 hq1=>?_
 go_wp2
 go_ret2
 exact⟨rfl,hq1⟩
end
end Go.Proofs.YthdpnkkddhcacaaGreatDoor
