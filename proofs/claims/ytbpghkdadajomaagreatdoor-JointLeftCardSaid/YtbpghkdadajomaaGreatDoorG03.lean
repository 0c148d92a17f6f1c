/-
  Walks: the package rational.; Walks: rational.nativeOf at a string with a sign.; Walks: the package rational, numbers with short parts.; Walks: rational.digits, cut.; Walks: rational.read, Check, Parts at numbers with short parts; quick.
-/
import Derived.Test.YtbpghkdadajomaaGreatDoorG02
import Derived.Test.YtbpghkdadajomaaGreatDoorG00
set_option maxRecDepth 100000
set_option maxHeartbeats 2000000
namespace Go.Proofs.YtbpghkdadajomaaGreatDoor
section
open Go.RowKit Kp
def zd8(a:Str):Value:=match zcC a with
 | some (n,d)=>.tuple #[.agg #[.int .i64 n,.int .i64 d],.bool true]
 | none=>.tuple #[.agg #[.int .i64 0,.int .i64 0],.bool false]
theorem zds{a:Str}(h:zcC a=none):zd8 a=.tuple #[.agg #[.int .i64 0,.int .i64 0],.bool false]:=by unfold zd8;rw[h]
theorem zeq{a:Str}{n d:Int}(h:zcC a=some (n,d)):zd8 a=.tuple #[.agg #[.int .i64 n,.int .i64 d],.bool true]:=by unfold zd8;rw[h]
theorem zj5(a own : Str)(neg : Bool)(hown : own = zo a)(hneg : neg = decide (a.head? = some 45)) :
    (zd8 a = .tuple #[.agg #[.int .i64 0, .int .i64 0], .bool false] ∧
      (zcb own = false ∨
       (zcb own = true ∧ neg = true ∧ ((zb8 own : Int) == 0) = true) ∨
       (zcb own = true ∧ (neg = false ∨ ((zb8 own : Int) == 0) = false) ∧ (zx own == []) = false ∧ 0 < (zx own).length ∧
          (((((at0 (zx own) 0).toNat : Int) == 47) = false) ∨
           ((((at0 (zx own) 0).toNat : Int) == 47) = true ∧
             (zcb (za3 (zx own) 1) = false ∨
              (zcb (za3 (zx own) 1) = true ∧ (zx (za3 (zx own) 1) == []) = false) ∨
              (zcb (za3 (zx own) 1) = true ∧ zx (za3 (zx own) 1) = [] ∧ zb8 (za3 (zx own) 1) < 2) ∨
              (zcb (za3 (zx own) 1) = true ∧ zx (za3 (zx own) 1) = [] ∧ 2 ≤ zb8 (za3 (zx own) 1) ∧ ((Nat.gcd (zb8 own) (zb8 (za3 (zx own) 1)) : Int) == 1) = false))))))) ∨
    (zcb own = true ∧ (neg = false ∨ ((zb8 own : Int) == 0) = false) ∧
      ((zx own = [] ∧ zd8 a = .tuple #[.agg #[.int .i64 (if neg then -(zb8 own : Int)else zb8 own), .int .i64 1], .bool true]) ∨
       ((zx own == []) = false ∧ 0 < (zx own).length ∧ ((((at0 (zx own) 0).toNat : Int) == 47) = true) ∧ zcb (za3 (zx own) 1) = true ∧ zx (za3 (zx own) 1) = [] ∧ 2 ≤ zb8 (za3 (zx own) 1) ∧
          ((Nat.gcd (zb8 own) (zb8 (za3 (zx own) 1)) : Int) == 1) = true ∧ zd8 a = .tuple #[.agg #[.int .i64 (if neg then -(zb8 own : Int)else zb8 own), .int .i64 (zb8 (za3 (zx own) 1))], .bool true]))) := by
  have h47 : ∀ c : UInt8, ((c.toNat : Int) == 47) = decide (c = 47) := by
    intro c
    by_cases h : c = 47
    · subst h;rfl
    · have : c.toNat ≠ 47 := fun e => h (UInt8.toNat_inj.1 e)
      simp[h];omega
  have e1 : ∀ n : Nat, ((n : Int) == 1) = decide (n = 1) := by intro n;by_cases h : n = 1 <;> simp[h];omega
  have e0 : ∀ n : Nat, ((n : Int) == 0) = decide (n = 0) := by intro n;by_cases h : n = 0 <;> simp[h]
  have hV : ∀ {r}, zcC a = r → zd8 a = (match r with
      | some (n, d) => .tuple #[.agg #[.int .i64 n, .int .i64 d], .bool true]
      | none => .tuple #[.agg #[.int .i64 0, .int .i64 0], .bool false]) := by intro r h;unfold zd8;rw[h]
  have hn2 : (a.head? = some 45) = (neg = true) := by rw[hneg];simp
  unfold zcC at hV
  rw[← hown]at hV
  simp only[hn2]at hV
  simp only[h47, e1, e0]
  cases hA : zcb own with
  | false => exact .inl ⟨hV (r := none) (by rw[if_pos (.inl hA)]), .inl rfl⟩
  | true =>
    by_cases hB : neg = true ∧ zb8 own = 0
    · exact .inl ⟨hV (r := none) (by rw[if_pos (.inr hB)]), .inr (.inl ⟨rfl, hB.1, by simp[hB.2]⟩)⟩
    · have hB' : neg = false ∨ decide (zb8 own = 0) = false := by
        cases neg with
        | false => exact .inl rfl
        | true => exact .inr (by simpa using hB)
      have n1 : ¬ (zcb own = false ∨ (neg = true ∧ zb8 own = 0)) := by rw[hA];simpa using hB
      rw[if_neg n1]at hV
      by_cases hC : zx own = []
      · rw[if_pos hC]at hV
        exact .inr ⟨rfl, hB', .inl ⟨hC, hV rfl⟩⟩
      · rw[if_neg hC]at hV
        have hC1 : (zx own == []) = false := by simpa using hC
        have hC2 : 0 < (zx own).length := List.length_pos_iff.2 hC
        by_cases hD : at0 (zx own) 0 = 47
        · rw[if_neg (fun x => x hD)]at hV
          cases hE : zcb (za3 (zx own) 1)with
          | false => exact .inl ⟨hV (r := none) (by rw[if_pos (.inl hE)]), .inr (.inr ⟨rfl, hB', hC1, hC2, .inr ⟨by simpa using hD, .inl rfl⟩⟩)⟩
          | true =>
            by_cases hF : zx (za3 (zx own) 1) = []
            · by_cases hG : zb8 (za3 (zx own) 1) < 2
              · exact .inl ⟨hV (r := none) (by rw[if_pos (.inr (.inr (.inl hG)))]), .inr (.inr ⟨rfl, hB', hC1, hC2, .inr ⟨by simpa using hD, .inr (.inr (.inl ⟨rfl, hF, hG⟩))⟩⟩)⟩
              · by_cases hH : Nat.gcd (zb8 own) (zb8 (za3 (zx own) 1)) = 1
                · rw [if_neg (by rw [hE]; rintro (x | x | x | x); · cases x
                                 · exact x hF
                                 · exact hG x
                                 · exact x hH)]at hV
                  exact .inr ⟨rfl, hB', .inr ⟨hC1, hC2, by simpa using hD, rfl, hF, by omega, by simpa using hH, hV rfl⟩⟩
                · exact .inl ⟨hV (r := none) (by rw[if_pos (.inr (.inr (.inr hH)))]), .inr (.inr ⟨rfl, hB', hC1, hC2, .inr ⟨by simpa using hD, .inr (.inr (.inr ⟨rfl, hF, by omega, by simpa using hH⟩))⟩⟩)⟩
            · exact .inl ⟨hV (r := none) (by rw[if_pos (.inr (.inl hF))]), .inr (.inr ⟨rfl, hB', hC1, hC2, .inr ⟨by simpa using hD, .inr (.inl ⟨rfl, by simpa using hF⟩)⟩⟩)⟩
        · rw[if_pos hD]at hV
          exact .inl ⟨hV (r := none) rfl, .inr (.inr ⟨rfl, hB', hC1, hC2, .inl (by simpa using hD)⟩)⟩
theorem zsR{c:UInt8}(h:c≠45):((c.toNat:Int) == 45)=false:=by
 have h2:c.toNat≠45:=fun e=>h (UInt8.toNat_inj.1 e)
 simp;omega
theorem zeG(a:Str)(ha:a.length≤1000000000)(hm:a.head?≠some 45)(w:World) :
  Calls Tryz.prog 96 #[.string ⟨a.toArray⟩] w fun e w'=>e=.returned (zd8 a)∧Q w w':=by
 have hne:a≠[]→(a == [])=false∧0<a.length∧((((at0 a 0).toNat:Int) == 45)=false):=by
  intro h
  refine⟨by simpa using h,List.length_pos_iff.2 h,zsR (fun e=>hm ?_)⟩
  rw[zdf h,e]
 have hl1:=ziZ a
 have hl2:=zgZ (zx a) 1
 have hb1:=zk6 a
 have hb2:=zk6 (za3 (zx a) 1)
 rcases zj5 a a false (zcA hm).symm (by simp[hm])with⟨HV,hw | ⟨_,h,_⟩|⟨hw,_,hr,hr2,hx⟩⟩|⟨hw,_,hx⟩
 ·have HW:=LH HV
  clear HV
  by_cases hn:a=[]
  ·subst hn
   clear hne hm
   go_enter Tryz.func96,Tryz.ntmps96
   go_wp2_with (go_at_call 155;refine(zaq [] _ (by decide)).mono ?_;rintro e w1 ⟨rfl,n1,rfl⟩)
   exact bodyPost_ret (v:=.tuple #[.agg #[.int .i64 0,.int .i64 0],.bool false]) (by simp[results,Tryz.results96,go_sem]) rfl ⟨by rw[HW.out],bt⟩
  ·obtain⟨h,h2,h3⟩:=hne hn
   clear hne hn hm
   go_enter Tryz.func96,Tryz.ntmps96
   go_wp2_with (go_at_call 155;refine(zaq _ _ (by omega)).mono ?_;rintro e w1 ⟨rfl,n1,rfl⟩)
   exact bodyPost_ret (v:=.tuple #[.agg #[.int .i64 0,.int .i64 0],.bool false]) (by simp[results,Tryz.results96,go_sem]) rfl ⟨by rw[HW.out],bt⟩
 ·cases h
 ·have HW:=LH HV
  obtain⟨h,h2,h3⟩:=hne (znv hw)
  clear HV hne hm
  have h':=zaD h
  have hr':=zaD hr
  rcases hx with hx | ⟨hx,hy | ⟨hy,hz⟩|⟨hy,hz,hu⟩|⟨hy,hz,hu,hv⟩⟩
  all_goals
   first | have hx':=zaD hx | have hx':=zbT hx
   first | have hz':=zaD hz | skip
   first | have hv':=zaD hv | skip
   go_enter Tryz.func96,Tryz.ntmps96
   go_wp2_with (first | (go_at_call 155;refine(zaq _ _ (by omega)).mono ?_;rintro e w1 ⟨rfl,n1,rfl⟩)|(go_at_call 156;refine(zcf _ _ _ (by omega) (by omega)).mono ?_;rintro e w1 ⟨rfl,n1,rfl⟩))
   exact bodyPost_ret (v:=.tuple #[.agg #[.int .i64 0,.int .i64 0],.bool false]) (by simp[results,Tryz.results96,go_sem]) rfl ⟨by rw[HW.out],bt⟩
 ·obtain⟨h,h2,h3⟩:=hne (znv hw)
  clear hne hm
  have h':=zaD h
  rcases hx with⟨hx,HV⟩|⟨hr,hr2,hx,hy,hz,hu,hv,HV⟩
  all_goals
   first | (have hx':=zbT hx;have hv':=zbT hv;have hr':=zaD hr) | skip
   have HW:=LH HV
   clear HV
   go_enter Tryz.func96,Tryz.ntmps96
   go_wp2_with (first | (go_at_call 155;refine(zaq _ _ (by omega)).mono ?_;rintro e w1 ⟨rfl,n1,rfl⟩)|(go_at_call 156;refine(zcf _ _ _ (by omega) (by omega)).mono ?_;rintro e w1 ⟨rfl,n1,rfl⟩))
   first
    | exact bodyPost_ret (v:=.tuple #[.agg #[.int .i64 (zb8 a),.int .i64 1],.bool true]) (by simp[results,Tryz.results96,go_sem]) rfl ⟨by rw[HW.out];rfl,bt⟩
    | exact bodyPost_ret (v:=.tuple #[.agg #[.int .i64 (zb8 a),.int .i64 (zb8 (za3 (zx a) 1))],.bool true]) (by simp[results,Tryz.results96,go_sem]) rfl ⟨by rw[HW.out];rfl,bt⟩
end
section
open Go.RowKit Kp
theorem zeo(a:Str)(ha:a.length≤1000000000)(hm:a.head? = some 45)(w:World) :
  Calls Tryz.prog 96 #[.string ⟨a.toArray⟩] w fun e w'=>e=.returned (zd8 a)∧Q w w':=by
 have hne:a≠[]:=by intro e;rw[e]at hm;cases hm
 have h:(a == [])=false:=by simpa using hne
 have h':=zaD h
 have h2:0<a.length:=List.length_pos_iff.2 hne
 have h3:((((at0 a 0).toNat:Int) == 45)=true):=by
  rw[zdf hne]at hm;rw[Option.some.inj hm];rfl
 have hown:za3 a 1=zo a:=by rw[zg9 hm];rfl
 have hlo:=zgZ a 1
 have hl1:=ziZ (za3 a 1)
 have hl2:=zgZ (zx (za3 a 1)) 1
 have hb1:=zk6 (za3 a 1)
 have hb2:=zk6 (za3 (zx (za3 a 1)) 1)
 have hlt:(za3 a 1).length<a.length:=by omega
 rcases zj5 a (za3 a 1) true hown (by simp[hm])with⟨HV,hw | ⟨hw,_,hz⟩|⟨hw,hn,hr,hr2,hx⟩⟩|⟨hw,hn,hx⟩
 ·have HW:=LH HV
  clear HV hne hm hown
  go_enter Tryz.func96,Tryz.ntmps96
  go_wp2_with (go_at_call 155;refine(zaq _ _ (by omega)).mono ?_;rintro e w1 ⟨rfl,n1,rfl⟩)
  exact bodyPost_ret (v:=.tuple #[.agg #[.int .i64 0,.int .i64 0],.bool false]) (by simp[results,Tryz.results96,go_sem]) rfl ⟨by rw[HW.out],bt⟩
 ·have HW:=LH HV
  clear HV hne hm hown
  go_enter Tryz.func96,Tryz.ntmps96
  go_wp2_with (go_at_call 155;refine(zaq _ _ (by omega)).mono ?_;rintro e w1 ⟨rfl,n1,rfl⟩)
  exact bodyPost_ret (v:=.tuple #[.agg #[.int .i64 0,.int .i64 0],.bool false]) (by simp[results,Tryz.results96,go_sem]) rfl ⟨by rw[HW.out],bt⟩
 ·have HW:=LH HV
  have hn:((zb8 (za3 a 1):Int) == 0)=false:=hn.elim (fun e=>by cases e) id
  clear HV hne hm hown
  have hr':=zaD hr
  rcases hx with hx | ⟨hx,hy | ⟨hy,hz⟩|⟨hy,hz,hu⟩|⟨hy,hz,hu,hv⟩⟩
  all_goals
   first | have hx':=zaD hx | have hx':=zbT hx
   first | have hz':=zaD hz | skip
   first | have hv':=zaD hv | skip
   go_enter Tryz.func96,Tryz.ntmps96
   go_wp2_with (first | (go_at_call 155;refine(zaq _ _ (by omega)).mono ?_;rintro e w1 ⟨rfl,n1,rfl⟩)|(go_at_call 156;refine(zcf _ _ _ (by omega) (by omega)).mono ?_;rintro e w1 ⟨rfl,n1,rfl⟩))
   exact bodyPost_ret (v:=.tuple #[.agg #[.int .i64 0,.int .i64 0],.bool false]) (by simp[results,Tryz.results96,go_sem]) rfl ⟨by rw[HW.out],bt⟩
 ·have hn:((zb8 (za3 a 1):Int) == 0)=false:=hn.elim (fun e=>by cases e) id
  clear hne hm hown
  rcases hx with⟨hx,HV⟩|⟨hr,hr2,hx,hy,hz,hu,hv,HV⟩
  all_goals
   first | (have hx':=zbT hx;have hv':=zbT hv;have hr':=zaD hr) | skip
   have HW:=LH HV
   clear HV
   go_enter Tryz.func96,Tryz.ntmps96
   go_wp2_with (first | (go_at_call 155;refine(zaq _ _ (by omega)).mono ?_;rintro e w1 ⟨rfl,n1,rfl⟩)|(go_at_call 156;refine(zcf _ _ _ (by omega) (by omega)).mono ?_;rintro e w1 ⟨rfl,n1,rfl⟩))
   first
    | exact bodyPost_ret (v:=.tuple #[.agg #[.int .i64 (-(zb8 (za3 a 1):Int)),.int .i64 1],.bool true]) (by simp[results,Tryz.results96,go_sem]) rfl ⟨by rw[HW.out];rfl,bt⟩
    | exact bodyPost_ret (v:=.tuple #[.agg #[.int .i64 (-(zb8 (za3 a 1):Int)),.int .i64 (zb8 (za3 (zx (za3 a 1)) 1))],.bool true]) (by simp[results,Tryz.results96,go_sem]) rfl ⟨by rw[HW.out];rfl,bt⟩
theorem zB(a:Str)(ha:a.length≤1000000000)(w:World) :
  Calls Tryz.prog 96 #[.string ⟨a.toArray⟩] w fun e w'=>e=.returned (zd8 a)∧Q w w':=by
 by_cases hm:a.head? = some 45
 ·exact zeo a ha hm w
 ·exact zeG a ha hm w
end
section
open Go.RowKit Kp
theorem zhu(n:Int)(k:Nat)(hk:0<k)(hn:n.natAbs≤100000000000000000)(hd1:k≤100000000000000000)(w:World)(hE:Env w) :
  Calls Tryz.prog 97 #[.agg #[.int .i64 n,.int .i64 k]] w fun e w'=>e=.returned (.string ⟨(ze (Rat.divInt n k)).toArray⟩)∧Q w w':=by
 have hmx:=zpv n
 have hg1:0<Nat.gcd n.natAbs k:=Nat.gcd_pos_of_pos_right _ (by omega)
 obtain⟨b1,b2⟩:=zfO n (Nat.gcd n.natAbs k) (B:=100000000000000000) (by omega)
 have b3:0≤(k:Int) / (Nat.gcd n.natAbs k:Int):=Int.ediv_nonneg (by omega) (by omega)
 have b4:(k:Int) / (Nat.gcd n.natAbs k:Int)≤100000000000000000:=Int.le_trans (Int.ediv_le_self _ (by omega)) (by omega)
 have HR:=LH (zfQ n k hk)
 generalize ze (Rat.divInt n k)=r at *
 have HG:=LH (zcf n.natAbs k)
 generalize hgg:Nat.gcd n.natAbs k=g at *
 clear hgg
 have hg3:((g:Int) == 0)=false:=by simp;omega
 have l1:=zab (n.tdiv g) (zb3 (by omega))
 have l2:=zab ((k:Int) / (g:Int)) (zb3 (by omega))
 by_cases h1:(k:Int) / (g:Int)=1
 ·have hb:((k:Int) / (g:Int) == 1)=true:=by simpa using h1
  have H1:=LH h1
  clear h1
  go_enter Tryz.func97,Tryz.ntmps97
  go_wp2_with (go_at_call 156;refine(HG.out _ (by omega) (by omega)).mono ?_;rintro e w1 ⟨rfl,n1,rfl⟩)
  go_quiet (fail)
  go_wp2_with fail
  refine(zat _ (by omega) (by omega) _ (hE.q bt)).mono ?_
  rintro e w3⟨rfl,hq3⟩
  go_wp2
  go_ret
  exact⟨by rw[HR.out,if_pos H1.out];rfl,(show Below w.heap.size w _ from bt).trans (hq3.mono (by simp))⟩
 ·have hb:((k:Int) / (g:Int) == 1)=false:=by simpa using h1
  have H1:=LH h1
  clear h1
  go_enter Tryz.func97,Tryz.ntmps97
  go_wp2_with (go_at_call 156;refine(HG.out _ (by omega) (by omega)).mono ?_;rintro e w1 ⟨rfl,n1,rfl⟩)
  go_quiet (fail)
  go_wp2_with fail
  refine(zat _ (by omega) (by omega) _ (hE.q bt)).mono ?_
  rintro e w3⟨rfl,hq3⟩
  have hQ3:Q w w3:=(show Below w.heap.size w _ from bt).trans (hq3.mono (by simp))
  go_wp2_with fail
  refine(zat _ (by omega) (by omega) _ (hE.q hQ3)).mono ?_
  rintro e w4⟨rfl,hq4⟩
  go_wp2
  go_ret
  exact⟨by rw[HR.out,if_neg H1.out];first | rfl | (simp;done),hQ3.trans (hq4.mono hQ3.size)⟩
theorem zhv(n:Int)(k:Nat)(hk:0<k)(hn:n.natAbs≤100000000000000000)(hd1:k≤100000000000000000)(w:World)(hE:Env w) :
  Calls Tryz.prog 97 #[.agg #[.int .i64 n,.int .i64 (-(k:Int))]] w fun e w'=>e=.returned (.string ⟨(ze (Rat.divInt n (-(k:Int)))).toArray⟩)∧Q w w':=by
 have e0:Rat.divInt n (-(k:Int))=Rat.divInt (-n) k:=by rw[Rat.divInt_neg']
 rw[e0]
 have hmx:max (-n) n=n.natAbs:=by omega
 have hg1:0<Nat.gcd n.natAbs k:=Nat.gcd_pos_of_pos_right _ (by omega)
 obtain⟨b1,b2⟩:=zfO n (Nat.gcd n.natAbs k) (B:=100000000000000000) (by omega)
 have b3:0≤(k:Int) / (Nat.gcd n.natAbs k:Int):=Int.ediv_nonneg (by omega) (by omega)
 have b4:(k:Int) / (Nat.gcd n.natAbs k:Int)≤100000000000000000:=Int.le_trans (Int.ediv_le_self _ (by omega)) (by omega)
 have hr:=zfQ (-n) k hk
 rw[Int.natAbs_neg,Int.neg_tdiv]at hr
 have HR:=LH hr
 clear hr
 generalize ze (Rat.divInt (-n) k)=r at *
 have HG:=LH (zcf n.natAbs k)
 generalize hgg:Nat.gcd n.natAbs k=g at *
 clear hgg e0
 have hg3:((g:Int) == 0)=false:=by simp;omega
 have l1:=zab (-(n.tdiv g)) (zb3 (by omega))
 have l2:=zab ((k:Int) / (g:Int)) (zb3 (by omega))
 by_cases h1:(k:Int) / (g:Int)=1
 ·have hb:((k:Int) / (g:Int) == 1)=true:=by simpa using h1
  have H1:=LH h1
  clear h1
  go_enter Tryz.func97,Tryz.ntmps97
  go_wp2_with (go_at_call 156;go_loud (refine(HG.out _ (by omega) (by omega)).mono ?_);rintro e w1 ⟨rfl,n1,rfl⟩)
  go_quiet (fail)
  go_wp2_with fail
  refine(zat _ (by omega) (by omega) _ (hE.q bt)).mono ?_
  rintro e w3⟨rfl,hq3⟩
  go_wp2
  go_ret
  exact⟨by rw[HR.out,if_pos H1.out];rfl,(show Below w.heap.size w _ from bt).trans (hq3.mono (by simp))⟩
 ·have hb:((k:Int) / (g:Int) == 1)=false:=by simpa using h1
  have H1:=LH h1
  clear h1
  go_enter Tryz.func97,Tryz.ntmps97
  go_wp2_with (go_at_call 156;go_loud (refine(HG.out _ (by omega) (by omega)).mono ?_);rintro e w1 ⟨rfl,n1,rfl⟩)
  go_quiet (fail)
  go_wp2_with fail
  refine(zat _ (by omega) (by omega) _ (hE.q bt)).mono ?_
  rintro e w3⟨rfl,hq3⟩
  have hQ3:Q w w3:=(show Below w.heap.size w _ from bt).trans (hq3.mono (by simp))
  go_wp2_with fail
  refine(zat _ (by omega) (by omega) _ (hE.q hQ3)).mono ?_
  rintro e w4⟨rfl,hq4⟩
  go_wp2
  go_ret
  exact⟨by rw[HR.out,if_neg H1.out];first | rfl | (simp;done),hQ3.trans (hq4.mono hQ3.size)⟩
end
section
open Go.RowKit Kp
theorem zl8{a b:Nat}(h:a<b):decide ((a:Int)<b)=true:=by simp;omega
theorem zl9{a b:Nat}(h:¬ a<b):decide ((a:Int)<b)=false:=by simp;omega
theorem zkh{a:Nat}(h:a=0):((a:Int) == 0)=true:=by simp[h]
theorem zki{a:Nat}(h:a≠0):((a:Int) == 0)=false:=by simp[h]
theorem ziP(s:Str)(hl:s.length≤1000000000)(w:World) :
  Calls Tryz.prog 219 #[.string ⟨s.toArray⟩] w fun e w'=>e=.returned (.int .i64 (zdA s))∧w=w':=by
 go_enter Tryz.func219,Tryz.ntmps219
 go_wp2
 go_loop [3] (fun i=>∃ k:Nat,k≤s.length∧i=.int .i64 k∧zaQ (s.take k)) (fun i=>s.length - (intOf i).toNat)
 case atStart=>exact⟨0,by omega,rfl,by simp[zaQ]⟩
 case round =>
  obtain⟨k,hk,rfl,had⟩:=hrel
  have HD:=LH had;clear had
  by_cases h1:k<s.length
  ·cases hd:zaH (at0 s k)with
   | true =>
    have hd':=(zee _).1 hd
    have HN:=LH (HD.out.snoc h1 hd)
    clear hd
    go_wp2
    go_round
    case rel=>exact⟨k+1,by omega,by go_num,HN.out⟩
    case measure=>simp[intOf];omega
   | false =>
    have HT:=LH (zeA HD.out hk (.inr hd))
    have hd':=(zfb _).1 hd
    clear hd
    by_cases hz:1<k∧at0 s 0=48
    ·have hz1:=hz.1
     have hz2:((((at0 s 0).toNat:Int)) == 48)=true:=by rw[hz.2];rfl
     have HR:Hid (zdA s=0):=LH (by unfold zdA;rw[HT.out,if_pos hz])
     clear hz
     rcases hd' with hd' | hd'
     all_goals
      go_wp2
      go_ret
      exact⟨zcm (by rw[HR.out];all_goals rfl),rfl⟩
    ·have HR:Hid (zdA s=k):=LH (by unfold zdA;rw[HT.out,if_neg hz])
     have hz':k≤1∨(1<k∧((((at0 s 0).toNat:Int)) == 48)=false):=by
      by_cases a:k≤1
      ·exact .inl a
      ·exact .inr ⟨by omega,zrW (fun e=>hz ⟨by omega,e⟩)⟩
     clear hz
     rcases hd' with hd' | hd' <;> rcases hz' with hz' | ⟨hz',hz2⟩
     all_goals
      go_wp2
      go_ret
      exact⟨zcm (by rw[HR.out];all_goals rfl),rfl⟩
  ·have HT:=LH (zeA HD.out hk (.inl (by omega)))
   by_cases hz:1<k∧at0 s 0=48
   ·have hz1:=hz.1
    have hz2:((((at0 s 0).toNat:Int)) == 48)=true:=by rw[hz.2];rfl
    have HR:Hid (zdA s=0):=LH (by unfold zdA;rw[HT.out,if_pos hz])
    clear hz
    go_wp2
    go_ret
    exact⟨zcm (by rw[HR.out];all_goals rfl),rfl⟩
   ·have HR:Hid (zdA s=k):=LH (by unfold zdA;rw[HT.out,if_neg hz])
    have hz':k≤1∨(1<k∧((((at0 s 0).toNat:Int)) == 48)=false):=by
     by_cases a:k≤1
     ·exact .inl a
     ·exact .inr ⟨by omega,zrW (fun e=>hz ⟨by omega,e⟩)⟩
    clear hz
    rcases hz' with hz' | ⟨hz',hz2⟩
    all_goals
     go_wp2
     go_ret
     exact⟨zcm (by rw[HR.out];all_goals rfl),rfl⟩
def cutV(a:Str):Value:=if zmN a then .tuple #[.agg #[.string ⟨#[]⟩,.string ⟨#[]⟩],.bool false]else .tuple #[.agg #[.string ⟨(zu a).toArray⟩,.string ⟨(zay a).toArray⟩],.bool true]
theorem zqV(a : Str) :
    (cutV a = .tuple #[.agg #[.string ⟨#[]⟩, .string ⟨#[]⟩], .bool false] ∧
      (zdA (zo (zu a)) = 0 ∨
       (zdA (zo (zu a)) ≠ 0 ∧ zdA (zo (zu a)) < (zo (zu a)).length) ∨
       (zdA (zo (zu a)) ≠ 0 ∧ ¬ zdA (zo (zu a)) < (zo (zu a)).length ∧
         ((decide ((zu a).head? = some 45) = true ∧ (zo (zu a) == [48]) = true) ∨
          ((decide ((zu a).head? = some 45) = false ∨ (zo (zu a) == [48]) = false) ∧ zac a = true ∧
            (zdA (zbW a) = 0 ∨ (zdA (zbW a) ≠ 0 ∧ zdA (zbW a) < (zbW a).length) ∨
             (zdA (zbW a) ≠ 0 ∧ ¬ zdA (zbW a) < (zbW a).length ∧ ((zbW a == [48]) = true ∨ ((zbW a == [48]) = false ∧ (zbW a == [49]) = true))))))))) ∨
    (zdA (zo (zu a)) ≠ 0 ∧ ¬ zdA (zo (zu a)) < (zo (zu a)).length ∧ (decide ((zu a).head? = some 45) = false ∨ (zo (zu a) == [48]) = false) ∧
      ((zac a = false ∧ cutV a = .tuple #[.agg #[.string ⟨(zu a).toArray⟩, .string ⟨#[49]⟩], .bool true]) ∨
       (zac a = true ∧ zdA (zbW a) ≠ 0 ∧ ¬ zdA (zbW a) < (zbW a).length ∧ (zbW a == [48]) = false ∧ (zbW a == [49]) = false ∧
         cutV a = .tuple #[.agg #[.string ⟨(zu a).toArray⟩, .string ⟨(zbW a).toArray⟩], .bool true]))) := by
  have hbad : zmN a → cutV a = .tuple #[.agg #[.string ⟨#[]⟩, .string ⟨#[]⟩], .bool false] := fun h => by unfold cutV;rw[if_pos h]
  have hgood : ¬ zmN a → cutV a = .tuple #[.agg #[.string ⟨(zu a).toArray⟩, .string ⟨(zay a).toArray⟩], .bool true] := fun h => by unfold cutV;rw[if_neg h]
  rw[zqj]at hbad hgood
  by_cases h0 : zdA (zo (zu a)) = 0
  · exact .inl ⟨hbad (.inl (.inl h0)), .inl h0⟩
  · by_cases h1 : zdA (zo (zu a)) < (zo (zu a)).length
    · exact .inl ⟨hbad (.inl (.inr (.inl h1))), .inr (.inl ⟨h0, h1⟩)⟩
    · by_cases h2 : (zu a).head? = some 45 ∧ zo (zu a) = [48]
      · exact .inl ⟨hbad (.inl (.inr (.inr h2))), .inr (.inr ⟨h0, h1, .inl ⟨by simpa using h2.1, by simpa using h2.2⟩⟩)⟩
      · have h2' : decide ((zu a).head? = some 45) = false ∨ (zo (zu a) == [48]) = false := by
          by_cases hm : (zu a).head? = some 45
          · exact .inr (by simpa using fun e => h2 ⟨hm, e⟩)
          · exact .inl (by simpa using hm)
        have hfirst : ¬ (zdA (zo (zu a)) = 0 ∨ zdA (zo (zu a)) < (zo (zu a)).length ∨ ((zu a).head? = some 45 ∧ zo (zu a) = [48])) := by
          rintro(x | x | x)
          · exact h0 x
          · exact h1 x
          · exact h2 x
        cases hs : zac a with
        | false =>
          refine .inr ⟨h0, h1, h2', .inl ⟨rfl, ?_⟩⟩
          have := hgood (by rintro (x | ⟨x, _⟩); · exact hfirst x
                            · rw[hs]at x;cases x)
          rw[this];unfold zay;rw[hs];rfl
        | true =>
          have ed : zbW a = zaj a := by unfold zbW;rw[hs];rfl
          have es : zay a = zaj a := by unfold zay;rw[hs];rfl
          rw[ed]
          by_cases d0 : zdA (zaj a) = 0
          · exact .inl ⟨hbad (.inr ⟨hs, .inl d0⟩), .inr (.inr ⟨h0, h1, .inr ⟨h2', rfl, .inl d0⟩⟩)⟩
          · by_cases d1 : zdA (zaj a) < (zaj a).length
            · exact .inl ⟨hbad (.inr ⟨hs, .inr (.inl d1)⟩), .inr (.inr ⟨h0, h1, .inr ⟨h2', rfl, .inr (.inl ⟨d0, d1⟩)⟩⟩)⟩
            · by_cases d2 : zaj a = [48]
              · exact .inl ⟨hbad (.inr ⟨hs, .inr (.inr (.inl d2))⟩), .inr (.inr ⟨h0, h1, .inr ⟨h2', rfl, .inr (.inr ⟨d0, d1, .inl (by simpa using d2)⟩)⟩⟩)⟩
              · by_cases d3 : zaj a = [49]
                · exact .inl ⟨hbad (.inr ⟨hs, .inr (.inr (.inr d3))⟩), .inr (.inr ⟨h0, h1, .inr ⟨h2', rfl, .inr (.inr ⟨d0, d1, .inr ⟨by simpa using d2, by simpa using d3⟩⟩)⟩⟩)⟩
                · refine .inr ⟨h0, h1, h2', .inr ⟨rfl, d0, d1, by simpa using d2, by simpa using d3, ?_⟩⟩
                  have := hgood (by rintro (x | ⟨_, x | x | x | x⟩); · exact hfirst x
                                    · exact d0 x
                                    · exact d1 x
                                    · exact d2 x
                                    · exact d3 x)
                  rw[this, es]
theorem zoG(a:Str):(zbW a).length≤a.length:=by
 unfold zbW;split
 ·exact zgb a
 ·simp
theorem zhT(a : Str)(hl : a.length ≤ 1000000000)(w : World)(hE : Env w) :
    Calls Tryz.prog 154 #[.string ⟨a.toArray⟩] w fun e w' => e = .returned (cutV a) ∧ Q w w' := by
  have l1 := zfZ a
  have l2 := zoG a
  have l3 := ziA (zu a)
  rcases zqV a with⟨HV, h | ⟨h, h1⟩|⟨h, h1, ⟨h2, h3⟩|⟨h2 | h2, h3, h4 | ⟨h4, h5⟩|⟨h4, h5, h6 | ⟨h6, h7⟩⟩⟩⟩⟩|⟨h, h1, h2 | h2, ⟨h3, HV⟩|⟨h3, h4, h5, h6, h7, HV⟩⟩
  all_goals
    have HW := LH HV
    clear HV
    first | have g0 := zkh h | have g0 := zki h
    first | have g1 := zl8 h1 | have g1 := zl9 h1 | skip
    first | have g2 := zkh h4 | have g2 := zki h4 | skip
    first | have g3 := zl8 h5 | have g3 := zl9 h5 | skip
    clear h
    go_enter Tryz.func154, Tryz.ntmps154
    go_wp2_with (first | (go_at_call 218;refine(zmb a (by omega) _ (hE.q bt)).mono ?_;rintro e w1 ⟨rfl, n1, rfl⟩)|(go_at_call 144;refine(zdJ _ _).mono ?_;rintro e w1 ⟨rfl, rfl⟩)|(go_at_call 219;refine(ziP _ (by omega) _).mono ?_;rintro e w1 ⟨rfl, rfl⟩))
  all_goals
    first
    | (refine bodyPost_ret (v := .tuple #[.agg #[.string ⟨#[]⟩, .string ⟨#[]⟩], .bool false]) ?_ rfl ?_
       · simp[results, Tryz.results154, go_sem]
       · exact⟨by rw[HW.out], bt⟩)
    | (refine bodyPost_ret (v := .tuple #[.agg #[.string ⟨(zu a).toArray⟩, .string ⟨#[49]⟩], .bool true]) ?_ rfl ?_
       · simp[results, Tryz.results154, go_sem]
       · exact⟨by rw[HW.out], bt⟩)
    | (refine bodyPost_ret (v := .tuple #[.agg #[.string ⟨(zu a).toArray⟩, .string ⟨(zbW a).toArray⟩], .bool true]) ?_ rfl ?_
       · simp[results, Tryz.results154, go_sem]
       · exact⟨by rw[HW.out], bt⟩)
end
section
open Go.RowKit Kp
theorem zdE(tmps:Array Value)(W:World)(b:Nat)(x y u:Value)(hp:tmps.getD 2 undef=.pointer (some ⟨b,0,none⟩))(hu:tmps.getD 3 undef=u)
  (c0:W.cell? ⟨b,0,none⟩=some x)(c1:W.cell? ⟨b,1,none⟩=some y) :
  (results Tryz.f95 tmps).run Tryz.prog W=.ok (.tuple #[.agg #[x,y],u]) W:=by
 simp only[Array.getD_eq_getD_getElem?]at hp hu
 simp[results,Tryz.results95,go_sem,hp,hu,c0,c1]
theorem zpZ(q:Rat):cutV (ze q)=.tuple #[.agg #[.string ⟨(Lib.itoa q.num).toArray⟩,.string ⟨(Lib.itoa (q.den:Int)).toArray⟩],.bool true]:=by
 unfold cutV;rw[if_neg (zlO q),zcg,zdx]
theorem zaM{q:Rat}(h:zF q):zd8 (ze q)=.tuple #[.agg #[.int .i64 q.num,.int .i64 (q.den:Int)],.bool true]:=zeq (zm1 h)
theorem zcl{q:Rat}(h:zF q):(ze q).length≤1000:=by
 have h1:=zab q.num (zb3 (by have:=h.1;omega))
 have h2:=zab (q.den:Int) (zb3 (by have:=h.2;omega))
 unfold ze;split
 ·omega
 ·rw[zR,List.length_append,List.length_cons];omega
theorem zdp(q:Rat)(h:zF q)(w:World)(hE:Env w) :
  Calls Tryz.prog 95 #[.string ⟨(ze q).toArray⟩] w fun e w'=>e=.returned (.tuple #[.agg #[.string ⟨(Lib.itoa q.num).toArray⟩,.string ⟨(Lib.itoa (q.den:Int)).toArray⟩],.int .i64 0])∧Q w w':=by
 have hl:=zcl h
 go_enter Tryz.func95,Tryz.ntmps95
 go_wp2_with fail
 refine(zhT _ (by omega) _ (hE.q bt)).mono ?_
 rw[zpZ]
 rintro e w1⟨rfl,hq1⟩
 have hz1:=hq1.size
 rw[World.size_alloc]at hz1
 have hQ1:Q w w1:=(show Below w.heap.size w _ from bt).trans (hq1.mono (by simp))
 have B1:=(Blk.new w [.string ⟨#[]⟩,.string ⟨#[]⟩] 110).keep hq1 (by simp)
 go_wp2_with fail
 refine(zB _ (by omega) _).mono ?_
 rw[zaM h]
 rintro e w2⟨rfl,hq2⟩
 have hz2:=hq2.size
 rw[World.size_alloc]at hz2
 have hQ2:Q w w2:=hQ1.trans ((show Below w1.heap.size w1 _ from bt).trans (hq2.mono (by simp)) |>.mono hQ1.size)
 have B2:=(Blk.new w1 [.string ⟨(Lib.itoa q.num).toArray⟩,.string ⟨(Lib.itoa (q.den:Int)).toArray⟩] 110).keep hq2 (by simp)
 have B1':=(B1.keep (Below.refl (w1.heap.size) w1 |>.alloc (Nat.le_refl _) (.cells #[.string ⟨(Lib.itoa q.num).toArray⟩,.string ⟨(Lib.itoa (q.den:Int)).toArray⟩] 110)) (by omega)).keep hq2 (by simp;omega)
 have c0:=B1'.cell 0
 have c1:=B1'.cell 1
 have f0:=B1'.frozen 0
 have f1:=B1'.frozen 1
 have d0:=B2.cell 0
 have d1:=B2.cell 1
 have l1:=B1'.lt
 have l2:=B2.lt
 simp only[zs4,zs5]at c0 c1 d0 d1
 go_wp2_with fail
 refine bodyPost_ret (v:=.tuple #[.agg #[.string ⟨(Lib.itoa q.num).toArray⟩,.string ⟨(Lib.itoa (q.den:Int)).toArray⟩],.int .i64 0])
  (zdE _ _ w.heap.size _ _ _ rfl rfl ((((B1'.set 0 _).set 1 _).alloc _).cell 0) ((((B1'.set 0 _).set 1 _).alloc _).cell 1)) rfl ⟨rfl,?_⟩
 exact((hQ2.setCell (p:=⟨w.heap.size,0,none⟩) (Nat.le_refl _) _).setCell (p:=⟨w.heap.size,1,none⟩) (Nat.le_refl _) _).alloc (by simp;omega) _
end
end Go.Proofs.YtbpghkdadajomaaGreatDoor
