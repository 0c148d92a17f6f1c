/-
  Walks: the package rational.; Walks: rational.nativeOf at a string with a sign.; Walks: the package rational, numbers with short parts.; Walks: rational.digits, cut.; Walks: rational.read, Check, Parts at numbers with short parts; quick.; Walks: sum, difference, product and quotient of numbers with short parts. (Printed by mkquick.py.)
-/
import Derived.Test.YtdecodpgdainiaaGreatDoorH02
import Derived.Test.YtdecodpgdainiaaGreatDoorH00
set_option maxRecDepth 100000
set_option maxHeartbeats 2000000
namespace Go.Proofs.YtdecodpgdainiaaGreatDoor
section
open Go.RowKit Kp
def zea(a:Str):Value:=match zcy a with
 | some (n,d)=>.tuple #[.agg #[.int .i64 n,.int .i64 d],.bool true]
 | none=>.tuple #[.agg #[.int .i64 0,.int .i64 0],.bool false]
theorem zdo{a:Str}(h:zcy a=none):zea a=.tuple #[.agg #[.int .i64 0,.int .i64 0],.bool false]:=by unfold zea;rw[h]
theorem zes{a:Str}{n d:Int}(h:zcy a=some (n,d)):zea a=.tuple #[.agg #[.int .i64 n,.int .i64 d],.bool true]:=by unfold zea;rw[h]
theorem zkt(a own : Str)(neg : Bool)(hown : own = zo a)(hneg : neg = decide (a.head? = some 45)) :
    (zea a = .tuple #[.agg #[.int .i64 0, .int .i64 0], .bool false] ∧
      (zb7 own = false ∨
       (zb7 own = true ∧ neg = true ∧ ((zb3 own : Int) == 0) = true) ∨
       (zb7 own = true ∧ (neg = false ∨ ((zb3 own : Int) == 0) = false) ∧ (zx own == []) = false ∧ 0 < (zx own).length ∧
          (((((at0 (zx own) 0).toNat : Int) == 47) = false) ∨
           ((((at0 (zx own) 0).toNat : Int) == 47) = true ∧
             (zb7 (za4 (zx own) 1) = false ∨
              (zb7 (za4 (zx own) 1) = true ∧ (zx (za4 (zx own) 1) == []) = false) ∨
              (zb7 (za4 (zx own) 1) = true ∧ zx (za4 (zx own) 1) = [] ∧ zb3 (za4 (zx own) 1) < 2) ∨
              (zb7 (za4 (zx own) 1) = true ∧ zx (za4 (zx own) 1) = [] ∧ 2 ≤ zb3 (za4 (zx own) 1) ∧ ((Nat.gcd (zb3 own) (zb3 (za4 (zx own) 1)) : Int) == 1) = false))))))) ∨
    (zb7 own = true ∧ (neg = false ∨ ((zb3 own : Int) == 0) = false) ∧
      ((zx own = [] ∧ zea a = .tuple #[.agg #[.int .i64 (if neg then -(zb3 own : Int)else zb3 own), .int .i64 1], .bool true]) ∨
       ((zx own == []) = false ∧ 0 < (zx own).length ∧ ((((at0 (zx own) 0).toNat : Int) == 47) = true) ∧ zb7 (za4 (zx own) 1) = true ∧ zx (za4 (zx own) 1) = [] ∧ 2 ≤ zb3 (za4 (zx own) 1) ∧
          ((Nat.gcd (zb3 own) (zb3 (za4 (zx own) 1)) : Int) == 1) = true ∧ zea a = .tuple #[.agg #[.int .i64 (if neg then -(zb3 own : Int)else zb3 own), .int .i64 (zb3 (za4 (zx own) 1))], .bool true]))) := by
  have h47 : ∀ c : UInt8, ((c.toNat : Int) == 47) = decide (c = 47) := by
    intro c
    by_cases h : c = 47
    · subst h;rfl
    · have : c.toNat ≠ 47 := fun e => h (UInt8.toNat_inj.1 e)
      simp[h];omega
  have e1 : ∀ n : Nat, ((n : Int) == 1) = decide (n = 1) := by intro n;by_cases h : n = 1 <;> simp[h];omega
  have e0 : ∀ n : Nat, ((n : Int) == 0) = decide (n = 0) := by intro n;by_cases h : n = 0 <;> simp[h]
  have hV : ∀ {r}, zcy a = r → zea a = (match r with
      | some (n, d) => .tuple #[.agg #[.int .i64 n, .int .i64 d], .bool true]
      | none => .tuple #[.agg #[.int .i64 0, .int .i64 0], .bool false]) := by intro r h;unfold zea;rw[h]
  have hn2 : (a.head? = some 45) = (neg = true) := by rw[hneg];simp
  unfold zcy at hV
  rw[← hown]at hV
  simp only[hn2]at hV
  simp only[h47, e1, e0]
  cases hA : zb7 own with
  | false => exact .inl ⟨hV (r := none) (by rw[if_pos (.inl hA)]), .inl rfl⟩
  | true =>
    by_cases hB : neg = true ∧ zb3 own = 0
    · exact .inl ⟨hV (r := none) (by rw[if_pos (.inr hB)]), .inr (.inl ⟨rfl, hB.1, by simp[hB.2]⟩)⟩
    · have hB' : neg = false ∨ decide (zb3 own = 0) = false := by
        cases neg with
        | false => exact .inl rfl
        | true => exact .inr (by simpa using hB)
      have n1 : ¬ (zb7 own = false ∨ (neg = true ∧ zb3 own = 0)) := by rw[hA];simpa using hB
      rw[if_neg n1]at hV
      by_cases hC : zx own = []
      · rw[if_pos hC]at hV
        exact .inr ⟨rfl, hB', .inl ⟨hC, hV rfl⟩⟩
      · rw[if_neg hC]at hV
        have hC1 : (zx own == []) = false := by simpa using hC
        have hC2 : 0 < (zx own).length := List.length_pos_iff.2 hC
        by_cases hD : at0 (zx own) 0 = 47
        · rw[if_neg (fun x => x hD)]at hV
          cases hE : zb7 (za4 (zx own) 1)with
          | false => exact .inl ⟨hV (r := none) (by rw[if_pos (.inl hE)]), .inr (.inr ⟨rfl, hB', hC1, hC2, .inr ⟨by simpa using hD, .inl rfl⟩⟩)⟩
          | true =>
            by_cases hF : zx (za4 (zx own) 1) = []
            · by_cases hG : zb3 (za4 (zx own) 1) < 2
              · exact .inl ⟨hV (r := none) (by rw[if_pos (.inr (.inr (.inl hG)))]), .inr (.inr ⟨rfl, hB', hC1, hC2, .inr ⟨by simpa using hD, .inr (.inr (.inl ⟨rfl, hF, hG⟩))⟩⟩)⟩
              · by_cases hH : Nat.gcd (zb3 own) (zb3 (za4 (zx own) 1)) = 1
                · rw [if_neg (by rw [hE]; rintro (x | x | x | x); · cases x
                                 · exact x hF
                                 · exact hG x
                                 · exact x hH)]at hV
                  exact .inr ⟨rfl, hB', .inr ⟨hC1, hC2, by simpa using hD, rfl, hF, by omega, by simpa using hH, hV rfl⟩⟩
                · exact .inl ⟨hV (r := none) (by rw[if_pos (.inr (.inr (.inr hH)))]), .inr (.inr ⟨rfl, hB', hC1, hC2, .inr ⟨by simpa using hD, .inr (.inr (.inr ⟨rfl, hF, by omega, by simpa using hH⟩))⟩⟩)⟩
            · exact .inl ⟨hV (r := none) (by rw[if_pos (.inr (.inl hF))]), .inr (.inr ⟨rfl, hB', hC1, hC2, .inr ⟨by simpa using hD, .inr (.inl ⟨rfl, by simpa using hF⟩)⟩⟩)⟩
        · rw[if_pos hD]at hV
          exact .inl ⟨hV (r := none) rfl, .inr (.inr ⟨rfl, hB', hC1, hC2, .inl (by simpa using hD)⟩)⟩
theorem zuI{c:UInt8}(h:c≠45):((c.toNat:Int) == 45)=false:=by
 have h2:c.toNat≠45:=fun e=>h (UInt8.toNat_inj.1 e)
 simp;omega
theorem zeL(a:Str)(ha:a.length≤1000000000)(hm:a.head?≠some 45)(w:World) :
  CR 72 #[.string ⟨a.toArray⟩] w (zea a):=by
 have hne:a≠[]→(a == [])=false∧0<a.length∧((((at0 a 0).toNat:Int) == 45)=false):=by
  intro h
  refine⟨by simpa using h,List.length_pos_iff.2 h,zuI (fun e=>hm ?_)⟩
  rw[zc9 h,e]
 have hl1:=zjk a
 have hl2:=zha (zx a) 1
 have hb1:=zlw a
 have hb2:=zlw (za4 (zx a) 1)
 rcases zkt a a false (zcw hm).symm (by simp[hm])with⟨HV,hw | ⟨_,h,_⟩|⟨hw,_,hr,hr2,hx⟩⟩|⟨hw,_,hx⟩
 ·have HW:=LH HV
  clear HV
  by_cases hn:a=[]
  ·subst hn
   clear hne hm
   go_enter Tryz.func72,Tryz.ntmps72
   go_wp2_with (go_at_call 118;refine(zam [] _ (by decide)).mono ?_;rintro e w1 ⟨rfl,n1,rfl⟩)
   exact bodyPost_ret (v:=.tuple #[.agg #[.int .i64 0,.int .i64 0],.bool false]) (by simp[results,Tryz.results72,go_sem]) rfl ⟨by rw[HW.out],bt⟩
  ·obtain⟨h,h2,h3⟩:=hne hn
   clear hne hn hm
   go_enter Tryz.func72,Tryz.ntmps72
   go_wp2_with (go_at_call 118;refine(zam _ _ (by omega)).mono ?_;rintro e w1 ⟨rfl,n1,rfl⟩)
   exact bodyPost_ret (v:=.tuple #[.agg #[.int .i64 0,.int .i64 0],.bool false]) (by simp[results,Tryz.results72,go_sem]) rfl ⟨by rw[HW.out],bt⟩
 ·cases h
 ·have HW:=LH HV
  obtain⟨h,h2,h3⟩:=hne (zof hw)
  clear HV hne hm
  have h':=zaC h
  have hr':=zaC hr
  rcases hx with hx | ⟨hx,hy | ⟨hy,hz⟩|⟨hy,hz,hu⟩|⟨hy,hz,hu,hv⟩⟩
  all_goals
   first | have hx':=zaC hx | have hx':=zbT hx
   first | have hz':=zaC hz | skip
   first | have hv':=zaC hv | skip
   go_enter Tryz.func72,Tryz.ntmps72
   go_wp2_with (first | (go_at_call 118;refine(zam _ _ (by omega)).mono ?_;rintro e w1 ⟨rfl,n1,rfl⟩)|(go_at_call 119;refine(zcb _ _ _ (by omega) (by omega)).mono ?_;rintro e w1 ⟨rfl,n1,rfl⟩))
   exact bodyPost_ret (v:=.tuple #[.agg #[.int .i64 0,.int .i64 0],.bool false]) (by simp[results,Tryz.results72,go_sem]) rfl ⟨by rw[HW.out],bt⟩
 ·obtain⟨h,h2,h3⟩:=hne (zof hw)
  clear hne hm
  have h':=zaC h
  rcases hx with⟨hx,HV⟩|⟨hr,hr2,hx,hy,hz,hu,hv,HV⟩
  all_goals
   first | (have hx':=zbT hx;have hv':=zbT hv;have hr':=zaC hr) | skip
   have HW:=LH HV
   clear HV
   go_enter Tryz.func72,Tryz.ntmps72
   go_wp2_with (first | (go_at_call 118;refine(zam _ _ (by omega)).mono ?_;rintro e w1 ⟨rfl,n1,rfl⟩)|(go_at_call 119;refine(zcb _ _ _ (by omega) (by omega)).mono ?_;rintro e w1 ⟨rfl,n1,rfl⟩))
   first
    | exact bodyPost_ret (v:=.tuple #[.agg #[.int .i64 (zb3 a),.int .i64 1],.bool true]) (by simp[results,Tryz.results72,go_sem]) rfl ⟨by rw[HW.out];rfl,bt⟩
    | exact bodyPost_ret (v:=.tuple #[.agg #[.int .i64 (zb3 a),.int .i64 (zb3 (za4 (zx a) 1))],.bool true]) (by simp[results,Tryz.results72,go_sem]) rfl ⟨by rw[HW.out];rfl,bt⟩
end
section
open Go.RowKit Kp
theorem zeq(a:Str)(ha:a.length≤1000000000)(hm:a.head? = some 45)(w:World) :
  CR 72 #[.string ⟨a.toArray⟩] w (zea a):=by
 have hne:a≠[]:=by intro e;rw[e]at hm;cases hm
 have h:(a == [])=false:=by simpa using hne
 have h':=zaC h
 have h2:0<a.length:=List.length_pos_iff.2 hne
 have h3:((((at0 a 0).toNat:Int) == 45)=true):=by
  rw[zc9 hne]at hm;rw[Option.some.inj hm];rfl
 have hown:za4 a 1=zo a:=by rw[zhj hm];rfl
 have hlo:=zha a 1
 have hl1:=zjk (za4 a 1)
 have hl2:=zha (zx (za4 a 1)) 1
 have hb1:=zlw (za4 a 1)
 have hb2:=zlw (za4 (zx (za4 a 1)) 1)
 have hlt:(za4 a 1).length<a.length:=by omega
 rcases zkt a (za4 a 1) true hown (by simp[hm])with⟨HV,hw | ⟨hw,_,hz⟩|⟨hw,hn,hr,hr2,hx⟩⟩|⟨hw,hn,hx⟩
 ·have HW:=LH HV
  clear HV hne hm hown
  go_enter Tryz.func72,Tryz.ntmps72
  go_wp2_with (go_at_call 118;refine(zam _ _ (by omega)).mono ?_;rintro e w1 ⟨rfl,n1,rfl⟩)
  exact bodyPost_ret (v:=.tuple #[.agg #[.int .i64 0,.int .i64 0],.bool false]) (by simp[results,Tryz.results72,go_sem]) rfl ⟨by rw[HW.out],bt⟩
 ·have HW:=LH HV
  clear HV hne hm hown
  go_enter Tryz.func72,Tryz.ntmps72
  go_wp2_with (go_at_call 118;refine(zam _ _ (by omega)).mono ?_;rintro e w1 ⟨rfl,n1,rfl⟩)
  exact bodyPost_ret (v:=.tuple #[.agg #[.int .i64 0,.int .i64 0],.bool false]) (by simp[results,Tryz.results72,go_sem]) rfl ⟨by rw[HW.out],bt⟩
 ·have HW:=LH HV
  have hn:((zb3 (za4 a 1):Int) == 0)=false:=hn.elim (fun e=>by cases e) id
  clear HV hne hm hown
  have hr':=zaC hr
  rcases hx with hx | ⟨hx,hy | ⟨hy,hz⟩|⟨hy,hz,hu⟩|⟨hy,hz,hu,hv⟩⟩
  all_goals
   first | have hx':=zaC hx | have hx':=zbT hx
   first | have hz':=zaC hz | skip
   first | have hv':=zaC hv | skip
   go_enter Tryz.func72,Tryz.ntmps72
   go_wp2_with (first | (go_at_call 118;refine(zam _ _ (by omega)).mono ?_;rintro e w1 ⟨rfl,n1,rfl⟩)|(go_at_call 119;refine(zcb _ _ _ (by omega) (by omega)).mono ?_;rintro e w1 ⟨rfl,n1,rfl⟩))
   exact bodyPost_ret (v:=.tuple #[.agg #[.int .i64 0,.int .i64 0],.bool false]) (by simp[results,Tryz.results72,go_sem]) rfl ⟨by rw[HW.out],bt⟩
 ·have hn:((zb3 (za4 a 1):Int) == 0)=false:=hn.elim (fun e=>by cases e) id
  clear hne hm hown
  rcases hx with⟨hx,HV⟩|⟨hr,hr2,hx,hy,hz,hu,hv,HV⟩
  all_goals
   first | (have hx':=zbT hx;have hv':=zbT hv;have hr':=zaC hr) | skip
   have HW:=LH HV
   clear HV
   go_enter Tryz.func72,Tryz.ntmps72
   go_wp2_with (first | (go_at_call 118;refine(zam _ _ (by omega)).mono ?_;rintro e w1 ⟨rfl,n1,rfl⟩)|(go_at_call 119;refine(zcb _ _ _ (by omega) (by omega)).mono ?_;rintro e w1 ⟨rfl,n1,rfl⟩))
   first
    | exact bodyPost_ret (v:=.tuple #[.agg #[.int .i64 (-(zb3 (za4 a 1):Int)),.int .i64 1],.bool true]) (by simp[results,Tryz.results72,go_sem]) rfl ⟨by rw[HW.out];rfl,bt⟩
    | exact bodyPost_ret (v:=.tuple #[.agg #[.int .i64 (-(zb3 (za4 a 1):Int)),.int .i64 (zb3 (za4 (zx (za4 a 1)) 1))],.bool true]) (by simp[results,Tryz.results72,go_sem]) rfl ⟨by rw[HW.out];rfl,bt⟩
theorem zB(a:Str)(ha:a.length≤1000000000)(w:World) :
  CR 72 #[.string ⟨a.toArray⟩] w (zea a):=by
 by_cases hm:a.head? = some 45
 ·exact zeq a ha hm w
 ·exact zeL a ha hm w
end
section
open Go.RowKit Kp
theorem zhA(n:Int)(k:Nat)(hk:0<k)(hn:n.natAbs≤100000000000000000)(hd1:k≤100000000000000000)(w:World)(hE:Env w) :
  CR 80 #[.agg #[.int .i64 n,.int .i64 k]] w (.string ⟨(za (Rat.divInt n k)).toArray⟩):=by
 have hmx:=zqG n
 have hg1:0<Nat.gcd n.natAbs k:=Nat.gcd_pos_of_pos_right _ (by omega)
 obtain⟨b1,b2⟩:=zfP n (Nat.gcd n.natAbs k) (B:=100000000000000000) (by omega)
 have b3:0≤(k:Int) / (Nat.gcd n.natAbs k:Int):=Int.ediv_nonneg (by omega) (by omega)
 have b4:(k:Int) / (Nat.gcd n.natAbs k:Int)≤100000000000000000:=Int.le_trans (Int.ediv_le_self _ (by omega)) (by omega)
 have HR:=LH (zfQ n k hk)
 generalize za (Rat.divInt n k)=r at *
 have HG:=LH (zcb n.natAbs k)
 generalize hgg:Nat.gcd n.natAbs k=g at *
 clear hgg
 have hg3:((g:Int) == 0)=false:=by simp;omega
 have l1:=zV (n.tdiv g) (zbZ (by omega))
 have l2:=zV ((k:Int) / (g:Int)) (zbZ (by omega))
 by_cases h1:(k:Int) / (g:Int)=1
 ·have hb:((k:Int) / (g:Int) == 1)=true:=by simpa using h1
  have H1:=LH h1
  clear h1
  go_enter Tryz.func80,Tryz.ntmps80
  go_wp2_with (go_at_call 119;refine(HG.out _ (by omega) (by omega)).mono ?_;rintro e w1 ⟨rfl,n1,rfl⟩)
  go_quiet (fail)
  go_wp2_with fail
  refine cx (zat _ (by omega) (by omega) _ (hE.q bt)) fun w3 hq3=>?_
  go_wp2
  go_ret
  exact⟨by rw[HR.out,if_pos H1.out];rfl,(show Below w.heap.size w _ from bt).trans (hq3.mono (by simp))⟩
 ·have hb:((k:Int) / (g:Int) == 1)=false:=by simpa using h1
  have H1:=LH h1
  clear h1
  go_enter Tryz.func80,Tryz.ntmps80
  go_wp2_with (go_at_call 119;refine(HG.out _ (by omega) (by omega)).mono ?_;rintro e w1 ⟨rfl,n1,rfl⟩)
  go_quiet (fail)
  go_wp2_with fail
  refine cx (zat _ (by omega) (by omega) _ (hE.q bt)) fun w3 hq3=>?_
  have hQ3:Q w w3:=(show Below w.heap.size w _ from bt).trans (hq3.mono (by simp))
  go_wp2_with fail
  refine cx (zat _ (by omega) (by omega) _ (hE.q hQ3)) fun w4 hq4=>?_
  go_wp2
  go_ret
  exact⟨by rw[HR.out,if_neg H1.out];first | rfl | (simp;done),hQ3.trans (hq4.mono hQ3.size)⟩
theorem zhB(n:Int)(k:Nat)(hk:0<k)(hn:n.natAbs≤100000000000000000)(hd1:k≤100000000000000000)(w:World)(hE:Env w) :
  CR 80 #[.agg #[.int .i64 n,.int .i64 (-(k:Int))]] w (.string ⟨(za (Rat.divInt n (-(k:Int)))).toArray⟩):=by
 have e0:Rat.divInt n (-(k:Int))=Rat.divInt (-n) k:=by rw[Rat.divInt_neg']
 rw[e0]
 have hmx:max (-n) n=n.natAbs:=by omega
 have hg1:0<Nat.gcd n.natAbs k:=Nat.gcd_pos_of_pos_right _ (by omega)
 obtain⟨b1,b2⟩:=zfP n (Nat.gcd n.natAbs k) (B:=100000000000000000) (by omega)
 have b3:0≤(k:Int) / (Nat.gcd n.natAbs k:Int):=Int.ediv_nonneg (by omega) (by omega)
 have b4:(k:Int) / (Nat.gcd n.natAbs k:Int)≤100000000000000000:=Int.le_trans (Int.ediv_le_self _ (by omega)) (by omega)
 have hr:=zfQ (-n) k hk
 rw[Int.natAbs_neg,Int.neg_tdiv]at hr
 have HR:=LH hr
 clear hr
 generalize za (Rat.divInt (-n) k)=r at *
 have HG:=LH (zcb n.natAbs k)
 generalize hgg:Nat.gcd n.natAbs k=g at *
 clear hgg e0
 have hg3:((g:Int) == 0)=false:=by simp;omega
 have l1:=zV (-(n.tdiv g)) (zbZ (by omega))
 have l2:=zV ((k:Int) / (g:Int)) (zbZ (by omega))
 by_cases h1:(k:Int) / (g:Int)=1
 ·have hb:((k:Int) / (g:Int) == 1)=true:=by simpa using h1
  have H1:=LH h1
  clear h1
  go_enter Tryz.func80,Tryz.ntmps80
  go_wp2_with (go_at_call 119;go_loud (refine(HG.out _ (by omega) (by omega)).mono ?_);rintro e w1 ⟨rfl,n1,rfl⟩)
  go_quiet (fail)
  go_wp2_with fail
  refine cx (zat _ (by omega) (by omega) _ (hE.q bt)) fun w3 hq3=>?_
  go_wp2
  go_ret
  exact⟨by rw[HR.out,if_pos H1.out];rfl,(show Below w.heap.size w _ from bt).trans (hq3.mono (by simp))⟩
 ·have hb:((k:Int) / (g:Int) == 1)=false:=by simpa using h1
  have H1:=LH h1
  clear h1
  go_enter Tryz.func80,Tryz.ntmps80
  go_wp2_with (go_at_call 119;go_loud (refine(HG.out _ (by omega) (by omega)).mono ?_);rintro e w1 ⟨rfl,n1,rfl⟩)
  go_quiet (fail)
  go_wp2_with fail
  refine cx (zat _ (by omega) (by omega) _ (hE.q bt)) fun w3 hq3=>?_
  have hQ3:Q w w3:=(show Below w.heap.size w _ from bt).trans (hq3.mono (by simp))
  go_wp2_with fail
  refine cx (zat _ (by omega) (by omega) _ (hE.q hQ3)) fun w4 hq4=>?_
  go_wp2
  go_ret
  exact⟨by rw[HR.out,if_neg H1.out];first | rfl | (simp;done),hQ3.trans (hq4.mono hQ3.size)⟩
end
section
open Go.RowKit Kp
theorem zmG{a b:Nat}(h:a<b):decide ((a:Int)<b)=true:=by simp;omega
theorem zmH{a b:Nat}(h:¬ a<b):decide ((a:Int)<b)=false:=by simp;omega
theorem zkJ{a:Nat}(h:a=0):((a:Int) == 0)=true:=by simp[h]
theorem zkK{a:Nat}(h:a≠0):((a:Int) == 0)=false:=by simp[h]
theorem zi6(s:Str)(hl:s.length≤1000000000)(w:World) :
  Calls Tryz.prog 151 #[.string ⟨s.toArray⟩] w fun e w'=>e=.returned (.int .i64 (zdx s))∧w=w':=by
 go_enter Tryz.func151,Tryz.ntmps151
 go_wp2
 go_loop [3] (fun i=>∃ k:Nat,k≤s.length∧i=.int .i64 k∧zaT (s.take k)) (fun i=>s.length - (intOf i).toNat)
 case atStart=>exact⟨0,by omega,rfl,by simp[zaT]⟩
 case round =>
  obtain⟨k,hk,rfl,had⟩:=hrel
  have HD:=LH had;clear had
  by_cases h1:k<s.length
  ·cases hd:zaE (at0 s k)with
   | true =>
    have hd':=(zeg _).1 hd
    have HN:=LH (HD.out.snoc h1 hd)
    clear hd
    go_wp2
    go_round
    case rel=>exact⟨k+1,by omega,by go_num,HN.out⟩
    case measure=>simp[intOf];omega
   | false =>
    have HT:=LH (zeE HD.out hk (.inr hd))
    have hd':=(zff _).1 hd
    clear hd
    by_cases hz:1<k∧at0 s 0=48
    ·have hz1:=hz.1
     have hz2:((((at0 s 0).toNat:Int)) == 48)=true:=by rw[hz.2];rfl
     have HR:Hid (zdx s=0):=LH (by unfold zdx;rw[HT.out,if_pos hz])
     clear hz
     rcases hd' with hd' | hd'
     all_goals
      go_wp2
      go_ret
      exact⟨zck (by rw[HR.out];all_goals rfl),rfl⟩
    ·have HR:Hid (zdx s=k):=LH (by unfold zdx;rw[HT.out,if_neg hz])
     have hz':k≤1∨(1<k∧((((at0 s 0).toNat:Int)) == 48)=false):=by
      by_cases a:k≤1
      ·exact .inl a
      ·exact .inr ⟨by omega,ztJ (fun e=>hz ⟨by omega,e⟩)⟩
     clear hz
     rcases hd' with hd' | hd' <;> rcases hz' with hz' | ⟨hz',hz2⟩
     all_goals
      go_wp2
      go_ret
      exact⟨zck (by rw[HR.out];all_goals rfl),rfl⟩
  ·have HT:=LH (zeE HD.out hk (.inl (by omega)))
   by_cases hz:1<k∧at0 s 0=48
   ·have hz1:=hz.1
    have hz2:((((at0 s 0).toNat:Int)) == 48)=true:=by rw[hz.2];rfl
    have HR:Hid (zdx s=0):=LH (by unfold zdx;rw[HT.out,if_pos hz])
    clear hz
    go_wp2
    go_ret
    exact⟨zck (by rw[HR.out];all_goals rfl),rfl⟩
   ·have HR:Hid (zdx s=k):=LH (by unfold zdx;rw[HT.out,if_neg hz])
    have hz':k≤1∨(1<k∧((((at0 s 0).toNat:Int)) == 48)=false):=by
     by_cases a:k≤1
     ·exact .inl a
     ·exact .inr ⟨by omega,ztJ (fun e=>hz ⟨by omega,e⟩)⟩
    clear hz
    rcases hz' with hz' | ⟨hz',hz2⟩
    all_goals
     go_wp2
     go_ret
     exact⟨zck (by rw[HR.out];all_goals rfl),rfl⟩
def cutV(a:Str):Value:=if zno a then .tuple #[.agg #[.string ⟨#[]⟩,.string ⟨#[]⟩],.bool false]else .tuple #[.agg #[.string ⟨(zu a).toArray⟩,.string ⟨(zay a).toArray⟩],.bool true]
theorem zsj(a : Str) :
    (cutV a = .tuple #[.agg #[.string ⟨#[]⟩, .string ⟨#[]⟩], .bool false] ∧
      (zdx (zo (zu a)) = 0 ∨
       (zdx (zo (zu a)) ≠ 0 ∧ zdx (zo (zu a)) < (zo (zu a)).length) ∨
       (zdx (zo (zu a)) ≠ 0 ∧ ¬ zdx (zo (zu a)) < (zo (zu a)).length ∧
         ((decide ((zu a).head? = some 45) = true ∧ (zo (zu a) == [48]) = true) ∨
          ((decide ((zu a).head? = some 45) = false ∨ (zo (zu a) == [48]) = false) ∧ zZ a = true ∧
            (zdx (zbU a) = 0 ∨ (zdx (zbU a) ≠ 0 ∧ zdx (zbU a) < (zbU a).length) ∨
             (zdx (zbU a) ≠ 0 ∧ ¬ zdx (zbU a) < (zbU a).length ∧ ((zbU a == [48]) = true ∨ ((zbU a == [48]) = false ∧ (zbU a == [49]) = true))))))))) ∨
    (zdx (zo (zu a)) ≠ 0 ∧ ¬ zdx (zo (zu a)) < (zo (zu a)).length ∧ (decide ((zu a).head? = some 45) = false ∨ (zo (zu a) == [48]) = false) ∧
      ((zZ a = false ∧ cutV a = .tuple #[.agg #[.string ⟨(zu a).toArray⟩, .string ⟨#[49]⟩], .bool true]) ∨
       (zZ a = true ∧ zdx (zbU a) ≠ 0 ∧ ¬ zdx (zbU a) < (zbU a).length ∧ (zbU a == [48]) = false ∧ (zbU a == [49]) = false ∧
         cutV a = .tuple #[.agg #[.string ⟨(zu a).toArray⟩, .string ⟨(zbU a).toArray⟩], .bool true]))) := by
  have hbad : zno a → cutV a = .tuple #[.agg #[.string ⟨#[]⟩, .string ⟨#[]⟩], .bool false] := fun h => by unfold cutV;rw[if_pos h]
  have hgood : ¬ zno a → cutV a = .tuple #[.agg #[.string ⟨(zu a).toArray⟩, .string ⟨(zay a).toArray⟩], .bool true] := fun h => by unfold cutV;rw[if_neg h]
  rw[zrK]at hbad hgood
  by_cases h0 : zdx (zo (zu a)) = 0
  · exact .inl ⟨hbad (.inl (.inl h0)), .inl h0⟩
  · by_cases h1 : zdx (zo (zu a)) < (zo (zu a)).length
    · exact .inl ⟨hbad (.inl (.inr (.inl h1))), .inr (.inl ⟨h0, h1⟩)⟩
    · by_cases h2 : (zu a).head? = some 45 ∧ zo (zu a) = [48]
      · exact .inl ⟨hbad (.inl (.inr (.inr h2))), .inr (.inr ⟨h0, h1, .inl ⟨by simpa using h2.1, by simpa using h2.2⟩⟩)⟩
      · have h2' : decide ((zu a).head? = some 45) = false ∨ (zo (zu a) == [48]) = false := by
          by_cases hm : (zu a).head? = some 45
          · exact .inr (by simpa using fun e => h2 ⟨hm, e⟩)
          · exact .inl (by simpa using hm)
        have hfirst : ¬ (zdx (zo (zu a)) = 0 ∨ zdx (zo (zu a)) < (zo (zu a)).length ∨ ((zu a).head? = some 45 ∧ zo (zu a) = [48])) := by
          rintro(x | x | x)
          · exact h0 x
          · exact h1 x
          · exact h2 x
        cases hs : zZ a with
        | false =>
          refine .inr ⟨h0, h1, h2', .inl ⟨rfl, ?_⟩⟩
          have := hgood (by rintro (x | ⟨x, _⟩); · exact hfirst x
                            · rw[hs]at x;cases x)
          rw[this];unfold zay;rw[hs];rfl
        | true =>
          have ed : zbU a = zaf a := by unfold zbU;rw[hs];rfl
          have es : zay a = zaf a := by unfold zay;rw[hs];rfl
          rw[ed]
          by_cases d0 : zdx (zaf a) = 0
          · exact .inl ⟨hbad (.inr ⟨hs, .inl d0⟩), .inr (.inr ⟨h0, h1, .inr ⟨h2', rfl, .inl d0⟩⟩)⟩
          · by_cases d1 : zdx (zaf a) < (zaf a).length
            · exact .inl ⟨hbad (.inr ⟨hs, .inr (.inl d1)⟩), .inr (.inr ⟨h0, h1, .inr ⟨h2', rfl, .inr (.inl ⟨d0, d1⟩)⟩⟩)⟩
            · by_cases d2 : zaf a = [48]
              · exact .inl ⟨hbad (.inr ⟨hs, .inr (.inr (.inl d2))⟩), .inr (.inr ⟨h0, h1, .inr ⟨h2', rfl, .inr (.inr ⟨d0, d1, .inl (by simpa using d2)⟩)⟩⟩)⟩
              · by_cases d3 : zaf a = [49]
                · exact .inl ⟨hbad (.inr ⟨hs, .inr (.inr (.inr d3))⟩), .inr (.inr ⟨h0, h1, .inr ⟨h2', rfl, .inr (.inr ⟨d0, d1, .inr ⟨by simpa using d2, by simpa using d3⟩⟩)⟩⟩)⟩
                · refine .inr ⟨h0, h1, h2', .inr ⟨rfl, d0, d1, by simpa using d2, by simpa using d3, ?_⟩⟩
                  have := hgood (by rintro (x | ⟨_, x | x | x | x⟩); · exact hfirst x
                                    · exact d0 x
                                    · exact d1 x
                                    · exact d2 x
                                    · exact d3 x)
                  rw[this, es]
theorem zpJ(a:Str):(zbU a).length≤a.length:=by
 unfold zbU;split
 ·exact zgg a
 ·simp
theorem zhY(a : Str)(hl : a.length ≤ 1000000000)(w : World)(hE : Env w) :
    CR 98 #[.string ⟨a.toArray⟩] w (cutV a) := by
  have l1 := zf3 a
  have l2 := zpJ a
  have l3 := ziM (zu a)
  rcases zsj a with⟨HV, h | ⟨h, h1⟩|⟨h, h1, ⟨h2, h3⟩|⟨h2 | h2, h3, h4 | ⟨h4, h5⟩|⟨h4, h5, h6 | ⟨h6, h7⟩⟩⟩⟩⟩|⟨h, h1, h2 | h2, ⟨h3, HV⟩|⟨h3, h4, h5, h6, h7, HV⟩⟩
  all_goals
    have HW := LH HV
    clear HV
    first | have g0 := zkJ h | have g0 := zkK h
    first | have g1 := zmG h1 | have g1 := zmH h1 | skip
    first | have g2 := zkJ h4 | have g2 := zkK h4 | skip
    first | have g3 := zmG h5 | have g3 := zmH h5 | skip
    clear h
    go_enter Tryz.func98, Tryz.ntmps98
    go_wp2_with (first | (go_at_call 150;refine(zmK a (by omega) _ (hE.q bt)).mono ?_;rintro e w1 ⟨rfl, n1, rfl⟩)|(go_at_call 128;refine(zdJ _ _).mono ?_;rintro e w1 ⟨rfl, rfl⟩)|(go_at_call 151;refine(zi6 _ (by omega) _).mono ?_;rintro e w1 ⟨rfl, rfl⟩))
  all_goals
    first
    | (refine bodyPost_ret (v := .tuple #[.agg #[.string ⟨#[]⟩, .string ⟨#[]⟩], .bool false]) ?_ rfl ?_
       · simp[results, Tryz.results98, go_sem]
       · exact⟨by rw[HW.out], bt⟩)
    | (refine bodyPost_ret (v := .tuple #[.agg #[.string ⟨(zu a).toArray⟩, .string ⟨#[49]⟩], .bool true]) ?_ rfl ?_
       · simp[results, Tryz.results98, go_sem]
       · exact⟨by rw[HW.out], bt⟩)
    | (refine bodyPost_ret (v := .tuple #[.agg #[.string ⟨(zu a).toArray⟩, .string ⟨(zbU a).toArray⟩], .bool true]) ?_ rfl ?_
       · simp[results, Tryz.results98, go_sem]
       · exact⟨by rw[HW.out], bt⟩)
end
section
open Go.RowKit Kp
theorem zdD(tmps:Array Value)(W:World)(b:Nat)(x y u:Value)(hp:tmps.getD 2 undef=.pointer (some ⟨b,0,none⟩))(hu:tmps.getD 3 undef=u)
  (c0:W.cell? ⟨b,0,none⟩=some x)(c1:W.cell? ⟨b,1,none⟩=some y) :
  (results Tryz.f64 tmps).run Tryz.prog W=.ok (.tuple #[.agg #[x,y],u]) W:=by
 simp only[Array.getD_eq_getD_getElem?]at hp hu
 simp[results,Tryz.results64,go_sem,hp,hu,c0,c1]
theorem zre(q:Rat):cutV (za q)=.tuple #[.agg #[.string ⟨(Lib.itoa q.num).toArray⟩,.string ⟨(Lib.itoa (q.den:Int)).toArray⟩],.bool true]:=by
 unfold cutV;rw[if_neg (zmm q),zcc,zdu]
theorem zaM{q:Rat}(h:zy q):zea (za q)=.tuple #[.agg #[.int .i64 q.num,.int .i64 (q.den:Int)],.bool true]:=zes (znC h)
theorem zcj{q:Rat}(h:zy q):(za q).length≤1000:=by
 have h1:=zV q.num (zbZ (by have:=h.1;omega))
 have h2:=zV (q.den:Int) (zbZ (by have:=h.2;omega))
 unfold za;split
 ·omega
 ·rw[zL,List.length_append,List.length_cons];omega
theorem zdl(q:Rat)(h:zy q)(w:World)(hE:Env w) :
  CR 64 #[.string ⟨(za q).toArray⟩] w (.tuple #[.agg #[.string ⟨(Lib.itoa q.num).toArray⟩,.string ⟨(Lib.itoa (q.den:Int)).toArray⟩],.int .i64 0]):=by
 have hl:=zcj h
 go_enter Tryz.func64,Tryz.ntmps64
 go_wp2_with fail
 refine(zhY _ (by omega) _ (hE.q bt)).mono ?_
 rw[zre]
 rintro e w1⟨rfl,hq1⟩
 have hz1:=hq1.size
 rw[World.size_alloc]at hz1
 have hQ1:Q w w1:=(show Below w.heap.size w _ from bt).trans (hq1.mono (by simp))
 have B1:=(Blk.new w [.string ⟨#[]⟩,.string ⟨#[]⟩] 120).keep hq1 (by simp)
 go_wp2_with fail
 refine(zB _ (by omega) _).mono ?_
 rw[zaM h]
 rintro e w2⟨rfl,hq2⟩
 have hz2:=hq2.size
 rw[World.size_alloc]at hz2
 have hQ2:Q w w2:=hQ1.trans ((show Below w1.heap.size w1 _ from bt).trans (hq2.mono (by simp)) |>.mono hQ1.size)
 have B2:=(Blk.new w1 [.string ⟨(Lib.itoa q.num).toArray⟩,.string ⟨(Lib.itoa (q.den:Int)).toArray⟩] 120).keep hq2 (by simp)
 have B1':=(B1.keep (Below.refl (w1.heap.size) w1 |>.alloc (Nat.le_refl _) (.cells #[.string ⟨(Lib.itoa q.num).toArray⟩,.string ⟨(Lib.itoa (q.den:Int)).toArray⟩] 120)) (by omega)).keep hq2 (by simp;omega)
 have c0:=B1'.cell
 have f0:=B1'.frozen 0
 have f1:=B1'.frozen 1
 have d0:=B2.cell
 have l1:=B1'.lt
 have l2:=B2.lt
 go_wp2_with fail
 refine bodyPost_ret (v:=.tuple #[.agg #[.string ⟨(Lib.itoa q.num).toArray⟩,.string ⟨(Lib.itoa (q.den:Int)).toArray⟩],.int .i64 0])
  (zdD _ _ w.heap.size _ _ _ rfl rfl ((((B1'.set 0 _).set 1 _).alloc _).cell 0) ((((B1'.set 0 _).set 1 _).alloc _).cell 1)) rfl ⟨rfl,?_⟩
 exact((hQ2.setCell (p:=⟨w.heap.size,0,none⟩) (Nat.le_refl _) _).setCell (p:=⟨w.heap.size,1,none⟩) (Nat.le_refl _) _).alloc (by simp;omega) _
end
section
open Go.RowKit Kp
theorem zab{a b:Int}(ha:a.natAbs<100000000)(hb:b.natAbs<100000000):-10000000000000000≤a*b∧a*b≤10000000000000000:=by
 have h:a.natAbs*b.natAbs≤100000000*100000000:=Nat.mul_le_mul (by omega) (by omega)
 rw[← Int.natAbs_mul]at h
 omega
theorem zfW(x y:Rat)(hx:zy x)(hy:zy y)(w:World) :
  CR 57 #[.agg #[.int .i64 x.num,.int .i64 (x.den:Int)],.agg #[.int .i64 y.num,.int .i64 (y.den:Int)]] w (.agg #[.int .i64 (x.num*y.num),.int .i64 ((x.den:Int)*y.den)]):=by
 obtain⟨hx1,hx2⟩:=hx
 obtain⟨hy1,hy2⟩:=hy
 have m0:=zab (a:=x.num) (b:=y.num) (by omega) (by omega)
 have m1:=zab (a:=(x.den:Int)) (b:=(y.den:Int)) (by omega) (by omega)
 go_enter Tryz.func57,Tryz.ntmps57
 go_wp2
 refine bodyPost_ret (v:=.agg #[.int .i64 (x.num*y.num),.int .i64 ((x.den:Int)*y.den)]) ?_ rfl ⟨rfl,bt⟩
 simp[results,Tryz.results57,go_sem]
theorem zfY(x y:Rat)(hx:zy x)(hy:zy y)(w:World) :
  CR 44 #[.agg #[.int .i64 x.num,.int .i64 (x.den:Int)],.agg #[.int .i64 y.num,.int .i64 (y.den:Int)]] w (.agg #[.int .i64 (x.num*y.den+y.num*x.den),.int .i64 ((x.den:Int)*y.den)]):=by
 obtain⟨hx1,hx2⟩:=hx
 obtain⟨hy1,hy2⟩:=hy
 have m0:=zab (a:=x.num) (b:=(y.den:Int)) (by omega) (by omega)
 have m1:=zab (a:=y.num) (b:=(x.den:Int)) (by omega) (by omega)
 have m2:=zab (a:=(x.den:Int)) (b:=(y.den:Int)) (by omega) (by omega)
 go_enter Tryz.func44,Tryz.ntmps44
 go_wp2
 refine bodyPost_ret (v:=.agg #[.int .i64 (x.num*y.den+y.num*x.den),.int .i64 ((x.den:Int)*y.den)]) ?_ rfl ⟨rfl,bt⟩
 simp[results,Tryz.results44,go_sem]
theorem zfV(x y:Rat)(hx:zy x)(hy:zy y)(w:World) :
  CR 40 #[.agg #[.int .i64 x.num,.int .i64 (x.den:Int)],.agg #[.int .i64 y.num,.int .i64 (y.den:Int)]] w (.agg #[.int .i64 (x.num*y.den - y.num*x.den),.int .i64 ((x.den:Int)*y.den)]):=by
 obtain⟨hx1,hx2⟩:=hx
 obtain⟨hy1,hy2⟩:=hy
 have m0:=zab (a:=x.num) (b:=(y.den:Int)) (by omega) (by omega)
 have m1:=zab (a:=y.num) (b:=(x.den:Int)) (by omega) (by omega)
 have m2:=zab (a:=(x.den:Int)) (b:=(y.den:Int)) (by omega) (by omega)
 go_enter Tryz.func40,Tryz.ntmps40
 go_wp2
 refine bodyPost_ret (v:=.agg #[.int .i64 (x.num*y.den - y.num*x.den),.int .i64 ((x.den:Int)*y.den)]) ?_ rfl ⟨rfl,bt⟩
 simp[results,Tryz.results40,go_sem]
theorem zfX(x y:Rat)(hx:zy x)(hy:zy y)(w:World) :
  CR 61 #[.agg #[.int .i64 x.num,.int .i64 (x.den:Int)],.agg #[.int .i64 y.num,.int .i64 (y.den:Int)]] w (.agg #[.int .i64 (x.num*y.den),.int .i64 ((x.den:Int)*y.num)]):=by
 obtain⟨hx1,hx2⟩:=hx
 obtain⟨hy1,hy2⟩:=hy
 have m0:=zab (a:=x.num) (b:=(y.den:Int)) (by omega) (by omega)
 have m1:=zab (a:=(x.den:Int)) (b:=y.num) (by omega) (by omega)
 go_enter Tryz.func61,Tryz.ntmps61
 go_wp2
 refine bodyPost_ret (v:=.agg #[.int .i64 (x.num*y.den),.int .i64 ((x.den:Int)*y.num)]) ?_ rfl ⟨rfl,bt⟩
 simp[results,Tryz.results61,go_sem]
theorem zc7(n d:Int)(hd:d≠0)(hn:n.natAbs≤100000000000000000)(hd1:d.natAbs≤100000000000000000)(w:World)(hE:Env w) :
  CR 80 #[.agg #[.int .i64 n,.int .i64 d]] w (.string ⟨(za (Rat.divInt n d)).toArray⟩):=by
 by_cases h:0<d
 ·obtain⟨k,rfl⟩:=Int.eq_ofNat_of_zero_le (Int.le_of_lt h)
  exact zhA n k (by omega) hn (by omega) w hE
 ·obtain⟨k,hk⟩:=Int.eq_ofNat_of_zero_le (show 0≤-d by omega)
  obtain rfl:d = -(k:Int):=by omega
  exact zhB n k (by omega) hn (by omega) w hE
theorem zgI(x y:Rat)(hx:zy x)(hy:zy y)(w:World)(hE:Env w) :
  CR 39 #[.string ⟨(za x).toArray⟩,.string ⟨(za y).toArray⟩,.func (.func 57) #[] #[]] w (.tuple #[.string ⟨(za (x*y)).toArray⟩,.bool true]):=by
 have hlx:=zcj hx
 have hly:=zcj hy
 have hxd:=x.den_nz
 have hyd:=y.den_nz
 have HR:Hid (Rat.divInt (x.num*y.num) ((x.den:Int)*y.den)=x*y):=LH (by conv=>rhs;rw[← Rat.num_divInt_den x,← Rat.num_divInt_den y,Rat.divInt_mul_divInt])
 have hd0:((x.den:Int)*y.den)≠0:=Int.mul_ne_zero (by omega) (by omega)
 obtain⟨hx1,hx2⟩:=hx
 obtain⟨hy1,hy2⟩:=hy
 have m0:=zab (a:=x.num) (b:=y.num) (by omega) (by omega)
 have m1:=zab (a:=(x.den:Int)) (b:=(y.den:Int)) (by omega) (by omega)
 go_enter Tryz.func39,Tryz.ntmps39
 go_wp2_with fail
 refine(zB _ (by omega) _).mono ?_
 rw[zaM ⟨hx1,hx2⟩]
 rintro e w1⟨rfl,hq1⟩
 go_wp2_with fail
 refine(zB _ (by omega) _).mono ?_
 rw[zaM ⟨hy1,hy2⟩]
 rintro e w2⟨rfl,hq2⟩
 have hz2:=hq2.size
 rw[World.size_alloc]at hz2
 have hQ2:Q w w2:=hq1.trans ((show Below w1.heap.size w1 _ from bt).trans (hq2.mono (by simp)) |>.mono hq1.size)
 have B1:=(Blk.new w1 [.int .i64 x.num,.int .i64 (x.den:Int)] 90).keep hq2 (by simp)
 have c0:=B1.cell
 have l1:=B1.lt
 go_wp2_with fail
 refine cx (zfW x y ⟨hx1,hx2⟩ ⟨hy1,hy2⟩ _) fun w3 hq3=>?_
 have hQ3:Q w w3:=hQ2.trans ((show Below w2.heap.size w2 _ from bt).trans (hq3.mono (by simp)) |>.mono hQ2.size)
 go_wp2_with fail
 refine cx (zc7 _ _ hd0 (by omega) (by omega) _ (hE.q hQ3)) fun w4 hq4=>?_
 go_wp2
 go_ret2
 exact⟨by rw[← HR.out];rfl,hQ3.trans (hq4.mono hQ3.size)⟩
theorem zdE(x y:Rat)(hx:zy x)(hy:zy y)(w:World)(hE:Env w) :
  CR 24 #[.string ⟨(za x).toArray⟩,.string ⟨(za y).toArray⟩] w (.tuple #[.string ⟨(za (x*y)).toArray⟩,.int .i64 0]):=by
 go_enter Tryz.func24,Tryz.ntmps24
 go_wp2_with fail
 refine cx (zgI x y hx hy _ hE) fun w1 hq1=>?_
 go_wp2
 go_ret2
 exact⟨rfl,hq1⟩
theorem zgK(x y:Rat)(hx:zy x)(hy:zy y)(w:World)(hE:Env w) :
  CR 39 #[.string ⟨(za x).toArray⟩,.string ⟨(za y).toArray⟩,.func (.func 44) #[] #[]] w (.tuple #[.string ⟨(za (x+y)).toArray⟩,.bool true]):=by
 have hlx:=zcj hx
 have hly:=zcj hy
 have hxd:=x.den_nz
 have hyd:=y.den_nz
 have HR:Hid (Rat.divInt (x.num*y.den+y.num*x.den) ((x.den:Int)*y.den)=x+y):=LH (by conv=>rhs;rw[← Rat.num_divInt_den x,← Rat.num_divInt_den y,Rat.divInt_add_divInt _ _ (by omega) (by omega)])
 have hd0:((x.den:Int)*y.den)≠0:=Int.mul_ne_zero (by omega) (by omega)
 obtain⟨hx1,hx2⟩:=hx
 obtain⟨hy1,hy2⟩:=hy
 have m0:=zab (a:=x.num) (b:=(y.den:Int)) (by omega) (by omega)
 have m1:=zab (a:=y.num) (b:=(x.den:Int)) (by omega) (by omega)
 have m2:=zab (a:=(x.den:Int)) (b:=(y.den:Int)) (by omega) (by omega)
 go_enter Tryz.func39,Tryz.ntmps39
 go_wp2_with fail
 refine(zB _ (by omega) _).mono ?_
 rw[zaM ⟨hx1,hx2⟩]
 rintro e w1⟨rfl,hq1⟩
 go_wp2_with fail
 refine(zB _ (by omega) _).mono ?_
 rw[zaM ⟨hy1,hy2⟩]
 rintro e w2⟨rfl,hq2⟩
 have hz2:=hq2.size
 rw[World.size_alloc]at hz2
 have hQ2:Q w w2:=hq1.trans ((show Below w1.heap.size w1 _ from bt).trans (hq2.mono (by simp)) |>.mono hq1.size)
 have B1:=(Blk.new w1 [.int .i64 x.num,.int .i64 (x.den:Int)] 90).keep hq2 (by simp)
 have c0:=B1.cell
 have l1:=B1.lt
 go_wp2_with fail
 refine cx (zfY x y ⟨hx1,hx2⟩ ⟨hy1,hy2⟩ _) fun w3 hq3=>?_
 have hQ3:Q w w3:=hQ2.trans ((show Below w2.heap.size w2 _ from bt).trans (hq3.mono (by simp)) |>.mono hQ2.size)
 go_wp2_with fail
 refine cx (zc7 _ _ hd0 (by omega) (by omega) _ (hE.q hQ3)) fun w4 hq4=>?_
 go_wp2
 go_ret2
 exact⟨by rw[← HR.out];rfl,hQ3.trans (hq4.mono hQ3.size)⟩
theorem zgN(x y:Rat)(hx:zy x)(hy:zy y)(w:World)(hE:Env w) :
  CR 12 #[.string ⟨(za x).toArray⟩,.string ⟨(za y).toArray⟩] w (.tuple #[.string ⟨(za (x+y)).toArray⟩,.int .i64 0]):=by
 go_enter Tryz.func12,Tryz.ntmps12
 go_wp2_with fail
 refine cx (zgK x y hx hy _ hE) fun w1 hq1=>?_
 go_wp2
 go_ret2
 exact⟨rfl,hq1⟩
theorem zgH(x y:Rat)(hx:zy x)(hy:zy y)(w:World)(hE:Env w) :
  CR 39 #[.string ⟨(za x).toArray⟩,.string ⟨(za y).toArray⟩,.func (.func 40) #[] #[]] w (.tuple #[.string ⟨(za (x - y)).toArray⟩,.bool true]):=by
 have hlx:=zcj hx
 have hly:=zcj hy
 have hxd:=x.den_nz
 have hyd:=y.den_nz
 have HR:Hid (Rat.divInt (x.num*y.den - y.num*x.den) ((x.den:Int)*y.den)=x - y):=LH (by conv=>rhs;rw[← Rat.num_divInt_den x,← Rat.num_divInt_den y,Rat.divInt_sub_divInt _ _ (by omega) (by omega)])
 have hd0:((x.den:Int)*y.den)≠0:=Int.mul_ne_zero (by omega) (by omega)
 obtain⟨hx1,hx2⟩:=hx
 obtain⟨hy1,hy2⟩:=hy
 have m0:=zab (a:=x.num) (b:=(y.den:Int)) (by omega) (by omega)
 have m1:=zab (a:=y.num) (b:=(x.den:Int)) (by omega) (by omega)
 have m2:=zab (a:=(x.den:Int)) (b:=(y.den:Int)) (by omega) (by omega)
 go_enter Tryz.func39,Tryz.ntmps39
 go_wp2_with fail
 refine(zB _ (by omega) _).mono ?_
 rw[zaM ⟨hx1,hx2⟩]
 rintro e w1⟨rfl,hq1⟩
 go_wp2_with fail
 refine(zB _ (by omega) _).mono ?_
 rw[zaM ⟨hy1,hy2⟩]
 rintro e w2⟨rfl,hq2⟩
 have hz2:=hq2.size
 rw[World.size_alloc]at hz2
 have hQ2:Q w w2:=hq1.trans ((show Below w1.heap.size w1 _ from bt).trans (hq2.mono (by simp)) |>.mono hq1.size)
 have B1:=(Blk.new w1 [.int .i64 x.num,.int .i64 (x.den:Int)] 90).keep hq2 (by simp)
 have c0:=B1.cell
 have l1:=B1.lt
 go_wp2_with fail
 refine cx (zfV x y ⟨hx1,hx2⟩ ⟨hy1,hy2⟩ _) fun w3 hq3=>?_
 have hQ3:Q w w3:=hQ2.trans ((show Below w2.heap.size w2 _ from bt).trans (hq3.mono (by simp)) |>.mono hQ2.size)
 go_wp2_with fail
 refine cx (zc7 _ _ hd0 (by omega) (by omega) _ (hE.q hQ3)) fun w4 hq4=>?_
 go_wp2
 go_ret2
 exact⟨by rw[← HR.out];rfl,hQ3.trans (hq4.mono hQ3.size)⟩
theorem zgL(x y:Rat)(hx:zy x)(hy:zy y)(w:World)(hE:Env w) :
  CR 11 #[.string ⟨(za x).toArray⟩,.string ⟨(za y).toArray⟩] w (.tuple #[.string ⟨(za (x - y)).toArray⟩,.int .i64 0]):=by
 go_enter Tryz.func11,Tryz.ntmps11
 go_wp2_with fail
 refine cx (zgH x y hx hy _ hE) fun w1 hq1=>?_
 go_wp2
 go_ret2
 exact⟨rfl,hq1⟩
theorem zgJ(x y:Rat)(hx:zy x)(hy:zy y)(hy0:y.num≠0)(w:World)(hE:Env w) :
  CR 39 #[.string ⟨(za x).toArray⟩,.string ⟨(za y).toArray⟩,.func (.func 61) #[] #[]] w (.tuple #[.string ⟨(za (x / y)).toArray⟩,.bool true]):=by
 have hlx:=zcj hx
 have hly:=zcj hy
 have hxd:=x.den_nz
 have hyd:=y.den_nz
 have HR:Hid (Rat.divInt (x.num*y.den) ((x.den:Int)*y.num)=x / y):=LH (by conv=>rhs;rw[← Rat.num_divInt_den x,← Rat.num_divInt_den y,Rat.div_def,Rat.inv_divInt,Rat.divInt_mul_divInt])
 have hd0:((x.den:Int)*y.num)≠0:=Int.mul_ne_zero (by omega) hy0
 obtain⟨hx1,hx2⟩:=hx
 obtain⟨hy1,hy2⟩:=hy
 have m0:=zab (a:=x.num) (b:=(y.den:Int)) (by omega) (by omega)
 have m1:=zab (a:=(x.den:Int)) (b:=y.num) (by omega) (by omega)
 go_enter Tryz.func39,Tryz.ntmps39
 go_wp2_with fail
 refine(zB _ (by omega) _).mono ?_
 rw[zaM ⟨hx1,hx2⟩]
 rintro e w1⟨rfl,hq1⟩
 go_wp2_with fail
 refine(zB _ (by omega) _).mono ?_
 rw[zaM ⟨hy1,hy2⟩]
 rintro e w2⟨rfl,hq2⟩
 have hz2:=hq2.size
 rw[World.size_alloc]at hz2
 have hQ2:Q w w2:=hq1.trans ((show Below w1.heap.size w1 _ from bt).trans (hq2.mono (by simp)) |>.mono hq1.size)
 have B1:=(Blk.new w1 [.int .i64 x.num,.int .i64 (x.den:Int)] 90).keep hq2 (by simp)
 have c0:=B1.cell
 have l1:=B1.lt
 go_wp2_with fail
 refine cx (zfX x y ⟨hx1,hx2⟩ ⟨hy1,hy2⟩ _) fun w3 hq3=>?_
 have hQ3:Q w w3:=hQ2.trans ((show Below w2.heap.size w2 _ from bt).trans (hq3.mono (by simp)) |>.mono hQ2.size)
 go_wp2_with fail
 refine cx (zc7 _ _ hd0 (by omega) (by omega) _ (hE.q hQ3)) fun w4 hq4=>?_
 go_wp2
 go_ret2
 exact⟨by rw[← HR.out];rfl,hQ3.trans (hq4.mono hQ3.size)⟩
theorem zgM(x y:Rat)(hx:zy x)(hy:zy y)(hy0:y.num≠0)(w:World)(hE:Env w) :
  CR 25 #[.string ⟨(za x).toArray⟩,.string ⟨(za y).toArray⟩] w (.tuple #[.string ⟨(za (x / y)).toArray⟩,.int .i64 0]):=by
 have hn:(za y == [48])=false:=by
  rw[beq_eq_false_iff_ne];intro e;apply hy0
  have:za y=za 0:=by rw[e];simp[za,Lib.itoa,Lib.decDigits]
  rw[zaR this];rfl
 have hn':=zaC hn
 go_enter Tryz.func25,Tryz.ntmps25
 go_wp2_with fail
 refine cx (zgJ x y hx hy hy0 _ hE) fun w1 hq1=>?_
 go_wp2
 go_ret2
 exact⟨rfl,hq1⟩
end
end Go.Proofs.YtdecodpgdainiaaGreatDoor
