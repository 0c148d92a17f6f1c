/-
  RefM QA QB QC QD QE QF QG QH QI QJ QK QL QM, one behind the other.; PA PB PC PD PE PF PG PH PI PJ PK PL LDepths, one behind the other.
-/
import Derived.Test.YthdpnkkddhcacaaGreatDoorBKMA
import Derived.Test.YthdpnkkddhcacaaGreatDoorBKSD
import Derived.Laws.IdiomStrings
set_option maxRecDepth 100000
set_option maxHeartbeats 2000000
namespace Kp
end Kp
namespace Go.Proofs.YthdpnkkddhcacaaGreatDoor
section
open Go.RowKit Kp
theorem zuR{c:UInt8}(h:c≠48):((c.toNat:Int) == 48)=false:=by
 have h2:c.toNat≠48:=fun e=>h (UInt8.toNat_inj.1 e)
 rw[beq_eq_false_iff_ne];omega
def zlH(l:Str):List Value:=l.map fun c=>.int .u8 (c.toNat:Int)
theorem zoJ(l:Str)(j:Nat)(hj:j<l.length):(zlH l)[j]? = some (.int .u8 ((at0 l j).toNat:Int)):=by
 unfold zlH;rw[List.getElem?_map,List.getElem?_eq_getElem hj,zcs l j hj];rfl
theorem zrj(l:Str)(j:Nat)(c:UInt8):(zlH l).set j (.int .u8 (c.toNat:Int))=zlH (l.set j c):=by simp[zlH,List.map_set]
theorem znV(n:Nat):List.replicate n (Value.int .u8 0)=zlH (List.replicate n 0):=by simp[zlH]
theorem zpW{w:World}{B g n cap:Nat}{l:Str}(h:w.ownsRow B 5 1 (.slice (some ⟨g,0,none⟩) n cap) n (zlH l))(hn:l.length=n)(k:Nat)(hk:k≤n)(c:Nat) :
  (convert 155 9 (.slice (some ⟨g,k,none⟩) (n - k) c)).run Tryz.prog w=.ok (.string ⟨(l.drop k).toArray⟩) w:=by
 have e:n - k=(l.drop k).length:=by rw[List.length_drop,hn]
 rw[e]
 refine run_convert_bytes_back w 155 9 5 ⟨g,k,none⟩ c (l.drop k) Tryz.underlying155 Tryz.underlying5 Tryz.underlying9 (fun j hj=>?_)
 have hadd:(⟨g,k,none⟩:Addr).add j=⟨g,k+j,none⟩:=by unfold Addr.add;split <;> simp_all
 rw[List.length_drop]at hj
 rw[hadd,h.cellAt (k+j) (by omega),zoJ l (k+j) (by omega),List.getElem_drop,zcs]
theorem zn7{n:Int}(h0:0≤n)(h1:n<256):((UInt8.ofNat n.toNat).toNat:Int)=n:=by
 rw[UInt8.toNat_ofNat_of_lt' (by show n.toNat<256;omega)];omega
theorem zp3(x:Int):x.natAbs<10 ^ (Lib.itoa x).length:=Nat.lt_of_lt_of_le (zdW x.natAbs) (Nat.pow_le_pow_right (by decide) (zdu x))
end
section
open Go.RowKit Kp
open Go.Lib (decDigits)
def zcN(s:Str):Bool:=decide (zcG s≠0∧¬ zcG s<s.length)
theorem zjI(s:Str):zcN s=true ↔ (s≠[]∧zaB s∧(s.head? = some 48→s=[48])):=by
 unfold zcN;rw[decide_eq_true_iff];exact zmQ
theorem zmY{s:Str}(h:zaB s)(k:Nat)(hk:k<s.length):zat (at0 s k)=true:=h _ (by rw[zcs s k hk];exact List.getElem_mem hk)
theorem zrp{s:Str}(h:∀ k,k<s.length→zat (at0 s k)=true):zaB s:=by
 intro c hc
 obtain⟨k,hk,rfl⟩:=List.mem_iff_getElem.1 hc
 rw[← zcs s k hk];exact h k hk
theorem zpR{s:Str}(h:1<s.length)(h0:at0 s 0=48):zcN s=false:=by
 rw[← Bool.not_eq_true,zjI]
 rintro⟨ne,-,hz⟩
 rw[zb6 ne,h0]at hz
 have:=hz rfl
 rw[this]at h;simp at h
theorem zpS{s:Str}(h0:s≠[])(h:¬ (1<s.length∧at0 s 0=48)):zcN s=true ↔ zaB s:=by
 rw[zjI]
 refine⟨fun x=>x.2.1,fun x=>⟨h0,x,fun e=>?_⟩⟩
 rw[zb6 h0]at e
 have e48:=Option.some.inj e
 have hl:s.length=1:=by
  have:=List.length_pos_iff.2 h0
  by_cases hc:1<s.length
  ·exact absurd ⟨hc,e48⟩ h
  ·omega
 obtain⟨c,rfl⟩:=List.length_eq_one_iff.1 hl
 simp only[at0,List.getD_cons_zero]at e48;rw[e48]
theorem zhQ(s:Str)(hl:s.length≤1000000000)(w:World) :
  Calls Tryz.prog 103 #[.string ⟨s.toArray⟩] w fun e w'=>e=.returned (.bool (zcN s))∧w'=w:=by
 obtain⟨b,hb⟩:∃ b,zcN s=b:=⟨_,rfl⟩
 rw[hb]
 by_cases h0:s.length=0
 ·have hz:((s.length:Int) == 0)=true:=by rw[h0];rfl
  obtain rfl:b=false:=by
   rw[← hb,← Bool.not_eq_true,zjI]
   rintro⟨ne,-⟩
   exact ne (List.length_eq_zero_iff.1 h0)
  clear hb h0
  go_enter Tryz.func103,Tryz.ntmps103
  go_wp2
  go_ret
  exact⟨rfl,rfl⟩
 ·have hz:((s.length:Int) == 0)=false:=by rw[beq_eq_false_iff_ne];omega
  have hpos:(0:Int)<(s.length:Int):=by omega
  have hne:s≠[]:=fun e=>h0 (by rw[e];rfl)
  by_cases h1:1<s.length∧at0 s 0=48
  ·obtain rfl:b=false:=by rw[← hb];exact zpR h1.1 h1.2
   have hlt:(1:Int)<(s.length:Int):=by omega
   have h48:(((at0 s 0).toNat:Int) == 48)=true:=by rw[h1.2];rfl
   clear h1 hb h0 hne
   go_enter Tryz.func103,Tryz.ntmps103
   go_wp2
   go_ret
   exact⟨rfl,rfl⟩
  ·have hr:=zpS hne h1
   rw[hb]at hr
   have HF:=LH (show ∀ k,k<s.length→zat (at0 s k)=false→b=false from fun k hk hd=>by
    cases b with
    | false=>rfl
    | true=>have:=zmY (hr.1 rfl) k hk;rw[hd]at this;cases this)
   have HT:=LH (show (∀ k,k<s.length→zat (at0 s k)=true)→b=true from fun h=>hr.2 (zrp h))
   have hway:(¬ (1:Int)<(s.length:Int))∨((1:Int)<(s.length:Int)∧(((at0 s 0).toNat:Int) == 48)=false):=by
    by_cases hc:1<s.length
    ·exact .inr ⟨by omega,zuR (fun e=>h1 ⟨hc,e⟩)⟩
    ·exact .inl (by omega)
   clear hr h1 hb h0 hne
   go_enter Tryz.func103,Tryz.ntmps103
   rcases hway with hw | ⟨hw,hw2⟩
   all_goals go_wp2
   all_goals go_loop [3] (fun i=>∃ k:Nat,k≤s.length∧i=.int .i64 k∧Hid (∀ j,j<k→zat (at0 s j)=true)) (fun i=>s.length - (intOf i).toNat)
   all_goals first
    | (exact⟨0,by omega,rfl,LH (fun j hj=>absurd hj (by omega))⟩)
    | (
      obtain⟨k,hk,rfl,HK⟩:=hrel
      by_cases hlt:k<s.length
      ·cases hd:zat (at0 s k)with
       | false =>
        obtain rfl:b=false:=HF.out k hlt hd
        clear HF HT HK
        rcases(zdf _).1 hd with d1 | d1
        ·have d2:(((at0 s k).toNat:Int)<48):=by omega
         clear hd
         go_wp2
         go_ret
         exact⟨rfl,rfl⟩
        ·have d2:¬ (at0 s k).toNat<48:=by omega
         clear hd
         go_wp2
         go_ret
         exact⟨rfl,rfl⟩
       | true =>
        obtain⟨d1,d2⟩:=(zcm _).1 hd
        have d1':¬ (at0 s k).toNat<48:=by omega
        have HK2:=LH (show ∀ j,j<k+1→zat (at0 s j)=true from fun j hj=>by
         by_cases e:j=k
         ·rw[e];exact hd
         ·exact HK.out j (by omega))
        clear hd
        go_wp2
        go_round
        case rel=>exact⟨k+1,by omega,by go_num,HK2⟩
        case measure=>simp[intOf];omega
      ·obtain rfl:k=s.length:=by omega
       obtain rfl:b=true:=HT.out HK.out
       clear HF HT HK
       go_wp2
       go_ret
       exact⟨rfl,rfl⟩)
theorem zog{s:Str}{k:Nat}(hk:k<s.length)(h:at0 s k=47)(hn:∀ j,j<k→at0 s j≠47):zu s=zp9 s k∧zaJ s=zaY s (k+1)∧zG s=true:=by
 have e:s=s.take k++47::s.drop (k+1):=by
  conv=>lhs;rw[← List.take_append_drop k s,List.drop_eq_getElem_cons hk,← zcs s k hk,h]
 have hp:∀ y∈s.take k,decide (y≠47)=true:=fun y hy=>by
  obtain⟨j,hj,rfl⟩:=List.mem_iff_getElem.1 hy
  rw[List.length_take]at hj
  rw[List.getElem_take,decide_eq_true_iff,← zcs s j (by omega)]
  exact hn j (by omega)
 have hh:zG s=true:=by unfold zG;rw[decide_eq_true_iff,e];simp
 have hn1:=zbZ (fun c:UInt8=>decide (c≠47)) 47 (s.drop (k+1)) (by simp) (s.take k) hp
 have hn2:=zdF (fun c:UInt8=>decide (c≠47)) 47 (s.drop (k+1)) (by simp) (s.take k) hp
 rw[← e]at hn1 hn2
 refine⟨hn1,?_,hh⟩
 unfold zaJ;rw[if_pos hh];unfold zar;rw[hn2];rfl
theorem zkm{s:Str}(hn:∀ j,j<s.length→at0 s j≠47):zu s=s∧zaJ s=[]∧zG s=false:=by
 have hm:¬ (47:UInt8)∈s:=fun hm=>by
  obtain⟨j,hj,e⟩:=List.mem_iff_getElem.1 hm
  exact hn j hj (by rw[zcs s j hj,e])
 have hh:zG s=false:=by unfold zG;rw[decide_eq_false_iff_not];exact hm
 refine⟨zbt _ _ (fun x hx=>?_),?_,hh⟩
 ·rw[decide_eq_true_iff];intro e;rw[e]at hx;exact hm hx
 ·unfold zaJ;rw[hh];rfl
theorem zuO{c:UInt8}(h:c≠47):((c.toNat:Int) == 47)=false:=by
 have h2:c.toNat≠47:=fun e=>h (UInt8.toNat_inj.1 e)
 rw[beq_eq_false_iff_ne];omega
theorem zdn{fn:Func}{t u v x:Tmp}(h:fn.results=#[.tmp t,.tmp u,.tmp v,.tmp x])(tmps:Array Value)(P:Program)(w:World) :
  (results fn tmps).run P w=.ok (.tuple #[tmps.getD t undef,tmps.getD u undef,tmps.getD v undef,tmps.getD x undef]) w:=by
 simp[results,h,go_sem]
def splitV(a:Str):Value:=.tuple #[.bool (decide (a.head? = some 45)),.string ⟨(zu (zo a)).toArray⟩,.string ⟨(zaJ (zo a)).toArray⟩,.bool (zG (zo a))]
theorem zi1(a:Str)(hl:a.length≤1000000000)(w:World) :
  CR 55 #[.string ⟨a.toArray⟩] w (splitV a):=by
 have hul:=zeJ a
 by_cases hm:a.head? = some 45
 ·have hd:decide (a.head? = some 45)=true:=by rw[decide_eq_true_iff];exact hm
  have hc:=zfj hm
  have hdr:zaY a 1=zo a:=by
   conv=>lhs;rw[hc]
   rfl
  have ha0:(((at0 a 0).toNat:Int) == 45)=true:=by rw[hc];rfl
  have hpos:(0:Int)<(a.length:Int):=by rw[hc,List.length_cons];omega
  unfold splitV
  rw[hd]
  clear hm hd hc
  generalize zo a=s at *
  have H1:=LH (fun k=>zog (s:=s) (k:=k))
  have H2:=LH (zkm (s:=s))
  generalize zu s=N at *
  generalize zaJ s=D at *
  generalize zG s=f at *
  go_enter Tryz.func55,Tryz.ntmps55
  go_wp2
  go_loop [8] (fun i=>∃ k:Nat,k≤s.length∧i=.int .i64 k∧Hid (∀ j,j<k→at0 s j≠47)) (fun i=>s.length - (intOf i).toNat)
  case atStart=>exact⟨0,by omega,rfl,LH (fun j hj=>absurd hj (by omega))⟩
  case round =>
   obtain⟨k,hk,rfl,HK⟩:=hrel
   by_cases hlt:k<s.length
   ·by_cases h47:at0 s k=47
    ·have hb:(((at0 s k).toNat:Int) == 47)=true:=by rw[h47];rfl
     obtain⟨rfl,rfl,rfl⟩:=H1.out k hlt h47 HK.out
     clear h47 HK H1 H2
     have f1:(k:Int)≤(s.length:Int):=by omega
     have f2:(k:Int)+1≤(s.length:Int):=by omega
     have f3:=Go.IntWalk.i64_in ((k:Int)+1) (by omega)
     go_wp2
     go_quiet (fail)
     go_wp2
     (try simp only[Exit.inBlock,Exit.then])
     refine bodyPost_ret (zdn rfl _ _ _) rfl ?_
     exact⟨rfl,bt⟩
    ·have hb:=zuO h47
     have HK2:=LH (show ∀ j,j<k+1→at0 s j≠47 from fun j hj=>by
      by_cases e:j=k
      ·rw[e];exact h47
      ·exact HK.out j (by omega))
     clear h47
     go_wp2
     go_round
     case rel=>exact⟨k+1,by omega,by go_num,HK2⟩
     case measure=>simp[intOf];omega
   ·obtain rfl:k=s.length:=by omega
    obtain⟨rfl,rfl,rfl⟩:=H2.out HK.out
    clear HK H1 H2
    go_wp2
    (try simp only[Exit.inBlock,Exit.then])
    refine bodyPost_ret (zdn rfl _ _ _) rfl ?_
    exact⟨rfl,bt⟩
 ·have hd:decide (a.head? = some 45)=false:=by rw[decide_eq_false_iff_not];exact hm
  have hw:¬ (0:Int)<(a.length:Int)∨((0:Int)<(a.length:Int)∧(((at0 a 0).toNat:Int) == 45)=false):=by
   by_cases h:a=[]
   ·exact .inl (by rw[h];simp)
   ·refine .inr ⟨by have:=List.length_pos_iff.2 h;omega,zuC (fun e=>hm (by rw[zb6 h,e]))⟩
  unfold splitV
  rw[hd,zbi hm]
  rw[zbi hm]at hul
  clear hm hd
  have H1:=LH (fun k=>zog (s:=a) (k:=k))
  have H2:=LH (zkm (s:=a))
  generalize zu a=N at *
  generalize zaJ a=D at *
  generalize zG a=f at *
  go_enter Tryz.func55,Tryz.ntmps55
  rcases hw with hw | ⟨hw,hw2⟩
  all_goals go_wp2
  all_goals go_loop [8] (fun i=>∃ k:Nat,k≤a.length∧i=.int .i64 k∧Hid (∀ j,j<k→at0 a j≠47)) (fun i=>a.length - (intOf i).toNat)
  all_goals first
   | (exact⟨0,by omega,rfl,LH (fun j hj=>absurd hj (by omega))⟩)
   | (
     obtain⟨k,hk,rfl,HK⟩:=hrel
     by_cases hlt:k<a.length
     ·by_cases h47:at0 a k=47
      ·have hb:(((at0 a k).toNat:Int) == 47)=true:=by rw[h47];rfl
       obtain⟨rfl,rfl,rfl⟩:=H1.out k hlt h47 HK.out
       clear h47 HK H1 H2
       have f1:(k:Int)≤(a.length:Int):=by omega
       have f2:(k:Int)+1≤(a.length:Int):=by omega
       have f3:=Go.IntWalk.i64_in ((k:Int)+1) (by omega)
       go_wp2
       go_quiet (fail)
       go_wp2
       (try simp only[Exit.inBlock,Exit.then])
       refine bodyPost_ret (zdn rfl _ _ _) rfl ?_
       exact⟨rfl,bt⟩
      ·have hb:=zuO h47
       have HK2:=LH (show ∀ j,j<k+1→at0 a j≠47 from fun j hj=>by
        by_cases e:j=k
        ·rw[e];exact h47
        ·exact HK.out j (by omega))
       clear h47
       go_wp2
       go_round
       case rel=>exact⟨k+1,by omega,by go_num,HK2⟩
       case measure=>simp[intOf];omega
     ·obtain rfl:k=a.length:=by omega
      obtain⟨rfl,rfl,rfl⟩:=H2.out HK.out
      clear HK H1 H2
      go_wp2
      (try simp only[Exit.inBlock,Exit.then])
      refine bodyPost_ret (zdn rfl _ _ _) rfl ?_
      exact⟨rfl,bt⟩)
theorem zed(s:Str)(hd:zaB s)(hl:s.length≤18)(w:World) :
  Calls Tryz.prog 51 #[.string ⟨s.toArray⟩] w fun e w'=>e=.returned (.int .i64 (nval s))∧w'=w:=by
 have HD:=LH (fun k hk=>zmY hd k hk)
 have HLT:=LH (fun k=>zeZ (s:=s) (k:=k) (fun c hc=>hd c (List.mem_of_mem_take hc)))
 have HTK:=LH (fun k hk=>zfC (s:=s) (k:=k) hk)
 have HALL:Hid (s.take s.length=s):=LH List.take_length
 clear hd
 go_enter Tryz.func51,Tryz.ntmps51
 go_wp2
 go_loop [3,4] (fun n i=>∃ k:Nat,k≤s.length∧i=.int .i64 k∧n=.int .i64 (nval (s.take k))) (fun _ i=>s.length - (intOf i).toNat)
 case atStart=>exact⟨0,by omega,rfl,rfl⟩
 case round =>
  obtain⟨k,hk,rfl,rfl⟩:=hrel
  by_cases hlt:k<s.length
  ·have hv:=HLT.out k
   have hp:10 ^ k≤10 ^ 17:=Nat.pow_le_pow_right (by decide) (by omega)
   have hv2:nval (s.take k)<100000000000000000:=Nat.lt_of_lt_of_le hv hp
   clear hv hp
   obtain⟨d1,d2⟩:=(zcm _).1 (HD.out k hlt)
   have HS:Hid (nval (s.take (k+1))=10*nval (s.take k)+((at0 s k).toNat - 48)):=LH (HTK.out k hlt)
   generalize nval (s.take k)=V at *
   go_wp2
   go_round
   case rel=>exact⟨k+1,by omega,by go_num,by rw[HS.out];go_num⟩
   case measure=>simp[intOf];omega
  ·obtain rfl:k=s.length:=by omega
   rw[HALL.out]
   go_wp2
   go_ret
   exact⟨rfl,rfl⟩
theorem zi3(a b:Nat)(w:World)(ha1:a≤9223372036854775807)(hb1:b≤9223372036854775807) :
  CR 49 #[.int .i64 a,.int .i64 b] w (.int .i64 (Nat.gcd a b)):=by
 go_enter Tryz.func49,Tryz.ntmps49
 go_wp2
 go_loopw [0,1] (zsU w (Nat.gcd a b)) (fun _ y _=>(intOf y).toNat)
 case atStart=>exact⟨0,a,b,rfl,rfl,ha1,hb1,rfl,rfl⟩
 case round =>
  obtain⟨n,p,q,rfl,rfl,hp,hq,hg,rfl⟩:=hrel
  have HG:=LH hg;clear hg
  by_cases h0:q=0
  ·subst h0
   go_wp2
   go_ret
   have:=HG.out
   simp at this
   exact⟨by rw[← this];rfl,bt⟩
  ·have hne:((q:Int) == 0)=false:=by simp;omega
   have hm:=Nat.mod_lt p (show 0<q by omega)
   go_wp2
   go_quiet (fail)
   go_wp2
   go_roundw
   case rel=>exact⟨n+nq,q,p % q,rfl,by go_num,by omega,by omega,by rw[← HG.out,ziB p q],by simp⟩
   case measure=>simp[intOf];omega
structure Wd2 (X:Int) (out:Str) (i:Nat) (n:Int):Prop where
 len:out.length=20
 i1:1≤i
 i20:i≤20
 dig:zaB (out.drop i)
 val:X=nval (out.drop i)+10 ^ (20 - i)*n
 n0:0≤n
 nlt:n<10 ^ (i - 1)
 pos:i=20∨0<n
theorem Wd2.start{X:Int}(h0:0≤X)(h:X≤9223372036854775807):Wd2 X (List.replicate 20 0) 20 X:=by
 refine⟨by simp,by omega,by omega,?_,?_,h0,?_,.inl rfl⟩
 ·rw[List.drop_of_length_le (by simp)];intro c hc;cases hc
 ·rw[List.drop_of_length_le (by simp)];simp[nval,zfw]
 ·exact Int.lt_of_le_of_lt h (by decide)
theorem Wd2.step{X:Int}{out:Str}{i:Nat}{n:Int}(h:Wd2 X out i n){p:Nat}(hp:p+1=i) :
  p<20∧(n / 10=0→(out.set p (UInt8.ofNat (48+n % 10).toNat)).drop p=decDigits X.toNat)∧(n / 10≠0→Wd2 X (out.set p (UInt8.ofNat (48+n % 10).toNat)) p (n / 10)):=by
 subst hp
 have hn0:=h.n0
 have hn1:=h.nlt
 have hl:=h.len
 have hi:=h.i20
 have hc:=zn7 (n:=48+n % 10) (by omega) (by omega)
 generalize UInt8.ofNat (48+n % 10).toNat=c at *
 have hlt:p<out.length:=by omega
 have e:(out.set p c).drop p=c::out.drop (p+1):=by
  rw[List.drop_eq_getElem_cons (by simpa using hlt),List.getElem_set_self]
  congr 1
  rw[List.drop_set_of_lt (by omega)]
 have hd:=h.dig
 have hv:=h.val
 have hcd:zat c=true:=(zcm _).2 (by omega)
 have hall:zaB (c::out.drop (p+1)):=by
  intro x hx
  rcases List.mem_cons.1 hx with rfl | hx
  ·exact hcd
  ·exact hd x hx
 have hval:X=nval (c::out.drop (p+1))+10 ^ (20 - p)*(n / 10):=by
  rw[zdT,List.length_drop,show out.length - (p+1)=20 - (p+1) by omega,hv]
  have hpow:(10:Int) ^ (20 - p)=10 ^ (20 - (p+1))*10:=by
   rw[show 20 - p=(20 - (p+1))+1 by omega,Int.pow_succ]
  rw[hpow]
  have hcn:((c.toNat - 48:Nat):Int)=n % 10:=by omega
  push_cast
  rw[hcn]
  have hdm:n=10*(n / 10)+n % 10:=by omega
  generalize n / 10=q at *
  generalize n % 10=r at *
  subst hdm
  generalize (10:Int) ^ (20 - (p+1))=Pw at *
  grind
 refine⟨by omega,fun h0=>?_,fun h0=>?_⟩
 ·rw[e]
  rw[h0,Int.mul_zero,Int.add_zero]at hval
  rw[show X.toNat=nval (c::out.drop (p+1)) by omega]
  refine(zbg _ (by simp) hall (fun h48=>?_)).symm
  simp only[List.head?_cons,Option.some.injEq]at h48
  have hn:n=0:=by rw[h48]at hc;simp at hc;omega
  rcases h.pos with hp | hp
  ·rw[h48,List.drop_of_length_le (by omega)]
  ·omega
 ·have hp0:p≠0:=fun e0=>by
   subst e0
   rw[show (10:Int) ^ (0+1 - 1)=1 from rfl]at hn1
   omega
  refine⟨by simpa using hl,by omega,by omega,by rw[e];exact hall,by rw[e];exact hval,by omega,?_,.inr (by omega)⟩
  have hpow:(10:Int) ^ (p+1 - 1)=10 ^ (p - 1)*10:=by
   rw[show p+1 - 1=(p - 1)+1 by omega,Int.pow_succ]
  rw[hpow]at hn1
  omega
end
section
open Go.RowKit Kp
theorem zee(X:Int)(h0:0≤X)(h1:X≤9223372036854775807)(w:World) :
  CR 50 #[.int .i64 X] w (.string ⟨(Lib.itoa X).toArray⟩):=by
 rw[itoa_nonneg h0]
 obtain⟨i0,hi,hz0,hz1,hz2⟩:=info_parts infoByte
 have HS0:=LH (Wd2.start h0 h1)
 obtain⟨W5,hmk,hown,hgr⟩:=run_make_full (P:=Tryz.prog) w w.heap.size 155 5 i0 _ 1 Tryz.underlying155 hi hz0 hz1 .i64 .i64 20 (by rw[hz2];omega) (by unfold maxLen;omega) (Nat.le_refl _)
 rw[show (Value.int .u8 0).cells=#[Value.int .u8 0]from rfl,Nat.mul_one,toList_madeCells_one,znV]at hown
 have hq5:Q w W5:=(Below.refl w.heap.size w).grown hgr (Nat.le_refl _) (fun k hk=>by cases hk)
 have hg5:w.heap.size<W5.heap.size:=(hown.lt w.heap.size rfl).2
 obtain⟨g,hgg⟩:∃ g,w.heap.size=g:=⟨_,rfl⟩
 have hgw:w.heap.size≤g:=by omega
 rw[hgg]at hmk hown hg5
 have HO:=LH hown
 clear hown hgr hgg
 rw[show ((20:Nat):Int)=20 from rfl]at hmk
 go_enter Tryz.func50,Tryz.ntmps50
 go_wp2_with fail
 clear hmk
 go_loopw [0,4] (fun nv iv wr=>∃ (i:Nat) (N:Int) (out:Str),iv=.int .i64 i∧nv=.int .i64 N∧N≤9223372036854775807∧Hid (Wd2 X out i N)∧Hid (wr.ownsRow g 5 1 (.slice (some ⟨g,0,none⟩) 20 20) 20 (zlH out))∧Q w wr) (fun _ iv _=>(intOf iv).toNat)
 case atStart=>exact⟨20,X,_,rfl,rfl,h1,HS0,HO,hq5⟩
 case round =>
  obtain⟨i,N,out,rfl,rfl,hNm,HI,HO1,hQ⟩:=hrel
  obtain⟨p,rfl⟩:∃ p,i=p+1:=⟨i - 1,by have:=HI.out.i1;omega⟩
  obtain⟨hp20,hs0,hs1⟩:=HI.out.step rfl
  have hN0:=HI.out.n0
  have hNb:N<10 ^ 19:=Int.lt_of_lt_of_le HI.out.nlt (zbv (by decide) (by omega))
  have hpe:((p+1:Nat):Int) - 1=(p:Int):=by omega
  have hp0:(0:Int)≤(p:Int):=by omega
  have hpn:(p:Int)<20:=by omega
  have hpl:(p:Int)≤20:=by omega
  have hw3:=Go.IntWalk.i64_in (p:Int) (by omega)
  have hw4:=Go.IntWalk.i64_in (48+N % 10) (by omega)
  have hw5:=Go.IntWalk.u8_in (48+N % 10) (by omega)
  have hr3:=HO1.out
  have hol:out.length=20:=HI.out.len
  have hc3:=hr3.cellAt p (by omega)
  have hf3:=hr3.frozenAt p
  rw[zoJ out p (by omega)]at hc3
  obtain⟨hr4,-⟩:=hr3.stored p (.int .u8 (48+N % 10))
  have hc:=zn7 (n:=48+N % 10) (by omega) (by omega)
  have hr5:=hr4
  rw[← hc,zrj]at hr5
  rw[hc]at hr5
  have hol2:(out.set p (UInt8.ofNat (48+N % 10).toNat)).length=20:=by simpa using hol
  have HR5:=LH hr5
  have HS1:=LH hs1
  have hQ4:Q w (wr.setCell ⟨g,p,none⟩ (.int .u8 (48+N % 10))):=hQ.setCell (p:=⟨g,p,none⟩) hgw _
  by_cases hz:N / 10=0
  ·have hb:(N / 10 == 0)=true:=by rw[beq_iff_eq];exact hz
   have hcv:=zpW hr5 hol2 p (by omega) (20 - p)
   rw[hs0 hz]at hcv
   clear hr3 hr4 hr5 hc hs0 hs1 HI hNb hz HS1
   go_wp2
   go_ret
   exact⟨rfl,hQ4⟩
  ·have hb:(N / 10 == 0)=false:=by rw[beq_eq_false_iff_ne];exact hz
   have HST:=LH (HS1.out hz)
   clear hr3 hr4 hr5 hc hs0 hs1 HI hNb hz HS1
   go_wp2
   go_roundw
   case rel=>exact⟨p,N / 10,_,by go_num,by go_num,by omega,HST,HR5,hQ4⟩
   case measure=>simp[intOf]
theorem znK{n k:Nat}(hk:0<k):0<Nat.gcd n k∧0<k / Nat.gcd n k∧(0<n→0<n / Nat.gcd n k):=by
 have hg:0<Nat.gcd n k:=Nat.gcd_pos_of_pos_right _ hk
 exact⟨hg,Nat.div_pos (Nat.le_of_dvd hk (Nat.gcd_dvd_right ..)) hg,fun hn=>Nat.div_pos (Nat.le_of_dvd hn (Nat.gcd_dvd_left ..)) hg⟩
theorem zeQ(n k:Nat)(hk:0<k)(hn:n≤4611686018427387904)(hk1:k≤4611686018427387904)(w:World) :
  CR 16 #[.int .i64 n,.int .i64 k] w (.string ⟨(ze (Rat.divInt n k)).toArray⟩):=by
 obtain⟨p1,p2,-⟩:=znK (n:=n) hk
 have hr:=zd8 (n:Int) k hk
 rw[Int.natAbs_natCast,Int.tdiv_eq_ediv_of_nonneg (by omega),← Int.natCast_ediv,← Int.natCast_ediv]at hr
 have HR:=LH hr
 clear hr
 generalize ze (Rat.divInt n k)=r at *
 have HG:=LH (zi3 n k w (by omega) (by omega))
 generalize Nat.gcd n k=g at *
 have b1:n / g≤n:=Nat.div_le_self ..
 have b2:k / g≤k:=Nat.div_le_self ..
 have hd1:(n:Int) / (g:Int)=((n / g:Nat):Int):=by simp
 have hd2:(k:Int) / (g:Int)=((k / g:Nat):Int):=by simp
 generalize n / g=x at *
 generalize k / g=y at *
 have hw1:=Go.IntWalk.i64_in (x:Int) (by omega)
 have hw2:=Go.IntWalk.i64_in (y:Int) (by omega)
 have hg3:((g:Int) == 0)=false:=by rw[beq_eq_false_iff_ne];omega
 have hn0:¬ (n:Int)<0:=by omega
 have HD1:=LH (fun w=>zee (x:Int) (by omega) (by omega) w)
 have HD2:=LH (fun w=>zee (y:Int) (by omega) (by omega) w)
 have l19:(10:Nat) ^ 19=10000000000000000000:=by decide
 have l1:=zW (x:Int) (zaN (n:=19) (by omega) (by decide))
 have l2:=zW (y:Int) (zaN (n:=19) (by omega) (by decide))
 clear l19
 by_cases h1:y=1
 ·have HW:Hid (r=Lib.itoa (x:Int)):=LH (by rw[HR.out,if_pos (by omega)])
  have hb:((y:Int) == 1)=true:=by rw[beq_iff_eq];omega
  have ha1:=ziD Tryz.prog [] (Lib.itoa (x:Int)) (by simp;omega)
  clear HR h1 HD2
  generalize Lib.itoa (x:Int)=X at *
  go_enter Tryz.func16,Tryz.ntmps16
  go_wp2_with fail
  refine HG.out.mono ?_
  rintro e w1⟨rfl,hq1⟩
  go_wp2_with fail
  refine cx (HD1.out _) fun w2 hq2=>?_
  have hQ2:=Q.trans hq1 hq2
  go_wp2
  go_ret
  exact⟨by rw[HW.out];rfl,hQ2⟩
 ·have HW:Hid (r=Lib.itoa (x:Int)++47::Lib.itoa (y:Int)):=LH (by rw[HR.out,if_neg (by omega)])
  have hb:((y:Int) == 1)=false:=by rw[beq_eq_false_iff_ne];omega
  clear HR h1
  generalize Lib.itoa (x:Int)=X at *
  generalize Lib.itoa (y:Int)=Y at *
  go_enter Tryz.func16,Tryz.ntmps16
  go_wp2_with fail
  refine HG.out.mono ?_
  rintro e w1⟨rfl,hq1⟩
  go_wp2_with fail
  refine cx (HD1.out _) fun w2 hq2=>?_
  have hQ2:=Q.trans hq1 hq2
  go_wp2_with fail
  refine cx (HD2.out _) fun w3 hq3=>?_
  have hQ3:=Q.trans hQ2 hq3
  go_wp2
  go_ret
  exact⟨by rw[HW.out];first | rfl | (simp;done),hQ3⟩
theorem ziJ(a:Str):zo (zu a)=zu (zo a)∧((zu a).head? = some 45 ↔ a.head? = some 45)∧zG (zo a)=zG a∧zar (zo a)=zar a:=by
 cases a with
 | nil=>exact⟨rfl,Iff.rfl,rfl,rfl⟩
 | cons c r =>
  by_cases h:c=45
  ·subst h
   have e1:zu (45::r)=45::zu r:=by unfold zu;rw[List.takeWhile_cons,if_pos (by decide)]
   have e2:zo (45::r)=r:=rfl
   rw[e1,e2]
   refine⟨rfl,by simp,?_,?_⟩
   ·unfold zG;simp
   ·unfold zar;rw[List.dropWhile_cons,if_pos (by decide)]
  ·have hu:zo (c::r)=c::r:=zbi (by simpa using h)
   rw[hu]
   have e:(zu (c::r)).head?≠some 45:=by
    unfold zu;rw[List.takeWhile_cons];split <;> simp[h]
   exact⟨zbi e,⟨fun x=>absurd x e,fun x=>absurd (by simpa using x) h⟩,rfl,rfl⟩
theorem zeq(s:Str):zcN s=false ↔ (zcG s=0∨zcG s<s.length):=by
 unfold zcN;rw[decide_eq_false_iff_not]
 constructor <;> (intro h;omega)
theorem zsn(a n d:Str)(f mi:Bool)(hn:n=zu (zo a))(hd:d=zaJ (zo a))(hf:f=zG (zo a))(hm:mi=decide (a.head? = some 45)) :
  (zdO a=11∧(zcN n=false∨(zcN n=true∧f=true∧zcN d=false)∨(zcN n=true∧f=true∧zcN d=true∧d=[48])∨(zcN n=true∧f=true∧zcN d=true∧d≠[48]∧d=[49]) ∨
   (zcN n=true∧f=true∧zcN d=true∧d≠[48]∧d≠[49]∧mi=true∧n=[48])∨(zcN n=true∧f=false∧mi=true∧n=[48]))) ∨
  (zcN n=true∧(mi=true→n≠[48]) ∧
   ((f=false∧d=[]∧((300<n.length∧zdO a=4)∨(n.length≤300∧zdO a=0))) ∨
  (f=true∧zcN d=true∧d≠[48]∧d≠[49]∧((300<n.length∧zdO a=4)∨(n.length≤300∧300<d.length∧zdO a=4) ∨
  (n.length≤300∧d.length≤300∧∃ x k:Nat,n=Lib.itoa (x:Int)∧d=Lib.itoa (k:Int)∧lim (x:Int)=false∧lim (k:Int)=false∧zdO a=if Nat.gcd x k=1 then 0 else 11))))):=by
 obtain⟨e1,e2,e3,e4⟩:=ziJ a
 have hb:=zoj a
 rw[e1,← hn,e2]at hb
 have hfs:f=zG a:=by rw[hf,e3]
 have hdp:zG a=true→zar a=d:=by intro h;rw[hd];unfold zaJ;rw[e3,if_pos h,e4]
 have hdn:zG a=false→d=[]:=by intro h;rw[hd];unfold zaJ;rw[e3,h];rfl
 have h11:zm1 a→zdO a=11:=by intro h;unfold zdO;rw[if_pos h]
 by_cases hbad:zm1 a
 ·refine .inl ⟨h11 hbad,?_⟩
  cases hA:zcN n with
  | false=>exact .inl rfl
  | true =>
   have hA2:¬ (zcG n=0∨zcG n<n.length):=fun x=>by rw[← zeq,hA]at x;cases x
   cases f with
   | false =>
    rcases hb.1 hbad with(h | h | h) | h
    ·exact absurd (.inl h) hA2
    ·exact absurd (.inr h) hA2
    ·exact .inr (.inr (.inr (.inr (.inr ⟨rfl,rfl,by rw[hm];simpa using h.1,h.2⟩))))
    ·rw[← hfs]at h;cases h.1
   | true =>
    rw[hdp hfs.symm]at hb
    cases hB:zcN d with
    | false=>exact .inr (.inl ⟨rfl,rfl,rfl⟩)
    | true =>
     have hB2:¬ (zcG d=0∨zcG d<d.length):=fun x=>by rw[← zeq,hB]at x;cases x
     by_cases h48:d=[48]
     ·exact .inr (.inr (.inl ⟨rfl,rfl,rfl,h48⟩))
     ·by_cases h49:d=[49]
      ·exact .inr (.inr (.inr (.inl ⟨rfl,rfl,rfl,h48,h49⟩)))
      ·rcases hb.1 hbad with(h | h | h)|⟨-,h | h | h | h⟩
       ·exact absurd (.inl h) hA2
       ·exact absurd (.inr h) hA2
       ·exact .inr (.inr (.inr (.inr (.inl ⟨rfl,rfl,rfl,h48,h49,by rw[hm];simpa using h.1,h.2⟩))))
       ·exact absurd (.inl h) hB2
       ·exact absurd (.inr h) hB2
       ·exact absurd h h48
       ·exact absurd h h49
 ·have hA:zcN n=true:=by
   cases hA:zcN n with
   | true=>rfl
   | false =>
    refine absurd (hb.2 (.inl ?_)) hbad
    rcases(zeq n).1 hA with h | h
    ·exact .inl h
    ·exact .inr (.inl h)
  refine .inr ⟨hA,fun hmi e=>hbad (hb.2 (.inl (.inr (.inr ⟨by rw[hm]at hmi;simpa using hmi,e⟩)))),?_⟩
  cases f with
  | false =>
   refine .inl ⟨rfl,hdn hfs.symm,?_⟩
   have hds:zaG a=[49]:=by unfold zaG;rw[← hfs];rfl
   have hw:=zi4 a hbad
   rw[e1,← hn,hds]at hw
   rcases hw with⟨hr,-,h1⟩|⟨hr,-,h1,h2⟩|⟨h1,h2,z,k,hk,hz,hkk,lz,lk,hr⟩
   ·exact .inl ⟨h1,hr⟩
   ·simp at h2
   ·refine .inr ⟨h1,?_⟩
    rw[← zan]at hkk
    have hk1:k=1:=by have:=zaj hkk;omega
    rw[hr,hk1,if_pos (Nat.gcd_one_right _)]
  | true =>
   have hds:zaG a=d:=by unfold zaG;rw[← hfs,if_pos rfl];exact hdp hfs.symm
   rw[hdp hfs.symm]at hb
   have hB:zcN d=true:=by
    cases hB:zcN d with
    | true=>rfl
    | false =>
     refine absurd (hb.2 (.inr ⟨hfs.symm,?_⟩)) hbad
     rcases(zeq d).1 hB with h | h
     ·exact .inl h
     ·exact .inr (.inl h)
   have h48:d≠[48]:=fun h=>hbad (hb.2 (.inr ⟨hfs.symm,.inr (.inr (.inl h))⟩))
   have h49:d≠[49]:=fun h=>hbad (hb.2 (.inr ⟨hfs.symm,.inr (.inr (.inr h))⟩))
   refine .inr ⟨rfl,hB,h48,h49,?_⟩
   have hw:=zi4 a hbad
   rw[hds]at hw
   rcases hw with⟨hr,-,h1⟩|⟨hr,-,h1,h2⟩|⟨h1,h2,z,k,hk,hz,hkk,lz,lk,hr⟩
   ·rw[e1,← hn]at h1
    exact .inl ⟨h1,hr⟩
   ·rw[e1,← hn]at h1
    exact .inr (.inl ⟨h1,h2,hr⟩)
   ·have hn2:n=Lib.itoa (z.natAbs:Int):=by rw[hn,← e1,hz,zal,zA]
    rw[e1,← hn]at h1
    exact .inr (.inr ⟨h1,h2,z.natAbs,k,hn2,hkk,zcl lz (by omega),lk,hr⟩)
theorem zjt{x:Nat}(h:(Lib.itoa (x:Int)).length≤9):x<1000000000:=by
 have h1:=zp3 (x:Int)
 have h2:10 ^ (Lib.itoa (x:Int)).length≤10 ^ 9:=Nat.pow_le_pow_right (by decide) h
 have e:(10:Nat) ^ 9=1000000000:=by decide
 omega
def ztA(q:Rat):Str:=if q.den=1 then []else Lib.itoa (q.den:Int)
theorem zng(q:Rat):splitV (ze q)=.tuple #[.bool (decide (q.num<0)),.string ⟨(Lib.itoa (q.num.natAbs:Int)).toArray⟩,.string ⟨(ztA q).toArray⟩,.bool (decide (q.den≠1))]:=by
 obtain⟨e1,e2,e3,e4⟩:=ziJ (ze q)
 have h1:zu (zo (ze q))=Lib.itoa (q.num.natAbs:Int):=by rw[← e1,zcK,zal,zA]
 have h2:decide ((ze q).head? = some 45)=decide (q.num<0):=by
  rw[decide_eq_decide]
  unfold ze;split
  ·have:=zbC q.num []
   rw[List.append_nil]at this
   exact this
  ·exact zbC q.num _
 have h3:zG (zo (ze q))=decide (q.den≠1)∧zaJ (zo (ze q))=ztA q:=by
  unfold zaJ ztA
  rw[e3,e4]
  unfold ze
  by_cases h:q.den=1
  ·rw[if_pos h,if_pos h,zb0];simp[h]
  ·rw[if_neg h,if_neg h,zgY,if_pos rfl,zfc,zA];simp[h]
 unfold splitV
 rw[h1,h2,h3.1,h3.2]
def zux(q:Rat):Prop:=q.num.natAbs<1000000000∧q.den<1000000000
theorem zuk(x:Nat):(Lib.itoa (x:Int)).length≤9 ↔ x<1000000000:=by
 rw[← zA,zl _ 9 (by decide)]
theorem zoy(x:Nat):zaB (Lib.itoa (x:Int)):=by rw[← zA];exact zac x
theorem zmj(x:Nat):nval (Lib.itoa (x:Int))=x:=by rw[← zA,zae]
theorem zev(q:Rat)(h:zux q)(w:World) :
  CR 20 #[.string ⟨(ze q).toArray⟩] w (.tuple #[.int .i64 q.num,.int .i64 (q.den:Int),.bool true]):=by
 obtain⟨h1,h2⟩:=h
 have hlim:zah q=false:=Bd.zah (n:=9) ⟨by rw[show (10:Nat) ^ 9=1000000000 by decide];exact h1,by rw[show (10:Nat) ^ 9=1000000000 by decide];exact h2⟩ (by decide)
 have HSP:=LH (zi1 (ze q) (by have:=zaQ hlim;omega) w)
 rw[zng]at HSP
 have l1:=(zuk q.num.natAbs).2 h1
 have l1':((Lib.itoa (q.num.natAbs:Int)).length:Int)≤9:=by omega
 have hs1:=fun w=>zed (Lib.itoa (q.num.natAbs:Int)) (zoy _) (by omega) w
 rw[zmj]at hs1
 have HS1:=LH hs1
 have hsg:(decide (q.num<0)=true∧q.num = -(q.num.natAbs:Int))∨(decide (q.num<0)=false∧q.num=(q.num.natAbs:Int)):=by
  by_cases hn:q.num<0
  ·exact .inl ⟨by simpa using hn,by omega⟩
  ·exact .inr ⟨by simpa using hn,by omega⟩
 by_cases hd:q.den=1
 ·have e1:ztA q=[]:=by unfold ztA;rw[if_pos hd]
  have e2:decide (q.den≠1)=false:=by simp[hd]
  rw[e1,e2]at HSP
  rw[hd]
  clear hlim hs1 e1 e2 l1 hd
  generalize decide (q.num<0)=mi at *
  generalize q.num.natAbs=x at *
  generalize q.num=z at *
  generalize ze q=a at *
  generalize Lib.itoa (x:Int)=X at *
  rcases hsg with⟨rfl,rfl⟩|⟨rfl,rfl⟩
  all_goals
   go_enter Tryz.func20,Tryz.ntmps20
   go_wp2_with fail
   refine HSP.out.mono ?_
   rintro e w1⟨rfl,hq0⟩
   go_wp2_with fail
   refine(HS1.out _).mono ?_
   rintro e w2⟨rfl,rfl⟩
   go_wp2
   go_ret3
   exact⟨rfl,hq0⟩
 ·have e1:ztA q=Lib.itoa (q.den:Int):=by unfold ztA;rw[if_neg hd]
  have e2:decide (q.den≠1)=true:=by simp[hd]
  have l2:=(zuk q.den).2 h2
  have l2':((Lib.itoa (q.den:Int)).length:Int)≤9:=by omega
  have hs2:=fun w=>zed (Lib.itoa (q.den:Int)) (zoy _) (by omega) w
  rw[zmj]at hs2
  have HS2:=LH hs2
  rw[e1,e2]at HSP
  clear hlim hs1 hs2 e1 e2 l1 l2 hd
  generalize decide (q.num<0)=mi at *
  generalize q.num.natAbs=x at *
  generalize q.num=z at *
  generalize ze q=a at *
  generalize q.den=y at *
  generalize Lib.itoa (x:Int)=X at *
  generalize Lib.itoa (y:Int)=Y at *
  rcases hsg with⟨rfl,rfl⟩|⟨rfl,rfl⟩
  all_goals
   go_enter Tryz.func20,Tryz.ntmps20
   go_wp2_with fail
   refine HSP.out.mono ?_
   rintro e w1⟨rfl,hq0⟩
   go_wp2_with fail
   refine(HS1.out _).mono ?_
   rintro e w2⟨rfl,rfl⟩
   go_wp2_with fail
   refine(HS2.out _).mono ?_
   rintro e w2⟨rfl,rfl⟩
   go_wp2
   go_ret3
   exact⟨rfl,hq0⟩
theorem zl8(k d:Nat)(hk:k≤1000000000000)(hd0:0<d)(hd:d≤1000000000000)(w:World) :
  CR 6 #[.int .i64 k,.int .i64 d] w (.tuple #[.string ⟨(ze (Rat.divInt (k:Int) (d:Int))).toArray⟩,.int .i64 0]):=by
 have H1:=LH (zeQ k d hd0 (by omega) (by omega) w)
 generalize ze (Rat.divInt (k:Int) (d:Int))=X at *
 have f1:(-4611686018427387904:Int)<(k:Int):=by omega
 have f2:(k:Int)<4611686018427387904:=by omega
 have f3:(0:Int)<(d:Int):=by omega
 have f4:(d:Int)<4611686018427387904:=by omega
 have f5:((d:Int) == 0)=false:=by rw[beq_eq_false_iff_ne];omega
 generalize (k:Int)=a at *
 generalize (d:Int)=b at *
 clear hk hd hd0
 go_enter Tryz.func6,Tryz.ntmps6
 go_wp2_with fail
 refine H1.out.mono ?_
 rintro e w1⟨rfl,hq1⟩
 go_wp2
 go_ret2
 exact⟨rfl,hq1⟩
theorem zl9(k:Nat)(hk:k≤1000000)(w:World) :
  CR 6 #[.int .i64 k,.int .i64 1] w (.tuple #[.string ⟨(ze (Rat.divInt (k:Int) (1:Nat))).toArray⟩,.int .i64 0]) :=
 zl8 k 1 (by omega) (by decide) (by decide) w
theorem zuP{a b:Nat}(ha:a<1000000000)(hb:b<1000000000):a*b<1000000000000000000:=by
 have h:a*b≤999999999*999999999:=Nat.mul_le_mul (by omega) (by omega)
 omega
end
end Go.Proofs.YthdpnkkddhcacaaGreatDoor
