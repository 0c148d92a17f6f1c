/-
  PA PB PC PD PE PF PG PH PI PJ PK PL LDepths, one behind the other.; The reference's check of a number of at most nine bytes: its digits are native ints.
-/
import Derived.Test.YtjnhmfcklodfdaaGreatDoorIV21
set_option maxHeartbeats 4000000
namespace Go.Proofs.YtjnhmfcklodfdaaGreatDoor
section
open Go.RowKit Kp
def zcV(s:Str):Bool:=decide (zcJ s≠0∧¬ zcJ s<s.length)
theorem zjO(s:Str):zcV s=true ↔ (s≠[]∧zaJ s∧(s.head? = some 48→s=[48])):=by
 unfold zcV;rw[decide_eq_true_iff];exact zm9
theorem znh{s:Str}(h:zaJ s)(k:Nat)(hk:k<s.length):zaw (at0 s k)=true:=h _ (by rw[zc1 s k hk];exact List.getElem_mem hk)
theorem zrD{s:Str}(h:∀ k,k<s.length→zaw (at0 s k)=true):zaJ s:=by
 intro c hc
 obtain⟨k,hk,rfl⟩:=List.mem_iff_getElem.1 hc
 rw[← zc1 s k hk];exact h k hk
theorem zpU{s:Str}(h:1<s.length)(h0:at0 s 0=48):zcV s=false:=by
 rw[← Bool.not_eq_true,zjO]
 rintro⟨ne,-,hz⟩
 rw[zbS ne,h0]at hz
 have:=hz rfl
 rw[this]at h;simp at h
theorem zpV{s:Str}(h0:s≠[])(h:¬ (1<s.length∧at0 s 0=48)):zcV s=true ↔ zaJ s:=by
 rw[zjO]
 refine⟨fun x=>x.2.1,fun x=>⟨h0,x,fun e=>?_⟩⟩
 rw[zbS h0]at e
 have e48:=Option.some.inj e
 have hl:s.length=1:=by
  have:=List.length_pos_iff.2 h0
  by_cases hc:1<s.length
  ·exact absurd ⟨hc,e48⟩ h
  ·omega
 obtain⟨c,rfl⟩:=List.length_eq_one_iff.1 hl
 simp only[at0,List.getD_cons_zero]at e48;rw[e48]
theorem zhS(s:Str)(hl:s.length≤1000000000)(w:World) :
  Calls Tryz.prog 136 #[.string ⟨s.toArray⟩] w fun e w'=>e=.returned (.bool (zcV s))∧w'=w:=by
 obtain⟨b,hb⟩:∃ b,zcV s=b:=⟨_,rfl⟩
 rw[hb]
 by_cases h0:s.length=0
 ·have hz:((s.length:Int) == 0)=true:=by rw[h0];rfl
  obtain rfl:b=false:=by
   rw[← hb,← Bool.not_eq_true,zjO]
   rintro⟨ne,-⟩
   exact ne (List.length_eq_zero_iff.1 h0)
  clear hb h0
  go_enter Tryz.func136,Tryz.ntmps136
  go_wp2
  go_ret
  exact⟨rfl,rfl⟩
 ·have hz:((s.length:Int) == 0)=false:=by rw[beq_eq_false_iff_ne];omega
  have hpos:(0:Int)<(s.length:Int):=by omega
  have hne:s≠[]:=fun e=>h0 (by rw[e];rfl)
  by_cases h1:1<s.length∧at0 s 0=48
  ·obtain rfl:b=false:=by rw[← hb];exact zpU h1.1 h1.2
   have hlt:(1:Int)<(s.length:Int):=by omega
   have h48:(((at0 s 0).toNat:Int) == 48)=true:=by rw[h1.2];rfl
   clear h1 hb h0 hne
   go_enter Tryz.func136,Tryz.ntmps136
   go_wp2
   go_ret
   exact⟨rfl,rfl⟩
  ·have hr:=zpV hne h1
   rw[hb]at hr
   have HF:=LH (show ∀ k,k<s.length→zaw (at0 s k)=false→b=false from fun k hk hd=>by
    cases b with
    | false=>rfl
    | true=>have:=znh (hr.1 rfl) k hk;rw[hd]at this;cases this)
   have HT:=LH (show (∀ k,k<s.length→zaw (at0 s k)=true)→b=true from fun h=>hr.2 (zrD h))
   have hway:(¬ (1:Int)<(s.length:Int))∨((1:Int)<(s.length:Int)∧(((at0 s 0).toNat:Int) == 48)=false):=by
    by_cases hc:1<s.length
    ·exact .inr ⟨by omega,zva (fun e=>h1 ⟨hc,e⟩)⟩
    ·exact .inl (by omega)
   clear hr h1 hb h0 hne
   go_enter Tryz.func136,Tryz.ntmps136
   rcases hway with hw | ⟨hw,hw2⟩
   all_goals go_wp2
   all_goals go_loop [3] (fun i=>∃ k:Nat,k≤s.length∧i=.int .i64 k∧Hid (∀ j,j<k→zaw (at0 s j)=true)) (fun i=>s.length - (intOf i).toNat)
   all_goals first
    | (exact⟨0,by omega,rfl,LH (fun j hj=>absurd hj (by omega))⟩)
    | (
      obtain⟨k,hk,rfl,HK⟩:=hrel
      by_cases hlt:k<s.length
      ·cases hd:zaw (at0 s k)with
       | false =>
        obtain rfl:b=false:=HF.out k hlt hd
        clear HF HT HK
        rcases(zdq _).1 hd with d1 | d1
        ·have d2:(((at0 s k).toNat:Int)<48):=by omega
         clear hd
         go_wp2
         go_ret
         exact⟨rfl,rfl⟩
        ·have d2:¬ (at0 s k).toNat<48:=by omega
         clear hd
         go_wp2
         go_ret
         exact⟨rfl,rfl⟩
       | true =>
        obtain⟨d1,d2⟩:=(zcS _).1 hd
        have d1':¬ (at0 s k).toNat<48:=by omega
        have HK2:=LH (show ∀ j,j<k+1→zaw (at0 s j)=true from fun j hj=>by
         by_cases e:j=k
         ·rw[e];exact hd
         ·exact HK.out j (by omega))
        clear hd
        go_wp2
        go_round
        case rel=>exact⟨k+1,by omega,by go_num,HK2⟩
        case measure=>simp[intOf];omega
      ·obtain rfl:k=s.length:=by omega
       obtain rfl:b=true:=HT.out HK.out
       clear HF HT HK
       go_wp2
       go_ret
       exact⟨rfl,rfl⟩)
theorem zok{s:Str}{k:Nat}(hk:k<s.length)(h:at0 s k=47)(hn:∀ j,j<k→at0 s j≠47):zu s=zqf s k∧zaI s=za0 s (k+1)∧zF s=true:=by
 have e:s=s.take k++47::s.drop (k+1):=by
  conv=>lhs;rw[← List.take_append_drop k s,List.drop_eq_getElem_cons hk,← zc1 s k hk,h]
 have hp:∀ y∈s.take k,decide (y≠47)=true:=fun y hy=>by
  obtain⟨j,hj,rfl⟩:=List.mem_iff_getElem.1 hy
  rw[List.length_take]at hj
  rw[List.getElem_take,decide_eq_true_iff,← zc1 s j (by omega)]
  exact hn j (by omega)
 have hh:zF s=true:=by unfold zF;rw[decide_eq_true_iff,e];simp
 have hn1:=zbX (fun c:UInt8=>decide (c≠47)) 47 (s.drop (k+1)) (by simp) (s.take k) hp
 have hn2:=zdV (fun c:UInt8=>decide (c≠47)) 47 (s.drop (k+1)) (by simp) (s.take k) hp
 rw[← e]at hn1 hn2
 refine⟨hn1,?_,hh⟩
 unfold zaI;rw[if_pos hh];unfold z8;rw[hn2];rfl
theorem zkv{s:Str}(hn:∀ j,j<s.length→at0 s j≠47):zu s=s∧zaI s=[]∧zF s=false:=by
 have hm:¬ (47:UInt8)∈s:=fun hm=>by
  obtain⟨j,hj,e⟩:=List.mem_iff_getElem.1 hm
  exact hn j hj (by rw[zc1 s j hj,e])
 have hh:zF s=false:=by unfold zF;rw[decide_eq_false_iff_not];exact hm
 refine⟨zbd _ _ (fun x hx=>?_),?_,hh⟩
 ·rw[decide_eq_true_iff];intro e;rw[e]at hx;exact hm hx
 ·unfold zaI;rw[hh];rfl
theorem zu8{c:UInt8}(h:c≠47):((c.toNat:Int) == 47)=false:=by
 have h2:c.toNat≠47:=fun e=>h (UInt8.toNat_inj.1 e)
 rw[beq_eq_false_iff_ne];omega
theorem zdA{fn:Func}{t u v x:Tmp}(h:fn.results=#[.tmp t,.tmp u,.tmp v,.tmp x])(tmps:Array Value)(P:Program)(w:World) :
  (results fn tmps).run P w=.ok (.tuple #[tmps.getD t undef,tmps.getD u undef,tmps.getD v undef,tmps.getD x undef]) w:=by
 simp[results,h,go_sem]
def splitV(a:Str):Value:=.tuple #[.bool (decide (a.head? = some 45)),.string ⟨(zu (zo a)).toArray⟩,.string ⟨(zaI (zo a)).toArray⟩,.bool (zF (zo a))]
theorem zi7(a:Str)(hl:a.length≤1000000000)(w:World) :
  CR 135 #[.string ⟨a.toArray⟩] w (splitV a):=by
 have hul:=zeS a
 by_cases hm:a.head? = some 45
 ·have hd:decide (a.head? = some 45)=true:=by rw[decide_eq_true_iff];exact hm
  have hc:=zd1 hm
  have hdr:za0 a 1=zo a:=by
   conv=>lhs;rw[hc]
   rfl
  have ha0:(((at0 a 0).toNat:Int) == 45)=true:=by rw[hc];rfl
  have hpos:(0:Int)<(a.length:Int):=by rw[hc,List.length_cons];omega
  unfold splitV
  rw[hd]
  clear hm hd hc
  generalize zo a=s at *
  have H1:=LH (fun k=>zok (s:=s) (k:=k))
  have H2:=LH (zkv (s:=s))
  generalize zu s=N at *
  generalize zaI s=D at *
  generalize zF s=f at *
  go_enter Tryz.func135,Tryz.ntmps135
  go_wp2
  go_loop [8] (fun i=>∃ k:Nat,k≤s.length∧i=.int .i64 k∧Hid (∀ j,j<k→at0 s j≠47)) (fun i=>s.length - (intOf i).toNat)
  case atStart=>exact⟨0,by omega,rfl,LH (fun j hj=>absurd hj (by omega))⟩
  case round =>
   obtain⟨k,hk,rfl,HK⟩:=hrel
   by_cases hlt:k<s.length
   ·by_cases h47:at0 s k=47
    ·have hb:(((at0 s k).toNat:Int) == 47)=true:=by rw[h47];rfl
     obtain⟨rfl,rfl,rfl⟩:=H1.out k hlt h47 HK.out
     clear h47 HK H1 H2
     have f1:(k:Int)≤(s.length:Int):=by omega
     have f2:(k:Int)+1≤(s.length:Int):=by omega
     have f3:=Go.IntWalk.i64_in ((k:Int)+1) (by omega)
     go_wp2
     go_quiet (fail)
     go_wp2
     (try simp only[Exit.inBlock,Exit.then])
     refine bodyPost_ret (zdA rfl _ _ _) rfl ?_
     exact⟨rfl,bt⟩
    ·have hb:=zu8 h47
     have HK2:=LH (show ∀ j,j<k+1→at0 s j≠47 from fun j hj=>by
      by_cases e:j=k
      ·rw[e];exact h47
      ·exact HK.out j (by omega))
     clear h47
     go_wp2
     go_round
     case rel=>exact⟨k+1,by omega,by go_num,HK2⟩
     case measure=>simp[intOf];omega
   ·obtain rfl:k=s.length:=by omega
    obtain⟨rfl,rfl,rfl⟩:=H2.out HK.out
    clear HK H1 H2
    go_wp2
    (try simp only[Exit.inBlock,Exit.then])
    refine bodyPost_ret (zdA rfl _ _ _) rfl ?_
    exact⟨rfl,bt⟩
 ·have hd:decide (a.head? = some 45)=false:=by rw[decide_eq_false_iff_not];exact hm
  have hw:¬ (0:Int)<(a.length:Int)∨((0:Int)<(a.length:Int)∧(((at0 a 0).toNat:Int) == 45)=false):=by
   by_cases h:a=[]
   ·exact .inl (by rw[h];simp)
   ·refine .inr ⟨by have:=List.length_pos_iff.2 h;omega,zuQ (fun e=>hm (by rw[zbS h,e]))⟩
  unfold splitV
  rw[hd,zbc hm]
  rw[zbc hm]at hul
  clear hm hd
  have H1:=LH (fun k=>zok (s:=a) (k:=k))
  have H2:=LH (zkv (s:=a))
  generalize zu a=N at *
  generalize zaI a=D at *
  generalize zF a=f at *
  go_enter Tryz.func135,Tryz.ntmps135
  rcases hw with hw | ⟨hw,hw2⟩
  all_goals go_wp2
  all_goals go_loop [8] (fun i=>∃ k:Nat,k≤a.length∧i=.int .i64 k∧Hid (∀ j,j<k→at0 a j≠47)) (fun i=>a.length - (intOf i).toNat)
  all_goals first
   | (exact⟨0,by omega,rfl,LH (fun j hj=>absurd hj (by omega))⟩)
   | (
     obtain⟨k,hk,rfl,HK⟩:=hrel
     by_cases hlt:k<a.length
     ·by_cases h47:at0 a k=47
      ·have hb:(((at0 a k).toNat:Int) == 47)=true:=by rw[h47];rfl
       obtain⟨rfl,rfl,rfl⟩:=H1.out k hlt h47 HK.out
       clear h47 HK H1 H2
       have f1:(k:Int)≤(a.length:Int):=by omega
       have f2:(k:Int)+1≤(a.length:Int):=by omega
       have f3:=Go.IntWalk.i64_in ((k:Int)+1) (by omega)
       go_wp2
       go_quiet (fail)
       go_wp2
       (try simp only[Exit.inBlock,Exit.then])
       refine bodyPost_ret (zdA rfl _ _ _) rfl ?_
       exact⟨rfl,bt⟩
      ·have hb:=zu8 h47
       have HK2:=LH (show ∀ j,j<k+1→at0 a j≠47 from fun j hj=>by
        by_cases e:j=k
        ·rw[e];exact h47
        ·exact HK.out j (by omega))
       clear h47
       go_wp2
       go_round
       case rel=>exact⟨k+1,by omega,by go_num,HK2⟩
       case measure=>simp[intOf];omega
     ·obtain rfl:k=a.length:=by omega
      obtain⟨rfl,rfl,rfl⟩:=H2.out HK.out
      clear HK H1 H2
      go_wp2
      (try simp only[Exit.inBlock,Exit.then])
      refine bodyPost_ret (zdA rfl _ _ _) rfl ?_
      exact⟨rfl,bt⟩)
theorem zi8(s:Str)(hd:zaJ s)(hl:s.length≤18)(w:World) :
  Calls Tryz.prog 138 #[.string ⟨s.toArray⟩] w fun e w'=>e=.returned (.int .i64 (nval s))∧w'=w:=by
 have HD:=LH (fun k hk=>znh hd k hk)
 have HLT:=LH (fun k=>ze9 (s:=s) (k:=k) (fun c hc=>hd c (List.mem_of_mem_take hc)))
 have HTK:=LH (fun k hk=>zfJ (s:=s) (k:=k) hk)
 have HALL:Hid (s.take s.length=s):=LH List.take_length
 clear hd
 go_enter Tryz.func138,Tryz.ntmps138
 go_wp2
 go_loop [3,4] (fun n i=>∃ k:Nat,k≤s.length∧i=.int .i64 k∧n=.int .i64 (nval (s.take k))) (fun _ i=>s.length - (intOf i).toNat)
 case atStart=>exact⟨0,by omega,rfl,rfl⟩
 case round =>
  obtain⟨k,hk,rfl,rfl⟩:=hrel
  by_cases hlt:k<s.length
  ·have hv:=HLT.out k
   have hp:10 ^ k≤10 ^ 17:=Nat.pow_le_pow_right (by decide) (by omega)
   have hv2:nval (s.take k)<100000000000000000:=Nat.lt_of_lt_of_le hv hp
   clear hv hp
   obtain⟨d1,d2⟩:=(zcS _).1 (HD.out k hlt)
   have HS:Hid (nval (s.take (k+1))=10*nval (s.take k)+((at0 s k).toNat - 48)):=LH (HTK.out k hlt)
   generalize nval (s.take k)=V at *
   go_wp2
   go_round
   case rel=>exact⟨k+1,by omega,by go_num,by rw[HS.out];go_num⟩
   case measure=>simp[intOf];omega
  ·obtain rfl:k=s.length:=by omega
   rw[HALL.out]
   go_wp2
   go_ret
   exact⟨rfl,rfl⟩
theorem zqJ(a b:Nat)(w:World)(ha1:a≤9223372036854775807)(hb1:b≤9223372036854775807) :
  CR 137 #[.int .i64 a,.int .i64 b] w (.int .i64 (Nat.gcd a b)):=by
 go_enter Tryz.func137,Tryz.ntmps137
 go_wp2
 go_loopw [0,1] (ztg w (Nat.gcd a b)) (fun _ y _=>(intOf y).toNat)
 case atStart=>exact⟨0,a,b,rfl,rfl,ha1,hb1,rfl,rfl⟩
 case round =>
  obtain⟨n,p,q,rfl,rfl,hp,hq,hg,rfl⟩:=hrel
  have HG:=LH hg;clear hg
  by_cases h0:q=0
  ·subst h0
   go_wp2
   go_ret
   have:=HG.out
   simp at this
   exact⟨by rw[← this];rfl,bt⟩
  ·have hne:((q:Int) == 0)=false:=by simp;omega
   have hm:=Nat.mod_lt p (show 0<q by omega)
   go_wp2
   go_quiet (fail)
   go_wp2
   go_roundw
   case rel=>exact⟨n+nq,q,p % q,rfl,by go_num,by omega,by omega,by rw[← HG.out,ziH p q],by simp⟩
   case measure=>simp[intOf];omega
theorem ziP(a:Str):zo (zu a)=zu (zo a)∧((zu a).head? = some 45 ↔ a.head? = some 45)∧zF (zo a)=zF a∧z8 (zo a)=z8 a:=by
 cases a with
 | nil=>exact⟨rfl,Iff.rfl,rfl,rfl⟩
 | cons c r =>
  by_cases h:c=45
  ·subst h
   have e1:zu (45::r)=45::zu r:=by unfold zu;rw[List.takeWhile_cons,if_pos (by decide)]
   have e2:zo (45::r)=r:=rfl
   rw[e1,e2]
   refine⟨rfl,by simp,?_,?_⟩
   ·unfold zF;simp
   ·unfold z8;rw[List.dropWhile_cons,if_pos (by decide)]
  ·have hu:zo (c::r)=c::r:=zbc (by simpa using h)
   rw[hu]
   have e:(zu (c::r)).head?≠some 45:=by
    unfold zu;rw[List.takeWhile_cons];split <;> simp[h]
   exact⟨zbc e,⟨fun x=>absurd x e,fun x=>absurd (by simpa using x) h⟩,rfl,rfl⟩
theorem zeA(s:Str):zcV s=false ↔ (zcJ s=0∨zcJ s<s.length):=by
 unfold zcV;rw[decide_eq_false_iff_not]
 constructor <;> (intro h;omega)
theorem zsH(a n d:Str)(f mi:Bool)(hn:n=zu (zo a))(hd:d=zaI (zo a))(hf:f=zF (zo a))(hm:mi=decide (a.head? = some 45)) :
  (zb4 a=11∧(zcV n=false∨(zcV n=true∧f=true∧zcV d=false)∨(zcV n=true∧f=true∧zcV d=true∧d=[48])∨(zcV n=true∧f=true∧zcV d=true∧d≠[48]∧d=[49]) ∨
   (zcV n=true∧f=true∧zcV d=true∧d≠[48]∧d≠[49]∧mi=true∧n=[48])∨(zcV n=true∧f=false∧mi=true∧n=[48]))) ∨
  (zcV n=true∧(mi=true→n≠[48]) ∧
   ((f=false∧d=[]∧((300<n.length∧zb4 a=4)∨(n.length≤300∧zb4 a=0))) ∨
  (f=true∧zcV d=true∧d≠[48]∧d≠[49]∧((300<n.length∧zb4 a=4)∨(n.length≤300∧300<d.length∧zb4 a=4) ∨
  (n.length≤300∧d.length≤300∧∃ x k:Nat,n=Lib.itoa (x:Int)∧d=Lib.itoa (k:Int)∧lim (x:Int)=false∧lim (k:Int)=false∧zb4 a=if Nat.gcd x k=1 then 0 else 11))))):=by
 obtain⟨e1,e2,e3,e4⟩:=ziP a
 have hb:=zon a
 rw[e1,← hn,e2]at hb
 have hfs:f=zF a:=by rw[hf,e3]
 have hdp:zF a=true→z8 a=d:=by intro h;rw[hd];unfold zaI;rw[e3,if_pos h,e4]
 have hdn:zF a=false→d=[]:=by intro h;rw[hd];unfold zaI;rw[e3,h];rfl
 have h11:zms a→zb4 a=11:=by intro h;unfold zb4;rw[if_pos h]
 by_cases hbad:zms a
 ·refine .inl ⟨h11 hbad,?_⟩
  cases hA:zcV n with
  | false=>exact .inl rfl
  | true =>
   have hA2:¬ (zcJ n=0∨zcJ n<n.length):=fun x=>by rw[← zeA,hA]at x;cases x
   cases f with
   | false =>
    rcases hb.1 hbad with(h | h | h) | h
    ·exact absurd (.inl h) hA2
    ·exact absurd (.inr h) hA2
    ·exact .inr (.inr (.inr (.inr (.inr ⟨rfl,rfl,by rw[hm];simpa using h.1,h.2⟩))))
    ·rw[← hfs]at h;cases h.1
   | true =>
    rw[hdp hfs.symm]at hb
    cases hB:zcV d with
    | false=>exact .inr (.inl ⟨rfl,rfl,rfl⟩)
    | true =>
     have hB2:¬ (zcJ d=0∨zcJ d<d.length):=fun x=>by rw[← zeA,hB]at x;cases x
     by_cases h48:d=[48]
     ·exact .inr (.inr (.inl ⟨rfl,rfl,rfl,h48⟩))
     ·by_cases h49:d=[49]
      ·exact .inr (.inr (.inr (.inl ⟨rfl,rfl,rfl,h48,h49⟩)))
      ·rcases hb.1 hbad with(h | h | h)|⟨-,h | h | h | h⟩
       ·exact absurd (.inl h) hA2
       ·exact absurd (.inr h) hA2
       ·exact .inr (.inr (.inr (.inr (.inl ⟨rfl,rfl,rfl,h48,h49,by rw[hm];simpa using h.1,h.2⟩))))
       ·exact absurd (.inl h) hB2
       ·exact absurd (.inr h) hB2
       ·exact absurd h h48
       ·exact absurd h h49
 ·have hA:zcV n=true:=by
   cases hA:zcV n with
   | true=>rfl
   | false =>
    refine absurd (hb.2 (.inl ?_)) hbad
    rcases(zeA n).1 hA with h | h
    ·exact .inl h
    ·exact .inr (.inl h)
  refine .inr ⟨hA,fun hmi e=>hbad (hb.2 (.inl (.inr (.inr ⟨by rw[hm]at hmi;simpa using hmi,e⟩)))),?_⟩
  cases f with
  | false =>
   refine .inl ⟨rfl,hdn hfs.symm,?_⟩
   have hds:zas a=[49]:=by unfold zas;rw[← hfs];rfl
   have hw:=zi9 a hbad
   rw[e1,← hn,hds]at hw
   rcases hw with⟨hr,-,h1⟩|⟨hr,-,h1,h2⟩|⟨h1,h2,z,k,hk,hz,hkk,lz,lk,hr⟩
   ·exact .inl ⟨h1,hr⟩
   ·simp at h2
   ·refine .inr ⟨h1,?_⟩
    rw[← zac]at hkk
    have hk1:k=1:=by have:=zai hkk;omega
    rw[hr,hk1,if_pos (Nat.gcd_one_right _)]
  | true =>
   have hds:zas a=d:=by unfold zas;rw[← hfs,if_pos rfl];exact hdp hfs.symm
   rw[hdp hfs.symm]at hb
   have hB:zcV d=true:=by
    cases hB:zcV d with
    | true=>rfl
    | false =>
     refine absurd (hb.2 (.inr ⟨hfs.symm,?_⟩)) hbad
     rcases(zeA d).1 hB with h | h
     ·exact .inl h
     ·exact .inr (.inl h)
   have h48:d≠[48]:=fun h=>hbad (hb.2 (.inr ⟨hfs.symm,.inr (.inr (.inl h))⟩))
   have h49:d≠[49]:=fun h=>hbad (hb.2 (.inr ⟨hfs.symm,.inr (.inr (.inr h))⟩))
   refine .inr ⟨rfl,hB,h48,h49,?_⟩
   have hw:=zi9 a hbad
   rw[hds]at hw
   rcases hw with⟨hr,-,h1⟩|⟨hr,-,h1,h2⟩|⟨h1,h2,z,k,hk,hz,hkk,lz,lk,hr⟩
   ·rw[e1,← hn]at h1
    exact .inl ⟨h1,hr⟩
   ·rw[e1,← hn]at h1
    exact .inr (.inl ⟨h1,h2,hr⟩)
   ·have hn2:n=Lib.itoa (z.natAbs:Int):=by rw[hn,← e1,hz,zam,zB]
    rw[e1,← hn]at h1
    exact .inr (.inr ⟨h1,h2,z.natAbs,k,hn2,hkk,zce lz (by omega),lk,hr⟩)
theorem zjx{x:Nat}(h:(Lib.itoa (x:Int)).length≤9):x<1000000000:=by
 have h1:=zp4 (x:Int)
 have h2:10 ^ (Lib.itoa (x:Int)).length≤10 ^ 9:=Nat.pow_le_pow_right (by decide) h
 have e:(10:Nat) ^ 9=1000000000:=by decide
 omega
def zuj(q:Rat):Str:=if q.den=1 then []else Lib.itoa (q.den:Int)
theorem znv(q:Rat):splitV (ze q)=.tuple #[.bool (decide (q.num<0)),.string ⟨(Lib.itoa (q.num.natAbs:Int)).toArray⟩,.string ⟨(zuj q).toArray⟩,.bool (decide (q.den≠1))]:=by
 obtain⟨e1,e2,e3,e4⟩:=ziP (ze q)
 have h1:zu (zo (ze q))=Lib.itoa (q.num.natAbs:Int):=by rw[← e1,zcc,zam,zB]
 have h2:decide ((ze q).head? = some 45)=decide (q.num<0):=by
  rw[decide_eq_decide]
  unfold ze;split
  ·have:=zbY q.num []
   rw[List.append_nil]at this
   exact this
  ·exact zbY q.num _
 have h3:zF (zo (ze q))=decide (q.den≠1)∧zaI (zo (ze q))=zuj q:=by
  unfold zaI zuj
  rw[e3,e4]
  unfold ze
  by_cases h:q.den=1
  ·rw[if_pos h,if_pos h,zbZ];simp[h]
  ·rw[if_neg h,if_neg h,zg3,if_pos rfl,zfn,zB];simp[h]
 unfold splitV
 rw[h1,h2,h3.1,h3.2]
theorem znB(q:Rat)(hlim:zah q=false)(w:World) :
  CR 205 #[.string ⟨(ze q).toArray⟩] w (.tuple #[.string ⟨(Lib.itoa q.num).toArray⟩,.string ⟨(Lib.itoa (q.den:Int)).toArray⟩]):=by
 have HSP:=LH (zi7 (ze q) (by have:=zaQ hlim;omega) w)
 rw[znv]at HSP
 obtain⟨ln,ld⟩:=zw hlim
 have l1:=zZ (q.num.natAbs:Int) (zce ln (by omega))
 have hsg:(decide (q.num<0)=true∧Lib.itoa q.num=45::Lib.itoa (q.num.natAbs:Int))∨(decide (q.num<0)=false∧Lib.itoa q.num=Lib.itoa (q.num.natAbs:Int)):=by
  by_cases hn:q.num<0
  ·exact .inl ⟨by simpa using hn,by rw[itoa_neg hn,zB]⟩
  ·exact .inr ⟨by simpa using hn,by rw[show ((q.num.natAbs:Nat):Int)=q.num by omega]⟩
 have hdt:(decide (q.den≠1)=true∧zuj q=Lib.itoa (q.den:Int))∨(decide (q.den≠1)=false∧Lib.itoa (q.den:Int)=[49]):=by
  by_cases hd:q.den=1
  ·exact .inr ⟨by simp[hd],by rw[hd];exact zac⟩
  ·exact .inl ⟨by simp[hd],by unfold zuj;rw[if_neg hd]⟩
 clear hlim ln ld
 generalize decide (q.num<0)=mi at *
 generalize decide (q.den≠1)=f at *
 generalize zuj q=D at *
 generalize ze q=a at *
 generalize Lib.itoa (q.num.natAbs:Int)=X at *
 generalize Lib.itoa q.num=Z at *
 generalize Lib.itoa (q.den:Int)=Y at *
 rcases hsg with⟨rfl,rfl⟩|⟨rfl,rfl⟩
 all_goals
  rcases hdt with⟨rfl,rfl⟩|⟨rfl,rfl⟩
  all_goals
   go_enter Tryz.func205,Tryz.ntmps205
   go_wp2_with fail
   refine HSP.out.mono ?_
   rintro e w1⟨rfl,hq0⟩
   go_wp2
   go_ret2
   exact⟨rfl,hq0⟩
theorem zc8(a:Str)(hl:a.length≤9)(w:World) :
  CR 83 #[.string ⟨a.toArray⟩] w (.int .i64 (zb4 a)):=by
 have HSP:=LH (zi7 a (by omega) w)
 unfold splitV at HSP
 have hul:=zeS a
 have hw:=zsH a _ _ _ _ rfl rfl rfl rfl
 have hnl:(zu (zo a)).length≤9:=by have:=zet (zo a);omega
 have hdl:(zaI (zo a)).length≤9:=by
  have:=zeC (zo a)
  unfold zaI;split
  ·omega
  ·simp
 generalize zb4 a=R at *
 generalize zu (zo a)=n at *
 generalize zaI (zo a)=d at *
 generalize zF (zo a)=f at *
 generalize decide (a.head? = some 45)=mi at *
 have HDN:=LH (zhS n (by omega))
 have HDD:=LH (zhS d (by omega))
 have wrong:∀ s t:Str,(s=t→(s == t)=true)∧(s≠t→(s == t)=false):=fun s t=>⟨fun h=>by rw[beq_iff_eq];exact h,fun h=>by rw[beq_eq_false_iff_ne];exact h⟩
 rcases hw with⟨rfl,hw⟩|⟨h1,h2,hw⟩
 ·rcases hw with h1 | ⟨h1,rfl,h3⟩|⟨h1,rfl,h3,h4⟩|⟨h1,rfl,h3,h4,h5⟩|⟨h1,rfl,h3,h4,h5,rfl,h7⟩|⟨h1,rfl,rfl,h4⟩
  ·rw[h1]at HDN
   clear h1 HDD wrong
   go_enter Tryz.func83,Tryz.ntmps83
   go_wp2_with fail
   refine HSP.out.mono ?_
   rintro e w1⟨rfl,hqr⟩
   go_wp2_with fail
   refine(HDN.out _).mono ?_
   rintro e w2⟨rfl,rfl⟩
   go_wp2
   go_ret
   exact⟨rfl,hqr⟩
  ·rw[h1]at HDN
   rw[h3]at HDD
   clear h1 h3 wrong
   go_enter Tryz.func83,Tryz.ntmps83
   go_wp2_with fail
   refine HSP.out.mono ?_
   rintro e w1⟨rfl,hqr⟩
   go_wp2_with fail
   refine(HDN.out _).mono ?_
   rintro e w2⟨rfl,rfl⟩
   go_wp2_with fail
   refine(HDD.out _).mono ?_
   rintro e w2⟨rfl,rfl⟩
   go_wp2
   go_ret
   exact⟨rfl,hqr⟩
  ·have b4:=(wrong d [48]).1 h4
   rw[h1]at HDN
   rw[h3]at HDD
   clear h1 h3 wrong h4
   go_enter Tryz.func83,Tryz.ntmps83
   go_wp2_with fail
   refine HSP.out.mono ?_
   rintro e w1⟨rfl,hqr⟩
   go_wp2_with fail
   refine(HDN.out _).mono ?_
   rintro e w2⟨rfl,rfl⟩
   go_wp2_with fail
   refine(HDD.out _).mono ?_
   rintro e w2⟨rfl,rfl⟩
   go_wp2
   go_ret
   exact⟨rfl,hqr⟩
  ·have b4:=(wrong d [48]).2 h4
   have b5:=(wrong d [49]).1 h5
   rw[h1]at HDN
   rw[h3]at HDD
   clear h1 h3 wrong h4 h5
   go_enter Tryz.func83,Tryz.ntmps83
   go_wp2_with fail
   refine HSP.out.mono ?_
   rintro e w1⟨rfl,hqr⟩
   go_wp2_with fail
   refine(HDN.out _).mono ?_
   rintro e w2⟨rfl,rfl⟩
   go_wp2_with fail
   refine(HDD.out _).mono ?_
   rintro e w2⟨rfl,rfl⟩
   go_wp2
   go_ret
   exact⟨rfl,hqr⟩
  ·have b4:=(wrong d [48]).2 h4
   have b5:=(wrong d [49]).2 h5
   have b7:=(wrong n [48]).1 h7
   rw[h1]at HDN
   rw[h3]at HDD
   clear h1 h3 wrong h4 h5 h7
   go_enter Tryz.func83,Tryz.ntmps83
   go_wp2_with fail
   refine HSP.out.mono ?_
   rintro e w1⟨rfl,hqr⟩
   go_wp2_with fail
   refine(HDN.out _).mono ?_
   rintro e w2⟨rfl,rfl⟩
   go_wp2_with fail
   refine(HDD.out _).mono ?_
   rintro e w2⟨rfl,rfl⟩
   go_wp2
   go_ret
   exact⟨rfl,hqr⟩
  ·have b7:=(wrong n [48]).1 h4
   rw[h1]at HDN
   clear h1 wrong h4 HDD
   go_enter Tryz.func83,Tryz.ntmps83
   go_wp2_with fail
   refine HSP.out.mono ?_
   rintro e w1⟨rfl,hqr⟩
   go_wp2_with fail
   refine(HDN.out _).mono ?_
   rintro e w2⟨rfl,rfl⟩
   go_wp2
   go_ret
   exact⟨rfl,hqr⟩
 ·rw[h1]at HDN
  have hn48:mi=false∨(mi=true∧(n == [48])=false):=by
   cases mi with
   | false=>exact .inl rfl
   | true=>exact .inr ⟨rfl,(wrong n [48]).2 (h2 rfl)⟩
  clear h1 h2
  rcases hw with⟨rfl,rfl,hw⟩|⟨rfl,h3,h4,h5,hw⟩
  ·clear HDD wrong
   rcases hw with⟨hlen,rfl⟩|⟨hlen,rfl⟩
   ·omega
   ·have hlen':¬ (300:Int)<(n.length:Int):=by omega
    clear hlen
    rcases hn48 with rfl | ⟨rfl,hb⟩
    all_goals
     go_enter Tryz.func83,Tryz.ntmps83
     go_wp2_with fail
     refine HSP.out.mono ?_
     rintro e w1⟨rfl,hqr⟩
     go_wp2_with fail
     refine(HDN.out _).mono ?_
     rintro e w2⟨rfl,rfl⟩
     go_wp2
     go_ret
     exact⟨rfl,hqr⟩
  ·have b4:=(wrong d [48]).2 h4
   have b5:=(wrong d [49]).2 h5
   rw[h3]at HDD
   clear h3 h4 h5
   rcases hw with⟨hlen,rfl⟩|⟨hlen,hlen2,rfl⟩|⟨hlen,hlen2,x,k,rfl,rfl,lx,lk,hr⟩
   ·omega
   ·omega
   ·have hlen':¬ (300:Int)<((Lib.itoa (x:Int)).length:Int):=by omega
    have hlen2':¬ (300:Int)<((Lib.itoa (k:Int)).length:Int):=by omega
    have h9:(Lib.itoa (x:Int)).length≤9∧(Lib.itoa (k:Int)).length≤9:=⟨by omega,by omega⟩
    have h9a:((Lib.itoa (x:Int)).length:Int)≤9:=by omega
    have h9b:((Lib.itoa (k:Int)).length:Int)≤9:=by omega
    have bx:=zjx h9.1
    have bk:=zjx h9.2
    have hs1:=fun w=>zi8 (Lib.itoa (x:Int)) (by rw[← zB];exact zad x) (by omega) w
    have hs2:=fun w=>zi8 (Lib.itoa (k:Int)) (by rw[← zB];exact zad k) (by omega) w
    have e1:nval (Lib.itoa (x:Int))=x:=by rw[← zB,zak]
    have e2:nval (Lib.itoa (k:Int))=k:=by rw[← zB,zak]
    rw[e1]at hs1
    rw[e2]at hs2
    have HS1:=LH hs1
    have HS2:=LH hs2
    have HG:=LH (fun w=>zqJ x k w (by omega) (by omega))
    have hR:((((Nat.gcd x k:Nat):Int) == 1)=true∧R=0)∨((((Nat.gcd x k:Nat):Int) == 1)=false∧R=11):=by
     by_cases h:Nat.gcd x k=1
     ·rw[if_pos h]at hr;exact .inl ⟨by rw[beq_iff_eq];omega,hr⟩
     ·rw[if_neg h]at hr;exact .inr ⟨by rw[beq_eq_false_iff_ne];omega,hr⟩
    clear hr
    generalize Nat.gcd x k=g at *
    generalize Lib.itoa (x:Int)=n at *
    generalize Lib.itoa (k:Int)=d at *
    clear hs1 hs2 e1 e2 h9 hlen hlen2 wrong lx lk
    rcases hR with⟨hg1,rfl⟩|⟨hg1,rfl⟩
    all_goals
     first | have hg2:=zby hg1 | have hg2:=zax hg1
     rcases hn48 with rfl | ⟨rfl,hb⟩
     all_goals
      go_enter Tryz.func83,Tryz.ntmps83
      go_wp2_with fail
      refine HSP.out.mono ?_
      rintro e w1⟨rfl,hqr⟩
      go_wp2_with fail
      refine(HDN.out _).mono ?_
      rintro e w2⟨rfl,rfl⟩
      go_wp2_with fail
      refine(HDD.out _).mono ?_
      rintro e w2⟨rfl,rfl⟩
      go_wp2_with fail
      refine(HS1.out _).mono ?_
      rintro e w2⟨rfl,rfl⟩
      go_wp2_with fail
      refine(HS2.out _).mono ?_
      rintro e w2⟨rfl,rfl⟩
      go_wp2_with fail
      refine cx (HG.out _) fun w2 hq2=>?_
      replace hq2:=Q.trans hqr hq2
      go_wp2
      go_ret
      exact⟨rfl,hq2⟩
theorem zhp(q:Rat)(h:zah q=false)(hl:(ze q).length≤9)(w:World) :
  CR 83 #[.string ⟨(ze q).toArray⟩] w (.int .i64 0):=by
 have H:=zc8 (ze q) hl w
 rw[zd5,h]at H
 exact H
theorem zll(q:Rat)(h:zah q=false)(hl:(ze q).length≤9)(w:World) :
  CR 140 #[.string ⟨(ze q).toArray⟩] w (.tuple #[.string ⟨(Lib.itoa q.num).toArray⟩,.string ⟨(Lib.itoa (q.den:Int)).toArray⟩,.int .i64 0]):=by
 have H1:=LH (zhp q h hl w)
 have H2:=LH (fun w=>znB q h w)
 generalize ze q=X at *
 generalize Lib.itoa q.num=Y at *
 generalize Lib.itoa (q.den:Int)=Z at *
 go_enter Tryz.func140,Tryz.ntmps140
 go_wp2_with fail
 refine H1.out.mono ?_
 rintro e w1⟨rfl,hq1⟩
 go_wp2_with fail
 refine cx (H2.out _) fun w2 hq2=>?_
 have hQ2:=Q.trans hq1 hq2
 go_wp2
 go_ret3
 exact⟨rfl,hQ2⟩
end
end Go.Proofs.YtjnhmfcklodfdaaGreatDoor
