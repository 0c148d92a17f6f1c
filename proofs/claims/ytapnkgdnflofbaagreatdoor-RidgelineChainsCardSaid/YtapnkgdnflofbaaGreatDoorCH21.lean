/-
  The forms of a housing's length, and how they compare: mathematics.; joint.Housing at members whose directions in the plan are short.; Walks of package bevel: its numbers.; Walks of package bevel: whether members are right; seat and plumb bevels.; Walks of package bevel: the mitre of two level members.; The mathematics of seat and plumb bevels.; The bounds of two members.; The law's member: coordinates of at most six bytes; it turned round, and its half.; RefM QA QB QC QD QE QF QG QH QI QJ QK QL QM, one behind the other.; PA PB PC PD PE PF PG PH PI PJ PK PL LDepths, one behind the other.
-/
import Derived.Test.YtapnkgdnflofbaaGreatDoorCH20
import Derived.Test.YtapnkgdnflofbaaGreatDoorCH18
import Derived.Laws.CopyRow
import Derived.Laws.CopyOwn
import Derived.Test.YtapnkgdnflofbaaGreatDoorCH15
import Derived.Test.YtapnkgdnflofbaaGreatDoorCHMA
import Derived.Test.YtapnkgdnflofbaaGreatDoorCHSD
import Derived.Laws.IdiomStrings
set_option maxHeartbeats 2000000
namespace Go.Proofs.YtapnkgdnflofbaaGreatDoor
section
open Go.RowKit Kp
def FA(a:List (Rat × Nat)):Prop :=
 (∃ Z n,a=[(Z,n)]∧Z≠0∧zgE n)∨(∃ y X n,a=[(y,1),(X,n)]∧y≠0∧X≠0∧zgE n∧n≠1)
theorem FA.all{a:List (Rat × Nat)}(h:FA a):∀ c∈a,c.1≠0∧zgE c.2:=by
 rcases h with⟨Z,n,rfl,hz,hn⟩|⟨y,X,n,rfl,hy,hX,hn,-⟩
 ·intro c hc
  rw[List.mem_singleton]at hc
  subst hc
  exact⟨hz,hn⟩
 ·intro c hc
  rw[List.mem_cons,List.mem_singleton]at hc
  rcases hc with rfl | rfl
  ·exact⟨hy,zrs⟩
  ·exact⟨hX,hn⟩
theorem FA.up{a:List (Rat × Nat)}(h:FA a):(∀ i (h:i+1<a.length),a[i].2<a[i+1].2)∧Apart a∧a.length≤2:=by
 rcases h with⟨Z,n,rfl,hz,hn⟩|⟨y,X,n,rfl,hy,hX,hn,h1⟩
 ·exact⟨fun i h=>absurd h (by simp),List.pairwise_singleton _ _,by simp⟩
 ·refine⟨fun i h=>?_,?_,by simp⟩
  ·obtain rfl:i=0:=by simp at h;omega
   show 1<n
   have:=hn.1
   omega
  ·unfold Apart
   rw[List.pairwise_cons]
   exact⟨fun c hc=>by rw[List.mem_singleton]at hc;subst hc;exact(zsU hn h1).1,List.pairwise_singleton _ _⟩
def HA(a:List (Rat × Nat))(W:Rat):Prop :=
 (∃ Z n,a=[(Z,n)]∧0<Z∧zgE n∧W*W≤Z*Z*(n:Rat)) ∨
 (∃ y X n,a=[(y,1),(X,n)]∧0<y∧0<X∧zgE n∧n≠1∧W*W≤X*X*(n:Rat))
end
section
open Go.RowKit Go.Shelf Kp
attribute [local go_sem] Oper.semAt_some
def B2(n:Nat)(p:P3):Prop:=Bd n p.x∧Bd n p.y
theorem zsc{n:Nat}{z:Int}(h:z.natAbs<10 ^ n)(hn:0<n):Bd n (z:Rat):=⟨h,by rw[show ((z:Rat)).den=1 from rfl];exact Nat.one_lt_pow (by omega) (by decide)⟩
theorem zdD{P:Program}{ops:Array Oper}{rest:List Oper}{op:Oper}{a:Act}{w:World}{R:Exit→Act→World→Prop}(hgd:op.guard=none)(ty:TypeId)(x y:Operand)(ho:op.op=.store ty x y)(b o:Nat){t:TypeId}{cs:List Value}(hb:Blk w b cs t)
  (cs' cs2:List Value)(hx:a.eval x=.pointer (some ⟨b,o,none⟩))(hy:a.eval y=.agg cs'.toArray)(hl:o+cs'.length≤cs.length)(he:cs.take o++cs'++cs.drop (o+cs'.length)=cs2)(hi:(P.info? ty).map (·.size)=some cs'.length)(h1:∀ v∈cs',v.oneCell'=true)
  (h:wpList P ops R rest (a.put op.dst undef) (w.setRow b cs2.toArray)):wpList P ops R (op::rest) a w:=by
 have hs:(storeVar ty ⟨b,o,none⟩ (.agg cs'.toArray)).run P w=.ok () (w.setRow b cs2.toArray):=by
  have h2:=run_storeCells_at (P:=P) b o t cs' 0 cs.toArray w hb (by simp;omega) h1
  rw[show (cs.toArray.toList.take (o+0)++cs'++cs.toArray.toList.drop (o+0+cs'.length))=cs2 by simpa using he]at h2
  cases hq:P.info? ty with
  | none=>simp[hq]at hi
  | some i =>
   have hz:cs'.length=i.size:=by simp[hq]at hi;omega
   simp[storeVar,sizeOf,typeInfo,hq,Value.cells,hz,h2]
 refine wpList_plain hgd fun K hK=>?_
 unfold Oper.wp execOp
 simp only[ho,hx,hy,Instr.storeAt,Instr.sureAddr,Sem.run_bind,Sem.run_pure,Result.andThen_ok,hs]
 exact hK _ _ h
def MkP(W:World)(T:List (Rat × Rat))(e:Ending)(w':World):Prop:=∃ v E,e=.returned (.tuple #[v,.int .i64 E])∧Q W w'∧((zg0 T=none∧E=4∧v=.slice none 0 0)∨(E=0∧∃ C,zg0 T=some C∧zk8 w' W.heap.size v (znx C)))
theorem zb2.of{w:World}{b:Nat}{l:List Str}{t:TypeId}(h:Blk w b (l.map fun s=>(.string ⟨s.toArray⟩:Value)) t)(cap:Nat):zb2 w (.slice (some ⟨b,0,none⟩) l.length cap) l:=by
 refine⟨b,0,cap,rfl,h.lt,fun i hi=>?_⟩
 rw[Nat.zero_add,h.cell,List.getElem?_map,List.getElem?_eq_getElem hi,List.getD_eq_getElem?_getD,List.getElem?_eq_getElem hi]
 rfl
structure Vm where
 k:Int
 F:Int
 O:Int
 f:P3
 t:P3
 W:Int
 D:Int
def Vm.c(m:Vm):List Value:=[.int .i64 m.k,.int .i64 m.F,.int .i64 m.O,.string ⟨(ze m.f.x).toArray⟩,.string ⟨(ze m.f.y).toArray⟩,.string ⟨(ze m.f.z).toArray⟩,.string ⟨(ze m.t.x).toArray⟩,.string ⟨(ze m.t.y).toArray⟩,.string ⟨(ze m.t.z).toArray⟩,.int .i64 m.W,.int .i64 m.D]
theorem Vm.cell{w:World}{b:Nat}{ty:TypeId}{l:List Vm}(hl:l.length≤2)(hb:Blk w b (l.flatMap Vm.c) ty)(k:Nat)(hk:k<l.length)(i:Nat)(hi:i<11):w.cell? ⟨b,k*11+i,none⟩=(l[k].c)[i]?:=by
 rw[hb.cell]
 cases l with
 | nil=>exact absurd hk (by simp)
 | cons m r =>
  have hm:m.c.length=11:=rfl
  cases r with
  | nil =>
   obtain rfl:k=0:=by simp at hk;omega
   rw[List.flatMap_cons,List.flatMap_nil,List.append_nil,show 0*11+i=i by omega]
   rfl
  | cons n r =>
   obtain rfl:r=[]:=List.length_eq_zero_iff.1 (by rw[List.length_cons,List.length_cons]at hl;omega)
   rw[List.flatMap_cons,List.flatMap_cons,List.flatMap_nil,List.append_nil]
   rcases(show k=0∨k=1 by rw[List.length_cons,List.length_cons,List.length_nil]at hk;omega)with rfl | rfl
   ·rw[show 0*11+i=i by omega,List.getElem?_append_left (by omega)]
    rfl
   ·rw[List.getElem?_append_right (by omega),hm,show 1*11+i - 11=i by omega]
    rfl
theorem TSl.one{w:World}{b:Nat}{s1 s2:Str}{t:TypeId}(h:Blk w b [.string ⟨s1.toArray⟩,.string ⟨s2.toArray⟩] t)(cap:Nat):TSl w w.heap.size (.slice (some ⟨b,0,none⟩) 1 cap) [(s1,s2)]:=by
 refine⟨_,cap,rfl,Nat.le_refl _,fun i hi=>⟨b,0,rfl,h.lt,?_⟩⟩
 obtain rfl:i=0:=by simp at hi;omega
 exact⟨h.cell 0,h.cell 1⟩
theorem Blk.setRow{w:World}{b g:Nat}{cs:List Value}{t:TypeId}(h:Blk w b cs t)(hne:b≠g)(l:Array Value):Blk (w.setRow g l) b cs t:=by
 unfold Blk World.setRow at *
 rw[Array.getElem?_modify,if_neg (fun e=>hne e.symm)]
 exact h
end
section
open Go.RowKit Kp
def ztG(T:List (Rat × Rat)):Int:=if zg0 T=none then 4 else 0
def MkE(W:World)(E:Int)(L:List (Rat × Nat))(e:Ending)(w':World):Prop:=∃ v,e=.returned (.tuple #[v,.int .i64 E])∧Q W w'∧(E≠0→v=.slice none 0 0)∧(E=0→zk8 w' W.heap.size v L)
theorem MkP.e{W:World}{T:List (Rat × Rat)}{L:List (Rat × Nat)}(hL:∀ C,zg0 T=some C→znx C=L){e:Ending}{w':World}(h:MkP W T e w'):MkE W (ztG T) L e w':=by
 obtain⟨v,E,rfl,hq,h | ⟨rfl,C,h1,h2⟩⟩:=h
 ·obtain⟨h1,rfl,rfl⟩:=h
  have e:ztG T=4:=by unfold ztG;rw[if_pos h1]
  rw[e]
  exact⟨_,rfl,hq,fun _=>rfl,fun h=>absurd h (by decide)⟩
 ·have e:ztG T=0:=by unfold ztG;rw[if_neg (by rw[h1];simp)]
  rw[e]
  refine⟨v,rfl,hq,fun h=>absurd rfl h,fun _=>?_⟩
  rw[hL C h1]at h2
  exact h2
end
section
open Go.RowKit Go.Shelf Kp
attribute [local go_sem] Oper.semAt_some
structure Mb.flat (m:Mb):Prop where
 fx:m.fx.length≤12
 fy:m.fy.length≤12
 tx:m.tx.length≤12
 ty:m.ty.length≤12
end
section
open Go.RowKit Kp
structure Mb.six (m:Mb):Prop where
 fx:m.fx.length≤6
 fy:m.fy.length≤6
 fz:m.fz.length≤6
 tx:m.tx.length≤6
 ty:m.ty.length≤6
 tz:m.tz.length≤6
end
end Go.Proofs.YtapnkgdnflofbaaGreatDoor
namespace Kp
end Kp
namespace Go.Proofs.YtapnkgdnflofbaaGreatDoor
section
open Go.RowKit Kp
theorem zt8{c:UInt8}(h:c≠48):((c.toNat:Int) == 48)=false:=by
 have h2:c.toNat≠48:=fun e=>h (UInt8.toNat_inj.1 e)
 rw[beq_eq_false_iff_ne];omega
theorem zpl(x:Int):x.natAbs<10 ^ (Lib.itoa x).length:=Nat.lt_of_lt_of_le (zcU x.natAbs) (Nat.pow_le_pow_right (by decide) (zdk x))
def zcG(s:Str):Bool:=decide (zcw s≠0∧¬ zcw s<s.length)
theorem zi3(s:Str):zcG s=true ↔ (s≠[]∧zay s∧(s.head? = some 48→s=[48])):=by
 unfold zcG;rw[decide_eq_true_iff];exact zmh
theorem zmo{s:Str}(h:zay s)(k:Nat)(hk:k<s.length):zar (at0 s k)=true:=h _ (by rw[zcJ s k hk];exact List.getElem_mem hk)
theorem zqU{s:Str}(h:∀ k,k<s.length→zar (at0 s k)=true):zay s:=by
 intro c hc
 obtain⟨k,hk,rfl⟩:=List.mem_iff_getElem.1 hc
 rw[← zcJ s k hk];exact h k hk
theorem zpd{s:Str}(h:1<s.length)(h0:at0 s 0=48):zcG s=false:=by
 rw[← Bool.not_eq_true,zi3]
 rintro⟨ne,-,hz⟩
 rw[zbP ne,h0]at hz
 have:=hz rfl
 rw[this]at h;simp at h
theorem zpe{s:Str}(h0:s≠[])(h:¬ (1<s.length∧at0 s 0=48)):zcG s=true ↔ zay s:=by
 rw[zi3]
 refine⟨fun x=>x.2.1,fun x=>⟨h0,x,fun e=>?_⟩⟩
 rw[zbP h0]at e
 have e48:=Option.some.inj e
 have hl:s.length=1:=by
  have:=List.length_pos_iff.2 h0
  by_cases hc:1<s.length
  ·exact absurd ⟨hc,e48⟩ h
  ·omega
 obtain⟨c,rfl⟩:=List.length_eq_one_iff.1 hl
 simp only[at0,List.getD_cons_zero]at e48;rw[e48]
theorem zhk(s:Str)(hl:s.length≤1000000000)(w:World) :
  Calls Tryz.prog 114 #[.string ⟨s.toArray⟩] w fun e w'=>e=.returned (.bool (zcG s))∧w'=w:=by
 obtain⟨b,hb⟩:∃ b,zcG s=b:=⟨_,rfl⟩
 rw[hb]
 by_cases h0:s.length=0
 ·have hz:((s.length:Int) == 0)=true:=by rw[h0];rfl
  obtain rfl:b=false:=by
   rw[← hb,← Bool.not_eq_true,zi3]
   rintro⟨ne,-⟩
   exact ne (List.length_eq_zero_iff.1 h0)
  clear hb h0
  go_enter Tryz.func114,Tryz.ntmps114
  go_wp2
  go_ret
  exact⟨rfl,rfl⟩
 ·have hz:((s.length:Int) == 0)=false:=by rw[beq_eq_false_iff_ne];omega
  have hpos:(0:Int)<(s.length:Int):=by omega
  have hne:s≠[]:=fun e=>h0 (by rw[e];rfl)
  by_cases h1:1<s.length∧at0 s 0=48
  ·obtain rfl:b=false:=by rw[← hb];exact zpd h1.1 h1.2
   have hlt:(1:Int)<(s.length:Int):=by omega
   have h48:(((at0 s 0).toNat:Int) == 48)=true:=by rw[h1.2];rfl
   clear h1 hb h0 hne
   go_enter Tryz.func114,Tryz.ntmps114
   go_wp2
   go_ret
   exact⟨rfl,rfl⟩
  ·have hr:=zpe hne h1
   rw[hb]at hr
   have HF:=LH (show ∀ k,k<s.length→zar (at0 s k)=false→b=false from fun k hk hd=>by
    cases b with
    | false=>rfl
    | true=>have:=zmo (hr.1 rfl) k hk;rw[hd]at this;cases this)
   have HT:=LH (show (∀ k,k<s.length→zar (at0 s k)=true)→b=true from fun h=>hr.2 (zqU h))
   have hway:(¬ (1:Int)<(s.length:Int))∨((1:Int)<(s.length:Int)∧(((at0 s 0).toNat:Int) == 48)=false):=by
    by_cases hc:1<s.length
    ·exact .inr ⟨by omega,zt8 (fun e=>h1 ⟨hc,e⟩)⟩
    ·exact .inl (by omega)
   clear hr h1 hb h0 hne
   go_enter Tryz.func114,Tryz.ntmps114
   rcases hway with hw | ⟨hw,hw2⟩
   all_goals go_wp2
   all_goals go_loop [3] (fun i=>∃ k:Nat,k≤s.length∧i=.int .i64 k∧Hid (∀ j,j<k→zar (at0 s j)=true)) (fun i=>s.length - (intOf i).toNat)
   all_goals first
    | (exact⟨0,by omega,rfl,LH (fun j hj=>absurd hj (by omega))⟩)
    | (
      obtain⟨k,hk,rfl,HK⟩:=hrel
      by_cases hlt:k<s.length
      ·cases hd:zar (at0 s k)with
       | false =>
        obtain rfl:b=false:=HF.out k hlt hd
        clear HF HT HK
        rcases(zc6 _).1 hd with d1 | d1
        ·have d2:(((at0 s k).toNat:Int)<48):=by omega
         clear hd
         go_wp2
         go_ret
         exact⟨rfl,rfl⟩
        ·have d2:¬ (at0 s k).toNat<48:=by omega
         clear hd
         go_wp2
         go_ret
         exact⟨rfl,rfl⟩
       | true =>
        obtain⟨d1,d2⟩:=(zcC _).1 hd
        have d1':¬ (at0 s k).toNat<48:=by omega
        have HK2:=LH (show ∀ j,j<k+1→zar (at0 s j)=true from fun j hj=>by
         by_cases e:j=k
         ·rw[e];exact hd
         ·exact HK.out j (by omega))
        clear hd
        go_wp2
        go_round
        case rel=>exact⟨k+1,by omega,by go_num,HK2⟩
        case measure=>simp[intOf];omega
      ·obtain rfl:k=s.length:=by omega
       obtain rfl:b=true:=HT.out HK.out
       clear HF HT HK
       go_wp2
       go_ret
       exact⟨rfl,rfl⟩)
theorem znz{s:Str}{k:Nat}(hk:k<s.length)(h:at0 s k=47)(hn:∀ j,j<k→at0 s j≠47):zq s=zps s k∧zaD s=zaR s (k+1)∧zC s=true:=by
 have e:s=s.take k++47::s.drop (k+1):=by
  conv=>lhs;rw[← List.take_append_drop k s,List.drop_eq_getElem_cons hk,← zcJ s k hk,h]
 have hp:∀ y∈s.take k,decide (y≠47)=true:=fun y hy=>by
  obtain⟨j,hj,rfl⟩:=List.mem_iff_getElem.1 hy
  rw[List.length_take]at hj
  rw[List.getElem_take,decide_eq_true_iff,← zcJ s j (by omega)]
  exact hn j (by omega)
 have hh:zC s=true:=by unfold zC;rw[decide_eq_true_iff,e];simp
 have hn1:=zbI (fun c:UInt8=>decide (c≠47)) 47 (s.drop (k+1)) (by simp) (s.take k) hp
 have hn2:=zdA (fun c:UInt8=>decide (c≠47)) 47 (s.drop (k+1)) (by simp) (s.take k) hp
 rw[← e]at hn1 hn2
 refine⟨hn1,?_,hh⟩
 unfold zaD;rw[if_pos hh];unfold zV;rw[hn2];rfl
theorem zjE{s:Str}(hn:∀ j,j<s.length→at0 s j≠47):zq s=s∧zaD s=[]∧zC s=false:=by
 have hm:¬ (47:UInt8)∈s:=fun hm=>by
  obtain⟨j,hj,e⟩:=List.mem_iff_getElem.1 hm
  exact hn j hj (by rw[zcJ s j hj,e])
 have hh:zC s=false:=by unfold zC;rw[decide_eq_false_iff_not];exact hm
 refine⟨za4 _ _ (fun x hx=>?_),?_,hh⟩
 ·rw[decide_eq_true_iff];intro e;rw[e]at hx;exact hm hx
 ·unfold zaD;rw[hh];rfl
theorem zt5{c:UInt8}(h:c≠47):((c.toNat:Int) == 47)=false:=by
 have h2:c.toNat≠47:=fun e=>h (UInt8.toNat_inj.1 e)
 rw[beq_eq_false_iff_ne];omega
theorem zdf{fn:Func}{t u v x:Tmp}(h:fn.results=#[.tmp t,.tmp u,.tmp v,.tmp x])(tmps:Array Value)(P:Program)(w:World) :
  (results fn tmps).run P w=.ok (.tuple #[tmps.getD t undef,tmps.getD u undef,tmps.getD v undef,tmps.getD x undef]) w:=by
 simp[results,h,go_sem]
def splitV(a:Str):Value:=.tuple #[.bool (decide (a.head? = some 45)),.string ⟨(zq (zo a)).toArray⟩,.string ⟨(zaD (zo a)).toArray⟩,.bool (zC (zo a))]
theorem zft(a:Str)(hl:a.length≤1000000000)(w:World) :
  CR 113 #[.string ⟨a.toArray⟩] w (splitV a):=by
 have hul:=zdF a
 by_cases hm:a.head? = some 45
 ·have hd:decide (a.head? = some 45)=true:=by rw[decide_eq_true_iff];exact hm
  have hc:=zdG hm
  have hdr:zaR a 1=zo a:=by
   conv=>lhs;rw[hc]
   rfl
  have ha0:(((at0 a 0).toNat:Int) == 45)=true:=by rw[hc];rfl
  have hpos:(0:Int)<(a.length:Int):=by rw[hc,List.length_cons];omega
  unfold splitV
  rw[hd]
  clear hm hd hc
  generalize zo a=s at *
  have H1:=LH (fun k=>znz (s:=s) (k:=k))
  have H2:=LH (zjE (s:=s))
  generalize zq s=N at *
  generalize zaD s=D at *
  generalize zC s=f at *
  go_enter Tryz.func113,Tryz.ntmps113
  go_wp2
  go_loop [8] (fun i=>∃ k:Nat,k≤s.length∧i=.int .i64 k∧Hid (∀ j,j<k→at0 s j≠47)) (fun i=>s.length - (intOf i).toNat)
  case atStart=>exact⟨0,by omega,rfl,LH (fun j hj=>absurd hj (by omega))⟩
  case round =>
   obtain⟨k,hk,rfl,HK⟩:=hrel
   by_cases hlt:k<s.length
   ·by_cases h47:at0 s k=47
    ·have hb:(((at0 s k).toNat:Int) == 47)=true:=by rw[h47];rfl
     obtain⟨rfl,rfl,rfl⟩:=H1.out k hlt h47 HK.out
     clear h47 HK H1 H2
     have f1:(k:Int)≤(s.length:Int):=by omega
     have f2:(k:Int)+1≤(s.length:Int):=by omega
     have f3:=Go.IntWalk.i64_in ((k:Int)+1) (by omega)
     go_wp2
     go_quiet (fail)
     go_wp2
     (try simp only[Exit.inBlock,Exit.then])
     refine bodyPost_ret (zdf rfl _ _ _) rfl ?_
     exact⟨rfl,bt⟩
    ·have hb:=zt5 h47
     have HK2:=LH (show ∀ j,j<k+1→at0 s j≠47 from fun j hj=>by
      by_cases e:j=k
      ·rw[e];exact h47
      ·exact HK.out j (by omega))
     clear h47
     go_wp2
     go_round
     case rel=>exact⟨k+1,by omega,by go_num,HK2⟩
     case measure=>simp[intOf];omega
   ·obtain rfl:k=s.length:=by omega
    obtain⟨rfl,rfl,rfl⟩:=H2.out HK.out
    clear HK H1 H2
    go_wp2
    (try simp only[Exit.inBlock,Exit.then])
    refine bodyPost_ret (zdf rfl _ _ _) rfl ?_
    exact⟨rfl,bt⟩
 ·have hd:decide (a.head? = some 45)=false:=by rw[decide_eq_false_iff_not];exact hm
  have hw:¬ (0:Int)<(a.length:Int)∨((0:Int)<(a.length:Int)∧(((at0 a 0).toNat:Int) == 45)=false):=by
   by_cases h:a=[]
   ·exact .inl (by rw[h];simp)
   ·refine .inr ⟨by have:=List.length_pos_iff.2 h;omega,ztT (fun e=>hm (by rw[zbP h,e]))⟩
  unfold splitV
  rw[hd,za3 hm]
  rw[za3 hm]at hul
  clear hm hd
  have H1:=LH (fun k=>znz (s:=a) (k:=k))
  have H2:=LH (zjE (s:=a))
  generalize zq a=N at *
  generalize zaD a=D at *
  generalize zC a=f at *
  go_enter Tryz.func113,Tryz.ntmps113
  rcases hw with hw | ⟨hw,hw2⟩
  all_goals go_wp2
  all_goals go_loop [8] (fun i=>∃ k:Nat,k≤a.length∧i=.int .i64 k∧Hid (∀ j,j<k→at0 a j≠47)) (fun i=>a.length - (intOf i).toNat)
  all_goals first
   | (exact⟨0,by omega,rfl,LH (fun j hj=>absurd hj (by omega))⟩)
   | (
     obtain⟨k,hk,rfl,HK⟩:=hrel
     by_cases hlt:k<a.length
     ·by_cases h47:at0 a k=47
      ·have hb:(((at0 a k).toNat:Int) == 47)=true:=by rw[h47];rfl
       obtain⟨rfl,rfl,rfl⟩:=H1.out k hlt h47 HK.out
       clear h47 HK H1 H2
       have f1:(k:Int)≤(a.length:Int):=by omega
       have f2:(k:Int)+1≤(a.length:Int):=by omega
       have f3:=Go.IntWalk.i64_in ((k:Int)+1) (by omega)
       go_wp2
       go_quiet (fail)
       go_wp2
       (try simp only[Exit.inBlock,Exit.then])
       refine bodyPost_ret (zdf rfl _ _ _) rfl ?_
       exact⟨rfl,bt⟩
      ·have hb:=zt5 h47
       have HK2:=LH (show ∀ j,j<k+1→at0 a j≠47 from fun j hj=>by
        by_cases e:j=k
        ·rw[e];exact h47
        ·exact HK.out j (by omega))
       clear h47
       go_wp2
       go_round
       case rel=>exact⟨k+1,by omega,by go_num,HK2⟩
       case measure=>simp[intOf];omega
     ·obtain rfl:k=a.length:=by omega
      obtain⟨rfl,rfl,rfl⟩:=H2.out HK.out
      clear HK H1 H2
      go_wp2
      (try simp only[Exit.inBlock,Exit.then])
      refine bodyPost_ret (zdf rfl _ _ _) rfl ?_
      exact⟨rfl,bt⟩)
theorem zd3(s:Str)(hd:zay s)(hl:s.length≤18)(w:World) :
  Calls Tryz.prog 116 #[.string ⟨s.toArray⟩] w fun e w'=>e=.returned (.int .i64 (nval s))∧w'=w:=by
 have HD:=LH (fun k hk=>zmo hd k hk)
 have HLT:=LH (fun k=>zeH (s:=s) (k:=k) (fun c hc=>hd c (List.mem_of_mem_take hc)))
 have HTK:=LH (fun k hk=>zfh (s:=s) (k:=k) hk)
 have HALL:Hid (s.take s.length=s):=LH List.take_length
 clear hd
 go_enter Tryz.func116,Tryz.ntmps116
 go_wp2
 go_loop [3,4] (fun n i=>∃ k:Nat,k≤s.length∧i=.int .i64 k∧n=.int .i64 (nval (s.take k))) (fun _ i=>s.length - (intOf i).toNat)
 case atStart=>exact⟨0,by omega,rfl,rfl⟩
 case round =>
  obtain⟨k,hk,rfl,rfl⟩:=hrel
  by_cases hlt:k<s.length
  ·have hv:=HLT.out k
   have hp:10 ^ k≤10 ^ 17:=Nat.pow_le_pow_right (by decide) (by omega)
   have hv2:nval (s.take k)<100000000000000000:=Nat.lt_of_lt_of_le hv hp
   clear hv hp
   obtain⟨d1,d2⟩:=(zcC _).1 (HD.out k hlt)
   have HS:Hid (nval (s.take (k+1))=10*nval (s.take k)+((at0 s k).toNat - 48)):=LH (HTK.out k hlt)
   generalize nval (s.take k)=V at *
   go_wp2
   go_round
   case rel=>exact⟨k+1,by omega,by go_num,by rw[HS.out];go_num⟩
   case measure=>simp[intOf];omega
  ·obtain rfl:k=s.length:=by omega
   rw[HALL.out]
   go_wp2
   go_ret
   exact⟨rfl,rfl⟩
theorem zpU(a b:Nat)(w:World)(ha1:a≤9223372036854775807)(hb1:b≤9223372036854775807) :
  CR 115 #[.int .i64 a,.int .i64 b] w (.int .i64 (Nat.gcd a b)):=by
 go_enter Tryz.func115,Tryz.ntmps115
 go_wp2
 go_loopw [0,1] (zsm w (Nat.gcd a b)) (fun _ y _=>(intOf y).toNat)
 case atStart=>exact⟨0,a,b,rfl,rfl,ha1,hb1,rfl,rfl⟩
 case round =>
  obtain⟨n,p,q,rfl,rfl,hp,hq,hg,rfl⟩:=hrel
  have HG:=LH hg;clear hg
  by_cases h0:q=0
  ·subst h0
   go_wp2
   go_ret
   have:=HG.out
   simp at this
   exact⟨by rw[← this];rfl,bt⟩
  ·have hne:((q:Int) == 0)=false:=by simp;omega
   have hm:=Nat.mod_lt p (show 0<q by omega)
   go_wp2
   go_quiet (fail)
   go_wp2
   go_roundw
   case rel=>exact⟨n+nq,q,p % q,rfl,by go_num,by omega,by omega,by rw[← HG.out,zhV p q],by simp⟩
   case measure=>simp[intOf];omega
theorem zh2(a:Str):zo (zq a)=zq (zo a)∧((zq a).head? = some 45 ↔ a.head? = some 45)∧zC (zo a)=zC a∧zV (zo a)=zV a:=by
 cases a with
 | nil=>exact⟨rfl,Iff.rfl,rfl,rfl⟩
 | cons c r =>
  by_cases h:c=45
  ·subst h
   have e1:zq (45::r)=45::zq r:=by unfold zq;rw[List.takeWhile_cons,if_pos (by decide)]
   have e2:zo (45::r)=r:=rfl
   rw[e1,e2]
   refine⟨rfl,by simp,?_,?_⟩
   ·unfold zC;simp
   ·unfold zV;rw[List.dropWhile_cons,if_pos (by decide)]
  ·have hu:zo (c::r)=c::r:=za3 (by simpa using h)
   rw[hu]
   have e:(zq (c::r)).head?≠some 45:=by
    unfold zq;rw[List.takeWhile_cons];split <;> simp[h]
   exact⟨za3 e,⟨fun x=>absurd x e,fun x=>absurd (by simpa using x) h⟩,rfl,rfl⟩
theorem zec(s:Str):zcG s=false ↔ (zcw s=0∨zcw s<s.length):=by
 unfold zcG;rw[decide_eq_false_iff_not]
 constructor <;> (intro h;omega)
theorem zrU(a n d:Str)(f mi:Bool)(hn:n=zq (zo a))(hd:d=zaD (zo a))(hf:f=zC (zo a))(hm:mi=decide (a.head? = some 45)) :
  (zcg a=11∧(zcG n=false∨(zcG n=true∧f=true∧zcG d=false)∨(zcG n=true∧f=true∧zcG d=true∧d=[48])∨(zcG n=true∧f=true∧zcG d=true∧d≠[48]∧d=[49]) ∨
   (zcG n=true∧f=true∧zcG d=true∧d≠[48]∧d≠[49]∧mi=true∧n=[48])∨(zcG n=true∧f=false∧mi=true∧n=[48]))) ∨
  (zcG n=true∧(mi=true→n≠[48]) ∧
   ((f=false∧d=[]∧((300<n.length∧zcg a=4)∨(n.length≤300∧zcg a=0))) ∨
  (f=true∧zcG d=true∧d≠[48]∧d≠[49]∧((300<n.length∧zcg a=4)∨(n.length≤300∧300<d.length∧zcg a=4) ∨
  (n.length≤300∧d.length≤300∧∃ x k:Nat,n=Lib.itoa (x:Int)∧d=Lib.itoa (k:Int)∧lim (x:Int)=false∧lim (k:Int)=false∧zcg a=if Nat.gcd x k=1 then 0 else 11))))):=by
 obtain⟨e1,e2,e3,e4⟩:=zh2 a
 have hb:=znI a
 rw[e1,← hn,e2]at hb
 have hfs:f=zC a:=by rw[hf,e3]
 have hdp:zC a=true→zV a=d:=by intro h;rw[hd];unfold zaD;rw[e3,if_pos h,e4]
 have hdn:zC a=false→d=[]:=by intro h;rw[hd];unfold zaD;rw[e3,h];rfl
 have h11:zly a→zcg a=11:=by intro h;unfold zcg;rw[if_pos h]
 by_cases hbad:zly a
 ·refine .inl ⟨h11 hbad,?_⟩
  cases hA:zcG n with
  | false=>exact .inl rfl
  | true =>
   have hA2:¬ (zcw n=0∨zcw n<n.length):=fun x=>by rw[← zec,hA]at x;cases x
   cases f with
   | false =>
    rcases hb.1 hbad with(h | h | h) | h
    ·exact absurd (.inl h) hA2
    ·exact absurd (.inr h) hA2
    ·exact .inr (.inr (.inr (.inr (.inr ⟨rfl,rfl,by rw[hm];simpa using h.1,h.2⟩))))
    ·rw[← hfs]at h;cases h.1
   | true =>
    rw[hdp hfs.symm]at hb
    cases hB:zcG d with
    | false=>exact .inr (.inl ⟨rfl,rfl,rfl⟩)
    | true =>
     have hB2:¬ (zcw d=0∨zcw d<d.length):=fun x=>by rw[← zec,hB]at x;cases x
     by_cases h48:d=[48]
     ·exact .inr (.inr (.inl ⟨rfl,rfl,rfl,h48⟩))
     ·by_cases h49:d=[49]
      ·exact .inr (.inr (.inr (.inl ⟨rfl,rfl,rfl,h48,h49⟩)))
      ·rcases hb.1 hbad with(h | h | h)|⟨-,h | h | h | h⟩
       ·exact absurd (.inl h) hA2
       ·exact absurd (.inr h) hA2
       ·exact .inr (.inr (.inr (.inr (.inl ⟨rfl,rfl,rfl,h48,h49,by rw[hm];simpa using h.1,h.2⟩))))
       ·exact absurd (.inl h) hB2
       ·exact absurd (.inr h) hB2
       ·exact absurd h h48
       ·exact absurd h h49
 ·have hA:zcG n=true:=by
   cases hA:zcG n with
   | true=>rfl
   | false =>
    refine absurd (hb.2 (.inl ?_)) hbad
    rcases(zec n).1 hA with h | h
    ·exact .inl h
    ·exact .inr (.inl h)
  refine .inr ⟨hA,fun hmi e=>hbad (hb.2 (.inl (.inr (.inr ⟨by rw[hm]at hmi;simpa using hmi,e⟩)))),?_⟩
  cases f with
  | false =>
   refine .inl ⟨rfl,hdn hfs.symm,?_⟩
   have hds:zal a=[49]:=by unfold zal;rw[← hfs];rfl
   have hw:=zin a hbad
   rw[e1,← hn,hds]at hw
   rcases hw with⟨hr,-,h1⟩|⟨hr,-,h1,h2⟩|⟨h1,h2,z,k,hk,hz,hkk,lz,lk,hr⟩
   ·exact .inl ⟨h1,hr⟩
   ·simp at h2
   ·refine .inr ⟨h1,?_⟩
    rw[← zai]at hkk
    have hk1:k=1:=by have:=zak hkk;omega
    rw[hr,hk1,if_pos (Nat.gcd_one_right _)]
  | true =>
   have hds:zal a=d:=by unfold zal;rw[← hfs,if_pos rfl];exact hdp hfs.symm
   rw[hdp hfs.symm]at hb
   have hB:zcG d=true:=by
    cases hB:zcG d with
    | true=>rfl
    | false =>
     refine absurd (hb.2 (.inr ⟨hfs.symm,?_⟩)) hbad
     rcases(zec d).1 hB with h | h
     ·exact .inl h
     ·exact .inr (.inl h)
   have h48:d≠[48]:=fun h=>hbad (hb.2 (.inr ⟨hfs.symm,.inr (.inr (.inl h))⟩))
   have h49:d≠[49]:=fun h=>hbad (hb.2 (.inr ⟨hfs.symm,.inr (.inr (.inr h))⟩))
   refine .inr ⟨rfl,hB,h48,h49,?_⟩
   have hw:=zin a hbad
   rw[hds]at hw
   rcases hw with⟨hr,-,h1⟩|⟨hr,-,h1,h2⟩|⟨h1,h2,z,k,hk,hz,hkk,lz,lk,hr⟩
   ·rw[e1,← hn]at h1
    exact .inl ⟨h1,hr⟩
   ·rw[e1,← hn]at h1
    exact .inr (.inl ⟨h1,h2,hr⟩)
   ·have hn2:n=Lib.itoa (z.natAbs:Int):=by rw[hn,← e1,hz,zav,zB]
    rw[e1,← hn]at h1
    exact .inr (.inr ⟨h1,h2,z.natAbs,k,hn2,hkk,zcj lz (by omega),lk,hr⟩)
theorem ziN{x:Nat}(h:(Lib.itoa (x:Int)).length≤9):x<1000000000:=by
 have h1:=zpl (x:Int)
 have h2:10 ^ (Lib.itoa (x:Int)).length≤10 ^ 9:=Nat.pow_le_pow_right (by decide) h
 have e:(10:Nat) ^ 9=1000000000:=by decide
 omega
def zq2(q:Rat):Str:=if q.den=1 then []else Lib.itoa (q.den:Int)
theorem zia(q:Rat):splitV (ze q)=.tuple #[.bool (decide (q.num<0)),.string ⟨(Lib.itoa (q.num.natAbs:Int)).toArray⟩,.string ⟨(zq2 q).toArray⟩,.bool (decide (q.den≠1))]:=by
 obtain⟨e1,e2,e3,e4⟩:=zh2 (ze q)
 have h1:zq (zo (ze q))=Lib.itoa (q.num.natAbs:Int):=by rw[← e1,zbY,zav,zB]
 have h2:decide ((ze q).head? = some 45)=decide (q.num<0):=by
  rw[decide_eq_decide]
  unfold ze;split
  ·have:=zcd q.num []
   rw[List.append_nil]at this
   exact this
  ·exact zcd q.num _
 have h3:zC (zo (ze q))=decide (q.den≠1)∧zaD (zo (ze q))=zq2 q:=by
  unfold zaD zq2
  rw[e3,e4]
  unfold ze
  by_cases h:q.den=1
  ·rw[if_pos h,if_pos h,zbK];simp[h]
  ·rw[if_neg h,if_neg h,zgt,if_pos rfl,zeV,zB];simp[h]
 unfold splitV
 rw[h1,h2,h3.1,h3.2]
def ztP(q:Rat):Prop:=q.num.natAbs<1000000000∧q.den<1000000000
theorem zty(x:Nat):(Lib.itoa (x:Int)).length≤9 ↔ x<1000000000:=by
 rw[← zB,zm _ 9 (by decide)]
theorem znQ(x:Nat):zay (Lib.itoa (x:Int)):=by rw[← zB];exact zY x
theorem zlH(x:Nat):nval (Lib.itoa (x:Int))=x:=by rw[← zB,z8]
theorem zej(q:Rat)(h:ztP q)(w:World) :
  CR 121 #[.string ⟨(ze q).toArray⟩] w (.tuple #[.int .i64 q.num,.int .i64 (q.den:Int),.bool true]):=by
 obtain⟨h1,h2⟩:=h
 have hlim:zam q=false:=Bd.zam (n:=9) ⟨by rw[show (10:Nat) ^ 9=1000000000 by decide];exact h1,by rw[show (10:Nat) ^ 9=1000000000 by decide];exact h2⟩ (by decide)
 have HSP:=LH (zft (ze q) (by have:=zaA hlim;omega) w)
 rw[zia]at HSP
 have l1:=(zty q.num.natAbs).2 h1
 have l1':((Lib.itoa (q.num.natAbs:Int)).length:Int)≤9:=by omega
 have hs1:=fun w=>zd3 (Lib.itoa (q.num.natAbs:Int)) (znQ _) (by omega) w
 rw[zlH]at hs1
 have HS1:=LH hs1
 have hsg:(decide (q.num<0)=true∧q.num = -(q.num.natAbs:Int))∨(decide (q.num<0)=false∧q.num=(q.num.natAbs:Int)):=by
  by_cases hn:q.num<0
  ·exact .inl ⟨by simpa using hn,by omega⟩
  ·exact .inr ⟨by simpa using hn,by omega⟩
 by_cases hd:q.den=1
 ·have e1:zq2 q=[]:=by unfold zq2;rw[if_pos hd]
  have e2:decide (q.den≠1)=false:=by simp[hd]
  rw[e1,e2]at HSP
  rw[hd]
  clear hlim hs1 e1 e2 l1 hd
  generalize decide (q.num<0)=mi at *
  generalize q.num.natAbs=x at *
  generalize q.num=z at *
  generalize ze q=a at *
  generalize Lib.itoa (x:Int)=X at *
  rcases hsg with⟨rfl,rfl⟩|⟨rfl,rfl⟩
  all_goals
   go_enter Tryz.func121,Tryz.ntmps121
   go_wp2_with fail
   refine HSP.out.mono ?_
   rintro e w1⟨rfl,hq0⟩
   go_wp2_with fail
   refine(HS1.out _).mono ?_
   rintro e w2⟨rfl,rfl⟩
   go_wp2
   go_ret3
   exact⟨rfl,hq0⟩
 ·have e1:zq2 q=Lib.itoa (q.den:Int):=by unfold zq2;rw[if_neg hd]
  have e2:decide (q.den≠1)=true:=by simp[hd]
  have l2:=(zty q.den).2 h2
  have l2':((Lib.itoa (q.den:Int)).length:Int)≤9:=by omega
  have hs2:=fun w=>zd3 (Lib.itoa (q.den:Int)) (znQ _) (by omega) w
  rw[zlH]at hs2
  have HS2:=LH hs2
  rw[e1,e2]at HSP
  clear hlim hs1 hs2 e1 e2 l1 l2 hd
  generalize decide (q.num<0)=mi at *
  generalize q.num.natAbs=x at *
  generalize q.num=z at *
  generalize ze q=a at *
  generalize q.den=y at *
  generalize Lib.itoa (x:Int)=X at *
  generalize Lib.itoa (y:Int)=Y at *
  rcases hsg with⟨rfl,rfl⟩|⟨rfl,rfl⟩
  all_goals
   go_enter Tryz.func121,Tryz.ntmps121
   go_wp2_with fail
   refine HSP.out.mono ?_
   rintro e w1⟨rfl,hq0⟩
   go_wp2_with fail
   refine(HS1.out _).mono ?_
   rintro e w2⟨rfl,rfl⟩
   go_wp2_with fail
   refine(HS2.out _).mono ?_
   rintro e w2⟨rfl,rfl⟩
   go_wp2
   go_ret3
   exact⟨rfl,hq0⟩
theorem zmN(q:Rat)(hlim:zam q=false)(w:World) :
  CR 122 #[.string ⟨(ze q).toArray⟩] w (.tuple #[.string ⟨(Lib.itoa q.num).toArray⟩,.string ⟨(Lib.itoa (q.den:Int)).toArray⟩]):=by
 have HSP:=LH (zft (ze q) (by have:=zaA hlim;omega) w)
 rw[zia]at HSP
 obtain⟨ln,ld⟩:=zx hlim
 have l1:=zU (q.num.natAbs:Int) (zcj ln (by omega))
 have hsg:(decide (q.num<0)=true∧Lib.itoa q.num=45::Lib.itoa (q.num.natAbs:Int))∨(decide (q.num<0)=false∧Lib.itoa q.num=Lib.itoa (q.num.natAbs:Int)):=by
  by_cases hn:q.num<0
  ·exact .inl ⟨by simpa using hn,by rw[itoa_neg hn,zB]⟩
  ·exact .inr ⟨by simpa using hn,by rw[show ((q.num.natAbs:Nat):Int)=q.num by omega]⟩
 have hdt:(decide (q.den≠1)=true∧zq2 q=Lib.itoa (q.den:Int))∨(decide (q.den≠1)=false∧Lib.itoa (q.den:Int)=[49]):=by
  by_cases hd:q.den=1
  ·exact .inr ⟨by simp[hd],by rw[hd];exact zai⟩
  ·exact .inl ⟨by simp[hd],by unfold zq2;rw[if_neg hd]⟩
 clear hlim ln ld
 generalize decide (q.num<0)=mi at *
 generalize decide (q.den≠1)=f at *
 generalize zq2 q=D at *
 generalize ze q=a at *
 generalize Lib.itoa (q.num.natAbs:Int)=X at *
 generalize Lib.itoa q.num=Z at *
 generalize Lib.itoa (q.den:Int)=Y at *
 rcases hsg with⟨rfl,rfl⟩|⟨rfl,rfl⟩
 all_goals
  rcases hdt with⟨rfl,rfl⟩|⟨rfl,rfl⟩
  all_goals
   go_enter Tryz.func122,Tryz.ntmps122
   go_wp2_with fail
   refine HSP.out.mono ?_
   rintro e w1⟨rfl,hq0⟩
   go_wp2
   go_ret2
   exact⟨rfl,hq0⟩
theorem zt6{a b:Nat}(ha:a<1000000000)(hb:b<1000000000):a*b<1000000000000000000:=by
 have h:a*b≤999999999*999999999:=Nat.mul_le_mul (by omega) (by omega)
 omega
end
end Go.Proofs.YtapnkgdnflofbaaGreatDoor
