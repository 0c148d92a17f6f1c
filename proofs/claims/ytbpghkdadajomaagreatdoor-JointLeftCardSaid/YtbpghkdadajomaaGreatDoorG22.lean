/-
  A member as an argument.; A roof as an argument.
-/
import Derived.Test.YtbpghkdadajomaaGreatDoorG05
import Derived.Test.YtbpghkdadajomaaGreatDoorG15
import Derived.ChangeMaps5
import Derived.Test.YtbpghkdadajomaaGreatDoorG18
set_option maxRecDepth 100000
namespace Go.Proofs.YtbpghkdadajomaaGreatDoor
section
open Go.ChangeShapes Go.WideShapes Go.ChangeAt Go.RowKit Go.Deep Kp
theorem zsp:Tryz.prog.cellsOf 32=3:=by kernel_rfl
theorem zsO:Tryz.prog.cellsOf 30=1:=by kernel_rfl
theorem zjn:Tryz.prog.cellsOf 3=1:=by kernel_rfl
theorem zrU:Tryz.prog.cellsOf 34=11:=by kernel_rfl
theorem znT:Tryz.prog.underlying 32=some (.struct (Tryz.prog.fieldsOf 32)):=by kernel_rfl
theorem zhW:Tryz.prog.underlying 34=some (.struct (Tryz.prog.fieldsOf 34)):=by kernel_rfl
theorem zkz:(Tryz.prog.fieldsOf 32).map (fun f=>(f.type,f.offset))=#[(30,0),(30,1),(30,2)]:=by kernel_rfl
theorem zcU:(Tryz.prog.fieldsOf 34).map (fun f=>(f.type,f.offset))=#[(3,0),(3,1),(3,2),(32,3),(32,6),(3,9),(3,10)]:=by kernel_rfl
theorem zao{fs:Array Field}{l:Array (TypeId × Nat)}(h:fs.map (fun f=>(f.type,f.offset))=l)(i:Nat)(t o:Nat)(hi:l[i]? = some (t,o)):∃ f,fs[i]? = some f∧f.type=t∧f.offset=o:=by
 rw[← h,Array.getElem?_map]at hi
 obtain⟨f,h1,h2⟩:=Option.map_eq_some_iff.1 hi
 simp only[Prod.mk.injEq]at h2
 exact⟨f,h1,h2.1,h2.2⟩
theorem zoz{x:Int}(h:(Go.Lit.int .i64 x).wf=true):-9223372036854775808≤x∧x≤9223372036854775807:=by
 have h2:(decide (IntKind.min .i64≤x) && decide (x≤IntKind.max .i64))=true:=h
 rw[show IntKind.min .i64 = -9223372036854775808 from rfl,show IntKind.max .i64=9223372036854775807 from rfl]at h2
 simpa using h2
section
variable {H:Type} {enc:TypeId × Value→H} {W:World} {b0:Nat} {sp:Nat→Bool} {held:Bool}
theorem za4{α:Type}{l:List α}{n i:Nat}(h:l.length=n)(hi:i<n):∃ y,l[i]? = some y:=⟨l[i]'(by omega),List.getElem?_eq_getElem (by omega)⟩
theorem zkr{c:Value}{fuel:Nat}{x:DataW H × List MemPlace}(h:DataW.trod enc Tryz.prog W 0 sp held fuel 30 [c]=some x):∃ s:Str,c=.string ⟨s.toArray⟩∧s.length≤maxLen:=by
 obtain⟨s,e,-,hs⟩:=DataW.trod_string Tryz.underlying30 h
 simp only[List.cons.injEq,and_true]at e
 exact⟨s.data.toList,by rw[e],by simpa using hs⟩
theorem zbe{c:Value}{fuel:Nat}{x:DataW H × List MemPlace}(h:DataW.trod enc Tryz.prog W 0 sp held fuel 3 [c]=some x):∃ n:Int,c=.int .i64 n∧-9223372036854775808≤n∧n≤9223372036854775807:=by
 obtain⟨n,e,-,hw⟩:=DataW.trod_int Tryz.underlying3 h
 simp only[List.cons.injEq,and_true]at e
 exact⟨n,e,zoz hw⟩
theorem zlB{c0 c1 c2:Value}{fuel:Nat}{x:DataW H × List MemPlace}(h:DataW.trod enc Tryz.prog W 0 sp held fuel 32 [c0,c1,c2]=some x) :
  ∃ X Y Z:Str,c0=.string ⟨X.toArray⟩∧c1=.string ⟨Y.toArray⟩∧c2=.string ⟨Z.toArray⟩∧X.length≤maxLen∧Y.length≤maxLen∧Z.length≤maxLen:=by
 obtain⟨ys,n,-,-,-,hyl,hat⟩:=DataW.trod_struct znT h
 have hs:ys.length=3:=by
  have:=congrArg Array.size zkz
  simp only[Array.size_map]at this
  rw[hyl,this];rfl
 obtain⟨f0,g0,t0,o0⟩:=zao zkz 0 30 0 rfl
 obtain⟨f1,g1,t1,o1⟩:=zao zkz 1 30 1 rfl
 obtain⟨f2,g2,t2,o2⟩:=zao zkz 2 30 2 rfl
 have h0:=hat 0 f0 g0
 have h1:=hat 1 f1 g1
 have h2:=hat 2 f2 g2
 rw[t0,o0,zsO]at h0
 rw[t1,o1,zsO]at h1
 rw[t2,o2,zsO]at h2
 obtain⟨y0,e0⟩:=za4 hs (i:=0) (by decide)
 obtain⟨y1,e1⟩:=za4 hs (i:=1) (by decide)
 obtain⟨y2,e2⟩:=za4 hs (i:=2) (by decide)
 rw[e0]at h0
 rw[e1]at h1
 rw[e2]at h2
 obtain⟨X,rfl,lX⟩:=zkr (show DataW.trod enc Tryz.prog W 0 sp held n 30 [c0]=some y0 from h0)
 obtain⟨Y,rfl,lY⟩:=zkr (show DataW.trod enc Tryz.prog W 0 sp held n 30 [c1]=some y1 from h1)
 obtain⟨Z,rfl,lZ⟩:=zkr (show DataW.trod enc Tryz.prog W 0 sp held n 30 [c2]=some y2 from h2)
 exact⟨X,Y,Z,rfl,rfl,rfl,lX,lY,lZ⟩
structure Mb.fits (m:Mb):Prop where
 kind:-9223372036854775808≤m.kind∧m.kind≤9223372036854775807
 face:-9223372036854775808≤m.face∧m.face≤9223372036854775807
 other:-9223372036854775808≤m.other∧m.other≤9223372036854775807
 fx:m.fx.length≤maxLen
 fy:m.fy.length≤maxLen
 fz:m.fz.length≤maxLen
 tx:m.tx.length≤maxLen
 ty:m.ty.length≤maxLen
 tz:m.tz.length≤maxLen
 wid:-9223372036854775808≤m.wid∧m.wid≤9223372036854775807
 dep:-9223372036854775808≤m.dep∧m.dep≤9223372036854775807
theorem zmB{c0 c1 c2 c3 c4 c5 c6 c7 c8 c9 c10:Value}{fuel:Nat}{x:DataW H × List MemPlace}(h:DataW.trod enc Tryz.prog W 0 sp held fuel 34 [c0,c1,c2,c3,c4,c5,c6,c7,c8,c9,c10]=some x) :
  ∃ m:Mb,m.fits∧[c0,c1,c2,c3,c4,c5,c6,c7,c8,c9,c10]=mbC m:=by
 obtain⟨ys,n,-,-,-,hyl,hat⟩:=DataW.trod_struct zhW h
 have hs:ys.length=7:=by
  have:=congrArg Array.size zcU
  simp only[Array.size_map]at this
  rw[hyl,this];rfl
 obtain⟨f0,g0,t0,o0⟩:=zao zcU 0 3 0 rfl
 obtain⟨f1,g1,t1,o1⟩:=zao zcU 1 3 1 rfl
 obtain⟨f2,g2,t2,o2⟩:=zao zcU 2 3 2 rfl
 obtain⟨f3,g3,t3,o3⟩:=zao zcU 3 32 3 rfl
 obtain⟨f4,g4,t4,o4⟩:=zao zcU 4 32 6 rfl
 obtain⟨f5,g5,t5,o5⟩:=zao zcU 5 3 9 rfl
 obtain⟨f6,g6,t6,o6⟩:=zao zcU 6 3 10 rfl
 have h0:=hat 0 f0 g0
 have h1:=hat 1 f1 g1
 have h2:=hat 2 f2 g2
 have h3:=hat 3 f3 g3
 have h4:=hat 4 f4 g4
 have h5:=hat 5 f5 g5
 have h6:=hat 6 f6 g6
 rw[t0,o0,zjn]at h0
 rw[t1,o1,zjn]at h1
 rw[t2,o2,zjn]at h2
 rw[t3,o3,zsp]at h3
 rw[t4,o4,zsp]at h4
 rw[t5,o5,zjn]at h5
 rw[t6,o6,zjn]at h6
 obtain⟨y0,e0⟩:=za4 hs (i:=0) (by decide)
 obtain⟨y1,e1⟩:=za4 hs (i:=1) (by decide)
 obtain⟨y2,e2⟩:=za4 hs (i:=2) (by decide)
 obtain⟨y3,e3⟩:=za4 hs (i:=3) (by decide)
 obtain⟨y4,e4⟩:=za4 hs (i:=4) (by decide)
 obtain⟨y5,e5⟩:=za4 hs (i:=5) (by decide)
 obtain⟨y6,e6⟩:=za4 hs (i:=6) (by decide)
 rw[e0]at h0
 rw[e1]at h1
 rw[e2]at h2
 rw[e3]at h3
 rw[e4]at h4
 rw[e5]at h5
 rw[e6]at h6
 obtain⟨k,rfl,rk⟩:=zbe (show DataW.trod enc Tryz.prog W 0 sp held n 3 [c0]=some y0 from h0)
 obtain⟨fc,rfl,rf⟩:=zbe (show DataW.trod enc Tryz.prog W 0 sp held n 3 [c1]=some y1 from h1)
 obtain⟨ot,rfl,ro⟩:=zbe (show DataW.trod enc Tryz.prog W 0 sp held n 3 [c2]=some y2 from h2)
 obtain⟨X,Y,Z,rfl,rfl,rfl,lX,lY,lZ⟩:=zlB (show DataW.trod enc Tryz.prog W 0 sp held n 32 [c3,c4,c5]=some y3 from h3)
 obtain⟨X',Y',Z',rfl,rfl,rfl,lX',lY',lZ'⟩:=zlB (show DataW.trod enc Tryz.prog W 0 sp held n 32 [c6,c7,c8]=some y4 from h4)
 obtain⟨wi,rfl,rw'⟩:=zbe (show DataW.trod enc Tryz.prog W 0 sp held n 3 [c9]=some y5 from h5)
 obtain⟨dp,rfl,rd⟩:=zbe (show DataW.trod enc Tryz.prog W 0 sp held n 3 [c10]=some y6 from h6)
 exact⟨⟨k,fc,ot,X,Y,Z,X',Y',Z',wi,dp⟩,⟨rk,rf,ro,lX,lY,lZ,lX',lY',lZ',rw',rd⟩,rfl⟩
theorem zr0{α:Type}{cs:Array α}(h:cs.size=11):∃ c0 c1 c2 c3 c4 c5 c6 c7 c8 c9 c10,cs=#[c0,c1,c2,c3,c4,c5,c6,c7,c8,c9,c10]:=by
 obtain⟨l⟩:=cs
 match l,h with
 | [c0,c1,c2,c3,c4,c5,c6,c7,c8,c9,c10],_=>exact⟨c0,c1,c2,c3,c4,c5,c6,c7,c8,c9,c10,rfl⟩
theorem zm0{v:Value}{d:DataW H}{ps:List MemPlace}(hok:Value.okWide Tryz.prog W .any b0 34 v)(h:DataW.Trod enc Tryz.prog W 0 sp held 34 v d ps) :
  ∃ m:Mb,v=.agg (mbC m).toArray∧m.fits:=by
 obtain⟨cs,rfl,hsz⟩:=okWide_struct zhW hok
 obtain⟨c0,c1,c2,c3,c4,c5,c6,c7,c8,c9,c10,rfl⟩:=zr0 (hsz.trans zrU)
 obtain⟨fuel,hf⟩:=h
 obtain⟨m,hm,he⟩:=zmB (show DataW.trod enc Tryz.prog W 0 sp held fuel 34 [c0,c1,c2,c3,c4,c5,c6,c7,c8,c9,c10]=some (d,ps)from hf)
 exact⟨m,by rw[← he],hm⟩
end
end
section
open Go.ChangeShapes Go.WideShapes Go.ChangeAt Go.RowKit Go.Deep Kp
theorem zsK:Tryz.prog.cellsOf 36=7:=by kernel_rfl
theorem zsu:Tryz.prog.cellsOf 4=1:=by kernel_rfl
theorem zsM:Tryz.prog.cellsOf 61=1:=by kernel_rfl
theorem zsq:Tryz.prog.cellsOf 22=1:=by kernel_rfl
theorem zsN:Tryz.prog.cellsOf 24=1:=by kernel_rfl
theorem zrQ:Tryz.prog.cellsOf 25=1:=by kernel_rfl
theorem zst:Tryz.prog.cellsOf 26=1:=by kernel_rfl
theorem zss:Tryz.prog.cellsOf 27=1:=by kernel_rfl
theorem zsL:Tryz.prog.cellsOf 29=4:=by kernel_rfl
theorem znZ:Tryz.prog.underlying 36=some (.struct (Tryz.prog.fieldsOf 36)):=by kernel_rfl
theorem zj4:Tryz.prog.underlying 24=some (.struct (Tryz.prog.fieldsOf 24)):=by kernel_rfl
theorem zho:Tryz.prog.underlying 29=some (.struct (Tryz.prog.fieldsOf 29)):=by kernel_rfl
theorem zeR:(Tryz.prog.fieldsOf 36).map (fun f=>(f.type,f.offset))=#[(3,0),(3,1),(3,2),(3,3),(4,4),(3,5),(3,6)]:=by kernel_rfl
theorem zpn:(Tryz.prog.fieldsOf 24).map (fun f=>(f.type,f.offset))=#[(22,0)]:=by kernel_rfl
theorem ziL:(Tryz.prog.fieldsOf 29).map (fun f=>(f.type,f.offset))=#[(24,0),(25,1),(26,2),(27,3)]:=by kernel_rfl
theorem zo3:Tryz.prog.bytesOf 36=56:=by kernel_rfl
theorem zpd:Tryz.prog.bytesOf 61=24:=by kernel_rfl
theorem zkT{α:Type}{C:Nat→α→Prop}:∀ (n:Nat),(∀ i,i<n→∃ s,C i s)→∃ l:List α,l.length=n∧∀ i (h:i<l.length),C i l[i]
 | 0,_=>⟨[],rfl,fun _ hi=>absurd hi (Nat.not_lt_zero _)⟩
 | n+1,h=>by
  obtain⟨l,hl,hc⟩:=zkT n (fun i hi=>h i (by omega))
  obtain⟨s,hs⟩:=h n (by omega)
  refine⟨l++[s],by simp[hl],fun i hi=>?_⟩
  by_cases e:i<l.length
  ·rw[List.getElem_append_left e];exact hc i e
  ·have e2:i=n:=by simp at hi;omega
   subst e2
   rw[List.getElem_append_right (by omega)]
   simpa using hs
theorem zsI{α:Type}{cs:List α}(h:cs.length=7):∃ c0 c1 c2 c3 c4 c5 c6,cs=[c0,c1,c2,c3,c4,c5,c6]:=by
 match cs,h with
 | [c0,c1,c2,c3,c4,c5,c6],_=>exact⟨c0,c1,c2,c3,c4,c5,c6,rfl⟩
theorem array4{α:Type}{cs:Array α}(h:cs.size=4):∃ c0 c1 c2 c3,cs=#[c0,c1,c2,c3]:=by
 obtain⟨l⟩:=cs
 match l,h with
 | [c0,c1,c2,c3],_=>exact⟨c0,c1,c2,c3,rfl⟩
section
variable {H:Type} {enc:TypeId × Value→H} {W:World} {b0:Nat} {sp:Nat→Bool} {held:Bool}
theorem zoO{c0 c1 c2 c3 c4 c5 c6:Value}{fuel:Nat}{x:DataW H × List MemPlace}(h:DataW.trod enc Tryz.prog W 0 sp held fuel 36 [c0,c1,c2,c3,c4,c5,c6]=some x) :
  ∃ s:Sd,[c0,c1,c2,c3,c4,c5,c6]=sdC s:=by
 obtain⟨ys,n,-,-,-,hyl,hat⟩:=DataW.trod_struct znZ h
 have hs:ys.length=7:=by
  have:=congrArg Array.size zeR
  simp only[Array.size_map]at this
  rw[hyl,this];rfl
 obtain⟨f0,g0,t0,o0⟩:=zao zeR 0 3 0 rfl
 obtain⟨f1,g1,t1,o1⟩:=zao zeR 1 3 1 rfl
 obtain⟨f2,g2,t2,o2⟩:=zao zeR 2 3 2 rfl
 obtain⟨f3,g3,t3,o3⟩:=zao zeR 3 3 3 rfl
 obtain⟨f4,g4,t4,o4⟩:=zao zeR 4 4 4 rfl
 obtain⟨f5,g5,t5,o5⟩:=zao zeR 5 3 5 rfl
 obtain⟨f6,g6,t6,o6⟩:=zao zeR 6 3 6 rfl
 have h0:=hat 0 f0 g0
 have h1:=hat 1 f1 g1
 have h2:=hat 2 f2 g2
 have h3:=hat 3 f3 g3
 have h4:=hat 4 f4 g4
 have h5:=hat 5 f5 g5
 have h6:=hat 6 f6 g6
 rw[t0,o0,zjn]at h0
 rw[t1,o1,zjn]at h1
 rw[t2,o2,zjn]at h2
 rw[t3,o3,zjn]at h3
 rw[t4,o4,zsu]at h4
 rw[t5,o5,zjn]at h5
 rw[t6,o6,zjn]at h6
 obtain⟨y0,e0⟩:=za4 hs (i:=0) (by decide)
 obtain⟨y1,e1⟩:=za4 hs (i:=1) (by decide)
 obtain⟨y2,e2⟩:=za4 hs (i:=2) (by decide)
 obtain⟨y3,e3⟩:=za4 hs (i:=3) (by decide)
 obtain⟨y4,e4⟩:=za4 hs (i:=4) (by decide)
 obtain⟨y5,e5⟩:=za4 hs (i:=5) (by decide)
 obtain⟨y6,e6⟩:=za4 hs (i:=6) (by decide)
 rw[e0]at h0
 rw[e1]at h1
 rw[e2]at h2
 rw[e3]at h3
 rw[e4]at h4
 rw[e5]at h5
 rw[e6]at h6
 obtain⟨x0,rfl,-⟩:=zbe (show DataW.trod enc Tryz.prog W 0 sp held n 3 [c0]=some y0 from h0)
 obtain⟨x1,rfl,-⟩:=zbe (show DataW.trod enc Tryz.prog W 0 sp held n 3 [c1]=some y1 from h1)
 obtain⟨x2,rfl,-⟩:=zbe (show DataW.trod enc Tryz.prog W 0 sp held n 3 [c2]=some y2 from h2)
 obtain⟨x3,rfl,-⟩:=zbe (show DataW.trod enc Tryz.prog W 0 sp held n 3 [c3]=some y3 from h3)
 obtain⟨x4,he,-⟩:=DataW.trod_bool Tryz.underlying4 (show DataW.trod enc Tryz.prog W 0 sp held n 4 [c4]=some y4 from h4)
 simp only[List.cons.injEq,and_true]at he
 subst he
 obtain⟨x5,rfl,-⟩:=zbe (show DataW.trod enc Tryz.prog W 0 sp held n 3 [c5]=some y5 from h5)
 obtain⟨x6,rfl,-⟩:=zbe (show DataW.trod enc Tryz.prog W 0 sp held n 3 [c6]=some y6 from h6)
 exact⟨⟨x0,x1,x2,x3,x4,x5,x6⟩,rfl⟩
theorem zfI{P:Program}{e:TypeId}:∀ {l:List (DataW H)} {d:DataW H} {n:Nat},d∈l→n∈d.weights P e→n∈DataW.weightsAll P e l
 | _::_,_,_,h,hn=>by
  simp only[DataW.weightsAll,List.mem_append]
  rcases List.mem_cons.1 h with rfl | h
  ·exact .inl hn
  ·exact .inr (zfI h hn)
theorem zoP{c:Value}{fuel:Nat}{x:DataW H × List MemPlace}(h:DataW.trod enc Tryz.prog W 0 sp held fuel 61 [c]=some x) :
  ∃ r:List Sd,zbZ 7 sdC W c r∧(r.length=0∨∃ n∈x.1.weights Tryz.prog 61,r.length*56≤n):=by
 rcases open_slice Tryz.underlying61 h with⟨hcs,_⟩|⟨a,len,cap,m,n,D,Pl,hcs,_,hl,hm,hmm,hx,hi⟩
 ·simp only[List.cons.injEq,and_true]at hcs
  subst hcs
  exact⟨[],zbZ.nil W none 0,.inl rfl⟩
 ·simp only[List.cons.injEq,and_true]at hcs
  subst hcs
  have hlm:len≤m:=by rw[hmm];split <;> omega
  have key:∀ i,i<len→∃ s:Sd,∀ j z,(sdC s)[j]? = some z→W.cell? ((a.add (i*7)).add j)=some z:=fun i hil=>by
   obtain⟨cs',hc,ht⟩:=hi i (by omega)
   rw[zsK]at hc
   obtain⟨_,hcl,hat⟩:=World.cells?_some hc
   obtain⟨c0,c1,c2,c3,c4,c5,c6,rfl⟩:=zsI hcl
   obtain⟨s,he⟩:=zoO ht
   refine⟨s,fun j z hz=>?_⟩
   rw[← he]at hz
   have hj:j<7:=(List.getElem?_eq_some_iff.1 hz).1
   rw[hat j hj];exact hz
  obtain⟨l,hll,hc⟩:=zkT len key
  refine⟨l,⟨some a,cap,by rw[hll],fun i hil=>?_⟩,.inr ⟨(len+(m - len))*56,?_,by rw[hll];exact Nat.mul_le_mul_right _ (Nat.le_add_right _ _)⟩⟩
  ·obtain⟨b,o,spot⟩:=a
   have z0:=hc 0 (by omega) 0 _ rfl
   have hs:spot=none:=by simpa[Addr.add]using World.cell?_spot z0
   subst hs
   have hcc:∀ j z,(sdC l[i])[j]? = some z→W.cell? ⟨b,o+i*7+j,none⟩=some z:=fun j z hz=>by
    have h4:=hc i hil j z hz
    rwa[Addr.add_lit,Addr.add_lit]at h4
   exact⟨b,o,rfl,World.block_lt_of_cell? W _ (hcc 0 _ rfl),hcc⟩
  ·rw[hx]
   simp only[DataW.weights,Tryz.underlying61,zo3,List.length_map,List.length_range,List.mem_cons,true_or]
theorem znN{c:Value}{fuel:Nat}{x:DataW H × List MemPlace}(h:DataW.trod enc Tryz.prog W 0 sp held fuel 22 [c]=some x) :
  ∃ R:List (List Sd),zfk W c R∧(R.length=0∨∃ n∈x.1.weights Tryz.prog 22,R.length*24≤n)∧∀ r∈R,r.length=0∨∃ n∈x.1.weights Tryz.prog 22,r.length*56≤n:=by
 rcases open_slice1 Tryz.underlying22 zsM h with⟨hcs,_⟩|⟨a,len,cap,m,n,V,D,Pl,hcs,_,hl,hm,hmm,hx,hi⟩
 ·simp only[List.cons.injEq,and_true]at hcs
  subst hcs
  exact⟨[],⟨none,0,rfl,fun _ hi=>absurd hi (Nat.not_lt_zero _)⟩,.inl rfl,fun _ h=>by cases h⟩
 ·simp only[List.cons.injEq,and_true]at hcs
  subst hcs
  have hlm:len≤m:=by rw[hmm];split <;> omega
  obtain⟨R,hll,hc⟩:=zkT (C:=fun i (r:List Sd)=>W.cell? (a.add i)=some (V i)∧zbZ 7 sdC W (V i) r∧(r.length=0∨∃ n∈(D i).weights Tryz.prog 61,r.length*56≤n)) len (fun i hil=>by
   obtain⟨h1,h2⟩:=hi i (by omega)
   obtain⟨r,hr,hw⟩:=zoP h2
   exact⟨r,h1,hr,hw⟩)
  have hwe:x.1.weights Tryz.prog 22=(len+(m - len))*24::(DataW.weightsAll Tryz.prog 61 ((List.range len).map D)++DataW.weightsAll Tryz.prog 61 ((List.range (m - len)).map fun j=>D (len+j))):=by
   rw[hx]
   simp only[DataW.weights,Tryz.underlying22,zpd,List.length_map,List.length_range]
  refine⟨R,⟨some a,cap,by rw[hll],fun i hil=>?_⟩,.inr ⟨(len+(m - len))*24,by rw[hwe];exact List.mem_cons_self,by rw[hll];exact Nat.mul_le_mul_right _ (Nat.le_add_right _ _)⟩,fun r hr=>?_⟩
  ·obtain⟨b,o,spot⟩:=a
   have z0:=(hc 0 (by omega)).1
   have hs:spot=none:=by simpa[Addr.add]using World.cell?_spot z0
   subst hs
   obtain⟨h1,h2,-⟩:=hc i hil
   rw[Addr.add_lit]at h1
   exact⟨b,o,V i,rfl,World.block_lt_of_cell? W _ h1,h1,h2⟩
  ·obtain⟨i,hil,rfl⟩:=List.mem_iff_getElem.1 hr
   obtain⟨-,-,h3⟩:=hc i hil
   rcases h3 with h3 | ⟨k,hk,hle⟩
   ·exact .inl h3
   ·refine .inr ⟨k,?_,hle⟩
    rw[hwe]
    exact List.mem_cons_of_mem _ (List.mem_append_left _ (zfI (List.mem_map.2 ⟨i,List.mem_range.2 (by omega),rfl⟩) hk))
theorem zoQ{c:Value}{fuel:Nat}{x:DataW H × List MemPlace}(h:DataW.trod enc Tryz.prog W 0 sp held fuel 24 [c]=some x) :
  ∃ R:List (List Sd),zfk W c R∧(R.length=0∨∃ n∈x.1.weights Tryz.prog 24,R.length*24≤n)∧∀ r∈R,r.length=0∨∃ n∈x.1.weights Tryz.prog 24,r.length*56≤n:=by
 obtain⟨ys,n,-,hx,-,hyl,hat⟩:=DataW.trod_struct zj4 h
 have hs:ys.length=1:=by
  have:=congrArg Array.size zpn
  simp only[Array.size_map]at this
  rw[hyl,this];rfl
 obtain⟨f0,g0,t0,o0⟩:=zao zpn 0 22 0 rfl
 have h0:=hat 0 f0 g0
 rw[t0,o0,zsq]at h0
 obtain⟨y0,e0⟩:=za4 hs (i:=0) (by decide)
 rw[e0]at h0
 obtain⟨R,hR,h1,h2⟩:=znN (show DataW.trod enc Tryz.prog W 0 sp held n 22 [c]=some y0 from h0)
 have hfs:(Tryz.prog.fieldsOf 24).toList.map (·.type)=[22]:=by kernel_rfl
 have hy:ys=[y0]:=by
  match ys,hs,e0 with
  | [y],_,e=>simp at e;rw[e]
 have hw:x.1.weights Tryz.prog 24=y0.1.weights Tryz.prog 22:=by
  rw[hx,hy]
  simp only[DataW.weights,zj4,hfs,List.map_cons,List.map_nil,DataW.weightsEach,List.append_nil]
 rw[hw]
 exact⟨R,hR,h1,h2⟩
theorem zfM{t e:TypeId}(ht:Tryz.prog.underlying t=some (.slice e)){c:Value}{fuel:Nat}{x:DataW H × List MemPlace}(h:DataW.trod enc Tryz.prog W 0 sp held fuel t [c]=some x):∃ s:Sl3,c=s.v:=by
 rcases open_slice ht h with⟨hcs,_⟩|⟨a,len,cap,m,n,D,Pl,hcs,-⟩
 ·simp only[List.cons.injEq,and_true]at hcs
  exact⟨⟨none,0,0⟩,hcs⟩
 ·simp only[List.cons.injEq,and_true]at hcs
  exact⟨⟨some a,len,cap⟩,hcs⟩
theorem zpp{v:Value}{d:DataW H}{ps:List MemPlace}(hok:Value.okWide Tryz.prog W .any b0 29 v)(h:DataW.Trod enc Tryz.prog W 0 sp held 29 v d ps)
  (hsz:∀ n∈d.weights Tryz.prog 29,n≤reachBytes) :
  ∃ (ro:Ro) (R:List (List Sd)),v=.agg (roC ro).toArray∧zfk W ro.p.v R∧R.length≤8796093022208∧∀ r∈R,r.length≤8796093022208:=by
 obtain⟨cs,rfl,hcs⟩:=okWide_struct zho hok
 obtain⟨c0,c1,c2,c3,rfl⟩:=array4 (hcs.trans zsL)
 obtain⟨fuel,hf⟩:=h
 have hf:DataW.trod enc Tryz.prog W 0 sp held fuel 29 [c0,c1,c2,c3]=some (d,ps):=hf
 obtain⟨ys,n,-,hx,-,hyl,hat⟩:=DataW.trod_struct zho hf
 have hs:ys.length=4:=by
  have:=congrArg Array.size ziL
  simp only[Array.size_map]at this
  rw[hyl,this];rfl
 obtain⟨f0,g0,t0,o0⟩:=zao ziL 0 24 0 rfl
 obtain⟨f1,g1,t1,o1⟩:=zao ziL 1 25 1 rfl
 obtain⟨f2,g2,t2,o2⟩:=zao ziL 2 26 2 rfl
 obtain⟨f3,g3,t3,o3⟩:=zao ziL 3 27 3 rfl
 have h0:=hat 0 f0 g0
 have h1:=hat 1 f1 g1
 have h2:=hat 2 f2 g2
 have h3:=hat 3 f3 g3
 rw[t0,o0,zsN]at h0
 rw[t1,o1,zrQ]at h1
 rw[t2,o2,zst]at h2
 rw[t3,o3,zss]at h3
 obtain⟨y0,e0⟩:=za4 hs (i:=0) (by decide)
 obtain⟨y1,e1⟩:=za4 hs (i:=1) (by decide)
 obtain⟨y2,e2⟩:=za4 hs (i:=2) (by decide)
 obtain⟨y3,e3⟩:=za4 hs (i:=3) (by decide)
 rw[e0]at h0
 rw[e1]at h1
 rw[e2]at h2
 rw[e3]at h3
 obtain⟨R,hR,hw1,hw2⟩:=zoQ (show DataW.trod enc Tryz.prog W 0 sp held n 24 [c0]=some y0 from h0)
 obtain⟨s1,rfl⟩:=zfM Tryz.underlying25 (show DataW.trod enc Tryz.prog W 0 sp held n 25 [c1]=some y1 from h1)
 obtain⟨s2,rfl⟩:=zfM Tryz.underlying26 (show DataW.trod enc Tryz.prog W 0 sp held n 26 [c2]=some y2 from h2)
 obtain⟨s3,rfl⟩:=zfM Tryz.underlying27 (show DataW.trod enc Tryz.prog W 0 sp held n 27 [c3]=some y3 from h3)
 have hfs:(Tryz.prog.fieldsOf 29).toList.map (·.type)=[24,25,26,27]:=by kernel_rfl
 have hy:∃ l,ys=y0::l:=by
  match ys,hs,e0 with
  | y::l,_,e=>simp at e;exact⟨l,by rw[e]⟩
 obtain⟨l,hy⟩:=hy
 have hw:∀ n∈y0.1.weights Tryz.prog 24,n≤reachBytes:=fun k hk=>hsz k (by
  simp only[Prod.mk.injEq]at hx
  rw[hx.1,hy]
  simp only[DataW.weights,zho,hfs,List.map_cons,DataW.weightsEach]
  exact List.mem_append_left _ hk)
 obtain⟨a0,cap0,rfl,-⟩:=id hR
 refine⟨⟨⟨a0,R.length,cap0⟩,s1,s2,s3⟩,R,rfl,hR,?_,fun r hr=>?_⟩
 ·rcases hw1 with h | ⟨k,hk,hle⟩
  ·omega
  ·have:=hw k hk
   unfold reachBytes at this
   omega
 ·rcases hw2 r hr with h | ⟨k,hk,hle⟩
  ·omega
  ·have:=hw k hk
   unfold reachBytes at this
   omega
end
end
end Go.Proofs.YtbpghkdadajomaaGreatDoor
