/-
  A member as an argument.
-/
import Derived.Test.YtdecodpgdainiaaGreatDoorH05
import Derived.Test.YtdecodpgdainiaaGreatDoorH15
import Derived.ChangeMaps5
set_option maxRecDepth 100000
namespace Go.Proofs.YtdecodpgdainiaaGreatDoor
open Go.ChangeShapes Go.WideShapes Go.ChangeAt Go.RowKit Go.Deep Kp
theorem zuj:Tryz.prog.cellsOf 24=3:=by kernel_rfl
theorem zuD:Tryz.prog.cellsOf 22=1:=by kernel_rfl
theorem zri:Tryz.prog.cellsOf 3=1:=by kernel_rfl
theorem ztI:Tryz.prog.cellsOf 26=11:=by kernel_rfl
theorem zoS:Tryz.prog.underlying 24=some (.struct (Tryz.prog.fieldsOf 24)):=by kernel_rfl
theorem zh3:Tryz.prog.underlying 26=some (.struct (Tryz.prog.fieldsOf 26)):=by kernel_rfl
theorem zkZ:(Tryz.prog.fieldsOf 24).map (fun f=>(f.type,f.offset))=#[(22,0),(22,1),(22,2)]:=by kernel_rfl
theorem zcO:(Tryz.prog.fieldsOf 26).map (fun f=>(f.type,f.offset))=#[(3,0),(3,1),(3,2),(24,3),(24,6),(3,9),(3,10)]:=by kernel_rfl
theorem zb0{fs:Array Field}{l:Array (TypeId × Nat)}(h:fs.map (fun f=>(f.type,f.offset))=l)(i:Nat)(t o:Nat)(hi:l[i]? = some (t,o)):∃ f,fs[i]? = some f∧f.type=t∧f.offset=o:=by
 rw[← h,Array.getElem?_map]at hi
 obtain⟨f,h1,h2⟩:=Option.map_eq_some_iff.1 hi
 simp only[Prod.mk.injEq]at h2
 exact⟨f,h1,h2.1,h2.2⟩
theorem zpu{x:Int}(h:(Go.Lit.int .i64 x).wf=true):-9223372036854775808≤x∧x≤9223372036854775807:=by
 have h2:(decide (IntKind.min .i64≤x) && decide (x≤IntKind.max .i64))=true:=h
 rw[show IntKind.min .i64 = -9223372036854775808 from rfl,show IntKind.max .i64=9223372036854775807 from rfl]at h2
 simpa using h2
section
variable {H:Type} {enc:TypeId × Value→H} {W:World} {b0:Nat} {sp:Nat→Bool} {held:Bool}
theorem zdS{α:Type}{l:List α}{n i:Nat}(h:l.length=n)(hi:i<n):∃ y,l[i]? = some y:=⟨l[i]'(by omega),List.getElem?_eq_getElem (by omega)⟩
theorem zkT{c:Value}{fuel:Nat}{x:DataW H × List MemPlace}(h:DataW.trod enc Tryz.prog W 0 sp held fuel 22 [c]=some x):∃ s:Str,c=.string ⟨s.toArray⟩∧s.length≤maxLen:=by
 obtain⟨s,e,-,hs⟩:=DataW.trod_string Tryz.underlying22 h
 simp only[List.cons.injEq,and_true]at e
 exact⟨s.data.toList,by rw[e],by simpa using hs⟩
theorem zd2{c:Value}{fuel:Nat}{x:DataW H × List MemPlace}(h:DataW.trod enc Tryz.prog W 0 sp held fuel 3 [c]=some x):∃ n:Int,c=.int .i64 n∧-9223372036854775808≤n∧n≤9223372036854775807:=by
 obtain⟨n,e,-,hw⟩:=DataW.trod_int Tryz.underlying3 h
 simp only[List.cons.injEq,and_true]at e
 exact⟨n,e,zpu hw⟩
theorem zl9{c0 c1 c2:Value}{fuel:Nat}{x:DataW H × List MemPlace}(h:DataW.trod enc Tryz.prog W 0 sp held fuel 24 [c0,c1,c2]=some x) :
  ∃ X Y Z:Str,c0=.string ⟨X.toArray⟩∧c1=.string ⟨Y.toArray⟩∧c2=.string ⟨Z.toArray⟩∧X.length≤maxLen∧Y.length≤maxLen∧Z.length≤maxLen:=by
 obtain⟨ys,n,-,-,-,hyl,hat⟩:=DataW.trod_struct zoS h
 have hs:ys.length=3:=by
  have:=congrArg Array.size zkZ
  simp only[Array.size_map]at this
  rw[hyl,this];rfl
 obtain⟨f0,g0,t0,o0⟩:=zb0 zkZ 0 22 0 rfl
 obtain⟨f1,g1,t1,o1⟩:=zb0 zkZ 1 22 1 rfl
 obtain⟨f2,g2,t2,o2⟩:=zb0 zkZ 2 22 2 rfl
 have h0:=hat 0 f0 g0
 have h1:=hat 1 f1 g1
 have h2:=hat 2 f2 g2
 rw[t0,o0,zuD]at h0
 rw[t1,o1,zuD]at h1
 rw[t2,o2,zuD]at h2
 obtain⟨y0,e0⟩:=zdS hs (i:=0) (by decide)
 obtain⟨y1,e1⟩:=zdS hs (i:=1) (by decide)
 obtain⟨y2,e2⟩:=zdS hs (i:=2) (by decide)
 rw[e0]at h0
 rw[e1]at h1
 rw[e2]at h2
 obtain⟨X,rfl,lX⟩:=zkT (show DataW.trod enc Tryz.prog W 0 sp held n 22 [c0]=some y0 from h0)
 obtain⟨Y,rfl,lY⟩:=zkT (show DataW.trod enc Tryz.prog W 0 sp held n 22 [c1]=some y1 from h1)
 obtain⟨Z,rfl,lZ⟩:=zkT (show DataW.trod enc Tryz.prog W 0 sp held n 22 [c2]=some y2 from h2)
 exact⟨X,Y,Z,rfl,rfl,rfl,lX,lY,lZ⟩
structure Mb.fits (m:Mb):Prop where
 kind:-9223372036854775808≤m.kind∧m.kind≤9223372036854775807
 face:-9223372036854775808≤m.face∧m.face≤9223372036854775807
 other:-9223372036854775808≤m.other∧m.other≤9223372036854775807
 fx:m.fx.length≤maxLen
 fy:m.fy.length≤maxLen
 fz:m.fz.length≤maxLen
 tx:m.tx.length≤maxLen
 ty:m.ty.length≤maxLen
 tz:m.tz.length≤maxLen
 wid:-9223372036854775808≤m.wid∧m.wid≤9223372036854775807
 dep:-9223372036854775808≤m.dep∧m.dep≤9223372036854775807
theorem zne{c0 c1 c2 c3 c4 c5 c6 c7 c8 c9 c10:Value}{fuel:Nat}{x:DataW H × List MemPlace}(h:DataW.trod enc Tryz.prog W 0 sp held fuel 26 [c0,c1,c2,c3,c4,c5,c6,c7,c8,c9,c10]=some x) :
  ∃ m:Mb,m.fits∧[c0,c1,c2,c3,c4,c5,c6,c7,c8,c9,c10]=mbC m:=by
 obtain⟨ys,n,-,-,-,hyl,hat⟩:=DataW.trod_struct zh3 h
 have hs:ys.length=7:=by
  have:=congrArg Array.size zcO
  simp only[Array.size_map]at this
  rw[hyl,this];rfl
 obtain⟨f0,g0,t0,o0⟩:=zb0 zcO 0 3 0 rfl
 obtain⟨f1,g1,t1,o1⟩:=zb0 zcO 1 3 1 rfl
 obtain⟨f2,g2,t2,o2⟩:=zb0 zcO 2 3 2 rfl
 obtain⟨f3,g3,t3,o3⟩:=zb0 zcO 3 24 3 rfl
 obtain⟨f4,g4,t4,o4⟩:=zb0 zcO 4 24 6 rfl
 obtain⟨f5,g5,t5,o5⟩:=zb0 zcO 5 3 9 rfl
 obtain⟨f6,g6,t6,o6⟩:=zb0 zcO 6 3 10 rfl
 have h0:=hat 0 f0 g0
 have h1:=hat 1 f1 g1
 have h2:=hat 2 f2 g2
 have h3:=hat 3 f3 g3
 have h4:=hat 4 f4 g4
 have h5:=hat 5 f5 g5
 have h6:=hat 6 f6 g6
 rw[t0,o0,zri]at h0
 rw[t1,o1,zri]at h1
 rw[t2,o2,zri]at h2
 rw[t3,o3,zuj]at h3
 rw[t4,o4,zuj]at h4
 rw[t5,o5,zri]at h5
 rw[t6,o6,zri]at h6
 obtain⟨y0,e0⟩:=zdS hs (i:=0) (by decide)
 obtain⟨y1,e1⟩:=zdS hs (i:=1) (by decide)
 obtain⟨y2,e2⟩:=zdS hs (i:=2) (by decide)
 obtain⟨y3,e3⟩:=zdS hs (i:=3) (by decide)
 obtain⟨y4,e4⟩:=zdS hs (i:=4) (by decide)
 obtain⟨y5,e5⟩:=zdS hs (i:=5) (by decide)
 obtain⟨y6,e6⟩:=zdS hs (i:=6) (by decide)
 rw[e0]at h0
 rw[e1]at h1
 rw[e2]at h2
 rw[e3]at h3
 rw[e4]at h4
 rw[e5]at h5
 rw[e6]at h6
 obtain⟨k,rfl,rk⟩:=zd2 (show DataW.trod enc Tryz.prog W 0 sp held n 3 [c0]=some y0 from h0)
 obtain⟨fc,rfl,rf⟩:=zd2 (show DataW.trod enc Tryz.prog W 0 sp held n 3 [c1]=some y1 from h1)
 obtain⟨ot,rfl,ro⟩:=zd2 (show DataW.trod enc Tryz.prog W 0 sp held n 3 [c2]=some y2 from h2)
 obtain⟨X,Y,Z,rfl,rfl,rfl,lX,lY,lZ⟩:=zl9 (show DataW.trod enc Tryz.prog W 0 sp held n 24 [c3,c4,c5]=some y3 from h3)
 obtain⟨X',Y',Z',rfl,rfl,rfl,lX',lY',lZ'⟩:=zl9 (show DataW.trod enc Tryz.prog W 0 sp held n 24 [c6,c7,c8]=some y4 from h4)
 obtain⟨wi,rfl,rw'⟩:=zd2 (show DataW.trod enc Tryz.prog W 0 sp held n 3 [c9]=some y5 from h5)
 obtain⟨dp,rfl,rd⟩:=zd2 (show DataW.trod enc Tryz.prog W 0 sp held n 3 [c10]=some y6 from h6)
 exact⟨⟨k,fc,ot,X,Y,Z,X',Y',Z',wi,dp⟩,⟨rk,rf,ro,lX,lY,lZ,lX',lY',lZ',rw',rd⟩,rfl⟩
theorem ztO{α:Type}{cs:Array α}(h:cs.size=11):∃ c0 c1 c2 c3 c4 c5 c6 c7 c8 c9 c10,cs=#[c0,c1,c2,c3,c4,c5,c6,c7,c8,c9,c10]:=by
 obtain⟨l⟩:=cs
 match l,h with
 | [c0,c1,c2,c3,c4,c5,c6,c7,c8,c9,c10],_=>exact⟨c0,c1,c2,c3,c4,c5,c6,c7,c8,c9,c10,rfl⟩
theorem zjd{v:Value}{d:DataW H}{ps:List MemPlace}(hok:Value.okWide Tryz.prog W .any b0 26 v)(h:DataW.Trod enc Tryz.prog W 0 sp held 26 v d ps) :
  ∃ m:Mb,v=.agg (mbC m).toArray∧m.fits:=by
 obtain⟨cs,rfl,hsz⟩:=okWide_struct zh3 hok
 obtain⟨c0,c1,c2,c3,c4,c5,c6,c7,c8,c9,c10,rfl⟩:=ztO (hsz.trans ztI)
 obtain⟨fuel,hf⟩:=h
 obtain⟨m,hm,he⟩:=zne (show DataW.trod enc Tryz.prog W 0 sp held fuel 26 [c0,c1,c2,c3,c4,c5,c6,c7,c8,c9,c10]=some (d,ps)from hf)
 exact⟨m,by rw[← he],hm⟩
end
end Go.Proofs.YtdecodpgdainiaaGreatDoor
