/-
  A member as an argument.; A slice of lines as an argument.; What the row lays of the table of the kinds' faces.
-/
import Derived.Test.YtapnkgdnflofbaaGreatDoorCH06
import Derived.Test.YtapnkgdnflofbaaGreatDoorCH18
import Derived.ChangeMaps5
import Derived.Test.YtapnkgdnflofbaaGreatDoorCH05
import Derived.Test.YtapnkgdnflofbaaGreatDoorCH12
import Derived.Maps.Keyed
import Derived.WideKeyElems2
set_option maxRecDepth 100000
namespace Go.Proofs.YtapnkgdnflofbaaGreatDoor
section
open Go.ChangeShapes Go.WideShapes Go.ChangeAt Go.RowKit Go.Deep Kp
theorem ztH:Tryz.prog.cellsOf 32=3:=by kernel_rfl
theorem zt0:Tryz.prog.cellsOf 30=1:=by kernel_rfl
theorem zs9:Tryz.prog.cellsOf 3=1:=by kernel_rfl
theorem zom:Tryz.prog.underlying 32=some (.struct (Tryz.prog.fieldsOf 32)):=by kernel_rfl
theorem zke:(Tryz.prog.fieldsOf 32).map (fun f=>(f.type,f.offset))=#[(30,0),(30,1),(30,2)]:=by kernel_rfl
theorem zcF{fs:Array Field}{l:Array (TypeId × Nat)}(h:fs.map (fun f=>(f.type,f.offset))=l)(i:Nat)(t o:Nat)(hi:l[i]? = some (t,o)):∃ f,fs[i]? = some f∧f.type=t∧f.offset=o:=by
 rw[← h,Array.getElem?_map]at hi
 obtain⟨f,h1,h2⟩:=Option.map_eq_some_iff.1 hi
 simp only[Prod.mk.injEq]at h2
 exact⟨f,h1,h2.1,h2.2⟩
theorem zo6{x:Int}(h:(Go.Lit.int .i64 x).wf=true):-9223372036854775808≤x∧x≤9223372036854775807:=by
 have h2:(decide (IntKind.min .i64≤x) && decide (x≤IntKind.max .i64))=true:=h
 rw[show IntKind.min .i64 = -9223372036854775808 from rfl,show IntKind.max .i64=9223372036854775807 from rfl]at h2
 simpa using h2
section
variable {H:Type} {enc:TypeId × Value→H} {W:World} {b0:Nat} {sp:Nat→Bool} {held:Bool}
theorem zey{α:Type}{l:List α}{n i:Nat}(h:l.length=n)(hi:i<n):∃ y,l[i]? = some y:=⟨l[i]'(by omega),List.getElem?_eq_getElem (by omega)⟩
theorem zj9{c:Value}{fuel:Nat}{x:DataW H × List MemPlace}(h:DataW.trod enc Tryz.prog W 0 sp held fuel 30 [c]=some x):∃ s:Str,c=.string ⟨s.toArray⟩∧s.length≤maxLen:=by
 obtain⟨s,e,-,hs⟩:=DataW.trod_string Tryz.underlying30 h
 simp only[List.cons.injEq,and_true]at e
 exact⟨s.data.toList,by rw[e],by simpa using hs⟩
theorem zgI{c:Value}{fuel:Nat}{x:DataW H × List MemPlace}(h:DataW.trod enc Tryz.prog W 0 sp held fuel 3 [c]=some x):∃ n:Int,c=.int .i64 n∧-9223372036854775808≤n∧n≤9223372036854775807:=by
 obtain⟨n,e,-,hw⟩:=DataW.trod_int Tryz.underlying3 h
 simp only[List.cons.injEq,and_true]at e
 exact⟨n,e,zo6 hw⟩
theorem zld{c0 c1 c2:Value}{fuel:Nat}{x:DataW H × List MemPlace}(h:DataW.trod enc Tryz.prog W 0 sp held fuel 32 [c0,c1,c2]=some x) :
  ∃ X Y Z:Str,c0=.string ⟨X.toArray⟩∧c1=.string ⟨Y.toArray⟩∧c2=.string ⟨Z.toArray⟩∧X.length≤maxLen∧Y.length≤maxLen∧Z.length≤maxLen:=by
 obtain⟨ys,n,-,-,-,hyl,hat⟩:=DataW.trod_struct zom h
 have hs:ys.length=3:=by
  have:=congrArg Array.size zke
  simp only[Array.size_map]at this
  rw[hyl,this];rfl
 obtain⟨f0,g0,t0,o0⟩:=zcF zke 0 30 0 rfl
 obtain⟨f1,g1,t1,o1⟩:=zcF zke 1 30 1 rfl
 obtain⟨f2,g2,t2,o2⟩:=zcF zke 2 30 2 rfl
 have h0:=hat 0 f0 g0
 have h1:=hat 1 f1 g1
 have h2:=hat 2 f2 g2
 rw[t0,o0,zt0]at h0
 rw[t1,o1,zt0]at h1
 rw[t2,o2,zt0]at h2
 obtain⟨y0,e0⟩:=zey hs (i:=0) (by decide)
 obtain⟨y1,e1⟩:=zey hs (i:=1) (by decide)
 obtain⟨y2,e2⟩:=zey hs (i:=2) (by decide)
 rw[e0]at h0
 rw[e1]at h1
 rw[e2]at h2
 obtain⟨X,rfl,lX⟩:=zj9 (show DataW.trod enc Tryz.prog W 0 sp held n 30 [c0]=some y0 from h0)
 obtain⟨Y,rfl,lY⟩:=zj9 (show DataW.trod enc Tryz.prog W 0 sp held n 30 [c1]=some y1 from h1)
 obtain⟨Z,rfl,lZ⟩:=zj9 (show DataW.trod enc Tryz.prog W 0 sp held n 30 [c2]=some y2 from h2)
 exact⟨X,Y,Z,rfl,rfl,rfl,lX,lY,lZ⟩
structure Mb.fits (m:Mb):Prop where
 kind:-9223372036854775808≤m.kind∧m.kind≤9223372036854775807
 face:-9223372036854775808≤m.face∧m.face≤9223372036854775807
 other:-9223372036854775808≤m.other∧m.other≤9223372036854775807
 fx:m.fx.length≤maxLen
 fy:m.fy.length≤maxLen
 fz:m.fz.length≤maxLen
 tx:m.tx.length≤maxLen
 ty:m.ty.length≤maxLen
 tz:m.tz.length≤maxLen
 wid:-9223372036854775808≤m.wid∧m.wid≤9223372036854775807
 dep:-9223372036854775808≤m.dep∧m.dep≤9223372036854775807
end
theorem zt1:Tryz.prog.cellsOf 34=9:=by kernel_rfl
theorem zo2:Tryz.prog.underlying 34=some (.struct (Tryz.prog.fieldsOf 34)):=by kernel_rfl
theorem zg2:(Tryz.prog.fieldsOf 34).map (fun f=>(f.type,f.offset))=#[(3,0),(32,1),(32,4),(3,7),(3,8)]:=by kernel_rfl
theorem zp7:Tryz.prog.bytesOf 34=120:=by kernel_rfl
theorem znL{α:Type}{C:Nat→α→Prop}:∀ (n:Nat),(∀ i,i<n→∃ s,C i s)→∃ l:List α,l.length=n∧∀ i (h:i<l.length),C i l[i]
 | 0,_=>⟨[],rfl,fun _ hi=>absurd hi (Nat.not_lt_zero _)⟩
 | n+1,h=>by
  obtain⟨l,hl,hc⟩:=znL n (fun i hi=>h i (by omega))
  obtain⟨s,hs⟩:=h n (by omega)
  refine⟨l++[s],by simp[hl],fun i hi=>?_⟩
  by_cases e:i<l.length
  ·rw[List.getElem_append_left e];exact hc i e
  ·have e2:i=n:=by simp at hi;omega
   subst e2
   rw[List.getElem_append_right (by omega)]
   simpa using hs
theorem ztV{α:Type}{cs:List α}(h:cs.length=9):∃ c0 c1 c2 c3 c4 c5 c6 c7 c8,cs=[c0,c1,c2,c3,c4,c5,c6,c7,c8]:=by
 match cs,h with
 | [c0,c1,c2,c3,c4,c5,c6,c7,c8],_=>exact⟨c0,c1,c2,c3,c4,c5,c6,c7,c8,rfl⟩
structure Ln.fits (x:Ln):Prop where
 k:-9223372036854775808≤x.k∧x.k≤9223372036854775807
 fx:x.fx.length≤maxLen
 fy:x.fy.length≤maxLen
 fz:x.fz.length≤maxLen
 tx:x.tx.length≤maxLen
 ty:x.ty.length≤maxLen
 tz:x.tz.length≤maxLen
 l:-9223372036854775808≤x.l∧x.l≤9223372036854775807
 r:-9223372036854775808≤x.r∧x.r≤9223372036854775807
section
variable {H:Type} {enc:TypeId × Value→H} {W:World} {b0:Nat} {sp:Nat→Bool} {held:Bool}
theorem zpq{c0 c1 c2 c3 c4 c5 c6 c7 c8:Value}{fuel:Nat}{x:DataW H × List MemPlace}(h:DataW.trod enc Tryz.prog W 0 sp held fuel 34 [c0,c1,c2,c3,c4,c5,c6,c7,c8]=some x) :
  ∃ m:Ln,m.fits∧[c0,c1,c2,c3,c4,c5,c6,c7,c8]=lnC m:=by
 obtain⟨ys,n,-,-,-,hyl,hat⟩:=DataW.trod_struct zo2 h
 have hs:ys.length=5:=by
  have:=congrArg Array.size zg2
  simp only[Array.size_map]at this
  rw[hyl,this];rfl
 obtain⟨f0,g0,t0,o0⟩:=zcF zg2 0 3 0 rfl
 obtain⟨f1,g1,t1,o1⟩:=zcF zg2 1 32 1 rfl
 obtain⟨f2,g2,t2,o2⟩:=zcF zg2 2 32 4 rfl
 obtain⟨f3,g3,t3,o3⟩:=zcF zg2 3 3 7 rfl
 obtain⟨f4,g4,t4,o4⟩:=zcF zg2 4 3 8 rfl
 have h0:=hat 0 f0 g0
 have h1:=hat 1 f1 g1
 have h2:=hat 2 f2 g2
 have h3:=hat 3 f3 g3
 have h4:=hat 4 f4 g4
 rw[t0,o0,zs9]at h0
 rw[t1,o1,ztH]at h1
 rw[t2,o2,ztH]at h2
 rw[t3,o3,zs9]at h3
 rw[t4,o4,zs9]at h4
 obtain⟨y0,e0⟩:=zey hs (i:=0) (by decide)
 obtain⟨y1,e1⟩:=zey hs (i:=1) (by decide)
 obtain⟨y2,e2⟩:=zey hs (i:=2) (by decide)
 obtain⟨y3,e3⟩:=zey hs (i:=3) (by decide)
 obtain⟨y4,e4⟩:=zey hs (i:=4) (by decide)
 rw[e0]at h0
 rw[e1]at h1
 rw[e2]at h2
 rw[e3]at h3
 rw[e4]at h4
 obtain⟨k,rfl,rk⟩:=zgI (show DataW.trod enc Tryz.prog W 0 sp held n 3 [c0]=some y0 from h0)
 obtain⟨X,Y,Z,rfl,rfl,rfl,lX,lY,lZ⟩:=zld (show DataW.trod enc Tryz.prog W 0 sp held n 32 [c1,c2,c3]=some y1 from h1)
 obtain⟨X',Y',Z',rfl,rfl,rfl,lX',lY',lZ'⟩:=zld (show DataW.trod enc Tryz.prog W 0 sp held n 32 [c4,c5,c6]=some y2 from h2)
 obtain⟨l,rfl,rl⟩:=zgI (show DataW.trod enc Tryz.prog W 0 sp held n 3 [c7]=some y3 from h3)
 obtain⟨r,rfl,rr⟩:=zgI (show DataW.trod enc Tryz.prog W 0 sp held n 3 [c8]=some y4 from h4)
 exact⟨⟨k,X,Y,Z,X',Y',Z',l,r⟩,⟨rk,lX,lY,lZ,lX',lY',lZ',rl,rr⟩,rfl⟩
theorem zoS{v:Value}{d:DataW H}{p:List MemPlace}
  (hok:Value.okWide Tryz.prog W .any b0 22 v)(h:DataW.Trod enc Tryz.prog W 0 sp held 22 v d p)
  (hsz:∀ elems spare,d=.slice elems spare→(elems.length+spare.length)*Tryz.prog.bytesOf 34≤reachBytes):∃ l:List Ln,zba 9 lnC W v l∧(∀ s∈l,s.fits)∧l.length<2 ^ 58:=by
 obtain⟨a0,len0,cap0,rfl⟩:=okWide_slice Tryz.underlying22 hok
 obtain⟨fuel,hf⟩:=h
 rcases open_slice Tryz.underlying22 hf with⟨hcs,_⟩|⟨a,len,cap,m,n,D,Pl,hcs,_,hl,hm,hmm,hx,hi⟩
 ·simp[Value.cells]at hcs
  obtain⟨rfl,rfl,rfl⟩:=hcs
  exact⟨[],⟨none,0,rfl,fun _ hi=>absurd hi (Nat.not_lt_zero _)⟩,fun s hs=>by simp at hs,by simp⟩
 ·simp[Value.cells]at hcs
  obtain⟨rfl,rfl,rfl⟩:=hcs
  have hlm:len0≤m:=by rw[hmm];split <;> omega
  have key:∀ i,i<len0→∃ s:Ln,s.fits∧∀ j u,(lnC s)[j]? = some u→W.cell? ((a.add (i*9)).add j)=some u:=fun i hil=>by
   obtain⟨cs',hc,ht⟩:=hi i (by omega)
   rw[zt1]at hc
   obtain⟨_,hcl,hat⟩:=World.cells?_some hc
   obtain⟨c0,c1,c2,c3,c4,c5,c6,c7,c8,rfl⟩:=ztV hcl
   obtain⟨s,hs,he⟩:=zpq ht
   refine⟨s,hs,fun j u hu=>?_⟩
   rw[← he]at hu
   have hj:j<9:=(List.getElem?_eq_some_iff.1 hu).1
   rw[hat j hj];exact hu
  obtain⟨l,hll,hc⟩:=znL len0 key
  refine⟨l,⟨some a,cap0,by rw[hll],fun i hil=>?_⟩,fun s hs=>?_,by
   simp only[Prod.mk.injEq]at hx
   have h3:=hsz _ _ hx.1
   rw[zp7]at h3
   simp only[List.length_map,List.length_range,reachBytes]at h3
   omega⟩
  ·obtain⟨b,o,spot⟩:=a
   have z0:=(hc 0 (by omega)).2 0 _ rfl
   have hs:spot=none:=by simpa[Addr.add]using World.cell?_spot z0
   subst hs
   have hcc:∀ j u,(lnC l[i])[j]? = some u→W.cell? ⟨b,o+i*9+j,none⟩=some u:=fun j u hu=>by
    have h2:=(hc i hil).2 j u hu
    rwa[Addr.add_lit,Addr.add_lit]at h2
   have hb:b<W.heap.size:=World.block_lt_of_cell? W _ (hcc 0 _ rfl)
   exact⟨b,o,rfl,hb,hcc⟩
  ·obtain⟨i,hi,rfl⟩:=List.mem_iff_getElem.1 hs
   exact(hc i hi).1
end
def znA:DataW Unit:=match (Rows.laid_kingpost_ridgeline_sides:DataW Unit)with
 | .iface _ d=>d
 | d=>d
theorem ztE : Tryz.prog.globalNamed "kingpost/ridgeline.sides" = some 0 := by kernel_rfl
theorem ztn:(Tryz.prog.globals[0]?).map (·.type)=some 144:=by kernel_rfl
theorem zln{k:Int}(h1:1≤k)(h8:k≤8):znA.funcsOut.atKey (.int .i64 k) .nil=.held (if zlc k=true then [107,105,110,103,112,111,115,116,47,114,105,100,103,101,108,105,110,101,46,116,119,111]else [107,105,110,103,112,111,115,116,47,114,105,100,103,101,108,105,110,101,46,111,110,101]):=by
 rcases(show k=1∨k=2∨k=3∨k=4∨k=5∨k=6∨k=7∨k=8 by omega)with rfl | rfl | rfl | rfl | rfl | rfl | rfl | rfl <;> kernel_rfl
theorem zpF:znA.funcsOut≠.nil:=fun h=>by
 have h1:znA.funcsOut.atKey (.int .i64 1) .nil=.nil:=by rw[h];rfl
 rw[zln (by decide) (by decide)]at h1
 cases h1
theorem zro:((List.range Tryz.prog.funcs.size).filter fun f=>(Tryz.prog.funcs[f]?).any (·.name.toUTF8.data.toList == [107,105,110,103,112,111,115,116,47,114,105,100,103,101,108,105,110,101,46,116,119,111]))=[65]:=by kernel_rfl
theorem zrp:((List.range Tryz.prog.funcs.size).filter fun f=>(Tryz.prog.funcs[f]?).any (·.name.toUTF8.data.toList == [107,105,110,103,112,111,115,116,47,114,105,100,103,101,108,105,110,101,46,111,110,101]))=[368]:=by kernel_rfl
theorem zrK{W:World}{n:Nat}{v:Value}{y:DataW (List UInt8) × List MemPlace}(h:Go.WideElems.elemAt (funcToken Tryz.prog) Tryz.prog W 0 (fun _=>true) true n 118 v=some y)(hy:y.1=.held [107,105,110,103,112,111,115,116,47,114,105,100,103,101,108,105,110,101,46,116,119,111]):v=.func (.func 65) #[] #[]:=by
 have he:=Tryz.underlying118
 unfold Go.WideElems.elemAt at h
 split at h
 ·rename_i hf
  have hc:v.cells.toList=[v]:=by
   cases v <;> simp[Value.formed,he,Value.cells]at hf ⊢
  rw[hc]at h
  obtain⟨d,q⟩:=y
  simp only at hy
  subst hy
  exact Go.func_of_trod he zro h
 ·cases h
theorem zrL{W:World}{n:Nat}{v:Value}{y:DataW (List UInt8) × List MemPlace}(h:Go.WideElems.elemAt (funcToken Tryz.prog) Tryz.prog W 0 (fun _=>true) true n 118 v=some y)(hy:y.1=.held [107,105,110,103,112,111,115,116,47,114,105,100,103,101,108,105,110,101,46,111,110,101]):v=.func (.func 368) #[] #[]:=by
 have he:=Tryz.underlying118
 unfold Go.WideElems.elemAt at h
 split at h
 ·rename_i hf
  have hc:v.cells.toList=[v]:=by
   cases v <;> simp[Value.formed,he,Value.cells]at hf ⊢
  rw[hc]at h
  obtain⟨d,q⟩:=y
  simp only at hy
  subst hy
  exact Go.func_of_trod he zrp h
 ·cases h
theorem zrf {W : World} {L : List (String × DataW Unit)} (hl : laidMetH Tryz.prog L W) (hm : ("kingpost/ridgeline.sides", Rows.laid_kingpost_ridgeline_sides) ∈ L) : za9 W := by
 obtain ⟨g, t, cs, fuel, p, hg, ht, hv, hd⟩ := hl.funcs (n := "kingpost/ridgeline.sides") (d := znA) hm
 obtain rfl:=Option.some.inj (ztE.symm.trans hg)
 obtain rfl:=Option.some.inj (ztn.symm.trans ht)
 rcases Go.WideElems.open_map Tryz.underlying144 hd with⟨_,hx⟩|⟨b,es,clock,n,rfl,hcs,hb,_,F,hx⟩
 ·exact absurd (congrArg Prod.fst hx) zpF
 ·have hcell:W.cell? ⟨0,0,none⟩=some (.map (some b)):=by
   have:=World.var?_cell hg hv 0
   rw[Array.eq_one_of_toList hcs]at this
   simpa using this
  have hglt:0<W.heap.size:=by
   by_cases h:0<W.heap.size
   ·exact h
   ·unfold World.cell? at hcell
    rw[Array.getElem?_eq_none (by omega)]at hcell
    cases hcell
  refine⟨hglt,b,(Array.getElem?_eq_some_iff.1 hb).1,hcell,_,hb,fun W' hb' k h1 h8=>?_⟩
  have hx1:=congrArg Prod.fst hx
  try simp only at hx1
  have hsk:=zln h1 h8
  have hwf:(Lit.int .i64 k).wf=true:=by
   have h2:(decide (IntKind.min .i64≤k) && decide (k≤IntKind.max .i64))=true:=by
    rw[show IntKind.min .i64 = -9223372036854775808 from rfl,show IntKind.max .i64=9223372036854775807 from rfl]
    simp
    omega
   exact h2
  rcases Go.Maps.fit_look false (Go.Maps.int_keyed Tryz.underlying3) Tryz.underlying144 (z:=.nilFunc) (by kernel_rfl) hb' F (Go.Maps.keyOf_int_mk (a:=k) Tryz.underlying3 hwf)with⟨_,_,hat⟩|⟨e0,y,_,_,hrun,hRv,hat,_⟩
  ·have h3:=hat .nil
   rw[← hx1,hsk]at h3
   cases h3
  ·have h3:=hat .nil
   rw[← hx1,hsk]at h3
   cases hk:zlc k
   ·rw[hk]at h3
    rw[zrL hRv h3.symm]at hrun
    exact hrun
   ·rw[hk]at h3
    rw[zrK hRv h3.symm]at hrun
    exact hrun
end
end Go.Proofs.YtapnkgdnflofbaaGreatDoor
