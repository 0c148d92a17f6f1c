/-
  Walks of the chapter's bounds of a roof, and of the side of a member.
-/
import Derived.Test.YtbpghkdadajomaaGreatDoorG16
import Derived.Test.YtbpghkdadajomaaGreatDoorG18
import Derived.Laws.CopyRow
import Derived.Laws.CopyOwn
set_option maxRecDepth 100000
set_option maxHeartbeats 8000000
namespace Go.Proofs.YtbpghkdadajomaaGreatDoor
open Go.RowKit Go.Shelf Kp
attribute [local go_sem] Oper.semAt_some
theorem zpB(ro:Ro)(R:List (List Sd))(hn:R.length≤8796093022208)(hln:∀ r∈R,r.length≤8796093022208)(m:Mb)(b c:Nat)(t:TypeId)(w:World)(hv:zfk w ro.p.v R)(hb:Blk w b (mbC m) t) :
  Calls Tryz.prog 23 #[.agg (roC ro).toArray,.slice (some ⟨b,0,none⟩) 1 c] w fun e w'=>e=.returned (.bool (grP R || grM m))∧Q w w':=by
 have H1:=LH (fun W hq=>zmM R hn hln ro.p.v W (hv.keep (w':=W) hq))
 have H2:=LH (fun W (hq:Q w W)=>zmL m b c t W (hb.keep hq hb.lt))
 clear hn hln hv hb
 obtain⟨⟨a0,n0,c0⟩,⟨a1,n1,c1⟩,⟨a2,n2,c2⟩,⟨a3,n3,c3⟩⟩:=ro
 unfold roC Sl3.v at *
 simp only at H1 ⊢
 generalize grP R=g1 at *
 generalize grM m=g2 at *
 have BR:=Blk.new w [.slice a0 n0 c0,.slice a1 n1 c1,.slice a2 n2 c2,.slice a3 n3 c3] 29
 have hq0:Q w (w.alloc (.cells [Value.slice a0 n0 c0,.slice a1 n1 c1,.slice a2 n2 c2,.slice a3 n3 c3].toArray 29)):=(Below.refl _ w).alloc (Nat.le_refl _) _
 have r0:=BR.cell 0
 simp only[List.getElem?_cons_zero]at r0
 go_enter Tryz.func23,Tryz.ntmps23
 go_wp2_with fail
 refine(H1.out _ hq0).mono ?_
 rintro e w1⟨rfl,hq1⟩
 have hQ1:=Q.trans hq0 hq1
 clear H1 r0 BR hq0
 cases g1
 ·go_wp2_with fail
  refine(H2.out _ hQ1).mono ?_
  rintro e w2⟨rfl,hq2⟩
  have hQ2:=Q.trans hQ1 hq2
  cases g2
  all_goals
   go_wp2
   go_ret
   exact⟨rfl,hQ2⟩
 ·go_wp2
  go_ret
  exact⟨rfl,hQ1⟩
structure SideOk (R:List (List Sd)) (m:Mb) (n:Nat) (s:Sd) (X Y:Str):Prop where
 short:m.short
 few:R.length≤1000
 plan:zcp R=0
 pre:RafPre R m n
 side:s=zbX R.flatten n
 low:X=ze (zmx R m)
 high:Y=ze (zdW R m)
theorem zaF{P:Program}{ops:Array Oper}{rest:List Oper}{op:Oper}{a:Act}{w:World}{R:Exit→Act→World→Prop}(hgd:op.guard=none)(ty:TypeId)(x y:Operand)(ho:op.op=.store ty x y)(b:Nat){t:TypeId}{cs:List Value}(hb:Blk w b cs t)
  (cs':List Value)(hx:a.eval x=.pointer (some ⟨b,0,none⟩))(hy:a.eval y=.agg cs'.toArray)(hl:cs'.length=cs.length)(hi:(P.info? ty).map (·.size)=some cs'.length)(h1:∀ v∈cs',v.oneCell'=true)
  (h:wpList P ops R rest (a.put op.dst undef) (w.setRow b cs'.toArray)):wpList P ops R (op::rest) a w:=by
 have hs:(storeVar ty ⟨b,0,none⟩ (.agg cs'.toArray)).run P w=.ok () (w.setRow b cs'.toArray):=by
  have h2:=run_storeCells_at (P:=P) b 0 t cs' 0 cs.toArray w hb (by simp[hl]) h1
  rw[show (cs.toArray.toList.take (0+0)++cs'++cs.toArray.toList.drop (0+0+cs'.length))=cs' by simp[hl]]at h2
  cases hq:P.info? ty with
  | none=>simp[hq]at hi
  | some i =>
   have hz:cs'.length=i.size:=by simp[hq]at hi;omega
   simp[storeVar,sizeOf,typeInfo,hq,Value.cells,hz,h2]
 refine wpList_plain hgd fun K hK=>?_
 unfold Oper.wp execOp
 simp only[ho,hx,hy,Instr.storeAt,Instr.sureAddr,Sem.run_bind,Sem.run_pure,Result.andThen_ok,hs]
 exact hK _ _ h
theorem zce{W:World}{b:Nat}{c0 c1 c2 c3 c4 c5 c6 x y z:Value}(h:Blk W b [c0,c1,c2,c3,c4,c5,c6] 36)(fn:Func)(hf:fn.results=#[.cell 4 36,.tmp 5,.tmp 6,.tmp 7])(tmps:Array Value)
  (hp:tmps.getD 4 undef=.pointer (some ⟨b,0,none⟩))(hx:tmps.getD 5 undef=x)(hy:tmps.getD 6 undef=y)(hz:tmps.getD 7 undef=z) :
  (results fn tmps).run Tryz.prog W=.ok (.tuple #[.agg #[c0,c1,c2,c3,c4,c5,c6],x,y,z]) W:=by
 have d0:=h.cell 0
 have d1:=h.cell 1
 have d2:=h.cell 2
 have d3:=h.cell 3
 have d4:=h.cell 4
 have d5:=h.cell 5
 have d6:=h.cell 6
 simp only[zs4,zs5]at d0 d1 d2 d3 d4 d5 d6
 simp only[Array.getD_eq_getD_getElem?]at hp hx hy hz
 simp[results,hf,hp,hx,hy,hz,go_sem,d0,d1,d2,d3,d4,d5,d6]
theorem zqD(ro:Ro)(R:List (List Sd))(hn:R.length≤8796093022208)(hln:∀ r∈R,r.length≤8796093022208)(m:Mb)(w:World)(hE:Env w)(hv:zfk w ro.p.v R) :
  Calls Tryz.prog 5 #[.agg (roC ro).toArray,.agg (mbC m).toArray] w fun e w'=>∃ (s:Sd) (X Y:Str) (ok:Bool),e=.returned (.tuple #[.agg (sdC s).toArray,.string ⟨X.toArray⟩,.string ⟨Y.toArray⟩,.bool ok])∧Q w w'∧(ok=true→∃ n,SideOk R m n s X Y):=by
 have HG:=LH (fun b c t W hq hb=>zpB ro R hn hln m b c t W (hv.keep (w':=W) hq) hb)
 have HV:=LH hv
 have HGP:Hid ((grP R || grM m)=false→R.length≤40∧zX R≤40∧m.short):=LH (fun h=>by
  rw[Bool.or_eq_false_iff]at h
  exact⟨(zrc h.1).1,(zrc h.1).2,zpL h.2⟩)
 clear hn hln
 obtain⟨⟨a0,n0,c0⟩,⟨a1,n1,c1⟩,⟨a2,n2,c2⟩,⟨a3,n3,c3⟩⟩:=ro
 have e:mbC m=[.int .i64 m.kind,.int .i64 m.face,.int .i64 m.other,.string ⟨m.fx.toArray⟩,.string ⟨m.fy.toArray⟩,.string ⟨m.fz.toArray⟩,.string ⟨m.tx.toArray⟩,.string ⟨m.ty.toArray⟩,.string ⟨m.tz.toArray⟩,.int .i64 m.wid,.int .i64 m.dep]:=rfl
 obtain⟨ki,hki⟩:∃ x,x=m.kind:=⟨_,rfl⟩
 obtain⟨fa,hfa⟩:∃ x,x=m.face:=⟨_,rfl⟩
 obtain⟨ot,hot⟩:∃ x,x=m.other:=⟨_,rfl⟩
 obtain⟨fx,hfx⟩:∃ x,x=m.fx:=⟨_,rfl⟩
 obtain⟨fy,hfy⟩:∃ x,x=m.fy:=⟨_,rfl⟩
 obtain⟨fz,hfz⟩:∃ x,x=m.fz:=⟨_,rfl⟩
 obtain⟨tx,htx⟩:∃ x,x=m.tx:=⟨_,rfl⟩
 obtain⟨ty,hty⟩:∃ x,x=m.ty:=⟨_,rfl⟩
 obtain⟨tz,htz⟩:∃ x,x=m.tz:=⟨_,rfl⟩
 obtain⟨wi,hwi⟩:∃ x,x=m.wid:=⟨_,rfl⟩
 obtain⟨de,hde⟩:∃ x,x=m.dep:=⟨_,rfl⟩
 rw[← hki,← hfa,← hot,← hfx,← hfy,← hfz,← htx,← hty,← htz,← hwi,← hde]at e
 rw[e]at HG ⊢
 unfold roC Sl3.v at *
 simp only at HV HG hv ⊢
 have HH:Hid (m.short→∀ W,Env W→Calls Tryz.prog 24 #[.agg [.int .i64 ki,.int .i64 fa,.int .i64 ot,.string ⟨fx.toArray⟩,.string ⟨fy.toArray⟩,.string ⟨fz.toArray⟩,.string ⟨tx.toArray⟩,.string ⟨ty.toArray⟩,.string ⟨tz.toArray⟩,.int .i64 wi,.int .i64 de].toArray] W fun e w'=>e=.returned (.int .i64 (zoN m))∧Q W w'):=LH (fun hs W hW=>by
  have:=zeu m hs W hW
  rw[e]at this
  exact this)
 have HM:Hid (fa=m.face∧m.fx=fx∧m.fy=fy∧m.tx=tx∧m.ty=ty):=LH ⟨hfa,hfx.symm,hfy.symm,htx.symm,hty.symm⟩
 clear e hv hki hfa hot hfx hfy hfz htx hty htz hwi hde
 have BR:=((Blk.new w [.slice a0 n0 c0,.slice a1 n1 c1,.slice a2 n2 c2,.slice a3 n3 c3] 29).alloc (.cells #[.int .i64 ki,.int .i64 fa,.int .i64 ot,.string ⟨fx.toArray⟩,.string ⟨fy.toArray⟩,.string ⟨fz.toArray⟩,.string ⟨tx.toArray⟩,.string ⟨ty.toArray⟩,.string ⟨tz.toArray⟩,.int .i64 wi,.int .i64 de] 34)).alloc (.cells #[.int .i64 0,.int .i64 0,.int .i64 0,.int .i64 0,.bool false,.int .i64 0,.int .i64 0] 36)
 have BM:=(Blk.new1 w (.cells #[.slice a0 n0 c0,.slice a1 n1 c1,.slice a2 n2 c2,.slice a3 n3 c3] 29) [.int .i64 ki,.int .i64 fa,.int .i64 ot,.string ⟨fx.toArray⟩,.string ⟨fy.toArray⟩,.string ⟨fz.toArray⟩,.string ⟨tx.toArray⟩,.string ⟨ty.toArray⟩,.string ⟨tz.toArray⟩,.int .i64 wi,.int .i64 de] 34).alloc (.cells #[.int .i64 0,.int .i64 0,.int .i64 0,.int .i64 0,.bool false,.int .i64 0,.int .i64 0] 36)
 have BZ0:=Blk.new2 w (.cells #[.slice a0 n0 c0,.slice a1 n1 c1,.slice a2 n2 c2,.slice a3 n3 c3] 29) (.cells #[.int .i64 ki,.int .i64 fa,.int .i64 ot,.string ⟨fx.toArray⟩,.string ⟨fy.toArray⟩,.string ⟨fz.toArray⟩,.string ⟨tx.toArray⟩,.string ⟨ty.toArray⟩,.string ⟨tz.toArray⟩,.int .i64 wi,.int .i64 de] 34) [.int .i64 0,.int .i64 0,.int .i64 0,.int .i64 0,.bool false,.int .i64 0,.int .i64 0] 36
 obtain⟨W0,hW0⟩:∃ W0,((w.alloc (.cells #[.slice a0 n0 c0,.slice a1 n1 c1,.slice a2 n2 c2,.slice a3 n3 c3] 29)).alloc (.cells #[.int .i64 ki,.int .i64 fa,.int .i64 ot,.string ⟨fx.toArray⟩,.string ⟨fy.toArray⟩,.string ⟨fz.toArray⟩,.string ⟨tx.toArray⟩,.string ⟨ty.toArray⟩,.string ⟨tz.toArray⟩,.int .i64 wi,.int .i64 de] 34)).alloc (.cells #[.int .i64 0,.int .i64 0,.int .i64 0,.int .i64 0,.bool false,.int .i64 0,.int .i64 0] 36)=W0:=⟨_,rfl⟩
 have hq0:Q w W0:=by rw[← hW0];exact bt
 have hs0:W0.heap.size=w.heap.size+3:=by rw[← hW0];simp
 have hEw:=hE.ofQ hq0
 rw[hW0]at BR BM
 have BZ:Blk W0 (w.heap.size+2) [.int .i64 0,.int .i64 0,.int .i64 0,.int .i64 0,.bool false,.int .i64 0,.int .i64 0] 36:=by rw[← hW0];exact BZ0
 clear BZ0
 clear hE
 have hE:=hEw
 clear hEw
 have hQ0:=Q.refl W0
 replace r0:=BR.cell 0
 replace r1:=BR.cell 1
 replace r2:=BR.cell 2
 replace r3:=BR.cell 3
 simp only[zs4,zs5]at r0 r1 r2 r3
 replace lBR:=BR.lt
 replace m0:=BM.cell 0
 replace m1:=BM.cell 1
 replace m2:=BM.cell 2
 replace m3:=BM.cell 3
 replace m4:=BM.cell 4
 replace m5:=BM.cell 5
 replace m6:=BM.cell 6
 replace m7:=BM.cell 7
 replace m8:=BM.cell 8
 replace m9:=BM.cell 9
 replace m10:=BM.cell 10
 simp only[zs4,zs5]at m0 m1 m2 m3 m4 m5 m6 m7 m8 m9 m10
 replace lBM:=BM.lt
 go_enter Tryz.func5,Tryz.ntmps5
 go_wp2_with fail
 clear hW0
 have BL:=Blk.new W0 [.int .i64 ki,.int .i64 fa,.int .i64 ot,.string ⟨fx.toArray⟩,.string ⟨fy.toArray⟩,.string ⟨fz.toArray⟩,.string ⟨tx.toArray⟩,.string ⟨ty.toArray⟩,.string ⟨tz.toArray⟩,.int .i64 wi,.int .i64 de] 34
 rw[hs0]at BL
 go_wp2_with fail
 refine(HG.out (w.heap.size+3) 1 34 _ (Q.trans hq0 ((Below.refl _ W0).alloc (Nat.le_refl _) _)) BL).mono ?_
 rintro e Y1⟨rfl,hq1⟩
 have hs1:Q W0 Y1:=Q.trans bt hq1
 have hQ1:Q W0 Y1:=Q.trans hQ0 hs1
 replace BZ:=zfx BZ hs1
 replace BR:=BR.keep hs1 BR.lt
 replace r0:=BR.cell 0
 replace r1:=BR.cell 1
 replace r2:=BR.cell 2
 replace r3:=BR.cell 3
 simp only[zs4,zs5]at r0 r1 r2 r3
 replace lBR:=BR.lt
 replace BM:=BM.keep hs1 BM.lt
 replace m0:=BM.cell 0
 replace m1:=BM.cell 1
 replace m2:=BM.cell 2
 replace m3:=BM.cell 3
 replace m4:=BM.cell 4
 replace m5:=BM.cell 5
 replace m6:=BM.cell 6
 replace m7:=BM.cell 7
 replace m8:=BM.cell 8
 replace m9:=BM.cell 9
 replace m10:=BM.cell 10
 simp only[zs4,zs5]at m0 m1 m2 m3 m4 m5 m6 m7 m8 m9 m10
 replace lBM:=BM.lt
 clear BL
 clear HG
 obtain⟨g,hg⟩:∃ g,(grP R || grM m)=g:=⟨_,rfl⟩
 rw[hg]at HGP
 rw[hg]
 clear hg
 cases g
 case true =>
  clear HGP HH HV HM
  have Zf:Blk (Y1.setRow (w.heap.size+2) ([.int .i64 0,.int .i64 0,.int .i64 0,.int .i64 0,.bool false,.int .i64 0,.int .i64 0]:List Value).toArray) (w.heap.size+2) [.int .i64 0,.int .i64 0,.int .i64 0,.int .i64 0,.bool false,.int .i64 0,.int .i64 0] 36:=setRow_heap _ _ _ _ _ _ BZ
  have hQe:Q w (Y1.setRow (w.heap.size+2) ([.int .i64 0,.int .i64 0,.int .i64 0,.int .i64 0,.bool false,.int .i64 0,.int .i64 0]:List Value).toArray):=below_setRow (Q.trans hq0 hQ1) (by omega) _
  go_wp2_with (first | refine zaF rfl 36 _ _ rfl (w.heap.size+2) BZ [.int .i64 0,.int .i64 0,.int .i64 0,.int .i64 0,.bool false,.int .i64 0,.int .i64 0] rfl rfl rfl (by kernel_rfl) (by simp[Value.oneCell']) ?_ | exact bodyPost_ret (zce Zf Tryz.f5 rfl _ rfl rfl rfl rfl) rfl ⟨sd0,[],[],false,rfl,hQe,fun h=>by cases h⟩)
 have hgp:=HGP.out rfl
 have HHs:=LH (HH.out hgp.2.2)
 clear HGP HH
 go_wp2_with fail
 refine(HHs.out _ (hE.ofQ bt)).mono ?_
 rintro e Y2⟨rfl,hq2⟩
 have hs2:Q Y1 Y2:=Q.trans bt hq2
 have hQ2:Q W0 Y2:=Q.trans hQ1 hs2
 replace BZ:=zfx BZ hs2
 replace BR:=BR.keep hs2 BR.lt
 replace r0:=BR.cell 0
 replace r1:=BR.cell 1
 replace r2:=BR.cell 2
 replace r3:=BR.cell 3
 simp only[zs4,zs5]at r0 r1 r2 r3
 replace lBR:=BR.lt
 replace BM:=BM.keep hs2 BM.lt
 replace m0:=BM.cell 0
 replace m1:=BM.cell 1
 replace m2:=BM.cell 2
 replace m3:=BM.cell 3
 replace m4:=BM.cell 4
 replace m5:=BM.cell 5
 replace m6:=BM.cell 6
 replace m7:=BM.cell 7
 replace m8:=BM.cell 8
 replace m9:=BM.cell 9
 replace m10:=BM.cell 10
 simp only[zs4,zs5]at m0 m1 m2 m3 m4 m5 m6 m7 m8 m9 m10
 replace lBM:=BM.lt
 clear HHs
 by_cases hk:zoN m=0
 case neg =>
  have hkb:(zoN m == 0)=false:=by rw[beq_eq_false_iff_ne];exact hk
  clear HV HM hgp
  generalize zoN m=E at *
  have Zf:Blk (Y2.setRow (w.heap.size+2) ([.int .i64 0,.int .i64 0,.int .i64 0,.int .i64 0,.bool false,.int .i64 0,.int .i64 0]:List Value).toArray) (w.heap.size+2) [.int .i64 0,.int .i64 0,.int .i64 0,.int .i64 0,.bool false,.int .i64 0,.int .i64 0] 36:=setRow_heap _ _ _ _ _ _ BZ
  have hQe:Q w (Y2.setRow (w.heap.size+2) ([.int .i64 0,.int .i64 0,.int .i64 0,.int .i64 0,.bool false,.int .i64 0,.int .i64 0]:List Value).toArray):=below_setRow (Q.trans hq0 hQ2) (by omega) _
  go_wp2_with (first | refine zaF rfl 36 _ _ rfl (w.heap.size+2) BZ [.int .i64 0,.int .i64 0,.int .i64 0,.int .i64 0,.bool false,.int .i64 0,.int .i64 0] rfl rfl rfl (by kernel_rfl) (by simp[Value.oneCell']) ?_ | exact bodyPost_ret (zce Zf Tryz.f5 rfl _ rfl rfl rfl rfl) rfl ⟨sd0,[],[],false,rfl,hQe,fun h=>by cases h⟩)
 have hEk:=hk
 rw[hk]
 have hwY:Q w Y2:=Q.trans hq0 hQ2
 have hE2:=hE.ofQ hQ2
 clear hE
 have hE:=hE2
 clear hE2 hs1 hQ1 hq2 hs2 hQ2 hQ0
 have hlen:R.length≤1000:=by omega
 have hcn:zX R≤1000:=by omega
 by_cases hp:zcp R=0
 case neg =>
  have HS1:Hid (∀ W,Q w W→Calls Tryz.prog 25 #[.agg #[.slice a0 n0 c0]] W fun e w'=>e=.returned (.tuple #[.slice none 0 0,.int .i64 1])∧Q W w'):=LH (fun W hq=>zkS R hp hlen hcn _ W (HV.out.keep hq))
  have HA1:Hid (∀ W,Q w W→Calls Tryz.prog 26 #[.agg #[.slice a0 n0 c0]] W fun e w'=>e=.returned (.tuple #[.slice none 0 0,.int .i64 1])∧Q W w'):=LH (fun W hq=>zmn R hp hlen hcn _ W (HV.out.keep hq))
  clear HV HM hgp hk hEk hlen hcn hp
  have hQ0:=Q.refl Y2
  replace r0:=BR.cell 0
  replace r1:=BR.cell 1
  replace r2:=BR.cell 2
  replace r3:=BR.cell 3
  simp only[zs4,zs5]at r0 r1 r2 r3
  replace lBR:=BR.lt
  replace m0:=BM.cell 0
  replace m1:=BM.cell 1
  replace m2:=BM.cell 2
  replace m3:=BM.cell 3
  replace m4:=BM.cell 4
  replace m5:=BM.cell 5
  replace m6:=BM.cell 6
  replace m7:=BM.cell 7
  replace m8:=BM.cell 8
  replace m9:=BM.cell 9
  replace m10:=BM.cell 10
  simp only[zs4,zs5]at m0 m1 m2 m3 m4 m5 m6 m7 m8 m9 m10
  replace lBM:=BM.lt
  go_wp2_with fail
  refine(HS1.out _ hwY).mono ?_
  rintro e V1⟨rfl,hq1⟩
  have hs1:Q Y2 V1:=Q.trans bt hq1
  have hQ1:Q Y2 V1:=Q.trans hQ0 hs1
  replace BZ:=zfx BZ hs1
  replace BR:=BR.keep hs1 BR.lt
  replace r0:=BR.cell 0
  replace r1:=BR.cell 1
  replace r2:=BR.cell 2
  replace r3:=BR.cell 3
  simp only[zs4,zs5]at r0 r1 r2 r3
  replace lBR:=BR.lt
  replace BM:=BM.keep hs1 BM.lt
  replace m0:=BM.cell 0
  replace m1:=BM.cell 1
  replace m2:=BM.cell 2
  replace m3:=BM.cell 3
  replace m4:=BM.cell 4
  replace m5:=BM.cell 5
  replace m6:=BM.cell 6
  replace m7:=BM.cell 7
  replace m8:=BM.cell 8
  replace m9:=BM.cell 9
  replace m10:=BM.cell 10
  simp only[zs4,zs5]at m0 m1 m2 m3 m4 m5 m6 m7 m8 m9 m10
  replace lBM:=BM.lt
  go_wp2_with fail
  refine(HA1.out _ (Q.trans hwY hQ1)).mono ?_
  rintro e V2⟨rfl,hq2⟩
  have hs2:Q V1 V2:=Q.trans bt hq2
  have hQ2:Q Y2 V2:=Q.trans hQ1 hs2
  replace BZ:=zfx BZ hs2
  replace BR:=BR.keep hs2 BR.lt
  replace r0:=BR.cell 0
  replace r1:=BR.cell 1
  replace r2:=BR.cell 2
  replace r3:=BR.cell 3
  simp only[zs4,zs5]at r0 r1 r2 r3
  replace lBR:=BR.lt
  replace BM:=BM.keep hs2 BM.lt
  replace m0:=BM.cell 0
  replace m1:=BM.cell 1
  replace m2:=BM.cell 2
  replace m3:=BM.cell 3
  replace m4:=BM.cell 4
  replace m5:=BM.cell 5
  replace m6:=BM.cell 6
  replace m7:=BM.cell 7
  replace m8:=BM.cell 8
  replace m9:=BM.cell 9
  replace m10:=BM.cell 10
  simp only[zs4,zs5]at m0 m1 m2 m3 m4 m5 m6 m7 m8 m9 m10
  replace lBM:=BM.lt
  clear HS1 HA1
  have Zf:Blk (V2.setRow (w.heap.size+2) ([.int .i64 0,.int .i64 0,.int .i64 0,.int .i64 0,.bool false,.int .i64 0,.int .i64 0]:List Value).toArray) (w.heap.size+2) [.int .i64 0,.int .i64 0,.int .i64 0,.int .i64 0,.bool false,.int .i64 0,.int .i64 0] 36:=setRow_heap _ _ _ _ _ _ BZ
  have hQe:Q w (V2.setRow (w.heap.size+2) ([.int .i64 0,.int .i64 0,.int .i64 0,.int .i64 0,.bool false,.int .i64 0,.int .i64 0]:List Value).toArray):=below_setRow (Q.trans hwY hQ2) (by omega) _
  go_wp2_with (first | refine zaF rfl 36 _ _ rfl (w.heap.size+2) BZ [.int .i64 0,.int .i64 0,.int .i64 0,.int .i64 0,.bool false,.int .i64 0,.int .i64 0] rfl rfl rfl (by kernel_rfl) (by simp[Value.oneCell']) ?_ | exact bodyPost_ret (zce Zf Tryz.f5 rfl _ rfl rfl rfl rfl) rfl ⟨sd0,[],[],false,rfl,hQe,fun h=>by cases h⟩)
 have ok:=zfo hp
 have okm:=zlm hk
 have HS1:Hid (∀ W,Q w W→Calls Tryz.prog 25 #[.agg #[.slice a0 n0 c0]] W fun e w'=>∃ v',e=.returned (.tuple #[v',.int .i64 0])∧Q W w'∧zbZ 7 sdC w' v' R.flatten):=LH (fun W hq=>zhr R hp hlen _ W (HV.out.keep hq))
 have HA:Hid (∀ W,Env W→Q w W→Calls Tryz.prog 26 #[.agg #[.slice a0 n0 c0]] W fun e w'=>∃ v',e=.returned (.tuple #[v',.int .i64 0])∧w'.ownsRow W.heap.size 76 5 v' R.flatten.length (rowOf frC (zaS R))∧Q W w'):=LH (fun W hW hq=>zmo R hp hlen _ W hW (HV.out.keep hq))
 have hrl:0<R.flatten.length:=by rw[count_flatten];exact ok.pos
 have h24:R.flatten.length≤24:=by rw[count_flatten];exact ok.le
 have HFL:=LH (zew R)
 have HOKF:Hid (∀ f∈zaS R,FrOk f):=LH (zhJ ok.rg)
 obtain⟨n,hn⟩:=Int.eq_ofNat_of_zero_le okm.f0
 obtain⟨hfa,hM⟩:=HM.out
 rw[hn]at hfa
 subst hfa
 have kf:=okm.bf hgp.2.2
 have kt:=okm.bt hgp.2.2
 have HEND:Hid (n<R.flatten.length→(zbX R.flatten n).gable=false→∃ k,SideOk R m k (zbX R.flatten n) (ze (zmx R m)) (ze (zdW R m))):=LH (fun h1 h2=>⟨n,⟨hgp.2.2,hlen,hp,⟨hk,hn,h1,h2⟩,rfl,rfl,rfl⟩⟩)
 have HDF:Hid (∀ h:n<(zaS R).length,zmx R m=zjO (zaS R)[n] m.pf.x m.pf.y∧zdW R m=zjO (zaS R)[n] m.pt.x m.pt.y):=LH (fun h=>by
  unfold zmx zdW znd
  rw[hn,List.getD_eq_getElem?_getD]
  simp[h])
 obtain⟨hM1,hM2,hM3,hM4⟩:=hM
 have hsf:=okm.strf
 have hst:=okm.strt
 rw[hM1,hM2]at hsf
 rw[hM3,hM4]at hst
 have HSF:=LH hsf
 have HST:=LH hst
 clear hsf hst hM1 hM2 hM3 hM4 HM HV hgp hcn hk hEk hn okm ok hp hlen
 generalize R.flatten=S at *
 have hQ0:=Q.refl Y2
 replace r0:=BR.cell 0
 replace r1:=BR.cell 1
 replace r2:=BR.cell 2
 replace r3:=BR.cell 3
 simp only[zs4,zs5]at r0 r1 r2 r3
 replace lBR:=BR.lt
 replace m0:=BM.cell 0
 replace m1:=BM.cell 1
 replace m2:=BM.cell 2
 replace m3:=BM.cell 3
 replace m4:=BM.cell 4
 replace m5:=BM.cell 5
 replace m6:=BM.cell 6
 replace m7:=BM.cell 7
 replace m8:=BM.cell 8
 replace m9:=BM.cell 9
 replace m10:=BM.cell 10
 simp only[zs4,zs5]at m0 m1 m2 m3 m4 m5 m6 m7 m8 m9 m10
 replace lBM:=BM.lt
 go_wp2_with fail
 refine(HS1.out _ hwY).mono ?_
 rintro e U1⟨vs,rfl,hq1,hrow⟩
 have hs1:Q Y2 U1:=Q.trans bt hq1
 have hQ1:Q Y2 U1:=Q.trans hQ0 hs1
 replace BZ:=zfx BZ hs1
 replace BR:=BR.keep hs1 BR.lt
 replace r0:=BR.cell 0
 replace r1:=BR.cell 1
 replace r2:=BR.cell 2
 replace r3:=BR.cell 3
 simp only[zs4,zs5]at r0 r1 r2 r3
 replace lBR:=BR.lt
 replace BM:=BM.keep hs1 BM.lt
 replace m0:=BM.cell 0
 replace m1:=BM.cell 1
 replace m2:=BM.cell 2
 replace m3:=BM.cell 3
 replace m4:=BM.cell 4
 replace m5:=BM.cell 5
 replace m6:=BM.cell 6
 replace m7:=BM.cell 7
 replace m8:=BM.cell 8
 replace m9:=BM.cell 9
 replace m10:=BM.cell 10
 simp only[zs4,zs5]at m0 m1 m2 m3 m4 m5 m6 m7 m8 m9 m10
 replace lBM:=BM.lt
 obtain⟨ra,rcap,rfl,-⟩:=id hrow
 clear HS1
 go_wp2_with fail
 refine(HA.out _ (hE.ofQ bt) (Q.trans hwY hQ1)).mono ?_
 rintro e U2⟨vf,rfl,hown,hq2⟩
 have hs2:Q U1 U2:=Q.trans bt hq2
 have hQ2:Q Y2 U2:=Q.trans hQ1 hs2
 replace BZ:=zfx BZ hs2
 replace hrow:=zbZ.keep hrow hs2
 replace BR:=BR.keep hs2 BR.lt
 replace r0:=BR.cell 0
 replace r1:=BR.cell 1
 replace r2:=BR.cell 2
 replace r3:=BR.cell 3
 simp only[zs4,zs5]at r0 r1 r2 r3
 replace lBR:=BR.lt
 replace BM:=BM.keep hs2 BM.lt
 replace m0:=BM.cell 0
 replace m1:=BM.cell 1
 replace m2:=BM.cell 2
 replace m3:=BM.cell 3
 replace m4:=BM.cell 4
 replace m5:=BM.cell 5
 replace m6:=BM.cell 6
 replace m7:=BM.cell 7
 replace m8:=BM.cell 8
 replace m9:=BM.cell 9
 replace m10:=BM.cell 10
 simp only[zs4,zs5]at m0 m1 m2 m3 m4 m5 m6 m7 m8 m9 m10
 replace lBM:=BM.lt
 clear HA
 obtain⟨fg,fcap,rfl⟩:=zhi hown hrl
 have hown:U2.ownsRow U1.heap.size 76 5 (.slice (some ⟨fg,0,none⟩) S.length fcap) S.length (rowOf frC (zaS R)):=hown
 by_cases hlt:n<S.length
 case neg =>
  have hnz:decide ((S.length:Int)≤(n:Int))=true:=by rw[decide_eq_true_eq];omega
  clear HEND HDF HOKF HFL HSF HST hown hrow kf kt
  generalize S.length=rl at *
  have Zf:Blk (U2.setRow (w.heap.size+2) ([.int .i64 0,.int .i64 0,.int .i64 0,.int .i64 0,.bool false,.int .i64 0,.int .i64 0]:List Value).toArray) (w.heap.size+2) [.int .i64 0,.int .i64 0,.int .i64 0,.int .i64 0,.bool false,.int .i64 0,.int .i64 0] 36:=setRow_heap _ _ _ _ _ _ BZ
  have hQe:Q w (U2.setRow (w.heap.size+2) ([.int .i64 0,.int .i64 0,.int .i64 0,.int .i64 0,.bool false,.int .i64 0,.int .i64 0]:List Value).toArray):=below_setRow (Q.trans hwY hQ2) (by omega) _
  go_wp2_with (first | refine zaF rfl 36 _ _ rfl (w.heap.size+2) BZ [.int .i64 0,.int .i64 0,.int .i64 0,.int .i64 0,.bool false,.int .i64 0,.int .i64 0] rfl rfl rfl (by kernel_rfl) (by simp[Value.oneCell']) ?_ | exact bodyPost_ret (zce Zf Tryz.f5 rfl _ rfl rfl rfl rfl) rfl ⟨sd0,[],[],false,rfl,hQe,fun h=>by cases h⟩)
 have hnz:decide ((S.length:Int)≤(n:Int))=false:=by rw[decide_eq_false_iff_not];omega
 have hln:(n:Int)<S.length:=by omega
 have hn0:(0:Int)≤n:=by omega
 obtain⟨-,hrw,-⟩:=zbZ.at hrow
 obtain⟨b,o,rfl,hd⟩:=hrw n hlt
 have HE1:=LH (HEND.out hlt)
 have hfl:n<(zaS R).length:=by rw[HFL.out];exact hlt
 have HD0:=HDF.out hfl
 have okF:=HOKF.out _ (List.getElem_mem hfl)
 have hfc:∀ j u,j<5→(frC (zaS R)[n])[j]? = some u→U2.cell? ⟨fg,n*5+j,none⟩=some u:=fun j u hj hu=>by
  have:=hown.cells rfl (n*5+j) u (by rw[zcR zpR _ n hfl j hj];exact hu)
  rw[Addr.add_lit,Nat.zero_add]at this
  exact this
 clear HEND HDF HOKF HFL hrw hrow hown
 generalize (zaS R)[n]=F at *
 have HD1:=LH (fun w hw=>zcQ F okF m.pf.x m.pf.y kf.1 kf.2.1 w hw)
 have HD2:=LH (fun w hw=>zcQ F okF m.pt.x m.pt.y kt.1 kt.2.1 w hw)
 rw[← HD0.1,HSF.out.1,HSF.out.2.1]at HD1
 rw[← HD0.2,HST.out.1,HST.out.2.1]at HD2
 clear HD0 HSF HST kf kt okF hfl
 generalize ze (zmx R m)=LO at *
 generalize ze (zdW R m)=HI at *
 generalize zbX S n=s at *
 generalize S.length=rl at *
 obtain⟨sx,sy,sr,su,sg,sp,so⟩:=s
 unfold frC at HD1 HD2 hfc
 unfold sdC at hd
 have f0:=hfc 0 _ (by decide) rfl
 have f1:=hfc 1 _ (by decide) rfl
 have f2:=hfc 2 _ (by decide) rfl
 have f3:=hfc 3 _ (by decide) rfl
 have f4:=hfc 4 _ (by decide) rfl
 rw[Nat.add_zero]at f0
 have d0:U2.cell? ⟨b,o+n*7,none⟩=some (.int .i64 sx):=hd 0 _ rfl
 have d1:U2.cell? ⟨b,o+n*7+1,none⟩=some (.int .i64 sy):=hd 1 _ rfl
 have d2:U2.cell? ⟨b,o+n*7+2,none⟩=some (.int .i64 sr):=hd 2 _ rfl
 have d3:U2.cell? ⟨b,o+n*7+3,none⟩=some (.int .i64 su):=hd 3 _ rfl
 have d4:U2.cell? ⟨b,o+n*7+4,none⟩=some (.bool sg):=hd 4 _ rfl
 have d5:U2.cell? ⟨b,o+n*7+5,none⟩=some (.int .i64 sp):=hd 5 _ rfl
 have d6:U2.cell? ⟨b,o+n*7+6,none⟩=some (.int .i64 so):=hd 6 _ rfl
 clear hd hfc
 simp only at HE1
 cases sg
 case true =>
  clear HE1 HD1 HD2 f0 f1 f2 f3 f4
  have Zf:Blk (U2.setRow (w.heap.size+2) ([.int .i64 0,.int .i64 0,.int .i64 0,.int .i64 0,.bool false,.int .i64 0,.int .i64 0]:List Value).toArray) (w.heap.size+2) [.int .i64 0,.int .i64 0,.int .i64 0,.int .i64 0,.bool false,.int .i64 0,.int .i64 0] 36:=setRow_heap _ _ _ _ _ _ BZ
  have hQe:Q w (U2.setRow (w.heap.size+2) ([.int .i64 0,.int .i64 0,.int .i64 0,.int .i64 0,.bool false,.int .i64 0,.int .i64 0]:List Value).toArray):=below_setRow (Q.trans hwY hQ2) (by omega) _
  go_wp2_with (first | refine zaF rfl 36 _ _ rfl (w.heap.size+2) BZ [.int .i64 0,.int .i64 0,.int .i64 0,.int .i64 0,.bool false,.int .i64 0,.int .i64 0] rfl rfl rfl (by kernel_rfl) (by simp[Value.oneCell']) ?_ | exact bodyPost_ret (zce Zf Tryz.f5 rfl _ rfl rfl rfl rfl) rfl ⟨sd0,[],[],false,rfl,hQe,fun h=>by cases h⟩)
 have HEN:=LH (HE1.out rfl)
 clear HE1
 have hEd:Env U2.drew:=hE.ofQ (Q.trans hQ2 (Below.drew (Q.refl U2)))
 go_wp2_with fail
 refine zm 18 rfl (by kernel_rfl) rfl ?_
 refine svp 0 ?_
 refine svp 1 ?_
 refine svq 2 rfl (by intro w' hq;have hc0:=za hq m1;go_simp;try with_reducible rfl) ?_
 refine svp 3 ?_
 refine svq 4 rfl (by intro w' hq;have hc0:=za hq f0;have hc1:=za hq f1;have hc2:=za hq f2;have hc3:=za hq f3;have hc4:=za hq f4;go_simp;try with_reducible rfl) ?_
 refine svp 5 ?_
 refine svp 6 ?_
 refine svq 7 rfl (by intro w' hq;have hc0:=za hq m3;go_simp;try with_reducible rfl) ?_
 refine svp 8 ?_
 refine svp 9 ?_
 refine svq 10 rfl (by intro w' hq;have hc0:=za hq m4;go_simp;try with_reducible rfl) ?_
 refine svp 11 ?_
 refine zf (i:=12) (v:=_) rfl rfl (by kernel_rfl) (by kernel_rfl) (fun _ _ _ h=>h) (by rfl) ?_ (fun w' hq=>HD1.out w' (hEd.ofQ hq)) ?_
 ·(intro w' hq;go_simp;try with_reducible rfl)
 simp only[Act.put,zs1,zs2,zs3]
 refine svp 13 ?_
 refine svp 14 ?_
 refine svp 15 ?_
 refine svp 16 ?_
 refine svp 17 ?_
 refine zh (by kernel_rfl) (fun w3 hq3=>?_)
 simp only[List.drop_succ_cons,List.drop_nil]
 have hqa:Q U2 w3:=Q.trans (Below.drew (Q.refl U2)) hq3
 replace f0:=za hqa f0
 replace f1:=za hqa f1
 replace f2:=za hqa f2
 replace f3:=za hqa f3
 replace f4:=za hqa f4
 replace m1:=za hqa m1
 replace m6:=za hqa m6
 replace m7:=za hqa m7
 have hEe:Env w3.drew:=hE.ofQ (Q.trans hQ2 (Q.trans hqa (Below.drew (Q.refl w3))))
 clear hq3 HD1
 go_wp2_with fail
 refine zm 18 rfl (by kernel_rfl) rfl ?_
 refine svp 0 ?_
 refine svp 1 ?_
 refine svq 2 rfl (by intro w' hq;have hc0:=za hq m1;go_simp;try with_reducible rfl) ?_
 refine svp 3 ?_
 refine svq 4 rfl (by intro w' hq;have hc0:=za hq f0;have hc1:=za hq f1;have hc2:=za hq f2;have hc3:=za hq f3;have hc4:=za hq f4;go_simp;try with_reducible rfl) ?_
 refine svp 5 ?_
 refine svp 6 ?_
 refine svq 7 rfl (by intro w' hq;have hc0:=za hq m6;go_simp;try with_reducible rfl) ?_
 refine svp 8 ?_
 refine svp 9 ?_
 refine svq 10 rfl (by intro w' hq;have hc0:=za hq m7;go_simp;try with_reducible rfl) ?_
 refine svp 11 ?_
 refine zf (i:=12) (v:=_) rfl rfl (by kernel_rfl) (by kernel_rfl) (fun _ _ _ h=>h) (by rfl) ?_ (fun w' hq=>HD2.out w' (hEe.ofQ hq)) ?_
 ·(intro w' hq;go_simp;try with_reducible rfl)
 simp only[Act.put,zs1,zs2,zs3]
 refine svp 13 ?_
 refine svp 14 ?_
 refine svp 15 ?_
 refine svp 16 ?_
 refine svp 17 ?_
 refine zh (by kernel_rfl) (fun w5 hq5=>?_)
 simp only[List.drop_succ_cons,List.drop_nil]
 have hqb:Q w3 w5:=Q.trans (Below.drew (Q.refl w3)) hq5
 have hqc:Q U2 w5:=Q.trans hqa hqb
 replace m1:=za hqb m1
 replace d0:=za hqc d0
 replace d1:=za hqc d1
 replace d2:=za hqc d2
 replace d3:=za hqc d3
 replace d4:=za hqc d4
 replace d5:=za hqc d5
 replace d6:=za hqc d6
 clear hq5 HD2 f0 f1 f2 f3 f4 r0 r1 r2 r3 m0 m2 m3 m4 m5 m6 m7 m8 m9 m10 BR BM lBR lBM
 replace BZ:=zfx BZ hqc
 have Zf:Blk (w5.setRow (w.heap.size+2) ([.int .i64 sx,.int .i64 sy,.int .i64 sr,.int .i64 su,.bool false,.int .i64 sp,.int .i64 so]:List Value).toArray) (w.heap.size+2) [.int .i64 sx,.int .i64 sy,.int .i64 sr,.int .i64 su,.bool false,.int .i64 sp,.int .i64 so] 36:=setRow_heap _ _ _ _ _ _ BZ
 have hQe:Q w (w5.setRow (w.heap.size+2) ([.int .i64 sx,.int .i64 sy,.int .i64 sr,.int .i64 su,.bool false,.int .i64 sp,.int .i64 so]:List Value).toArray):=below_setRow (Q.trans hwY (Q.trans hQ2 hqc)) (by omega) _
 go_wp2_with (first | refine zaF rfl 36 _ _ rfl (w.heap.size+2) BZ [.int .i64 sx,.int .i64 sy,.int .i64 sr,.int .i64 su,.bool false,.int .i64 sp,.int .i64 so] rfl rfl rfl (by kernel_rfl) (by simp[Value.oneCell']) ?_ | exact bodyPost_ret (zce Zf Tryz.f5 rfl _ rfl rfl rfl rfl) rfl ⟨⟨sx,sy,sr,su,false,sp,so⟩,LO,HI,true,rfl,hQe,fun _=>HEN.out⟩)
end Go.Proofs.YtbpghkdadajomaaGreatDoor
