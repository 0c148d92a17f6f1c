/-
  Walks of package joint: notched.; Walks of package joint: what is left at a birdsmouth.; Walk of the law's example: the chapter's roof and rafter.
-/
import Derived.Test.YtdecodpgdainiaaGreatDoorH24
import Derived.Test.YtdecodpgdainiaaGreatDoorH05
set_option maxRecDepth 100000
set_option maxHeartbeats 8000000
namespace Go.Proofs.YtdecodpgdainiaaGreatDoor
section
open Go.RowKit Go.Shelf Kp
attribute [local go_sem] Oper.semAt_some
theorem zi4{W:World}{b c:Nat}{x y z u v:Value}(h:Blk W b [x,y,z,u] 110)(hc:W.cell? ⟨c,0,none⟩=some v)(fn:Func)(hf:fn.results=#[.cell 6 110,.cell 7 29])(tmps:Array Value)
  (hp:tmps.getD 6 undef=.pointer (some ⟨b,0,none⟩))(hp5:tmps.getD 7 undef=.pointer (some ⟨c,0,none⟩)) :
  (results fn tmps).run Tryz.prog W=.ok (.tuple #[.agg #[x,y,z,u],v]) W:=by
 have c0:=h.cell 0
 have c1:=h.cell 1
 have c2:=h.cell 2
 have c3:=h.cell 3
 simp only[zs4,zs5]at c0 c1 c2 c3
 simp only[Array.getD_eq_getD_getElem?]at hp hp5
 simp[results,hf,hp,hp5,go_sem,c0,c1,c2,c3,hc]
theorem zpi(ro:Ro)(m:Mb)(x:Raf)(hx:RafBd x)(q:Rat)(hq:NotchOk x q)(w:World)(hE:Env w)(hof:OfC w ro m x) :
  CallsIn Fence.wide 9 Tryz.prog 54 #[.agg (roC ro).toArray,.agg (mbC m).toArray,.agg #[.string ⟨(za (x.over:Rat)).toArray⟩,.string ⟨(za q).toArray⟩,.string ⟨(za (q*x.pitch)).toArray⟩]] w fun e w'=>e=.returned (.tuple #[.agg (zm7 x).toArray,.int .i64 0])∧Q w w':=by
 refine callsIn_of_wp_marks Tryz.func54 rfl trivial ?_ rfl
 simp only[Tryz.ntmps54,List.size_toArray,List.length_cons,List.length_nil,Nat.reduceAdd,Nat.reduceSub,Array.replicate_succ,Array.replicate_zero,List.push_toArray,List.append_toArray,List.nil_append,List.cons_append]
 refine wpIn_wide.2 ?_
 have HO:=LH hof
 have HN:Hid (∀ Bn Bx W,Blk W Bn [.string ⟨(za (x.over:Rat)).toArray⟩,.string ⟨(za q).toArray⟩,.string ⟨(za (q*x.pitch)).toArray⟩] 61→Blk W Bx (zm7 x) 110 →
   zfz 8 Tryz.prog 143 #[.pointer (some ⟨Bn,0,none⟩),.pointer (some ⟨Bx,0,none⟩)] zm2 [Bn,Bx] (fun _ W=>Env W) zrM (fun ys=>UpN 2 ys) (fun pre=>∃ k,k≤2∧UpN k pre) W):=LH (fun Bn Bx W h1 h2=>znX x hx q hq Bn Bx W 8 (by omega) h1 h2)
 unfold OfC at HO
 unfold zm7 at HN HO
 unfold zm7
 unfold roC Sl3.v mbC at HO
 unfold roC Sl3.v mbC
 clear hx hq hof
 obtain⟨⟨a0,n0,c0⟩,⟨a1,n1,c1⟩,⟨a2,n2,c2⟩,⟨a3,n3,c3⟩⟩:=ro
 obtain⟨ki,fa,ot,fx,fy,fz,tx,ty,tz,wi,de⟩:=m
 obtain⟨dp,pitch,run,over⟩:=x
 simp only at HO HN ⊢
 generalize za (q*pitch)=HE at *
 generalize za q=SS at *
 generalize za (over:Rat)=OV at *
 generalize za pitch=PI at *
 generalize za run=HI at *
 obtain⟨W0,hW0⟩:∃ W0,((((w.alloc (.cells #[.slice a0 n0 c0,.slice a1 n1 c1,.slice a2 n2 c2,.slice a3 n3 c3] 57)).alloc (.cells #[.int .i64 ki,.int .i64 fa,.int .i64 ot,.string ⟨fx.toArray⟩,.string ⟨fy.toArray⟩,.string ⟨fz.toArray⟩,.string ⟨tx.toArray⟩,.string ⟨ty.toArray⟩,.string ⟨tz.toArray⟩,.int .i64 wi,.int .i64 de] 26)).alloc (.cells #[.string ⟨OV.toArray⟩,.string ⟨SS.toArray⟩,.string ⟨HE.toArray⟩] 61)).alloc (.cells #[.int .i64 0,.string ⟨#[]⟩,.string ⟨#[]⟩,.string ⟨#[]⟩] 110)).alloc (.cells #[.int .i64 0] 29)=W0:=⟨_,rfl⟩
 have hq0:Q w W0:=by rw[← hW0];exact bt
 have hs0:W0.heap.size=w.heap.size+5:=by rw[← hW0];simp
 have BR:Blk W0 w.heap.size [.slice a0 n0 c0,.slice a1 n1 c1,.slice a2 n2 c2,.slice a3 n3 c3] 57:=by
  rw[← hW0]
  exact((((Blk.new w _ _).alloc _).alloc _).alloc _).alloc _
 have BM:Blk W0 (w.heap.size+1) [.int .i64 ki,.int .i64 fa,.int .i64 ot,.string ⟨fx.toArray⟩,.string ⟨fy.toArray⟩,.string ⟨fz.toArray⟩,.string ⟨tx.toArray⟩,.string ⟨ty.toArray⟩,.string ⟨tz.toArray⟩,.int .i64 wi,.int .i64 de] 26:=by
  rw[← hW0]
  have:=(((Blk.new (w.alloc (.cells #[.slice a0 n0 c0,.slice a1 n1 c1,.slice a2 n2 c2,.slice a3 n3 c3] 57)) [.int .i64 ki,.int .i64 fa,.int .i64 ot,.string ⟨fx.toArray⟩,.string ⟨fy.toArray⟩,.string ⟨fz.toArray⟩,.string ⟨tx.toArray⟩,.string ⟨ty.toArray⟩,.string ⟨tz.toArray⟩,.int .i64 wi,.int .i64 de] 26).alloc (.cells #[.string ⟨OV.toArray⟩,.string ⟨SS.toArray⟩,.string ⟨HE.toArray⟩] 61)).alloc (.cells #[.int .i64 0,.string ⟨#[]⟩,.string ⟨#[]⟩,.string ⟨#[]⟩] 110)).alloc (.cells #[.int .i64 0] 29)
  rw[World.size_alloc]at this;exact this
 have BN:Blk W0 (w.heap.size+2) [.string ⟨OV.toArray⟩,.string ⟨SS.toArray⟩,.string ⟨HE.toArray⟩] 61:=by
  rw[← hW0]
  have:=((Blk.new ((w.alloc (.cells #[.slice a0 n0 c0,.slice a1 n1 c1,.slice a2 n2 c2,.slice a3 n3 c3] 57)).alloc (.cells #[.int .i64 ki,.int .i64 fa,.int .i64 ot,.string ⟨fx.toArray⟩,.string ⟨fy.toArray⟩,.string ⟨fz.toArray⟩,.string ⟨tx.toArray⟩,.string ⟨ty.toArray⟩,.string ⟨tz.toArray⟩,.int .i64 wi,.int .i64 de] 26)) [.string ⟨OV.toArray⟩,.string ⟨SS.toArray⟩,.string ⟨HE.toArray⟩] 61).alloc (.cells #[.int .i64 0,.string ⟨#[]⟩,.string ⟨#[]⟩,.string ⟨#[]⟩] 110)).alloc (.cells #[.int .i64 0] 29)
  rw[World.size_alloc,World.size_alloc]at this;exact this
 have BZ:Blk W0 (w.heap.size+3) [.int .i64 0,.string ⟨#[]⟩,.string ⟨#[]⟩,.string ⟨#[]⟩] 110:=by
  rw[← hW0]
  have:=(Blk.new (((w.alloc (.cells #[.slice a0 n0 c0,.slice a1 n1 c1,.slice a2 n2 c2,.slice a3 n3 c3] 57)).alloc (.cells #[.int .i64 ki,.int .i64 fa,.int .i64 ot,.string ⟨fx.toArray⟩,.string ⟨fy.toArray⟩,.string ⟨fz.toArray⟩,.string ⟨tx.toArray⟩,.string ⟨ty.toArray⟩,.string ⟨tz.toArray⟩,.int .i64 wi,.int .i64 de] 26)).alloc (.cells #[.string ⟨OV.toArray⟩,.string ⟨SS.toArray⟩,.string ⟨HE.toArray⟩] 61)) [.int .i64 0,.string ⟨#[]⟩,.string ⟨#[]⟩,.string ⟨#[]⟩] 110).alloc (.cells #[.int .i64 0] 29)
  rw[World.size_alloc,World.size_alloc,World.size_alloc]at this;exact this
 have BE:Blk W0 (w.heap.size+4) [.int .i64 0] 29:=by
  rw[← hW0]
  have:=Blk.new ((((w.alloc (.cells #[.slice a0 n0 c0,.slice a1 n1 c1,.slice a2 n2 c2,.slice a3 n3 c3] 57)).alloc (.cells #[.int .i64 ki,.int .i64 fa,.int .i64 ot,.string ⟨fx.toArray⟩,.string ⟨fy.toArray⟩,.string ⟨fz.toArray⟩,.string ⟨tx.toArray⟩,.string ⟨ty.toArray⟩,.string ⟨tz.toArray⟩,.int .i64 wi,.int .i64 de] 26)).alloc (.cells #[.string ⟨OV.toArray⟩,.string ⟨SS.toArray⟩,.string ⟨HE.toArray⟩] 61)).alloc (.cells #[.int .i64 0,.string ⟨#[]⟩,.string ⟨#[]⟩,.string ⟨#[]⟩] 110)) [.int .i64 0] 29
  rw[World.size_alloc,World.size_alloc,World.size_alloc,World.size_alloc]at this;exact this
 have hEw:=hE.ofQ hq0
 have hQ0:=Q.refl W0
 replace r0:=BR.cell
 replace lBR:=BR.lt
 replace m0:=BM.cell
 replace lBM:=BM.lt
 go_wp2_with fail
 clear hW0
 refine cx (HO.out _ hEw hq0) fun Y1 hq1=>?_
 have hQ1:Q w Y1:=Q.trans hq0 hq1
 replace BN:=zl5 BN hq1
 replace BZ:=zl5 BZ hq1
 replace BE:=zl5 BE hq1
 have t0:=BN.cell
 have hsy:=hq1.size
 have lBN:=BN.lt
 clear BR BM r0 m0 lBR lBM HO hEw
 go_wp2_with fail
 refine(zo4 _ _ _ _ _ _ _ _).mono ?_
 rintro e w2⟨rfl,rfl⟩
 obtain⟨W2,hW2⟩:∃ W2,((Y1.alloc (.cells #[.int .i64 dp,.string ⟨PI.toArray⟩,.string ⟨HI.toArray⟩,.string ⟨OV.toArray⟩] 110)).alloc (.cells #[.int .i64 dp,.string ⟨PI.toArray⟩,.string ⟨HI.toArray⟩,.string ⟨OV.toArray⟩] 110)).alloc (.cells #[.string ⟨OV.toArray⟩,.string ⟨SS.toArray⟩,.string ⟨HE.toArray⟩] 61)=W2:=⟨_,rfl⟩
 have hq2:Q Y1 W2:=by rw[← hW2];exact bt
 have hs2:W2.heap.size=Y1.heap.size+3:=by rw[← hW2];simp
 have X1:Blk W2 Y1.heap.size [.int .i64 dp,.string ⟨PI.toArray⟩,.string ⟨HI.toArray⟩,.string ⟨OV.toArray⟩] 110:=by
  rw[← hW2]
  exact((Blk.new Y1 _ _).alloc _).alloc _
 have X2:Blk W2 (Y1.heap.size+1) [.int .i64 dp,.string ⟨PI.toArray⟩,.string ⟨HI.toArray⟩,.string ⟨OV.toArray⟩] 110:=by
  rw[← hW2]
  have:=(Blk.new (Y1.alloc (.cells #[.int .i64 dp,.string ⟨PI.toArray⟩,.string ⟨HI.toArray⟩,.string ⟨OV.toArray⟩] 110)) [.int .i64 dp,.string ⟨PI.toArray⟩,.string ⟨HI.toArray⟩,.string ⟨OV.toArray⟩] 110).alloc (.cells #[.string ⟨OV.toArray⟩,.string ⟨SS.toArray⟩,.string ⟨HE.toArray⟩] 61)
  rw[World.size_alloc]at this;exact this
 have X3:Blk W2 (Y1.heap.size+2) [.string ⟨OV.toArray⟩,.string ⟨SS.toArray⟩,.string ⟨HE.toArray⟩] 61:=by
  rw[← hW2]
  have:=Blk.new ((Y1.alloc (.cells #[.int .i64 dp,.string ⟨PI.toArray⟩,.string ⟨HI.toArray⟩,.string ⟨OV.toArray⟩] 110)).alloc (.cells #[.int .i64 dp,.string ⟨PI.toArray⟩,.string ⟨HI.toArray⟩,.string ⟨OV.toArray⟩] 110)) [.string ⟨OV.toArray⟩,.string ⟨SS.toArray⟩,.string ⟨HE.toArray⟩] 61
  rw[World.size_alloc,World.size_alloc]at this;exact this
 replace BZ:=zl5 BZ hq2
 replace BE:=zl5 BE hq2
 rw[World.size_alloc,hW2]
 clear hW2 t0 BN lBN
 have hqW:Q w W2:=Q.trans hQ1 hq2
 go_wp2_with fail
 refine(wpIn_wide (n:=9)).1 ?_
 refine zgl (m:=9) Env (gf:=143) (lb:=#[.pointer (some ⟨Y1.heap.size+1+1,0,none⟩),.pointer (some ⟨Y1.heap.size+1,0,none⟩)]) (by omega) rfl (enters_of Tryz.func143 (by kernel_rfl) rfl)
  (HN.out _ _ W2 X3 X2) (fun k hk=>by
   simp only[List.mem_cons,List.not_mem_nil,or_false]at hk
   rcases hk with rfl | rfl <;> omega) (fun _=>rfl)
  (fun k W=>Blk W Y1.heap.size [.int .i64 dp,.string ⟨PI.toArray⟩,.string ⟨HI.toArray⟩,.string ⟨OV.toArray⟩] 110∧Blk W (w.heap.size+3) [.int .i64 0,.string ⟨#[]⟩,.string ⟨#[]⟩,.string ⟨#[]⟩] 110∧Blk W (w.heap.size+4) [.int .i64 0] 29∧Q w W)
  (fun _ _=>False) (fun k W h=>hE.ofQ h.2.2.2)
  (fun k W W' h kc hb=>⟨h.1.kc kc,h.2.1.kc kc,h.2.2.1.kc kc,Below.trans h.2.2.2 (hb.mono hqW.size)⟩) (fun _ _ _ h _ _=>h) ⟨X1,BZ,BE,hqW⟩
  (fun x ac W=>ac={ tmps:=#[.agg #[.slice a0 n0 c0,.slice a1 n1 c1,.slice a2 n2 c2,.slice a3 n3 c3],.agg #[.int .i64 ki,.int .i64 fa,.int .i64 ot,.string ⟨fx.toArray⟩,.string ⟨fy.toArray⟩,.string ⟨fz.toArray⟩,.string ⟨tx.toArray⟩,.string ⟨ty.toArray⟩,.string ⟨tz.toArray⟩,.int .i64 wi,.int .i64 de],.agg #[.string ⟨OV.toArray⟩,.string ⟨SS.toArray⟩,.string ⟨HE.toArray⟩],.pointer (some ⟨w.heap.size,0,none⟩),.pointer (some ⟨w.heap.size+1,0,none⟩),.pointer (some ⟨w.heap.size+1+1,0,none⟩),.pointer (some ⟨w.heap.size+1+1+1,0,none⟩),.pointer (some ⟨w.heap.size+1+1+1+1,0,none⟩),.pointer (some ⟨Y1.heap.size,0,none⟩),.int .i64 0,.bool true,.int .i64 (if x.1=0 then 1 else 9),.tuple #[.agg #[.int .i64 dp,.string ⟨PI.toArray⟩,.string ⟨HI.toArray⟩,.string ⟨OV.toArray⟩],.int .i64 0],.agg #[.slice a0 n0 c0,.slice a1 n1 c1,.slice a2 n2 c2,.slice a3 n3 c3],.agg #[.int .i64 ki,.int .i64 fa,.int .i64 ot,.string ⟨fx.toArray⟩,.string ⟨fy.toArray⟩,.string ⟨fz.toArray⟩,.string ⟨tx.toArray⟩,.string ⟨ty.toArray⟩,.string ⟨tz.toArray⟩,.int .i64 wi,.int .i64 de],.tuple #[.agg #[.int .i64 dp,.string ⟨PI.toArray⟩,.string ⟨HI.toArray⟩,.string ⟨OV.toArray⟩],.int .i64 0],.agg #[.int .i64 dp,.string ⟨PI.toArray⟩,.string ⟨HI.toArray⟩,.string ⟨OV.toArray⟩],.int .i64 0,.int .i64 0,.bool false,undef,undef,.agg #[.int .i64 dp,.string ⟨PI.toArray⟩,.string ⟨HI.toArray⟩,.string ⟨OV.toArray⟩],.agg #[.string ⟨OV.toArray⟩,.string ⟨SS.toArray⟩,.string ⟨HE.toArray⟩],.func (.func 143) #[] #[.pointer (some ⟨Y1.heap.size+1+1,0,none⟩),.pointer (some ⟨Y1.heap.size+1,0,none⟩)],.bool true,.int .i64 (if x.1=0 then 1 else 9),undef,undef,undef,undef,undef],defers:=[] })
  (fun x ac W W' h kc=>h)
  ?assign ?body ?done ?stop
 case assign =>
  intro l x W K hW hK
  have hk:=hK _ W (Q.refl W) rfl
  clear hK
  unfold zm2
  generalize (if x.1=0 then(1:Int)else 9)=ec at *
  gi_wp2
  exact hk
 case stop =>
  rintro D c W _ h _
  exact h.elim
 case body =>
  rintro l k hk a1 W⟨h1,h2,h3,hQk⟩ rfl
  simp only
  generalize (if k=0 then(1:Int)else 9)=ec at *
  gi_wp2
  exact⟨KeepsFrom.refl _ _,zI.refl _ _,h1,h2,h3,hQk⟩
 case done =>
  rintro D W hD⟨h1,h2,h3,hQk⟩ hK
  have k0:=h1.cell
  have z0:=h2.cell
  have e0:=h3.cell
  have g0:=h2.frozen 0
  have g1:=h2.frozen 1
  have g2:=h2.frozen 2
  have g3:=h2.frozen 3
  have ge:=h3.frozen 0
  have Zf:=((((h2.set 0 (.int .i64 dp)).set 1 (.string ⟨PI.toArray⟩)).set 2 (.string ⟨HI.toArray⟩)).set 3 (.string ⟨OV.toArray⟩)).setOther (b':=w.heap.size+4) (by omega) 0 (.int .i64 0)
  simp only[List.set_cons_zero,List.set_cons_succ]at Zf
  have Ef:=(((((h3.setOther (b':=w.heap.size+3) (by omega) 0 (.int .i64 dp)).setOther (b':=w.heap.size+3) (by omega) 1 (.string ⟨PI.toArray⟩)).setOther (b':=w.heap.size+3) (by omega) 2 (.string ⟨HI.toArray⟩)).setOther (b':=w.heap.size+3) (by omega) 3 (.string ⟨OV.toArray⟩)).set 0 (.int .i64 0))
  simp only[List.set_cons_zero]at Ef
  have hbz:w.heap.size≤w.heap.size+3:=by omega
  have hbe:w.heap.size≤w.heap.size+4:=by omega
  have hQe:=((((hQk.setCell (p:=⟨w.heap.size+3,0,none⟩) hbz (.int .i64 dp)).setCell (p:=⟨w.heap.size+3,1,none⟩) hbz (.string ⟨PI.toArray⟩)).setCell (p:=⟨w.heap.size+3,2,none⟩) hbz (.string ⟨HI.toArray⟩)).setCell (p:=⟨w.heap.size+3,3,none⟩) hbz (.string ⟨OV.toArray⟩)).setCell (p:=⟨w.heap.size+4,0,none⟩) hbe (.int .i64 0)
  have hKo:∀ (W:World) (a:Addr) (v:Value),W.heap[D]? = some (Obj.deferred (some []))→(W.setCell a v).heap[D]? = some (Obj.deferred (some [])):=fun W a v h=>(KeepsOthers.setCell W a v).same D _ h rfl
  have hK2:=hKo _ ⟨w.heap.size+4,0,none⟩ (.int .i64 0) (hKo _ ⟨w.heap.size+3,3,none⟩ (.string ⟨OV.toArray⟩) (hKo _ ⟨w.heap.size+3,2,none⟩ (.string ⟨HI.toArray⟩) (hKo _ ⟨w.heap.size+3,1,none⟩ (.string ⟨PI.toArray⟩) (hKo _ ⟨w.heap.size+3,0,none⟩ (.int .i64 dp) hK))))
  have kc:=KC.put (.deferred none) hK2 rfl
  have hDw:w.heap.size≤D:=by omega
  go_wp2
  refine⟨by simp,.inl ⟨_,_,rfl,run_takeDeferred hK2,?_⟩⟩
  exact⟨_,zi4 (Zf.kc kc) ((Ef.kc kc).cell 0) _ rfl _ rfl rfl,rfl,Below.trans hQe (zaX hDw hK2 _)⟩
theorem zlF(ro:Ro)(m:Mb)(x:Raf)(hx:RafBd x)(q:Rat)(hq:NotchOk x q)(w:World)(hE:Env w)(hof:OfC w ro m x) :
  CR 54 #[.agg (roC ro).toArray,.agg (mbC m).toArray,.agg #[.string ⟨(za (x.over:Rat)).toArray⟩,.string ⟨(za q).toArray⟩,.string ⟨(za (q*x.pitch)).toArray⟩]] w (.tuple #[.agg (zm7 x).toArray,.int .i64 0]) :=
 callsIn_wide.1 (zpi ro m x hx q hq w hE hof)
end
section
open Go.RowKit Go.Shelf Kp
attribute [local go_sem] Oper.semAt_some
theorem znH(ro:Ro)(m:Mb)(x:Raf)(hx:RafBd x)(q:Rat)(hq:NotchOk x q)(sq rest:Rat)(h1:x.pitch*x.pitch+1=sq)(h0:sq.num≠0)(h2:((x.dep:Rat) - q*x.pitch) / sq=rest)(P:World→Nat→Value→Prop)(hle:∀ w a b v,P w a v→b≤a→P w b v)
  (hmk:∀ b t w,Env w→Blk w b [.string ⟨(za rest).toArray⟩,.string ⟨(za sq).toArray⟩] t→Calls Tryz.prog 8 #[.slice (some ⟨b,0,none⟩) 1 1] w fun e w'=>∃ v,e=.returned (.tuple #[v,.int .i64 0])∧Q w w'∧P w' w.heap.size v)
  (w:World)(hE:Env w)(hof:OfC w ro m x) :
  Calls Tryz.prog 19 #[.agg (roC ro).toArray,.agg (mbC m).toArray,.agg #[.string ⟨(za (x.over:Rat)).toArray⟩,.string ⟨(za q).toArray⟩,.string ⟨(za (q*x.pitch)).toArray⟩]] w fun e w'=>∃ v,e=.returned (.tuple #[v,.int .i64 0])∧Q w w'∧P w' w.heap.size v:=by
 have HN:Hid (∀ W,Env W→Q w W→CR 54 #[.agg (roC ro).toArray,.agg (mbC m).toArray,.agg #[.string ⟨(za (x.over:Rat)).toArray⟩,.string ⟨(za q).toArray⟩,.string ⟨(za (q*x.pitch)).toArray⟩]] W (.tuple #[.agg (zm7 x).toArray,.int .i64 0])):=LH (fun W hW hqW=>zlF ro m x hx q hq W hW (fun W2 h2 hq2=>hof W2 h2 (Q.trans hqW hq2)))
 have bd:Bd 4 (x.dep:Rat):=zfM (by have:=hx.d1;have:=hx.d2;omega) (by decide)
 have bh:=hq.b.mul hx.p
 have bpp:=hx.p.mul hx.p
 have HP:=LH (fun w hw=>zaq x.pitch x.pitch hx.p hx.p (by decide) w hw)
 have HA:=LH (fun w hw=>zdm (x.pitch*x.pitch) 1 bpp zfL (by decide) w hw)
 have bsq:=bpp.add zfL
 rw[h1]at HA bsq
 rw[show za (1:Rat)=[49]from by kernel_rfl]at HA
 have HW:=LH (fun w hw=>zcz x.dep (by have:=hx.d1;have:=hx.d2;omega) w hw)
 have HS:=LH (fun w hw=>zao (x.dep:Rat) (q*x.pitch) bd bh (by decide) w hw)
 have HV:=LH (fun w hw=>zbi ((x.dep:Rat) - q*x.pitch) sq (bd.less bh) bsq h0 (by decide) w hw)
 rw[h2]at HV
 have HMk:=LH hmk
 have HLE:=LH hle
 clear hle
 clear hmk hof hx hq bd bh bpp bsq h1 h0 h2
 unfold zm7 roC Sl3.v mbC at HN
 unfold roC Sl3.v mbC
 obtain⟨⟨a0,n0,c0⟩,⟨a1,n1,c1⟩,⟨a2,n2,c2⟩,⟨a3,n3,c3⟩⟩:=ro
 obtain⟨ki,fa,ot,fx,fy,fz,tx,ty,tz,wi,de⟩:=m
 obtain⟨dp,pitch,run,over⟩:=x
 simp only at HN HP HA HW HS HV ⊢
 generalize za ((dp:Rat) - q*pitch)=RS at *
 generalize za (dp:Rat)=DD at *
 generalize za (pitch*pitch)=PP at *
 generalize za rest=RE at *
 generalize za sq=SQ at *
 generalize za (q*pitch)=HE at *
 generalize za q=SS at *
 generalize za (over:Rat)=OV at *
 generalize za pitch=PI at *
 generalize za run=HI at *
 have BR:=((Blk.new w [.slice a0 n0 c0,.slice a1 n1 c1,.slice a2 n2 c2,.slice a3 n3 c3] 57).alloc (.cells #[.int .i64 ki,.int .i64 fa,.int .i64 ot,.string ⟨fx.toArray⟩,.string ⟨fy.toArray⟩,.string ⟨fz.toArray⟩,.string ⟨tx.toArray⟩,.string ⟨ty.toArray⟩,.string ⟨tz.toArray⟩,.int .i64 wi,.int .i64 de] 26)).alloc (.cells #[.string ⟨OV.toArray⟩,.string ⟨SS.toArray⟩,.string ⟨HE.toArray⟩] 61)
 have BM:=(Blk.new1 w (.cells #[.slice a0 n0 c0,.slice a1 n1 c1,.slice a2 n2 c2,.slice a3 n3 c3] 57) [.int .i64 ki,.int .i64 fa,.int .i64 ot,.string ⟨fx.toArray⟩,.string ⟨fy.toArray⟩,.string ⟨fz.toArray⟩,.string ⟨tx.toArray⟩,.string ⟨ty.toArray⟩,.string ⟨tz.toArray⟩,.int .i64 wi,.int .i64 de] 26).alloc (.cells #[.string ⟨OV.toArray⟩,.string ⟨SS.toArray⟩,.string ⟨HE.toArray⟩] 61)
 have BN:=Blk.new2 w (.cells #[.slice a0 n0 c0,.slice a1 n1 c1,.slice a2 n2 c2,.slice a3 n3 c3] 57) (.cells #[.int .i64 ki,.int .i64 fa,.int .i64 ot,.string ⟨fx.toArray⟩,.string ⟨fy.toArray⟩,.string ⟨fz.toArray⟩,.string ⟨tx.toArray⟩,.string ⟨ty.toArray⟩,.string ⟨tz.toArray⟩,.int .i64 wi,.int .i64 de] 26) [.string ⟨OV.toArray⟩,.string ⟨SS.toArray⟩,.string ⟨HE.toArray⟩] 61
 obtain⟨W0,hW0⟩:∃ W0,((w.alloc (.cells #[.slice a0 n0 c0,.slice a1 n1 c1,.slice a2 n2 c2,.slice a3 n3 c3] 57)).alloc (.cells #[.int .i64 ki,.int .i64 fa,.int .i64 ot,.string ⟨fx.toArray⟩,.string ⟨fy.toArray⟩,.string ⟨fz.toArray⟩,.string ⟨tx.toArray⟩,.string ⟨ty.toArray⟩,.string ⟨tz.toArray⟩,.int .i64 wi,.int .i64 de] 26)).alloc (.cells #[.string ⟨OV.toArray⟩,.string ⟨SS.toArray⟩,.string ⟨HE.toArray⟩] 61)=W0:=⟨_,rfl⟩
 have hq0:Q w W0:=by rw[← hW0];exact bt
 have hEw:=hE.ofQ hq0
 rw[hW0]at BR BM
 have BN:Blk W0 (w.heap.size+2) [.string ⟨OV.toArray⟩,.string ⟨SS.toArray⟩,.string ⟨HE.toArray⟩] 61:=by rw[← hW0];exact BN
 clear hE
 have hE:=hEw
 clear hEw
 have hQ0:=Q.refl W0
 replace r0:=BR.cell
 replace lBR:=BR.lt
 replace m0:=BM.cell
 replace lBM:=BM.lt
 replace t0:=BN.cell 0
 replace t1:=BN.cell 1
 replace t2:=BN.cell 2
 simp only[zs4,zs5]at t0 t1 t2
 replace lBN:=BN.lt
 go_enter Tryz.func19,Tryz.ntmps19
 go_wp2_with fail
 clear hW0
 refine cx (HN.out _ hE hq0) fun Y1 hq1=>?_
 have hQ1:Q w Y1:=Q.trans hq0 hq1
 have X:=Blk.new Y1 [.int .i64 dp,.string ⟨PI.toArray⟩,.string ⟨HI.toArray⟩,.string ⟨OV.toArray⟩] 110
 obtain⟨W2,hW2⟩:∃ W2,Y1.alloc (.cells #[.int .i64 dp,.string ⟨PI.toArray⟩,.string ⟨HI.toArray⟩,.string ⟨OV.toArray⟩] 110)=W2:=⟨_,rfl⟩
 have X:Blk W2 Y1.heap.size [.int .i64 dp,.string ⟨PI.toArray⟩,.string ⟨HI.toArray⟩,.string ⟨OV.toArray⟩] 110:=by rw[← hW2];exact X
 have hqW:Q Y1 W2:=by rw[← hW2];exact bt
 have hE2:=hE.ofQ (Q.trans hq1 hqW)
 have hwW:Q w W2:=Q.trans hQ1 hqW
 replace BN:=zl5 (zl5 BN hq1) hqW
 clear hE HN BR BM r0 m0 lBR lBM
 have hE:=hE2
 clear hE2
 have hQ0:=Q.refl W2
 replace x0:=X.cell 0
 replace x1:=X.cell 1
 replace x2:=X.cell 2
 replace x3:=X.cell 3
 simp only[zs4,zs5]at x0 x1 x2 x3
 replace lX:=X.lt
 replace t0:=BN.cell 0
 replace t1:=BN.cell 1
 replace t2:=BN.cell 2
 simp only[zs4,zs5]at t0 t1 t2
 replace lBN:=BN.lt
 go_wp2_with fail
 clear hW2
 refine cx (HP.out _ (hE.ofQ bt)) fun Z1 hq1=>?_
 have hs1:Q W2 Z1:=Q.trans bt hq1
 have hQ1:Q W2 Z1:=Q.trans hQ0 hs1
 replace X:=X.keep hs1 X.lt
 replace x0:=X.cell 0
 replace x1:=X.cell 1
 replace x2:=X.cell 2
 replace x3:=X.cell 3
 simp only[zs4,zs5]at x0 x1 x2 x3
 replace lX:=X.lt
 replace BN:=BN.keep hs1 BN.lt
 replace t0:=BN.cell 0
 replace t1:=BN.cell 1
 replace t2:=BN.cell 2
 simp only[zs4,zs5]at t0 t1 t2
 replace lBN:=BN.lt
 go_wp2_with fail
 refine cx (HA.out _ (hE.ofQ bt)) fun Z2 hq2=>?_
 have hs2:Q Z1 Z2:=Q.trans bt hq2
 have hQ2:Q W2 Z2:=Q.trans hQ1 hs2
 replace X:=X.keep hs2 X.lt
 replace x0:=X.cell 0
 replace x1:=X.cell 1
 replace x2:=X.cell 2
 replace x3:=X.cell 3
 simp only[zs4,zs5]at x0 x1 x2 x3
 replace lX:=X.lt
 replace BN:=BN.keep hs2 BN.lt
 replace t0:=BN.cell 0
 replace t1:=BN.cell 1
 replace t2:=BN.cell 2
 simp only[zs4,zs5]at t0 t1 t2
 replace lBN:=BN.lt
 go_wp2_with fail
 have hEd:Env Z2.drew:=hE.ofQ (Q.trans hQ2 (Below.drew (Q.refl Z2)))
 refine zn 11 rfl (by kernel_rfl) rfl ?_
 refine svp 0 ?_
 refine svq 1 rfl (by intro w' hq;have hc0:=ze hq x0;go_simp;try with_reducible rfl) ?_
 refine zf (i:=2) (v:=_) rfl rfl (by kernel_rfl) (by kernel_rfl) (fun _ _ _ h=>h) (by rfl) ?_ (fun w' hq=>HW.out w' (hEd.ofQ hq)) ?_
 ·(intro w' hq;go_simp;try with_reducible rfl)
 simp only[Act.put,zs1,zs2,zs3]
 refine svp 3 ?_
 refine svq 4 rfl (by intro w' hq;have hc0:=ze hq t2;go_simp;try with_reducible rfl) ?_
 refine zf (i:=5) (v:=_) rfl rfl (by kernel_rfl) (by kernel_rfl) (fun _ _ _ h=>h) (by rfl) ?_ (fun w' hq=>HS.out w' (hEd.ofQ hq)) ?_
 ·(intro w' hq;go_simp;try with_reducible rfl)
 simp only[Act.put,zs1,zs2,zs3]
 refine svp 6 ?_
 refine svp 7 ?_
 refine svp 8 ?_
 refine svp 9 ?_
 refine svp 10 ?_
 refine zh (by kernel_rfl) (fun w3 hq3=>?_)
 simp only[List.drop_succ_cons,List.drop_nil]
 have hqa:Q Z2 w3:=Q.trans (Below.drew (Q.refl Z2)) hq3
 have hQ3:Q W2 w3:=Q.trans hQ2 hqa
 have hE3:=hE.ofQ hQ3
 clear hq3 HW HS hEd HP HA
 go_wp2_with fail
 refine cx (HV.out _ hE3) fun w4 hq4=>?_
 have hQ4:Q W2 w4:=Q.trans hQ3 hq4
 have hqm:Q w4 (w4.alloc (.cells [Value.string ⟨RE.toArray⟩,.string ⟨SQ.toArray⟩].toArray 40)):=(Below.refl _ w4).alloc (Nat.le_refl _) _
 have hQ5:=Q.trans hQ4 hqm
 go_wp2_with fail
 refine(HMk.out w4.heap.size 40 _ (hE.ofQ hQ5) (Blk.new w4 _ _)).mono ?_
 rintro e w6⟨v,rfl,hq6,hown⟩
 have hwm:=(Q.trans hwW hQ5).size
 have hown2:=HLE.out _ _ _ _ hown hwm
 have hQe:=Q.trans hwW (Q.trans hQ5 hq6)
 go_wp2
 go_ret2
 exact⟨v,rfl,hQe,hown2⟩
theorem zpq(ro:Ro)(m:Mb)(x:Raf)(hx:RafBd x)(q:Rat)(hq:NotchOk x q)(sq rest:Rat)(h1:x.pitch*x.pitch+1=sq)(h0:sq.num≠0)(h2:((x.dep:Rat) - q*x.pitch) / sq=rest)(C:List Value)
  (hmk:∀ b t w,Env w→Blk w b [.string ⟨(za rest).toArray⟩,.string ⟨(za sq).toArray⟩] t→Calls Tryz.prog 8 #[.slice (some ⟨b,0,none⟩) 1 1] w fun e w'=>∃ v,e=.returned (.tuple #[v,.int .i64 0])∧Q w w'∧w'.ownsRow w.heap.size 40 2 v 1 C)
  (w:World)(hE:Env w)(hof:OfC w ro m x) :
  Calls Tryz.prog 19 #[.agg (roC ro).toArray,.agg (mbC m).toArray,.agg #[.string ⟨(za (x.over:Rat)).toArray⟩,.string ⟨(za q).toArray⟩,.string ⟨(za (q*x.pitch)).toArray⟩]] w fun e w'=>∃ v,e=.returned (.tuple #[v,.int .i64 0])∧Q w w'∧w'.ownsRow w.heap.size 40 2 v 1 C :=
 znH ro m x hx q hq sq rest h1 h0 h2 (fun W B v=>W.ownsRow B 40 2 v 1 C) (fun _ _ _ _ h hb=>znA h hb) hmk w hE hof
end
section
open Go.RowKit Go.Shelf Kp
attribute [local go_sem] Oper.semAt_some
def r0:List Sd:=[⟨0,0,3,4,false,0,8⟩,⟨100,0,3,4,false,0,8⟩,⟨100,80,3,4,false,0,8⟩,⟨0,80,3,4,false,0,8⟩]
def m0:Mb:=⟨1,0,-1,[49,48],[48],[48],[49,48],[52,48],[51,48],6,45⟩
theorem zo1{W:World}{b c:Nat}{x y z u:Value}{v:List Value}(h:Blk W b [x,y,z,u] 57)(hc:Blk W c v 26)(hv:v.length=11)(fn:Func)(hf:fn.results=#[.cell 0 57,.cell 1 26])(tmps:Array Value)
  (hp:tmps.getD 0 undef=.pointer (some ⟨b,0,none⟩))(hp1:tmps.getD 1 undef=.pointer (some ⟨c,0,none⟩)) :
  (results fn tmps).run Tryz.prog W=.ok (.tuple #[.agg #[x,y,z,u],.agg v.toArray]) W:=by
 have c0:=h.cell 0
 have c1:=h.cell 1
 have c2:=h.cell 2
 have c3:=h.cell 3
 match v,hv with
 | [v0,v1,v2,v3,v4,v5,v6,v7,v8,v9,v10],_ =>
  have d0:=hc.cell 0
  have d1:=hc.cell 1
  have d2:=hc.cell 2
  have d3:=hc.cell 3
  have d4:=hc.cell 4
  have d5:=hc.cell 5
  have d6:=hc.cell 6
  have d7:=hc.cell 7
  have d8:=hc.cell 8
  have d9:=hc.cell 9
  have d10:=hc.cell 10
  simp only[zs4,zs5]at c0 c1 c2 c3 d0 d1 d2 d3 d4 d5 d6 d7 d8 d9 d10
  simp only[Array.getD_eq_getD_getElem?]at hp hp1
  simp[results,hf,hp,hp1,go_sem,c0,c1,c2,c3,d0,d1,d2,d3,d4,d5,d6,d7,d8,d9,d10]
theorem znF(w:World):Calls Tryz.prog 17 #[] w fun e w'=>∃ ro:Ro,e=.returned (.tuple #[.agg (roC ro).toArray,.agg (mbC m0).toArray])∧zki w' ro.p.v [r0]∧Q w w':=by
 obtain⟨i0,hi,hz0,hz1,hz2⟩:=zb8 zlL
 obtain⟨W0,hW0⟩:∃ W0,((w.alloc (.cells #[.slice none 0 0,.slice none 0 0,.slice none 0 0,.slice none 0 0] 57)).alloc (.cells #[.int .i64 0,.int .i64 0,.int .i64 0,.string ⟨#[]⟩,.string ⟨#[]⟩,.string ⟨#[]⟩,.string ⟨#[]⟩,.string ⟨#[]⟩,.string ⟨#[]⟩,.int .i64 0,.int .i64 0] 26)).alloc (.cells #[.int .i64 0,.int .i64 0,.int .i64 100,.int .i64 0,.int .i64 100,.int .i64 80,.int .i64 0,.int .i64 80] 105)=W0:=⟨_,rfl⟩
 have hq0:Q w W0:=by rw[← hW0];exact bt
 have hs0:W0.heap.size=w.heap.size+3:=by rw[← hW0];simp
 have BR:Blk W0 w.heap.size [.slice none 0 0,.slice none 0 0,.slice none 0 0,.slice none 0 0] 57:=by
  rw[← hW0]
  exact((Blk.new w _ _).alloc _).alloc _
 have BM:Blk W0 (w.heap.size+1) [.int .i64 0,.int .i64 0,.int .i64 0,.string ⟨#[]⟩,.string ⟨#[]⟩,.string ⟨#[]⟩,.string ⟨#[]⟩,.string ⟨#[]⟩,.string ⟨#[]⟩,.int .i64 0,.int .i64 0] 26:=by
  rw[← hW0]
  exact(Blk.new1 w _ _ _).alloc _
 have BT:Blk W0 (w.heap.size+2) [.int .i64 0,.int .i64 0,.int .i64 100,.int .i64 0,.int .i64 100,.int .i64 80,.int .i64 0,.int .i64 80] 105:=by
  rw[← hW0]
  exact Blk.new2 w _ _ _ _
 go_enter Tryz.func17,Tryz.ntmps17
 go_wp2
 clear hW0
 go_loopw [11,2] (fun i o wr=>∃ k:Nat,k≤4∧i=.int .i64 k∧wr.ownsRow (w.heap.size+3) 108 7 o k (rowOf sdC (r0.take k))∧Below (w.heap.size+3) W0 wr∧w.heap.size+3≤wr.heap.size) (fun i _ _=>4 - (intOf i).toNat)
 case atStart=>exact⟨0,by omega,rfl,World.ownsRow_nil _ _ _ _,Below.refl _ _,by omega⟩
 case round =>
  obtain⟨k,hk,rfl,hown,hQ,hsz⟩:=hrel
  have BTr:=BT.keep hQ (by omega)
  have l2:w.heap.size+1+1<wr.heap.size:=by omega
  by_cases hlt:k<4
  ·have t0:=BTr.cell
   have h4:k=0∨k=1∨k=2∨k=3:=by omega
   clear BT BR BM hq0
   rcases h4 with rfl | rfl | rfl | rfl
   ·have hq2:Q wr ((wr.alloc (.cells #[.int .i64 0,.int .i64 0] 105)).alloc (.cells ([.int .i64 0,.int .i64 0,.int .i64 3,.int .i64 4,.bool false,.int .i64 0,.int .i64 8]:List Value).toArray 108)):=((Below.refl _ wr).alloc (Nat.le_refl _) _).alloc (by simp) _
    have hown2:=zl hown hq2
    have T:=Blk.new (wr.alloc (.cells #[.int .i64 0,.int .i64 0] 105)) [.int .i64 0,.int .i64 0,.int .i64 3,.int .i64 4,.bool false,.int .i64 0,.int .i64 8] 108
    rw[World.size_alloc]at T
    have hsz2:w.heap.size+3≤((wr.alloc (.cells #[.int .i64 0,.int .i64 0] 105)).alloc (.cells ([.int .i64 0,.int .i64 0,.int .i64 3,.int .i64 4,.bool false,.int .i64 0,.int .i64 8]:List Value).toArray 108)).heap.size:=by simp;omega
    go_wp2_with (at_builtin;refine wpList_append_own_at _ rfl (.tmp 15) (.tmp 21) 104 rfl (w.heap.size+3) 108 i0 _ 7 56 Tryz.underlying104 hi hz0 hz1 hz2 rfl (by decide) u2 0 (rowOf sdC (r0.take 0)) rfl hown2 ⟨wr.heap.size+1,0,none⟩ 1 1 [.int .i64 0,.int .i64 0,.int .i64 3,.int .i64 4,.bool false,.int .i64 0,.int .i64 8] rfl rfl (fun j z hj=>by rw[Addr.add_lit,Nat.zero_add];exact(T.cell j).trans hj) (by
     intro z hz
     simp only[List.mem_cons,List.not_mem_nil,or_false]at hz
     rcases hz with rfl | rfl | rfl | rfl | rfl | rfl | rfl <;> rfl) (by unfold maxLen;omega) (by omega) hsz2 ?_)
    intro v9 w9 hown9 hgrow9 _ _
    have hB9:Below (w.heap.size+3) W0 w9:=Below.trans hQ ((hq2.mono hsz).grown hgrow9 hsz2 (fun j hj=>(hown2.lt j hj).1))
    have hsz9:=Nat.le_trans hsz2 hgrow9.size
    clear hown2 T hgrow9 hq2 hsz2 t0 BTr l2 hown
    go_wp2
    go_roundw
    case rel=>exact⟨1,by omega,by go_num,hown9,hB9,hsz9⟩
    case measure=>simp[intOf]
   ·have hq2:Q wr ((wr.alloc (.cells #[.int .i64 100,.int .i64 0] 105)).alloc (.cells ([.int .i64 100,.int .i64 0,.int .i64 3,.int .i64 4,.bool false,.int .i64 0,.int .i64 8]:List Value).toArray 108)):=((Below.refl _ wr).alloc (Nat.le_refl _) _).alloc (by simp) _
    have hown2:=zl hown hq2
    have T:=Blk.new (wr.alloc (.cells #[.int .i64 100,.int .i64 0] 105)) [.int .i64 100,.int .i64 0,.int .i64 3,.int .i64 4,.bool false,.int .i64 0,.int .i64 8] 108
    rw[World.size_alloc]at T
    have hsz2:w.heap.size+3≤((wr.alloc (.cells #[.int .i64 100,.int .i64 0] 105)).alloc (.cells ([.int .i64 100,.int .i64 0,.int .i64 3,.int .i64 4,.bool false,.int .i64 0,.int .i64 8]:List Value).toArray 108)).heap.size:=by simp;omega
    go_wp2_with (at_builtin;refine wpList_append_own_at _ rfl (.tmp 15) (.tmp 21) 104 rfl (w.heap.size+3) 108 i0 _ 7 56 Tryz.underlying104 hi hz0 hz1 hz2 rfl (by decide) u2 1 (rowOf sdC (r0.take 1)) rfl hown2 ⟨wr.heap.size+1,0,none⟩ 1 1 [.int .i64 100,.int .i64 0,.int .i64 3,.int .i64 4,.bool false,.int .i64 0,.int .i64 8] rfl rfl (fun j z hj=>by rw[Addr.add_lit,Nat.zero_add];exact(T.cell j).trans hj) (by
     intro z hz
     simp only[List.mem_cons,List.not_mem_nil,or_false]at hz
     rcases hz with rfl | rfl | rfl | rfl | rfl | rfl | rfl <;> rfl) (by unfold maxLen;omega) (by omega) hsz2 ?_)
    intro v9 w9 hown9 hgrow9 _ _
    have hB9:Below (w.heap.size+3) W0 w9:=Below.trans hQ ((hq2.mono hsz).grown hgrow9 hsz2 (fun j hj=>(hown2.lt j hj).1))
    have hsz9:=Nat.le_trans hsz2 hgrow9.size
    clear hown2 T hgrow9 hq2 hsz2 t0 BTr l2 hown
    go_wp2
    go_roundw
    case rel=>exact⟨2,by omega,by go_num,hown9,hB9,hsz9⟩
    case measure=>simp[intOf]
   ·have hq2:Q wr ((wr.alloc (.cells #[.int .i64 100,.int .i64 80] 105)).alloc (.cells ([.int .i64 100,.int .i64 80,.int .i64 3,.int .i64 4,.bool false,.int .i64 0,.int .i64 8]:List Value).toArray 108)):=((Below.refl _ wr).alloc (Nat.le_refl _) _).alloc (by simp) _
    have hown2:=zl hown hq2
    have T:=Blk.new (wr.alloc (.cells #[.int .i64 100,.int .i64 80] 105)) [.int .i64 100,.int .i64 80,.int .i64 3,.int .i64 4,.bool false,.int .i64 0,.int .i64 8] 108
    rw[World.size_alloc]at T
    have hsz2:w.heap.size+3≤((wr.alloc (.cells #[.int .i64 100,.int .i64 80] 105)).alloc (.cells ([.int .i64 100,.int .i64 80,.int .i64 3,.int .i64 4,.bool false,.int .i64 0,.int .i64 8]:List Value).toArray 108)).heap.size:=by simp;omega
    go_wp2_with (at_builtin;refine wpList_append_own_at _ rfl (.tmp 15) (.tmp 21) 104 rfl (w.heap.size+3) 108 i0 _ 7 56 Tryz.underlying104 hi hz0 hz1 hz2 rfl (by decide) u2 2 (rowOf sdC (r0.take 2)) rfl hown2 ⟨wr.heap.size+1,0,none⟩ 1 1 [.int .i64 100,.int .i64 80,.int .i64 3,.int .i64 4,.bool false,.int .i64 0,.int .i64 8] rfl rfl (fun j z hj=>by rw[Addr.add_lit,Nat.zero_add];exact(T.cell j).trans hj) (by
     intro z hz
     simp only[List.mem_cons,List.not_mem_nil,or_false]at hz
     rcases hz with rfl | rfl | rfl | rfl | rfl | rfl | rfl <;> rfl) (by unfold maxLen;omega) (by omega) hsz2 ?_)
    intro v9 w9 hown9 hgrow9 _ _
    have hB9:Below (w.heap.size+3) W0 w9:=Below.trans hQ ((hq2.mono hsz).grown hgrow9 hsz2 (fun j hj=>(hown2.lt j hj).1))
    have hsz9:=Nat.le_trans hsz2 hgrow9.size
    clear hown2 T hgrow9 hq2 hsz2 t0 BTr l2 hown
    go_wp2
    go_roundw
    case rel=>exact⟨3,by omega,by go_num,hown9,hB9,hsz9⟩
    case measure=>simp[intOf]
   ·have hq2:Q wr ((wr.alloc (.cells #[.int .i64 0,.int .i64 80] 105)).alloc (.cells ([.int .i64 0,.int .i64 80,.int .i64 3,.int .i64 4,.bool false,.int .i64 0,.int .i64 8]:List Value).toArray 108)):=((Below.refl _ wr).alloc (Nat.le_refl _) _).alloc (by simp) _
    have hown2:=zl hown hq2
    have T:=Blk.new (wr.alloc (.cells #[.int .i64 0,.int .i64 80] 105)) [.int .i64 0,.int .i64 80,.int .i64 3,.int .i64 4,.bool false,.int .i64 0,.int .i64 8] 108
    rw[World.size_alloc]at T
    have hsz2:w.heap.size+3≤((wr.alloc (.cells #[.int .i64 0,.int .i64 80] 105)).alloc (.cells ([.int .i64 0,.int .i64 80,.int .i64 3,.int .i64 4,.bool false,.int .i64 0,.int .i64 8]:List Value).toArray 108)).heap.size:=by simp;omega
    go_wp2_with (at_builtin;refine wpList_append_own_at _ rfl (.tmp 15) (.tmp 21) 104 rfl (w.heap.size+3) 108 i0 _ 7 56 Tryz.underlying104 hi hz0 hz1 hz2 rfl (by decide) u2 3 (rowOf sdC (r0.take 3)) rfl hown2 ⟨wr.heap.size+1,0,none⟩ 1 1 [.int .i64 0,.int .i64 80,.int .i64 3,.int .i64 4,.bool false,.int .i64 0,.int .i64 8] rfl rfl (fun j z hj=>by rw[Addr.add_lit,Nat.zero_add];exact(T.cell j).trans hj) (by
     intro z hz
     simp only[List.mem_cons,List.not_mem_nil,or_false]at hz
     rcases hz with rfl | rfl | rfl | rfl | rfl | rfl | rfl <;> rfl) (by unfold maxLen;omega) (by omega) hsz2 ?_)
    intro v9 w9 hown9 hgrow9 _ _
    have hB9:Below (w.heap.size+3) W0 w9:=Below.trans hQ ((hq2.mono hsz).grown hgrow9 hsz2 (fun j hj=>(hown2.lt j hj).1))
    have hsz9:=Nat.le_trans hsz2 hgrow9.size
    clear hown2 T hgrow9 hq2 hsz2 t0 BTr l2 hown
    go_wp2
    go_roundw
    case rel=>exact⟨4,by omega,by go_num,hown9,hB9,hsz9⟩
    case measure=>simp[intOf]
  ·obtain rfl:k=4:=by omega
   obtain⟨g,cp,rfl⟩:=ziV hown (by decide)
   have hrow:=zcV.of_row zhn (l:=r0) hown
   have BRr:=BR.keep hQ (by omega)
   have BMr:=BM.keep hQ (by omega)
   have hwr:Q w wr:=Below.trans hq0 (hQ.mono (by omega))
   obtain⟨Wa,hWa⟩:∃ Wa,wr.alloc (.cells #[.slice (some ⟨g,0,none⟩) 4 cp] 104)=Wa:=⟨_,rfl⟩
   have hqa:Q wr Wa:=by rw[← hWa];exact(Below.refl _ wr).alloc (Nat.le_refl _) _
   have L:Blk Wa wr.heap.size [.slice (some ⟨g,0,none⟩) 4 cp] 104:=by rw[← hWa];exact Blk.new wr _ _
   replace BRr:=BRr.keep hqa BRr.lt
   replace BMr:=BMr.keep hqa BMr.lt
   replace hrow:=hrow.keep hqa
   have hwa:Q w Wa:=Q.trans hwr hqa
   have a0:=BRr.cell 0
   have f0:=BRr.frozen 0
   have a1:=BRr.cell 1
   have f1:=BRr.frozen 1
   have a2:=BRr.cell 2
   have f2:=BRr.frozen 2
   have a3:=BRr.cell 3
   have f3:=BRr.frozen 3
   have m0:=BMr.cell 0
   have g0:=BMr.frozen 0
   have m1:=BMr.cell 1
   have g1:=BMr.frozen 1
   have m2:=BMr.cell 2
   have g2:=BMr.frozen 2
   have m3:=BMr.cell 3
   have g3:=BMr.frozen 3
   have m4:=BMr.cell 4
   have g4:=BMr.frozen 4
   have m5:=BMr.cell 5
   have g5:=BMr.frozen 5
   have m6:=BMr.cell 6
   have g6:=BMr.frozen 6
   have m7:=BMr.cell 7
   have g7:=BMr.frozen 7
   have m8:=BMr.cell 8
   have g8:=BMr.frozen 8
   have m9:=BMr.cell 9
   have g9:=BMr.frozen 9
   have m10:=BMr.cell 10
   have g10:=BMr.frozen 10
   simp only[zs4,zs5]at a0 a1 a2 a3 m0 m1 m2 m3 m4 m5 m6 m7 m8 m9 m10
   have Rf:=(((((((((((((((BRr).set 0 (.slice (some ⟨wr.heap.size,0,none⟩) 1 1)).set 1 (.slice none 0 0)).set 2 (.slice none 0 0)).set 3 (.slice none 0 0)).setOther (b':=w.heap.size+1) (by omega) 0 (.int .i64 1)).setOther (b':=w.heap.size+1) (by omega) 1 (.int .i64 0)).setOther (b':=w.heap.size+1) (by omega) 2 (.int .i64 (-1))).setOther (b':=w.heap.size+1) (by omega) 3 (.string ⟨#[49,48]⟩)).setOther (b':=w.heap.size+1) (by omega) 4 (.string ⟨#[48]⟩)).setOther (b':=w.heap.size+1) (by omega) 5 (.string ⟨#[48]⟩)).setOther (b':=w.heap.size+1) (by omega) 6 (.string ⟨#[49,48]⟩)).setOther (b':=w.heap.size+1) (by omega) 7 (.string ⟨#[52,48]⟩)).setOther (b':=w.heap.size+1) (by omega) 8 (.string ⟨#[51,48]⟩)).setOther (b':=w.heap.size+1) (by omega) 9 (.int .i64 6)).setOther (b':=w.heap.size+1) (by omega) 10 (.int .i64 45)
   have Mf:=(((((((((((((((BMr).setOther (b':=w.heap.size) (by omega) 0 (.slice (some ⟨wr.heap.size,0,none⟩) 1 1)).setOther (b':=w.heap.size) (by omega) 1 (.slice none 0 0)).setOther (b':=w.heap.size) (by omega) 2 (.slice none 0 0)).setOther (b':=w.heap.size) (by omega) 3 (.slice none 0 0)).set 0 (.int .i64 1)).set 1 (.int .i64 0)).set 2 (.int .i64 (-1))).set 3 (.string ⟨#[49,48]⟩)).set 4 (.string ⟨#[48]⟩)).set 5 (.string ⟨#[48]⟩)).set 6 (.string ⟨#[49,48]⟩)).set 7 (.string ⟨#[52,48]⟩)).set 8 (.string ⟨#[51,48]⟩)).set 9 (.int .i64 6)).set 10 (.int .i64 45)
   have Lf:=(((((((((((((((L).setOther (b':=w.heap.size) (by omega) 0 (.slice (some ⟨wr.heap.size,0,none⟩) 1 1)).setOther (b':=w.heap.size) (by omega) 1 (.slice none 0 0)).setOther (b':=w.heap.size) (by omega) 2 (.slice none 0 0)).setOther (b':=w.heap.size) (by omega) 3 (.slice none 0 0)).setOther (b':=w.heap.size+1) (by omega) 0 (.int .i64 1)).setOther (b':=w.heap.size+1) (by omega) 1 (.int .i64 0)).setOther (b':=w.heap.size+1) (by omega) 2 (.int .i64 (-1))).setOther (b':=w.heap.size+1) (by omega) 3 (.string ⟨#[49,48]⟩)).setOther (b':=w.heap.size+1) (by omega) 4 (.string ⟨#[48]⟩)).setOther (b':=w.heap.size+1) (by omega) 5 (.string ⟨#[48]⟩)).setOther (b':=w.heap.size+1) (by omega) 6 (.string ⟨#[49,48]⟩)).setOther (b':=w.heap.size+1) (by omega) 7 (.string ⟨#[52,48]⟩)).setOther (b':=w.heap.size+1) (by omega) 8 (.string ⟨#[51,48]⟩)).setOther (b':=w.heap.size+1) (by omega) 9 (.int .i64 6)).setOther (b':=w.heap.size+1) (by omega) 10 (.int .i64 45)
   have hQe:=(((((((((((((((hwa).setCell (p:=⟨w.heap.size,0,none⟩) (Nat.le_refl _) (.slice (some ⟨wr.heap.size,0,none⟩) 1 1)).setCell (p:=⟨w.heap.size,1,none⟩) (Nat.le_refl _) (.slice none 0 0)).setCell (p:=⟨w.heap.size,2,none⟩) (Nat.le_refl _) (.slice none 0 0)).setCell (p:=⟨w.heap.size,3,none⟩) (Nat.le_refl _) (.slice none 0 0)).setCell (p:=⟨w.heap.size+1,0,none⟩) (Nat.le_succ _) (.int .i64 1)).setCell (p:=⟨w.heap.size+1,1,none⟩) (Nat.le_succ _) (.int .i64 0)).setCell (p:=⟨w.heap.size+1,2,none⟩) (Nat.le_succ _) (.int .i64 (-1))).setCell (p:=⟨w.heap.size+1,3,none⟩) (Nat.le_succ _) (.string ⟨#[49,48]⟩)).setCell (p:=⟨w.heap.size+1,4,none⟩) (Nat.le_succ _) (.string ⟨#[48]⟩)).setCell (p:=⟨w.heap.size+1,5,none⟩) (Nat.le_succ _) (.string ⟨#[48]⟩)).setCell (p:=⟨w.heap.size+1,6,none⟩) (Nat.le_succ _) (.string ⟨#[49,48]⟩)).setCell (p:=⟨w.heap.size+1,7,none⟩) (Nat.le_succ _) (.string ⟨#[52,48]⟩)).setCell (p:=⟨w.heap.size+1,8,none⟩) (Nat.le_succ _) (.string ⟨#[51,48]⟩)).setCell (p:=⟨w.heap.size+1,9,none⟩) (Nat.le_succ _) (.int .i64 6)).setCell (p:=⟨w.heap.size+1,10,none⟩) (Nat.le_succ _) (.int .i64 45)
   have hownA:=zl hown hqa
   have hownf:=zW (zW (zW (zW (zW (zW (zW (zW (zW (zW (zW (zW (zW (zW (zW (hownA) (g:=w.heap.size) (by omega) 0 (.slice (some ⟨wr.heap.size,0,none⟩) 1 1)) (g:=w.heap.size) (by omega) 1 (.slice none 0 0)) (g:=w.heap.size) (by omega) 2 (.slice none 0 0)) (g:=w.heap.size) (by omega) 3 (.slice none 0 0)) (g:=w.heap.size+1) (by omega) 0 (.int .i64 1)) (g:=w.heap.size+1) (by omega) 1 (.int .i64 0)) (g:=w.heap.size+1) (by omega) 2 (.int .i64 (-1))) (g:=w.heap.size+1) (by omega) 3 (.string ⟨#[49,48]⟩)) (g:=w.heap.size+1) (by omega) 4 (.string ⟨#[48]⟩)) (g:=w.heap.size+1) (by omega) 5 (.string ⟨#[48]⟩)) (g:=w.heap.size+1) (by omega) 6 (.string ⟨#[49,48]⟩)) (g:=w.heap.size+1) (by omega) 7 (.string ⟨#[52,48]⟩)) (g:=w.heap.size+1) (by omega) 8 (.string ⟨#[51,48]⟩)) (g:=w.heap.size+1) (by omega) 9 (.int .i64 6)) (g:=w.heap.size+1) (by omega) 10 (.int .i64 45)
   simp only[List.set_cons_zero,List.set_cons_succ]at Rf Mf
   have hrowf:=zcV.of_row zhn (l:=r0) hownf
   have hlf:=Lf.cell 0
   simp only[List.getElem?_cons_zero]at hlf
   have hlt:=Lf.lt
   have la:=BRr.lt
   have lb:=BMr.lt
   clear hrow L hownA hownf Lf hQ hwr BTr hown BT BR BM hq0 hwa
   repeat (first | go_values | go_skip | go_guarded | go_step | go_upon | go_in | (simp only[Int.not_lt,Int.not_le]at *;go_simp)|(go_values <;> (try go_simp))|(go_ite <;> go_prune <;> (try go_simp)))
   refine bodyPost_ret (zo1 Rf Mf rfl Tryz.f17 rfl _ rfl rfl) rfl ⟨⟨⟨some ⟨wr.heap.size,0,none⟩,1,1⟩,⟨none,0,0⟩,⟨none,0,0⟩,⟨none,0,0⟩⟩,rfl,⟨_,_,rfl,fun i hi=>?_⟩,hQe⟩
   simp only[List.length_cons,List.length_nil]at hi
   obtain rfl:i=0:=by omega
   exact⟨wr.heap.size,0,_,rfl,hlt,hlf,hrowf⟩
end
end Go.Proofs.YtdecodpgdainiaaGreatDoor
