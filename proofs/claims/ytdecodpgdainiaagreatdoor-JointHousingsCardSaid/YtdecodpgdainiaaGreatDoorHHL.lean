/-
  The law JointHousings: its walk.
-/
import Derived.Test.YtdecodpgdainiaaGreatDoorH22
import Derived.Test.YtdecodpgdainiaaGreatDoorHJO
import Derived.Laws.CopyRow
import Derived.Laws.CopyOwn
set_option maxRecDepth 100000
set_option maxHeartbeats 8000000
namespace Go.Proofs.YtdecodpgdainiaaGreatDoor
open Go.RowKit Go.Shelf Kp
open Go.Lib (decDigits)
attribute [local go_sem] Oper.semAt_some
def HoP(W:World)(T:List (Rat × Rat))(E:Int)(e:Ending)(w':World):Prop:=∃ v,e=.returned (.tuple #[v,.int .i64 E])∧Q W w'∧(E=0→∃ C,zbH T=some C∧zbc w' W.heap.size v (zeP C))
def Mb.back(m:Mb):Mb:=⟨m.kind,m.face,m.other,m.tx,m.ty,m.tz,m.fx,m.fy,m.fz,m.wid,m.dep⟩
theorem ztK{m:Mb}(h:MbOk m):MbOk m.back:=⟨h.k1,h.k2,h.f0,h.o0,h.w1,h.w2,h.d1,h.d2,h.ct,h.cf,fun⟨a,b,c⟩=>h.ne ⟨a.symm,b.symm,c.symm⟩⟩
theorem zpO{m:Mb}(h:m.short):m.back.short:=⟨h.tx,h.ty,h.tz,h.fx,h.fy,h.fz⟩
theorem zrj{m:Mb}(h:m.flat):m.back.flat:=⟨h.tx,h.ty,h.fx,h.fy⟩
theorem zom{m n:Mb}(hm:MbOk m)(hn:MbOk n)(sm:m.short)(sn:n.short)(fm:m.flat)(fn:n.flat){q:Int}(q0:0≤q)(q1:q≤255)(W:World)(hW:Env W) :
  Calls Tryz.prog 7 #[.agg (mbC m).toArray,.agg (mbC n).toArray,.int .i64 q] W (HoP W (hsT m.wid q (m.pt.sub m.pf) (n.pt.sub n.pf)) (hsE m.wid q (m.pt.sub m.pf) (n.pt.sub n.pf))):=by
 rw[ztr hm,ztr hn]
 exact zgY m.kind m.face m.other m.wid m.dep (zpT hm).1 (zpT hm).2 m.pf m.pt (hm.bf sm) (hm.bt sm) (by decide) (zjs (hm.bf sm) (by decide)) (zjs (hm.bt sm) (by decide)) (ztq hm)
  n.kind n.face n.other n.wid n.dep (zpT hn).1 (zpT hn).2 n.pf n.pt (hn.bf sn) (hn.bt sn) (by decide) (zjs (hn.bf sn) (by decide)) (zjs (hn.bt sn) (by decide)) (ztq hn)
  q q0 q1 (zh4 hm fm).1 (zh4 hn fn).1 W hW
theorem zpx{m n:Mb}(hm:MbOk m)(hn:MbOk n)(sm:m.short)(sn:n.short)(fm:m.flat)(fn:n.flat){q:Int}(q0:0≤q)(q1:q≤255)(W:World)(hW:Env W) :
  Calls Tryz.prog 7 #[.agg (mbC m.back).toArray,.agg (mbC n).toArray,.int .i64 q] W (HoP W (hsT m.wid q (m.pt.sub m.pf) (n.pt.sub n.pf)) (hsE m.wid q (m.pt.sub m.pf) (n.pt.sub n.pf))):=by
 have h:=zom (ztK hm) hn (zpO sm) sn (zrj fm) fn q0 q1 W hW
 rw[show m.back.pt.sub m.back.pf=m.pf.sub m.pt from rfl,show m.back.wid=m.wid from rfl,zok,zr1]at h
 exact h
theorem zol(W q:Int)(u v:P3):hsE W q u v=12∨hsE W q u v=4∨hsE W q u v=0:=by
 unfold hsE
 split
 ·exact .inl rfl
 ·split
  ·exact .inr (.inl rfl)
  ·exact .inr (.inr rfl)
theorem zhF{n:Nat}(k F O W D:Int)(hm:MOk k W D)(ho:FOk F O)(f t:P3)(hf:B3 n f)(ht:B3 n t)(hn:n≤300)(hlf:lg3 f=false)(hlt:lg3 t=true)(hne:f≠t)(l:List Value)(hl:l.length=11)(q:Int)(w:World)(hE:Env w) :
  CR 7 #[VN k F O W D f t,.agg l.toArray,.int .i64 q] w (.tuple #[.slice none 0 0,.int .i64 1]):=by
 have hc1:=fun w hw=>zds k F O W D hm ho f t hf ht hn hlf hne w hw
 rw[hlt,if_pos rfl]at hc1
 have HC1:=LH hc1
 clear hc1 hm ho hf ht hn hlf hlt hne
 obtain⟨y0,y1,y2,y3,y4,y5,y6,y7,y8,y9,y10,rfl⟩:∃ y0 y1 y2 y3 y4 y5 y6 y7 y8 y9 y10,l=[y0,y1,y2,y3,y4,y5,y6,y7,y8,y9,y10]:=by
  match l,hl with
  | [y0,y1,y2,y3,y4,y5,y6,y7,y8,y9,y10],_=>exact⟨y0,y1,y2,y3,y4,y5,y6,y7,y8,y9,y10,rfl⟩
 clear hl
 unfold VN at *
 generalize za f.x=X1 at *
 generalize za f.y=X2 at *
 generalize za f.z=X3 at *
 generalize za t.x=X4 at *
 generalize za t.y=X5 at *
 generalize za t.z=X6 at *
 obtain⟨W0,hW0⟩:∃ W0,(w.alloc (.cells #[.int .i64 k,.int .i64 F,.int .i64 O,.string ⟨X1.toArray⟩,.string ⟨X2.toArray⟩,.string ⟨X3.toArray⟩,.string ⟨X4.toArray⟩,.string ⟨X5.toArray⟩,.string ⟨X6.toArray⟩,.int .i64 W,.int .i64 D] 26)).alloc (.cells #[y0,y1,y2,y3,y4,y5,y6,y7,y8,y9,y10] 26)=W0:=⟨_,rfl⟩
 have hq0:Q w W0:=by rw[← hW0];exact bt
 have BM:Blk W0 w.heap.size [.int .i64 k,.int .i64 F,.int .i64 O,.string ⟨X1.toArray⟩,.string ⟨X2.toArray⟩,.string ⟨X3.toArray⟩,.string ⟨X4.toArray⟩,.string ⟨X5.toArray⟩,.string ⟨X6.toArray⟩,.int .i64 W,.int .i64 D] 26:=by rw[← hW0];exact(Blk.new w _ _).alloc _
 have hEw:=hE.ofQ hq0
 clear hE
 have hQ0:=Q.refl W0
 replace m0:=BM.cell
 replace lBM:=BM.lt
 go_enter Tryz.func7,Tryz.ntmps7
 go_wp2_with fail
 clear hW0
 refine cx (HC1.out _ hEw) fun G1 hq1=>?_
 have hQe:=Q.trans hq0 hq1
 go_wp2
 go_ret2
 exact⟨rfl,hQe⟩
def zoM(m:Mb)(v:P3):List Value:=[.int .i64 m.kind,.int .i64 m.face,.int .i64 m.other,.string ⟨m.fx.toArray⟩,.string ⟨m.fy.toArray⟩,.string ⟨m.fz.toArray⟩,.string ⟨(za (m.pf.x - v.y)).toArray⟩,.string ⟨(za (m.pf.y+v.x)).toArray⟩,.string ⟨m.tz.toArray⟩,.int .i64 m.wid,.int .i64 m.dep]
theorem zp3{m:Mb}(h:MbOk m)(v:P3):(.agg (zoM m v).toArray:Value)=VN m.kind m.face m.other m.wid m.dep m.pf (tuP m.pf v m.pt.z):=by
 obtain⟨e1,e2,e3⟩:=h.strf
 obtain⟨e4,e5,e6⟩:=h.strt
 unfold zoM VN
 rw[← e1,← e2,← e3,← e6]
 rfl
theorem zsv{m n:Mb}(hm:MbOk m)(hn:MbOk n)(sm:m.short)(fm:m.flat)(fn:n.flat):B3 40 (tuP m.pf (n.pt.sub n.pf) m.pt.z)∧B3 40 m.pf∧lg3 m.pf=false:=by
 have b:=hm.bf sm
 refine⟨zt0 (zrQ hm fm).1 (zh4 hn fn).1 (hm.bt sm).2.2,⟨b.1.mono (by decide),b.2.1.mono (by decide),b.2.2.mono (by decide)⟩,zjs b (by decide)⟩
theorem zp2{m n:Mb}(hm:MbOk m)(hn:MbOk n)(fm:m.flat)(fn:n.flat) :
  (∀ w,Env w→CR 11 #[.string ⟨n.tx.toArray⟩,.string ⟨n.fx.toArray⟩] w (.tuple #[.string ⟨(za (n.pt.sub n.pf).x).toArray⟩,.int .i64 0])) ∧
  (∀ w,Env w→CR 11 #[.string ⟨n.ty.toArray⟩,.string ⟨n.fy.toArray⟩] w (.tuple #[.string ⟨(za (n.pt.sub n.pf).y).toArray⟩,.int .i64 0])) ∧
  (∀ w,Env w→CR 11 #[.string ⟨m.fx.toArray⟩,.string ⟨(za (n.pt.sub n.pf).y).toArray⟩] w (.tuple #[.string ⟨(za (m.pf.x - (n.pt.sub n.pf).y)).toArray⟩,.int .i64 0])) ∧
  (∀ w,Env w→CR 12 #[.string ⟨m.fy.toArray⟩,.string ⟨(za (n.pt.sub n.pf).x).toArray⟩] w (.tuple #[.string ⟨(za (m.pf.y+(n.pt.sub n.pf).x)).toArray⟩,.int .i64 0])):=by
 obtain⟨e1,e2,-⟩:=hm.strf
 obtain⟨k1,k2,-⟩:=hn.strf
 obtain⟨k4,k5,-⟩:=hn.strt
 obtain⟨b1,b2⟩:=zrQ hm fm
 obtain⟨c1,c2⟩:=zrQ hn fn
 have d:=(zh4 hn fn).1
 refine⟨fun w hw=>?_,fun w hw=>?_,fun w hw=>?_,fun w hw=>?_⟩
 ·have h:=zao n.pt.x n.pf.x c2.1 c1.1 (by decide) w hw
  rw[k1,k4]at h
  exact h
 ·have h:=zao n.pt.y n.pf.y c2.2 c1.2 (by decide) w hw
  rw[k2,k5]at h
  exact h
 ·have h:=zao m.pf.x (n.pt.sub n.pf).y b1.1 d.2 (by decide) w hw
  rw[e1]at h
  exact h
 ·have h:=zdm m.pf.y (n.pt.sub n.pf).x b1.2 d.1 (by decide) w hw
  rw[e2]at h
  exact h
theorem zpv{m n:Mb}(hm:MbOk m)(hn:MbOk n)(sm:m.short)(sn:n.short)(fm:m.flat)(fn:n.flat){q:Int}(q0:0≤q)(q1:q≤255){u:P3}(hc:crF u (n.pt.sub n.pf)≠0)(hl:lg3 (tuP m.pf (n.pt.sub n.pf) m.pt.z)=false)(W:World)(hW:Env W) :
  Calls Tryz.prog 7 #[.agg (zoM m (n.pt.sub n.pf)).toArray,.agg (mbC n).toArray,.int .i64 q] W fun e w'=>∃ v o,e=.returned (.tuple #[v,.int .i64 o])∧Q W w'∧(o=4∨o=0∧zbc w' W.heap.size v [((m.wid:Rat),1)]):=by
 obtain⟨b1,b2,b3⟩:=zsv hm hn sm fm fn
 have hv:=zpX hc
 rw[zp3 hm,ztr hn]
 have ht:=zsV m.pf (n.pt.sub n.pf) m.pt.z
 refine(zgY m.kind m.face m.other m.wid m.dep (zpT hm).1 (zpT hm).2 m.pf (tuP m.pf (n.pt.sub n.pf) m.pt.z) b2 b1 (by decide) b3 hl (zp4 hv)
  n.kind n.face n.other n.wid n.dep (zpT hn).1 (zpT hn).2 n.pf n.pt (hn.bf sn) (hn.bt sn) (by decide) (zjs (hn.bf sn) (by decide)) (zjs (hn.bt sn) (by decide)) (ztq hn)
  q q0 q1 (by rw[ht];exact zt1 (zh4 hn fn).1 _) (zh4 hn fn).1 W hW).mono ?_
 rintro e w'⟨v,rfl,hq,h⟩
 rw[ht]at h ⊢
 refine⟨v,_,rfl,hq,?_⟩
 have hcr:=zsk (m.pt.z - m.pf.z) hc
 rcases zol m.wid q (tuF (n.pt.sub n.pf) (m.pt.z - m.pf.z)) (n.pt.sub n.pf)with h1 | h1 | h1
 ·exfalso
  unfold hsE at h1
  rw[if_neg hcr]at h1
  split at h1
  ·exact absurd h1 (by decide)
  ·exact absurd h1 (by decide)
 ·exact .inl h1
 ·obtain⟨C,h2,h3⟩:=h h1
  rw[zp1 hm.w1 hv h2]at h3
  exact .inr ⟨h1,h3⟩
theorem zj7{m n:Mb}(hm:MbOk m)(hn:MbOk n)(sm:m.short)(fm:m.flat)(fn:n.flat){u:P3}(hc:crF u (n.pt.sub n.pf)≠0)(hl:lg3 (tuP m.pf (n.pt.sub n.pf) m.pt.z)=true) :
  (∀ (q:Int) W,Env W→CR 7 #[.agg (zoM m (n.pt.sub n.pf)).toArray,.agg (mbC n).toArray,.int .i64 q] W (.tuple #[.slice none 0 0,.int .i64 1])) ∧
  ∀ W,Env W→CR 5 #[.agg (zoM m (n.pt.sub n.pf)).toArray] W (.int .i64 4):=by
 obtain⟨b1,b2,b3⟩:=zsv hm hn sm fm fn
 have hv:=zpX hc
 rw[zp3 hm]
 refine⟨fun q W hW=>zhF m.kind m.face m.other m.wid m.dep (zpT hm).1 (zpT hm).2 m.pf _ b2 b1 (by decide) b3 hl (zp4 hv) (mbC n) rfl q W hW,fun W hW=>?_⟩
 have h:=zds m.kind m.face m.other m.wid m.dep (zpT hm).1 (zpT hm).2 m.pf (tuP m.pf (n.pt.sub n.pf) m.pt.z) b2 b1 (by decide) b3 (zp4 hv) W hW
 rw[hl,if_pos rfl]at h
 exact h
theorem zpW{W:Int}(h1:1≤W)(h2:W≤1000)(b cap:Nat)(t:TypeId)(w:World)(hE:Env w)(hb:Blk w b [.string ⟨(za (W:Rat)).toArray⟩,.string ⟨#[49]⟩] t) :
  Calls Tryz.prog 8 #[.slice (some ⟨b,0,none⟩) 1 cap] w fun e w'=>∃ v',e=.returned (.tuple #[v',.int .i64 0])∧Q w w'∧zbc w' w.heap.size v' [((W:Rat),1)]:=by
 have htw:∀ t∈[((W:Rat),(1:Rat))],TW t:=fun t ht=>by
  rw[List.mem_singleton]at ht
  subst ht
  exact⟨(zjz (n:=4) (by omega) (by decide)).zak (by decide),zfL.zak (by decide),(show (0:Int)≤(1:Rat).num by decide)⟩
 refine(zeU [((W:Rat),1)] htw (by simp) (fun cs h=>Nat.le_trans (ziK _ rfl htw h).2 (by simp)) _ w hE ?_).mono ?_
 ·refine⟨_,cap,rfl,Nat.le_refl _,fun i hi=>⟨b,0,rfl,hb.lt,?_⟩⟩
  obtain rfl:i=0:=by simp at hi;omega
  have e:ofT ((W:Rat),1)=(za (W:Rat),[49]):=by unfold ofT;rw[zdC]
  rw[List.map_cons,List.map_nil,e]
  exact⟨hb.cell 0,hb.cell 1⟩
 ·rintro e w' ⟨hq,-,h⟩
  obtain⟨v',rfl,h3⟩:=h _ (zpV h1 h2)
  exact⟨v',rfl,hq,h3⟩
theorem ztD{V:Value}(h:zl4 V):∃ k h:Int,V=.tuple #[.int .i64 k,.int .i64 h]∧(h=4∨h=0∧0≤k):=by
 rcases h with rfl | rfl | rfl
 ·exact⟨0,4,rfl,.inl rfl⟩
 ·exact⟨0,0,rfl,.inr ⟨rfl,by decide⟩⟩
 ·exact⟨1,0,rfl,.inr ⟨rfl,by decide⟩⟩
theorem zrh{V:Value}(h:V=.tuple #[.int .i64 0,.int .i64 4]∨V=.tuple #[.int .i64 0,.int .i64 0]):∃ h:Int,V=.tuple #[.int .i64 0,.int .i64 h]∧(h=4∨h=0):=by
 rcases h with rfl | rfl
 ·exact⟨4,rfl,.inl rfl⟩
 ·exact⟨0,rfl,.inr rfl⟩
theorem zd0{P:Program}{ops:Array Oper}{rest:List Oper}{op:Oper}{a:Act}{w:World}{R:Exit→Act→World→Prop}(hgd:op.guard=none)(ty:TypeId)(x y:Operand)(ho:op.op=.store ty x y)(b o:Nat){t:TypeId}{cs:List Value}(hb:Blk w b cs t)
  (cs' cs2:List Value)(hx:a.eval x=.pointer (some ⟨b,o,none⟩))(hy:a.eval y=.agg cs'.toArray)(hl:o+cs'.length≤cs.length)(he:cs.take o++cs'++cs.drop (o+cs'.length)=cs2)(hi:(P.info? ty).map (·.size)=some cs'.length)(h1:∀ v∈cs',v.oneCell'=true)
  (h:wpList P ops R rest (a.put op.dst undef) (w.setRow b cs2.toArray)):wpList P ops R (op::rest) a w:=by
 have hs:(storeVar ty ⟨b,o,none⟩ (.agg cs'.toArray)).run P w=.ok () (w.setRow b cs2.toArray):=by
  have h2:=run_storeCells_at (P:=P) b o t cs' 0 cs.toArray w hb (by simp;omega) h1
  rw[show (cs.toArray.toList.take (o+0)++cs'++cs.toArray.toList.drop (o+0+cs'.length))=cs2 by simpa using he]at h2
  cases hq:P.info? ty with
  | none=>simp[hq]at hi
  | some i =>
   have hz:cs'.length=i.size:=by simp[hq]at hi;omega
   simp[storeVar,sizeOf,typeInfo,hq,Value.cells,hz,h2]
 refine wpList_plain hgd fun K hK=>?_
 unfold Oper.wp execOp
 simp only[ho,hx,hy,Instr.storeAt,Instr.sureAddr,Sem.run_bind,Sem.run_pure,Result.andThen_ok,hs]
 exact hK _ _ h
theorem zuJ{h j:Int}(hh:h=4∨h=0)(hj:j=4∨j=0)(w:World):(Builtin.max_ #[29,29,29] 29 #[.int .i64 0,.int .i64 h,.int .i64 j]).run Tryz.prog w=.ok (.int .i64 (if h=4 then 4 else j)) w:=by
 rcases hh with rfl | rfl <;> rcases hj with rfl | rfl <;> kernel_rfl
def eight(m n:Mb):List Str:=[m.fx,m.fy,m.tx,m.ty,n.fx,n.fy,n.tx,n.ty]
theorem zpD{m n:Mb}(h:∀ j,j<8→((eight m n).getD j []).length≤12):m.flat∧n.flat:=⟨⟨h 0 (by decide),h 1 (by decide),h 2 (by decide),h 3 (by decide)⟩,⟨h 4 (by decide),h 5 (by decide),h 6 (by decide),h 7 (by decide)⟩⟩
theorem zpE(m n:Mb)(k:Nat)(hk:k<8):((eight m n).map fun s=>(.string ⟨s.toArray⟩:Value))[k]? = some (.string ⟨((eight m n).getD k []).toArray⟩):=by
 rw[List.getElem?_map,List.getD_eq_getElem?_getD,List.getElem?_eq_getElem (show k<(eight m n).length from hk)]
 rfl
theorem zmT(m n:Mb)(q:Int)(q0:0≤q)(q1:q≤255)(w:World)(hE:Env w) :
  CR 3 #[.agg (mbC m).toArray,.agg (mbC n).toArray,.int .u8 q] w (.bool true):=by
 have HAw:=LH (fun w hw=>ztN w hw)
 obtain⟨W0,hW0⟩:∃ W0,(w.alloc (.cells (mbC m).toArray 26)).alloc (.cells (mbC n).toArray 26)=W0:=⟨_,rfl⟩
 have hq0:Q w W0:=by rw[← hW0];exact bt
 have BM:Blk W0 w.heap.size (mbC m) 26:=by rw[← hW0];exact(Blk.new w _ _).alloc _
 have BN:Blk W0 (w.heap.size+1) (mbC n) 26:=by rw[← hW0];exact Blk.new1 w _ _ _
 have hEw:=hE.ofQ hq0
 obtain⟨W1,hW1⟩:∃ W1,W0.alloc (.cells (mbC m++mbC n).toArray 26)=W1:=⟨_,rfl⟩
 have hq1:Q W0 W1:=by rw[← hW1];exact bt
 have BL:Blk W1 W0.heap.size (mbC m++mbC n) 26:=by rw[← hW1];exact Blk.new W0 _ _
 have HG:=LH (zqr m n W0.heap.size 2 26 W1 BL)
 have hE1:=hEw.ofQ hq1
 clear hE hEw BL
 have hE:=hE1
 clear hE1
 have BM1:=BM.keep hq1 BM.lt
 have BN1:=BN.keep hq1 BN.lt
 have hw1:=Q.trans hq0 hq1
 cases hg:(grM m || grM n)
 case true =>
  rw[hg]at HG
  clear hg BM1 BN1
  unfold mbC at *
  obtain⟨ki,fa,ot,fx,fy,fz,tx,ty,tz,wi,de⟩:=m
  obtain⟨ki2,fa2,ot2,gx,gy,gz,ux,uy,uz,wi2,de2⟩:=n
  simp only[List.cons_append,List.nil_append]at *
  have hQ0:=Q.refl W0
  replace m0:=BM.cell
  replace lBM:=BM.lt
  replace n0:=BN.cell
  replace lBN:=BN.lt
  go_enter Tryz.func3,Tryz.ntmps3
  go_wp2_with fail
  clear hW0 hW1
  refine HG.out.mono ?_
  rintro e V1⟨rfl,hv1⟩
  go_wp2_with fail
  refine cx (HAw.out _ (hE.ofQ hv1)) fun V2 hv2=>?_
  have hQe:=Q.trans hw1 (Q.trans hv1 hv2)
  go_wp2
  go_ret
  exact⟨rfl,hQe⟩
 case false =>
  rw[hg]at HG
  rw[Bool.or_eq_false_iff]at hg
  have sm:=zmU hg.1
  have sn:=zmU hg.2
  have HH1:=LH (fun w hw=>zex m sm w hw)
  have HH2:=LH (fun w hw=>zex n sn w hw)
  by_cases hk1:zpU m=0
  rotate_left
  ·have hkd:¬ zpU m=0:=hk1
   generalize zpU m=E1 at *
   clear hg sm sn hk1 HH2
   unfold mbC at *
   obtain⟨ki,fa,ot,fx,fy,fz,tx,ty,tz,wi,de⟩:=m
   obtain⟨ki2,fa2,ot2,gx,gy,gz,ux,uy,uz,wi2,de2⟩:=n
   simp only[List.cons_append,List.nil_append]at *
   have hQ0:=Q.refl W0
   replace m0:=BM.cell
   replace lBM:=BM.lt
   replace n0:=BN.cell
   replace lBN:=BN.lt
   go_enter Tryz.func3,Tryz.ntmps3
   go_wp2_with fail
   clear hW0 hW1
   refine HG.out.mono ?_
   rintro e V1⟨rfl,hv1⟩
   clear BM lBM m0
   clear BN lBN n0
   replace BM1:=BM1.keep hv1 BM1.lt
   have hEv:=hE.ofQ hv1
   have hQ0:=Q.refl V1
   replace k0:=BM1.cell
   replace lBM1:=BM1.lt
   go_wp2_with fail
   refine cx (HH1.out _ hEv) fun V2 hv2=>?_
   go_wp2_with fail
   refine cx (HAw.out _ (hEv.ofQ hv2)) fun V3 hv3=>?_
   have hQe:=Q.trans hw1 (Q.trans hv1 (Q.trans hv2 hv3))
   go_wp2
   go_ret
   exact⟨rfl,hQe⟩
  by_cases hk2:zpU n=0
  rotate_left
  ·rw[hk1]at HH1
   generalize zpU n=E2 at *
   clear hg sm sn hk1
   unfold mbC at *
   obtain⟨ki,fa,ot,fx,fy,fz,tx,ty,tz,wi,de⟩:=m
   obtain⟨ki2,fa2,ot2,gx,gy,gz,ux,uy,uz,wi2,de2⟩:=n
   simp only[List.cons_append,List.nil_append]at *
   have hQ0:=Q.refl W0
   replace m0:=BM.cell
   replace lBM:=BM.lt
   replace n0:=BN.cell
   replace lBN:=BN.lt
   go_enter Tryz.func3,Tryz.ntmps3
   go_wp2_with fail
   clear hW0 hW1
   refine HG.out.mono ?_
   rintro e V1⟨rfl,hv1⟩
   clear BM lBM m0
   clear BN lBN n0
   replace BM1:=BM1.keep hv1 BM1.lt
   replace BN1:=BN1.keep hv1 BN1.lt
   have hEv:=hE.ofQ hv1
   have hQ0:=Q.refl V1
   replace k0:=BM1.cell
   replace lBM1:=BM1.lt
   go_wp2_with fail
   refine cx (HH1.out _ hEv) fun V2 hv2=>?_
   clear BM1 lBM1 k0
   replace BN1:=BN1.keep hv2 BN1.lt
   have hQ0:=Q.refl V2
   replace k0:=BN1.cell
   replace lBN1:=BN1.lt
   go_wp2_with fail
   refine cx (HH2.out _ (hEv.ofQ hv2)) fun V3 hv3=>?_
   go_wp2_with fail
   refine cx (HAw.out _ (hEv.ofQ (Q.trans hv2 hv3))) fun V4 hv4=>?_
   have hQe:=Q.trans hw1 (Q.trans hv1 (Q.trans hv2 (Q.trans hv3 hv4)))
   go_wp2
   go_ret
   exact⟨rfl,hQe⟩
  rw[hk1]at HH1
  rw[hk2]at HH2
  have okm:=znO hk1
  have okn:=znO hk2
  have HO1:=LH (fun fm fn W hW=>zom okm okn sm sn fm fn q0 q1 W hW)
  have HO2:=LH (fun fm fn W hW=>zpx okm okn sm sn fm fn q0 q1 W hW)
  have HTN:=LH (fun fm fn=>zp2 okm okn fm fn)
  have HTH:=LH (fun fm fn u hc hl W hW=>zpv (u:=u) okm okn sm sn fm fn q0 q1 hc hl W hW)
  have HTB:=LH (fun fm fn u hc hl=>zj7 (u:=u) okm okn sm fm fn hc hl)
  have HFL:=LH (fun h=>zpD (m:=m) (n:=n) h)
  have HCE:=LH (fun k hk=>zpE m n k hk)
  have B8:=fun V=>Blk.new V ((eight m n).map fun s=>(.string ⟨s.toArray⟩:Value)) 22
  have H8:Hid (eight m n=[m.fx,m.fy,m.tx,m.ty,n.fx,n.fy,n.tx,n.ty]):=LH rfl
  clear hg hk1 hk2
  unfold mbC at *
  have emf:m.pf=m.pf:=rfl
  obtain⟨ki,hki⟩:∃ x,x=m.kind:=⟨_,rfl⟩
  obtain⟨fa,hfa⟩:∃ x,x=m.face:=⟨_,rfl⟩
  obtain⟨ot,hot⟩:∃ x,x=m.other:=⟨_,rfl⟩
  obtain⟨fx,hfx⟩:∃ x,x=m.fx:=⟨_,rfl⟩
  obtain⟨fy,hfy⟩:∃ x,x=m.fy:=⟨_,rfl⟩
  obtain⟨fz,hfz⟩:∃ x,x=m.fz:=⟨_,rfl⟩
  obtain⟨tx,htx⟩:∃ x,x=m.tx:=⟨_,rfl⟩
  obtain⟨ty,hty⟩:∃ x,x=m.ty:=⟨_,rfl⟩
  obtain⟨tz,htz⟩:∃ x,x=m.tz:=⟨_,rfl⟩
  obtain⟨wi,hwi⟩:∃ x,x=m.wid:=⟨_,rfl⟩
  obtain⟨de,hde⟩:∃ x,x=m.dep:=⟨_,rfl⟩
  obtain⟨ki2,hki2⟩:∃ x,x=n.kind:=⟨_,rfl⟩
  obtain⟨fa2,hfa2⟩:∃ x,x=n.face:=⟨_,rfl⟩
  obtain⟨ot2,hot2⟩:∃ x,x=n.other:=⟨_,rfl⟩
  obtain⟨gx,hgx⟩:∃ x,x=n.fx:=⟨_,rfl⟩
  obtain⟨gy,hgy⟩:∃ x,x=n.fy:=⟨_,rfl⟩
  obtain⟨gz,hgz⟩:∃ x,x=n.fz:=⟨_,rfl⟩
  obtain⟨ux,hux⟩:∃ x,x=n.tx:=⟨_,rfl⟩
  obtain⟨uy,huy⟩:∃ x,x=n.ty:=⟨_,rfl⟩
  obtain⟨uz,huz⟩:∃ x,x=n.tz:=⟨_,rfl⟩
  obtain⟨wi2,hwi2⟩:∃ x,x=n.wid:=⟨_,rfl⟩
  obtain⟨de2,hde2⟩:∃ x,x=n.dep:=⟨_,rfl⟩
  have HWI:=LH hwi
  simp only[Mb.back]at HO2
  simp only[List.cons_append,List.nil_append]at hW1
  rw[← hki,← hfa,← hot,← hfx,← hfy,← hfz,← htx,← hty,← htz,← hwi,← hde]at BM BM1 HH1
  rw[← hki2,← hfa2,← hot2,← hgx,← hgy,← hgz,← hux,← huy,← huz,← hwi2,← hde2]at BN BN1 HH2
  rw[← hfx,← hfy,← htx,← hty,← hgx,← hgy,← hux,← huy]at H8
  rw[← hki,← hfa,← hot,← hfx,← hfy,← hfz,← htx,← hty,← htz,← hwi,← hde,← hki2,← hfa2,← hot2,← hgx,← hgy,← hgz,← hux,← huy,← huz,← hwi2,← hde2]at hW0 hW1 ⊢
  rw[← hki,← hfa,← hot,← hfx,← hfy,← hfz,← htx,← hty,← htz,← hwi,← hde,← hki2,← hfa2,← hot2,← hgx,← hgy,← hgz,← hux,← huy,← huz,← hwi2,← hde2]at HO1 HO2
  simp only[zoM,← hki,← hfa,← hot,← hfx,← hfy,← hfz,← htz,← hwi,← hde,← hki2,← hfa2,← hot2,← hgx,← hgy,← hgz,← hux,← huy,← huz,← hwi2,← hde2]at HTN HTH HTB
  clear hki hfa hot hfx hfy hfz htx hty htz hwi hde hki2 hfa2 hot2 hgx hgy hgz hux huy huz hwi2 hde2 emf
  have hQ0:=Q.refl W0
  replace m0:=BM.cell
  replace lBM:=BM.lt
  replace n0:=BN.cell
  replace lBN:=BN.lt
  go_enter Tryz.func3,Tryz.ntmps3
  go_wp2_with fail
  clear hW0 hW1
  refine HG.out.mono ?_
  rintro e V1⟨rfl,hv1⟩
  clear BM lBM m0
  clear BN lBN n0
  replace BM1:=BM1.keep hv1 BM1.lt
  replace BN1:=BN1.keep hv1 BN1.lt
  have hEv:=hE.ofQ hv1
  have hQ0:=Q.refl V1
  replace k0:=BM1.cell
  replace lBM1:=BM1.lt
  replace l0:=BN1.cell
  replace lBN1:=BN1.lt
  go_wp2_with fail
  refine cx (HH1.out _ hEv) fun V2 hv2=>?_
  replace BM1:=BM1.keep hv2 BM1.lt
  replace BN1:=BN1.keep hv2 BN1.lt
  have hQ0:=Q.refl V2
  replace k0:=BM1.cell
  replace lBM1:=BM1.lt
  replace l0:=BN1.cell
  replace lBN1:=BN1.lt
  go_wp2_with fail
  refine cx (HH2.out _ (hEv.ofQ hv2)) fun V3 hv3=>?_
  replace BM1:=BM1.keep hv3 BM1.lt
  replace BN1:=BN1.keep hv3 BN1.lt
  have hw3:=Q.trans hw1 (Q.trans hv1 (Q.trans hv2 hv3))
  have hE3:=hEv.ofQ (Q.trans hv2 hv3)
  clear HH1 HH2 HG hEv hE hv1 hv2 hv3
  have hE:=hE3
  clear hE3
  have hQ0:=Q.refl V3
  replace k0:=BM1.cell
  replace lBM1:=BM1.lt
  replace l0:=BN1.cell
  replace lBN1:=BN1.lt
  have C8:Hid (Blk (V3.alloc (.cells #[.string ⟨fx.toArray⟩,.string ⟨fy.toArray⟩,.string ⟨tx.toArray⟩,.string ⟨ty.toArray⟩,.string ⟨gx.toArray⟩,.string ⟨gy.toArray⟩,.string ⟨ux.toArray⟩,.string ⟨uy.toArray⟩] 22)) V3.heap.size ((eight m n).map fun s=>(.string ⟨s.toArray⟩:Value)) 22):=LH (by
   have h:=B8 V3
   rw[H8.out]at h ⊢
   exact h)
  clear B8
  go_wp2
  have hqA:Q V3 (V3.alloc (.cells #[.string ⟨fx.toArray⟩,.string ⟨fy.toArray⟩,.string ⟨tx.toArray⟩,.string ⟨ty.toArray⟩,.string ⟨gx.toArray⟩,.string ⟨gy.toArray⟩,.string ⟨ux.toArray⟩,.string ⟨uy.toArray⟩] 22)):=bt
  go_loopw [70] (fun i wr=>∃ k:Nat,k≤8∧i=.int .i64 k∧Q (V3.alloc (.cells #[.string ⟨fx.toArray⟩,.string ⟨fy.toArray⟩,.string ⟨tx.toArray⟩,.string ⟨ty.toArray⟩,.string ⟨gx.toArray⟩,.string ⟨gy.toArray⟩,.string ⟨ux.toArray⟩,.string ⟨uy.toArray⟩] 22)) wr∧Hid (∀ j,j<k→((eight m n).getD j []).length≤12)) (fun i _=>8 - (intOf i).toNat)
  case atStart=>exact⟨0,by omega,rfl,Q.refl _,LH (fun j h=>absurd h (by omega))⟩
  case round =>
   obtain⟨k,hk,rfl,hQ,HNO⟩:=hrel
   by_cases hlt:k<8
   ·have hc:=HCE.out k hlt
    have hc8:=(C8.out.keep hQ C8.out.lt).cell k
    rw[hc]at hc8
    have lc8:=(C8.out.keep hQ C8.out.lt).lt
    have HN2:Hid (((eight m n).getD k []).length≤12→∀ j,j<k+1→((eight m n).getD j []).length≤12):=LH (fun h j hj=>by
     rcases Nat.lt_or_ge j k with h1 | h1
     ·exact HNO.out j h1
     ·obtain rfl:j=k:=by omega
      exact h)
    have HK:Hid (k+1≤8):=LH hlt
    clear hc HNO HCE C8
    generalize (eight m n).getD k []=SK at *
    by_cases h12:SK.length≤12
    ·have HX:=LH (HN2.out h12)
     clear HN2
     go_wp2
     go_roundw
     case rel=>exact⟨k+1,HK.out,by go_num,hQ,HX⟩
     case measure=>simp[intOf];omega
    ·clear HN2
     have hw4:=Q.trans hw3 (Q.trans hqA hQ)
     go_wp2_with fail
     refine cx (HAw.out _ (hE.ofQ (Q.trans hqA hQ))) fun V4 hv4=>?_
     have hQe:=Q.trans hw4 hv4
     go_wp2
     go_ret
     exact⟨rfl,hQe⟩
   ·obtain rfl:k=8:=by omega
    obtain⟨fm,fn⟩:=HFL.out (fun j hj=>HNO.out j hj)
    have HA1:=LH (HO1.out fm fn)
    have HA2:=LH (HO2.out fm fn)
    have HT:=LH (HTN.out fm fn)
    have HTh:=LH (HTH.out fm fn)
    have HTb:=LH (HTB.out fm fn)
    have fu:=zh4 okm fm
    have fv:=zh4 okn fn
    have hw4:=Q.trans hw3 (Q.trans hqA hQ)
    have hE4:=hE.ofQ (Q.trans hqA hQ)
    have hq4:=Q.trans hqA hQ
    clear HO1 HO2 HTN HTH HTB HNO HFL HCE C8 H8 fm fn hqA hQ hE
    have hE:=hE4
    clear hE4
    replace BM1:=BM1.keep hq4 BM1.lt
    replace BN1:=BN1.keep hq4 BN1.lt
    have hQ0:=Q.refl wr
    replace k0:=BM1.cell
    replace lBM1:=BM1.lt
    replace l0:=BN1.cell
    replace lBN1:=BN1.lt
    go_wp2_with fail
    refine(HA1.out _ hE).mono ?_
    rintro e U1⟨va,rfl,hu1,ha⟩
    replace BM1:=BM1.keep hu1 BM1.lt
    replace BN1:=BN1.keep hu1 BN1.lt
    have HVA:=LH ha
    clear ha HA1
    have HCR:Hid (hsE wi q (m.pt.sub m.pf) (n.pt.sub n.pf)=0→crF (m.pt.sub m.pf) (n.pt.sub n.pf)≠0):=LH (fun h e=>by
     unfold hsE at h
     rw[if_pos e]at h
     exact absurd h (by decide))
    have hev:=zol wi q (m.pt.sub m.pf) (n.pt.sub n.pf)
    generalize hsE wi q (m.pt.sub m.pf) (n.pt.sub n.pf)=E at *
    have hQ0:=Q.refl U1
    replace k0:=BM1.cell
    replace lBM1:=BM1.lt
    replace l0:=BN1.cell
    replace lBN1:=BN1.lt
    go_wp2_with fail
    go_region
    have BB:Blk (U1.alloc (.cells #[.int .i64 ki,.int .i64 fa,.int .i64 ot,.string ⟨tx.toArray⟩,.string ⟨ty.toArray⟩,.string ⟨tz.toArray⟩,.string ⟨fx.toArray⟩,.string ⟨fy.toArray⟩,.string ⟨fz.toArray⟩,.int .i64 wi,.int .i64 de] 26)).drew U1.heap.size [.int .i64 ki,.int .i64 fa,.int .i64 ot,.string ⟨tx.toArray⟩,.string ⟨ty.toArray⟩,.string ⟨tz.toArray⟩,.string ⟨fx.toArray⟩,.string ⟨fy.toArray⟩,.string ⟨fz.toArray⟩,.int .i64 wi,.int .i64 de] 26:=(Blk.new U1 [.int .i64 ki,.int .i64 fa,.int .i64 ot,.string ⟨tx.toArray⟩,.string ⟨ty.toArray⟩,.string ⟨tz.toArray⟩,.string ⟨fx.toArray⟩,.string ⟨fy.toArray⟩,.string ⟨fz.toArray⟩,.int .i64 wi,.int .i64 de] 26).drew
    have hqb:Q U1 (U1.alloc (.cells #[.int .i64 ki,.int .i64 fa,.int .i64 ot,.string ⟨tx.toArray⟩,.string ⟨ty.toArray⟩,.string ⟨tz.toArray⟩,.string ⟨fx.toArray⟩,.string ⟨fy.toArray⟩,.string ⟨fz.toArray⟩,.int .i64 wi,.int .i64 de] 26)).drew:=bt
    obtain⟨U2,hU2⟩:∃ U2,(U1.alloc (.cells #[.int .i64 ki,.int .i64 fa,.int .i64 ot,.string ⟨tx.toArray⟩,.string ⟨ty.toArray⟩,.string ⟨tz.toArray⟩,.string ⟨fx.toArray⟩,.string ⟨fy.toArray⟩,.string ⟨fz.toArray⟩,.int .i64 wi,.int .i64 de] 26)).drew=U2:=⟨_,rfl⟩
    rw[hU2]at BB hqb ⊢
    clear hU2
    replace BM1:=BM1.keep hqb BM1.lt
    replace BN1:=BN1.keep hqb BN1.lt
    have hu2:=Q.trans hu1 hqb
    have hE2:=hE.ofQ hu2
    have hQ0:=Q.refl U2
    replace k0:=BM1.cell
    replace lBM1:=BM1.lt
    replace l0:=BN1.cell
    replace lBN1:=BN1.lt
    replace b0:=BB.cell
    replace lBB:=BB.lt
    go_wp2_with fail
    refine(HA2.out _ hE2).mono ?_
    rintro e U3⟨vb,rfl,hu3,hb⟩
    clear BB lBB b0
    have HVB:=LH hb
    have hw5:=Q.trans hw4 (Q.trans hu2 hu3)
    have hE5:=hE2.ofQ hu3
    clear hb HA2
    rcases hev with rfl | rfl | rfl
    ·clear HVA HVB
     go_wp2_with fail
     refine cx (HAw.out _ hE5) fun U4 hu4=>?_
     have hQe:=Q.trans hw5 hu4
     go_wp2
     go_ret
     exact⟨rfl,hQe⟩
    ·clear HVA HVB
     go_wp2_with fail
     refine cx (HAw.out _ hE5) fun U4 hu4=>?_
     have hQe:=Q.trans hw5 hu4
     go_wp2
     go_ret
     exact⟨rfl,hQe⟩
    ·obtain⟨C,hC,sa⟩:=HVA.out rfl
     obtain⟨C2,hC2,sb⟩:=HVB.out rfl
     rw[hC]at hC2
     obtain rfl:=Option.some.inj hC2
     have w1:1≤wi:=by rw[HWI.out];exact okm.w1
     have w2:wi≤1000:=by rw[HWI.out];exact okm.w2
     obtain⟨ha,hs⟩:=house w1 q0 (HCR.out rfl) hC
     have sl:=ha.slist hs
     have swl:=(zm9 w1).slist (zkl w1 w2)
     have hW0:(0:Rat)<(wi:Rat):=Rat.intCast_pos.2 (by omega)
     have hln:=ha.up.2.2
     have HMK:=LH (fun b cap t w hE hb=>zpW w1 w2 b cap t w hE hb)
     have HNU:=LH (fun w hE=>zpp wi (by omega) w hE)
     have HCW:=LH (fun B1 B2 v1 v2 w hE h1 h2=>zcW (zeP C) [((wi:Rat),1)] sl swl (by simp;omega) (ha.cmpW hW0).1 B1 B2 v1 v2 w hE hE.places h1 h2)
     have HCA:=LH (fun B1 B2 v1 v2 w hE h1 h2=>zcW (zeP C) (zeP C) sl sl (by omega) ha.cmpA.1 B1 B2 v1 v2 w hE hE.places h1 h2)
     have HCC:=LH (fun B1 B2 v1 v2 w hE h1 h2=>zcW [((wi:Rat),1)] [((wi:Rat),1)] swl swl (by simp) (zm9 w1).cmpA.1 B1 B2 v1 v2 w hE hE.places h1 h2)
     obtain⟨kw,hw,ekw,hkw⟩:=ztD (ha.cmpW hW0).2
     obtain⟨ha4,eka,hka⟩:=zrh ha.cmpA.2
     obtain⟨hc4,ekc,hkc⟩:=zrh (zm9 w1).cmpA.2
     rw[ekw]at HCW
     rw[eka]at HCA
     rw[ekc]at HCC
     have HSA:=LH (sa.keep (Q.trans hqb hu3))
     have HSB:=LH sb
     have HKW:=LH hkw
     have HKA:=LH hka
     have HKC:=LH hkc
     have hC0:=HCR.out rfl
     clear HVA HVB HCR hC sa sb w1 w2 ha hs sl swl hW0 hln ekw eka ekc hkw hka hkc hu1 hqb
     replace BM1:=BM1.keep hu3 BM1.lt
     replace BN1:=BN1.keep hu3 BN1.lt
     generalize za (wi:Rat)=WS at *
     obtain⟨g1,g2,g3,g4⟩:=HT.out
     have HT1:=LH g1
     have HT2:=LH g2
     have HT3:=LH g3
     have HT4:=LH g4
     have HTh1:=LH (HTh.out _ hC0)
     have HTb1:=LH (HTb.out _ hC0)
     clear HT HTh HTb hC0 g1 g2 g3 g4 fu fv hE hE2
     have hE:=hE5
     clear hE5
     generalize lg3 (tuP m.pf (n.pt.sub n.pf) m.pt.z)=LB at *
     generalize za (m.pf.x - (n.pt.sub n.pf).y)=XT at *
     generalize za (m.pf.y+(n.pt.sub n.pf).x)=YT at *
     generalize za (n.pt.sub n.pf).x=VX at *
     generalize za (n.pt.sub n.pf).y=VY at *
     clear HWI okm okn sm sn
     have hsa:=HSA.out
     have hsb:=HSB.out
     clear HSA HSB
     have hQ0:=Q.refl U3
     replace k0:=BM1.cell
     replace lBM1:=BM1.lt
     replace l0:=BN1.cell
     replace lBN1:=BN1.lt
     go_wp2_with fail
     refine cx (HNU.out _ (hE.ofQ bt)) fun S1 hq1=>?_
     have hs1:Q U3 S1:=Q.trans bt hq1
     have hQ1:Q U3 S1:=Q.trans hQ0 hs1
     replace hsa:=zbc.keep hsa hs1
     replace hsb:=zbc.keep hsb hs1
     replace BM1:=BM1.keep hs1 BM1.lt
     replace k0:=BM1.cell
     replace lBM1:=BM1.lt
     replace BN1:=BN1.keep hs1 BN1.lt
     replace l0:=BN1.cell
     replace lBN1:=BN1.lt
     have BW:=Blk.new S1 [.string ⟨WS.toArray⟩,.string ⟨#[49]⟩] 40
     go_wp2_with fail
     refine(HMK.out _ _ _ _ (hE.ofQ (Q.trans hQ1 bt)) BW).mono ?_
     rintro e S2⟨vw,rfl,hq2,hvw⟩
     have hs2:Q S1 S2:=Q.trans bt hq2
     have hQ2:Q U3 S2:=Q.trans hQ1 hs2
     replace hsa:=zbc.keep hsa hs2
     replace hsb:=zbc.keep hsb hs2
     replace BM1:=BM1.keep hs2 BM1.lt
     replace k0:=BM1.cell
     replace lBM1:=BM1.lt
     replace BN1:=BN1.keep hs2 BN1.lt
     replace l0:=BN1.cell
     replace lBN1:=BN1.lt
     clear HMK HNU BW
     go_wp2_with fail
     refine cx (HCW.out _ _ _ _ _ (hE.ofQ bt) hsa hvw) fun S3 hq3=>?_
     have hs3:Q S2 S3:=Q.trans bt hq3
     have hQ3:Q U3 S3:=Q.trans hQ2 hs3
     replace hsa:=zbc.keep hsa hs3
     replace hsb:=zbc.keep hsb hs3
     replace hvw:=zbc.keep hvw hs3
     replace BM1:=BM1.keep hs3 BM1.lt
     replace k0:=BM1.cell
     replace lBM1:=BM1.lt
     replace BN1:=BN1.keep hs3 BN1.lt
     replace l0:=BN1.cell
     replace lBN1:=BN1.lt
     go_wp2_with fail
     refine cx (HCA.out _ _ _ _ _ (hE.ofQ bt) hsa hsb) fun S4 hq4=>?_
     have hs4:Q S3 S4:=Q.trans bt hq4
     have hQ4:Q U3 S4:=Q.trans hQ3 hs4
     replace hsa:=zbc.keep hsa hs4
     replace hsb:=zbc.keep hsb hs4
     replace hvw:=zbc.keep hvw hs4
     replace BM1:=BM1.keep hs4 BM1.lt
     replace k0:=BM1.cell
     replace lBM1:=BM1.lt
     replace BN1:=BN1.keep hs4 BN1.lt
     replace l0:=BN1.cell
     replace lBN1:=BN1.lt
     clear hsa
     clear hsb
     clear HCW HCA
     have hwS:=Q.trans hw5 hQ4
     have hES:=hE.ofQ hQ4
     by_cases hbad:hw=4∨ha4=4
     ·have hmx:∀ w,(Builtin.max_ #[29,29,29] 29 #[.int .i64 0,.int .i64 hw,.int .i64 ha4]).run Tryz.prog w=.ok (.int .i64 4) w:=fun w=>by
       have h:=zuJ (show hw=4∨hw=0 by rcases HKW.out with h | h;exact .inl h;exact .inr h.1) HKA.out w
       rw[show (if hw=4 then 4 else ha4)=4 by
        split
        ·rfl
        ·rcases hbad with h | h
         ·contradiction
         ·exact h]at h
       exact h
      clear HKW HKA HKC hbad HCC HT1 HT2 HT3 HT4 HTh1 HTb1 hvw
      clear BM1 lBM1 k0
      clear BN1 lBN1 l0
      go_wp2_with fail
      refine cx (HAw.out _ hES) fun S5 hs5=>?_
      have hQe:=Q.trans hwS hs5
      go_wp2
      go_ret
      exact⟨rfl,hQe⟩
     ·obtain⟨rfl,hk0⟩:hw=0∧0≤kw:=by
       rcases HKW.out with h | h
       ·exact absurd (.inl h) hbad
       ·exact h
      obtain rfl:ha4=0:=by
       rcases HKA.out with h | h
       ·exact absurd (.inr h) hbad
       ·exact h
      have hmx:∀ w,(Builtin.max_ #[29,29,29] 29 #[.int .i64 0,.int .i64 0,.int .i64 0]).run Tryz.prog w=.ok (.int .i64 0) w:=fun w=>zuJ (.inr rfl) (.inr rfl) w
      have hmax4:=zrR
      have hneg:¬ kw<0:=by omega
      clear HKW HKA hbad hk0 hE
      have hE:=hES
      clear hES
      have hvw0:=hvw
      have BN0:=BN1
      have BM0:=BM1
      have hQ0:=Q.refl S4
      replace k0:=BM1.cell
      replace lBM1:=BM1.lt
      replace l0:=BN1.cell
      replace lBN1:=BN1.lt
      have BT0:=Blk.new S4 [.int .i64 ki,.int .i64 fa,.int .i64 ot,.string ⟨fx.toArray⟩,.string ⟨fy.toArray⟩,.string ⟨fz.toArray⟩,.string ⟨tx.toArray⟩,.string ⟨ty.toArray⟩,.string ⟨tz.toArray⟩,.int .i64 wi,.int .i64 de] 26
      go_wp2_with fail
      refine cx (HT1.out _ (hE.ofQ bt)) fun R1 hq1=>?_
      have hs1:Q S4 R1:=Q.trans bt hq1
      have hQ1:Q S4 R1:=Q.trans hQ0 hs1
      replace BM1:=BM1.keep hs1 BM1.lt
      replace k0:=BM1.cell
      replace lBM1:=BM1.lt
      replace BN1:=BN1.keep hs1 BN1.lt
      replace l0:=BN1.cell
      replace lBN1:=BN1.lt
      have BT:=BT0.keep hq1 BT0.lt
      clear BT0 HT1 hmx hneg
      replace lBT:=BT.lt
      go_wp2_with fail
      refine cx (HT2.out _ (hE.ofQ bt)) fun R2 hq2=>?_
      have hs2:Q R1 R2:=Q.trans bt hq2
      have hQ2:Q S4 R2:=Q.trans hQ1 hs2
      replace BM1:=BM1.keep hs2 BM1.lt
      replace k0:=BM1.cell
      replace lBM1:=BM1.lt
      replace BN1:=BN1.keep hs2 BN1.lt
      replace l0:=BN1.cell
      replace lBN1:=BN1.lt
      replace BT:=BT.keep hs2 BT.lt
      replace lBT:=BT.lt
      go_wp2_with fail
      refine cx (HT3.out _ (hE.ofQ bt)) fun R3 hq3=>?_
      have hs3:Q R2 R3:=Q.trans bt hq3
      have hQ3:Q S4 R3:=Q.trans hQ2 hs3
      replace BM1:=BM1.keep hs3 BM1.lt
      replace k0:=BM1.cell
      replace lBM1:=BM1.lt
      replace BN1:=BN1.keep hs3 BN1.lt
      replace l0:=BN1.cell
      replace lBN1:=BN1.lt
      replace BT:=BT.keep hs3 BT.lt
      replace lBT:=BT.lt
      go_wp2_with fail
      refine cx (HT4.out _ (hE.ofQ bt)) fun R4 hq4=>?_
      have hs4:Q R3 R4:=Q.trans bt hq4
      have hQ4:Q S4 R4:=Q.trans hQ3 hs4
      replace BM1:=BM1.keep hs4 BM1.lt
      replace k0:=BM1.cell
      replace lBM1:=BM1.lt
      replace BN1:=BN1.keep hs4 BN1.lt
      replace l0:=BN1.cell
      replace lBN1:=BN1.lt
      replace BT:=BT.keep hs4 BT.lt
      replace lBT:=BT.lt
      clear HT2 HT3 HT4
      obtain⟨X,hX⟩:∃ X,R4.setRow S4.heap.size ([.int .i64 ki,.int .i64 fa,.int .i64 ot,.string ⟨fx.toArray⟩,.string ⟨fy.toArray⟩,.string ⟨fz.toArray⟩,.string ⟨XT.toArray⟩,.string ⟨YT.toArray⟩,.string ⟨tz.toArray⟩,.int .i64 wi,.int .i64 de]:List Value).toArray=X:=⟨_,rfl⟩
      have BX:Blk X S4.heap.size [.int .i64 ki,.int .i64 fa,.int .i64 ot,.string ⟨fx.toArray⟩,.string ⟨fy.toArray⟩,.string ⟨fz.toArray⟩,.string ⟨XT.toArray⟩,.string ⟨YT.toArray⟩,.string ⟨tz.toArray⟩,.int .i64 wi,.int .i64 de] 26:=by rw[← hX];exact setRow_heap _ _ _ _ _ _ BT
      have hqX:Q S4 X:=by rw[← hX];exact below_setRow hQ4 (Nat.le_refl _) _
      have BNX:=BN0.keep hqX BN0.lt
      have hvX:=zbc.keep hvw0 hqX
      have hEX:=hE.ofQ hqX
      have hwX:=Q.trans hwS hqX
      have BTY:=BT
      have kz:=BM1.cell 8
      simp only[zs4,zs5]at kz
      clear BM1 lBM1 k0
      clear BN1 lBN1 l0
      clear BT lBT
      clear hvw hvw0 BN0 BM0 hwS hqX hQ4 hs4 hq4
      cases LB with
      | true =>
       obtain⟨h1,h2⟩:=HTb1.out rfl
       have HB1:=LH h1
       have HB2:=LH h2
       clear HTb1 HTh1 h1 h2 hvX HCC HKC
       have hQ0:=Q.refl X
       replace t0:=BX.cell
       replace lBX:=BX.lt
       replace l0:=BNX.cell
       replace lBNX:=BNX.lt
       go_wp2_with (refine zd0 rfl 24 _ _ rfl S4.heap.size 6 BTY [.string ⟨XT.toArray⟩,.string ⟨YT.toArray⟩,.string ⟨tz.toArray⟩] [.int .i64 ki,.int .i64 fa,.int .i64 ot,.string ⟨fx.toArray⟩,.string ⟨fy.toArray⟩,.string ⟨fz.toArray⟩,.string ⟨XT.toArray⟩,.string ⟨YT.toArray⟩,.string ⟨tz.toArray⟩,.int .i64 wi,.int .i64 de] rfl rfl (by simp) rfl (by kernel_rfl) (by simp[Value.oneCell']) ?_;rw[hX])
       refine cx (HB1.out _ _ hEX) fun Z1 hz1=>?_
       replace BX:=BX.keep hz1 BX.lt
       clear BTY kz hX BNX HB1
       have hEZ:=hEX.ofQ hz1
       have hwZ:=Q.trans hwX hz1
       have hQ0:=Q.refl Z1
       replace t0:=BX.cell
       replace lBX:=BX.lt
       go_wp2_with fail
       refine cx (HB2.out _ hEZ) fun Y1 hy1=>?_
       go_wp2_with fail
       refine cx (HAw.out _ (hEZ.ofQ hy1)) fun Y2 hy2=>?_
       have hQe:=Q.trans hwZ (Q.trans hy1 hy2)
       go_wp2
       go_ret
       exact⟨rfl,hQe⟩
      | false =>
       have HB1:=LH (HTh1.out rfl)
       clear HTb1 HTh1
       have hQ0:=Q.refl X
       replace t0:=BX.cell
       replace lBX:=BX.lt
       replace l0:=BNX.cell
       replace lBNX:=BNX.lt
       go_wp2_with (refine zd0 rfl 24 _ _ rfl S4.heap.size 6 BTY [.string ⟨XT.toArray⟩,.string ⟨YT.toArray⟩,.string ⟨tz.toArray⟩] [.int .i64 ki,.int .i64 fa,.int .i64 ot,.string ⟨fx.toArray⟩,.string ⟨fy.toArray⟩,.string ⟨fz.toArray⟩,.string ⟨XT.toArray⟩,.string ⟨YT.toArray⟩,.string ⟨tz.toArray⟩,.int .i64 wi,.int .i64 de] rfl rfl (by simp) rfl (by kernel_rfl) (by simp[Value.oneCell']) ?_;rw[hX])
       refine(HB1.out _ hEX).mono ?_
       rintro e Z1⟨vt,o,rfl,hz1,ho⟩
       have hvZ:=zbc.keep hvX hz1
       clear BTY kz hX BNX HB1 hvX
       have hEZ:=hEX.ofQ hz1
       have hwZ:=Q.trans hwX hz1
       rcases ho with rfl | ⟨rfl,hvt⟩
       ·clear HCC HKC hvZ
        go_wp2_with fail
        refine cx (HAw.out _ hEZ) fun Y2 hy2=>?_
        have hQe:=Q.trans hwZ hy2
        go_wp2
        go_ret
        exact⟨rfl,hQe⟩
       ·go_wp2_with fail
        refine cx (HCC.out _ _ _ _ _ hEZ hvt hvZ) fun Y1 hy1=>?_
        clear hvt hvZ HCC
        rcases HKC.out with rfl | rfl
        ·go_wp2_with fail
         refine cx (HAw.out _ (hEZ.ofQ hy1)) fun Y2 hy2=>?_
         have hQe:=Q.trans hwZ (Q.trans hy1 hy2)
         go_wp2
         go_ret
         exact⟨rfl,hQe⟩
        ·go_wp2_with fail
         refine cx (HAw.out _ (hEZ.ofQ hy1)) fun Y2 hy2=>?_
         have hQe:=Q.trans hwZ (Q.trans hy1 hy2)
         go_wp2
         go_ret
         exact⟨rfl,hQe⟩
end Go.Proofs.YtdecodpgdainiaaGreatDoor
