/-
  Walks: surd.visit and surd.Make at one term of small numbers.; Walks: timber.stretched, Square, Plumb at small numbers.; Walks: ref04.Same at two lists of one term; timber.Check and Print.; Walks: timber.Print.; Frm Opn Wit, one behind the other.
-/
import Derived.Test.YtdecodpgdainiaaGreatDoorH04
import Derived.Lib.SmallJoins
import Derived.Test.YtdecodpgdainiaaGreatDoorH00
import Derived.Test.YtdecodpgdainiaaGreatDoorH01
import Derived.Lib.MinMax
import Derived.Test.YtdecodpgdainiaaGreatDoorCards
import Derived.Test.YtdecodpgdainiaaGreatDoorTie
import Derived.ProofKit
import Derived.OpenShut
import Derived.SizedLaws
import Derived.Deep.DeepHandedRow
import Derived.Deep.DeepWitnessRowRef
import Derived.Deep.Slices
import Derived.Deep.Fields
import Derived.ChangeSame
import Derived.Carry
import Derived.Shelf.Vars
set_option maxRecDepth 100000
set_option maxHeartbeats 2000000
namespace Go.Proofs.YtdecodpgdainiaaGreatDoor
section
open Go.RowKit Kp
theorem zhO(ad:Option Addr)(cap:Nat)(f:Value)(w:World) :
  Calls Tryz.prog 108 #[.slice ad 1 cap,.int .i64 0,.int .i64 1,f] w fun e w'=>(∃ v,e=.returned v)∧w=w':=by
 go_enter Tryz.func108,Tryz.ntmps108
 go_wp2
 go_loop [8] (fun i=>i=.int .i64 1) (fun _=>0)
 case atStart=>rfl
 case round =>
  subst hrel
  go_wp2
  go_end0
  exact⟨⟨_,rfl⟩,rfl⟩
theorem znz(ad:Option Addr)(cap:Nat)(k:Int)(f:Value)(w:World) :
  Calls Tryz.prog 70 #[.slice ad 1 cap,.int .i64 0,.int .i64 1,.int .i64 k,f] w fun e w'=>(∃ v,e=.returned v)∧w=w':=by
 go_enter Tryz.func70,Tryz.ntmps70
 go_wp2
 go_loop [1,2,3] (fun x y _=>x=.int .i64 0∧y=.int .i64 1) (fun _ _ _=>0)
 case atStart=>exact⟨rfl,rfl⟩
 case round =>
  obtain⟨rfl,rfl⟩:=hrel
  go_wp2_with fail
  refine(zhO ad cap f _).mono ?_
  rintro e w1⟨⟨v,rfl⟩,rfl⟩
  go_wp2
  (try simp only[Exit.inBlock,Exit.then])
  refine bodyPost_ret (results_none rfl _ _ _) rfl ?_
  exact⟨⟨_,rfl⟩,rfl⟩
theorem zhW(ad:Option Addr)(cap:Nat)(f:Value)(w:World) :
  Calls Tryz.prog 33 #[.slice ad 1 cap,f] w fun e w'=>(∃ v,e=.returned v)∧w=w':=by
 go_enter Tryz.func33,Tryz.ntmps33
 go_wp2_with fail
 refine(Tryz.bits_Len _ _ (by omega) (by omega)).mono ?_
 rintro e w1⟨rfl,rfl⟩
 go_wp2_with fail
 refine(znz ad cap _ f _).mono ?_
 rintro e w1⟨⟨v,rfl⟩,rfl⟩
 go_wp2
 go_end0
 exact⟨⟨_,rfl⟩,rfl⟩
theorem zbf(n:Nat):za (n:Rat)=Lib.itoa (n:Int):=by
 unfold za;rw[if_pos (Rat.den_natCast n),Rat.num_natCast]
theorem zav:za 0=[48]:=by
 have:=zbf 0;rw[show ((0:Nat):Rat)=0 from rfl]at this;rw[this];exact zP
theorem zdC:za 1=[49]:=by
 have:=zbf 1;rw[show ((1:Nat):Rat)=1 from rfl]at this;rw[this];exact zac
theorem zjU(c r a:Rat)(left:Nat)(hc:zy c)(hr:zy r)(hp:0<r.num)(hc0:c≠0)(hr1:r≠1)(ha:Rat.divInt (zaJ (r.num.toNat*r.den)).1 r.den=a)(hl:(zaJ (r.num.toNat*r.den)).2=left)
  (ha8:zy a)(hl8:zy (left:Rat))(_hca:zy (c*a))(b G:Nat)(t:TypeId)(w:World)(hE:Env w)(hb:Blk w b [.string ⟨(za c).toArray⟩,.string ⟨(za r).toArray⟩] t)(_hbG:b<G)(hG:Blk w G [.slice none 0 0] 75) :
  Calls Tryz.prog 30 #[.slice (some ⟨b,0,none⟩) 1 1,.func (.func 31) #[.pointer (some ⟨G,0,none⟩)] #[]] w fun e w'=>e=.returned (.int .i64 0)∧Below G w w' ∧
   ∃ v,Blk w' G [v] 75∧w'.ownsRow (G+1) 79 2 v 1 [.string ⟨(za (c*a)).toArray⟩,.string ⟨(za (left:Rat)).toArray⟩]:=by
 have lb:=hb.lt
 have lG:=hG.lt
 have hcz:(za c == [48])=false:=by
  rw[beq_eq_false_iff_ne,← zav];exact fun h=>hc0 (zaR h)
 have hrz:(za r == [48])=false:=by
  rw[beq_eq_false_iff_ne,← zav];exact fun h=>by have:=zaR h;subst this;simp at hp
 have hro:(za r == [49])=false:=by
  rw[beq_eq_false_iff_ne,← zdC];exact fun h=>hr1 (zaR h)
 have hN:=zht r hr hp
 rw[ha,hl,← zbf]at hN
 have HN:=LH hN
 clear ha hl hN
 have hV:=zf7 hl8
 have hV0:=zae (left:Rat)
 go_enter Tryz.func30,Tryz.ntmps30
 go_wp2
 go_loopw [13] (fun i wr=>(i=.int .i64 0∧Q w wr)∨(i=.int .i64 1∧Below G w wr∧∃ v,Blk wr G [v] 75∧wr.ownsRow (G+1) 79 2 v 1 [.string ⟨(za (c*a)).toArray⟩,.string ⟨(za (left:Rat)).toArray⟩])) (fun i _=>1 - (intOf i).toNat)
 case atStart=>exact .inl ⟨rfl,Below.refl _ _⟩
 case round =>
  rcases hrel with⟨rfl,hQ⟩|⟨rfl,hB,v,hv,hown⟩
  ·have hB:=hb.keep hQ lb
   have hGr:=hG.keep hQ lG
   have c0:=hB.cell
   have f0:=hB.frozen 0
   have l1:=hB.lt
   go_wp2_with fail
   have BT:=Blk.new wr [.string ⟨(za c).toArray⟩,.string ⟨(za r).toArray⟩] 40
   have t1:=BT.cell 1
   simp only[zs4,zs5]at t1
   have hq0:Q w (wr.alloc (Obj.cells [.string ⟨(za c).toArray⟩,.string ⟨(za r).toArray⟩].toArray 40)):=hQ.alloc hQ.size _
   go_quiet (fail)
   go_wp2_with fail
   have hqn:=Below.drewN hq0 nq
   refine cx (HN.out _ (hE.q hqn)) fun w1 hq1=>?_
   have hQ1:=hqn.trans (hq1.mono hqn.size)
   have B1:=(BT.drewN nq).keep hq1 (by simp)
   clear hq1 hqn hq0 BT t1 c0 f0
   go_wp2_with fail
   refine cx (zeT (left:Rat) hl8 _ (hE.q hQ1)) fun w2 hq2=>?_
   have hQ2:=hQ1.trans (hq2.mono hQ1.size)
   have B2:=B1.keep hq2 B1.lt
   have d2:=B2.cell 0
   simp only[List.getElem?_cons_zero]at d2
   clear hq2 hQ1 B1
   have hV1:zaL (left:Rat)≤90:=by omega
   go_wp2_with fail
   refine cx (zdE c a hc ha8 _ (hE.q hQ2)) fun w3 hq3=>?_
   have hQ3:=hQ2.trans (hq3.mono hQ2.size)
   clear hq3 hQ2 B2 d2
   go_wp2_with fail
   have hG3:=hG.keep hQ3 lG
   refine(zdL G _ _ _ hG3).mono ?_
   rintro e w4⟨rfl,hB4,v,hv,hown⟩
   have hB5:Below G w w4:=(hQ3.mono (Nat.le_of_lt lG)).trans hB4
   go_wp2
   go_roundw
   case rel=>exact .inr ⟨rfl,hB5,v,hv,hown⟩
   case measure=>simp[intOf]
  ·go_wp2
   go_ret
   exact⟨rfl,hB,v,hv,hown⟩
theorem zkW(c r a:Rat)(left:Nat)(hc:zy c)(hr:zy r)(hp:0<r.num)(hc0:c≠0)(hr1:r≠1)(ha:Rat.divInt (zaJ (r.num.toNat*r.den)).1 r.den=a)(hl:(zaJ (r.num.toNat*r.den)).2=left)
  (ha8:zy a)(hl8:zy (left:Rat))(hca:zy (c*a))(hca0:c*a≠0)(b:Nat)(t:TypeId)(w:World)(hE:Env w)(hb:Blk w b [.string ⟨(za c).toArray⟩,.string ⟨(za r).toArray⟩] t) :
  Calls Tryz.prog 8 #[.slice (some ⟨b,0,none⟩) 1 1] w fun e w'=>∃ v,e=.returned (.tuple #[v,.int .i64 0])∧Q w w' ∧
   w'.ownsRow w.heap.size 40 2 v 1 [.string ⟨(za (c*a)).toArray⟩,.string ⟨(za (left:Rat)).toArray⟩]:=by
 have l0:=hb.lt
 obtain⟨i0,hi,hz0,hz1,hz2⟩:=zb8 zew
 have HI:=LH hi
 have HZ:=LH hz0
 have HS:=LH hz1
 have HB:=LH hz2
 clear hi hz0 hz1 hz2
 go_enter Tryz.func8,Tryz.ntmps8
 go_wp2
 go_loopw [18] (fun i wr=>∃ k:Nat,k≤1∧i=.int .i64 k∧Q w wr) (fun i _=>1 - (intOf i).toNat)
 case atStart=>exact⟨0,by omega,rfl,Below.refl _ _⟩
 case round =>
  obtain⟨k,hk,rfl,hQ⟩:=hrel
  rcases(show k=0∨k=1 by omega)with rfl | rfl
  ·have hB:=hb.keep hQ l0
   have c0:=hB.cell
   have f0:=hB.frozen 0
   have l1:=hB.lt
   have hneg:decide ((za r).head? = some 45)=false:=by rw[decide_eq_false_iff_not,zdh];omega
   have HN:=LH hneg
   clear hneg
   go_wp2_with fail
   have hq0:Q w (wr.alloc (Obj.cells [.string ⟨(za c).toArray⟩,.string ⟨(za r).toArray⟩].toArray 40)):=hQ.alloc hQ.size _
   have BT:=Blk.new wr [.string ⟨(za c).toArray⟩,.string ⟨(za r).toArray⟩] 40
   refine cx (zbX c hc _ (hE.q hq0)) fun w1 hq1=>?_
   have hQ1:=hq0.trans (hq1.mono hq0.size)
   have B1:=BT.keep hq1 (by simp)
   have d1:=B1.cell 1
   simp only[zs4,zs5]at d1
   clear hq1 hq0 BT c0 f0
   go_wp2_with fail
   refine cx (zbX r hr _ (hE.q hQ1)) fun w2 hq2=>?_
   have hQ2:=hQ1.trans (hq2.mono hQ1.size)
   have B2:=B1.keep hq2 B1.lt
   have d2:=B2.cell 1
   simp only[zs4,zs5]at d2
   clear hq2 hQ1 B1 d1
   go_wp2_with fail
   refine(zU _ _).mono ?_
   rintro e w3⟨rfl,rfl⟩
   rw[HN.out]
   go_wp2
   go_roundw
   case rel=>exact⟨1,by omega,by go_num,hQ2⟩
   case measure=>simp[intOf]
  ·go_wp2_with fail
   have hBb:=(hb.keep hQ l0).alloc (Obj.cells #[Value.slice none 0 0] 75)
   have hG:=Blk.new wr [Value.slice none 0 0] 75
   refine(zjU c r a left hc hr hp hc0 hr1 ha hl ha8 hl8 hca b wr.heap.size t _ (hE.q (hQ.alloc hQ.size _)) hBb (by have:=hQ.size;omega) hG).mono ?_
   rintro e w1⟨rfl,hB1,v,hv,hown⟩
   obtain⟨g,cap,rfl,hg1,hg2⟩:=hown.form (by omega)
   have hQ1:Q w w1:=(hQ.alloc hQ.size _).trans (hB1.mono hQ.size)
   have g0:=hv.cell 0
   simp only[List.getElem?_cons_zero]at g0
   have e0:=hown.cellAt 0 (by omega)
   have e1:=hown.cellAt 1 (by omega)
   have ef:=hown.frozenAt 0
   have ef1:=hown.frozenAt 1
   simp only[zs4,zs5]at e0 e1
   have hcaz:(za (c*a) == [48])=false:=by
    rw[beq_eq_false_iff_ne,← zav];exact fun h=>hca0 (zaR h)
   have hV:=zf7 hl8
   have hV0:=zae (left:Rat)
   have hU:=zf7 hca
   have hU0:=zae (c*a)
   go_wp2_with fail
   go_loopw [10,47] (fun o i wr2=>(o=.slice none 0 0∧i=.int .i64 0∧wr2=w1)∨(i=.int .i64 1∧Q w wr2∧wr2.ownsRow w.heap.size 40 2 o 1 [.string ⟨(za (c*a)).toArray⟩,.string ⟨(za (left:Rat)).toArray⟩])) (fun _ i _=>1 - (intOf i).toNat)
   case atStart=>exact .inl ⟨rfl,rfl,rfl⟩
   case round =>
    rcases hrel with⟨rfl,rfl,rfl⟩|⟨rfl,hQ2,hout⟩
    ·go_wp2_with fail
     have BT:=Blk.new wr [.string ⟨(za (c*a)).toArray⟩,.string ⟨(za (left:Rat)).toArray⟩] 79
     have hq0:=hQ1.alloc hQ1.size (Obj.cells [.string ⟨(za (c*a)).toArray⟩,.string ⟨(za (left:Rat)).toArray⟩].toArray 79)
     refine cx (zeT (c*a) hca _ (hE.q hq0)) fun w2 hq2=>?_
     have hQ2:=hq0.trans (hq2.mono hq0.size)
     have B2:=BT.keep hq2 BT.lt
     have d1:=B2.cell 1
     simp only[zs4,zs5]at d1
     clear hq0 hq2 BT e0 e1 ef ef1 g0 hown hv hg1 hg2
     go_wp2_with fail
     refine cx (zeT (left:Rat) hl8 _ (hE.q hQ2)) fun w3 hq3=>?_
     have hQ3:=hQ2.trans (hq3.mono hQ2.size)
     have B3:=B2.keep hq3 B2.lt
     have d0:=B3.cell 0
     have d2:=B3.cell 1
     simp only[zs4,zs5]at d0 d2
     clear hQ2 hq3 B2 d1
     have hnew:=Blk.new w3 [.string ⟨(za (c*a)).toArray⟩,.string ⟨(za (left:Rat)).toArray⟩] 40
     have hsz3:w.heap.size≤w3.heap.size:=hQ3.size
     go_wp2_with (at_builtin;refine wpList_append_lies _ (by rfl) (.tmp 64) (.tmp 70) 34 (by rfl) w.heap.size 40 i0 _ 2 32 Tryz.underlying34 HI.out HZ.out HS.out HB.out rfl (by decide) (.slice none 0 0) 0 [] (by rfl) (World.ownsRow_nil _ _ _ _) ⟨w3.heap.size,0,none⟩ 1 1 [.string ⟨(za (c*a)).toArray⟩,.string ⟨(za (left:Rat)).toArray⟩] (by rfl) (by rfl) (World.news_of_block (cs:=#[.string ⟨(za (c*a)).toArray⟩,.string ⟨(za (left:Rat)).toArray⟩]) (t:=40) (fr:=(0,0)) hnew) (by simp[Value.oneCell']) (by decide) (by decide) (by decide) (by simp;omega) (w3.heap.size+1) (by simp) ?_;intro g4 cap4 w4 hown4 hgrow4 hat4 hlt4)
     go_roundw
     case rel =>
      exact .inr ⟨rfl,(hQ3.alloc hQ3.size _).grown hgrow4 (by simp;omega) (by simp[Value.ownBlock]),hown4⟩
     case measure=>simp[intOf]
    ·obtain⟨g',cap',rfl,hg1',hg2'⟩:=hout.form (by omega)
     go_wp2_with fail
     refine(zhW _ _ _ _).mono ?_
     rintro e w2⟨⟨u,rfl⟩,rfl⟩
     go_wp2
     go_ret2
     exact⟨_,rfl,hQ2,hout⟩
end
section
open Go.RowKit Kp
theorem zmx:zaJ 400=(20,1):=by
 simp[zaJ,zK,zJ,zbd,zm]
theorem zgv{q:Rat}{n:Int}{d:Nat}(hn:q.num=n)(hd:q.den=d)(h:n.natAbs<100000000∧d<100000000):zy q:=by
 unfold zy;rw[hn,hd];exact h
theorem zuy:zy (25/16):=zgv (n:=25) (d:=16) (by kernel_rfl) (by kernel_rfl) (by decide)
theorem s54:zy (5/4):=zgv (n:=5) (d:=4) (by kernel_rfl) (by kernel_rfl) (by decide)
theorem s1:zy ((1:Nat):Rat):=zgv (n:=1) (d:=1) (by kernel_rfl) (by kernel_rfl) (by decide)
theorem zqF{q r:Rat}(a b:Int)(ha:q.num=a)(hb:r.num=b)(h:a≠b):q≠r:=by
 intro e;rw[e,hb]at ha;exact h ha.symm
theorem ztn{q:Rat}(a:Int)(ha:q.num=a)(h:0<a):0<q.num:=by rw[ha];exact h
theorem zuf:(25/16:Rat).num.toNat*(25/16:Rat).den=400:=by kernel_rfl
theorem d25:(16/25:Rat).den=25:=by kernel_rfl
theorem d16:(25/16:Rat).den=16:=by kernel_rfl
theorem v54:Rat.divInt ((20:Nat):Int) ((16:Nat):Int)=5/4:=by kernel_rfl
theorem v1:((1:Nat):Rat)=1:=by kernel_rfl
end
section
open Go.RowKit Kp
theorem zj0(g h c1 c2:Nat)(s1 s2:Str)(w:World)(a0:w.cell? ⟨g,0,none⟩=some (.string ⟨s1.toArray⟩))(a1:w.cell? ⟨g,1,none⟩=some (.string ⟨s2.toArray⟩))
  (b0:w.cell? ⟨h,0,none⟩=some (.string ⟨s1.toArray⟩))(b1:w.cell? ⟨h,1,none⟩=some (.string ⟨s2.toArray⟩)) :
  Calls Tryz.prog 21 #[.slice (some ⟨g,0,none⟩) 1 c1,.slice (some ⟨h,0,none⟩) 1 c2] w fun e w'=>e=.returned (.bool true)∧∃ n,w'=w.drewN n:=by
 go_enter Tryz.func21,Tryz.ntmps21
 go_wp2
 go_loopw [5] (fun i wr=>(i=.int .i64 0∨i=.int .i64 1)∧∃ n,wr=w.drewN n) (fun i _=>1 - (intOf i).toNat)
 case atStart=>exact⟨.inl rfl,0,rfl⟩
 case round =>
  obtain⟨hi,n,rfl⟩:=hrel
  rcases hi with rfl | rfl
  ·go_wp2
   try go_quiet (fail)
   go_wp2
   go_roundw
   case rel=>exact⟨.inr rfl,_,rfl⟩
   case measure=>simp[intOf]
  ·go_wp2
   go_ret
   exact⟨rfl,_,rfl⟩
end
section
open Go.RowKit Kp
theorem zow(P:Program)(a b:Str)(h:a.length+b.length≤1000)(w:World):(Op.stringOp .add ⟨a.toArray⟩ ⟨b.toArray⟩).run P w=.ok (.string ⟨(a++b).toArray⟩) w:=by
 rw[run_string_add_sum w _ _ (by show a.length+b.length≤_;omega),ByteArray.mk_append_mk]
end
section
open Go.ChangeShapes Go.WideShapes Go.ChangeAt Go.RowKit Go.Deep Kp
theorem own:ownKnob Tryz.prog.godebug=none:=by kernel_rfl
theorem laidOut:laidOutB Tryz.prog=true:=by kernel_rfl
theorem zbK{P:Program}{w:World}{n:String}{d:DataW Unit}:∀ {l:List (String × DataW Unit)} {ps:List MemPlace},DataW.LaidVars P w l ps→(n,d)∈l →
  ∃ g t cs fuel p,P.globalNamed n=some g∧(P.globals[g]?).map (·.type)=some t∧w.var? P n=some cs∧DataW.trod (fun _=>()) P w 0 (fun _=>true) false fuel t cs.toList=some (d,p)
 | [],_,_,hm=>by cases hm
 | (m,e)::r,ps,h,hm=>by
  obtain⟨g,t,cs,fuel,p,q,e1,e2,e3,e4,hr,rfl⟩:=h
  rcases List.mem_cons.1 hm with hm | hm
  ·cases hm;exact⟨g,t,cs,fuel,p,e1,e2,e3,e4⟩
  ·exact zbK hr hm
theorem zlS{H:Type}{enc:TypeId × Value→H}{P:Program}{w:World}{base:Nat}{sp:Nat→Bool}{held:Bool}{fuel:Nat}{t e:TypeId}{n:Nat}{cs:List Value}{ls:List Str}{p:List MemPlace}
  (ht:P.underlying t=some (.array n e))(he:P.underlying e=some .string)(hce:P.cellsOf e=1)(hct:P.cellsOf t=n)
  (h:DataW.trod enc P w base sp held fuel t cs=some (.agg (ls.map fun s=>.lit (.string s)),p)):cs=ls.map fun s=>Value.string ⟨s.toArray⟩:=by
 cases fuel with
 | zero=>simp[DataW.trod]at h
 | succ fuel =>
  simp only[DataW.trod,ht,hce,hct,Nat.mul_one]at h
  split at h
  ·rename_i hl
   obtain⟨xs,hm,hx⟩:=Option.map_eq_some_iff.1 h
   have hxs:xs.map (·.1)=ls.map fun s=>(DataW.lit (.string s):DataW H):=by
    have:=congrArg Prod.fst hx
    simpa using this
   have hxl:xs.length=n:=by simpa using Lib.mapM_length hm
   have hzl:ls.length=n:=by
    have:=congrArg List.length hxs
    simp at this
    omega
   apply List.ext_getElem?
   intro i
   by_cases hi:i<n
   ·obtain⟨b,hb,hf⟩:=Lib.mapM_at hm i i (by simp[hi])
    obtain⟨z,hc,rfl,_⟩:=DataW.trod_string he hf
    have h1:cs[i]? = some (.string z):=by
     have:=congrArg (·[0]?) hc
     simpa[List.getElem?_take,List.getElem?_drop]using this
    have h2:(xs.map (·.1))[i]? = some (DataW.lit (.string z.data.toList):DataW H):=by simp[hb]
    rw[hxs]at h2
    simp only[List.getElem?_map,Option.map_eq_some_iff,DataW.lit.injEq,Lit.string.injEq]at h2
    obtain⟨z',hz',he'⟩:=h2
    have e3:z=⟨z'.toArray⟩:=by rw[he']
    simp[h1,hz',e3]
   ·rw[List.getElem?_eq_none (by omega),List.getElem?_eq_none (by simp;omega)]
  ·cases h
theorem zqa{P:Program}{w:World}{name:String}{g:Nat}{l:List Str}{cs:Array Value}(hg:P.globalNamed name=some g)(hv:w.var? P name=some cs)(hc:cs.toList=l.map fun s=>Value.string ⟨s.toArray⟩):zhg w g l:=by
 unfold World.var? at hv
 rw[hg]at hv
 simp only[Option.bind_some]at hv
 cases hh:w.heap[g]? with
 | none=>rw[hh]at hv;cases hv
 | some o =>
  rw[hh]at hv
  cases o <;> simp at hv
  rename_i c t f
  subst hv
  exact⟨t,f,by rw[hh,← hc]⟩
theorem zmF{P:Program}{w:World}{g:Nat}(h:w.ShapedOpen P)(hg:g<P.globals.size)(h0:(((begin P (fun _ _=>0) default).world.heap[g]?).bind Obj.row?).isSome=true):g<w.heap.size:=by
 obtain⟨⟨zero,t⟩,e⟩:=Option.isSome_iff_exists.1 h0
 obtain⟨cs,hh,_⟩:=h.1 g zero t hg e
 exact(Array.getElem?_eq_some_iff.1 hh).1
theorem zq0 : Tryz.prog.globalNamed "kingpost/root.primes" = some 1 := by kernel_rfl
theorem zt2:(Tryz.prog.globals[3]?).map (·.type)=some 330:=by kernel_rfl
theorem zsX:(Tryz.prog.globals[1]?).map (·.type)=some 238:=by kernel_rfl
theorem zoN:(Tryz.prog.globals[4]?).map (·.type)=some 213:=by kernel_rfl
theorem zp6:(Tryz.prog.globals[5]?).map (·.type)=some 213:=by kernel_rfl
theorem zuk:Tryz.prog.cellsOf 330=20:=by kernel_rfl
theorem zuM:Tryz.prog.cellsOf 202=1:=by kernel_rfl
theorem ztG:Tryz.prog.cellsOf 238=25:=by kernel_rfl
theorem ztF:Tryz.prog.cellsOf 9=1:=by kernel_rfl
theorem zq1 : Tryz.prog.globalNamed "kingpost/surd.signPlaces" = some 0 := by kernel_rfl
theorem zsY:(Tryz.prog.globals[0]?).map (·.type)=some 146:=by kernel_rfl
theorem ztH:Tryz.prog.cellsOf 146=3:=by kernel_rfl
theorem zuN:Tryz.prog.cellsOf 3=1:=by kernel_rfl
theorem zqN{P:Program}{w:World}{name:String}{g:Nat}{l:List Int}{cs:Array Value}(hg:P.globalNamed name=some g)(hv:w.var? P name=some cs)(hc:cs.toList=l.map fun z=>Value.int .i64 z):∃ t f,w.heap[g]? = some (.cells (l.map fun z=>Value.int .i64 z).toArray t f):=by
 unfold World.var? at hv
 rw[hg]at hv
 simp only[Option.bind_some]at hv
 cases hh:w.heap[g]? with
 | none=>rw[hh]at hv;cases hv
 | some o =>
  rw[hh]at hv
  cases o <;> simp at hv
  rename_i c t f
  subst hv
  exact⟨t,f,by rw[← hc]⟩
theorem zui : Tryz.prog.globalNamed "kingpost/front.directions" = some 2 := by kernel_rfl
theorem zuw:(Tryz.prog.globals[2]?).map (·.type)=some 273:=by kernel_rfl
theorem zuE:Tryz.prog.cellsOf 273=8:=by kernel_rfl
theorem zuK:Tryz.prog.cellsOf 272=2:=by kernel_rfl
theorem zhb{W:World}{fuel:Nat}{cs:List Value}{b:Bool}{z:Int}{y:DataW Unit × List MemPlace}(h:DataW.trod (fun _=>()) Tryz.prog W 0 (fun _=>true) false fuel 272 cs=some y)(hy:y.1=.agg [.lit (.bool b),.lit (.int .i64 z)]):cs=[.bool b,.int .i64 z]:=by
 obtain⟨y0,y1,n,rfl,hl,h0,h1⟩:=trod_struct2 Tryz.underlying272 h
 obtain⟨b',e0,rfl⟩:=DataW.trod_bool Tryz.underlying4 h0
 obtain⟨z',e1,rfl,_⟩:=DataW.trod_int Tryz.underlying3 h1
 rw[zuK]at hl
 simp only[DataW.agg.injEq,List.cons.injEq,DataW.lit.injEq,Lit.bool.injEq,Lit.int.injEq,true_and,and_true]at hy
 obtain⟨rfl,rfl⟩:=hy
 match cs,hl with
 | [c0,c1],_ =>
  have e0':[c0]=[.bool b']:=e0
  have e1':[c1]=[.int .i64 z']:=e1
  injection e0' with e0' _
  injection e1' with e1' _
  rw[e0',e1']
theorem zlT{W:World}{fuel:Nat}{cs:List Value}{p:List MemPlace}(h:DataW.trod (fun _=>()) Tryz.prog W 0 (fun _=>true) false fuel 273 cs=some (Rows.laid_kingpost_front_directions,p)):cs=zsh:=by
 obtain⟨xs,m,_,hx,hl,hxl,hf⟩:=DataW.trod_array Tryz.underlying273 h
 rw[zuE]at hl
 have e:(Rows.laid_kingpost_front_directions:DataW Unit)=.agg [.agg [.lit (.bool false),.lit (.int .i64 1)],.agg [.lit (.bool true),.lit (.int .i64 (-1))],.agg [.lit (.bool false),.lit (.int .i64 (-1))],.agg [.lit (.bool true),.lit (.int .i64 1)]]:=rfl
 rw[e]at hx
 match xs,hxl with
 | [y0,y1,y2,y3],_ =>
  have h0:=hf 0 (by decide)
  have h1:=hf 1 (by decide)
  have h2:=hf 2 (by decide)
  have h3:=hf 3 (by decide)
  rw[zuK]at h0 h1 h2 h3
  simp only[List.map_cons,List.map_nil,Prod.mk.injEq,DataW.agg.injEq,List.cons.injEq,and_true]at hx
  obtain⟨⟨x0,x1,x2,x3⟩,_⟩:=hx
  have g0:=zhb h0 x0.symm
  have g1:=zhb h1 x1.symm
  have g2:=zhb h2 x2.symm
  have g3:=zhb h3 x3.symm
  match cs,hl with
  | [c0,c1,c2,c3,c4,c5,c6,c7],_ =>
   have g0':[c0,c1]=_:=g0
   have g1':[c2,c3]=_:=g1
   have g2':[c4,c5]=_:=g2
   have g3':[c6,c7]=_:=g3
   simp only[List.cons.injEq,and_true]at g0' g1' g2' g3'
   rw[g0'.1,g0'.2,g1'.1,g1'.2,g2'.1,g2'.2,g3'.1,g3'.2]
   rfl
theorem zrb {W : World} {cs : Array Value} (hv : W.var? Tryz.prog "kingpost/front.directions" = some cs) (hc : cs.toList = zsh) : zsQ W := by
 unfold World.var? at hv
 rw[zui]at hv
 simp only[Option.bind_some]at hv
 cases hh:W.heap[2]? with
 | none=>rw[hh]at hv;cases hv
 | some o =>
  rw[hh]at hv
  cases o <;> simp at hv
  rename_i c t f
  subst hv
  exact⟨t,f,by rw[hh,← hc]⟩
theorem zoj{W:World}{name nm:String}{cs:Array Value}{fuel:Nat}{d:DataW Unit}{p:List MemPlace}(hv:W.var? Tryz.prog name=some cs)(hd:DataW.trod (fun _=>()) Tryz.prog W 0 (fun _=>true) false fuel 213 cs.toList=some (.iface nm d,p)) :
  ∃ tp q,W.var? Tryz.prog name=some #[.iface tp q]:=by
 obtain⟨_,u,v,e,_⟩:=iface_of_trod Tryz.underlying213 hd
 exact⟨u,v,by rw[hv];congr 1;exact Array.toList_inj.1 e⟩
structure Listed (L:List (String × DataW Unit)):Prop where
 plain:(L.all fun x=>x.2.handleName?.isNone)=true
 pow10 : ("internal/strconv.uint64pow10", Rows.laid_internal_strconv_uint64pow10) ∈ L
 errSyntax : ("strconv.ErrSyntax", Rows.laid_strconv_ErrSyntax) ∈ L
 errRange : ("strconv.ErrRange", Rows.laid_strconv_ErrRange) ∈ L
 primes : ("kingpost/root.primes", Rows.laid_kingpost_root_primes) ∈ L
 places : ("kingpost/surd.signPlaces", Rows.laid_kingpost_surd_signPlaces) ∈ L
 dirs : ("kingpost/front.directions", Rows.laid_kingpost_front_directions) ∈ L
theorem Env.of{W : World}{L : List (String × DataW Unit)}(hsh : W.ShapedOpen Tryz.prog)(hl : laidMetH Tryz.prog L W)(hL : Listed L) : Env W := by
  have hl := (laidMetH_iff.1 hl).1
  rw[List.filter_eq_self.2 (fun x hx => List.all_eq_true.1 hL.plain x hx)]at hl
  obtain⟨ps, hv, _⟩ := hl
  obtain⟨g1, t1, cs1, f1, p1, a1, b1, c1, d1⟩ := zbK hv hL.pow10
  obtain⟨g2, t2, cs2, f2, p2, a2, b2, c2, d2⟩ := zbK hv hL.errSyntax
  obtain⟨g3, t3, cs3, f3, p3, a3, b3, c3, d3⟩ := zbK hv hL.errRange
  obtain⟨g4, t4, cs4, f4, p4, a4, b4, c4, d4⟩ := zbK hv hL.primes
  obtain rfl := Option.some.inj (a1.symm.trans zsH)
  obtain rfl := Option.some.inj (a2.symm.trans zkF)
  obtain rfl := Option.some.inj (a3.symm.trans zmV)
  obtain rfl := Option.some.inj (a4.symm.trans zq0)
  obtain rfl := Option.some.inj (b1.symm.trans zt2)
  obtain rfl := Option.some.inj (b2.symm.trans zoN)
  obtain rfl := Option.some.inj (b3.symm.trans zp6)
  obtain rfl := Option.some.inj (b4.symm.trans zsX)
  obtain⟨g6, t6, cs6, f6, p6, a6, b6, c6, d6⟩ := zbK hv hL.places
  obtain rfl := Option.some.inj (a6.symm.trans zq1)
  obtain rfl := Option.some.inj (b6.symm.trans zsY)
  have e6 : (Rows.laid_kingpost_surd_signPlaces : DataW Unit) = Lib.tabData .i64 [4, 16, 64] := rfl
  rw[e6]at d6
  obtain⟨g7, t7, cs7, f7, p7, a7, b7, c7, d7⟩ := zbK hv hL.dirs
  obtain rfl := Option.some.inj (a7.symm.trans zui)
  obtain rfl := Option.some.inj (b7.symm.trans zuw)
  have e1 : (Rows.laid_internal_strconv_uint64pow10 : DataW Unit) = Lib.tabData .u64 Lib.pow10Tab := rfl
  have e4 : (Rows.laid_kingpost_root_primes : DataW Unit) = .agg (zdn.map fun s => .lit (.string s)) := rfl
  rw[e1]at d1
  rw[e4]at d4
  exact
  { size := Nat.succ_le_of_lt (zmF (g := ng - 1) hsh (of_decide_eq_true (by kernel_rfl)) (by kernel_rfl))
    maxlen := cell_of_shapedOpen_int (zero := #[.int .i64 0]) (t := 3) hsh (of_decide_eq_true (by kernel_rfl)) (by kernel_rfl) rfl (by kernel_rfl) (by kernel_rfl) Tryz.underlying3
    pow10 := by unfold Lib.TabIs;rw[c1, ← Lib.cells_of_tab Tryz.underlying330 Tryz.underlying202 zuM zuk d1]
    errSyntax := zoj c2 d2
    errRange := zoj c3 d3
    primes := zqa zq0 c4 (zlS Tryz.underlying238 Tryz.underlying9 ztF ztG d4)
    places := zqN (l := [4, 16, 64]) zq1 c6 (Lib.cells_of_tab Tryz.underlying146 Tryz.underlying3 zuN ztH d6)
    dirs := zrb c7 (zlT d7)
 }
end
section
open Go.ChangeShapes Go.WideShapes Go.ChangeAt Go.RowKit Go.Deep Kp
section
variable {H:Type} {enc:TypeId × Value→H} {P:Program} {w:World} {base:Nat} {spare:Nat→Bool} {held:Bool}
theorem zgq(hl:laidOutB P=true){W W':World}(hb:Below W.heap.size W W') :
  ∀ {ts:List TypeId} {vs:List Value} {ds:List (DataW H)} {ps:List MemPlace},(ts.all fun t=>P.readableRec t && decide (t<P.types.size))=true→DataW.TrodAll enc P W 0 (fun _=>true) true ts vs ds ps→(∀ x∈ps,x.block<W.heap.size) →
   DataW.TrodAll enc P W' 0 (fun b=>decide (b<W.heap.size)) true ts vs ds ps
 | [],vs,ds,ps,_,h,_=>by
  obtain⟨rfl,rfl,rfl⟩:=trodAll_nil h
  exact trodAll_mk0
 | t::ts,vs,ds,ps,ht,h,hlt=>by
  obtain⟨v,vs',d,ds',p,q,rfl,rfl,rfl,h1,h2⟩:=trodAll_cons h
  simp only[List.all_cons,Bool.and_eq_true,decide_eq_true_eq]at ht
  exact trodAll_cons_mk (Below.trod hl ht.1.1 ht.1.2 h1 hb (fun x hx=>hlt x (by simp[hx]))) (zgq hl hb ht.2 h2 (fun x hx=>hlt x (by simp[hx])))
end
theorem zrW{H:Type}{enc:TypeId × Value→H}{fn:Func}{s:ChangeSpec}{W W':World}{args:Array Value}{ds gs:List (DataW H)}{before:List MemPlace}
  (hW:DataW.Whole enc Tryz.prog fn.params.toList s.vars false W args.toList ds gs before)(hrt:fn.resultTypes=#[4])(hv:s.vars=[])
  (hres:(s.fn H (ds++gs)).results=[.lit (.bool true)])(hargs:(s.fn H (ds++gs)).args=ds)(hvars:(s.fn H (ds++gs)).vars=[])
  (hty:(fn.params.toList.all fun t=>Tryz.prog.readableRec t && decide (t<Tryz.prog.types.size))=true)(hb:Below W.heap.size W W') :
  s.post enc Tryz.prog fn false true false false W args (.bool true) W':=by
 have hW':=hW
 obtain⟨p,q,hA,hV,rfl,_,_⟩:=hW
 rw[hv]at hV
 obtain⟨rfl,rfl⟩:=trodVars_none hV
 have hlt:∀ x∈p,x.block<W.heap.size:=fun x hx=>hW'.lt x (by simp[hx])
 refine⟨ds,[],p++[],[],p,[],hW',?_,?_,?_,?_,fun h=>by cases h⟩
 ·rw[hres,hrt];exact trodAll_mk1 (shut_bool Tryz.underlying4 true)
 ·rw[hargs];exact zgq laidOut hb hty hA hlt
 ·rw[hvars,hv];exact rfl
 ·exact hb.frame _
end
section
open Go.ChangeShapes Go.WideShapes Go.ChangeAt Go.RowKit Go.Deep Kp
def zsM:DataW Unit→List Value
 | .lit l=>[l.value]
 | _=>[]
def zsL:DataW Unit→List Value
 | .agg l=>l.flatMap zsM
 | d=>zsM d
def cells3:DataW Unit→List Value
 | .agg l=>l.flatMap zsL
 | d=>zsL d
def zfG(h:Array Obj)(g:Nat)(cs:List Value):Array Obj:=h.modify g fun
 | .cells _ t frozen=>.cells cs.toArray t frozen
 | o=>o
noncomputable def zjt (os:Os):World :=
 let N:=(World.settled Tryz.prog os).heap.size
 let w0:=World.holding Tryz.prog os ⟨#[.cells #[.string ⟨#[118,97,108,117,101,32,111,117,116,32,111,102,32,114,97,110,103,101]⟩] 352,.cells #[.string ⟨#[105,110,118,97,108,105,100,32,115,121,110,116,97,120]⟩] 352],#[],[]⟩
 let h1:=zfG w0.heap 7 (cells3 Rows.laid_math_bits_deBruijn32tab)
 let h2:=zfG h1 8 (cells3 Rows.laid_math_bits_deBruijn64tab)
 let h3:=zfG h2 3 (cells3 Rows.laid_internal_strconv_uint64pow10)
 let h4:=zfG h3 10 (cells3 Rows.laid_unicode_utf8_acceptRanges)
 let h5:=zfG h4 5 [.iface 350 (.pointer (some ⟨N,0,none⟩))]
 let h6:=zfG h5 4 [.iface 350 (.pointer (some ⟨N+1,0,none⟩))]
 let h7:=zfG h6 1 (cells3 Rows.laid_kingpost_root_primes)
 let h7:=zfG h7 0 (cells3 Rows.laid_kingpost_surd_signPlaces)
 let h7:=zfG h7 2 (cells3 Rows.laid_kingpost_front_directions)
 let h8:=zfG h7 9 (cells3 Rows.laid_unicode_utf8_first)
 { w0 with heap:=h8 }
def zsz : List (String × DataW Unit) := [("math/bits.deBruijn32tab", Rows.laid_math_bits_deBruijn32tab), ("math/bits.deBruijn64tab", Rows.laid_math_bits_deBruijn64tab), ("internal/strconv.uint64pow10", Rows.laid_internal_strconv_uint64pow10), ("unicode/utf8.acceptRanges", Rows.laid_unicode_utf8_acceptRanges), ("strconv.ErrRange", Rows.laid_strconv_ErrRange), ("strconv.ErrSyntax", Rows.laid_strconv_ErrSyntax),
 ("kingpost/front.directions", Rows.laid_kingpost_front_directions),
 ("kingpost/root.primes", Rows.laid_kingpost_root_primes),
 ("kingpost/surd.signPlaces", Rows.laid_kingpost_surd_signPlaces),
 ("unicode/utf8.first", Rows.laid_unicode_utf8_first)]
theorem listed:Listed zsz where
 plain:=by kernel_rfl
 pow10:=by simp[zsz]
 errSyntax:=by simp[zsz]
 errRange:=by simp[zsz]
 primes:=by simp[zsz]
 places:=by simp[zsz]
 dirs:=by simp[zsz]
theorem zrX(os:Os)(args:Array Value):laidMet Tryz.prog zsz ((zjt os).forCall (fun _ _=>0) ⟨#[],args,[]⟩).memory :=
 laidMet_of_run' 10 (by kernel_rfl) (by kernel_rfl)
end
end Go.Proofs.YtdecodpgdainiaaGreatDoor
