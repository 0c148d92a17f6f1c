/-
  Walks: root.Normal at numbers with short parts.; Walks: surd.visit and surd.Make at one term of small numbers.; Walks: timber.stretched, Square, Plumb at small numbers.; Walks: ref04.Same at two lists of one term; timber.Check and Print.; Walks: timber.Print.; Frm Opn Wit, one behind the other.
-/
import Derived.Test.YtbpghkdadajomaaGreatDoorG04
import Derived.Deep.RegionHeld3
import Derived.Deep.AppendLies
import Derived.Lib.SmallJoins
import Derived.Test.YtbpghkdadajomaaGreatDoorG00
import Derived.Test.YtbpghkdadajomaaGreatDoorG01
import Derived.Lib.MinMax
import Derived.Test.YtbpghkdadajomaaGreatDoorCards
import Derived.Test.YtbpghkdadajomaaGreatDoorTie
import Derived.ProofKit
import Derived.OpenShut
import Derived.SizedLaws
import Derived.Deep.DeepHandedRow
import Derived.Deep.DeepWitnessRowRef
import Derived.Deep.Slices
import Derived.Deep.Fields
import Derived.ChangeSame
import Derived.Carry
import Derived.Shelf.Vars
set_option maxRecDepth 100000
set_option maxHeartbeats 2000000
namespace Go.Proofs.YtbpghkdadajomaaGreatDoor
section
open Go.RowKit Kp
theorem zdh.one{w:World}{b:Nat}{s:Str}{t:TypeId}(h:Blk w b [.string ⟨s.toArray⟩] t):zdh w (.slice (some ⟨b,0,none⟩) 1 1) [s]:=by
 refine⟨b,0,1,rfl,h.lt,?_⟩
 intro i hi
 obtain rfl:i=0:=by simpa using hi
 exact h.cell 0
theorem ze9{n:Int}(h:0<n):(Lib.itoa n == [48])=false:=by
 rw[beq_eq_false_iff_ne,← zO]
 intro hx
 have:=zan hx
 omega
theorem zeC(x:Int)(d:Nat)(hn:0<x)(hd:0<d)(hnd:x.toNat*d<100000000000000000)(w:World)(hE:Env w) :
  Calls Tryz.prog 191 #[.int .i64 x,.int .i64 d] w fun e w'=>e=.returned (.tuple #[.string ⟨(ze (Rat.divInt (zaG (x.toNat*d)).1 d)).toArray⟩,.string ⟨(Lib.itoa ((zaG (x.toNat*d)).2:Int)).toArray⟩])∧Q w w':=by
 obtain⟨n,rfl⟩:∃ n:Nat,x=n:=⟨x.toNat,by omega⟩
 rw[Int.toNat_natCast]at *
 exact zhj n d (by omega) hd hnd w hE
theorem zhm(q:Rat)(h:zF q)(hp:0<q.num)(w:World)(hE:Env w) :
  Calls Tryz.prog 138 #[.string ⟨(ze q).toArray⟩] w fun e w'=>e=.returned (.tuple #[.string ⟨(ze (Rat.divInt (zaG (q.num.toNat*q.den)).1 q.den)).toArray⟩,.string ⟨(Lib.itoa ((zaG (q.num.toNat*q.den)).2:Int)).toArray⟩,.int .i64 0])∧Q w w':=by
 go_enter Tryz.func138,Tryz.ntmps138
 go_wp2_with fail
 have B1:=((Blk.new w [.string ⟨(ze q).toArray⟩] 30).alloc (.cells #[.string ⟨(ze q).toArray⟩] 30))
 have B2:=Blk.new (w.alloc (.cells #[.string ⟨(ze q).toArray⟩] 30)) [.string ⟨(ze q).toArray⟩] 30
 have S2:=zdh.one B2
 have e2:(w.alloc (.cells #[.string ⟨(ze q).toArray⟩] 30)).heap.size=w.heap.size+1:=by simp
 rw[e2]at S2
 clear e2 B2
 refine(zie [q] [q] (by intro x hx;rw[List.mem_singleton]at hx;subst hx;exact h) _ _ _ (hE.q bt) (zdh.one B1) S2 (by simp) (by simp)).mono ?_
 have hc:(if ∀ x∈[q],0≤x.num then(0:Int)else 2)=0:=if_pos (by intro x hx;rw[List.mem_singleton]at hx;subst hx;omega)
 rw[hc]
 clear S2 B1 hc
 rintro e w1⟨rfl,hq1⟩
 have hQ1:Q w w1:=(show Below w.heap.size w _ from bt).trans (hq1.mono (by simp;omega))
 clear hq1
 go_wp2_with fail
 refine(zgw q h _ (hE.q hQ1)).mono ?_
 rintro e w2⟨rfl,hq2⟩
 have hQ2:Q w w2:=hQ1.trans (hq2.mono hQ1.size)
 have nz:=ze9 hp
 have lq1:(Lib.itoa q.num).length≤8:=by rw[show q.num=((q.num.toNat:Nat):Int)from by omega,← zR];exact(zl _ 8 (by decide)).2 (by have:=h.1;omega)
 have ld1:(Lib.itoa (q.den:Int)).length≤8:=by rw[← zR];exact(zl _ 8 (by decide)).2 (by have:=h.2;omega)
 go_wp2_with fail
 have B1:=Blk.new w2 [.string ⟨(Lib.itoa q.num).toArray⟩,.string ⟨(Lib.itoa (q.den:Int)).toArray⟩] 221
 have hQ3:Q w (w2.alloc (Obj.cells [.string ⟨(Lib.itoa q.num).toArray⟩,.string ⟨(Lib.itoa (q.den:Int)).toArray⟩].toArray 221)):=hQ2.alloc hQ2.size _
 refine(zdo q.num (by omega) _).mono ?_
 rintro e w3⟨rfl,hq3⟩
 have B3:=B1.keep hq3 (by simp)
 have hQ4:Q w w3:=hQ3.trans (hq3.mono hQ3.size)
 have c1:=B3.cell 1
 simp only[zs4,zs5]at c1
 clear B1 hQ3 hq3
 go_wp2_with fail
 refine(zdo (q.den:Int) (by omega) _).mono ?_
 rintro e w4⟨rfl,hq4⟩
 have hQ5:Q w w4:=hQ4.trans (hq4.mono hQ4.size)
 clear c1 B3 hQ4 hq4
 go_wp2_with fail
 have hnd:q.num.toNat*q.den<100000000000000000:=by
  have h1:q.num.toNat<100000000:=by have:=h.1;omega
  have:=Nat.mul_lt_mul'' h1 h.2
  omega
 refine(zeC q.num q.den hp q.den_pos hnd _ (hE.q hQ5)).mono ?_
 rintro e w5⟨rfl,hq5⟩
 have hQ6:Q w w5:=hQ5.trans (hq5.mono hQ5.size)
 go_wp2
 go_ret3
 exact⟨rfl,hQ6⟩
theorem zei(s:Str)(w:World) :
  Calls Tryz.prog 140 #[.string ⟨s.toArray⟩] w fun e w'=>e=.returned (.int .i64 (zo s).length)∧w=w':=by
 go_enter Tryz.func140,Tryz.ntmps140
 go_wp2_with fail
 refine(zQ s _).mono ?_
 rintro e w1⟨rfl,rfl⟩
 go_wp2
 go_ret
 exact⟨rfl,rfl⟩
def za5(q:Rat):Int:=max ((zo (Lib.itoa q.num)).length:Int) ((zo (Lib.itoa (q.den:Int))).length:Int)
theorem zV(q:Rat):0≤za5 q:=by unfold za5;omega
theorem zf3{q:Rat}(h:zF q):za5 q≤8:=by
 have h1:(zo (Lib.itoa q.num)).length≤8:=by rw[zaY];exact(zl _ 8 (by decide)).2 (by have:=h.1;omega)
 have h2:(zo (Lib.itoa (q.den:Int))).length≤8:=by rw[zaY,Int.natAbs_natCast];exact(zl _ 8 (by decide)).2 (by have:=h.2;omega)
 unfold za5;omega
theorem zeO(q:Rat)(h:zF q)(w:World)(hE:Env w) :
  Calls Tryz.prog 84 #[.string ⟨(ze q).toArray⟩] w fun e w'=>e=.returned (.int .i64 (za5 q))∧Q w w':=by
 go_enter Tryz.func84,Tryz.ntmps84
 go_wp2_with fail
 refine(zc5 q h _ hE).mono ?_
 rintro e w1⟨rfl,hq1⟩
 go_wp2_with fail
 refine(zei _ _).mono ?_
 rintro e w2⟨rfl,rfl⟩
 go_wp2_with fail
 refine(zei _ _).mono ?_
 rintro e w3⟨rfl,rfl⟩
 go_wp2
 go_ret
 exact⟨rfl,hq1⟩
theorem zmi:(Tryz.prog.info? 148).map (fun i=>(i.zero,i.size,i.bytes))=some (some (.agg #[.string ⟨#[]⟩,.string ⟨#[]⟩]),2,32):=by kernel_rfl
theorem zcu:(Tryz.prog.info? 84).map (fun i=>(i.zero,i.size,i.bytes))=some (some (.agg #[.string ⟨#[]⟩,.string ⟨#[]⟩]),2,32):=by kernel_rfl
theorem zbs{P:Program}{t:TypeId}{z:Value}{n m:Nat}(h:(P.info? t).map (fun i=>(i.zero,i.size,i.bytes))=some (some z,n,m)):∃ i,P.info? t=some i∧i.zero=some z∧i.size=n∧i.bytes=m:=by
 cases hi:P.info? t with
 | none=>rw[hi]at h;simp at h
 | some i=>rw[hi]at h;simp at h;exact⟨i,rfl,h.1,h.2.1,h.2.2⟩
theorem zoB{w w1:World}{G T:Nat}{o x y:Value}(hg:w.grownBy w1 none)(hG:G<w.heap.size)(hT:T<w.heap.size)(hne:G≠T)(c:w.cell? ⟨G,0,none⟩=some o)
  (d0:w.cell? ⟨T,0,none⟩=some x)(d1:w.cell? ⟨T,1,none⟩=some y)(kf:w.frozen? ⟨G,0,none⟩=false) :
  w1.cell? ⟨G,0,none⟩=some o∧∀ v,(w1.setCell ⟨G,0,none⟩ v).cell? ⟨T,0,none⟩=some x∧(w1.setCell ⟨G,0,none⟩ v).cell? ⟨T,1,none⟩=some y∧(w1.setCell ⟨G,0,none⟩ v).frozen? ⟨G,0,none⟩=false:=by
 refine⟨(hg.cell_far _ hG (by simp)).trans c,fun v=>⟨?_,?_,?_⟩⟩
 ·exact(World.cell?_setCell_other w1 ⟨G,0,none⟩ ⟨T,0,none⟩ v (by intro h;exact hne (congrArg Addr.block h))).trans ((hg.cell_far _ hT (by simp)).trans d0)
 ·exact(World.cell?_setCell_other w1 ⟨G,0,none⟩ ⟨T,1,none⟩ v (by simp)).trans ((hg.cell_far _ hT (by simp)).trans d1)
 ·rw[World.frozen?_setCell];exact(hg.frozen_far _ hG (by simp)).trans kf
theorem zpK{w1:World}{G T:Nat}{x y:Value}(h:∀ v,(w1.setCell ⟨G,0,none⟩ v).cell? ⟨T,0,none⟩=some x∧(w1.setCell ⟨G,0,none⟩ v).cell? ⟨T,1,none⟩=some y∧(w1.setCell ⟨G,0,none⟩ v).frozen? ⟨G,0,none⟩=false):w1.frozen? ⟨G,0,none⟩=false:=by
 have:=(h (.int .i64 0)).2.2
 rw[World.frozen?_setCell]at this;exact this
theorem zp3{w w1:World}{G g cap:Nat}{s1 s2:Str}{A B:Obj}(hG:Blk w G [.slice none 0 0] 144)(hgrow:((w.alloc A).alloc B).drew.grownBy w1 none)
  (hown:w1.ownsRow (G+1) 148 2 (.slice (some ⟨g,0,none⟩) 1 cap) 1 [.string ⟨s1.toArray⟩,.string ⟨s2.toArray⟩]) :
  Below G w (w1.setCell ⟨G,0,none⟩ (.slice (some ⟨g,0,none⟩) 1 cap)) ∧
   ∃ v,Blk (w1.setCell ⟨G,0,none⟩ (.slice (some ⟨g,0,none⟩) 1 cap)) G [v] 144∧(w1.setCell ⟨G,0,none⟩ (.slice (some ⟨g,0,none⟩) 1 cap)).ownsRow (G+1) 148 2 v 1 [.string ⟨s1.toArray⟩,.string ⟨s2.toArray⟩]:=by
 have l0:=hG.lt
 have hl:G<((w.alloc A).alloc B).drew.heap.size:=by simp;omega
 have b1:Below G w ((w.alloc A).alloc B).drew:=(((Below.refl G w).alloc (by omega) A).alloc (by simp;omega) B).drew
 have b2:Below G w w1:=b1.grown hgrow (by omega) (by simp)
 have bG:Blk w1 G [.slice none 0 0] 144:=(hgrow.block G hl (by simp)).trans ((hG.alloc A).alloc B)
 refine⟨b2.setCell (p:=⟨G,0,none⟩) (Nat.le_refl _) _,_,bG.set 0 _,ownsRow_setCell_below hown (by simp) _⟩
theorem zbE(G:Nat)(s1 s2:Str)(w:World)(hG:Blk w G [.slice none 0 0] 144) :
  Calls Tryz.prog 83 #[.pointer (some ⟨G,0,none⟩),.agg #[.string ⟨s1.toArray⟩,.string ⟨s2.toArray⟩]] w fun e w'=>e=.returned (.int .i64 0)∧Below G w w' ∧
   ∃ v,Blk w' G [v] 144∧w'.ownsRow (G+1) 148 2 v 1 [.string ⟨s1.toArray⟩,.string ⟨s2.toArray⟩]:=by
 have c0:=hG.cell 0
 have f0:=hG.frozen 0
 have l0:=hG.lt
 simp only[List.getElem?_cons_zero]at c0
 obtain⟨i0,hi,hz0,hz1,hz2⟩:=zbs zmi
 have HI:=LH hi
 have HZ:=LH hz0
 have HS:=LH hz1
 have HB:=LH hz2
 clear hi hz0 hz1 hz2
 go_enter Tryz.func83,Tryz.ntmps83
 go_wp2
 go_loop [19] (fun i=>i=.int .i64 0) (fun _=>0)
 case atStart=>rfl
 case round =>
  subst hrel
  go_wp2
  have t0:=World.new_ne w ⟨G,0,none⟩ c0
  have hsz:(w.alloc (Obj.cells #[.string ⟨s1.toArray⟩,.string ⟨s2.toArray⟩] 84)).heap.size=w.heap.size+1:=by simp
  have BT:=Blk.new w [.string ⟨s1.toArray⟩,.string ⟨s2.toArray⟩] 84
  have hnew:((w.alloc (Obj.cells #[.string ⟨s1.toArray⟩,.string ⟨s2.toArray⟩] 84)).alloc (Obj.cells #[.string ⟨s1.toArray⟩,.string ⟨s2.toArray⟩] 148)).heap[w.heap.size+1]? = some (.cells #[.string ⟨s1.toArray⟩,.string ⟨s2.toArray⟩] 148 (0,0)):=by rw[← hsz];exact heap_alloc_new _ _
  have k0:=(hG.alloc (Obj.cells #[.string ⟨s1.toArray⟩,.string ⟨s2.toArray⟩] 84)).cell 0
  have d0:=BT.cell 0
  have d1:=BT.cell 1
  have kf:=(hG.alloc (Obj.cells #[.string ⟨s1.toArray⟩,.string ⟨s2.toArray⟩] 84)).frozen 0
  have k02:=((hG.alloc (Obj.cells #[.string ⟨s1.toArray⟩,.string ⟨s2.toArray⟩] 84)).alloc (Obj.cells #[.string ⟨s1.toArray⟩,.string ⟨s2.toArray⟩] 148)).cell 0
  simp only[List.getElem?_cons_zero]at k02
  have d02:=(BT.alloc (Obj.cells #[.string ⟨s1.toArray⟩,.string ⟨s2.toArray⟩] 148)).cell 0
  have d12:=(BT.alloc (Obj.cells #[.string ⟨s1.toArray⟩,.string ⟨s2.toArray⟩] 148)).cell 1
  simp only[zs4,zs5]at d02 d12
  have hGT:G≠w.heap.size:=by omega
  have hlG:G<((w.alloc (Obj.cells #[.string ⟨s1.toArray⟩,.string ⟨s2.toArray⟩] 84)).alloc (Obj.cells #[.string ⟨s1.toArray⟩,.string ⟨s2.toArray⟩] 148)).heap.size:=by simp;omega
  have hlT:w.heap.size<((w.alloc (Obj.cells #[.string ⟨s1.toArray⟩,.string ⟨s2.toArray⟩] 84)).alloc (Obj.cells #[.string ⟨s1.toArray⟩,.string ⟨s2.toArray⟩] 148)).heap.size:=by simp;omega
  have kf2:=((hG.alloc (Obj.cells #[.string ⟨s1.toArray⟩,.string ⟨s2.toArray⟩] 84)).alloc (Obj.cells #[.string ⟨s1.toArray⟩,.string ⟨s2.toArray⟩] 148)).frozen 0
  have hQ0:Below G w (w.alloc (Obj.cells #[.string ⟨s1.toArray⟩,.string ⟨s2.toArray⟩] 84)):=(Below.refl G w).alloc (by omega) _
  simp only[zs4,zs5]at k0 d0 d1
  go_region_law
   (first | (refine step_append_lies _ (by rfl) (.tmp 73) (.tmp 79) 142 (by rfl) (G+1) 148 i0 _ 2 32 Tryz.underlying142 HI.out HZ.out HS.out HB.out rfl (by decide) (.slice none 0 0) 0 [] (by rfl) (World.ownsRow_nil _ _ _ _) ⟨w.heap.size+1,0,none⟩ 1 1 [.string ⟨s1.toArray⟩,.string ⟨s2.toArray⟩] (by rfl) (by rfl) (World.news_of_block (cs:=#[.string ⟨s1.toArray⟩,.string ⟨s2.toArray⟩]) (t:=148) (fr:=(0,0)) hnew) (by simp[Value.oneCell']) (by decide) (by decide) (by decide) (by simp;omega) (w.heap.size+2) (by simp) ?_;intro g cap w1 hown hgrow hat hlt;have hh:=zoB (w1:=w1) (T:=w.heap.size) (x:=.string ⟨s1.toArray⟩) (y:=.string ⟨s2.toArray⟩) hgrow hlG hlT hGT k02 d02 d12 kf2;have c1:=hh.1;have fz:=zpK hh.2))
  all_goals go_wp2
  all_goals go_ret
  all_goals exact⟨rfl,zp3 hG hgrow hown⟩
end
section
open Go.RowKit Kp
theorem zhH(ad:Option Addr)(cap:Nat)(f:Value)(w:World) :
  Calls Tryz.prog 196 #[.slice ad 1 cap,.int .i64 0,.int .i64 1,f] w fun e w'=>(∃ v,e=.returned v)∧w=w':=by
 go_enter Tryz.func196,Tryz.ntmps196
 go_wp2
 go_loop [8] (fun i=>i=.int .i64 1) (fun _=>0)
 case atStart=>rfl
 case round =>
  subst hrel
  go_wp2
  go_end0
  exact⟨⟨_,rfl⟩,rfl⟩
theorem zmZ(ad:Option Addr)(cap:Nat)(k:Int)(f:Value)(w:World) :
  Calls Tryz.prog 141 #[.slice ad 1 cap,.int .i64 0,.int .i64 1,.int .i64 k,f] w fun e w'=>(∃ v,e=.returned v)∧w=w':=by
 go_enter Tryz.func141,Tryz.ntmps141
 go_wp2
 go_loop [1,2,3] (fun x y _=>x=.int .i64 0∧y=.int .i64 1) (fun _ _ _=>0)
 case atStart=>exact⟨rfl,rfl⟩
 case round =>
  obtain⟨rfl,rfl⟩:=hrel
  go_wp2_with fail
  refine(zhH ad cap f _).mono ?_
  rintro e w1⟨⟨v,rfl⟩,rfl⟩
  go_wp2
  (try simp only[Exit.inBlock,Exit.then])
  refine bodyPost_ret (results_none rfl _ _ _) rfl ?_
  exact⟨⟨_,rfl⟩,rfl⟩
theorem zeQ(ad:Option Addr)(cap:Nat)(f:Value)(w:World) :
  Calls Tryz.prog 85 #[.slice ad 1 cap,f] w fun e w'=>(∃ v,e=.returned v)∧w=w':=by
 go_enter Tryz.func85,Tryz.ntmps85
 go_wp2_with fail
 refine(Tryz.bits_Len _ _ (by omega) (by omega)).mono ?_
 rintro e w1⟨rfl,rfl⟩
 go_wp2_with fail
 refine(zmZ ad cap _ f _).mono ?_
 rintro e w1⟨⟨v,rfl⟩,rfl⟩
 go_wp2
 go_end0
 exact⟨⟨_,rfl⟩,rfl⟩
theorem zaO(n:Nat):ze (n:Rat)=Lib.itoa (n:Int):=by
 unfold ze;rw[if_pos (Rat.den_natCast n),Rat.num_natCast]
theorem zah:ze 0=[48]:=by
 have:=zaO 0;rw[show ((0:Nat):Rat)=0 from rfl]at this;rw[this];exact zO
theorem zcJ:ze 1=[49]:=by
 have:=zaO 1;rw[show ((1:Nat):Rat)=1 from rfl]at this;rw[this];exact zaa
theorem zjt(c r a:Rat)(left:Nat)(hc:zF c)(hr:zF r)(hp:0<r.num)(hc0:c≠0)(hr1:r≠1)(ha:Rat.divInt (zaG (r.num.toNat*r.den)).1 r.den=a)(hl:(zaG (r.num.toNat*r.den)).2=left)
  (ha8:zF a)(hl8:zF (left:Rat))(_hca:zF (c*a))(b G:Nat)(t:TypeId)(w:World)(hE:Env w)(hb:Blk w b [.string ⟨(ze c).toArray⟩,.string ⟨(ze r).toArray⟩] t)(_hbG:b<G)(hG:Blk w G [.slice none 0 0] 144) :
  Calls Tryz.prog 82 #[.slice (some ⟨b,0,none⟩) 1 1,.func (.func 83) #[.pointer (some ⟨G,0,none⟩)] #[]] w fun e w'=>e=.returned (.int .i64 0)∧Below G w w' ∧
   ∃ v,Blk w' G [v] 144∧w'.ownsRow (G+1) 148 2 v 1 [.string ⟨(ze (c*a)).toArray⟩,.string ⟨(ze (left:Rat)).toArray⟩]:=by
 have lb:=hb.lt
 have lG:=hG.lt
 have hcz:(ze c == [48])=false:=by
  rw[beq_eq_false_iff_ne,← zah];exact fun h=>hc0 (zaJ h)
 have hrz:(ze r == [48])=false:=by
  rw[beq_eq_false_iff_ne,← zah];exact fun h=>by have:=zaJ h;subst this;simp at hp
 have hro:(ze r == [49])=false:=by
  rw[beq_eq_false_iff_ne,← zcJ];exact fun h=>hr1 (zaJ h)
 have hN:=zhm r hr hp
 rw[ha,hl,← zaO]at hN
 have HN:=LH hN
 clear ha hl hN
 have hV:=zf3 hl8
 have hV0:=zV (left:Rat)
 go_enter Tryz.func82,Tryz.ntmps82
 go_wp2
 go_loopw [13] (fun i wr=>(i=.int .i64 0∧Q w wr)∨(i=.int .i64 1∧Below G w wr∧∃ v,Blk wr G [v] 144∧wr.ownsRow (G+1) 148 2 v 1 [.string ⟨(ze (c*a)).toArray⟩,.string ⟨(ze (left:Rat)).toArray⟩])) (fun i _=>1 - (intOf i).toNat)
 case atStart=>exact .inl ⟨rfl,Below.refl _ _⟩
 case round =>
  rcases hrel with⟨rfl,hQ⟩|⟨rfl,hB,v,hv,hown⟩
  ·have hB:=hb.keep hQ lb
   have hGr:=hG.keep hQ lG
   have c0:=hB.cell 0
   have c1:=hB.cell 1
   have f0:=hB.frozen 0
   have l1:=hB.lt
   simp only[zs4,zs5]at c0 c1
   go_wp2_with fail
   have BT:=Blk.new wr [.string ⟨(ze c).toArray⟩,.string ⟨(ze r).toArray⟩] 84
   have t1:=BT.cell 1
   simp only[zs4,zs5]at t1
   have hq0:Q w (wr.alloc (Obj.cells [.string ⟨(ze c).toArray⟩,.string ⟨(ze r).toArray⟩].toArray 84)):=hQ.alloc hQ.size _
   go_quiet (fail)
   go_wp2_with fail
   have hqn:=Below.drewN hq0 nq
   refine(HN.out _ (hE.q hqn)).mono ?_
   rintro e w1⟨rfl,hq1⟩
   have hQ1:=hqn.trans (hq1.mono hqn.size)
   have B1:=(BT.drewN nq).keep hq1 (by simp)
   clear hq1 hqn hq0 BT t1 c0 c1 f0
   go_wp2_with fail
   refine(zeO (left:Rat) hl8 _ (hE.q hQ1)).mono ?_
   rintro e w2⟨rfl,hq2⟩
   have hQ2:=hQ1.trans (hq2.mono hQ1.size)
   have B2:=B1.keep hq2 B1.lt
   have d2:=B2.cell 0
   simp only[List.getElem?_cons_zero]at d2
   clear hq2 hQ1 B1
   have hV1:za5 (left:Rat)≤90:=by omega
   go_wp2_with fail
   refine(zdG c a hc ha8 _ (hE.q hQ2)).mono ?_
   rintro e w3⟨rfl,hq3⟩
   have hQ3:=hQ2.trans (hq3.mono hQ2.size)
   clear hq3 hQ2 B2 d2
   go_wp2_with fail
   have hG3:=hG.keep hQ3 lG
   refine(zbE G _ _ _ hG3).mono ?_
   rintro e w4⟨rfl,hB4,v,hv,hown⟩
   have hB5:Below G w w4:=(hQ3.mono (Nat.le_of_lt lG)).trans hB4
   go_wp2
   go_roundw
   case rel=>exact .inr ⟨rfl,hB5,v,hv,hown⟩
   case measure=>simp[intOf]
  ·go_wp2
   go_ret
   exact⟨rfl,hB,v,hv,hown⟩
theorem zkw(c r a:Rat)(left:Nat)(hc:zF c)(hr:zF r)(hp:0<r.num)(hc0:c≠0)(hr1:r≠1)(ha:Rat.divInt (zaG (r.num.toNat*r.den)).1 r.den=a)(hl:(zaG (r.num.toNat*r.den)).2=left)
  (ha8:zF a)(hl8:zF (left:Rat))(hca:zF (c*a))(hca0:c*a≠0)(b:Nat)(t:TypeId)(w:World)(hE:Env w)(hb:Blk w b [.string ⟨(ze c).toArray⟩,.string ⟨(ze r).toArray⟩] t) :
  Calls Tryz.prog 38 #[.slice (some ⟨b,0,none⟩) 1 1] w fun e w'=>∃ v,e=.returned (.tuple #[v,.int .i64 0])∧Q w w' ∧
   w'.ownsRow w.heap.size 84 2 v 1 [.string ⟨(ze (c*a)).toArray⟩,.string ⟨(ze (left:Rat)).toArray⟩]:=by
 have l0:=hb.lt
 obtain⟨i0,hi,hz0,hz1,hz2⟩:=zbs zcu
 have HI:=LH hi
 have HZ:=LH hz0
 have HS:=LH hz1
 have HB:=LH hz2
 clear hi hz0 hz1 hz2
 go_enter Tryz.func38,Tryz.ntmps38
 go_wp2
 go_loopw [18] (fun i wr=>∃ k:Nat,k≤1∧i=.int .i64 k∧Q w wr) (fun i _=>1 - (intOf i).toNat)
 case atStart=>exact⟨0,by omega,rfl,Below.refl _ _⟩
 case round =>
  obtain⟨k,hk,rfl,hQ⟩:=hrel
  rcases(show k=0∨k=1 by omega)with rfl | rfl
  ·have hB:=hb.keep hQ l0
   have c0:=hB.cell 0
   have c1:=hB.cell 1
   have f0:=hB.frozen 0
   have l1:=hB.lt
   simp only[zs4,zs5]at c0 c1
   have hneg:decide ((ze r).head? = some 45)=false:=by rw[decide_eq_false_iff_not,zbG];omega
   have HN:=LH hneg
   clear hneg
   go_wp2_with fail
   have hq0:Q w (wr.alloc (Obj.cells [.string ⟨(ze c).toArray⟩,.string ⟨(ze r).toArray⟩].toArray 84)):=hQ.alloc hQ.size _
   have BT:=Blk.new wr [.string ⟨(ze c).toArray⟩,.string ⟨(ze r).toArray⟩] 84
   refine(zbY c hc _ (hE.q hq0)).mono ?_
   rintro e w1⟨rfl,hq1⟩
   have hQ1:=hq0.trans (hq1.mono hq0.size)
   have B1:=BT.keep hq1 (by simp)
   have d1:=B1.cell 1
   simp only[zs4,zs5]at d1
   clear hq1 hq0 BT c0 c1 f0
   go_wp2_with fail
   refine(zbY r hr _ (hE.q hQ1)).mono ?_
   rintro e w2⟨rfl,hq2⟩
   have hQ2:=hQ1.trans (hq2.mono hQ1.size)
   have B2:=B1.keep hq2 B1.lt
   have d2:=B2.cell 1
   simp only[zs4,zs5]at d2
   clear hq2 hQ1 B1 d1
   go_wp2_with fail
   refine(zL _ _).mono ?_
   rintro e w3⟨rfl,rfl⟩
   rw[HN.out]
   go_wp2
   go_roundw
   case rel=>exact⟨1,by omega,by go_num,hQ2⟩
   case measure=>simp[intOf]
  ·go_wp2_with fail
   have hBb:=(hb.keep hQ l0).alloc (Obj.cells #[Value.slice none 0 0] 144)
   have hG:=Blk.new wr [Value.slice none 0 0] 144
   refine(zjt c r a left hc hr hp hc0 hr1 ha hl ha8 hl8 hca b wr.heap.size t _ (hE.q (hQ.alloc hQ.size _)) hBb (by have:=hQ.size;omega) hG).mono ?_
   rintro e w1⟨rfl,hB1,v,hv,hown⟩
   obtain⟨g,cap,rfl,hg1,hg2⟩:=hown.form (by omega)
   have hQ1:Q w w1:=(hQ.alloc hQ.size _).trans (hB1.mono hQ.size)
   have g0:=hv.cell 0
   simp only[List.getElem?_cons_zero]at g0
   have e0:=hown.cellAt 0 (by omega)
   have e1:=hown.cellAt 1 (by omega)
   have ef:=hown.frozenAt 0
   have ef1:=hown.frozenAt 1
   simp only[zs4,zs5]at e0 e1
   have hcaz:(ze (c*a) == [48])=false:=by
    rw[beq_eq_false_iff_ne,← zah];exact fun h=>hca0 (zaJ h)
   have hV:=zf3 hl8
   have hV0:=zV (left:Rat)
   have hU:=zf3 hca
   have hU0:=zV (c*a)
   go_wp2_with fail
   go_loopw [10,47] (fun o i wr2=>(o=.slice none 0 0∧i=.int .i64 0∧wr2=w1)∨(i=.int .i64 1∧Q w wr2∧wr2.ownsRow w.heap.size 84 2 o 1 [.string ⟨(ze (c*a)).toArray⟩,.string ⟨(ze (left:Rat)).toArray⟩])) (fun _ i _=>1 - (intOf i).toNat)
   case atStart=>exact .inl ⟨rfl,rfl,rfl⟩
   case round =>
    rcases hrel with⟨rfl,rfl,rfl⟩|⟨rfl,hQ2,hout⟩
    ·go_wp2_with fail
     have BT:=Blk.new wr [.string ⟨(ze (c*a)).toArray⟩,.string ⟨(ze (left:Rat)).toArray⟩] 148
     have hq0:=hQ1.alloc hQ1.size (Obj.cells [.string ⟨(ze (c*a)).toArray⟩,.string ⟨(ze (left:Rat)).toArray⟩].toArray 148)
     refine(zeO (c*a) hca _ (hE.q hq0)).mono ?_
     rintro e w2⟨rfl,hq2⟩
     have hQ2:=hq0.trans (hq2.mono hq0.size)
     have B2:=BT.keep hq2 BT.lt
     have d1:=B2.cell 1
     simp only[zs4,zs5]at d1
     clear hq0 hq2 BT e0 e1 ef ef1 g0 hown hv hg1 hg2
     go_wp2_with fail
     refine(zeO (left:Rat) hl8 _ (hE.q hQ2)).mono ?_
     rintro e w3⟨rfl,hq3⟩
     have hQ3:=hQ2.trans (hq3.mono hQ2.size)
     have B3:=B2.keep hq3 B2.lt
     have d0:=B3.cell 0
     have d2:=B3.cell 1
     simp only[zs4,zs5]at d0 d2
     clear hQ2 hq3 B2 d1
     have hnew:=Blk.new w3 [.string ⟨(ze (c*a)).toArray⟩,.string ⟨(ze (left:Rat)).toArray⟩] 84
     have hsz3:w.heap.size≤w3.heap.size:=hQ3.size
     go_wp2_with (at_builtin;refine wpList_append_lies _ (by rfl) (.tmp 64) (.tmp 70) 46 (by rfl) w.heap.size 84 i0 _ 2 32 Tryz.underlying46 HI.out HZ.out HS.out HB.out rfl (by decide) (.slice none 0 0) 0 [] (by rfl) (World.ownsRow_nil _ _ _ _) ⟨w3.heap.size,0,none⟩ 1 1 [.string ⟨(ze (c*a)).toArray⟩,.string ⟨(ze (left:Rat)).toArray⟩] (by rfl) (by rfl) (World.news_of_block (cs:=#[.string ⟨(ze (c*a)).toArray⟩,.string ⟨(ze (left:Rat)).toArray⟩]) (t:=84) (fr:=(0,0)) hnew) (by simp[Value.oneCell']) (by decide) (by decide) (by decide) (by simp;omega) (w3.heap.size+1) (by simp) ?_;intro g4 cap4 w4 hown4 hgrow4 hat4 hlt4)
     go_roundw
     case rel =>
      exact .inr ⟨rfl,(hQ3.alloc hQ3.size _).grown hgrow4 (by simp;omega) (by simp[Value.ownBlock]),hown4⟩
     case measure=>simp[intOf]
    ·obtain⟨g',cap',rfl,hg1',hg2'⟩:=hout.form (by omega)
     go_wp2_with fail
     refine(zeQ _ _ _ _).mono ?_
     rintro e w2⟨⟨u,rfl⟩,rfl⟩
     go_wp2
     go_ret2
     exact⟨_,rfl,hQ2,hout⟩
end
section
open Go.RowKit Kp
theorem zl0:zaG 400=(20,1):=by
 simp[zaG,zK,zJ,zbb,zn]
theorem zgo{q:Rat}{n:Int}{d:Nat}(hn:q.num=n)(hd:q.den=d)(h:n.natAbs<100000000∧d<100000000):zF q:=by
 unfold zF;rw[hn,hd];exact h
theorem zsE:zF (25/16):=zgo (n:=25) (d:=16) (by kernel_rfl) (by kernel_rfl) (by decide)
theorem s54:zF (5/4):=zgo (n:=5) (d:=4) (by kernel_rfl) (by kernel_rfl) (by decide)
theorem s1:zF ((1:Nat):Rat):=zgo (n:=1) (d:=1) (by kernel_rfl) (by kernel_rfl) (by decide)
theorem zpt{q r:Rat}(a b:Int)(ha:q.num=a)(hb:r.num=b)(h:a≠b):q≠r:=by
 intro e;rw[e,hb]at ha;exact h ha.symm
theorem zrA{q:Rat}(a:Int)(ha:q.num=a)(h:0<a):0<q.num:=by rw[ha];exact h
theorem zsi:(25/16:Rat).num.toNat*(25/16:Rat).den=400:=by kernel_rfl
theorem d25:(16/25:Rat).den=25:=by kernel_rfl
theorem d16:(25/16:Rat).den=16:=by kernel_rfl
theorem v54:Rat.divInt ((20:Nat):Int) ((16:Nat):Int)=5/4:=by kernel_rfl
theorem v1:((1:Nat):Rat)=1:=by kernel_rfl
end
section
open Go.RowKit Kp
theorem zjG(g h c1 c2:Nat)(s1 s2:Str)(w:World)(a0:w.cell? ⟨g,0,none⟩=some (.string ⟨s1.toArray⟩))(a1:w.cell? ⟨g,1,none⟩=some (.string ⟨s2.toArray⟩))
  (b0:w.cell? ⟨h,0,none⟩=some (.string ⟨s1.toArray⟩))(b1:w.cell? ⟨h,1,none⟩=some (.string ⟨s2.toArray⟩)) :
  Calls Tryz.prog 30 #[.slice (some ⟨g,0,none⟩) 1 c1,.slice (some ⟨h,0,none⟩) 1 c2] w fun e w'=>e=.returned (.bool true)∧∃ n,w'=w.drewN n:=by
 go_enter Tryz.func30,Tryz.ntmps30
 go_wp2
 go_loopw [5] (fun i wr=>(i=.int .i64 0∨i=.int .i64 1)∧∃ n,wr=w.drewN n) (fun i _=>1 - (intOf i).toNat)
 case atStart=>exact⟨.inl rfl,0,rfl⟩
 case round =>
  obtain⟨hi,n,rfl⟩:=hrel
  rcases hi with rfl | rfl
  ·go_wp2
   try go_quiet (fail)
   go_wp2
   go_roundw
   case rel=>exact⟨.inr rfl,_,rfl⟩
   case measure=>simp[intOf]
  ·go_wp2
   go_ret
   exact⟨rfl,_,rfl⟩
end
section
open Go.RowKit Kp
theorem znF(P:Program)(a b:Str)(h:a.length+b.length≤1000)(w:World):(Op.stringOp .add ⟨a.toArray⟩ ⟨b.toArray⟩).run P w=.ok (.string ⟨(a++b).toArray⟩) w:=by
 rw[run_string_add_sum w _ _ (by show a.length+b.length≤_;omega),ByteArray.mk_append_mk]
end
section
open Go.ChangeShapes Go.WideShapes Go.ChangeAt Go.RowKit Go.Deep Kp
theorem own:ownKnob Tryz.prog.godebug=none:=by kernel_rfl
theorem laidOut:laidOutB Tryz.prog=true:=by kernel_rfl
theorem zbJ{P:Program}{w:World}{n:String}{d:DataW Unit}:∀ {l:List (String × DataW Unit)} {ps:List MemPlace},DataW.LaidVars P w l ps→(n,d)∈l →
  ∃ g t cs fuel p,P.globalNamed n=some g∧(P.globals[g]?).map (·.type)=some t∧w.var? P n=some cs∧DataW.trod (fun _=>()) P w 0 (fun _=>true) false fuel t cs.toList=some (d,p)
 | [],_,_,hm=>by cases hm
 | (m,e)::r,ps,h,hm=>by
  obtain⟨g,t,cs,fuel,p,q,e1,e2,e3,e4,hr,rfl⟩:=h
  rcases List.mem_cons.1 hm with hm | hm
  ·cases hm;exact⟨g,t,cs,fuel,p,e1,e2,e3,e4⟩
  ·exact zbJ hr hm
theorem zlu{H:Type}{enc:TypeId × Value→H}{P:Program}{w:World}{base:Nat}{sp:Nat→Bool}{held:Bool}{fuel:Nat}{t e:TypeId}{n:Nat}{cs:List Value}{ls:List Str}{p:List MemPlace}
  (ht:P.underlying t=some (.array n e))(he:P.underlying e=some .string)(hce:P.cellsOf e=1)(hct:P.cellsOf t=n)
  (h:DataW.trod enc P w base sp held fuel t cs=some (.agg (ls.map fun s=>.lit (.string s)),p)):cs=ls.map fun s=>Value.string ⟨s.toArray⟩:=by
 cases fuel with
 | zero=>simp[DataW.trod]at h
 | succ fuel =>
  simp only[DataW.trod,ht,hce,hct,Nat.mul_one]at h
  split at h
  ·rename_i hl
   obtain⟨xs,hm,hx⟩:=Option.map_eq_some_iff.1 h
   have hxs:xs.map (·.1)=ls.map fun s=>(DataW.lit (.string s):DataW H):=by
    have:=congrArg Prod.fst hx
    simpa using this
   have hxl:xs.length=n:=by simpa using Lib.mapM_length hm
   have hzl:ls.length=n:=by
    have:=congrArg List.length hxs
    simp at this
    omega
   apply List.ext_getElem?
   intro i
   by_cases hi:i<n
   ·obtain⟨b,hb,hf⟩:=Lib.mapM_at hm i i (by simp[hi])
    obtain⟨z,hc,rfl,_⟩:=DataW.trod_string he hf
    have h1:cs[i]? = some (.string z):=by
     have:=congrArg (·[0]?) hc
     simpa[List.getElem?_take,List.getElem?_drop]using this
    have h2:(xs.map (·.1))[i]? = some (DataW.lit (.string z.data.toList):DataW H):=by simp[hb]
    rw[hxs]at h2
    simp only[List.getElem?_map,Option.map_eq_some_iff,DataW.lit.injEq,Lit.string.injEq]at h2
    obtain⟨z',hz',he'⟩:=h2
    have e3:z=⟨z'.toArray⟩:=by rw[he']
    simp[h1,hz',e3]
   ·rw[List.getElem?_eq_none (by omega),List.getElem?_eq_none (by simp;omega)]
  ·cases h
theorem zoU{P:Program}{w:World}{name:String}{g:Nat}{l:List Str}{cs:Array Value}(hg:P.globalNamed name=some g)(hv:w.var? P name=some cs)(hc:cs.toList=l.map fun s=>Value.string ⟨s.toArray⟩):zg5 w g l:=by
 unfold World.var? at hv
 rw[hg]at hv
 simp only[Option.bind_some]at hv
 cases hh:w.heap[g]? with
 | none=>rw[hh]at hv;cases hv
 | some o =>
  rw[hh]at hv
  cases o <;> simp at hv
  rename_i c t f
  subst hv
  exact⟨t,f,by rw[hh,← hc]⟩
theorem zl7{P:Program}{w:World}{g:Nat}(h:w.ShapedOpen P)(hg:g<P.globals.size)(h0:(((begin P (fun _ _=>0) default).world.heap[g]?).bind Obj.row?).isSome=true):g<w.heap.size:=by
 obtain⟨⟨zero,t⟩,e⟩:=Option.isSome_iff_exists.1 h0
 obtain⟨cs,hh,_⟩:=h.1 g zero t hg e
 exact(Array.getElem?_eq_some_iff.1 hh).1
theorem zpM : Tryz.prog.globalNamed "kingpost/root.primes" = some 2 := by kernel_rfl
theorem zr8:(Tryz.prog.globals[3]?).map (·.type)=some 339:=by kernel_rfl
theorem zrm:(Tryz.prog.globals[2]?).map (·.type)=some 328:=by kernel_rfl
theorem znO:(Tryz.prog.globals[5]?).map (·.type)=some 229:=by kernel_rfl
theorem zoS:(Tryz.prog.globals[6]?).map (·.type)=some 229:=by kernel_rfl
theorem zsr:Tryz.prog.cellsOf 339=20:=by kernel_rfl
theorem zsV:Tryz.prog.cellsOf 291=1:=by kernel_rfl
theorem zrS:Tryz.prog.cellsOf 328=25:=by kernel_rfl
theorem zrR:Tryz.prog.cellsOf 9=1:=by kernel_rfl
theorem zpN : Tryz.prog.globalNamed "kingpost/surd.signPlaces" = some 0 := by kernel_rfl
theorem zrn:(Tryz.prog.globals[0]?).map (·.type)=some 172:=by kernel_rfl
theorem zrT:Tryz.prog.cellsOf 172=3:=by kernel_rfl
theorem zsW:Tryz.prog.cellsOf 3=1:=by kernel_rfl
theorem zpE{P:Program}{w:World}{name:String}{g:Nat}{l:List Int}{cs:Array Value}(hg:P.globalNamed name=some g)(hv:w.var? P name=some cs)(hc:cs.toList=l.map fun z=>Value.int .i64 z):∃ t f,w.heap[g]? = some (.cells (l.map fun z=>Value.int .i64 z).toArray t f):=by
 unfold World.var? at hv
 rw[hg]at hv
 simp only[Option.bind_some]at hv
 cases hh:w.heap[g]? with
 | none=>rw[hh]at hv;cases hv
 | some o =>
  rw[hh]at hv
  cases o <;> simp at hv
  rename_i c t f
  subst hv
  exact⟨t,f,by rw[← hc]⟩
theorem zso : Tryz.prog.globalNamed "kingpost/front.directions" = some 1 := by kernel_rfl
theorem zsD:(Tryz.prog.globals[1]?).map (·.type)=some 197:=by kernel_rfl
theorem zsP:Tryz.prog.cellsOf 197=8:=by kernel_rfl
theorem zsS:Tryz.prog.cellsOf 196=2:=by kernel_rfl
theorem zg0{W:World}{fuel:Nat}{cs:List Value}{b:Bool}{z:Int}{y:DataW Unit × List MemPlace}(h:DataW.trod (fun _=>()) Tryz.prog W 0 (fun _=>true) false fuel 196 cs=some y)(hy:y.1=.agg [.lit (.bool b),.lit (.int .i64 z)]):cs=[.bool b,.int .i64 z]:=by
 obtain⟨y0,y1,n,rfl,hl,h0,h1⟩:=trod_struct2 Tryz.underlying196 h
 obtain⟨b',e0,rfl⟩:=DataW.trod_bool Tryz.underlying4 h0
 obtain⟨z',e1,rfl,_⟩:=DataW.trod_int Tryz.underlying3 h1
 rw[zsS]at hl
 simp only[DataW.agg.injEq,List.cons.injEq,DataW.lit.injEq,Lit.bool.injEq,Lit.int.injEq,true_and,and_true]at hy
 obtain⟨rfl,rfl⟩:=hy
 match cs,hl with
 | [c0,c1],_ =>
  have e0':[c0]=[.bool b']:=e0
  have e1':[c1]=[.int .i64 z']:=e1
  injection e0' with e0' _
  injection e1' with e1' _
  rw[e0',e1']
theorem zlv{W:World}{fuel:Nat}{cs:List Value}{p:List MemPlace}(h:DataW.trod (fun _=>()) Tryz.prog W 0 (fun _=>true) false fuel 197 cs=some (Rows.laid_kingpost_front_directions,p)):cs=zqT:=by
 obtain⟨xs,m,_,hx,hl,hxl,hf⟩:=DataW.trod_array Tryz.underlying197 h
 rw[zsP]at hl
 have e:(Rows.laid_kingpost_front_directions:DataW Unit)=.agg [.agg [.lit (.bool false),.lit (.int .i64 1)],.agg [.lit (.bool true),.lit (.int .i64 (-1))],.agg [.lit (.bool false),.lit (.int .i64 (-1))],.agg [.lit (.bool true),.lit (.int .i64 1)]]:=rfl
 rw[e]at hx
 match xs,hxl with
 | [y0,y1,y2,y3],_ =>
  have h0:=hf 0 (by decide)
  have h1:=hf 1 (by decide)
  have h2:=hf 2 (by decide)
  have h3:=hf 3 (by decide)
  rw[zsS]at h0 h1 h2 h3
  simp only[List.map_cons,List.map_nil,Prod.mk.injEq,DataW.agg.injEq,List.cons.injEq,and_true]at hx
  obtain⟨⟨x0,x1,x2,x3⟩,_⟩:=hx
  have g0:=zg0 h0 x0.symm
  have g1:=zg0 h1 x1.symm
  have g2:=zg0 h2 x2.symm
  have g3:=zg0 h3 x3.symm
  match cs,hl with
  | [c0,c1,c2,c3,c4,c5,c6,c7],_ =>
   have g0':[c0,c1]=_:=g0
   have g1':[c2,c3]=_:=g1
   have g2':[c4,c5]=_:=g2
   have g3':[c6,c7]=_:=g3
   simp only[List.cons.injEq,and_true]at g0' g1' g2' g3'
   rw[g0'.1,g0'.2,g1'.1,g1'.2,g2'.1,g2'.2,g3'.1,g3'.2]
   rfl
theorem zpW {W : World} {cs : Array Value} (hv : W.var? Tryz.prog "kingpost/front.directions" = some cs) (hc : cs.toList = zqT) : zrk W := by
 unfold World.var? at hv
 rw[zso]at hv
 simp only[Option.bind_some]at hv
 cases hh:W.heap[1]? with
 | none=>rw[hh]at hv;cases hv
 | some o =>
  rw[hh]at hv
  cases o <;> simp at hv
  rename_i c t f
  subst hv
  exact⟨t,f,by rw[hh,← hc]⟩
theorem zny{W:World}{name nm:String}{cs:Array Value}{fuel:Nat}{d:DataW Unit}{p:List MemPlace}(hv:W.var? Tryz.prog name=some cs)(hd:DataW.trod (fun _=>()) Tryz.prog W 0 (fun _=>true) false fuel 229 cs.toList=some (.iface nm d,p)) :
  ∃ tp q,W.var? Tryz.prog name=some #[.iface tp q]:=by
 obtain⟨_,u,v,e,_⟩:=iface_of_trod Tryz.underlying229 hd
 exact⟨u,v,by rw[hv];congr 1;exact Array.toList_inj.1 e⟩
structure Listed (L:List (String × DataW Unit)):Prop where
 plain:(L.all fun x=>x.2.handleName?.isNone)=true
 pow10 : ("internal/strconv.uint64pow10", Rows.laid_internal_strconv_uint64pow10) ∈ L
 errSyntax : ("strconv.ErrSyntax", Rows.laid_strconv_ErrSyntax) ∈ L
 errRange : ("strconv.ErrRange", Rows.laid_strconv_ErrRange) ∈ L
 primes : ("kingpost/root.primes", Rows.laid_kingpost_root_primes) ∈ L
 places : ("kingpost/surd.signPlaces", Rows.laid_kingpost_surd_signPlaces) ∈ L
 dirs : ("kingpost/front.directions", Rows.laid_kingpost_front_directions) ∈ L
theorem Env.of{W : World}{L : List (String × DataW Unit)}(hsh : W.ShapedOpen Tryz.prog)(hl : laidMetH Tryz.prog L W)(hL : Listed L) : Env W := by
  have hl := (laidMetH_iff.1 hl).1
  rw[List.filter_eq_self.2 (fun x hx => List.all_eq_true.1 hL.plain x hx)]at hl
  obtain⟨ps, hv, _⟩ := hl
  obtain⟨g1, t1, cs1, f1, p1, a1, b1, c1, d1⟩ := zbJ hv hL.pow10
  obtain⟨g2, t2, cs2, f2, p2, a2, b2, c2, d2⟩ := zbJ hv hL.errSyntax
  obtain⟨g3, t3, cs3, f3, p3, a3, b3, c3, d3⟩ := zbJ hv hL.errRange
  obtain⟨g4, t4, cs4, f4, p4, a4, b4, c4, d4⟩ := zbJ hv hL.primes
  obtain rfl := Option.some.inj (a1.symm.trans zrd)
  obtain rfl := Option.some.inj (a2.symm.trans zke)
  obtain rfl := Option.some.inj (a3.symm.trans zmm)
  obtain rfl := Option.some.inj (a4.symm.trans zpM)
  obtain rfl := Option.some.inj (b1.symm.trans zr8)
  obtain rfl := Option.some.inj (b2.symm.trans znO)
  obtain rfl := Option.some.inj (b3.symm.trans zoS)
  obtain rfl := Option.some.inj (b4.symm.trans zrm)
  obtain⟨g6, t6, cs6, f6, p6, a6, b6, c6, d6⟩ := zbJ hv hL.places
  obtain rfl := Option.some.inj (a6.symm.trans zpN)
  obtain rfl := Option.some.inj (b6.symm.trans zrn)
  have e6 : (Rows.laid_kingpost_surd_signPlaces : DataW Unit) = Lib.tabData .i64 [4, 16, 64] := rfl
  rw[e6]at d6
  obtain⟨g7, t7, cs7, f7, p7, a7, b7, c7, d7⟩ := zbJ hv hL.dirs
  obtain rfl := Option.some.inj (a7.symm.trans zso)
  obtain rfl := Option.some.inj (b7.symm.trans zsD)
  have e1 : (Rows.laid_internal_strconv_uint64pow10 : DataW Unit) = Lib.tabData .u64 Lib.pow10Tab := rfl
  have e4 : (Rows.laid_kingpost_root_primes : DataW Unit) = .agg (zdr.map fun s => .lit (.string s)) := rfl
  rw[e1]at d1
  rw[e4]at d4
  exact
  { size := Nat.succ_le_of_lt (zl7 (g := ng - 1) hsh (of_decide_eq_true (by kernel_rfl)) (by kernel_rfl))
    maxlen := cell_of_shapedOpen_int (zero := #[.int .i64 0]) (t := 3) hsh (of_decide_eq_true (by kernel_rfl)) (by kernel_rfl) rfl (by kernel_rfl) (by kernel_rfl) Tryz.underlying3
    pow10 := by unfold Lib.TabIs;rw[c1, ← Lib.cells_of_tab Tryz.underlying339 Tryz.underlying291 zsV zsr d1]
    errSyntax := zny c2 d2
    errRange := zny c3 d3
    primes := zoU zpM c4 (zlu Tryz.underlying328 Tryz.underlying9 zrR zrS d4)
    places := zpE (l := [4, 16, 64]) zpN c6 (Lib.cells_of_tab Tryz.underlying172 Tryz.underlying3 zsW zrT d6)
    dirs := zpW c7 (zlv d7)
 }
end
section
open Go.ChangeShapes Go.WideShapes Go.ChangeAt Go.RowKit Go.Deep Kp
section
variable {H:Type} {enc:TypeId × Value→H} {P:Program} {w:World} {base:Nat} {spare:Nat→Bool} {held:Bool}
theorem zgi(hl:laidOutB P=true){W W':World}(hb:Below W.heap.size W W') :
  ∀ {ts:List TypeId} {vs:List Value} {ds:List (DataW H)} {ps:List MemPlace},(ts.all fun t=>P.readableRec t && decide (t<P.types.size))=true→DataW.TrodAll enc P W 0 (fun _=>true) true ts vs ds ps→(∀ x∈ps,x.block<W.heap.size) →
   DataW.TrodAll enc P W' 0 (fun b=>decide (b<W.heap.size)) true ts vs ds ps
 | [],vs,ds,ps,_,h,_=>by
  obtain⟨rfl,rfl,rfl⟩:=trodAll_nil h
  exact trodAll_mk0
 | t::ts,vs,ds,ps,ht,h,hlt=>by
  obtain⟨v,vs',d,ds',p,q,rfl,rfl,rfl,h1,h2⟩:=trodAll_cons h
  simp only[List.all_cons,Bool.and_eq_true,decide_eq_true_eq]at ht
  exact trodAll_cons_mk (Below.trod hl ht.1.1 ht.1.2 h1 hb (fun x hx=>hlt x (by simp[hx]))) (zgi hl hb ht.2 h2 (fun x hx=>hlt x (by simp[hx])))
end
theorem zqE{H:Type}{enc:TypeId × Value→H}{fn:Func}{s:ChangeSpec}{W W':World}{args:Array Value}{ds gs:List (DataW H)}{before:List MemPlace}
  (hW:DataW.Whole enc Tryz.prog fn.params.toList s.vars false W args.toList ds gs before)(hrt:fn.resultTypes=#[4])(hv:s.vars=[])
  (hres:(s.fn H (ds++gs)).results=[.lit (.bool true)])(hargs:(s.fn H (ds++gs)).args=ds)(hvars:(s.fn H (ds++gs)).vars=[])
  (hty:(fn.params.toList.all fun t=>Tryz.prog.readableRec t && decide (t<Tryz.prog.types.size))=true)(hb:Below W.heap.size W W') :
  s.post enc Tryz.prog fn false true false false W args (.bool true) W':=by
 have hW':=hW
 obtain⟨p,q,hA,hV,rfl,_,_⟩:=hW
 rw[hv]at hV
 obtain⟨rfl,rfl⟩:=trodVars_none hV
 have hlt:∀ x∈p,x.block<W.heap.size:=fun x hx=>hW'.lt x (by simp[hx])
 refine⟨ds,[],p++[],[],p,[],hW',?_,?_,?_,?_,fun h=>by cases h⟩
 ·rw[hres,hrt];exact trodAll_mk1 (shut_bool Tryz.underlying4 true)
 ·rw[hargs];exact zgi laidOut hb hty hA hlt
 ·rw[hvars,hv];exact rfl
 ·exact hb.frame _
end
section
open Go.ChangeShapes Go.WideShapes Go.ChangeAt Go.RowKit Go.Deep Kp
def zrf:DataW Unit→List Value
 | .lit l=>[l.value]
 | _=>[]
def zre:DataW Unit→List Value
 | .agg l=>l.flatMap zrf
 | d=>zrf d
def cells3:DataW Unit→List Value
 | .agg l=>l.flatMap zre
 | d=>zre d
def zfH(h:Array Obj)(g:Nat)(cs:List Value):Array Obj:=h.modify g fun
 | .cells _ t frozen=>.cells cs.toArray t frozen
 | o=>o
noncomputable def zi5 (os:Os):World :=
 let N:=(World.settled Tryz.prog os).heap.size
 let w0:=World.holding Tryz.prog os ⟨#[.cells #[.string ⟨#[118,97,108,117,101,32,111,117,116,32,111,102,32,114,97,110,103,101]⟩] 384,.cells #[.string ⟨#[105,110,118,97,108,105,100,32,115,121,110,116,97,120]⟩] 384],#[],[]⟩
 let h1:=zfH w0.heap 7 (cells3 Rows.laid_math_bits_deBruijn32tab)
 let h2:=zfH h1 8 (cells3 Rows.laid_math_bits_deBruijn64tab)
 let h3:=zfH h2 3 (cells3 Rows.laid_internal_strconv_uint64pow10)
 let h4:=zfH h3 10 (cells3 Rows.laid_unicode_utf8_acceptRanges)
 let h5:=zfH h4 6 [.iface 382 (.pointer (some ⟨N,0,none⟩))]
 let h6:=zfH h5 5 [.iface 382 (.pointer (some ⟨N+1,0,none⟩))]
 let h7:=zfH h6 2 (cells3 Rows.laid_kingpost_root_primes)
 let h7:=zfH h7 0 (cells3 Rows.laid_kingpost_surd_signPlaces)
 let h7:=zfH h7 1 (cells3 Rows.laid_kingpost_front_directions)
 let h8:=zfH h7 9 (cells3 Rows.laid_unicode_utf8_first)
 { w0 with heap:=h8 }
def zq6 : List (String × DataW Unit) := [("math/bits.deBruijn32tab", Rows.laid_math_bits_deBruijn32tab), ("math/bits.deBruijn64tab", Rows.laid_math_bits_deBruijn64tab), ("internal/strconv.uint64pow10", Rows.laid_internal_strconv_uint64pow10), ("unicode/utf8.acceptRanges", Rows.laid_unicode_utf8_acceptRanges), ("strconv.ErrRange", Rows.laid_strconv_ErrRange), ("strconv.ErrSyntax", Rows.laid_strconv_ErrSyntax),
 ("kingpost/front.directions", Rows.laid_kingpost_front_directions),
 ("kingpost/root.primes", Rows.laid_kingpost_root_primes),
 ("kingpost/surd.signPlaces", Rows.laid_kingpost_surd_signPlaces),
 ("unicode/utf8.first", Rows.laid_unicode_utf8_first)]
theorem listed:Listed zq6 where
 plain:=by kernel_rfl
 pow10:=by simp[zq6]
 errSyntax:=by simp[zq6]
 errRange:=by simp[zq6]
 primes:=by simp[zq6]
 places:=by simp[zq6]
 dirs:=by simp[zq6]
theorem zqF(os:Os)(args:Array Value):laidMet Tryz.prog zq6 ((zi5 os).forCall (fun _ _=>0) ⟨#[],args,[]⟩).memory :=
 laidMet_of_run' 10 (by kernel_rfl) (by kernel_rfl)
end
end Go.Proofs.YtbpghkdadajomaaGreatDoor
