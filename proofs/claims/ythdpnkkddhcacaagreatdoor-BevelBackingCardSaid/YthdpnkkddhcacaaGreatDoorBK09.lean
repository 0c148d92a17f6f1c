/-
  VA VB VC VD, one behind the other.; VE VF VG VH, one behind the other.; Regions that draw their order, of an iterator: the first operations in whatever order, then what is left, the loop's body among it, one by one.; Rows of any elements in memory.
-/
import Derived.Test.YthdpnkkddhcacaaGreatDoorBKSU2
import Derived.Lib.MinMax
import Derived.Test.YthdpnkkddhcacaaGreatDoorBKBI1
set_option maxRecDepth 100000
set_option maxHeartbeats 2000000
namespace Kp
structure P3 where
 x:Rat
 y:Rat
 z:Rat
deriving DecidableEq
namespace P3
def sub(a b:P3):P3:=⟨a.x - b.x,a.y - b.y,a.z - b.z⟩
def add(a b:P3):P3:=⟨a.x+b.x,a.y+b.y,a.z+b.z⟩
def neg(a:P3):P3:=⟨-a.x,-a.y,-a.z⟩
end P3
end Kp
namespace Go.Proofs.YthdpnkkddhcacaaGreatDoor
section
open Go.RowKit Kp
abbrev V3(p:P3):Value:=.agg #[.string ⟨(ze p.x).toArray⟩,.string ⟨(ze p.y).toArray⟩,.string ⟨(ze p.z).toArray⟩]
def B3(n:Nat)(p:P3):Prop:=Bd n p.x∧Bd n p.y∧Bd n p.z
theorem zqx{fn:Func}{m:Tmp}{T:TypeId}(hf:fn.results=#[.cell m T])(hT:T=35∨T=267)(tmps:Array Value)(W:World)(b:Nat)(x y z:Value)(hp:tmps.getD m undef=.pointer (some ⟨b,0,none⟩))
  (c0:W.cell? ⟨b,0,none⟩=some x)(c1:W.cell? ⟨b,1,none⟩=some y)(c2:W.cell? ⟨b,2,none⟩=some z) :
  (results fn tmps).run Tryz.prog W=.ok (.agg #[x,y,z]) W:=by
 simp only[Array.getD_eq_getD_getElem?]at hp
 rcases hT with rfl | rfl <;> simp[results,hf,go_sem,hp,c0,c1,c2]
theorem zqw{fn:Func}{m k:Tmp}{T:TypeId}(hf:fn.results=#[.cell m T,.tmp k])(hT:T=35∨T=267)(tmps:Array Value)(W:World)(b:Nat)(x y z u:Value)(hp:tmps.getD m undef=.pointer (some ⟨b,0,none⟩))(hk:tmps.getD k undef=u)
  (c0:W.cell? ⟨b,0,none⟩=some x)(c1:W.cell? ⟨b,1,none⟩=some y)(c2:W.cell? ⟨b,2,none⟩=some z) :
  (results fn tmps).run Tryz.prog W=.ok (.tuple #[.agg #[x,y,z],u]) W:=by
 simp only[Array.getD_eq_getD_getElem?]at hp hk
 rcases hT with rfl | rfl <;> simp[results,hf,go_sem,hp,hk,c0,c1,c2]
theorem Blk.set3{w:World}{b:Nat}{x y z x' y' z':Value}{t:TypeId}(h:Blk w b [x,y,z] t):Blk (((w.setCell ⟨b,0,none⟩ x').setCell ⟨b,1,none⟩ y').setCell ⟨b,2,none⟩ z') b [x',y',z'] t :=
 ((h.set 0 x').set 1 y').set 2 z'
theorem zfI(X Y Z:Str)(w:World) :
  CR 199 #[.agg #[.string ⟨X.toArray⟩,.string ⟨Y.toArray⟩,.string ⟨Z.toArray⟩]] w (.agg #[.string ⟨X.toArray⟩,.string ⟨Y.toArray⟩,.string ⟨Z.toArray⟩]):=by
 go_enter Tryz.func199,Tryz.ntmps199
 go_wp2
 have BB:=Blk.new (w.alloc (.cells #[.string ⟨X.toArray⟩,.string ⟨Y.toArray⟩,.string ⟨Z.toArray⟩] 181)) [.string ⟨X.toArray⟩,.string ⟨Y.toArray⟩,.string ⟨Z.toArray⟩] 267
 rw[World.size_alloc]at BB
 refine bodyPost_ret (v:=.agg #[.string ⟨X.toArray⟩,.string ⟨Y.toArray⟩,.string ⟨Z.toArray⟩]) (zqx Tryz.results199 (.inr rfl) _ _ (w.heap.size+1) _ _ _ rfl (BB.cell 0) (BB.cell 1) (BB.cell 2)) rfl ⟨rfl,bt⟩
theorem zp7(X Y Z:Str)(w:World) :
  CR 200 #[.agg #[.string ⟨X.toArray⟩,.string ⟨Y.toArray⟩,.string ⟨Z.toArray⟩]] w (.agg #[.string ⟨X.toArray⟩,.string ⟨Y.toArray⟩,.string ⟨Z.toArray⟩]):=by
 go_enter Tryz.func200,Tryz.ntmps200
 go_wp2
 have BB:=Blk.new (w.alloc (.cells #[.string ⟨X.toArray⟩,.string ⟨Y.toArray⟩,.string ⟨Z.toArray⟩] 267)) [.string ⟨X.toArray⟩,.string ⟨Y.toArray⟩,.string ⟨Z.toArray⟩] 35
 rw[World.size_alloc]at BB
 refine bodyPost_ret (v:=.agg #[.string ⟨X.toArray⟩,.string ⟨Y.toArray⟩,.string ⟨Z.toArray⟩]) (zqx Tryz.results200 (.inl rfl) _ _ (w.heap.size+1) _ _ _ rfl (BB.cell 0) (BB.cell 1) (BB.cell 2)) rfl ⟨rfl,bt⟩
theorem zsO(x y z:Value)(w:World):(Instr.index 267 (.agg #[x,y,z]) (.int .i64 0)).run Tryz.prog w=.ok x w:=by kernel_rfl
theorem zsN(x y z:Value)(w:World):(Instr.index 267 (.agg #[x,y,z]) (.int .i64 1)).run Tryz.prog w=.ok y w:=by kernel_rfl
theorem zsM(x y z:Value)(w:World):(Instr.index 267 (.agg #[x,y,z]) (.int .i64 2)).run Tryz.prog w=.ok z w:=by kernel_rfl
theorem ziI(X Y Z:Str)(HX:Hid (∀ w,Env w→CR 77 #[.string ⟨X.toArray⟩] w (.int .i64 0)))
  (HY:Hid (∀ w,Env w→CR 77 #[.string ⟨Y.toArray⟩] w (.int .i64 0)))
  (HZ:Hid (∀ w,Env w→CR 77 #[.string ⟨Z.toArray⟩] w (.int .i64 0)))(w:World)(hE:Env w) :
  CR 160 #[.agg #[.string ⟨X.toArray⟩,.string ⟨Y.toArray⟩,.string ⟨Z.toArray⟩]] w (.int .i64 0):=by
 have HL:=LH (fun w=>zfI X Y Z w)
 go_enter Tryz.func160,Tryz.ntmps160
 have hQ0:=Q.refl w
 go_wp2_with fail
 refine cx (HL.out _) fun w1 hq1=>?_
 have hs1:Q w w1:=Q.trans bt hq1
 have hQ1:Q w w1:=Q.trans hQ0 hs1
 go_wp2
 go_loopw [8] (fun i wr=>(i=.int .i64 0∨i=.int .i64 1∨i=.int .i64 2∨i=.int .i64 3)∧Q w wr) (fun i _=>3 - (intOf i).toNat)
 case atStart=>exact⟨.inl rfl,hQ1⟩
 case round =>
  obtain⟨hi,hQ⟩:=hrel
  clear hQ0 hs1 hq1 hQ1
  rcases hi with rfl | rfl | rfl | rfl
  ·have hi:=zsO (.string ⟨X.toArray⟩) (.string ⟨Y.toArray⟩) (.string ⟨Z.toArray⟩)
   go_wp2_with fail
   refine cx (HX.out _ (hE.ofQ bt)) fun w2 hq2=>?_
   have hQ2:Q w w2:=Q.trans bt hq2
   go_wp2
   go_roundw
   case rel=>exact⟨.inr (.inl rfl),hQ2⟩
   case measure=>simp[intOf]
  ·have hi:=zsN (.string ⟨X.toArray⟩) (.string ⟨Y.toArray⟩) (.string ⟨Z.toArray⟩)
   go_wp2_with fail
   refine cx (HY.out _ (hE.ofQ bt)) fun w2 hq2=>?_
   have hQ2:Q w w2:=Q.trans bt hq2
   go_wp2
   go_roundw
   case rel=>exact⟨.inr (.inr (.inl rfl)),hQ2⟩
   case measure=>simp[intOf]
  ·have hi:=zsM (.string ⟨X.toArray⟩) (.string ⟨Y.toArray⟩) (.string ⟨Z.toArray⟩)
   go_wp2_with fail
   refine cx (HZ.out _ (hE.ofQ bt)) fun w2 hq2=>?_
   have hQ2:Q w w2:=Q.trans bt hq2
   go_wp2
   go_roundw
   case rel=>exact⟨.inr (.inr (.inr rfl)),hQ2⟩
   case measure=>simp[intOf]
  ·go_wp2
   go_ret
   exact⟨rfl,bt⟩
theorem zdj{n:Nat}(p:P3)(h:B3 n p)(hn:n≤300)(w:World)(hE:Env w) :
  CR 160 #[V3 p] w (.int .i64 0) :=
 ziI _ _ _ (LH fun w hw=>zI p.x (h.1.zah hn) w hw) (LH fun w hw=>zI p.y (h.2.1.zah hn) w hw) (LH fun w hw=>zI p.z (h.2.2.zah hn) w hw) w hE
theorem zm6{n m:Nat}(p q:P3)(h:B3 n p)(k:B3 m q)(hn:n≤300)(hm:m≤300)(w:World)(hE:Env w) :
  CR 124 #[V3 p,V3 q] w (.int .i64 0):=by
 have HP:=LH (fun w hw=>zdj p h hn w hw)
 have HQ:=LH (fun w hw=>zdj q k hm w hw)
 clear h k
 unfold V3 at *
 generalize ze p.x=X at *
 generalize ze p.y=Y at *
 generalize ze p.z=Z at *
 generalize ze q.x=X' at *
 generalize ze q.y=Y' at *
 generalize ze q.z=Z' at *
 go_enter Tryz.func124,Tryz.ntmps124
 have hQ0:=Q.refl w
 go_wp2_with fail
 refine cx (HP.out _ (hE.ofQ bt)) fun w1 hq1=>?_
 have hs1:Q w w1:=Q.trans bt hq1
 have hQ1:Q w w1:=Q.trans hQ0 hs1
 have D:=(Blk.new (w.alloc (.cells #[.string ⟨X.toArray⟩,.string ⟨Y.toArray⟩,.string ⟨Z.toArray⟩] 35)) [.string ⟨X'.toArray⟩,.string ⟨Y'.toArray⟩,.string ⟨Z'.toArray⟩] 35).keep hq1 (by first | (simp;done)|(simp;omega))
 rw[World.size_alloc]at D
 replace d0:=D.cell
 replace lD:=D.lt
 go_wp2_with fail
 refine cx (HQ.out _ (hE.ofQ bt)) fun w2 hq2=>?_
 have hs2:Q w1 w2:=Q.trans bt hq2
 have hQ2:Q w w2:=Q.trans hQ1 hs2
 replace D:=D.keep hs2 D.lt
 replace d0:=D.cell
 replace lD:=D.lt
 go_wp2
 go_ret
 exact⟨rfl,bt⟩
def ztQ(K:Nat)(x y z:Str):Prop:=∀ w,Env w→Calls Tryz.prog K #[.string ⟨x.toArray⟩,.string ⟨y.toArray⟩] w fun e w'=>e=.returned (.tuple #[.string ⟨z.toArray⟩,.int .i64 0])∧Q w w'
theorem zm5(K:Nat)(HK:∀ args w,(callFunc K args).run Tryz.prog w=.ok (.enter K args) w)(X Y Z X' Y' Z' U V T:Str)(HU:Hid (ztQ K X X' U))(HV:Hid (ztQ K Y Y' V))(HT:Hid (ztQ K Z Z' T))(w:World)(hE:Env w) :
  Calls Tryz.prog 125 #[.agg #[.string ⟨X.toArray⟩,.string ⟨Y.toArray⟩,.string ⟨Z.toArray⟩],.agg #[.string ⟨X'.toArray⟩,.string ⟨Y'.toArray⟩,.string ⟨Z'.toArray⟩],.func (.func K) #[] #[]] w fun e w' =>
   e=.returned (.tuple #[.agg #[.string ⟨U.toArray⟩,.string ⟨V.toArray⟩,.string ⟨T.toArray⟩],.int .i64 0])∧Q w w':=by
 have HL:=LH (fun w=>zfI X Y Z w)
 have HL':=LH (fun w=>zfI X' Y' Z' w)
 have HO:=LH (fun w=>zp7 U V T w)
 go_enter Tryz.func125,Tryz.ntmps125
 have hQ0:=Q.refl w
 go_wp2_with fail
 refine cx (HL'.out _) fun w1 hq1=>?_
 have hs1:Q w w1:=Q.trans bt hq1
 have hQ1:Q w w1:=Q.trans hQ0 hs1
 have R:=(((Blk.new ((w.alloc (.cells #[.string ⟨X.toArray⟩,.string ⟨Y.toArray⟩,.string ⟨Z.toArray⟩] 181)).alloc (.cells #[.string ⟨X'.toArray⟩,.string ⟨Y'.toArray⟩,.string ⟨Z'.toArray⟩] 181)) [.string ⟨#[]⟩,.string ⟨#[]⟩,.string ⟨#[]⟩] 35).alloc (.cells #[.string ⟨#[]⟩,.string ⟨#[]⟩,.string ⟨#[]⟩] 267))).keep hq1 (by first | (simp;done)|(simp;omega))
 have O:=(Blk.new (((w.alloc (.cells #[.string ⟨X.toArray⟩,.string ⟨Y.toArray⟩,.string ⟨Z.toArray⟩] 181)).alloc (.cells #[.string ⟨X'.toArray⟩,.string ⟨Y'.toArray⟩,.string ⟨Z'.toArray⟩] 181)).alloc (.cells #[.string ⟨#[]⟩,.string ⟨#[]⟩,.string ⟨#[]⟩] 35)) [.string ⟨#[]⟩,.string ⟨#[]⟩,.string ⟨#[]⟩] 267).keep hq1 (by first | (simp;done)|(simp;omega))
 have A:=(((Blk.new w [.string ⟨X.toArray⟩,.string ⟨Y.toArray⟩,.string ⟨Z.toArray⟩] 181).alloc (.cells #[.string ⟨X'.toArray⟩,.string ⟨Y'.toArray⟩,.string ⟨Z'.toArray⟩] 181)).alloc (.cells #[.string ⟨#[]⟩,.string ⟨#[]⟩,.string ⟨#[]⟩] 35) |>.alloc (.cells #[.string ⟨#[]⟩,.string ⟨#[]⟩,.string ⟨#[]⟩] 267)).keep hq1 (by first | (simp;done)|(simp;omega))
 simp only[World.size_alloc]at R O
 have a0:=A.cell
 have lA:=A.lt
 have D0:=Blk.new w1 [.string ⟨X'.toArray⟩,.string ⟨Y'.toArray⟩,.string ⟨Z'.toArray⟩] 267
 go_wp2_with fail
 refine cx (HL.out _) fun w2 hq2=>?_
 have hs2:Q w1 w2:=Q.trans bt hq2
 have hQ2:Q w w2:=Q.trans hQ1 hs2
 have lR:=R.lt
 have lO:=O.lt
 have hz2:w1.heap.size<w2.heap.size:=by have:=hs2.size;have:=hq2.size;simp at this;omega
 have D:Blk w2 w1.heap.size [.string ⟨X'.toArray⟩,.string ⟨Y'.toArray⟩,.string ⟨Z'.toArray⟩] 267:=D0.keep hq2 (by simp)
 replace R:=R.keep hs2 R.lt
 replace O:=O.keep hs2 O.lt
 have hn1:w.heap.size+3<w1.heap.size:=lO
 clear D0 A a0 lA hq1 hq2 hs1 hs2 hQ1 hQ0 HL HL'
 go_wp2
 go_loopw [18] (fun i wr=>Q w wr∧Blk wr (w.heap.size+2) [.string ⟨#[]⟩,.string ⟨#[]⟩,.string ⟨#[]⟩] 35∧Blk wr w1.heap.size [.string ⟨X'.toArray⟩,.string ⟨Y'.toArray⟩,.string ⟨Z'.toArray⟩] 267 ∧
  ((i=.int .i64 0∧Blk wr (w.heap.size+3) [.string ⟨#[]⟩,.string ⟨#[]⟩,.string ⟨#[]⟩] 267)∨(i=.int .i64 1∧Blk wr (w.heap.size+3) [.string ⟨U.toArray⟩,.string ⟨#[]⟩,.string ⟨#[]⟩] 267)∨(i=.int .i64 2∧Blk wr (w.heap.size+3) [.string ⟨U.toArray⟩,.string ⟨V.toArray⟩,.string ⟨#[]⟩] 267)∨(i=.int .i64 3∧Blk wr (w.heap.size+3) [.string ⟨U.toArray⟩,.string ⟨V.toArray⟩,.string ⟨T.toArray⟩] 267))) (fun i _=>3 - (intOf i).toNat)
 case atStart=>exact⟨hQ2,R,D,.inl ⟨rfl,O⟩⟩
 case round =>
  clear R D O lR lO hQ2 hz2
  obtain⟨hQ,R,D,hi⟩:=hrel
  rcases hi with⟨rfl,O⟩|⟨rfl,O⟩|⟨rfl,O⟩|⟨rfl,O⟩
  ·have hi:=zsO (.string ⟨X.toArray⟩) (.string ⟨Y.toArray⟩) (.string ⟨Z.toArray⟩)
   have d0:=D.cell 0
   simp only[List.getElem?_cons_zero]at d0
   have lD:=D.lt
   go_wp2_with fail
   refine cx (HU.out _ (hE.ofQ bt)) fun w3 hq3=>?_
   have hs3:Q wr w3:=Q.trans bt hq3
   have hQ3:Q w w3:=Q.trans hQ hs3
   replace R:=R.keep hs3 R.lt
   replace D:=D.keep hs3 D.lt
   replace O:=O.keep hs3 O.lt
   clear d0
   have f0:=O.frozen 0
   have o0:=O.cell 0
   simp only[List.getElem?_cons_zero]at o0
   go_wp2
   go_roundw
   case rel=>exact⟨bt,R.setOther (by omega) _ _,D.setOther (by omega) _ _,.inr (.inl ⟨rfl,O.set 0 _⟩)⟩
   case measure=>simp[intOf]
  ·have hi:=zsN (.string ⟨X.toArray⟩) (.string ⟨Y.toArray⟩) (.string ⟨Z.toArray⟩)
   have d0:=D.cell 1
   simp only[zs4,zs5]at d0
   have lD:=D.lt
   go_wp2_with fail
   refine cx (HV.out _ (hE.ofQ bt)) fun w3 hq3=>?_
   have hs3:Q wr w3:=Q.trans bt hq3
   have hQ3:Q w w3:=Q.trans hQ hs3
   replace R:=R.keep hs3 R.lt
   replace D:=D.keep hs3 D.lt
   replace O:=O.keep hs3 O.lt
   clear d0
   have f0:=O.frozen 1
   have o0:=O.cell 1
   simp only[zs4,zs5]at o0
   go_wp2
   go_roundw
   case rel=>exact⟨bt,R.setOther (by omega) _ _,D.setOther (by omega) _ _,.inr (.inr (.inl ⟨rfl,O.set 1 _⟩))⟩
   case measure=>simp[intOf]
  ·have hi:=zsM (.string ⟨X.toArray⟩) (.string ⟨Y.toArray⟩) (.string ⟨Z.toArray⟩)
   have d0:=D.cell 2
   simp only[zs4,zs5]at d0
   have lD:=D.lt
   go_wp2_with fail
   refine cx (HT.out _ (hE.ofQ bt)) fun w3 hq3=>?_
   have hs3:Q wr w3:=Q.trans bt hq3
   have hQ3:Q w w3:=Q.trans hQ hs3
   replace R:=R.keep hs3 R.lt
   replace D:=D.keep hs3 D.lt
   replace O:=O.keep hs3 O.lt
   clear d0
   have f0:=O.frozen 2
   have o0:=O.cell 2
   simp only[zs4,zs5]at o0
   go_wp2
   go_roundw
   case rel=>exact⟨bt,R.setOther (by omega) _ _,D.setOther (by omega) _ _,.inr (.inr (.inr ⟨rfl,O.set 2 _⟩))⟩
   case measure=>simp[intOf]
  ·have o0:=O.cell 0
   have o1:=O.cell 1
   have o2:=O.cell 2
   simp only[zs4,zs5]at o0 o1 o2
   go_wp2_with fail
   refine cx (HO.out _) fun w3 hq3=>?_
   have hs3:Q wr w3:=Q.trans bt hq3
   have hQ3:Q w w3:=Q.trans hQ hs3
   replace R:=R.keep hs3 R.lt
   clear o0 o1 o2
   have r0:=R.cell
   have f0:=R.frozen 0
   have f1:=R.frozen 1
   have f2:=R.frozen 2
   go_wp2
   refine bodyPost_ret (v:=.tuple #[.agg #[.string ⟨U.toArray⟩,.string ⟨V.toArray⟩,.string ⟨T.toArray⟩],.int .i64 0]) (zqw Tryz.results125 (.inl rfl) _ _ (w.heap.size+2) _ _ _ _ rfl rfl (R.set3.cell 0) (R.set3.cell 1) (R.set3.cell 2)) rfl ⟨rfl,bt⟩
theorem zrc:∀ args w,(callFunc 64 args).run Tryz.prog w=.ok (.enter 64 args) w:=fun _ _=>by kernel_rfl
theorem zmP:∀ args w,(callFunc 66 args).run Tryz.prog w=.ok (.enter 66 args) w:=fun _ _=>by kernel_rfl
theorem zra:∀ args w,(callFunc 38 args).run Tryz.prog w=.ok (.enter 38 args) w:=fun _ _=>by kernel_rfl
theorem zoY{n m:Nat}(p q:P3)(h:B3 n p)(k:B3 m q)(hnm:n+m+1≤300)(w:World)(hE:Env w) :
  CR 62 #[V3 p,V3 q] w (.tuple #[V3 (p.sub q),.int .i64 0]):=by
 have HB:=LH (fun w hw=>zm6 p q h k (by omega) (by omega) w hw)
 have HU:Hid (ztQ 66 (ze p.x) (ze q.x) (ze (p.sub q).x)):=LH (fun w hw=>zbJ p.x q.x h.1 k.1 hnm w hw)
 have HV:Hid (ztQ 66 (ze p.y) (ze q.y) (ze (p.sub q).y)):=LH (fun w hw=>zbJ p.y q.y h.2.1 k.2.1 hnm w hw)
 have HT:Hid (ztQ 66 (ze p.z) (ze q.z) (ze (p.sub q).z)):=LH (fun w hw=>zbJ p.z q.z h.2.2 k.2.2 hnm w hw)
 unfold V3 at *
 clear h k
 generalize ze (p.sub q).x=U at *
 generalize ze (p.sub q).y=V at *
 generalize ze (p.sub q).z=T at *
 generalize ze p.x=X at *
 generalize ze p.y=Y at *
 generalize ze p.z=Z at *
 generalize ze q.x=X' at *
 generalize ze q.y=Y' at *
 generalize ze q.z=Z' at *
 have HW:=LH (fun w hw=>zm5 66 zmP X Y Z X' Y' Z' U V T HU HV HT w hw)
 clear HU HV HT
 go_enter Tryz.func62,Tryz.ntmps62
 have hQ0:=Q.refl w
 go_wp2_with fail
 refine cx (HB.out _ (hE.ofQ bt)) fun w1 hq1=>?_
 have hs1:Q w w1:=Q.trans bt hq1
 have hQ1:Q w w1:=Q.trans hQ0 hs1
 have A:=((Blk.new w [.string ⟨X.toArray⟩,.string ⟨Y.toArray⟩,.string ⟨Z.toArray⟩] 35).alloc (.cells #[.string ⟨X'.toArray⟩,.string ⟨Y'.toArray⟩,.string ⟨Z'.toArray⟩] 35) |>.alloc (.cells #[.string ⟨#[]⟩,.string ⟨#[]⟩,.string ⟨#[]⟩] 35)).keep hq1 (by first | (simp;done)|(simp;omega))
 have D:=((Blk.new (w.alloc (.cells #[.string ⟨X.toArray⟩,.string ⟨Y.toArray⟩,.string ⟨Z.toArray⟩] 35)) [.string ⟨X'.toArray⟩,.string ⟨Y'.toArray⟩,.string ⟨Z'.toArray⟩] 35).alloc (.cells #[.string ⟨#[]⟩,.string ⟨#[]⟩,.string ⟨#[]⟩] 35)).keep hq1 (by first | (simp;done)|(simp;omega))
 have R:=(Blk.new ((w.alloc (.cells #[.string ⟨X.toArray⟩,.string ⟨Y.toArray⟩,.string ⟨Z.toArray⟩] 35)).alloc (.cells #[.string ⟨X'.toArray⟩,.string ⟨Y'.toArray⟩,.string ⟨Z'.toArray⟩] 35)) [.string ⟨#[]⟩,.string ⟨#[]⟩,.string ⟨#[]⟩] 35).keep hq1 (by first | (simp;done)|(simp;omega))
 simp only[World.size_alloc]at D R
 replace a0:=A.cell
 replace lA:=A.lt
 replace d0:=D.cell
 replace lD:=D.lt
 go_wp2_with fail
 refine cx (HW.out _ (hE.ofQ bt)) fun w2 hq2=>?_
 have hs2:Q w1 w2:=Q.trans bt hq2
 have hQ2:Q w w2:=Q.trans hQ1 hs2
 replace A:=A.keep hs2 A.lt
 replace a0:=A.cell
 replace lA:=A.lt
 replace D:=D.keep hs2 D.lt
 replace d0:=D.cell
 replace lD:=D.lt
 clear A lA a0
 clear D lD d0
 replace R:=R.keep hs2 R.lt
 have r0:=R.cell
 have f0:=R.frozen 0
 have f1:=R.frozen 1
 have f2:=R.frozen 2
 go_wp2
 refine bodyPost_ret (v:=.tuple #[.agg #[.string ⟨U.toArray⟩,.string ⟨V.toArray⟩,.string ⟨T.toArray⟩],.int .i64 0]) (zqw Tryz.results62 (.inl rfl) _ _ (w.heap.size+2) _ _ _ _ rfl rfl (R.set3.cell 0) (R.set3.cell 1) (R.set3.cell 2)) rfl ⟨rfl,bt⟩
theorem zf4(n a b:Int)(h1:a≤n)(h2:n≤b)(w:World) :
  Calls Tryz.prog 181 #[.int .i64 n,.int .i64 a,.int .i64 b] w fun e w'=>e=.returned (.bool false)∧w=w':=by
 have k1:¬ n<a:=by omega
 have k2:¬ b<n:=by omega
 go_enter Tryz.func181,Tryz.ntmps181
 go_wp2
 all_goals (go_ret;exact⟨rfl,rfl⟩)
theorem zjP{q:Rat}{n:Nat}(h:Bd n q):((zo (Lib.itoa q.num)).length:Int)≤n∧((Lib.itoa (q.den:Int)).length:Int)≤n:=by
 have h1:(zo (Lib.itoa q.num)).length≤n:=by
  rw[zal]
  rcases Nat.eq_zero_or_pos n with rfl | hn
  ·exact absurd h.2 (by have:=q.den_pos;simp;omega)
  ·exact(zl _ n hn).2 h.1
 have h2:(Lib.itoa (q.den:Int)).length≤n:=by
  rw[← zA]
  rcases Nat.eq_zero_or_pos n with rfl | hn
  ·exact absurd h.2 (by have:=q.den_pos;simp;omega)
  ·exact(zl _ n hn).2 h.2
 exact⟨by omega,by omega⟩
theorem zcR.three{w:World}{b:Nat}{s1 s2 s3:Str}{t:TypeId}(h:Blk w b [.string ⟨s1.toArray⟩,.string ⟨s2.toArray⟩,.string ⟨s3.toArray⟩] t):zcR w (.slice (some ⟨b,0,none⟩) 3 3) [s1,s2,s3]:=by
 refine⟨b,0,3,rfl,h.lt,fun i hi=>?_⟩
 simp only[List.length_cons,List.length_nil]at hi
 have:i=0∨i=1∨i=2:=by omega
 rcases this with rfl | rfl | rfl
 ·exact h.cell 0
 ·exact h.cell 1
 ·exact h.cell 2
structure MOk (k W D:Int):Prop where
 k1:1≤k
 k2:k≤12
 w1:1≤W
 w2:W≤1000
 d1:1≤D
 d2:D≤1000
theorem zs7{f t:P3}(h:f≠t):((ze f.x == ze t.x) && ((ze f.y == ze t.y) && (ze f.z == ze t.z)))=false:=by
 cases hx:(ze f.x == ze t.x)with
 | false=>rfl
 | true=>cases hy:(ze f.y == ze t.y)with
  | false=>rfl
  | true=>cases hz:(ze f.z == ze t.z)with
   | false=>rfl
   | true =>
    exfalso;apply h
    have h1:=zaS (beq_iff_eq.1 hx)
    have h2:=zaS (beq_iff_eq.1 hy)
    have h3:=zaS (beq_iff_eq.1 hz)
    cases f;cases t
    simp only at h1 h2 h3
    rw[h1,h2,h3]
theorem sq_nonneg(a:Rat):0≤a*a:=by
 rcases Rat.le_total (a:=0) (b:=a)with h | h
 ·exact Rat.mul_nonneg h h
 ·have h2:0≤-a:=by rw[← Rat.neg_zero];exact Rat.neg_le_neg h
  have:=Rat.mul_nonneg h2 h2
  rwa[Rat.neg_mul,Rat.mul_neg,Rat.neg_neg]at this
end
end Go.Proofs.YthdpnkkddhcacaaGreatDoor
namespace Kp
end Kp
namespace Go.Proofs.YthdpnkkddhcacaaGreatDoor
section
open Go.RowKit Kp
theorem zuu{a:Int}{n:Nat}(h:a.natAbs<10 ^ n)(hn:0<n):Bd n (a:Rat):=⟨by rw[Rat.num_intCast];exact h,by rw[Rat.den_intCast];exact Nat.one_lt_pow (by omega) (by decide)⟩
theorem zfz{F:Fence}{m:Nat}{P:Program}{md:Region.Mode}{ops:Array Oper}{R:Exit→Act→World→Prop}:∀ (l:List Oper) (k:Nat) (listed:Array Bool) (a:Act) (w:World),(∀ j,l[j]? = ops[k+j]?) →
  Region.seqB md ops l.length k listed=true→wpListIn F m P ops R l a w→wpAnyIn F m P md ops R l.length listed a w
 | [],_,_,_,_,_,hB,h=>⟨by simpa[Region.seqB]using hB,h⟩
 | o::l,k,listed,a,w,hl,hB,h=>by
  have h0:ops[k]? = some o:=by simpa using(hl 0).symm
  simp only[List.length_cons,Region.seqB,Bool.and_eq_true,decide_eq_true_eq]at hB
  refine⟨fun h1=>(by rw[hB.1]at h1;cases h1),fun i hi=>?_⟩
  rw[hB.1]at hi
  have hik:i=k:=by simpa using hi
  subst hik
  have hw:wpOpIn F m P ops R i (wpListIn F m P ops R l) a w:=by unfold wpOpIn;simp only[h0];exact h
  exact wpOpIn_mono (fun a' w' h'=>zfz l (i+1) _ a' w' (fun j=>by have:=hl (j+1);simpa[Nat.add_assoc,Nat.add_comm 1 j]using this) hB.2 h') hw
namespace RT
def zeE:Exit→Act→World→Prop:=zbQ fun _ _=>True
section
variable {P:Program} {l:List Oper} {T:Act→World→Prop} {R:Exit→Act→World→Prop} {md:Region.Mode} {n m:Nat}
def zeB(P:Program)(md:Region.Mode)(l:List Oper)(T:Act→World→Prop)(n:Nat):Nat→Array Bool→Act→World→Prop
 | 0,ls,a,w=>Region.seqB md l.toArray (l.toArray.size - n) n ls=true∧∀ w',Q w w'→T a w'
 | f+1,ls,a,w=>Region.ready md l.toArray ls≠[] ∧
  ∀ i∈Region.ready md l.toArray ls,i<n∧∀ w',Q w w'→wpOp P l.toArray zeE i (fun a' w''=>Q w' w''∧zeB P md l T n f (ls.setIfInBounds i true) a' w'') a w'
theorem zeB.later:∀ {f:Nat} {ls:Array Bool} {a:Act} {w w':World},zeB P md l T n f ls a w→Q w w'→zeB P md l T n f ls a w'
 | 0,_,_,_,_,h,hq=>⟨h.1,fun _ h1=>h.2 _ (hq.trans h1)⟩
 | _+1,_,_,_,_,h,hq=>⟨h.1,fun i hi=>⟨(h.2 i hi).1,fun _ h1=>(h.2 i hi).2 _ (hq.trans h1)⟩⟩
theorem zoW{ops:Array Oper}{i:Nat}{N:Act→World→Prop}{a:Act}{w:World}(h:wpOp P ops zeE i N a w):wpOpIn Fence.wide m P ops R i N a w:=by
 unfold wpOp at h
 unfold wpOpIn
 split
 ·next he=>simp only[he]at h;exact h
 ·next o ho =>
  simp only[ho]at h
  split
  ·next hw =>
   rw[if_pos hw]at h
   rcases h with h | ⟨_,h⟩
   ·refine⟨fun _ _=>trivial,?_⟩
    rw[show Fence.wide.round=none from rfl,Oper.semAt_none]
    unfold Oper.wp at h
    generalize (execOp a.eval o).run P w=r at h ⊢
    match r,h with
    | .ok (.value v) w',h=>exact h
    | .ok .skip w',h=>exact h
    | .ok (.defer d) w',h=>exact h
    | .ok (.enter f args) w',h =>
     refine⟨fun hd=>(by cases hd),callsIn_wide.2 (Calls.mono h fun e w'' he=>?_)⟩
     match e,he with
     | .returned v,he=>exact he
     | .panicked c,he=>exact he.elim
     | .outgrown,he=>exact absurd he (zgZ _)
    | .ok (.row row args) w',h=>exact⟨fun hd=>(by cases hd),fun c cs _=>by
      obtain⟨v,w',hs,st⟩:=h c cs
      exact⟨v,w',hs,stepsIn_wide.2 st⟩⟩
    | .halt x w',h =>
     cases x <;> first | exact h.elim | exact False.elim h
   ·exact absurd h (zgZ _)
  ·next hw =>
   rw[if_neg hw]at h
   exact⟨fun _ _=>trivial,h⟩
theorem zeB.any(hn:n≤l.length):∀ {f:Nat} {ls:Array Bool} {a:Act} {w:World},zeB P md l (fun a w=>wpListIn Fence.wide m P l.toArray R (l.drop n) a w) n f ls a w→wpAnyIn Fence.wide m P md l.toArray R (f+(l.toArray.size - n)) ls a w
 | 0,ls,a,w,h=>by
  rw[Nat.zero_add]
  have hd:(l.drop n).length=l.toArray.size - n:=by simp
  have:=zfz (F:=Fence.wide) (m:=m) (P:=P) (md:=md) (R:=R) (l.drop n) n ls a w (fun j=>by simp[List.getElem?_drop]) (by rw[hd];exact h.1) (h.2 w (Q.refl w))
  rwa[hd]at this
 | f+1,ls,a,w,h=>by
  rw[show f+1+(l.toArray.size - n)=(f+(l.toArray.size - n))+1 by omega]
  exact⟨fun e=>absurd e h.1,fun i hi=>zoW (wpOp_mono (fun _ _ h'=>zeB.any hn h'.2) ((h.2 i hi).2 w (Q.refl w)))⟩
theorem zlR{i:Nat}{oi:Oper}{v:Value}(hi:l.toArray[i]? = some oi)(hB:zep md l.toArray n=true)(hin:i<n)
  (hR:∀ c a w,zeE (.panic c) (a.put oi.dst v) w→zeE (.panic c) a w) :
  ∀ (f:Nat) (ls:Array Bool) (a:Act) (w:World),HeadInv md l.toArray n ls →
   (∀ j oj,l.toArray[j]? = some oj→j≠i→ls.getD j true=false→(∀ e∈oj.after,Region.binds md e=true→e.on≠i)→oi.apart l.toArray oj=true) →
   i∈Region.ready md l.toArray ls→Does P l.toArray oi v a w →
   zeB P md l T n f (ls.setIfInBounds i true) (a.put oi.dst v) w→zeB P md l T n (f+1) ls a w:=by
 intro f
 induction f with
 | zero =>
  intro ls a w inv _ hr hd H
  refine⟨fun h=>(by rw[h]at hr;cases hr),fun j hj=>⟨zb7 hB inv hin hr j hj,fun w' hq=>?_⟩⟩
  by_cases hji:j=i
  ·subst hji
   exact hd.wpOp hi hq fun w'' hq'=>⟨hq',zeB.later (f:=0) H (hq.trans hq')⟩
  ·have h1:=zb7 hB inv hin hr j hj
   have h2:=seqB_ready H.1 j (ready_mono hj hji)
   omega
 | succ f ih =>
  intro ls a w inv hf hr hd H
  refine⟨fun h=>(by rw[h]at hr;cases hr),fun j hj=>?_⟩
  have hjn:=zb7 hB inv hin hr j hj
  refine⟨hjn,fun w' hq=>?_⟩
  by_cases hji:j=i
  ·subst hji
   exact hd.wpOp hi hq fun w'' hq'=>⟨hq',H.later (hq.trans hq')⟩
  ·have h1:=(H.2 j (ready_mono hj hji)).2 w' hq
   obtain⟨hjun,oj,hoj,hall⟩:=mem_ready.1 hj
   have hno:∀ e∈oj.after,Region.binds md e=true→e.on≠i:=fun e he hb heq=>by
    have h1:=hall e he hb
    rw[heq,getD_both (mem_ready.1 hr).1]at h1
    cases h1
   have h2:=zfh hoj (hf j oj hoj hji hjun hno) (fun cs b=>zcM hB i oi cs b hi) (fun cs b=>zcM hB j oj cs b hoj) hR h1
   have hf':∀ k ok,l.toArray[k]? = some ok→k≠i→(ls.setIfInBounds j true).getD k true=false →
     (∀ e∈ok.after,Region.binds md e=true→e.on≠i)→oi.apart l.toArray ok=true:=fun k ok hk hki hun hn=>by
    by_cases hjk:j=k
    ·subst hjk;exact hf j ok hk hki hjun hn
    ·rw[getD_set_ne true hjk]at hun
     exact hf k ok hk hki hun hn
   refine wpOp_mono (fun a' w'' h3=>⟨h3.2.1,ih (ls.setIfInBounds j true) a' w'' (inv.set hj hjn) hf' (ready_mono hr (Ne.symm hji)) (hd.alike h3.1 (hq.trans h3.2.1)) ?_⟩) h2
   rw[Array.setIfInBounds_comm _ _ hji]
   exact h3.2.2
def zk(P:Program)(md:Region.Mode)(l:List Oper)(T:Act→World→Prop)(n f:Nat)(ls:Array Bool)(a:Act)(w:World):Prop :=
 zep md l.toArray n=true→HeadInv md l.toArray n ls→zeB P md l T n f ls a w
theorem zaO(n:Nat){id:Nat}{a:Act}{w:World}(hm:P.follows .mixedOrders=true)(hB:zep .any l.toArray n=true)(hn:decide (n≤l.length)=true)
  (h:zk P .any l (fun a w=>wpListIn Fence.wide m P l.toArray R (l.drop n) a w) n n (Array.replicate l.toArray.size false) a w.drew):(Code.region id l.toArray true).wpIn Fence.wide m P R a w:=by
 have hn':n≤l.length:=by simpa using hn
 have inv0:HeadInv .any l.toArray n (Array.replicate l.toArray.size false) :=
  ⟨by simp,fun j oj _ hl=>(by rw[getD_replicate_false]at hl;cases hl),fun t _ ht=>getD_in (by simpa using ht) (getD_replicate_false _ _)⟩
 refine wpIn_region_any hm ?_
 have:=zeB.any hn' (h hB inv0)
 rwa[show n+(l.toArray.size - n)=l.toArray.size by simp;omega]at this
theorem zV{i:Nat}{oi:Oper}{v:Value}{f:Nat}{ls:Array Bool}{a:Act}{w:World}(hi:l[i]? = some oi)(hin:decide (i<n)=true)
  (hf:Region.free md l.toArray ls i=true)(hr:(Region.ready md l.toArray ls).contains i=true)
  (hR:∀ c a w,zeE (.panic c) (a.put oi.dst v) w→zeE (.panic c) a w)(hd:Does P l.toArray oi v a w)
  (h:zk P md l T n f (ls.setIfInBounds i true) (a.put oi.dst v) w):zk P md l T n (f+1) ls a w:=fun hB inv=>by
 have hr':i∈Region.ready md l.toArray ls:=by simpa using hr
 have hin':i<n:=by simpa using hin
 exact zlR (zb9 hi) hB hin' hR f ls a w inv (Region.free_spec (zb9 hi) hf) hr' hd (h hB (inv.set hr' hin'))
theorem zU{i:Nat}{oi:Oper}{v:Value}{f:Nat}{ls:Array Bool}{a:Act}{w:World}(hi:l[i]? = some oi)(hin:decide (i<n)=true)
  (hf:Region.free md l.toArray ls i=true)(hr:(Region.ready md l.toArray ls).contains i=true)
  (hR:∀ c a w,zeE (.panic c) (a.put oi.dst v) w→zeE (.panic c) a w)(hw:Region.wanted oi (yielded l.toArray a.tmps)=true)
  (hx:∀ w',Q w w'→(execOp a.eval oi).run P w'=.ok (.value v) w')
  (h:zk P md l T n f (ls.setIfInBounds i true) (a.put oi.dst v) w):zk P md l T n (f+1) ls a w :=
 zV hi hin hf hr hR (.inl ⟨hw,hx⟩) h
theorem zbu{i:Nat}{oi:Oper}{f:Nat}{ls:Array Bool}{a:Act}{w:World}(hi:l[i]? = some oi)(hin:decide (i<n)=true)
  (hf:Region.free md l.toArray ls i=true)(hr:(Region.ready md l.toArray ls).contains i=true)
  (hR:∀ c a w,zeE (.panic c) (a.put oi.dst undef) w→zeE (.panic c) a w)(hw:Region.wanted oi (yielded l.toArray a.tmps)=false)
  (h:zk P md l T n f (ls.setIfInBounds i true) (a.put oi.dst undef) w):zk P md l T n (f+1) ls a w :=
 zV hi hin hf hr hR (.inr (.inr ⟨hw,rfl⟩)) h
theorem svp(i:Nat){oi:Oper}{v:Value}{f:Nat}{ls:Array Bool}{a a':Act}{w:World}
  (h:zk P md l T n f (ls.setIfInBounds i true) a' w)(hi:l[i]? = some oi:=by exact rfl)(hin:decide (i<n)=true:=by exact rfl)
  (hf:Region.free md l.toArray ls i=true:=by kernel_rfl)(hr:(Region.ready md l.toArray ls).contains i=true:=by kernel_rfl)
  (hw:Region.wanted oi (yielded l.toArray a.tmps)=true:=by rfl)
  (hx:∀ w',Q w w'→(execOp a.eval oi).run P w'=.ok (.value v) w':=by intro w' hq;go_simp;try with_reducible rfl)
  (hR:∀ c a w,zeE (.panic c) (a.put oi.dst v) w→zeE (.panic c) a w:=by exact fun _ _ _ h=>h)
  (ha:a.put oi.dst v=a':=by simp only[Act.put,zs1,zs2,zs3];exact rfl):zk P md l T n (f+1) ls a w :=
 zU hi hin hf hr hR hw hx (ha ▸ h)
theorem svq(i:Nat){oi:Oper}{v:Value}{f:Nat}{ls:Array Bool}{a a':Act}{w:World}(hi:l[i]? = some oi)
  (hx:∀ w',Q w w'→(execOp a.eval oi).run P w'=.ok (.value v) w')
  (h:zk P md l T n f (ls.setIfInBounds i true) a' w)(hin:decide (i<n)=true:=by exact rfl)
  (hf:Region.free md l.toArray ls i=true:=by kernel_rfl)(hr:(Region.ready md l.toArray ls).contains i=true:=by kernel_rfl)
  (hw:Region.wanted oi (yielded l.toArray a.tmps)=true:=by rfl)
  (hR:∀ c a w,zeE (.panic c) (a.put oi.dst v) w→zeE (.panic c) a w:=by exact fun _ _ _ h=>h)
  (ha:a.put oi.dst v=a':=by simp only[Act.put,zs1,zs2,zs3];exact rfl):zk P md l T n (f+1) ls a w :=
 zU hi hin hf hr hR hw hx (ha ▸ h)
theorem svi(i:Nat){oi:Oper}{f:Nat}{ls:Array Bool}{a a':Act}{w:World}
  (h:zk P md l T n f (ls.setIfInBounds i true) a' w)(hi:l[i]? = some oi:=by exact rfl)(hin:decide (i<n)=true:=by exact rfl)
  (hf:Region.free md l.toArray ls i=true:=by kernel_rfl)(hr:(Region.ready md l.toArray ls).contains i=true:=by kernel_rfl)
  (hw:Region.wanted oi (yielded l.toArray a.tmps)=false:=by rfl)
  (hR:∀ c a w,zeE (.panic c) (a.put oi.dst undef) w→zeE (.panic c) a w:=by exact fun _ _ _ h=>h)
  (ha:a.put oi.dst undef=a':=by simp only[Act.put,zs1,zs2,zs3];exact rfl):zk P md l T n (f+1) ls a w :=
 zbu hi hin hf hr hR hw (ha ▸ h)
theorem zh{i:Nat}{oi:Oper}{v:Value}{n f:Nat}{ls:Array Bool}{a:Act}{w:World}{g:FuncId}{args:Array Value}(hi:l[i]? = some oi)(hin:decide (i<n)=true)
  (hf:Region.free md l.toArray ls i=true)(hr:(Region.ready md l.toArray ls).contains i=true)
  (hR:∀ c a w,zeE (.panic c) (a.put oi.dst v) w→zeE (.panic c) a w)(hw:Region.wanted oi (yielded l.toArray a.tmps)=true)
  (hx:∀ w',Q w w'→(execOp a.eval oi).run P w'=.ok (.enter g args) w')
  (hc:∀ w',Q w w'→Calls P g args w' fun e w''=>e=.returned v∧Q w' w'')
  (h:zk P md l T n f (ls.setIfInBounds i true) (a.put oi.dst v) w):zk P md l T n (f+1) ls a w :=
 zV hi hin hf hr hR (.inr (.inl ⟨hw,g,args,hx,hc⟩)) h
theorem zi{ls:Array Bool}{a:Act}{w:World}(hB:Region.seqB md l.toArray (l.toArray.size - n) n ls=true)(h:∀ w',Q w w'→T a w'):zk P md l T n 0 ls a w :=
 fun _ _=>⟨hB,h⟩
end
end RT
def zcu{α:Type}(k:Nat)(enc:α→List Value)(w:World)(v:Value)(l:List α):Prop:=∃ a cap,v=.slice a l.length cap∧∀ i (h:i<l.length),∃ b o,a=some ⟨b,o,none⟩∧b<w.heap.size∧∀ j u,(enc l[i])[j]? = some u→w.cell? ⟨b,o+i*k+j,none⟩=some u
section
variable {α:Type} {k:Nat} {enc:α→List Value}
theorem zcu.keepB{w w':World}{B:Nat}{v:Value}{l:List α}(h:zcu k enc w v l)(hq:Below B w w')(hB:w.heap.size≤B):zcu k enc w' v l:=by
 obtain⟨a,cap,rfl,hc⟩:=h
 refine⟨a,cap,rfl,fun i hi=>?_⟩
 obtain⟨b,o,ha,hb,h⟩:=hc i hi
 exact⟨b,o,ha,Nat.lt_of_lt_of_le hb hq.size,fun j u hu=>(hq.cell (p:=⟨b,o+i*k+j,none⟩) (show b<B by omega)).trans (h j u hu)⟩
theorem zcu.keep{w w':World}{v:Value}{l:List α}(h:zcu k enc w v l)(hq:Q w w'):zcu k enc w' v l:=h.keepB hq (Nat.le_refl _)
def rowOf(enc:α→List Value)(l:List α):List Value:=l.flatMap enc
theorem ziU(hk:∀ x,(enc x).length=k):∀ l:List α,(rowOf enc l).length=l.length*k
 | []=>by simp[rowOf]
 | x::l=>by
  have ih:=ziU hk l
  unfold rowOf at *
  rw[List.flatMap_cons,List.length_append,hk,ih,List.length_cons,Nat.succ_mul];omega
theorem zda(hk:∀ x,(enc x).length=k):∀ (l:List α) (i:Nat) (h:i<l.length) (j:Nat),j<k→(rowOf enc l)[i*k+j]? = (enc l[i])[j]?
 | [],i,h,_,_=>absurd h (Nat.not_lt_zero _)
 | x::l,0,_,j,hj=>by
  unfold rowOf
  rw[List.flatMap_cons,Nat.zero_mul,Nat.zero_add,List.getElem?_append_left (by rw[hk];exact hj)];rfl
 | x::l,i+1,h,j,hj=>by
  have ih:=zda hk l i (by simpa using h) j hj
  unfold rowOf at *
  rw[List.flatMap_cons,List.getElem?_append_right (by rw[hk,Nat.succ_mul];omega),hk,show (i+1)*k+j - k=i*k+j by rw[Nat.succ_mul];omega]
  exact ih
theorem zko(l:List α)(x:α):rowOf enc (l++[x])=rowOf enc l++enc x:=by unfold rowOf;rw[List.flatMap_append];simp
theorem zcu.of_row{w:World}{B:Nat}{t:TypeId}{v:Value}{l:List α}(hk:∀ x,(enc x).length=k)(h:w.ownsRow B t k v l.length (rowOf enc l)):zcu k enc w v l:=by
 have h0:=h
 rcases h.2 with⟨rfl,hn⟩|⟨g,cap,cur,rfl,hg,hc,hnc,hcm,hsz,htk⟩
 ·exact⟨none,0,by rw[hn],fun i hi=>by omega⟩
 ·refine⟨_,cap,rfl,fun i hi=>⟨g,0,rfl,(Array.getElem?_eq_some_iff.1 hc).1,fun j u hu=>?_⟩⟩
  have hj:j<k:=by have:=(List.getElem?_eq_some_iff.1 hu).1;rwa[hk]at this
  have hb:i*k+j<l.length*k:=by
   have h1:=Nat.mul_le_mul_right k (show i+1≤l.length from hi)
   rw[Nat.succ_mul]at h1;omega
  rw[Nat.zero_add,World.ownsRow.cellAt h0 (i*k+j) hb,zda hk l i hi j hj]
  exact hu
end
theorem zc1{P:Program}{o:Oper}{ev:Operand→Value}(ty:TypeId)(x:Operand)(ho:o.op=.load ty x)(g:Nat)(hx:ev x=.pointer (some ⟨g,0,none⟩)){t:TypeId}{cs:List Value}{W:World}(hb:Blk W g cs t)(d:TypeDesc)
  (hu:P.underlying ty=some d)(hd:(match d with | .struct _ | .array _ _=>true | _=>false)=true)(hi:(P.info? ty).map (·.size)=some cs.length) :
  (execOp ev o).run P W=.ok (.value (.agg cs.toArray)) W:=by
 unfold execOp
 simp only[ho,hx,Instr.loadAt,Instr.sureAddr,Sem.run_bind,Sem.run_pure,Result.andThen_ok,run_loadVar_row W g t ty cs.toArray (0,0) d hb hu hd (by simpa using hi)]
end
end Go.Proofs.YthdpnkkddhcacaaGreatDoor
