/-
  VA VB VC VD, one behind the other.; Walks of package ridgeline: right lines.
-/
import Derived.Test.YtapnkgdnflofbaaGreatDoorCHSU2
import Derived.Lib.MinMax
import Derived.Test.YtapnkgdnflofbaaGreatDoorCH10
set_option maxRecDepth 100000
set_option maxHeartbeats 2000000
namespace Kp
structure P3 where
 x:Rat
 y:Rat
 z:Rat
deriving DecidableEq
namespace P3
def sub(a b:P3):P3:=⟨a.x - b.x,a.y - b.y,a.z - b.z⟩
def add(a b:P3):P3:=⟨a.x+b.x,a.y+b.y,a.z+b.z⟩
def neg(a:P3):P3:=⟨-a.x,-a.y,-a.z⟩
def flat(a:P3):P3:=⟨a.x,a.y,0⟩
def sq(a:P3):Rat:=a.x*a.x+a.y*a.y+a.z*a.z
end P3
end Kp
namespace Go.Proofs.YtapnkgdnflofbaaGreatDoor
section
open Go.RowKit Kp
abbrev V3(p:P3):Value:=.agg #[.string ⟨(ze p.x).toArray⟩,.string ⟨(ze p.y).toArray⟩,.string ⟨(ze p.z).toArray⟩]
def B3(n:Nat)(p:P3):Prop:=Bd n p.x∧Bd n p.y∧Bd n p.z
theorem zr6{fn:Func}{m:Tmp}{T:TypeId}(hf:fn.results=#[.cell m T])(hT:T=32∨T=196)(tmps:Array Value)(W:World)(b:Nat)(x y z:Value)(hp:tmps.getD m undef=.pointer (some ⟨b,0,none⟩))
  (c0:W.cell? ⟨b,0,none⟩=some x)(c1:W.cell? ⟨b,1,none⟩=some y)(c2:W.cell? ⟨b,2,none⟩=some z) :
  (results fn tmps).run Tryz.prog W=.ok (.agg #[x,y,z]) W:=by
 simp only[Array.getD_eq_getD_getElem?]at hp
 rcases hT with rfl | rfl <;> simp[results,hf,go_sem,hp,c0,c1,c2]
theorem zpT{fn:Func}{m k:Tmp}{T:TypeId}(hf:fn.results=#[.cell m T,.tmp k])(hT:T=32∨T=196)(tmps:Array Value)(W:World)(b:Nat)(x y z u:Value)(hp:tmps.getD m undef=.pointer (some ⟨b,0,none⟩))(hk:tmps.getD k undef=u)
  (c0:W.cell? ⟨b,0,none⟩=some x)(c1:W.cell? ⟨b,1,none⟩=some y)(c2:W.cell? ⟨b,2,none⟩=some z) :
  (results fn tmps).run Tryz.prog W=.ok (.tuple #[.agg #[x,y,z],u]) W:=by
 simp only[Array.getD_eq_getD_getElem?]at hp hk
 rcases hT with rfl | rfl <;> simp[results,hf,go_sem,hp,hk,c0,c1,c2]
theorem Blk.set3{w:World}{b:Nat}{x y z x' y' z':Value}{t:TypeId}(h:Blk w b [x,y,z] t):Blk (((w.setCell ⟨b,0,none⟩ x').setCell ⟨b,1,none⟩ y').setCell ⟨b,2,none⟩ z') b [x',y',z'] t :=
 ((h.set 0 x').set 1 y').set 2 z'
theorem zcY(X Y Z:Str)(w:World) :
  CR 137 #[.agg #[.string ⟨X.toArray⟩,.string ⟨Y.toArray⟩,.string ⟨Z.toArray⟩]] w (.agg #[.string ⟨X.toArray⟩,.string ⟨Y.toArray⟩,.string ⟨Z.toArray⟩]):=by
 go_enter Tryz.func137,Tryz.ntmps137
 go_wp2
 have BB:=Blk.new (w.alloc (.cells #[.string ⟨X.toArray⟩,.string ⟨Y.toArray⟩,.string ⟨Z.toArray⟩] 121)) [.string ⟨X.toArray⟩,.string ⟨Y.toArray⟩,.string ⟨Z.toArray⟩] 196
 rw[World.size_alloc]at BB
 refine bodyPost_ret (v:=.agg #[.string ⟨X.toArray⟩,.string ⟨Y.toArray⟩,.string ⟨Z.toArray⟩]) (zr6 Tryz.results137 (.inr rfl) _ _ (w.heap.size+1) _ _ _ rfl (BB.cell 0) (BB.cell 1) (BB.cell 2)) rfl ⟨rfl,bt⟩
theorem zpp(X Y Z:Str)(w:World) :
  CR 138 #[.agg #[.string ⟨X.toArray⟩,.string ⟨Y.toArray⟩,.string ⟨Z.toArray⟩]] w (.agg #[.string ⟨X.toArray⟩,.string ⟨Y.toArray⟩,.string ⟨Z.toArray⟩]):=by
 go_enter Tryz.func138,Tryz.ntmps138
 go_wp2
 have BB:=Blk.new (w.alloc (.cells #[.string ⟨X.toArray⟩,.string ⟨Y.toArray⟩,.string ⟨Z.toArray⟩] 196)) [.string ⟨X.toArray⟩,.string ⟨Y.toArray⟩,.string ⟨Z.toArray⟩] 32
 rw[World.size_alloc]at BB
 refine bodyPost_ret (v:=.agg #[.string ⟨X.toArray⟩,.string ⟨Y.toArray⟩,.string ⟨Z.toArray⟩]) (zr6 Tryz.results138 (.inl rfl) _ _ (w.heap.size+1) _ _ _ rfl (BB.cell 0) (BB.cell 1) (BB.cell 2)) rfl ⟨rfl,bt⟩
theorem znX(x y z:Value)(w:World):(Instr.index 196 (.agg #[x,y,z]) (.int .i64 0)).run Tryz.prog w=.ok x w:=by kernel_rfl
theorem znW(x y z:Value)(w:World):(Instr.index 196 (.agg #[x,y,z]) (.int .i64 1)).run Tryz.prog w=.ok y w:=by kernel_rfl
theorem zqp(x y z:Value)(w:World):(Instr.index 196 (.agg #[x,y,z]) (.int .i64 2)).run Tryz.prog w=.ok z w:=by kernel_rfl
theorem zh1(X Y Z:Str)(HX:Hid (∀ w,Env w→CR 95 #[.string ⟨X.toArray⟩] w (.int .i64 0)))
  (HY:Hid (∀ w,Env w→CR 95 #[.string ⟨Y.toArray⟩] w (.int .i64 0)))
  (HZ:Hid (∀ w,Env w→CR 95 #[.string ⟨Z.toArray⟩] w (.int .i64 0)))(w:World)(hE:Env w) :
  CR 84 #[.agg #[.string ⟨X.toArray⟩,.string ⟨Y.toArray⟩,.string ⟨Z.toArray⟩]] w (.int .i64 0):=by
 have HL:=LH (fun w=>zcY X Y Z w)
 go_enter Tryz.func84,Tryz.ntmps84
 have hQ0:=Q.refl w
 go_wp2_with fail
 refine cx (HL.out _) fun w1 hq1=>?_
 have hs1:Q w w1:=Q.trans bt hq1
 have hQ1:Q w w1:=Q.trans hQ0 hs1
 go_wp2
 go_loopw [8] (fun i wr=>(i=.int .i64 0∨i=.int .i64 1∨i=.int .i64 2∨i=.int .i64 3)∧Q w wr) (fun i _=>3 - (intOf i).toNat)
 case atStart=>exact⟨.inl rfl,hQ1⟩
 case round =>
  obtain⟨hi,hQ⟩:=hrel
  clear hQ0 hs1 hq1 hQ1
  rcases hi with rfl | rfl | rfl | rfl
  ·have hi:=znX (.string ⟨X.toArray⟩) (.string ⟨Y.toArray⟩) (.string ⟨Z.toArray⟩)
   go_wp2_with fail
   refine cx (HX.out _ (hE.ofQ bt)) fun w2 hq2=>?_
   have hQ2:Q w w2:=Q.trans bt hq2
   go_wp2
   go_roundw
   case rel=>exact⟨.inr (.inl rfl),hQ2⟩
   case measure=>simp[intOf]
  ·have hi:=znW (.string ⟨X.toArray⟩) (.string ⟨Y.toArray⟩) (.string ⟨Z.toArray⟩)
   go_wp2_with fail
   refine cx (HY.out _ (hE.ofQ bt)) fun w2 hq2=>?_
   have hQ2:Q w w2:=Q.trans bt hq2
   go_wp2
   go_roundw
   case rel=>exact⟨.inr (.inr (.inl rfl)),hQ2⟩
   case measure=>simp[intOf]
  ·have hi:=zqp (.string ⟨X.toArray⟩) (.string ⟨Y.toArray⟩) (.string ⟨Z.toArray⟩)
   go_wp2_with fail
   refine cx (HZ.out _ (hE.ofQ bt)) fun w2 hq2=>?_
   have hQ2:Q w w2:=Q.trans bt hq2
   go_wp2
   go_roundw
   case rel=>exact⟨.inr (.inr (.inr rfl)),hQ2⟩
   case measure=>simp[intOf]
  ·go_wp2
   go_ret
   exact⟨rfl,bt⟩
theorem zcx{n:Nat}(p:P3)(h:B3 n p)(hn:n≤300)(w:World)(hE:Env w) :
  CR 84 #[V3 p] w (.int .i64 0) :=
 zh1 _ _ _ (LH fun w hw=>zA p.x (h.1.zam hn) w hw) (LH fun w hw=>zA p.y (h.2.1.zam hn) w hw) (LH fun w hw=>zA p.z (h.2.2.zam hn) w hw) w hE
theorem zh0{n m:Nat}(p q:P3)(h:B3 n p)(k:B3 m q)(hn:n≤300)(hm:m≤300)(w:World)(hE:Env w) :
  CR 68 #[V3 p,V3 q] w (.int .i64 0):=by
 have HP:=LH (fun w hw=>zcx p h hn w hw)
 have HQ:=LH (fun w hw=>zcx q k hm w hw)
 clear h k
 unfold V3 at *
 generalize ze p.x=X at *
 generalize ze p.y=Y at *
 generalize ze p.z=Z at *
 generalize ze q.x=X' at *
 generalize ze q.y=Y' at *
 generalize ze q.z=Z' at *
 go_enter Tryz.func68,Tryz.ntmps68
 have hQ0:=Q.refl w
 go_wp2_with fail
 refine cx (HP.out _ (hE.ofQ bt)) fun w1 hq1=>?_
 have hs1:Q w w1:=Q.trans bt hq1
 have hQ1:Q w w1:=Q.trans hQ0 hs1
 have D:=(Blk.new (w.alloc (.cells #[.string ⟨X.toArray⟩,.string ⟨Y.toArray⟩,.string ⟨Z.toArray⟩] 32)) [.string ⟨X'.toArray⟩,.string ⟨Y'.toArray⟩,.string ⟨Z'.toArray⟩] 32).keep hq1 (by first | (simp;done)|(simp;omega))
 rw[World.size_alloc]at D
 replace d0:=D.cell
 replace lD:=D.lt
 go_wp2_with fail
 refine cx (HQ.out _ (hE.ofQ bt)) fun w2 hq2=>?_
 have hs2:Q w1 w2:=Q.trans bt hq2
 have hQ2:Q w w2:=Q.trans hQ1 hs2
 replace D:=D.keep hs2 D.lt
 replace d0:=D.cell
 replace lD:=D.lt
 go_wp2
 go_ret
 exact⟨rfl,bt⟩
def zr3(K:Nat)(x y z:Str):Prop:=∀ w,Env w→Calls Tryz.prog K #[.string ⟨x.toArray⟩,.string ⟨y.toArray⟩] w fun e w'=>e=.returned (.tuple #[.string ⟨z.toArray⟩,.int .i64 0])∧Q w w'
theorem zhZ(K:Nat)(HK:∀ args w,(callFunc K args).run Tryz.prog w=.ok (.enter K args) w)(X Y Z X' Y' Z' U V T:Str)(HU:Hid (zr3 K X X' U))(HV:Hid (zr3 K Y Y' V))(HT:Hid (zr3 K Z Z' T))(w:World)(hE:Env w) :
  Calls Tryz.prog 69 #[.agg #[.string ⟨X.toArray⟩,.string ⟨Y.toArray⟩,.string ⟨Z.toArray⟩],.agg #[.string ⟨X'.toArray⟩,.string ⟨Y'.toArray⟩,.string ⟨Z'.toArray⟩],.func (.func K) #[] #[]] w fun e w' =>
   e=.returned (.tuple #[.agg #[.string ⟨U.toArray⟩,.string ⟨V.toArray⟩,.string ⟨T.toArray⟩],.int .i64 0])∧Q w w':=by
 have HL:=LH (fun w=>zcY X Y Z w)
 have HL':=LH (fun w=>zcY X' Y' Z' w)
 have HO:=LH (fun w=>zpp U V T w)
 go_enter Tryz.func69,Tryz.ntmps69
 have hQ0:=Q.refl w
 go_wp2_with fail
 refine cx (HL'.out _) fun w1 hq1=>?_
 have hs1:Q w w1:=Q.trans bt hq1
 have hQ1:Q w w1:=Q.trans hQ0 hs1
 have R:=(((Blk.new ((w.alloc (.cells #[.string ⟨X.toArray⟩,.string ⟨Y.toArray⟩,.string ⟨Z.toArray⟩] 121)).alloc (.cells #[.string ⟨X'.toArray⟩,.string ⟨Y'.toArray⟩,.string ⟨Z'.toArray⟩] 121)) [.string ⟨#[]⟩,.string ⟨#[]⟩,.string ⟨#[]⟩] 32).alloc (.cells #[.string ⟨#[]⟩,.string ⟨#[]⟩,.string ⟨#[]⟩] 196))).keep hq1 (by first | (simp;done)|(simp;omega))
 have O:=(Blk.new (((w.alloc (.cells #[.string ⟨X.toArray⟩,.string ⟨Y.toArray⟩,.string ⟨Z.toArray⟩] 121)).alloc (.cells #[.string ⟨X'.toArray⟩,.string ⟨Y'.toArray⟩,.string ⟨Z'.toArray⟩] 121)).alloc (.cells #[.string ⟨#[]⟩,.string ⟨#[]⟩,.string ⟨#[]⟩] 32)) [.string ⟨#[]⟩,.string ⟨#[]⟩,.string ⟨#[]⟩] 196).keep hq1 (by first | (simp;done)|(simp;omega))
 have A:=(((Blk.new w [.string ⟨X.toArray⟩,.string ⟨Y.toArray⟩,.string ⟨Z.toArray⟩] 121).alloc (.cells #[.string ⟨X'.toArray⟩,.string ⟨Y'.toArray⟩,.string ⟨Z'.toArray⟩] 121)).alloc (.cells #[.string ⟨#[]⟩,.string ⟨#[]⟩,.string ⟨#[]⟩] 32) |>.alloc (.cells #[.string ⟨#[]⟩,.string ⟨#[]⟩,.string ⟨#[]⟩] 196)).keep hq1 (by first | (simp;done)|(simp;omega))
 simp only[World.size_alloc]at R O
 have a0:=A.cell
 have lA:=A.lt
 have D0:=Blk.new w1 [.string ⟨X'.toArray⟩,.string ⟨Y'.toArray⟩,.string ⟨Z'.toArray⟩] 196
 go_wp2_with fail
 refine cx (HL.out _) fun w2 hq2=>?_
 have hs2:Q w1 w2:=Q.trans bt hq2
 have hQ2:Q w w2:=Q.trans hQ1 hs2
 have lR:=R.lt
 have lO:=O.lt
 have hz2:w1.heap.size<w2.heap.size:=by have:=hs2.size;have:=hq2.size;simp at this;omega
 have D:Blk w2 w1.heap.size [.string ⟨X'.toArray⟩,.string ⟨Y'.toArray⟩,.string ⟨Z'.toArray⟩] 196:=D0.keep hq2 (by simp)
 replace R:=R.keep hs2 R.lt
 replace O:=O.keep hs2 O.lt
 have hn1:w.heap.size+3<w1.heap.size:=lO
 clear D0 A a0 lA hq1 hq2 hs1 hs2 hQ1 hQ0 HL HL'
 go_wp2
 go_loopw [18] (fun i wr=>Q w wr∧Blk wr (w.heap.size+2) [.string ⟨#[]⟩,.string ⟨#[]⟩,.string ⟨#[]⟩] 32∧Blk wr w1.heap.size [.string ⟨X'.toArray⟩,.string ⟨Y'.toArray⟩,.string ⟨Z'.toArray⟩] 196 ∧
  ((i=.int .i64 0∧Blk wr (w.heap.size+3) [.string ⟨#[]⟩,.string ⟨#[]⟩,.string ⟨#[]⟩] 196)∨(i=.int .i64 1∧Blk wr (w.heap.size+3) [.string ⟨U.toArray⟩,.string ⟨#[]⟩,.string ⟨#[]⟩] 196)∨(i=.int .i64 2∧Blk wr (w.heap.size+3) [.string ⟨U.toArray⟩,.string ⟨V.toArray⟩,.string ⟨#[]⟩] 196)∨(i=.int .i64 3∧Blk wr (w.heap.size+3) [.string ⟨U.toArray⟩,.string ⟨V.toArray⟩,.string ⟨T.toArray⟩] 196))) (fun i _=>3 - (intOf i).toNat)
 case atStart=>exact⟨hQ2,R,D,.inl ⟨rfl,O⟩⟩
 case round =>
  clear R D O lR lO hQ2 hz2
  obtain⟨hQ,R,D,hi⟩:=hrel
  rcases hi with⟨rfl,O⟩|⟨rfl,O⟩|⟨rfl,O⟩|⟨rfl,O⟩
  ·have hi:=znX (.string ⟨X.toArray⟩) (.string ⟨Y.toArray⟩) (.string ⟨Z.toArray⟩)
   have d0:=D.cell 0
   simp only[List.getElem?_cons_zero]at d0
   have lD:=D.lt
   go_wp2_with fail
   refine cx (HU.out _ (hE.ofQ bt)) fun w3 hq3=>?_
   have hs3:Q wr w3:=Q.trans bt hq3
   have hQ3:Q w w3:=Q.trans hQ hs3
   replace R:=R.keep hs3 R.lt
   replace D:=D.keep hs3 D.lt
   replace O:=O.keep hs3 O.lt
   clear d0
   have f0:=O.frozen 0
   have o0:=O.cell 0
   simp only[List.getElem?_cons_zero]at o0
   go_wp2
   go_roundw
   case rel=>exact⟨bt,R.setOther (by omega) _ _,D.setOther (by omega) _ _,.inr (.inl ⟨rfl,O.set 0 _⟩)⟩
   case measure=>simp[intOf]
  ·have hi:=znW (.string ⟨X.toArray⟩) (.string ⟨Y.toArray⟩) (.string ⟨Z.toArray⟩)
   have d0:=D.cell 1
   simp only[zs4,zs5]at d0
   have lD:=D.lt
   go_wp2_with fail
   refine cx (HV.out _ (hE.ofQ bt)) fun w3 hq3=>?_
   have hs3:Q wr w3:=Q.trans bt hq3
   have hQ3:Q w w3:=Q.trans hQ hs3
   replace R:=R.keep hs3 R.lt
   replace D:=D.keep hs3 D.lt
   replace O:=O.keep hs3 O.lt
   clear d0
   have f0:=O.frozen 1
   have o0:=O.cell 1
   simp only[zs4,zs5]at o0
   go_wp2
   go_roundw
   case rel=>exact⟨bt,R.setOther (by omega) _ _,D.setOther (by omega) _ _,.inr (.inr (.inl ⟨rfl,O.set 1 _⟩))⟩
   case measure=>simp[intOf]
  ·have hi:=zqp (.string ⟨X.toArray⟩) (.string ⟨Y.toArray⟩) (.string ⟨Z.toArray⟩)
   have d0:=D.cell 2
   simp only[zs4,zs5]at d0
   have lD:=D.lt
   go_wp2_with fail
   refine cx (HT.out _ (hE.ofQ bt)) fun w3 hq3=>?_
   have hs3:Q wr w3:=Q.trans bt hq3
   have hQ3:Q w w3:=Q.trans hQ hs3
   replace R:=R.keep hs3 R.lt
   replace D:=D.keep hs3 D.lt
   replace O:=O.keep hs3 O.lt
   clear d0
   have f0:=O.frozen 2
   have o0:=O.cell 2
   simp only[zs4,zs5]at o0
   go_wp2
   go_roundw
   case rel=>exact⟨bt,R.setOther (by omega) _ _,D.setOther (by omega) _ _,.inr (.inr (.inr ⟨rfl,O.set 2 _⟩))⟩
   case measure=>simp[intOf]
  ·have o0:=O.cell 0
   have o1:=O.cell 1
   have o2:=O.cell 2
   simp only[zs4,zs5]at o0 o1 o2
   go_wp2_with fail
   refine cx (HO.out _) fun w3 hq3=>?_
   have hs3:Q wr w3:=Q.trans bt hq3
   have hQ3:Q w w3:=Q.trans hQ hs3
   replace R:=R.keep hs3 R.lt
   clear o0 o1 o2
   have r0:=R.cell
   have f0:=R.frozen 0
   have f1:=R.frozen 1
   have f2:=R.frozen 2
   go_wp2
   refine bodyPost_ret (v:=.tuple #[.agg #[.string ⟨U.toArray⟩,.string ⟨V.toArray⟩,.string ⟨T.toArray⟩],.int .i64 0]) (zpT Tryz.results69 (.inl rfl) _ _ (w.heap.size+2) _ _ _ _ rfl rfl (R.set3.cell 0) (R.set3.cell 1) (R.set3.cell 2)) rfl ⟨rfl,bt⟩
theorem zqG:∀ args w,(callFunc 42 args).run Tryz.prog w=.ok (.enter 42 args) w:=fun _ _=>by kernel_rfl
theorem zqH:∀ args w,(callFunc 43 args).run Tryz.prog w=.ok (.enter 43 args) w:=fun _ _=>by kernel_rfl
theorem zjC{n m:Nat}(p q:P3)(h:B3 n p)(k:B3 m q)(hnm:n+m+1≤300)(w:World)(hE:Env w) :
  CR 41 #[V3 p,V3 q] w (.tuple #[V3 (p.sub q),.int .i64 0]):=by
 have HB:=LH (fun w hw=>zh0 p q h k (by omega) (by omega) w hw)
 have HU:Hid (zr3 42 (ze p.x) (ze q.x) (ze (p.sub q).x)):=LH (fun w hw=>zbd p.x q.x h.1 k.1 hnm w hw)
 have HV:Hid (zr3 42 (ze p.y) (ze q.y) (ze (p.sub q).y)):=LH (fun w hw=>zbd p.y q.y h.2.1 k.2.1 hnm w hw)
 have HT:Hid (zr3 42 (ze p.z) (ze q.z) (ze (p.sub q).z)):=LH (fun w hw=>zbd p.z q.z h.2.2 k.2.2 hnm w hw)
 unfold V3 at *
 clear h k
 generalize ze (p.sub q).x=U at *
 generalize ze (p.sub q).y=V at *
 generalize ze (p.sub q).z=T at *
 generalize ze p.x=X at *
 generalize ze p.y=Y at *
 generalize ze p.z=Z at *
 generalize ze q.x=X' at *
 generalize ze q.y=Y' at *
 generalize ze q.z=Z' at *
 have HW:=LH (fun w hw=>zhZ 42 zqG X Y Z X' Y' Z' U V T HU HV HT w hw)
 clear HU HV HT
 go_enter Tryz.func41,Tryz.ntmps41
 have hQ0:=Q.refl w
 go_wp2_with fail
 refine cx (HB.out _ (hE.ofQ bt)) fun w1 hq1=>?_
 have hs1:Q w w1:=Q.trans bt hq1
 have hQ1:Q w w1:=Q.trans hQ0 hs1
 have A:=((Blk.new w [.string ⟨X.toArray⟩,.string ⟨Y.toArray⟩,.string ⟨Z.toArray⟩] 32).alloc (.cells #[.string ⟨X'.toArray⟩,.string ⟨Y'.toArray⟩,.string ⟨Z'.toArray⟩] 32) |>.alloc (.cells #[.string ⟨#[]⟩,.string ⟨#[]⟩,.string ⟨#[]⟩] 32)).keep hq1 (by first | (simp;done)|(simp;omega))
 have D:=((Blk.new (w.alloc (.cells #[.string ⟨X.toArray⟩,.string ⟨Y.toArray⟩,.string ⟨Z.toArray⟩] 32)) [.string ⟨X'.toArray⟩,.string ⟨Y'.toArray⟩,.string ⟨Z'.toArray⟩] 32).alloc (.cells #[.string ⟨#[]⟩,.string ⟨#[]⟩,.string ⟨#[]⟩] 32)).keep hq1 (by first | (simp;done)|(simp;omega))
 have R:=(Blk.new ((w.alloc (.cells #[.string ⟨X.toArray⟩,.string ⟨Y.toArray⟩,.string ⟨Z.toArray⟩] 32)).alloc (.cells #[.string ⟨X'.toArray⟩,.string ⟨Y'.toArray⟩,.string ⟨Z'.toArray⟩] 32)) [.string ⟨#[]⟩,.string ⟨#[]⟩,.string ⟨#[]⟩] 32).keep hq1 (by first | (simp;done)|(simp;omega))
 simp only[World.size_alloc]at D R
 replace a0:=A.cell
 replace lA:=A.lt
 replace d0:=D.cell
 replace lD:=D.lt
 go_wp2_with fail
 refine cx (HW.out _ (hE.ofQ bt)) fun w2 hq2=>?_
 have hs2:Q w1 w2:=Q.trans bt hq2
 have hQ2:Q w w2:=Q.trans hQ1 hs2
 replace A:=A.keep hs2 A.lt
 replace a0:=A.cell
 replace lA:=A.lt
 replace D:=D.keep hs2 D.lt
 replace d0:=D.cell
 replace lD:=D.lt
 clear A lA a0
 clear D lD d0
 replace R:=R.keep hs2 R.lt
 have r0:=R.cell
 have f0:=R.frozen 0
 have f1:=R.frozen 1
 have f2:=R.frozen 2
 go_wp2
 refine bodyPost_ret (v:=.tuple #[.agg #[.string ⟨U.toArray⟩,.string ⟨V.toArray⟩,.string ⟨T.toArray⟩],.int .i64 0]) (zpT Tryz.results41 (.inl rfl) _ _ (w.heap.size+2) _ _ _ _ rfl rfl (R.set3.cell 0) (R.set3.cell 1) (R.set3.cell 2)) rfl ⟨rfl,bt⟩
theorem zoW{n:Nat}{p:P3}(h:B3 n p):Bd (n+n) (p.x*p.x)∧Bd (n+n) (p.y*p.y)∧Bd (n+n) (p.z*p.z):=⟨h.1.mul h.1,h.2.1.mul h.2.1,h.2.2.mul h.2.2⟩
theorem zof{n:Nat}(p:P3)(h:B3 n p)(hn:6*n+2≤300)(w:World)(hE:Env w) :
  CR 158 #[V3 p,V3 p] w (.tuple #[.string ⟨(ze p.sq).toArray⟩,.int .i64 0]):=by
 obtain⟨b1,b2,b3⟩:=zoW h
 have HU:Hid (zr3 43 (ze p.x) (ze p.x) (ze (p.x*p.x))):=LH (fun w hw=>zaZ p.x p.x h.1 h.1 (by omega) w hw)
 have HV:Hid (zr3 43 (ze p.y) (ze p.y) (ze (p.y*p.y))):=LH (fun w hw=>zaZ p.y p.y h.2.1 h.2.1 (by omega) w hw)
 have HT:Hid (zr3 43 (ze p.z) (ze p.z) (ze (p.z*p.z))):=LH (fun w hw=>zaZ p.z p.z h.2.2 h.2.2 (by omega) w hw)
 have HS:=LH (fun w hw=>zc2 _ _ b1 b2 (by omega) w hw)
 have HD:=LH (fun w hw=>zc2 _ _ (b1.add b2) b3 (by omega) w hw)
 have e:p.sq=p.x*p.x+p.y*p.y+p.z*p.z:=rfl
 rw[e]
 unfold V3 at *
 clear h b1 b2 b3 e
 generalize ze (p.x*p.x+p.y*p.y+p.z*p.z)=S at *
 generalize ze (p.x*p.x+p.y*p.y)=P at *
 generalize ze (p.x*p.x)=U at *
 generalize ze (p.y*p.y)=V at *
 generalize ze (p.z*p.z)=T at *
 generalize ze p.x=X at *
 generalize ze p.y=Y at *
 generalize ze p.z=Z at *
 have HW:=LH (fun w hw=>zhZ 43 zqH X Y Z X Y Z U V T HU HV HT w hw)
 clear HU HV HT
 go_enter Tryz.func158,Tryz.ntmps158
 have hQ0:=Q.refl w
 go_wp2_with fail
 refine cx (HW.out _ (hE.ofQ bt)) fun w1 hq1=>?_
 have hs1:Q w w1:=Q.trans bt hq1
 have hQ1:Q w w1:=Q.trans hQ0 hs1
 have A:=Blk.new w1 [.string ⟨U.toArray⟩,.string ⟨V.toArray⟩,.string ⟨T.toArray⟩] 32
 go_wp2_with fail
 refine cx (HS.out _ (hE.ofQ bt)) fun w2 hq2=>?_
 have hs2:Q w1 w2:=Q.trans bt hq2
 have hQ2:Q w w2:=Q.trans hQ1 hs2
 replace A:=A.keep hq2 (by simp)
 replace a0:=A.cell
 replace lA:=A.lt
 go_wp2_with fail
 refine cx (HD.out _ (hE.ofQ bt)) fun w3 hq3=>?_
 have hs3:Q w2 w3:=Q.trans bt hq3
 have hQ3:Q w w3:=Q.trans hQ2 hs3
 replace A:=A.keep hs3 A.lt
 replace a0:=A.cell
 replace lA:=A.lt
 clear A lA a0
 go_wp2
 go_ret2
 exact⟨rfl,bt⟩
theorem zk5{q:Rat}{n:Nat}(h:Bd n q):((zo (Lib.itoa q.num)).length:Int)≤n∧((Lib.itoa (q.den:Int)).length:Int)≤n:=by
 have h1:(zo (Lib.itoa q.num)).length≤n:=by
  rw[zav]
  rcases Nat.eq_zero_or_pos n with rfl | hn
  ·exact absurd h.2 (by have:=q.den_pos;simp;omega)
  ·exact(zm _ n hn).2 h.1
 have h2:(Lib.itoa (q.den:Int)).length≤n:=by
  rw[← zB]
  rcases Nat.eq_zero_or_pos n with rfl | hn
  ·exact absurd h.2 (by have:=q.den_pos;simp;omega)
  ·exact(zm _ n hn).2 h.2
 exact⟨by omega,by omega⟩
def LenAt(w:World)(B:Nat)(v:Value)(s:Rat):Prop:=(s=0∧v=.slice none 0 0)∨(0<s.num∧zmp w B v (aOf s) (leftOf s))
theorem LenAt.keep{w w':World}{B:Nat}{v:Value}{s:Rat}(h:LenAt w B v s)(hq:Q w w'):LenAt w' B v s :=
 h.elim .inl (fun h=>.inr ⟨h.1,zoi h.2 hq⟩)
theorem LenAt.mono{w:World}{B B':Nat}{v:Value}{s:Rat}(h:LenAt w B v s)(hb:B'≤B):LenAt w B' v s :=
 h.elim .inl (fun h=>.inr ⟨h.1,Joins.ownsRow_le h.2 hb⟩)
theorem sq_nonneg(a:Rat):0≤a*a:=by
 rcases Rat.le_total (a:=0) (b:=a)with h | h
 ·exact Rat.mul_nonneg h h
 ·have h2:0≤-a:=by rw[← Rat.neg_zero];exact Rat.neg_le_neg h
  have:=Rat.mul_nonneg h2 h2
  rwa[Rat.neg_mul,Rat.mul_neg,Rat.neg_neg]at this
theorem P3.sq_nonneg(p:P3):0≤p.sq:=Rat.add_nonneg (Rat.add_nonneg (Go.Proofs.YtapnkgdnflofbaaGreatDoor.sq_nonneg _) (Go.Proofs.YtapnkgdnflofbaaGreatDoor.sq_nonneg _)) (Go.Proofs.YtapnkgdnflofbaaGreatDoor.sq_nonneg _)
theorem zsq{s:Rat}(b:Bd 16 s)(hp:0<s.num):Term1 (aOf s) (leftOf s):=by
 have ba:=zsl b hp
 have bl:Bd 32 (leftOf s:Rat):=zsb b hp (by decide)
 exact⟨ba.zam (by decide),ztO b hp,by have:=zhR ba (by decide);omega,znP hp,bl.mono (by decide)⟩
theorem zj7{n:Nat}(p:P3)(h:B3 n p)(hn:6*n+2≤300)(hs:Bd 16 p.sq)(w:World)(hE:Env w) :
  Calls Tryz.prog 89 #[V3 p] w fun e w'=>∃ v,e=.returned (.tuple #[v,.int .i64 0])∧Q w w'∧LenAt w' w.heap.size v p.sq:=by
 have HC:=LH (fun w hw=>zcx p h (by omega) w hw)
 have HD:=LH (fun w hw=>zof p h hn w hw)
 have h0:=P3.sq_nonneg p
 have h0':0≤p.sq.num:=Rat.num_nonneg.2 h0
 unfold V3 at *
 clear h h0
 generalize p.sq=s at *
 by_cases hz:s.num=0
 ·have e0:s=0:=Rat.num_eq_zero.1 hz
  subst e0
  have HN:=LH (fun w hw=>zhE w hw)
  have HL:=LH (show ∀ w':World,LenAt w' w.heap.size (.slice none 0 0) 0 from fun w'=>.inl ⟨rfl,rfl⟩)
  clear hz h0' hs
  generalize ze 0=S at *
  generalize ze p.x=U at *
  generalize ze p.y=V at *
  generalize ze p.z=T at *
  go_enter Tryz.func89,Tryz.ntmps89
  have hQ0:=Q.refl w
  go_wp2_with fail
  refine cx (HC.out _ (hE.ofQ bt)) fun w1 hq1=>?_
  have hs1:Q w w1:=Q.trans bt hq1
  have hQ1:Q w w1:=Q.trans hQ0 hs1
  have A:=(Blk.new w [.string ⟨U.toArray⟩,.string ⟨V.toArray⟩,.string ⟨T.toArray⟩] 32).keep hq1 (by first | (simp;done)|(simp;omega))
  replace a0:=A.cell
  replace lA:=A.lt
  go_wp2_with fail
  refine cx (HD.out _ (hE.ofQ bt)) fun w2 hq2=>?_
  have hs2:Q w1 w2:=Q.trans bt hq2
  have hQ2:Q w w2:=Q.trans hQ1 hs2
  replace A:=A.keep hs2 A.lt
  replace a0:=A.cell
  replace lA:=A.lt
  clear A lA a0
  go_wp2_with fail
  refine cx (HN.out _ (hE.ofQ bt)) fun w3 hq3=>?_
  have hs3:Q w2 w3:=Q.trans bt hq3
  have hQ3:Q w w3:=Q.trans hQ2 hs3
  go_wp2
  go_ret2
  exact⟨_,rfl,bt,HL.out _⟩
 ·have hp:0<s.num:=by omega
  have hn0:=fun w hw=>zfr s (hs.root90 (by decide)) hp w hw
  have ht:=zsq hs hp
  have hL:∀ w' v,zmp w' w.heap.size v (aOf s) (leftOf s)→LenAt w' w.heap.size v s:=fun w' v h=>.inr ⟨hp,h⟩
  have HL:=LH hL
  have hK:∀ B v w,Env w→zmp w B v (aOf s) (leftOf s)→_:=fun B v w hw hv=>zjg (aOf s) (leftOf s) ht B v w hw hv
  have HK:=LH hK
  rw[show Rat.divInt (za0 (s.num.toNat*s.den)).1 s.den=aOf s from rfl,show (za0 (s.num.toNat*s.den)).2=leftOf s from rfl]at hn0
  have HN:=LH hn0
  have hcz:(ze (aOf s) == [48])=false:=by
   rw[beq_eq_false_iff_ne,← zaY];exact fun h=>ht.ne (zbt h)
  clear hz h0' hs hn0 ht hp hK hL
  unfold zmp at *
  generalize ze (aOf s)=C at *
  generalize Lib.itoa (leftOf s:Int)=N at *
  generalize ze s=S at *
  generalize ze p.x=U at *
  generalize ze p.y=V at *
  generalize ze p.z=T at *
  go_enter Tryz.func89,Tryz.ntmps89
  have hQ0:=Q.refl w
  go_wp2_with fail
  refine cx (HC.out _ (hE.ofQ bt)) fun w1 hq1=>?_
  have hs1:Q w w1:=Q.trans bt hq1
  have hQ1:Q w w1:=Q.trans hQ0 hs1
  have A:=(Blk.new w [.string ⟨U.toArray⟩,.string ⟨V.toArray⟩,.string ⟨T.toArray⟩] 32).keep hq1 (by first | (simp;done)|(simp;omega))
  replace a0:=A.cell
  replace lA:=A.lt
  go_wp2_with fail
  refine cx (HD.out _ (hE.ofQ bt)) fun w2 hq2=>?_
  have hs2:Q w1 w2:=Q.trans bt hq2
  have hQ2:Q w w2:=Q.trans hQ1 hs2
  replace A:=A.keep hs2 A.lt
  replace a0:=A.cell
  replace lA:=A.lt
  clear A lA a0
  go_wp2_with fail
  refine cx (HN.out _ (hE.ofQ bt)) fun w3 hq3=>?_
  have hs3:Q w2 w3:=Q.trans bt hq3
  have hQ3:Q w w3:=Q.trans hQ2 hs3
  have S1:=World.ownsRow_lit (base:=w.heap.size) (e:=60) (size:=2) w3 #[.string ⟨C.toArray⟩,.string ⟨N.toArray⟩] 1 hQ3.size (by decide) rfl
  go_wp2_with fail
  refine cx (HK.out _ _ _ (hE.ofQ bt) S1) fun w4 hq4=>?_
  have hs4:Q w3 w4:=Q.trans bt hq4
  have hQ4:Q w w4:=Q.trans hQ3 hs4
  have S2:=HL.out _ _ (zi S1 hq4)
  go_wp2
  go_ret2
  exact⟨_,rfl,bt,S2⟩
end
section
open Go.RowKit Go.Shelf Kp
attribute [local go_sem] Oper.semAt_some
theorem zie(a b:Int)(w:World):(Builtin.max_ #[3,3] 3 #[.int .i64 a,.int .i64 b]).run Tryz.prog w=.ok (.int .i64 (max a b)) w:=by
 have h:∀ x y:Int,(if y > x then y else x)=max x y:=fun x y=>by
  rw[Int.max_def]
  split <;> split <;> omega
 simp only[Builtin.max_,Builtin.max2,List.foldlM_cons,List.foldlM_nil,Sem.run_bind,Sem.run_pure,Result.andThen_ok,h]
theorem zlp(a b:Int)(w:World):(Builtin.min_ #[3,3] 3 #[.int .i64 a,.int .i64 b]).run Tryz.prog w=.ok (.int .i64 (min a b)) w:=by
 have h:∀ x y:Int,(if y<x then y else x)=min x y:=fun x y=>by
  rw[Int.min_def]
  split <;> split <;> omega
 simp only[Builtin.min_,Builtin.min2,List.foldlM_cons,List.foldlM_nil,Sem.run_bind,Sem.run_pure,Result.andThen_ok,h]
theorem zou(q:Rat)(h:Bd 36 q)(w:World)(hE:Env w) :
  CR 86 #[.string ⟨(ze q).toArray⟩] w (.bool false):=by
 have HP:=LH (fun w hw=>zbJ q (h.zam (by decide)) w hw)
 have HT:=LH (fun w=>zP (Lib.itoa q.num) w)
 obtain⟨l1,l2⟩:=zk5 h
 have k1:((zo (Lib.itoa q.num)).length:Int)≤36:=by omega
 have k2:((Lib.itoa (q.den:Int)).length:Int)≤36:=by omega
 clear h l1 l2
 generalize ze q=S at *
 generalize zo (Lib.itoa q.num)=U at *
 generalize Lib.itoa (q.den:Int)=D at *
 generalize Lib.itoa q.num=N at *
 have b1:decide ((36:Int)<(U.length:Int))=false:=decide_eq_false (by omega)
 have b2:decide ((36:Int)<(D.length:Int))=false:=decide_eq_false (by omega)
 go_enter Tryz.func86,Tryz.ntmps86
 have hQ0:=Q.refl w
 go_wp2_with fail
 refine cx (HP.out _ (hE.ofQ bt)) fun w1 hq1=>?_
 have hs1:Q w w1:=Q.trans bt hq1
 have hQ1:Q w w1:=Q.trans hQ0 hs1
 go_wp2_with fail
 refine(HT.out _).mono ?_
 rintro e w2⟨rfl,rfl⟩
 go_wp2
 go_ret
 exact⟨rfl,bt⟩
theorem zox{W:World}{b:Nat}{c0 c1:Value}(h:Blk W b [c0,c1] 116)(fn:Func)(m:Nat)(hf:fn.results=#[.cell m 116])(tmps:Array Value)(hp:tmps.getD m undef=.pointer (some ⟨b,0,none⟩)) :
  (results fn tmps).run Tryz.prog W=.ok (.agg #[c0,c1]) W :=
 results_cell_row hf tmps W b _ #[c0,c1] (0,0) _ hp h Tryz.underlying116 rfl (by kernel_rfl)
theorem zdY(X Y Z:Str)(w:World) :
  CR 64 #[.agg #[.string ⟨X.toArray⟩,.string ⟨Y.toArray⟩,.string ⟨Z.toArray⟩]] w (.agg #[.string ⟨X.toArray⟩,.string ⟨Y.toArray⟩]):=by
 go_enter Tryz.func64,Tryz.ntmps64
 go_wp2
 refine bodyPost_ret (zox (Blk.new1 w (.cells #[.string ⟨X.toArray⟩,.string ⟨Y.toArray⟩,.string ⟨Z.toArray⟩] 32) [.string ⟨X.toArray⟩,.string ⟨Y.toArray⟩] 116) Tryz.f64 2 rfl _ rfl) rfl ⟨rfl,bt⟩
theorem zil(l r:Int)(h:0≤l∧0≤r∧l≠r)(w:World) :
  Calls Tryz.prog 65 #[.int .i64 l,.int .i64 r] w fun e w'=>e=.returned (.bool true)∧w=w':=by
 obtain⟨h1,h2,h3⟩:=h
 have hb:(l != r)=true:=bne_iff_ne.2 h3
 go_enter Tryz.func65,Tryz.ntmps65
 go_wp2
 go_ret
 exact⟨rfl,rfl⟩
theorem zpS(l r:Int)(h:(l<0∧¬ r<0)∨(¬ l<0∧r<0))(w:World) :
  Calls Tryz.prog 368 #[.int .i64 l,.int .i64 r] w fun e w'=>e=.returned (.bool true)∧w=w':=by
 rcases h with⟨h1,h2⟩|⟨h1,h2⟩
 all_goals
  first | have d1:=decide_eq_true h1 | have d1:=decide_eq_false h1
  first | have d2:=decide_eq_true h2 | have d2:=decide_eq_false h2
  go_enter Tryz.func368,Tryz.ntmps368
  go_wp2
  go_ret
  exact⟨rfl,rfl⟩
def zoY(k:Int):Bool:=decide (k=1∨k=7∨k=8)
theorem zmD(k:Int)(w:World) :
  Calls Tryz.prog 87 #[.int .i64 k] w fun e w'=>e=.returned (.bool (zoY k))∧w=w':=by
 by_cases h1:k=1
 ·subst h1
  go_enter Tryz.func87,Tryz.ntmps87
  go_wp2
  go_ret
  exact⟨rfl,rfl⟩
 ·have b1:(k == 1)=false:=by simpa using h1
  by_cases h2:k=7
  ·subst h2
   go_enter Tryz.func87,Tryz.ntmps87
   go_wp2
   go_ret
   exact⟨rfl,rfl⟩
  ·have b2:(k == 7)=false:=by simpa using h2
   by_cases h3:k=8
   ·subst h3
    go_enter Tryz.func87,Tryz.ntmps87
    go_wp2
    go_ret
    exact⟨rfl,rfl⟩
   ·have b3:(k == 8)=false:=by simpa using h3
    have e:zoY k=false:=decide_eq_false (by omega)
    rw[e]
    go_enter Tryz.func87,Tryz.ntmps87
    go_wp2
    go_ret
    exact⟨rfl,rfl⟩
def zqZ(x y:Str)(n:Int):Prop:=∀ w,Env w→CR 44 #[.string ⟨x.toArray⟩,.string ⟨y.toArray⟩] w (.tuple #[.int .i64 n,.int .i64 0])
theorem zrS{x y:Rat}{m k:Nat}(hx:Bd m x)(hy:Bd k y)(h:m+k≤300):zqZ (ze x) (ze y) (if x<y then -1 else if x=y then 0 else 1):=fun w hE=>by
 have H:=zek x y (hx.zam (by omega)) (hy.zam (by omega)) (zbw (zbF hx hy) h) (zbw (zbF hy hx) (by omega)) w hE
 have e:Lib.compareInt (x.num*y.den) (y.num*x.den)=(if x<y then -1 else if x=y then 0 else 1):=by
  by_cases h1:x<y
  ·rw[if_pos h1]
   have h2:=(Rat.lt_iff x y).1 h1
   unfold Lib.compareInt
   rw[if_pos h2]
  ·rw[if_neg h1]
   have h2:¬ x.num*y.den<y.num*x.den:=fun e=>h1 ((Rat.lt_iff x y).2 e)
   by_cases h3:x=y
   ·rw[if_pos h3]
    subst h3
    unfold Lib.compareInt
    rw[if_neg h2,if_neg h2]
   ·rw[if_neg h3]
    have h4:y.num*x.den<x.num*y.den:=by
     have h5:y<x:=by
      rcases Rat.le_total (a:=x) (b:=y)with h | h
      ·exact absurd (Rat.lt_of_le_of_ne h h3) h1
      ·exact Rat.lt_of_le_of_ne h (fun e=>h3 e.symm)
     exact(Rat.lt_iff y x).1 h5
    unfold Lib.compareInt
    rw[if_neg h2]
    split
    ·rfl
    ·omega
 rw[e]at H
 exact H
theorem zfn(X Y Z X' Y' Z':Str)(cu cy:Int)(HX:Hid (zqZ X X' cu))(HY:Hid (zqZ Y Y' cy))(h:cu = -1∨(cu=0∧cy = -1))(HB:Hid (∀ w,Env w→CR 68 #[.agg #[.string ⟨X.toArray⟩,.string ⟨Y.toArray⟩,.string ⟨Z.toArray⟩],.agg #[.string ⟨X'.toArray⟩,.string ⟨Y'.toArray⟩,.string ⟨Z'.toArray⟩]] w (.int .i64 0)))(w:World)(hE:Env w) :
  CR 88 #[.agg #[.string ⟨X.toArray⟩,.string ⟨Y.toArray⟩,.string ⟨Z.toArray⟩],.agg #[.string ⟨X'.toArray⟩,.string ⟨Y'.toArray⟩,.string ⟨Z'.toArray⟩]] w (.tuple #[.int .i64 (-1),.int .i64 0]):=by
 have HL:=LH (fun w=>zcY X Y Z w)
 have HL':=LH (fun w=>zcY X' Y' Z' w)
 obtain⟨W0,hW0⟩:∃ W0,(w.alloc (.cells #[.string ⟨X.toArray⟩,.string ⟨Y.toArray⟩,.string ⟨Z.toArray⟩] 32)).alloc (.cells #[.string ⟨X'.toArray⟩,.string ⟨Y'.toArray⟩,.string ⟨Z'.toArray⟩] 32)=W0:=⟨_,rfl⟩
 have hq0:Q w W0:=by rw[← hW0];exact bt
 have BA:Blk W0 w.heap.size [.string ⟨X.toArray⟩,.string ⟨Y.toArray⟩,.string ⟨Z.toArray⟩] 32:=by rw[← hW0];exact(Blk.new w _ _).alloc _
 have BB:Blk W0 (w.heap.size+1) [.string ⟨X'.toArray⟩,.string ⟨Y'.toArray⟩,.string ⟨Z'.toArray⟩] 32:=by rw[← hW0];exact Blk.new1 w _ _ _
 have hQ0:=Q.refl W0
 replace a0:=BA.cell
 replace lBA:=BA.lt
 replace b0:=BB.cell
 replace lBB:=BB.lt
 go_enter Tryz.func88,Tryz.ntmps88
 go_wp2_with fail
 refine cx (HB.out _ (hE.ofQ hq0)) fun G1 hq1=>?_
 have hs1:Q W0 G1:=Q.trans bt hq1
 have hQ1:Q W0 G1:=Q.trans hQ0 hs1
 replace BA:=BA.keep hs1 BA.lt
 replace a0:=BA.cell
 replace lBA:=BA.lt
 replace BB:=BB.keep hs1 BB.lt
 replace b0:=BB.cell
 replace lBB:=BB.lt
 clear hW0
 go_wp2_with fail
 refine cx (HL'.out _) fun G2 hq2=>?_
 have hs2:Q G1 G2:=Q.trans bt hq2
 have hQ2:Q W0 G2:=Q.trans hQ1 hs2
 replace BA:=BA.keep hs2 BA.lt
 replace a0:=BA.cell
 replace lBA:=BA.lt
 replace BB:=BB.keep hs2 BB.lt
 replace b0:=BB.cell
 replace lBB:=BB.lt
 have BO:=Blk.new G2 [.string ⟨X'.toArray⟩,.string ⟨Y'.toArray⟩,.string ⟨Z'.toArray⟩] 196
 go_wp2_with fail
 refine cx (HL.out _) fun G3 hq3=>?_
 have hs3:Q G2 G3:=Q.trans bt hq3
 have hQ3:Q W0 G3:=Q.trans hQ2 hs3
 replace BA:=BA.keep hs3 BA.lt
 replace a0:=BA.cell
 replace lBA:=BA.lt
 replace BB:=BB.keep hs3 BB.lt
 replace b0:=BB.cell
 replace lBB:=BB.lt
 replace BO:=BO.keep hq3 BO.lt
 have hQ3':=Q.trans hq0 hQ3
 have o0:=BO.cell 0
 have o1:=BO.cell 1
 have i0:=znX (.string ⟨X.toArray⟩) (.string ⟨Y.toArray⟩) (.string ⟨Z.toArray⟩)
 have i1:=znW (.string ⟨X.toArray⟩) (.string ⟨Y.toArray⟩) (.string ⟨Z.toArray⟩)
 clear BA lBA a0
 clear BB lBB b0
 go_wp2
 refine wp_loop_rounds 2 ?_
 rw[rounds_succ]
 go_wp2_with fail
 refine cx (HX.out _ (hE.ofQ hQ3')) fun V1 hv1=>?_
 have hQ4:=Q.trans hQ3' hv1
 replace BO:=BO.keep hv1 BO.lt
 clear o0 o1
 have o1:=BO.cell 1
 rcases h with rfl | ⟨rfl,rfl⟩
 ·go_wp2
  go_ret2
  exact⟨rfl,hQ4⟩
 ·go_wp2
  rw[rounds_succ]
  go_wp2_with fail
  refine cx (HY.out _ (hE.ofQ hQ4)) fun V2 hv2=>?_
  have hQ5:=Q.trans hQ4 hv2
  go_wp2
  go_ret2
  exact⟨rfl,hQ5⟩
end
end Go.Proofs.YtapnkgdnflofbaaGreatDoor
