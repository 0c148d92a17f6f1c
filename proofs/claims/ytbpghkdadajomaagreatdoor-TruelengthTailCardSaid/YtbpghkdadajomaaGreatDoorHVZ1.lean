/-
  VA VB VC VD, one behind the other.
-/
import Derived.Test.YtbpghkdadajomaaGreatDoorHSU2
import Derived.Lib.MinMax
set_option maxRecDepth 100000
set_option maxHeartbeats 4000000
namespace Kp
structure P3 where
 x:Rat
 y:Rat
 z:Rat
deriving DecidableEq
namespace P3
def sub(a b:P3):P3:=⟨a.x - b.x,a.y - b.y,a.z - b.z⟩
def add(a b:P3):P3:=⟨a.x+b.x,a.y+b.y,a.z+b.z⟩
def scale(a:P3)(c:Rat):P3:=⟨a.x*c,a.y*c,a.z*c⟩
def neg(a:P3):P3:=⟨-a.x,-a.y,-a.z⟩
def flat(a:P3):P3:=⟨a.x,a.y,0⟩
def sq(a:P3):Rat:=a.x*a.x+a.y*a.y+a.z*a.z
end P3
end Kp
namespace Go.Proofs.YtbpghkdadajomaaGreatDoor
section
open Go.RowKit Kp
open Go.Lib (decDigits)
abbrev V3(p:P3):Value:=.agg #[.string ⟨(za p.x).toArray⟩,.string ⟨(za p.y).toArray⟩,.string ⟨(za p.z).toArray⟩]
def B3(n:Nat)(p:P3):Prop:=Bd n p.x∧Bd n p.y∧Bd n p.z
theorem zlq{fn:Func}{m:Tmp}{T:TypeId}(hf:fn.results=#[.cell m T])(hT:T=32∨T=183)(tmps:Array Value)(W:World)(b:Nat)(x y z:Value)(hp:tmps.getD m undef=.pointer (some ⟨b,0,none⟩))
  (c0:W.cell? ⟨b,0,none⟩=some x)(c1:W.cell? ⟨b,1,none⟩=some y)(c2:W.cell? ⟨b,2,none⟩=some z) :
  (results fn tmps).run Tryz.prog W=.ok (.agg #[x,y,z]) W:=by
 simp only[Array.getD_eq_getD_getElem?]at hp
 rcases hT with rfl | rfl <;> simp[results,hf,go_sem,hp,c0,c1,c2]
theorem zek{fn:Func}{m k:Tmp}{T:TypeId}(hf:fn.results=#[.cell m T,.tmp k])(hT:T=32∨T=183)(tmps:Array Value)(W:World)(b:Nat)(x y z u:Value)(hp:tmps.getD m undef=.pointer (some ⟨b,0,none⟩))(hk:tmps.getD k undef=u)
  (c0:W.cell? ⟨b,0,none⟩=some x)(c1:W.cell? ⟨b,1,none⟩=some y)(c2:W.cell? ⟨b,2,none⟩=some z) :
  (results fn tmps).run Tryz.prog W=.ok (.tuple #[.agg #[x,y,z],u]) W:=by
 simp only[Array.getD_eq_getD_getElem?]at hp hk
 rcases hT with rfl | rfl <;> simp[results,hf,go_sem,hp,hk,c0,c1,c2]
theorem Blk.set3{w:World}{b:Nat}{x y z x' y' z':Value}{t:TypeId}(h:Blk w b [x,y,z] t):Blk (((w.setCell ⟨b,0,none⟩ x').setCell ⟨b,1,none⟩ y').setCell ⟨b,2,none⟩ z') b [x',y',z'] t :=
 ((h.set 0 x').set 1 y').set 2 z'
theorem zfG(X Y Z:Str)(w:World) :
  Calls Tryz.prog 119 #[.agg #[.string ⟨X.toArray⟩,.string ⟨Y.toArray⟩,.string ⟨Z.toArray⟩]] w fun e w'=>e=.returned (.agg #[.string ⟨X.toArray⟩,.string ⟨Y.toArray⟩,.string ⟨Z.toArray⟩])∧Q w w':=by
 go_enter Tryz.func119,Tryz.ntmps119
 go_wp2
 have BB:=Blk.new (w.alloc (.cells #[.string ⟨X.toArray⟩,.string ⟨Y.toArray⟩,.string ⟨Z.toArray⟩] 184)) [.string ⟨X.toArray⟩,.string ⟨Y.toArray⟩,.string ⟨Z.toArray⟩] 183
 rw[World.size_alloc]at BB
 refine bodyPost_ret (v:=.agg #[.string ⟨X.toArray⟩,.string ⟨Y.toArray⟩,.string ⟨Z.toArray⟩]) (zlq Tryz.results119 (.inr rfl) _ _ (w.heap.size+1) _ _ _ rfl (BB.cell 0) (BB.cell 1) (BB.cell 2)) rfl ⟨rfl,bt⟩
theorem zoG(X Y Z:Str)(w:World) :
  Calls Tryz.prog 236 #[.agg #[.string ⟨X.toArray⟩,.string ⟨Y.toArray⟩,.string ⟨Z.toArray⟩]] w fun e w'=>e=.returned (.agg #[.string ⟨X.toArray⟩,.string ⟨Y.toArray⟩,.string ⟨Z.toArray⟩])∧Q w w':=by
 go_enter Tryz.func236,Tryz.ntmps236
 go_wp2
 have BB:=Blk.new (w.alloc (.cells #[.string ⟨X.toArray⟩,.string ⟨Y.toArray⟩,.string ⟨Z.toArray⟩] 183)) [.string ⟨X.toArray⟩,.string ⟨Y.toArray⟩,.string ⟨Z.toArray⟩] 32
 rw[World.size_alloc]at BB
 refine bodyPost_ret (v:=.agg #[.string ⟨X.toArray⟩,.string ⟨Y.toArray⟩,.string ⟨Z.toArray⟩]) (zlq Tryz.results236 (.inl rfl) _ _ (w.heap.size+1) _ _ _ rfl (BB.cell 0) (BB.cell 1) (BB.cell 2)) rfl ⟨rfl,bt⟩
theorem zrs(x y z:Value)(w:World):(Instr.index 183 (.agg #[x,y,z]) (.int .i64 0)).run Tryz.prog w=.ok x w:=by kernel_rfl
theorem zrr(x y z:Value)(w:World):(Instr.index 183 (.agg #[x,y,z]) (.int .i64 1)).run Tryz.prog w=.ok y w:=by kernel_rfl
theorem zrq(x y z:Value)(w:World):(Instr.index 183 (.agg #[x,y,z]) (.int .i64 2)).run Tryz.prog w=.ok z w:=by kernel_rfl
theorem zie(X Y Z:Str)(HX:Hid (∀ w,Env w→Calls Tryz.prog 43 #[.string ⟨X.toArray⟩] w fun e w'=>e=.returned (.int .i64 0)∧Q w w'))
  (HY:Hid (∀ w,Env w→Calls Tryz.prog 43 #[.string ⟨Y.toArray⟩] w fun e w'=>e=.returned (.int .i64 0)∧Q w w'))
  (HZ:Hid (∀ w,Env w→Calls Tryz.prog 43 #[.string ⟨Z.toArray⟩] w fun e w'=>e=.returned (.int .i64 0)∧Q w w'))(w:World)(hE:Env w) :
  Calls Tryz.prog 67 #[.agg #[.string ⟨X.toArray⟩,.string ⟨Y.toArray⟩,.string ⟨Z.toArray⟩]] w fun e w'=>e=.returned (.int .i64 0)∧Q w w':=by
 have HL:=LH (fun w=>zfG X Y Z w)
 go_enter Tryz.func67,Tryz.ntmps67
 have hQ0:=Q.refl w
 go_wp2_with fail
 refine(HL.out _).mono ?_
 rintro e w1⟨rfl,hq1⟩
 have hs1:Q w w1:=Q.trans bt hq1
 have hQ1:Q w w1:=Q.trans hQ0 hs1
 go_wp2
 go_loopw [8] (fun i wr=>(i=.int .i64 0∨i=.int .i64 1∨i=.int .i64 2∨i=.int .i64 3)∧Q w wr) (fun i _=>3 - (intOf i).toNat)
 case atStart=>exact⟨.inl rfl,hQ1⟩
 case round =>
  obtain⟨hi,hQ⟩:=hrel
  clear hQ0 hs1 hq1 hQ1
  rcases hi with rfl | rfl | rfl | rfl
  ·have hi:=zrs (.string ⟨X.toArray⟩) (.string ⟨Y.toArray⟩) (.string ⟨Z.toArray⟩)
   go_wp2_with fail
   refine(HX.out _ (hE.ofQ bt)).mono ?_
   rintro e w2⟨rfl,hq2⟩
   have hQ2:Q w w2:=Q.trans bt hq2
   go_wp2
   go_roundw
   case rel=>exact⟨.inr (.inl rfl),hQ2⟩
   case measure=>simp[intOf]
  ·have hi:=zrr (.string ⟨X.toArray⟩) (.string ⟨Y.toArray⟩) (.string ⟨Z.toArray⟩)
   go_wp2_with fail
   refine(HY.out _ (hE.ofQ bt)).mono ?_
   rintro e w2⟨rfl,hq2⟩
   have hQ2:Q w w2:=Q.trans bt hq2
   go_wp2
   go_roundw
   case rel=>exact⟨.inr (.inr (.inl rfl)),hQ2⟩
   case measure=>simp[intOf]
  ·have hi:=zrq (.string ⟨X.toArray⟩) (.string ⟨Y.toArray⟩) (.string ⟨Z.toArray⟩)
   go_wp2_with fail
   refine(HZ.out _ (hE.ofQ bt)).mono ?_
   rintro e w2⟨rfl,hq2⟩
   have hQ2:Q w w2:=Q.trans bt hq2
   go_wp2
   go_roundw
   case rel=>exact⟨.inr (.inr (.inr rfl)),hQ2⟩
   case measure=>simp[intOf]
  ·go_wp2
   go_ret
   exact⟨rfl,bt⟩
theorem zb8{n:Nat}(p:P3)(h:B3 n p)(hn:n≤300)(w:World)(hE:Env w) :
  Calls Tryz.prog 67 #[V3 p] w fun e w'=>e=.returned (.int .i64 0)∧Q w w' :=
 zie _ _ _ (LH fun w hw=>zm p.x (h.1.zak hn) w hw) (LH fun w hw=>zm p.y (h.2.1.zak hn) w hw) (LH fun w hw=>zm p.z (h.2.2.zak hn) w hw) w hE
theorem zid{n m:Nat}(p q:P3)(h:B3 n p)(k:B3 m q)(hn:n≤300)(hm:m≤300)(w:World)(hE:Env w) :
  Calls Tryz.prog 175 #[V3 p,V3 q] w fun e w'=>e=.returned (.int .i64 0)∧Q w w':=by
 have HP:=LH (fun w hw=>zb8 p h hn w hw)
 have HQ:=LH (fun w hw=>zb8 q k hm w hw)
 clear h k
 unfold V3 at *
 generalize za p.x=X at *
 generalize za p.y=Y at *
 generalize za p.z=Z at *
 generalize za q.x=X' at *
 generalize za q.y=Y' at *
 generalize za q.z=Z' at *
 go_enter Tryz.func175,Tryz.ntmps175
 have hQ0:=Q.refl w
 go_wp2_with fail
 refine(HP.out _ (hE.ofQ bt)).mono ?_
 rintro e w1⟨rfl,hq1⟩
 have hs1:Q w w1:=Q.trans bt hq1
 have hQ1:Q w w1:=Q.trans hQ0 hs1
 have D:=(Blk.new (w.alloc (.cells #[.string ⟨X.toArray⟩,.string ⟨Y.toArray⟩,.string ⟨Z.toArray⟩] 32)) [.string ⟨X'.toArray⟩,.string ⟨Y'.toArray⟩,.string ⟨Z'.toArray⟩] 32).keep hq1 (by first | (simp;done)|(simp;omega))
 rw[World.size_alloc]at D
 replace d0:=D.cell 0
 replace d1:=D.cell 1
 replace d2:=D.cell 2
 simp only[zs4,zs5]at d0 d1 d2
 replace lD:=D.lt
 go_wp2_with fail
 refine(HQ.out _ (hE.ofQ bt)).mono ?_
 rintro e w2⟨rfl,hq2⟩
 have hs2:Q w1 w2:=Q.trans bt hq2
 have hQ2:Q w w2:=Q.trans hQ1 hs2
 replace D:=D.keep hs2 D.lt
 replace d0:=D.cell 0
 replace d1:=D.cell 1
 replace d2:=D.cell 2
 simp only[zs4,zs5]at d0 d1 d2
 replace lD:=D.lt
 go_wp2
 go_ret
 exact⟨rfl,bt⟩
def zmY(K:Nat)(x y z:Str):Prop:=∀ w,Env w→Calls Tryz.prog K #[.string ⟨x.toArray⟩,.string ⟨y.toArray⟩] w fun e w'=>e=.returned (.tuple #[.string ⟨z.toArray⟩,.int .i64 0])∧Q w w'
theorem zec(K:Nat)(HK:∀ args w,(callFunc K args).run Tryz.prog w=.ok (.enter K args) w)(X Y Z X' Y' Z' U V T:Str)(HU:Hid (zmY K X X' U))(HV:Hid (zmY K Y Y' V))(HT:Hid (zmY K Z Z' T))(w:World)(hE:Env w) :
  Calls Tryz.prog 174 #[.agg #[.string ⟨X.toArray⟩,.string ⟨Y.toArray⟩,.string ⟨Z.toArray⟩],.agg #[.string ⟨X'.toArray⟩,.string ⟨Y'.toArray⟩,.string ⟨Z'.toArray⟩],.func (.func K) #[] #[]] w fun e w' =>
   e=.returned (.tuple #[.agg #[.string ⟨U.toArray⟩,.string ⟨V.toArray⟩,.string ⟨T.toArray⟩],.int .i64 0])∧Q w w':=by
 have HL:=LH (fun w=>zfG X Y Z w)
 have HL':=LH (fun w=>zfG X' Y' Z' w)
 have HO:=LH (fun w=>zoG U V T w)
 go_enter Tryz.func174,Tryz.ntmps174
 have hQ0:=Q.refl w
 go_wp2_with fail
 refine(HL'.out _).mono ?_
 rintro e w1⟨rfl,hq1⟩
 have hs1:Q w w1:=Q.trans bt hq1
 have hQ1:Q w w1:=Q.trans hQ0 hs1
 have R:=(((Blk.new ((w.alloc (.cells #[.string ⟨X.toArray⟩,.string ⟨Y.toArray⟩,.string ⟨Z.toArray⟩] 184)).alloc (.cells #[.string ⟨X'.toArray⟩,.string ⟨Y'.toArray⟩,.string ⟨Z'.toArray⟩] 184)) [.string ⟨#[]⟩,.string ⟨#[]⟩,.string ⟨#[]⟩] 32).alloc (.cells #[.string ⟨#[]⟩,.string ⟨#[]⟩,.string ⟨#[]⟩] 183))).keep hq1 (by first | (simp;done)|(simp;omega))
 have O:=(Blk.new (((w.alloc (.cells #[.string ⟨X.toArray⟩,.string ⟨Y.toArray⟩,.string ⟨Z.toArray⟩] 184)).alloc (.cells #[.string ⟨X'.toArray⟩,.string ⟨Y'.toArray⟩,.string ⟨Z'.toArray⟩] 184)).alloc (.cells #[.string ⟨#[]⟩,.string ⟨#[]⟩,.string ⟨#[]⟩] 32)) [.string ⟨#[]⟩,.string ⟨#[]⟩,.string ⟨#[]⟩] 183).keep hq1 (by first | (simp;done)|(simp;omega))
 have A:=(((Blk.new w [.string ⟨X.toArray⟩,.string ⟨Y.toArray⟩,.string ⟨Z.toArray⟩] 184).alloc (.cells #[.string ⟨X'.toArray⟩,.string ⟨Y'.toArray⟩,.string ⟨Z'.toArray⟩] 184)).alloc (.cells #[.string ⟨#[]⟩,.string ⟨#[]⟩,.string ⟨#[]⟩] 32) |>.alloc (.cells #[.string ⟨#[]⟩,.string ⟨#[]⟩,.string ⟨#[]⟩] 183)).keep hq1 (by first | (simp;done)|(simp;omega))
 simp only[World.size_alloc]at R O
 have a0:=A.cell 0
 have a1:=A.cell 1
 have a2:=A.cell 2
 simp only[zs4,zs5]at a0 a1 a2
 have lA:=A.lt
 have D0:=Blk.new w1 [.string ⟨X'.toArray⟩,.string ⟨Y'.toArray⟩,.string ⟨Z'.toArray⟩] 183
 go_wp2_with fail
 refine(HL.out _).mono ?_
 rintro e w2⟨rfl,hq2⟩
 have hs2:Q w1 w2:=Q.trans bt hq2
 have hQ2:Q w w2:=Q.trans hQ1 hs2
 have lR:=R.lt
 have lO:=O.lt
 have hz2:w1.heap.size<w2.heap.size:=by have:=hs2.size;have:=hq2.size;simp at this;omega
 have D:Blk w2 w1.heap.size [.string ⟨X'.toArray⟩,.string ⟨Y'.toArray⟩,.string ⟨Z'.toArray⟩] 183:=D0.keep hq2 (by simp)
 replace R:=R.keep hs2 R.lt
 replace O:=O.keep hs2 O.lt
 have hn1:w.heap.size+3<w1.heap.size:=lO
 clear D0 A a0 a1 a2 lA hq1 hq2 hs1 hs2 hQ1 hQ0 HL HL'
 go_wp2
 go_loopw [18] (fun i wr=>Q w wr∧Blk wr (w.heap.size+2) [.string ⟨#[]⟩,.string ⟨#[]⟩,.string ⟨#[]⟩] 32∧Blk wr w1.heap.size [.string ⟨X'.toArray⟩,.string ⟨Y'.toArray⟩,.string ⟨Z'.toArray⟩] 183 ∧
  ((i=.int .i64 0∧Blk wr (w.heap.size+3) [.string ⟨#[]⟩,.string ⟨#[]⟩,.string ⟨#[]⟩] 183)∨(i=.int .i64 1∧Blk wr (w.heap.size+3) [.string ⟨U.toArray⟩,.string ⟨#[]⟩,.string ⟨#[]⟩] 183)∨(i=.int .i64 2∧Blk wr (w.heap.size+3) [.string ⟨U.toArray⟩,.string ⟨V.toArray⟩,.string ⟨#[]⟩] 183)∨(i=.int .i64 3∧Blk wr (w.heap.size+3) [.string ⟨U.toArray⟩,.string ⟨V.toArray⟩,.string ⟨T.toArray⟩] 183))) (fun i _=>3 - (intOf i).toNat)
 case atStart=>exact⟨hQ2,R,D,.inl ⟨rfl,O⟩⟩
 case round =>
  clear R D O lR lO hQ2 hz2
  obtain⟨hQ,R,D,hi⟩:=hrel
  rcases hi with⟨rfl,O⟩|⟨rfl,O⟩|⟨rfl,O⟩|⟨rfl,O⟩
  ·have hi:=zrs (.string ⟨X.toArray⟩) (.string ⟨Y.toArray⟩) (.string ⟨Z.toArray⟩)
   have d0:=D.cell 0
   simp only[List.getElem?_cons_zero]at d0
   have lD:=D.lt
   go_wp2_with fail
   refine(HU.out _ (hE.ofQ bt)).mono ?_
   rintro e w3⟨rfl,hq3⟩
   have hs3:Q wr w3:=Q.trans bt hq3
   have hQ3:Q w w3:=Q.trans hQ hs3
   replace R:=R.keep hs3 R.lt
   replace D:=D.keep hs3 D.lt
   replace O:=O.keep hs3 O.lt
   clear d0
   have f0:=O.frozen 0
   have o0:=O.cell 0
   simp only[List.getElem?_cons_zero]at o0
   go_wp2
   go_roundw
   case rel=>exact⟨bt,R.setOther (by omega) _ _,D.setOther (by omega) _ _,.inr (.inl ⟨rfl,O.set 0 _⟩)⟩
   case measure=>simp[intOf]
  ·have hi:=zrr (.string ⟨X.toArray⟩) (.string ⟨Y.toArray⟩) (.string ⟨Z.toArray⟩)
   have d0:=D.cell 1
   simp only[zs4,zs5]at d0
   have lD:=D.lt
   go_wp2_with fail
   refine(HV.out _ (hE.ofQ bt)).mono ?_
   rintro e w3⟨rfl,hq3⟩
   have hs3:Q wr w3:=Q.trans bt hq3
   have hQ3:Q w w3:=Q.trans hQ hs3
   replace R:=R.keep hs3 R.lt
   replace D:=D.keep hs3 D.lt
   replace O:=O.keep hs3 O.lt
   clear d0
   have f0:=O.frozen 1
   have o0:=O.cell 1
   simp only[zs4,zs5]at o0
   go_wp2
   go_roundw
   case rel=>exact⟨bt,R.setOther (by omega) _ _,D.setOther (by omega) _ _,.inr (.inr (.inl ⟨rfl,O.set 1 _⟩))⟩
   case measure=>simp[intOf]
  ·have hi:=zrq (.string ⟨X.toArray⟩) (.string ⟨Y.toArray⟩) (.string ⟨Z.toArray⟩)
   have d0:=D.cell 2
   simp only[zs4,zs5]at d0
   have lD:=D.lt
   go_wp2_with fail
   refine(HT.out _ (hE.ofQ bt)).mono ?_
   rintro e w3⟨rfl,hq3⟩
   have hs3:Q wr w3:=Q.trans bt hq3
   have hQ3:Q w w3:=Q.trans hQ hs3
   replace R:=R.keep hs3 R.lt
   replace D:=D.keep hs3 D.lt
   replace O:=O.keep hs3 O.lt
   clear d0
   have f0:=O.frozen 2
   have o0:=O.cell 2
   simp only[zs4,zs5]at o0
   go_wp2
   go_roundw
   case rel=>exact⟨bt,R.setOther (by omega) _ _,D.setOther (by omega) _ _,.inr (.inr (.inr ⟨rfl,O.set 2 _⟩))⟩
   case measure=>simp[intOf]
  ·have o0:=O.cell 0
   have o1:=O.cell 1
   have o2:=O.cell 2
   simp only[zs4,zs5]at o0 o1 o2
   go_wp2_with fail
   refine(HO.out _).mono ?_
   rintro e w3⟨rfl,hq3⟩
   have hs3:Q wr w3:=Q.trans bt hq3
   have hQ3:Q w w3:=Q.trans hQ hs3
   replace R:=R.keep hs3 R.lt
   clear o0 o1 o2
   have r0:=R.cell 0
   have r1:=R.cell 1
   have r2:=R.cell 2
   simp only[zs4,zs5]at r0 r1 r2
   have f0:=R.frozen 0
   have f1:=R.frozen 1
   have f2:=R.frozen 2
   go_wp2
   refine bodyPost_ret (v:=.tuple #[.agg #[.string ⟨U.toArray⟩,.string ⟨V.toArray⟩,.string ⟨T.toArray⟩],.int .i64 0]) (zek Tryz.results174 (.inl rfl) _ _ (w.heap.size+2) _ _ _ _ rfl rfl (R.set3.cell 0) (R.set3.cell 1) (R.set3.cell 2)) rfl ⟨rfl,bt⟩
theorem zpV:∀ args w,(callFunc 36 args).run Tryz.prog w=.ok (.enter 36 args) w:=fun _ _=>by kernel_rfl
theorem zpU:∀ args w,(callFunc 13 args).run Tryz.prog w=.ok (.enter 13 args) w:=fun _ _=>by kernel_rfl
theorem zl2:∀ args w,(callFunc 15 args).run Tryz.prog w=.ok (.enter 15 args) w:=fun _ _=>by kernel_rfl
theorem znD{n m:Nat}(p q:P3)(h:B3 n p)(k:B3 m q)(hnm:n+m+1≤300)(w:World)(hE:Env w) :
  Calls Tryz.prog 270 #[V3 p,V3 q] w fun e w'=>e=.returned (.tuple #[V3 (p.sub q),.int .i64 0])∧Q w w':=by
 have HB:=LH (fun w hw=>zid p q h k (by omega) (by omega) w hw)
 have HU:Hid (zmY 13 (za p.x) (za q.x) (za (p.sub q).x)):=LH (fun w hw=>zbH p.x q.x h.1 k.1 hnm w hw)
 have HV:Hid (zmY 13 (za p.y) (za q.y) (za (p.sub q).y)):=LH (fun w hw=>zbH p.y q.y h.2.1 k.2.1 hnm w hw)
 have HT:Hid (zmY 13 (za p.z) (za q.z) (za (p.sub q).z)):=LH (fun w hw=>zbH p.z q.z h.2.2 k.2.2 hnm w hw)
 unfold V3 at *
 clear h k
 generalize za (p.sub q).x=U at *
 generalize za (p.sub q).y=V at *
 generalize za (p.sub q).z=T at *
 generalize za p.x=X at *
 generalize za p.y=Y at *
 generalize za p.z=Z at *
 generalize za q.x=X' at *
 generalize za q.y=Y' at *
 generalize za q.z=Z' at *
 have HW:=LH (fun w hw=>zec 13 zpU X Y Z X' Y' Z' U V T HU HV HT w hw)
 clear HU HV HT
 go_enter Tryz.func270,Tryz.ntmps270
 have hQ0:=Q.refl w
 go_wp2_with fail
 refine(HB.out _ (hE.ofQ bt)).mono ?_
 rintro e w1⟨rfl,hq1⟩
 have hs1:Q w w1:=Q.trans bt hq1
 have hQ1:Q w w1:=Q.trans hQ0 hs1
 have A:=((Blk.new w [.string ⟨X.toArray⟩,.string ⟨Y.toArray⟩,.string ⟨Z.toArray⟩] 32).alloc (.cells #[.string ⟨X'.toArray⟩,.string ⟨Y'.toArray⟩,.string ⟨Z'.toArray⟩] 32) |>.alloc (.cells #[.string ⟨#[]⟩,.string ⟨#[]⟩,.string ⟨#[]⟩] 32)).keep hq1 (by first | (simp;done)|(simp;omega))
 have D:=((Blk.new (w.alloc (.cells #[.string ⟨X.toArray⟩,.string ⟨Y.toArray⟩,.string ⟨Z.toArray⟩] 32)) [.string ⟨X'.toArray⟩,.string ⟨Y'.toArray⟩,.string ⟨Z'.toArray⟩] 32).alloc (.cells #[.string ⟨#[]⟩,.string ⟨#[]⟩,.string ⟨#[]⟩] 32)).keep hq1 (by first | (simp;done)|(simp;omega))
 have R:=(Blk.new ((w.alloc (.cells #[.string ⟨X.toArray⟩,.string ⟨Y.toArray⟩,.string ⟨Z.toArray⟩] 32)).alloc (.cells #[.string ⟨X'.toArray⟩,.string ⟨Y'.toArray⟩,.string ⟨Z'.toArray⟩] 32)) [.string ⟨#[]⟩,.string ⟨#[]⟩,.string ⟨#[]⟩] 32).keep hq1 (by first | (simp;done)|(simp;omega))
 simp only[World.size_alloc]at D R
 replace a0:=A.cell 0
 replace a1:=A.cell 1
 replace a2:=A.cell 2
 simp only[zs4,zs5]at a0 a1 a2
 replace lA:=A.lt
 replace d0:=D.cell 0
 replace d1:=D.cell 1
 replace d2:=D.cell 2
 simp only[zs4,zs5]at d0 d1 d2
 replace lD:=D.lt
 go_wp2_with fail
 refine(HW.out _ (hE.ofQ bt)).mono ?_
 rintro e w2⟨rfl,hq2⟩
 have hs2:Q w1 w2:=Q.trans bt hq2
 have hQ2:Q w w2:=Q.trans hQ1 hs2
 replace A:=A.keep hs2 A.lt
 replace a0:=A.cell 0
 replace a1:=A.cell 1
 replace a2:=A.cell 2
 simp only[zs4,zs5]at a0 a1 a2
 replace lA:=A.lt
 replace D:=D.keep hs2 D.lt
 replace d0:=D.cell 0
 replace d1:=D.cell 1
 replace d2:=D.cell 2
 simp only[zs4,zs5]at d0 d1 d2
 replace lD:=D.lt
 clear A lA a0 a1 a2
 clear D lD d0 d1 d2
 replace R:=R.keep hs2 R.lt
 have r0:=R.cell 0
 have r1:=R.cell 1
 have r2:=R.cell 2
 simp only[zs4,zs5]at r0 r1 r2
 have f0:=R.frozen 0
 have f1:=R.frozen 1
 have f2:=R.frozen 2
 go_wp2
 refine bodyPost_ret (v:=.tuple #[.agg #[.string ⟨U.toArray⟩,.string ⟨V.toArray⟩,.string ⟨T.toArray⟩],.int .i64 0]) (zek Tryz.results270 (.inl rfl) _ _ (w.heap.size+2) _ _ _ _ rfl rfl (R.set3.cell 0) (R.set3.cell 1) (R.set3.cell 2)) rfl ⟨rfl,bt⟩
theorem znE{n m:Nat}(p q:P3)(h:B3 n p)(k:B3 m q)(hnm:n+m+1≤300)(w:World)(hE:Env w) :
  Calls Tryz.prog 117 #[V3 p,V3 q] w fun e w'=>e=.returned (.tuple #[V3 (p.add q),.int .i64 0])∧Q w w':=by
 have HB:=LH (fun w hw=>zid p q h k (by omega) (by omega) w hw)
 have HU:Hid (zmY 36 (za p.x) (za q.x) (za (p.add q).x)):=LH (fun w hw=>zaA p.x q.x h.1 k.1 hnm w hw)
 have HV:Hid (zmY 36 (za p.y) (za q.y) (za (p.add q).y)):=LH (fun w hw=>zaA p.y q.y h.2.1 k.2.1 hnm w hw)
 have HT:Hid (zmY 36 (za p.z) (za q.z) (za (p.add q).z)):=LH (fun w hw=>zaA p.z q.z h.2.2 k.2.2 hnm w hw)
 unfold V3 at *
 clear h k
 generalize za (p.add q).x=U at *
 generalize za (p.add q).y=V at *
 generalize za (p.add q).z=T at *
 generalize za p.x=X at *
 generalize za p.y=Y at *
 generalize za p.z=Z at *
 generalize za q.x=X' at *
 generalize za q.y=Y' at *
 generalize za q.z=Z' at *
 have HW:=LH (fun w hw=>zec 36 zpV X Y Z X' Y' Z' U V T HU HV HT w hw)
 clear HU HV HT
 go_enter Tryz.func117,Tryz.ntmps117
 have hQ0:=Q.refl w
 go_wp2_with fail
 refine(HB.out _ (hE.ofQ bt)).mono ?_
 rintro e w1⟨rfl,hq1⟩
 have hs1:Q w w1:=Q.trans bt hq1
 have hQ1:Q w w1:=Q.trans hQ0 hs1
 have A:=((Blk.new w [.string ⟨X.toArray⟩,.string ⟨Y.toArray⟩,.string ⟨Z.toArray⟩] 32).alloc (.cells #[.string ⟨X'.toArray⟩,.string ⟨Y'.toArray⟩,.string ⟨Z'.toArray⟩] 32) |>.alloc (.cells #[.string ⟨#[]⟩,.string ⟨#[]⟩,.string ⟨#[]⟩] 32)).keep hq1 (by first | (simp;done)|(simp;omega))
 have D:=((Blk.new (w.alloc (.cells #[.string ⟨X.toArray⟩,.string ⟨Y.toArray⟩,.string ⟨Z.toArray⟩] 32)) [.string ⟨X'.toArray⟩,.string ⟨Y'.toArray⟩,.string ⟨Z'.toArray⟩] 32).alloc (.cells #[.string ⟨#[]⟩,.string ⟨#[]⟩,.string ⟨#[]⟩] 32)).keep hq1 (by first | (simp;done)|(simp;omega))
 have R:=(Blk.new ((w.alloc (.cells #[.string ⟨X.toArray⟩,.string ⟨Y.toArray⟩,.string ⟨Z.toArray⟩] 32)).alloc (.cells #[.string ⟨X'.toArray⟩,.string ⟨Y'.toArray⟩,.string ⟨Z'.toArray⟩] 32)) [.string ⟨#[]⟩,.string ⟨#[]⟩,.string ⟨#[]⟩] 32).keep hq1 (by first | (simp;done)|(simp;omega))
 simp only[World.size_alloc]at D R
 replace a0:=A.cell 0
 replace a1:=A.cell 1
 replace a2:=A.cell 2
 simp only[zs4,zs5]at a0 a1 a2
 replace lA:=A.lt
 replace d0:=D.cell 0
 replace d1:=D.cell 1
 replace d2:=D.cell 2
 simp only[zs4,zs5]at d0 d1 d2
 replace lD:=D.lt
 go_wp2_with fail
 refine(HW.out _ (hE.ofQ bt)).mono ?_
 rintro e w2⟨rfl,hq2⟩
 have hs2:Q w1 w2:=Q.trans bt hq2
 have hQ2:Q w w2:=Q.trans hQ1 hs2
 replace A:=A.keep hs2 A.lt
 replace a0:=A.cell 0
 replace a1:=A.cell 1
 replace a2:=A.cell 2
 simp only[zs4,zs5]at a0 a1 a2
 replace lA:=A.lt
 replace D:=D.keep hs2 D.lt
 replace d0:=D.cell 0
 replace d1:=D.cell 1
 replace d2:=D.cell 2
 simp only[zs4,zs5]at d0 d1 d2
 replace lD:=D.lt
 clear A lA a0 a1 a2
 clear D lD d0 d1 d2
 replace R:=R.keep hs2 R.lt
 have r0:=R.cell 0
 have r1:=R.cell 1
 have r2:=R.cell 2
 simp only[zs4,zs5]at r0 r1 r2
 have f0:=R.frozen 0
 have f1:=R.frozen 1
 have f2:=R.frozen 2
 go_wp2
 refine bodyPost_ret (v:=.tuple #[.agg #[.string ⟨U.toArray⟩,.string ⟨V.toArray⟩,.string ⟨T.toArray⟩],.int .i64 0]) (zek Tryz.results117 (.inl rfl) _ _ (w.heap.size+2) _ _ _ _ rfl rfl (R.set3.cell 0) (R.set3.cell 1) (R.set3.cell 2)) rfl ⟨rfl,bt⟩
theorem zld{n m:Nat}(p:P3)(c:Rat)(h:B3 n p)(k:Bd m c)(hnm:n+m+1≤300)(w:World)(hE:Env w) :
  Calls Tryz.prog 116 #[V3 p,.string ⟨(za c).toArray⟩] w fun e w'=>e=.returned (.tuple #[V3 (p.scale c),.int .i64 0])∧Q w w':=by
 have HB:=LH (fun w hw=>zb8 p h (by omega) w hw)
 have HC:=LH (fun w hw=>zm c (k.zak (by omega)) w hw)
 have HU:Hid (zmY 15 (za p.x) (za c) (za (p.scale c).x)):=LH (fun w hw=>zM p.x c h.1 k (by omega) w hw)
 have HV:Hid (zmY 15 (za p.y) (za c) (za (p.scale c).y)):=LH (fun w hw=>zM p.y c h.2.1 k (by omega) w hw)
 have HT:Hid (zmY 15 (za p.z) (za c) (za (p.scale c).z)):=LH (fun w hw=>zM p.z c h.2.2 k (by omega) w hw)
 unfold V3 at *
 clear h k
 generalize za (p.scale c).x=U at *
 generalize za (p.scale c).y=V at *
 generalize za (p.scale c).z=T at *
 generalize za p.x=X at *
 generalize za p.y=Y at *
 generalize za p.z=Z at *
 generalize za c=C at *
 have HW:=LH (fun w hw=>zec 15 zl2 X Y Z C C C U V T HU HV HT w hw)
 clear HU HV HT
 go_enter Tryz.func116,Tryz.ntmps116
 have hQ0:=Q.refl w
 go_wp2_with fail
 refine(HB.out _ (hE.ofQ bt)).mono ?_
 rintro e w1⟨rfl,hq1⟩
 have hs1:Q w w1:=Q.trans bt hq1
 have hQ1:Q w w1:=Q.trans hQ0 hs1
 have A:=((Blk.new w [.string ⟨X.toArray⟩,.string ⟨Y.toArray⟩,.string ⟨Z.toArray⟩] 32).alloc (.cells #[.string ⟨#[]⟩,.string ⟨#[]⟩,.string ⟨#[]⟩] 32)).keep hq1 (by first | (simp;done)|(simp;omega))
 have R:=(Blk.new (w.alloc (.cells #[.string ⟨X.toArray⟩,.string ⟨Y.toArray⟩,.string ⟨Z.toArray⟩] 32)) [.string ⟨#[]⟩,.string ⟨#[]⟩,.string ⟨#[]⟩] 32).keep hq1 (by first | (simp;done)|(simp;omega))
 simp only[World.size_alloc]at R
 replace a0:=A.cell 0
 replace a1:=A.cell 1
 replace a2:=A.cell 2
 simp only[zs4,zs5]at a0 a1 a2
 replace lA:=A.lt
 replace r0:=R.cell 0
 replace r1:=R.cell 1
 replace r2:=R.cell 2
 simp only[zs4,zs5]at r0 r1 r2
 replace lR:=R.lt
 go_wp2_with fail
 refine(HC.out _ (hE.ofQ bt)).mono ?_
 rintro e w2⟨rfl,hq2⟩
 have hs2:Q w1 w2:=Q.trans bt hq2
 have hQ2:Q w w2:=Q.trans hQ1 hs2
 replace A:=A.keep hs2 A.lt
 replace a0:=A.cell 0
 replace a1:=A.cell 1
 replace a2:=A.cell 2
 simp only[zs4,zs5]at a0 a1 a2
 replace lA:=A.lt
 replace R:=R.keep hs2 R.lt
 replace r0:=R.cell 0
 replace r1:=R.cell 1
 replace r2:=R.cell 2
 simp only[zs4,zs5]at r0 r1 r2
 replace lR:=R.lt
 go_wp2_with fail
 refine(HW.out _ (hE.ofQ bt)).mono ?_
 rintro e w3⟨rfl,hq3⟩
 have hs3:Q w2 w3:=Q.trans bt hq3
 have hQ3:Q w w3:=Q.trans hQ2 hs3
 replace A:=A.keep hs3 A.lt
 replace a0:=A.cell 0
 replace a1:=A.cell 1
 replace a2:=A.cell 2
 simp only[zs4,zs5]at a0 a1 a2
 replace lA:=A.lt
 replace R:=R.keep hs3 R.lt
 replace r0:=R.cell 0
 replace r1:=R.cell 1
 replace r2:=R.cell 2
 simp only[zs4,zs5]at r0 r1 r2
 replace lR:=R.lt
 clear A lA a0 a1 a2
 have f0:=R.frozen 0
 have f1:=R.frozen 1
 have f2:=R.frozen 2
 go_wp2
 refine bodyPost_ret (v:=.tuple #[.agg #[.string ⟨U.toArray⟩,.string ⟨V.toArray⟩,.string ⟨T.toArray⟩],.int .i64 0]) (zek Tryz.results116 (.inl rfl) _ _ (w.heap.size+1) _ _ _ _ rfl rfl (R.set3.cell 0) (R.set3.cell 1) (R.set3.cell 2)) rfl ⟨rfl,bt⟩
theorem zoj{n:Nat}{p:P3}(h:B3 n p):Bd (n+n) (p.x*p.x)∧Bd (n+n) (p.y*p.y)∧Bd (n+n) (p.z*p.z):=⟨h.1.mul h.1,h.2.1.mul h.2.1,h.2.2.mul h.2.2⟩
theorem znC{n:Nat}(p:P3)(h:B3 n p)(hn:6*n+2≤300)(w:World)(hE:Env w) :
  Calls Tryz.prog 169 #[V3 p,V3 p] w fun e w'=>e=.returned (.tuple #[.string ⟨(za p.sq).toArray⟩,.int .i64 0])∧Q w w':=by
 obtain⟨b1,b2,b3⟩:=zoj h
 have HU:Hid (zmY 15 (za p.x) (za p.x) (za (p.x*p.x))):=LH (fun w hw=>zM p.x p.x h.1 h.1 (by omega) w hw)
 have HV:Hid (zmY 15 (za p.y) (za p.y) (za (p.y*p.y))):=LH (fun w hw=>zM p.y p.y h.2.1 h.2.1 (by omega) w hw)
 have HT:Hid (zmY 15 (za p.z) (za p.z) (za (p.z*p.z))):=LH (fun w hw=>zM p.z p.z h.2.2 h.2.2 (by omega) w hw)
 have HS:=LH (fun w hw=>zaA _ _ b1 b2 (by omega) w hw)
 have HD:=LH (fun w hw=>zaA _ _ (b1.add b2) b3 (by omega) w hw)
 have e:p.sq=p.x*p.x+p.y*p.y+p.z*p.z:=rfl
 rw[e]
 unfold V3 at *
 clear h b1 b2 b3 e
 generalize za (p.x*p.x+p.y*p.y+p.z*p.z)=S at *
 generalize za (p.x*p.x+p.y*p.y)=P at *
 generalize za (p.x*p.x)=U at *
 generalize za (p.y*p.y)=V at *
 generalize za (p.z*p.z)=T at *
 generalize za p.x=X at *
 generalize za p.y=Y at *
 generalize za p.z=Z at *
 have HW:=LH (fun w hw=>zec 15 zl2 X Y Z X Y Z U V T HU HV HT w hw)
 clear HU HV HT
 go_enter Tryz.func169,Tryz.ntmps169
 have hQ0:=Q.refl w
 go_wp2_with fail
 refine(HW.out _ (hE.ofQ bt)).mono ?_
 rintro e w1⟨rfl,hq1⟩
 have hs1:Q w w1:=Q.trans bt hq1
 have hQ1:Q w w1:=Q.trans hQ0 hs1
 have A:=Blk.new w1 [.string ⟨U.toArray⟩,.string ⟨V.toArray⟩,.string ⟨T.toArray⟩] 32
 go_wp2_with fail
 refine(HS.out _ (hE.ofQ bt)).mono ?_
 rintro e w2⟨rfl,hq2⟩
 have hs2:Q w1 w2:=Q.trans bt hq2
 have hQ2:Q w w2:=Q.trans hQ1 hs2
 replace A:=A.keep hq2 (by simp)
 replace a0:=A.cell 0
 replace a1:=A.cell 1
 replace a2:=A.cell 2
 simp only[zs4,zs5]at a0 a1 a2
 replace lA:=A.lt
 go_wp2_with fail
 refine(HD.out _ (hE.ofQ bt)).mono ?_
 rintro e w3⟨rfl,hq3⟩
 have hs3:Q w2 w3:=Q.trans bt hq3
 have hQ3:Q w w3:=Q.trans hQ2 hs3
 replace A:=A.keep hs3 A.lt
 replace a0:=A.cell 0
 replace a1:=A.cell 1
 replace a2:=A.cell 2
 simp only[zs4,zs5]at a0 a1 a2
 replace lA:=A.lt
 clear A lA a0 a1 a2
 go_wp2
 go_ret2
 exact⟨rfl,bt⟩
end
section
open Go.RowKit Kp
open Go.Lib (decDigits)
theorem zf5(n a b:Int)(h1:a≤n)(h2:n≤b)(w:World) :
  Calls Tryz.prog 66 #[.int .i64 n,.int .i64 a,.int .i64 b] w fun e w'=>e=.returned (.bool false)∧w=w':=by
 have k1:¬ n<a:=by omega
 have k2:¬ b<n:=by omega
 go_enter Tryz.func66,Tryz.ntmps66
 go_wp2
 all_goals (go_ret;exact⟨rfl,rfl⟩)
theorem zk6{q:Rat}{n:Nat}(h:Bd n q):((zq (Lib.itoa q.num)).length:Int)≤n∧((Lib.itoa (q.den:Int)).length:Int)≤n:=by
 have h1:(zq (Lib.itoa q.num)).length≤n:=by
  rw[zbv]
  rcases Nat.eq_zero_or_pos n with rfl | hn
  ·exact absurd h.2 (by have:=q.den_pos;simp;omega)
  ·exact(zn _ n hn).2 h.1
 have h2:(Lib.itoa (q.den:Int)).length≤n:=by
  rw[← zaa]
  rcases Nat.eq_zero_or_pos n with rfl | hn
  ·exact absurd h.2 (by have:=q.den_pos;simp;omega)
  ·exact(zn _ n hn).2 h.2
 exact⟨by omega,by omega⟩
theorem zpL(q:Rat)(h:Bd 36 q)(w:World)(hE:Env w) :
  Calls Tryz.prog 121 #[.string ⟨(za q).toArray⟩] w fun e w'=>e=.returned (.bool false)∧Q w w':=by
 have HP:=LH (fun w hw=>za9 q (h.zak (by decide)) w hw)
 obtain⟨l1,l2⟩:=zk6 h
 clear h
 generalize za q=S at *
 have hu:zq (Lib.itoa q.num)=zq (Lib.itoa q.num):=rfl
 generalize Lib.itoa (q.den:Int)=D at *
 have HT:=LH (fun w=>zS (Lib.itoa q.num) w)
 generalize zq (Lib.itoa q.num)=U at *
 generalize Lib.itoa q.num=N at *
 clear hu
 have hm:decide ((36:Int)<max (U.length:Int) (D.length:Int))=false:=by rw[decide_eq_false_iff_not];omega
 go_enter Tryz.func121,Tryz.ntmps121
 have hQ0:=Q.refl w
 go_wp2_with fail
 refine(HP.out _ (hE.ofQ bt)).mono ?_
 rintro e w1⟨rfl,hq1⟩
 have hs1:Q w w1:=Q.trans bt hq1
 have hQ1:Q w w1:=Q.trans hQ0 hs1
 go_wp2_with fail
 refine(HT.out _).mono ?_
 rintro e w2⟨rfl,rfl⟩
 go_wp2
 go_ret
 refine⟨?_,hQ1⟩
 first | rfl | (show Ending.returned (Value.bool (decide _))=_;rw[hm])
theorem zoq(l:List Rat)(hl:∀ q∈l,Bd 36 q)(hn:l.length≤100)(v:Value)(w:World)(hE:Env w)(hv:zdN w v (l.map za)) :
  Calls Tryz.prog 176 #[v,.func (.func 121) #[] #[]] w fun e w'=>e=.returned (.int .i64 (-1))∧Q w w':=by
 obtain⟨b,o,cap,rfl,hb,hc⟩:=hv
 rw[List.length_map]at hc
 rw[List.length_map]
 have HL:=LH hl
 clear hl
 go_enter Tryz.func176,Tryz.ntmps176
 go_wp2
 go_loopw [8] (fun i wr=>∃ k:Nat,k≤l.length∧i=.int .i64 k∧Q w wr) (fun i _=>l.length - (intOf i).toNat)
 case atStart=>exact⟨0,by omega,rfl,Below.refl _ _⟩
 case round =>
  obtain⟨k,hk,rfl,hQ⟩:=hrel
  by_cases hlt:k<l.length
  ·have hcell:=hc k hlt
   have hcell':wr.cell? ⟨b,o+k,none⟩=some (.string ⟨((l.map za).getD k []).toArray⟩):=by rw[hQ.cell (p:=⟨b,o+k,none⟩) hb];exact hcell
   have hq:(l.map za).getD k []=za l[k]:=by rw[List.getD_eq_getElem?_getD,List.getElem?_map,List.getElem?_eq_getElem hlt];rfl
   rw[hq]at hcell'
   have HG:=LH (fun w hw=>zpL l[k] (HL.out _ (List.getElem_mem hlt)) w hw)
   clear hcell hc hq HL
   generalize za l[k]=S at *
   go_wp2_with fail
   refine(HG.out _ (hE.q hQ)).mono ?_
   rintro e w2⟨rfl,hq2⟩
   have hQ2:Q w w2:=Q.trans hQ hq2
   go_wp2
   go_roundw
   case rel=>exact⟨k+1,by omega,by go_num,hQ2⟩
   case measure=>simp[intOf];omega
  ·obtain rfl:k=l.length:=by omega
   go_wp2
   go_ret
   exact⟨rfl,hQ⟩
theorem zk1(l:List Rat)(hl:∀ q∈l,Bd 36 q)(hn:l.length≤100)(v:Value)(w:World)(hE:Env w)(hv:zdN w v (l.map za)) :
  Calls Tryz.prog 120 #[v,.func (.func 121) #[] #[]] w fun e w'=>e=.returned (.bool false)∧Q w w':=by
 have HI:=LH (zoq l hl hn v w hE hv)
 clear hl hv
 go_enter Tryz.func120,Tryz.ntmps120
 go_wp2_with fail
 refine HI.out.mono ?_
 rintro e w1⟨rfl,hq1⟩
 go_wp2
 go_ret
 exact⟨rfl,hq1⟩
theorem zdN.three{w:World}{b:Nat}{s1 s2 s3:Str}{t:TypeId}(h:Blk w b [.string ⟨s1.toArray⟩,.string ⟨s2.toArray⟩,.string ⟨s3.toArray⟩] t):zdN w (.slice (some ⟨b,0,none⟩) 3 3) [s1,s2,s3]:=by
 refine⟨b,0,3,rfl,h.lt,fun i hi=>?_⟩
 simp only[List.length_cons,List.length_nil]at hi
 have:i=0∨i=1∨i=2:=by omega
 rcases this with rfl | rfl | rfl
 ·exact h.cell 0
 ·exact h.cell 1
 ·exact h.cell 2
theorem znj{n:Nat}(p:P3)(h:B3 n p)(hn:n≤36)(w:World)(hE:Env w) :
  Calls Tryz.prog 68 #[V3 p] w fun e w'=>e=.returned (.bool false)∧Q w w':=by
 have HC:=LH (fun v w hw hv=>zk1 [p.x,p.y,p.z] (by
  intro q hq
  simp only[List.mem_cons,List.not_mem_nil,or_false]at hq
  rcases hq with rfl | rfl | rfl
  ·exact h.1.mono hn
  ·exact h.2.1.mono hn
  ·exact h.2.2.mono hn) (by simp) v w hw hv)
 clear h
 unfold V3
 have HC':Hid (∀ b t w,Env w→Blk w b [.string ⟨(za p.x).toArray⟩,.string ⟨(za p.y).toArray⟩,.string ⟨(za p.z).toArray⟩] t →
   Calls Tryz.prog 120 #[.slice (some ⟨b,0,none⟩) 3 3,.func (.func 121) #[] #[]] w fun e w'=>e=.returned (.bool false)∧Q w w') :=
  LH (fun b t w hw hb=>HC.out _ w hw (zdN.three hb))
 clear HC
 generalize za p.x=X at *
 generalize za p.y=Y at *
 generalize za p.z=Z at *
 go_enter Tryz.func68,Tryz.ntmps68
 have hQ0:=Q.refl w
 go_wp2_with fail
 refine(HC'.out (w.heap.size+1) 30 _ (hE.ofQ bt) (Blk.new1 w _ [.string ⟨X.toArray⟩,.string ⟨Y.toArray⟩,.string ⟨Z.toArray⟩] 30)).mono ?_
 rintro e w1⟨rfl,hq1⟩
 have hs1:Q w w1:=Q.trans bt hq1
 have hQ1:Q w w1:=Q.trans hQ0 hs1
 go_wp2
 go_ret
 exact⟨rfl,bt⟩
abbrev VM(k W D:Int)(f t:P3):Value:=.agg #[.int .i64 k,.int .i64 0,.int .i64 (-1),.string ⟨(za f.x).toArray⟩,.string ⟨(za f.y).toArray⟩,.string ⟨(za f.z).toArray⟩,.string ⟨(za t.x).toArray⟩,.string ⟨(za t.y).toArray⟩,.string ⟨(za t.z).toArray⟩,.int .i64 W,.int .i64 D]
structure MOk (k W D:Int):Prop where
 k1:1≤k
 k2:k≤12
 w1:1≤W
 w2:W≤1000
 d1:1≤D
 d2:D≤1000
theorem zrG{f t:P3}(h:f≠t):((za f.x == za t.x) && ((za f.y == za t.y) && (za f.z == za t.z)))=false:=by
 cases hx:(za f.x == za t.x)with
 | false=>rfl
 | true=>cases hy:(za f.y == za t.y)with
  | false=>rfl
  | true=>cases hz:(za f.z == za t.z)with
   | false=>rfl
   | true =>
    exfalso;apply h
    have h1:=zav (beq_iff_eq.1 hx)
    have h2:=zav (beq_iff_eq.1 hy)
    have h3:=zav (beq_iff_eq.1 hz)
    cases f;cases t
    simp only at h1 h2 h3
    rw[h1,h2,h3]
theorem zgP{n:Nat}(k W D:Int)(hm:MOk k W D)(f t:P3)(hf:B3 n f)(ht:B3 n t)(hn:n≤36)(hne:f≠t)(w:World)(hE:Env w) :
  Calls Tryz.prog 24 #[VM k W D f t] w fun e w'=>e=.returned (.int .i64 0)∧Q w w':=by
 have HF:=LH (fun w hw=>zb8 f hf (by omega) w hw)
 have HT:=LH (fun w hw=>zb8 t ht (by omega) w hw)
 have HLF:=LH (fun w hw=>znj f hf hn w hw)
 have HLT:=LH (fun w hw=>znj t ht hn w hw)
 have hne':=zrG hne
 obtain⟨hk1,hk2,hw1,hw2,hd1,hd2⟩:=hm
 have HO1:=LH (fun w=>zf5 k 1 12 hk1 hk2 w)
 have HO2:=LH (fun w=>zf5 W 1 1000 hw1 hw2 w)
 have HO3:=LH (fun w=>zf5 D 1 1000 hd1 hd2 w)
 unfold VM V3 at *
 clear hf ht hne
 generalize za f.x=X at *
 generalize za f.y=Y at *
 generalize za f.z=Z at *
 generalize za t.x=X' at *
 generalize za t.y=Y' at *
 generalize za t.z=Z' at *
 go_enter Tryz.func24,Tryz.ntmps24
 go_wp2_with fail
 have A:=Blk.new w [.int .i64 k,.int .i64 0,.int .i64 (-1),.string ⟨X.toArray⟩,.string ⟨Y.toArray⟩,.string ⟨Z.toArray⟩,.string ⟨X'.toArray⟩,.string ⟨Y'.toArray⟩,.string ⟨Z'.toArray⟩,.int .i64 W,.int .i64 D] 34
 refine(HO1.out _).mono ?_
 rintro e w1⟨rfl,rfl⟩
 go_wp2_with fail
 refine(HO2.out _).mono ?_
 rintro e w1⟨rfl,rfl⟩
 go_wp2_with fail
 refine(HO3.out _).mono ?_
 rintro e w1⟨rfl,rfl⟩
 clear HO1 HO2 HO3
 go_wp2
 have S:=Blk.new1 w (.cells #[.int .i64 k,.int .i64 0,.int .i64 (-1),.string ⟨X.toArray⟩,.string ⟨Y.toArray⟩,.string ⟨Z.toArray⟩,.string ⟨X'.toArray⟩,.string ⟨Y'.toArray⟩,.string ⟨Z'.toArray⟩,.int .i64 W,.int .i64 D] 34) [.string ⟨X.toArray⟩,.string ⟨Y.toArray⟩,.string ⟨Z.toArray⟩,.string ⟨X'.toArray⟩,.string ⟨Y'.toArray⟩,.string ⟨Z'.toArray⟩] 32
 replace A:=A.alloc (.cells #[.string ⟨X.toArray⟩,.string ⟨Y.toArray⟩,.string ⟨Z.toArray⟩,.string ⟨X'.toArray⟩,.string ⟨Y'.toArray⟩,.string ⟨Z'.toArray⟩] 32)
 go_loopw [34] (fun i wr=>(i=.int .i64 0∨i=.int .i64 1∨i=.int .i64 2)∧Q w wr∧Blk wr w.heap.size [.int .i64 k,.int .i64 0,.int .i64 (-1),.string ⟨X.toArray⟩,.string ⟨Y.toArray⟩,.string ⟨Z.toArray⟩,.string ⟨X'.toArray⟩,.string ⟨Y'.toArray⟩,.string ⟨Z'.toArray⟩,.int .i64 W,.int .i64 D] 34∧Blk wr (w.heap.size+1) [.string ⟨X.toArray⟩,.string ⟨Y.toArray⟩,.string ⟨Z.toArray⟩,.string ⟨X'.toArray⟩,.string ⟨Y'.toArray⟩,.string ⟨Z'.toArray⟩] 32) (fun i _=>2 - (intOf i).toNat)
 case atStart=>exact⟨.inl rfl,bt,A,S⟩
 case round =>
  clear A S
  obtain⟨hi,hQ,A,S⟩:=hrel
  rcases hi with rfl | rfl | rfl
  ·have s0:=S.cell 0
   have s1:=S.cell 1
   have s2:=S.cell 2
   simp only[zs4,zs5]at s0 s1 s2
   go_wp2_with fail
   refine(HF.out _ (hE.ofQ bt)).mono ?_
   rintro e w2⟨rfl,hq2⟩
   have hs2:Q wr w2:=Q.trans bt hq2
   have hQ2:Q w w2:=Q.trans hQ hs2
   clear s0 s1 s2
   go_wp2
   go_roundw
   case rel=>exact⟨.inr (.inl rfl),hQ2,A.keep hs2 A.lt,S.keep hs2 S.lt⟩
   case measure=>simp[intOf]
  ·have s0:=S.cell 3
   have s1:=S.cell 4
   have s2:=S.cell 5
   simp only[zs4,zs5]at s0 s1 s2
   go_wp2_with fail
   refine(HT.out _ (hE.ofQ bt)).mono ?_
   rintro e w2⟨rfl,hq2⟩
   have hs2:Q wr w2:=Q.trans bt hq2
   have hQ2:Q w w2:=Q.trans hQ hs2
   clear s0 s1 s2
   go_wp2
   go_roundw
   case rel=>exact⟨.inr (.inr rfl),hQ2,A.keep hs2 A.lt,S.keep hs2 S.lt⟩
   case measure=>simp[intOf]
  ·clear S
   have a3:=A.cell 3
   have a4:=A.cell 4
   have a5:=A.cell 5
   have a6:=A.cell 6
   have a7:=A.cell 7
   have a8:=A.cell 8
   simp only[zs4,zs5]at a3 a4 a5 a6 a7 a8
   go_wp2_with fail
   refine(HLF.out _ (hE.ofQ bt)).mono ?_
   rintro e w2⟨rfl,hq2⟩
   have hs2:Q wr w2:=Q.trans bt hq2
   have hQ2:Q w w2:=Q.trans hQ hs2
   replace A:=A.keep hs2 A.lt
   replace a3:=A.cell 3
   replace a4:=A.cell 4
   replace a5:=A.cell 5
   replace a6:=A.cell 6
   replace a7:=A.cell 7
   replace a8:=A.cell 8
   simp only[zs4,zs5]at a3 a4 a5 a6 a7 a8
   go_wp2_with fail
   refine(HLT.out _ (hE.ofQ bt)).mono ?_
   rintro e w3⟨rfl,hq3⟩
   have hs3:Q w2 w3:=Q.trans bt hq3
   have hQ3:Q w w3:=Q.trans hQ2 hs3
   replace A:=A.keep hs3 A.lt
   replace a3:=A.cell 3
   replace a4:=A.cell 4
   replace a5:=A.cell 5
   replace a6:=A.cell 6
   replace a7:=A.cell 7
   replace a8:=A.cell 8
   simp only[zs4,zs5]at a3 a4 a5 a6 a7 a8
   go_wp2
   all_goals first
    | (exfalso;subst_vars;simp at hne';done)
    | (go_ret;exact⟨rfl,hQ3⟩)
end
section
open Go.RowKit Kp
open Go.Lib (decDigits)
theorem zqS(U V T:Str)(w:World) :
  Calls Tryz.prog 231 #[.agg #[.string ⟨U.toArray⟩,.string ⟨V.toArray⟩,.string ⟨T.toArray⟩]] w fun e w'=>e=.returned (.tuple #[.agg #[.string ⟨U.toArray⟩,.string ⟨V.toArray⟩,.string ⟨T.toArray⟩],.int .i64 0])∧Q w w':=by
 go_enter Tryz.func231,Tryz.ntmps231
 go_wp2
 have BB:=Blk.new1 w (.cells #[.string ⟨U.toArray⟩,.string ⟨V.toArray⟩,.string ⟨T.toArray⟩] 32) [.string ⟨U.toArray⟩,.string ⟨V.toArray⟩,.string ⟨T.toArray⟩] 32
 refine bodyPost_ret (v:=.tuple #[.agg #[.string ⟨U.toArray⟩,.string ⟨V.toArray⟩,.string ⟨T.toArray⟩],.int .i64 0]) (zek Tryz.results231 (.inl rfl) _ _ (w.heap.size+1) _ _ _ _ rfl rfl (BB.cell 0) (BB.cell 1) (BB.cell 2)) rfl ⟨rfl,bt⟩
theorem zsz{n:Nat}(k W D:Int)(hm:MOk k W D)(f t:P3)(hf:B3 n f)(ht:B3 n t)(hn:n≤36)(hne:f≠t)(w:World)(hE:Env w) :
  Calls Tryz.prog 232 #[.agg #[.func (.func 231) #[] #[]],VM k W D f t] w fun e w'=>e=.returned (.tuple #[V3 (t.sub f),.int .i64 0])∧Q w w':=by
 have HC:=LH (fun w hw=>zgP k W D hm f t hf ht hn hne w hw)
 have HS:=LH (fun w hw=>znD t f ht hf (by omega) w hw)
 unfold VM V3 at *
 clear hm hf ht hne
 generalize za (t.sub f).x=U at *
 generalize za (t.sub f).y=V at *
 generalize za (t.sub f).z=T at *
 generalize za f.x=X at *
 generalize za f.y=Y at *
 generalize za f.z=Z at *
 generalize za t.x=X' at *
 generalize za t.y=Y' at *
 generalize za t.z=Z' at *
 have HD:=LH (fun w=>zqS U V T w)
 go_enter Tryz.func232,Tryz.ntmps232
 have hQ0:=Q.refl w
 go_wp2_with fail
 refine(HC.out _ (hE.ofQ bt)).mono ?_
 rintro e w1⟨rfl,hq1⟩
 have hs1:Q w w1:=Q.trans bt hq1
 have hQ1:Q w w1:=Q.trans hQ0 hs1
 have A:=((Blk.new w [.func (.func 231) #[] #[]] 319).alloc (.cells #[.int .i64 k,.int .i64 0,.int .i64 (-1),.string ⟨X.toArray⟩,.string ⟨Y.toArray⟩,.string ⟨Z.toArray⟩,.string ⟨X'.toArray⟩,.string ⟨Y'.toArray⟩,.string ⟨Z'.toArray⟩,.int .i64 W,.int .i64 D] 34) |>.alloc (.cells #[.string ⟨#[]⟩,.string ⟨#[]⟩,.string ⟨#[]⟩] 32) |>.alloc (.cells #[.string ⟨#[]⟩,.string ⟨#[]⟩,.string ⟨#[]⟩] 32)).keep hq1 (by first | (simp;done)|(simp;omega))
 have M:=((Blk.new1 w (.cells #[.func (.func 231) #[] #[]] 319) [.int .i64 k,.int .i64 0,.int .i64 (-1),.string ⟨X.toArray⟩,.string ⟨Y.toArray⟩,.string ⟨Z.toArray⟩,.string ⟨X'.toArray⟩,.string ⟨Y'.toArray⟩,.string ⟨Z'.toArray⟩,.int .i64 W,.int .i64 D] 34).alloc (.cells #[.string ⟨#[]⟩,.string ⟨#[]⟩,.string ⟨#[]⟩] 32) |>.alloc (.cells #[.string ⟨#[]⟩,.string ⟨#[]⟩,.string ⟨#[]⟩] 32)).keep hq1 (by first | (simp;done)|(simp;omega))
 have R:=((Blk.new2 w (.cells #[.func (.func 231) #[] #[]] 319) (.cells #[.int .i64 k,.int .i64 0,.int .i64 (-1),.string ⟨X.toArray⟩,.string ⟨Y.toArray⟩,.string ⟨Z.toArray⟩,.string ⟨X'.toArray⟩,.string ⟨Y'.toArray⟩,.string ⟨Z'.toArray⟩,.int .i64 W,.int .i64 D] 34) [.string ⟨#[]⟩,.string ⟨#[]⟩,.string ⟨#[]⟩] 32).alloc (.cells #[.string ⟨#[]⟩,.string ⟨#[]⟩,.string ⟨#[]⟩] 32)).keep hq1 (by first | (simp;done)|(simp;omega))
 replace a0:=A.cell 0
 simp only[List.getElem?_cons_zero]at a0
 replace lA:=A.lt
 replace m0:=M.cell 0
 replace m1:=M.cell 1
 replace m2:=M.cell 2
 replace m3:=M.cell 3
 replace m4:=M.cell 4
 replace m5:=M.cell 5
 replace m6:=M.cell 6
 replace m7:=M.cell 7
 replace m8:=M.cell 8
 replace m9:=M.cell 9
 replace m10:=M.cell 10
 simp only[zs4,zs5]at m0 m1 m2 m3 m4 m5 m6 m7 m8 m9 m10
 replace lM:=M.lt
 replace r0:=R.cell 0
 replace r1:=R.cell 1
 replace r2:=R.cell 2
 simp only[zs4,zs5]at r0 r1 r2
 replace lR:=R.lt
 go_wp2_with fail
 refine(HS.out _ (hE.ofQ bt)).mono ?_
 rintro e w2⟨rfl,hq2⟩
 have hs2:Q w1 w2:=Q.trans bt hq2
 have hQ2:Q w w2:=Q.trans hQ1 hs2
 replace A:=A.keep hs2 A.lt
 replace a0:=A.cell 0
 simp only[List.getElem?_cons_zero]at a0
 replace lA:=A.lt
 replace M:=M.keep hs2 M.lt
 replace m0:=M.cell 0
 replace m1:=M.cell 1
 replace m2:=M.cell 2
 replace m3:=M.cell 3
 replace m4:=M.cell 4
 replace m5:=M.cell 5
 replace m6:=M.cell 6
 replace m7:=M.cell 7
 replace m8:=M.cell 8
 replace m9:=M.cell 9
 replace m10:=M.cell 10
 simp only[zs4,zs5]at m0 m1 m2 m3 m4 m5 m6 m7 m8 m9 m10
 replace lM:=M.lt
 replace R:=R.keep hs2 R.lt
 replace r0:=R.cell 0
 replace r1:=R.cell 1
 replace r2:=R.cell 2
 simp only[zs4,zs5]at r0 r1 r2
 replace lR:=R.lt
 clear M lM m0 m1 m2 m3 m4 m5 m6 m7 m8 m9 m10
 clear HC HS
 go_wp2_with fail
 have f0:=R.frozen 0
 have f1:=R.frozen 1
 have f2:=R.frozen 2
 refine(HD.out _).mono ?_
 rintro e w3⟨rfl,hq3⟩
 have hs3:Q w2 w3:=Q.trans bt hq3
 have hQ3:Q w w3:=Q.trans hQ2 hs3
 replace R:=R.keep hs3 R.lt
 clear f0 f1 f2
 have f0:=R.frozen 0
 have f1:=R.frozen 1
 have f2:=R.frozen 2
 clear A lA a0
 replace r0:=R.cell 0
 replace r1:=R.cell 1
 replace r2:=R.cell 2
 simp only[zs4,zs5]at r0 r1 r2
 go_wp2
 refine bodyPost_ret (v:=.tuple #[.agg #[.string ⟨U.toArray⟩,.string ⟨V.toArray⟩,.string ⟨T.toArray⟩],.int .i64 0]) (zek Tryz.results232 (.inl rfl) _ _ (w.heap.size+2) _ _ _ _ rfl rfl (R.set3.cell 0) (R.set3.cell 1) (R.set3.cell 2)) rfl ⟨rfl,bt⟩
theorem zkW{n:Nat}(k W D:Int)(hm:MOk k W D)(f t:P3)(hf:B3 n f)(ht:B3 n t)(hn:n≤36)(hne:f≠t)(w:World)(hE:Env w) :
  Calls Tryz.prog 168 #[VM k W D f t] w fun e w'=>e=.returned (.tuple #[V3 (t.sub f),.int .i64 0])∧Q w w':=by
 have HS:=LH (fun w hw=>zsz k W D hm f t hf ht hn hne w hw)
 unfold VM V3 at *
 clear hm hf ht hne
 generalize za (t.sub f).x=U at *
 generalize za (t.sub f).y=V at *
 generalize za (t.sub f).z=T at *
 generalize za f.x=X at *
 generalize za f.y=Y at *
 generalize za f.z=Z at *
 generalize za t.x=X' at *
 generalize za t.y=Y' at *
 generalize za t.z=Z' at *
 go_enter Tryz.func168,Tryz.ntmps168
 have hQ0:=Q.refl w
 go_wp2_with fail
 refine(HS.out _ (hE.ofQ bt)).mono ?_
 rintro e w1⟨rfl,hq1⟩
 have hs1:Q w w1:=Q.trans bt hq1
 have hQ1:Q w w1:=Q.trans hQ0 hs1
 have R:=(Blk.new1 w (.cells #[.int .i64 k,.int .i64 0,.int .i64 (-1),.string ⟨X.toArray⟩,.string ⟨Y.toArray⟩,.string ⟨Z.toArray⟩,.string ⟨X'.toArray⟩,.string ⟨Y'.toArray⟩,.string ⟨Z'.toArray⟩,.int .i64 W,.int .i64 D] 34) [.string ⟨#[]⟩,.string ⟨#[]⟩,.string ⟨#[]⟩] 32).keep hq1 (by first | (simp;done)|(simp;omega))
 have f0:=R.frozen 0
 have f1:=R.frozen 1
 have f2:=R.frozen 2
 replace r0:=R.cell 0
 replace r1:=R.cell 1
 replace r2:=R.cell 2
 simp only[zs4,zs5]at r0 r1 r2
 replace lR:=R.lt
 go_wp2
 refine bodyPost_ret (v:=.tuple #[.agg #[.string ⟨U.toArray⟩,.string ⟨V.toArray⟩,.string ⟨T.toArray⟩],.int .i64 0]) (zek Tryz.results168 (.inl rfl) _ _ (w.heap.size+1) _ _ _ _ rfl rfl (R.set3.cell 0) (R.set3.cell 1) (R.set3.cell 2)) rfl ⟨rfl,bt⟩
theorem zdE{n:Nat}(k W D:Int)(hm:MOk k W D)(f t:P3)(hf:B3 n f)(ht:B3 n t)(hn:n≤36)(hne:f≠t)(w:World)(hE:Env w) :
  Calls Tryz.prog 110 #[VM k W D f t] w fun e w'=>e=.returned (.tuple #[V3 (t.sub f),.int .i64 0])∧Q w w':=by
 have HC:=LH (fun w hw=>zgP k W D hm f t hf ht hn hne w hw)
 have HS:=LH (fun w hw=>zkW k W D hm f t hf ht hn hne w hw)
 unfold VM V3 at *
 clear hm hf ht hne
 generalize za (t.sub f).x=U at *
 generalize za (t.sub f).y=V at *
 generalize za (t.sub f).z=T at *
 generalize za f.x=X at *
 generalize za f.y=Y at *
 generalize za f.z=Z at *
 generalize za t.x=X' at *
 generalize za t.y=Y' at *
 generalize za t.z=Z' at *
 go_enter Tryz.func110,Tryz.ntmps110
 have hQ0:=Q.refl w
 go_wp2_with fail
 refine(HC.out _ (hE.ofQ bt)).mono ?_
 rintro e w1⟨rfl,hq1⟩
 have hs1:Q w w1:=Q.trans bt hq1
 have hQ1:Q w w1:=Q.trans hQ0 hs1
 have M:=((Blk.new w [.int .i64 k,.int .i64 0,.int .i64 (-1),.string ⟨X.toArray⟩,.string ⟨Y.toArray⟩,.string ⟨Z.toArray⟩,.string ⟨X'.toArray⟩,.string ⟨Y'.toArray⟩,.string ⟨Z'.toArray⟩,.int .i64 W,.int .i64 D] 34).alloc (.cells #[.string ⟨#[]⟩,.string ⟨#[]⟩,.string ⟨#[]⟩] 32)).keep hq1 (by first | (simp;done)|(simp;omega))
 have R:=(Blk.new1 w (.cells #[.int .i64 k,.int .i64 0,.int .i64 (-1),.string ⟨X.toArray⟩,.string ⟨Y.toArray⟩,.string ⟨Z.toArray⟩,.string ⟨X'.toArray⟩,.string ⟨Y'.toArray⟩,.string ⟨Z'.toArray⟩,.int .i64 W,.int .i64 D] 34) [.string ⟨#[]⟩,.string ⟨#[]⟩,.string ⟨#[]⟩] 32).keep hq1 (by first | (simp;done)|(simp;omega))
 replace m0:=M.cell 0
 replace m1:=M.cell 1
 replace m2:=M.cell 2
 replace m3:=M.cell 3
 replace m4:=M.cell 4
 replace m5:=M.cell 5
 replace m6:=M.cell 6
 replace m7:=M.cell 7
 replace m8:=M.cell 8
 replace m9:=M.cell 9
 replace m10:=M.cell 10
 simp only[zs4,zs5]at m0 m1 m2 m3 m4 m5 m6 m7 m8 m9 m10
 replace lM:=M.lt
 replace r0:=R.cell 0
 replace r1:=R.cell 1
 replace r2:=R.cell 2
 simp only[zs4,zs5]at r0 r1 r2
 replace lR:=R.lt
 go_wp2_with fail
 refine(HS.out _ (hE.ofQ bt)).mono ?_
 rintro e w2⟨rfl,hq2⟩
 have hs2:Q w1 w2:=Q.trans bt hq2
 have hQ2:Q w w2:=Q.trans hQ1 hs2
 replace M:=M.keep hs2 M.lt
 replace m0:=M.cell 0
 replace m1:=M.cell 1
 replace m2:=M.cell 2
 replace m3:=M.cell 3
 replace m4:=M.cell 4
 replace m5:=M.cell 5
 replace m6:=M.cell 6
 replace m7:=M.cell 7
 replace m8:=M.cell 8
 replace m9:=M.cell 9
 replace m10:=M.cell 10
 simp only[zs4,zs5]at m0 m1 m2 m3 m4 m5 m6 m7 m8 m9 m10
 replace lM:=M.lt
 replace R:=R.keep hs2 R.lt
 replace r0:=R.cell 0
 replace r1:=R.cell 1
 replace r2:=R.cell 2
 simp only[zs4,zs5]at r0 r1 r2
 replace lR:=R.lt
 clear M lM m0 m1 m2 m3 m4 m5 m6 m7 m8 m9 m10
 have f0:=R.frozen 0
 have f1:=R.frozen 1
 have f2:=R.frozen 2
 go_wp2
 refine bodyPost_ret (v:=.tuple #[.agg #[.string ⟨U.toArray⟩,.string ⟨V.toArray⟩,.string ⟨T.toArray⟩],.int .i64 0]) (zek Tryz.results110 (.inl rfl) _ _ (w.heap.size+1) _ _ _ _ rfl rfl (R.set3.cell 0) (R.set3.cell 1) (R.set3.cell 2)) rfl ⟨rfl,bt⟩
theorem zoL{n:Nat}(k W D:Int)(hm:MOk k W D)(f t:P3)(hf:B3 n f)(ht:B3 n t)(hn:n≤36)(hne:f≠t)(w:World)(hE:Env w) :
  Calls Tryz.prog 61 #[VM k W D f t] w fun e w'=>e=.returned (.tuple #[.string ⟨(za (t.z - f.z)).toArray⟩,.int .i64 0])∧Q w w':=by
 have HS:=LH (fun w hw=>zdE k W D hm f t hf ht hn hne w hw)
 rw[show t.z - f.z=(t.sub f).z from rfl]
 unfold VM V3 at *
 clear hm hf ht hne
 generalize za (t.sub f).x=U at *
 generalize za (t.sub f).y=V at *
 generalize za (t.sub f).z=T at *
 generalize za f.x=X at *
 generalize za f.y=Y at *
 generalize za f.z=Z at *
 generalize za t.x=X' at *
 generalize za t.y=Y' at *
 generalize za t.z=Z' at *
 go_enter Tryz.func61,Tryz.ntmps61
 have hQ0:=Q.refl w
 go_wp2_with fail
 refine(HS.out _ (hE.ofQ bt)).mono ?_
 rintro e w1⟨rfl,hq1⟩
 have hs1:Q w w1:=Q.trans bt hq1
 have hQ1:Q w w1:=Q.trans hQ0 hs1
 go_wp2
 go_ret2
 exact⟨rfl,bt⟩
def LenAt(w:World)(B:Nat)(v:Value)(s:Rat):Prop:=(s=0∧v=.slice none 0 0)∨(0<s.num∧zaJ w B v (aOf s) (leftOf s))
theorem LenAt.keep{w w':World}{B:Nat}{v:Value}{s:Rat}(h:LenAt w B v s)(hq:Q w w'):LenAt w' B v s :=
 h.elim .inl (fun h=>.inr ⟨h.1,zU h.2 hq⟩)
theorem LenAt.mono{w:World}{B B':Nat}{v:Value}{s:Rat}(h:LenAt w B v s)(hb:B'≤B):LenAt w B' v s :=
 h.elim .inl (fun h=>.inr ⟨h.1,Joins.ownsRow_le h.2 hb⟩)
theorem sq_nonneg(a:Rat):0≤a*a:=by
 rcases Rat.le_total (a:=0) (b:=a)with h | h
 ·exact Rat.mul_nonneg h h
 ·have h2:0≤-a:=by rw[← Rat.neg_zero];exact Rat.neg_le_neg h
  have:=Rat.mul_nonneg h2 h2
  rwa[Rat.neg_mul,Rat.mul_neg,Rat.neg_neg]at this
theorem P3.sq_nonneg(p:P3):0≤p.sq:=Rat.add_nonneg (Rat.add_nonneg (Go.Proofs.YtbpghkdadajomaaGreatDoor.sq_nonneg _) (Go.Proofs.YtbpghkdadajomaaGreatDoor.sq_nonneg _)) (Go.Proofs.YtbpghkdadajomaaGreatDoor.sq_nonneg _)
theorem zmi{s:Rat}(b:Bd 16 s)(hp:0<s.num):Term1 (aOf s) (leftOf s):=by
 have ba:=zj3 b hp
 have bl:Bd 32 (leftOf s:Rat):=zpC b hp (by decide)
 exact⟨ba.zak (by decide),zrz b hp,by have:=zbd ba (by decide);omega,zqQ hp,bl.mono (by decide)⟩
theorem zj5{n:Nat}(p:P3)(h:B3 n p)(hn:6*n+2≤300)(hs:Bd 16 p.sq)(w:World)(hE:Env w) :
  Calls Tryz.prog 111 #[V3 p] w fun e w'=>∃ v,e=.returned (.tuple #[v,.int .i64 0])∧Q w w'∧LenAt w' w.heap.size v p.sq:=by
 have HC:=LH (fun w hw=>zb8 p h (by omega) w hw)
 have HD:=LH (fun w hw=>znC p h hn w hw)
 have h0:=P3.sq_nonneg p
 have h0':0≤p.sq.num:=Rat.num_nonneg.2 h0
 unfold V3 at *
 clear h h0
 generalize p.sq=s at *
 by_cases hz:s.num=0
 ·have e0:s=0:=Rat.num_eq_zero.1 hz
  subst e0
  have HN:=LH (fun w hw=>zhT w hw)
  have HL:=LH (show ∀ w':World,LenAt w' w.heap.size (.slice none 0 0) 0 from fun w'=>.inl ⟨rfl,rfl⟩)
  clear hz h0' hs
  generalize za 0=S at *
  generalize za p.x=U at *
  generalize za p.y=V at *
  generalize za p.z=T at *
  go_enter Tryz.func111,Tryz.ntmps111
  have hQ0:=Q.refl w
  go_wp2_with fail
  refine(HC.out _ (hE.ofQ bt)).mono ?_
  rintro e w1⟨rfl,hq1⟩
  have hs1:Q w w1:=Q.trans bt hq1
  have hQ1:Q w w1:=Q.trans hQ0 hs1
  have A:=(Blk.new w [.string ⟨U.toArray⟩,.string ⟨V.toArray⟩,.string ⟨T.toArray⟩] 32).keep hq1 (by first | (simp;done)|(simp;omega))
  replace a0:=A.cell 0
  replace a1:=A.cell 1
  replace a2:=A.cell 2
  simp only[zs4,zs5]at a0 a1 a2
  replace lA:=A.lt
  go_wp2_with fail
  refine(HD.out _ (hE.ofQ bt)).mono ?_
  rintro e w2⟨rfl,hq2⟩
  have hs2:Q w1 w2:=Q.trans bt hq2
  have hQ2:Q w w2:=Q.trans hQ1 hs2
  replace A:=A.keep hs2 A.lt
  replace a0:=A.cell 0
  replace a1:=A.cell 1
  replace a2:=A.cell 2
  simp only[zs4,zs5]at a0 a1 a2
  replace lA:=A.lt
  clear A lA a0 a1 a2
  go_wp2_with fail
  refine(HN.out _ (hE.ofQ bt)).mono ?_
  rintro e w3⟨rfl,hq3⟩
  have hs3:Q w2 w3:=Q.trans bt hq3
  have hQ3:Q w w3:=Q.trans hQ2 hs3
  go_wp2
  go_ret2
  exact⟨_,rfl,bt,HL.out _⟩
 ·have hp:0<s.num:=by omega
  have hn0:=fun w hw=>zei s (hs.root90 (by decide)) hp w hw
  have ht:=zmi hs hp
  have hL:∀ w' v,zaJ w' w.heap.size v (aOf s) (leftOf s)→LenAt w' w.heap.size v s:=fun w' v h=>.inr ⟨hp,h⟩
  have HL:=LH hL
  have hK:∀ B v w,Env w→zaJ w B v (aOf s) (leftOf s)→_:=fun B v w hw hv=>zaV (aOf s) (leftOf s) ht B v w hw hv
  have HK:=LH hK
  rw[show Rat.divInt (zaI (s.num.toNat*s.den)).1 s.den=aOf s from rfl,show (zaI (s.num.toNat*s.den)).2=leftOf s from rfl]at hn0
  have HN:=LH hn0
  have hcz:(za (aOf s) == [48])=false:=by
   rw[beq_eq_false_iff_ne,← zI];exact fun h=>ht.ne (zav h)
  clear hz h0' hs hn0 ht hp hK hL
  unfold zaJ at *
  generalize za (aOf s)=C at *
  generalize Lib.itoa (leftOf s:Int)=N at *
  generalize za s=S at *
  generalize za p.x=U at *
  generalize za p.y=V at *
  generalize za p.z=T at *
  go_enter Tryz.func111,Tryz.ntmps111
  have hQ0:=Q.refl w
  go_wp2_with fail
  refine(HC.out _ (hE.ofQ bt)).mono ?_
  rintro e w1⟨rfl,hq1⟩
  have hs1:Q w w1:=Q.trans bt hq1
  have hQ1:Q w w1:=Q.trans hQ0 hs1
  have A:=(Blk.new w [.string ⟨U.toArray⟩,.string ⟨V.toArray⟩,.string ⟨T.toArray⟩] 32).keep hq1 (by first | (simp;done)|(simp;omega))
  replace a0:=A.cell 0
  replace a1:=A.cell 1
  replace a2:=A.cell 2
  simp only[zs4,zs5]at a0 a1 a2
  replace lA:=A.lt
  go_wp2_with fail
  refine(HD.out _ (hE.ofQ bt)).mono ?_
  rintro e w2⟨rfl,hq2⟩
  have hs2:Q w1 w2:=Q.trans bt hq2
  have hQ2:Q w w2:=Q.trans hQ1 hs2
  replace A:=A.keep hs2 A.lt
  replace a0:=A.cell 0
  replace a1:=A.cell 1
  replace a2:=A.cell 2
  simp only[zs4,zs5]at a0 a1 a2
  replace lA:=A.lt
  clear A lA a0 a1 a2
  go_wp2_with fail
  refine(HN.out _ (hE.ofQ bt)).mono ?_
  rintro e w3⟨rfl,hq3⟩
  have hs3:Q w2 w3:=Q.trans bt hq3
  have hQ3:Q w w3:=Q.trans hQ2 hs3
  have S1:=World.ownsRow_lit (base:=w.heap.size) (e:=84) (size:=2) w3 #[.string ⟨C.toArray⟩,.string ⟨N.toArray⟩] 1 hQ3.size (by decide) rfl
  go_wp2_with fail
  refine(HK.out _ _ _ (hE.ofQ bt) S1).mono ?_
  rintro e w4⟨rfl,hq4⟩
  have hs4:Q w3 w4:=Q.trans bt hq4
  have hQ4:Q w w4:=Q.trans hQ3 hs4
  have S2:=HL.out _ _ (zf S1 hq4)
  go_wp2
  go_ret2
  exact⟨_,rfl,bt,S2⟩
theorem zle(U V T:Str)(w:World) :
  Calls Tryz.prog 58 #[.agg #[.string ⟨U.toArray⟩,.string ⟨V.toArray⟩,.string ⟨T.toArray⟩]] w fun e w'=>e=.returned (.agg #[.string ⟨U.toArray⟩,.string ⟨V.toArray⟩,.string ⟨T.toArray⟩])∧Q w w':=by
 go_enter Tryz.func58,Tryz.ntmps58
 go_wp2
 have BB:=Blk.new1 w (.cells #[.string ⟨U.toArray⟩,.string ⟨V.toArray⟩,.string ⟨T.toArray⟩] 32) [.string ⟨U.toArray⟩,.string ⟨V.toArray⟩,.string ⟨T.toArray⟩] 32
 refine bodyPost_ret (v:=.agg #[.string ⟨U.toArray⟩,.string ⟨V.toArray⟩,.string ⟨T.toArray⟩]) (zlq Tryz.results58 (.inl rfl) _ _ (w.heap.size+1) _ _ _ rfl (BB.cell 0) (BB.cell 1) (BB.cell 2)) rfl ⟨rfl,bt⟩
theorem zoK(U V T:Str)(w:World) :
  Calls Tryz.prog 112 #[.agg #[.string ⟨U.toArray⟩,.string ⟨V.toArray⟩,.string ⟨T.toArray⟩]] w fun e w'=>e=.returned (.agg #[.string ⟨U.toArray⟩,.string ⟨V.toArray⟩,.string ⟨#[48]⟩])∧Q w w':=by
 go_enter Tryz.func112,Tryz.ntmps112
 go_wp2
 have BB:=Blk.new1 w (.cells #[.string ⟨U.toArray⟩,.string ⟨V.toArray⟩,.string ⟨T.toArray⟩] 32) [.string ⟨U.toArray⟩,.string ⟨V.toArray⟩,.string ⟨#[48]⟩] 32
 refine bodyPost_ret (v:=.agg #[.string ⟨U.toArray⟩,.string ⟨V.toArray⟩,.string ⟨#[48]⟩]) (zlq Tryz.results112 (.inl rfl) _ _ (w.heap.size+1) _ _ _ rfl (BB.cell 0) (BB.cell 1) (BB.cell 2)) rfl ⟨rfl,bt⟩
theorem zoI(K:Nat)(HK:∀ args w,(callFunc K args).run Tryz.prog w=.ok (.enter K args) w)(g:P3→P3)
  (HG:∀ d w,Calls Tryz.prog K #[V3 d] w fun e w'=>e=.returned (V3 (g d))∧Q w w'){m:Nat}(hm6:6*m+2≤300)
  {n:Nat}(k W D:Int)(hm:MOk k W D)(f t:P3)(hf:B3 n f)(ht:B3 n t)(hn:n≤36)(hne:f≠t)(w:World)(hE:Env w)(hd:B3 m (g (t.sub f)))(hs:Bd 16 (g (t.sub f)).sq) :
  Calls Tryz.prog 59 #[.agg #[.func (.func K) #[] #[]],VM k W D f t] w fun e w'=>∃ v,e=.returned (.tuple #[v,.int .i64 0])∧Q w w'∧LenAt w' w.heap.size v (g (t.sub f)).sq:=by
 have HS:=LH (fun w hw=>zdE k W D hm f t hf ht hn hne w hw)
 have HL:=LH (fun w hw=>zj5 (g (t.sub f)) hd hm6 hs w hw)
 have HP:=LH (fun w=>HG (t.sub f) w)
 unfold VM V3 at *
 clear hm hf ht hne hd hs HG
 generalize (g (t.sub f)).sq=s at *
 generalize za (g (t.sub f)).x=U2 at *
 generalize za (g (t.sub f)).y=V2 at *
 generalize za (g (t.sub f)).z=T2 at *
 generalize za (t.sub f).x=U at *
 generalize za (t.sub f).y=V at *
 generalize za (t.sub f).z=T at *
 generalize za f.x=X at *
 generalize za f.y=Y at *
 generalize za f.z=Z at *
 generalize za t.x=X' at *
 generalize za t.y=Y' at *
 generalize za t.z=Z' at *
 go_enter Tryz.func59,Tryz.ntmps59
 have hQ0:=Q.refl w
 go_wp2_with fail
 refine(HS.out _ (hE.ofQ bt)).mono ?_
 rintro e w1⟨rfl,hq1⟩
 have hs1:Q w w1:=Q.trans bt hq1
 have hQ1:Q w w1:=Q.trans hQ0 hs1
 have A:=((Blk.new w [.func (.func K) #[] #[]] 118).alloc (.cells #[.int .i64 k,.int .i64 0,.int .i64 (-1),.string ⟨X.toArray⟩,.string ⟨Y.toArray⟩,.string ⟨Z.toArray⟩,.string ⟨X'.toArray⟩,.string ⟨Y'.toArray⟩,.string ⟨Z'.toArray⟩,.int .i64 W,.int .i64 D] 34)).keep hq1 (by first | (simp;done)|(simp;omega))
 replace a0:=A.cell 0
 simp only[List.getElem?_cons_zero]at a0
 replace lA:=A.lt
 go_wp2_with fail
 refine(HP.out _).mono ?_
 rintro e w2⟨rfl,hq2⟩
 have hs2:Q w1 w2:=Q.trans bt hq2
 have hQ2:Q w w2:=Q.trans hQ1 hs2
 replace A:=A.keep hs2 A.lt
 replace a0:=A.cell 0
 simp only[List.getElem?_cons_zero]at a0
 replace lA:=A.lt
 clear A lA a0
 go_wp2_with fail
 refine(HL.out _ (hE.ofQ bt)).mono ?_
 rintro e w3⟨v,rfl,hq3,hl⟩
 have hs3:Q w2 w3:=Q.trans bt hq3
 have hQ3:Q w w3:=Q.trans hQ2 hs3
 go_wp2
 go_ret2
 exact⟨_,rfl,bt,hl.mono hQ2.size⟩
theorem zou:∀ args w,(callFunc 58 args).run Tryz.prog w=.ok (.enter 58 args) w:=fun _ _=>by kernel_rfl
theorem zot:∀ args w,(callFunc 112 args).run Tryz.prog w=.ok (.enter 112 args) w:=fun _ _=>by kernel_rfl
theorem zfH{m:Nat}(hm6:6*m+2≤300){n:Nat}(k W D:Int)(hm:MOk k W D)(f t:P3)(hf:B3 n f)(ht:B3 n t)(hn:n≤36)(hne:f≠t)(w:World)(hE:Env w)(hd:B3 m (t.sub f))(hs:Bd 16 (t.sub f).sq) :
  Calls Tryz.prog 21 #[VM k W D f t] w fun e w'=>∃ v,e=.returned (.tuple #[v,.int .i64 0])∧Q w w'∧LenAt w' w.heap.size v (t.sub f).sq:=by
 have HS:=LH (fun w hw=>zoI 58 zou id (fun d w=>zle _ _ _ w) hm6 k W D hm f t hf ht hn hne w hw hd hs)
 unfold VM at *
 clear hm hf ht hne hd hs
 simp only[id]at HS
 generalize (t.sub f).sq=s at *
 generalize za f.x=X at *
 generalize za f.y=Y at *
 generalize za f.z=Z at *
 generalize za t.x=X' at *
 generalize za t.y=Y' at *
 generalize za t.z=Z' at *
 go_enter Tryz.func21,Tryz.ntmps21
 have hQ0:=Q.refl w
 go_wp2_with fail
 refine(HS.out _ (hE.ofQ bt)).mono ?_
 rintro e w1⟨v,rfl,hq1,hl⟩
 have hs1:Q w w1:=Q.trans bt hq1
 have hQ1:Q w w1:=Q.trans hQ0 hs1
 go_wp2
 go_ret2
 exact⟨_,rfl,bt,hl.mono (by first | (simp;done)|(simp;omega))⟩
theorem zqg{m:Nat}(hm6:6*m+2≤300){n:Nat}(k W D:Int)(hm:MOk k W D)(f t:P3)(hf:B3 n f)(ht:B3 n t)(hn:n≤36)(hne:f≠t)(w:World)(hE:Env w)(hd:B3 m (t.sub f).flat)(hs:Bd 16 (t.sub f).flat.sq) :
  Calls Tryz.prog 60 #[VM k W D f t] w fun e w'=>∃ v,e=.returned (.tuple #[v,.int .i64 0])∧Q w w'∧LenAt w' w.heap.size v (t.sub f).flat.sq:=by
 have HS:=LH (fun w hw=>zoI 112 zot P3.flat (fun d w=>by have h:=zoK (za d.x) (za d.y) (za d.z) w;unfold V3 P3.flat;rw[zI];exact h) hm6 k W D hm f t hf ht hn hne w hw hd hs)
 unfold VM at *
 clear hm hf ht hne hd hs
 generalize (t.sub f).flat.sq=s at *
 generalize za f.x=X at *
 generalize za f.y=Y at *
 generalize za f.z=Z at *
 generalize za t.x=X' at *
 generalize za t.y=Y' at *
 generalize za t.z=Z' at *
 go_enter Tryz.func60,Tryz.ntmps60
 have hQ0:=Q.refl w
 go_wp2_with fail
 refine(HS.out _ (hE.ofQ bt)).mono ?_
 rintro e w1⟨v,rfl,hq1,hl⟩
 have hs1:Q w w1:=Q.trans bt hq1
 have hQ1:Q w w1:=Q.trans hQ0 hs1
 go_wp2
 go_ret2
 exact⟨_,rfl,bt,hl.mono (by first | (simp;done)|(simp;omega))⟩
end
section
open Go.RowKit Kp
open Go.Lib (decDigits)
theorem zo6{s:Rat}(h1:s.num≤s.den):Lib.compareInt (s.num*((1:Rat).den:Int)) ((1:Rat).num*(s.den:Int))≤0:=by
 have e1:((1:Rat).den:Int)=1:=rfl
 have e2:(1:Rat).num=1:=rfl
 rw[e1,e2,Int.mul_one,Int.one_mul]
 unfold Lib.compareInt
 split
 ·omega
 ·split <;> omega
theorem Blk.setOther3{w:World}{b b':Nat}{cs:List Value}{t:TypeId}{x y z:Value}(h:Blk w b cs t)(hne:b'≠b):Blk (((w.setCell ⟨b',0,none⟩ x).setCell ⟨b',1,none⟩ y).setCell ⟨b',2,none⟩ z) b cs t :=
 ((h.setOther hne 0 x).setOther hne 1 y).setOther hne 2 z
theorem znH{n m:Nat}(k W D:Int)(hm:MOk k W D)(f t:P3)(hf:B3 n f)(ht:B3 n t)(hn:n≤36)(hne:f≠t)(hd:B3 m (t.sub f))(s:Rat)(bs:zO s)(s0:0≤s.num)(s1:s.num≤s.den)(hnm:n+(m+8)+1≤300)(w:World)(hE:Env w) :
  Calls Tryz.prog 63 #[VM k W D f t,.string ⟨(za s).toArray⟩] w fun e w'=>e=.returned (.tuple #[V3 (f.add ((t.sub f).scale s)),.int .i64 0])∧Q w w':=by
 have bd8:Bd 8 s:=bs
 have HS:=LH (fun w hw=>zdE k W D hm f t hf ht hn hne w hw)
 have HC:=LH (fun w hw=>zm s (bd8.zak (by decide)) w hw)
 have HP:=LH (fun w hw=>za9 s (bd8.zak (by decide)) w hw)
 obtain⟨l1,l2⟩:=zk6 bd8
 have hcm:=fun w=>zbC s 1 bs zo3 w
 have hc0:=zo6 s1
 rw[zaM]at hcm
 have HCM:=LH hcm
 have HV:=LH (fun w hw=>zld (t.sub f) s hd bd8 (by omega) w hw)
 have hb:B3 (m+8) ((t.sub f).scale s):=⟨hd.1.mul bd8,hd.2.1.mul bd8,hd.2.2.mul bd8⟩
 have HA:=LH (fun w hw=>znE f ((t.sub f).scale s) hf hb hnm w hw)
 have hmin:decide ((za s).head? = some 45)=false:=by rw[decide_eq_false_iff_not,zbf];omega
 have HM:=LH (fun w=>zG (za s) w)
 rw[hmin]at HM
 have hu:zq (Lib.itoa s.num)=zq (Lib.itoa s.num):=rfl
 generalize Lib.itoa (s.den:Int)=Dn at *
 have HT:=LH (fun w=>zS (Lib.itoa s.num) w)
 generalize zq (Lib.itoa s.num)=Un at *
 generalize Lib.itoa s.num=Nn at *
 have hmx:decide ((36:Int)<max (Un.length:Int) (Dn.length:Int))=false:=by rw[decide_eq_false_iff_not];omega
 generalize Lib.compareInt (s.num*((1:Rat).den:Int)) ((1:Rat).num*(s.den:Int))=c at *
 have hc1:decide (0<c)=false:=by rw[decide_eq_false_iff_not];omega
 unfold VM V3 at *
 clear hm hf ht hne hd bs bd8 s0 s1 hcm hmin hu hb
 generalize za (f.add ((t.sub f).scale s)).x=R1 at *
 generalize za (f.add ((t.sub f).scale s)).y=R2 at *
 generalize za (f.add ((t.sub f).scale s)).z=R3 at *
 generalize za ((t.sub f).scale s).x=S1 at *
 generalize za ((t.sub f).scale s).y=S2 at *
 generalize za ((t.sub f).scale s).z=S3 at *
 generalize za s=S at *
 generalize za (t.sub f).x=U at *
 generalize za (t.sub f).y=V at *
 generalize za (t.sub f).z=T at *
 generalize za f.x=X at *
 generalize za f.y=Y at *
 generalize za f.z=Z at *
 generalize za t.x=X' at *
 generalize za t.y=Y' at *
 generalize za t.z=Z' at *
 go_enter Tryz.func63,Tryz.ntmps63
 have hQ0:=Q.refl w
 go_wp2_with fail
 refine(HS.out _ (hE.ofQ bt)).mono ?_
 rintro e w1⟨rfl,hq1⟩
 have hs1:Q w w1:=Q.trans bt hq1
 have hQ1:Q w w1:=Q.trans hQ0 hs1
 have M:=((Blk.new w [.int .i64 k,.int .i64 0,.int .i64 (-1),.string ⟨X.toArray⟩,.string ⟨Y.toArray⟩,.string ⟨Z.toArray⟩,.string ⟨X'.toArray⟩,.string ⟨Y'.toArray⟩,.string ⟨Z'.toArray⟩,.int .i64 W,.int .i64 D] 34).alloc (.cells #[.string ⟨#[]⟩,.string ⟨#[]⟩,.string ⟨#[]⟩] 32)).keep hq1 (by first | (simp;done)|(simp;omega))
 have R:=(Blk.new1 w (.cells #[.int .i64 k,.int .i64 0,.int .i64 (-1),.string ⟨X.toArray⟩,.string ⟨Y.toArray⟩,.string ⟨Z.toArray⟩,.string ⟨X'.toArray⟩,.string ⟨Y'.toArray⟩,.string ⟨Z'.toArray⟩,.int .i64 W,.int .i64 D] 34) [.string ⟨#[]⟩,.string ⟨#[]⟩,.string ⟨#[]⟩] 32).keep hq1 (by first | (simp;done)|(simp;omega))
 have hz1:=hQ1.size
 have hlr:=R.lt
 have G:=Blk.new w1 [.string ⟨U.toArray⟩,.string ⟨V.toArray⟩,.string ⟨T.toArray⟩] 32
 go_wp2_with fail
 refine(HC.out _ (hE.ofQ bt)).mono ?_
 rintro e w2⟨rfl,hq2⟩
 have hs2:Q w1 w2:=Q.trans bt hq2
 have hQ2:Q w w2:=Q.trans hQ1 hs2
 replace G:=G.keep hq2 G.lt
 replace M:=M.keep hs2 M.lt
 replace R:=R.keep hs2 R.lt
 go_wp2_with fail
 refine(HP.out _ (hE.ofQ bt)).mono ?_
 rintro e w3⟨rfl,hq3⟩
 have hs3:Q w2 w3:=Q.trans bt hq3
 have hQ3:Q w w3:=Q.trans hQ2 hs3
 replace G:=G.keep hs3 G.lt
 replace M:=M.keep hs3 M.lt
 replace R:=R.keep hs3 R.lt
 go_wp2_with fail
 refine(HT.out _).mono ?_
 rintro e w4⟨rfl,rfl⟩
 go_wp2_with fail
 refine(HCM.out _).mono ?_
 rintro e w4⟨rfl,hq4⟩
 have hs4:Q w3 w4:=Q.trans bt hq4
 have hQ4:Q w w4:=Q.trans hQ3 hs4
 replace G:=G.keep hs4 G.lt
 replace M:=M.keep hs4 M.lt
 replace R:=R.keep hs4 R.lt
 go_wp2_with fail
 refine(HM.out _).mono ?_
 rintro e w5⟨rfl,rfl⟩
 have g0:=G.cell 0
 have g1:=G.cell 1
 have g2:=G.cell 2
 simp only[zs4,zs5]at g0 g1 g2
 go_wp2_with fail
 refine(HV.out _ (hE.ofQ bt)).mono ?_
 rintro e w6⟨rfl,hq6⟩
 have hs6:Q w4 w6:=Q.trans bt hq6
 have hQ6:Q w w6:=Q.trans hQ4 hs6
 replace G:=G.keep hs6 G.lt
 replace M:=M.keep hs6 M.lt
 replace R:=R.keep hs6 R.lt
 replace g0:=G.cell 0
 replace g1:=G.cell 1
 replace g2:=G.cell 2
 have f0:=G.frozen 0
 have f1:=G.frozen 1
 have f2:=G.frozen 2
 have m3:=M.cell 3
 have m4:=M.cell 4
 have m5:=M.cell 5
 have lM:=M.lt
 have lG:=G.lt
 have lR:=R.lt
 have hMG:w1.heap.size≠w.heap.size:=by omega
 have hRG:w1.heap.size≠w.heap.size+1:=by omega
 simp only[zs4,zs5]at g0 g1 g2 m3 m4 m5
 go_wp2_with fail
 refine(HA.out _ (hE.ofQ bt)).mono ?_
 rintro e w7⟨rfl,hq7⟩
 have hQ7:Q w w7:=Below.trans bt (hq7.mono (by simp;omega))
 replace R:=(R.setOther3 (x:=.string ⟨S1.toArray⟩) (y:=.string ⟨S2.toArray⟩) (z:=.string ⟨S3.toArray⟩) hRG).keep hq7 (by simp;omega)
 clear g0 g1 g2 f0 f1 f2 m3 m4 m5
 have r0:=R.cell 0
 have r1:=R.cell 1
 have r2:=R.cell 2
 simp only[zs4,zs5]at r0 r1 r2
 have f0:=R.frozen 0
 have f1:=R.frozen 1
 have f2:=R.frozen 2
 go_wp2
 refine bodyPost_ret (v:=.tuple #[.agg #[.string ⟨R1.toArray⟩,.string ⟨R2.toArray⟩,.string ⟨R3.toArray⟩],.int .i64 0]) (zek Tryz.results63 (.inl rfl) _ _ (w.heap.size+1) _ _ _ _ rfl rfl (R.set3.cell 0) (R.set3.cell 1) (R.set3.cell 2)) rfl ⟨rfl,bt⟩
end
end Go.Proofs.YtbpghkdadajomaaGreatDoor
