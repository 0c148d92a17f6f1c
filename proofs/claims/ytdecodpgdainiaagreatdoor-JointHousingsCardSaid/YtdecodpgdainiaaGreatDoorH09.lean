/-
  VA VB VC VD, one behind the other.; VE VF VG VH, one behind the other.; Regions that draw their order, of an iterator: the first operations in whatever order, then what is left, the loop's body among it, one by one.; Rows of any elements in memory.
-/
import Derived.Test.YtdecodpgdainiaaGreatDoorHSU2
import Derived.Lib.MinMax
import Derived.Test.YtdecodpgdainiaaGreatDoorHBI1
set_option maxRecDepth 100000
set_option maxHeartbeats 2000000
namespace Kp
structure P3 where
 x:Rat
 y:Rat
 z:Rat
deriving DecidableEq
namespace P3
def sub(a b:P3):P3:=⟨a.x - b.x,a.y - b.y,a.z - b.z⟩
def add(a b:P3):P3:=⟨a.x+b.x,a.y+b.y,a.z+b.z⟩
def neg(a:P3):P3:=⟨-a.x,-a.y,-a.z⟩
def flat(a:P3):P3:=⟨a.x,a.y,0⟩
def sq(a:P3):Rat:=a.x*a.x+a.y*a.y+a.z*a.z
end P3
end Kp
namespace Go.Proofs.YtdecodpgdainiaaGreatDoor
section
open Go.RowKit Kp
open Go.Lib (decDigits)
abbrev V3(p:P3):Value:=.agg #[.string ⟨(za p.x).toArray⟩,.string ⟨(za p.y).toArray⟩,.string ⟨(za p.z).toArray⟩]
def B3(n:Nat)(p:P3):Prop:=Bd n p.x∧Bd n p.y∧Bd n p.z
theorem zsC{fn:Func}{m:Tmp}{T:TypeId}(hf:fn.results=#[.cell m T])(hT:T=24∨T=96)(tmps:Array Value)(W:World)(b:Nat)(x y z:Value)(hp:tmps.getD m undef=.pointer (some ⟨b,0,none⟩))
  (c0:W.cell? ⟨b,0,none⟩=some x)(c1:W.cell? ⟨b,1,none⟩=some y)(c2:W.cell? ⟨b,2,none⟩=some z) :
  (results fn tmps).run Tryz.prog W=.ok (.agg #[x,y,z]) W:=by
 simp only[Array.getD_eq_getD_getElem?]at hp
 rcases hT with rfl | rfl <;> simp[results,hf,go_sem,hp,c0,c1,c2]
theorem zi3{fn:Func}{m k:Tmp}{T:TypeId}(hf:fn.results=#[.cell m T,.tmp k])(hT:T=24∨T=96)(tmps:Array Value)(W:World)(b:Nat)(x y z u:Value)(hp:tmps.getD m undef=.pointer (some ⟨b,0,none⟩))(hk:tmps.getD k undef=u)
  (c0:W.cell? ⟨b,0,none⟩=some x)(c1:W.cell? ⟨b,1,none⟩=some y)(c2:W.cell? ⟨b,2,none⟩=some z) :
  (results fn tmps).run Tryz.prog W=.ok (.tuple #[.agg #[x,y,z],u]) W:=by
 simp only[Array.getD_eq_getD_getElem?]at hp hk
 rcases hT with rfl | rfl <;> simp[results,hf,go_sem,hp,hk,c0,c1,c2]
theorem Blk.set3{w:World}{b:Nat}{x y z x' y' z':Value}{t:TypeId}(h:Blk w b [x,y,z] t):Blk (((w.setCell ⟨b,0,none⟩ x').setCell ⟨b,1,none⟩ y').setCell ⟨b,2,none⟩ z') b [x',y',z'] t :=
 ((h.set 0 x').set 1 y').set 2 z'
theorem zel(X Y Z:Str)(w:World) :
  CR 46 #[.agg #[.string ⟨X.toArray⟩,.string ⟨Y.toArray⟩,.string ⟨Z.toArray⟩]] w (.agg #[.string ⟨X.toArray⟩,.string ⟨Y.toArray⟩,.string ⟨Z.toArray⟩]):=by
 go_enter Tryz.func46,Tryz.ntmps46
 go_wp2
 have BB:=Blk.new (w.alloc (.cells #[.string ⟨X.toArray⟩,.string ⟨Y.toArray⟩,.string ⟨Z.toArray⟩] 97)) [.string ⟨X.toArray⟩,.string ⟨Y.toArray⟩,.string ⟨Z.toArray⟩] 96
 rw[World.size_alloc]at BB
 refine bodyPost_ret (v:=.agg #[.string ⟨X.toArray⟩,.string ⟨Y.toArray⟩,.string ⟨Z.toArray⟩]) (zsC Tryz.results46 (.inr rfl) _ _ (w.heap.size+1) _ _ _ rfl (BB.cell 0) (BB.cell 1) (BB.cell 2)) rfl ⟨rfl,bt⟩
theorem zp0(X Y Z:Str)(w:World) :
  CR 191 #[.agg #[.string ⟨X.toArray⟩,.string ⟨Y.toArray⟩,.string ⟨Z.toArray⟩]] w (.agg #[.string ⟨X.toArray⟩,.string ⟨Y.toArray⟩,.string ⟨Z.toArray⟩]):=by
 go_enter Tryz.func191,Tryz.ntmps191
 go_wp2
 have BB:=Blk.new (w.alloc (.cells #[.string ⟨X.toArray⟩,.string ⟨Y.toArray⟩,.string ⟨Z.toArray⟩] 96)) [.string ⟨X.toArray⟩,.string ⟨Y.toArray⟩,.string ⟨Z.toArray⟩] 24
 rw[World.size_alloc]at BB
 refine bodyPost_ret (v:=.agg #[.string ⟨X.toArray⟩,.string ⟨Y.toArray⟩,.string ⟨Z.toArray⟩]) (zsC Tryz.results191 (.inl rfl) _ _ (w.heap.size+1) _ _ _ rfl (BB.cell 0) (BB.cell 1) (BB.cell 2)) rfl ⟨rfl,bt⟩
theorem zqU(x y z:Value)(w:World):(Instr.index 96 (.agg #[x,y,z]) (.int .i64 0)).run Tryz.prog w=.ok x w:=by kernel_rfl
theorem zqT(x y z:Value)(w:World):(Instr.index 96 (.agg #[x,y,z]) (.int .i64 1)).run Tryz.prog w=.ok y w:=by kernel_rfl
theorem zqS(x y z:Value)(w:World):(Instr.index 96 (.agg #[x,y,z]) (.int .i64 2)).run Tryz.prog w=.ok z w:=by kernel_rfl
theorem ziL(X Y Z:Str)(HX:Hid (∀ w,Env w→CR 28 #[.string ⟨X.toArray⟩] w (.int .i64 0)))
  (HY:Hid (∀ w,Env w→CR 28 #[.string ⟨Y.toArray⟩] w (.int .i64 0)))
  (HZ:Hid (∀ w,Env w→CR 28 #[.string ⟨Z.toArray⟩] w (.int .i64 0)))(w:World)(hE:Env w) :
  CR 15 #[.agg #[.string ⟨X.toArray⟩,.string ⟨Y.toArray⟩,.string ⟨Z.toArray⟩]] w (.int .i64 0):=by
 have HL:=LH (fun w=>zel X Y Z w)
 go_enter Tryz.func15,Tryz.ntmps15
 have hQ0:=Q.refl w
 go_wp2_with fail
 refine cx (HL.out _) fun w1 hq1=>?_
 have hs1:Q w w1:=Q.trans bt hq1
 have hQ1:Q w w1:=Q.trans hQ0 hs1
 go_wp2
 go_loopw [8] (fun i wr=>(i=.int .i64 0∨i=.int .i64 1∨i=.int .i64 2∨i=.int .i64 3)∧Q w wr) (fun i _=>3 - (intOf i).toNat)
 case atStart=>exact⟨.inl rfl,hQ1⟩
 case round =>
  obtain⟨hi,hQ⟩:=hrel
  clear hQ0 hs1 hq1 hQ1
  rcases hi with rfl | rfl | rfl | rfl
  ·have hi:=zqU (.string ⟨X.toArray⟩) (.string ⟨Y.toArray⟩) (.string ⟨Z.toArray⟩)
   go_wp2_with fail
   refine cx (HX.out _ (hE.ofQ bt)) fun w2 hq2=>?_
   have hQ2:Q w w2:=Q.trans bt hq2
   go_wp2
   go_roundw
   case rel=>exact⟨.inr (.inl rfl),hQ2⟩
   case measure=>simp[intOf]
  ·have hi:=zqT (.string ⟨X.toArray⟩) (.string ⟨Y.toArray⟩) (.string ⟨Z.toArray⟩)
   go_wp2_with fail
   refine cx (HY.out _ (hE.ofQ bt)) fun w2 hq2=>?_
   have hQ2:Q w w2:=Q.trans bt hq2
   go_wp2
   go_roundw
   case rel=>exact⟨.inr (.inr (.inl rfl)),hQ2⟩
   case measure=>simp[intOf]
  ·have hi:=zqS (.string ⟨X.toArray⟩) (.string ⟨Y.toArray⟩) (.string ⟨Z.toArray⟩)
   go_wp2_with fail
   refine cx (HZ.out _ (hE.ofQ bt)) fun w2 hq2=>?_
   have hQ2:Q w w2:=Q.trans bt hq2
   go_wp2
   go_roundw
   case rel=>exact⟨.inr (.inr (.inr rfl)),hQ2⟩
   case measure=>simp[intOf]
  ·go_wp2
   go_ret
   exact⟨rfl,bt⟩
theorem zdz{n:Nat}(p:P3)(h:B3 n p)(hn:n≤300)(w:World)(hE:Env w) :
  CR 15 #[V3 p] w (.int .i64 0) :=
 ziL _ _ _ (LH fun w hw=>zO p.x (h.1.zak hn) w hw) (LH fun w hw=>zO p.y (h.2.1.zak hn) w hw) (LH fun w hw=>zO p.z (h.2.2.zak hn) w hw) w hE
theorem znc{n m:Nat}(p q:P3)(h:B3 n p)(k:B3 m q)(hn:n≤300)(hm:m≤300)(w:World)(hE:Env w) :
  CR 146 #[V3 p,V3 q] w (.int .i64 0):=by
 have HP:=LH (fun w hw=>zdz p h hn w hw)
 have HQ:=LH (fun w hw=>zdz q k hm w hw)
 clear h k
 unfold V3 at *
 generalize za p.x=X at *
 generalize za p.y=Y at *
 generalize za p.z=Z at *
 generalize za q.x=X' at *
 generalize za q.y=Y' at *
 generalize za q.z=Z' at *
 go_enter Tryz.func146,Tryz.ntmps146
 have hQ0:=Q.refl w
 go_wp2_with fail
 refine cx (HP.out _ (hE.ofQ bt)) fun w1 hq1=>?_
 have hs1:Q w w1:=Q.trans bt hq1
 have hQ1:Q w w1:=Q.trans hQ0 hs1
 have D:=(Blk.new (w.alloc (.cells #[.string ⟨X.toArray⟩,.string ⟨Y.toArray⟩,.string ⟨Z.toArray⟩] 24)) [.string ⟨X'.toArray⟩,.string ⟨Y'.toArray⟩,.string ⟨Z'.toArray⟩] 24).keep hq1 (by first | (simp;done)|(simp;omega))
 rw[World.size_alloc]at D
 replace d0:=D.cell
 replace lD:=D.lt
 go_wp2_with fail
 refine cx (HQ.out _ (hE.ofQ bt)) fun w2 hq2=>?_
 have hs2:Q w1 w2:=Q.trans bt hq2
 have hQ2:Q w w2:=Q.trans hQ1 hs2
 replace D:=D.keep hs2 D.lt
 replace d0:=D.cell
 replace lD:=D.lt
 go_wp2
 go_ret
 exact⟨rfl,bt⟩
def ztW(K:Nat)(x y z:Str):Prop:=∀ w,Env w→Calls Tryz.prog K #[.string ⟨x.toArray⟩,.string ⟨y.toArray⟩] w fun e w'=>e=.returned (.tuple #[.string ⟨z.toArray⟩,.int .i64 0])∧Q w w'
theorem znb(K:Nat)(HK:∀ args w,(callFunc K args).run Tryz.prog w=.ok (.enter K args) w)(X Y Z X' Y' Z' U V T:Str)(HU:Hid (ztW K X X' U))(HV:Hid (ztW K Y Y' V))(HT:Hid (ztW K Z Z' T))(w:World)(hE:Env w) :
  Calls Tryz.prog 147 #[.agg #[.string ⟨X.toArray⟩,.string ⟨Y.toArray⟩,.string ⟨Z.toArray⟩],.agg #[.string ⟨X'.toArray⟩,.string ⟨Y'.toArray⟩,.string ⟨Z'.toArray⟩],.func (.func K) #[] #[]] w fun e w' =>
   e=.returned (.tuple #[.agg #[.string ⟨U.toArray⟩,.string ⟨V.toArray⟩,.string ⟨T.toArray⟩],.int .i64 0])∧Q w w':=by
 have HL:=LH (fun w=>zel X Y Z w)
 have HL':=LH (fun w=>zel X' Y' Z' w)
 have HO:=LH (fun w=>zp0 U V T w)
 go_enter Tryz.func147,Tryz.ntmps147
 have hQ0:=Q.refl w
 go_wp2_with fail
 refine cx (HL'.out _) fun w1 hq1=>?_
 have hs1:Q w w1:=Q.trans bt hq1
 have hQ1:Q w w1:=Q.trans hQ0 hs1
 have R:=(((Blk.new ((w.alloc (.cells #[.string ⟨X.toArray⟩,.string ⟨Y.toArray⟩,.string ⟨Z.toArray⟩] 97)).alloc (.cells #[.string ⟨X'.toArray⟩,.string ⟨Y'.toArray⟩,.string ⟨Z'.toArray⟩] 97)) [.string ⟨#[]⟩,.string ⟨#[]⟩,.string ⟨#[]⟩] 24).alloc (.cells #[.string ⟨#[]⟩,.string ⟨#[]⟩,.string ⟨#[]⟩] 96))).keep hq1 (by first | (simp;done)|(simp;omega))
 have O:=(Blk.new (((w.alloc (.cells #[.string ⟨X.toArray⟩,.string ⟨Y.toArray⟩,.string ⟨Z.toArray⟩] 97)).alloc (.cells #[.string ⟨X'.toArray⟩,.string ⟨Y'.toArray⟩,.string ⟨Z'.toArray⟩] 97)).alloc (.cells #[.string ⟨#[]⟩,.string ⟨#[]⟩,.string ⟨#[]⟩] 24)) [.string ⟨#[]⟩,.string ⟨#[]⟩,.string ⟨#[]⟩] 96).keep hq1 (by first | (simp;done)|(simp;omega))
 have A:=(((Blk.new w [.string ⟨X.toArray⟩,.string ⟨Y.toArray⟩,.string ⟨Z.toArray⟩] 97).alloc (.cells #[.string ⟨X'.toArray⟩,.string ⟨Y'.toArray⟩,.string ⟨Z'.toArray⟩] 97)).alloc (.cells #[.string ⟨#[]⟩,.string ⟨#[]⟩,.string ⟨#[]⟩] 24) |>.alloc (.cells #[.string ⟨#[]⟩,.string ⟨#[]⟩,.string ⟨#[]⟩] 96)).keep hq1 (by first | (simp;done)|(simp;omega))
 simp only[World.size_alloc]at R O
 have a0:=A.cell
 have lA:=A.lt
 have D0:=Blk.new w1 [.string ⟨X'.toArray⟩,.string ⟨Y'.toArray⟩,.string ⟨Z'.toArray⟩] 96
 go_wp2_with fail
 refine cx (HL.out _) fun w2 hq2=>?_
 have hs2:Q w1 w2:=Q.trans bt hq2
 have hQ2:Q w w2:=Q.trans hQ1 hs2
 have lR:=R.lt
 have lO:=O.lt
 have hz2:w1.heap.size<w2.heap.size:=by have:=hs2.size;have:=hq2.size;simp at this;omega
 have D:Blk w2 w1.heap.size [.string ⟨X'.toArray⟩,.string ⟨Y'.toArray⟩,.string ⟨Z'.toArray⟩] 96:=D0.keep hq2 (by simp)
 replace R:=R.keep hs2 R.lt
 replace O:=O.keep hs2 O.lt
 have hn1:w.heap.size+3<w1.heap.size:=lO
 clear D0 A a0 lA hq1 hq2 hs1 hs2 hQ1 hQ0 HL HL'
 go_wp2
 go_loopw [18] (fun i wr=>Q w wr∧Blk wr (w.heap.size+2) [.string ⟨#[]⟩,.string ⟨#[]⟩,.string ⟨#[]⟩] 24∧Blk wr w1.heap.size [.string ⟨X'.toArray⟩,.string ⟨Y'.toArray⟩,.string ⟨Z'.toArray⟩] 96 ∧
  ((i=.int .i64 0∧Blk wr (w.heap.size+3) [.string ⟨#[]⟩,.string ⟨#[]⟩,.string ⟨#[]⟩] 96)∨(i=.int .i64 1∧Blk wr (w.heap.size+3) [.string ⟨U.toArray⟩,.string ⟨#[]⟩,.string ⟨#[]⟩] 96)∨(i=.int .i64 2∧Blk wr (w.heap.size+3) [.string ⟨U.toArray⟩,.string ⟨V.toArray⟩,.string ⟨#[]⟩] 96)∨(i=.int .i64 3∧Blk wr (w.heap.size+3) [.string ⟨U.toArray⟩,.string ⟨V.toArray⟩,.string ⟨T.toArray⟩] 96))) (fun i _=>3 - (intOf i).toNat)
 case atStart=>exact⟨hQ2,R,D,.inl ⟨rfl,O⟩⟩
 case round =>
  clear R D O lR lO hQ2 hz2
  obtain⟨hQ,R,D,hi⟩:=hrel
  rcases hi with⟨rfl,O⟩|⟨rfl,O⟩|⟨rfl,O⟩|⟨rfl,O⟩
  ·have hi:=zqU (.string ⟨X.toArray⟩) (.string ⟨Y.toArray⟩) (.string ⟨Z.toArray⟩)
   have d0:=D.cell 0
   simp only[List.getElem?_cons_zero]at d0
   have lD:=D.lt
   go_wp2_with fail
   refine cx (HU.out _ (hE.ofQ bt)) fun w3 hq3=>?_
   have hs3:Q wr w3:=Q.trans bt hq3
   have hQ3:Q w w3:=Q.trans hQ hs3
   replace R:=R.keep hs3 R.lt
   replace D:=D.keep hs3 D.lt
   replace O:=O.keep hs3 O.lt
   clear d0
   have f0:=O.frozen 0
   have o0:=O.cell 0
   simp only[List.getElem?_cons_zero]at o0
   go_wp2
   go_roundw
   case rel=>exact⟨bt,R.setOther (by omega) _ _,D.setOther (by omega) _ _,.inr (.inl ⟨rfl,O.set 0 _⟩)⟩
   case measure=>simp[intOf]
  ·have hi:=zqT (.string ⟨X.toArray⟩) (.string ⟨Y.toArray⟩) (.string ⟨Z.toArray⟩)
   have d0:=D.cell 1
   simp only[zs4,zs5]at d0
   have lD:=D.lt
   go_wp2_with fail
   refine cx (HV.out _ (hE.ofQ bt)) fun w3 hq3=>?_
   have hs3:Q wr w3:=Q.trans bt hq3
   have hQ3:Q w w3:=Q.trans hQ hs3
   replace R:=R.keep hs3 R.lt
   replace D:=D.keep hs3 D.lt
   replace O:=O.keep hs3 O.lt
   clear d0
   have f0:=O.frozen 1
   have o0:=O.cell 1
   simp only[zs4,zs5]at o0
   go_wp2
   go_roundw
   case rel=>exact⟨bt,R.setOther (by omega) _ _,D.setOther (by omega) _ _,.inr (.inr (.inl ⟨rfl,O.set 1 _⟩))⟩
   case measure=>simp[intOf]
  ·have hi:=zqS (.string ⟨X.toArray⟩) (.string ⟨Y.toArray⟩) (.string ⟨Z.toArray⟩)
   have d0:=D.cell 2
   simp only[zs4,zs5]at d0
   have lD:=D.lt
   go_wp2_with fail
   refine cx (HT.out _ (hE.ofQ bt)) fun w3 hq3=>?_
   have hs3:Q wr w3:=Q.trans bt hq3
   have hQ3:Q w w3:=Q.trans hQ hs3
   replace R:=R.keep hs3 R.lt
   replace D:=D.keep hs3 D.lt
   replace O:=O.keep hs3 O.lt
   clear d0
   have f0:=O.frozen 2
   have o0:=O.cell 2
   simp only[zs4,zs5]at o0
   go_wp2
   go_roundw
   case rel=>exact⟨bt,R.setOther (by omega) _ _,D.setOther (by omega) _ _,.inr (.inr (.inr ⟨rfl,O.set 2 _⟩))⟩
   case measure=>simp[intOf]
  ·have o0:=O.cell 0
   have o1:=O.cell 1
   have o2:=O.cell 2
   simp only[zs4,zs5]at o0 o1 o2
   go_wp2_with fail
   refine cx (HO.out _) fun w3 hq3=>?_
   have hs3:Q wr w3:=Q.trans bt hq3
   have hQ3:Q w w3:=Q.trans hQ hs3
   replace R:=R.keep hs3 R.lt
   clear o0 o1 o2
   have r0:=R.cell
   have f0:=R.frozen 0
   have f1:=R.frozen 1
   have f2:=R.frozen 2
   go_wp2
   refine bodyPost_ret (v:=.tuple #[.agg #[.string ⟨U.toArray⟩,.string ⟨V.toArray⟩,.string ⟨T.toArray⟩],.int .i64 0]) (zi3 Tryz.results147 (.inl rfl) _ _ (w.heap.size+2) _ _ _ _ rfl rfl (R.set3.cell 0) (R.set3.cell 1) (R.set3.cell 2)) rfl ⟨rfl,bt⟩
theorem zq8:∀ args w,(callFunc 11 args).run Tryz.prog w=.ok (.enter 11 args) w:=fun _ _=>by kernel_rfl
theorem zoK{n m:Nat}(p q:P3)(h:B3 n p)(k:B3 m q)(hnm:n+m+1≤300)(w:World)(hE:Env w) :
  CR 93 #[V3 p,V3 q] w (.tuple #[V3 (p.sub q),.int .i64 0]):=by
 have HB:=LH (fun w hw=>znc p q h k (by omega) (by omega) w hw)
 have HU:Hid (ztW 11 (za p.x) (za q.x) (za (p.sub q).x)):=LH (fun w hw=>zao p.x q.x h.1 k.1 hnm w hw)
 have HV:Hid (ztW 11 (za p.y) (za q.y) (za (p.sub q).y)):=LH (fun w hw=>zao p.y q.y h.2.1 k.2.1 hnm w hw)
 have HT:Hid (ztW 11 (za p.z) (za q.z) (za (p.sub q).z)):=LH (fun w hw=>zao p.z q.z h.2.2 k.2.2 hnm w hw)
 unfold V3 at *
 clear h k
 generalize za (p.sub q).x=U at *
 generalize za (p.sub q).y=V at *
 generalize za (p.sub q).z=T at *
 generalize za p.x=X at *
 generalize za p.y=Y at *
 generalize za p.z=Z at *
 generalize za q.x=X' at *
 generalize za q.y=Y' at *
 generalize za q.z=Z' at *
 have HW:=LH (fun w hw=>znb 11 zq8 X Y Z X' Y' Z' U V T HU HV HT w hw)
 clear HU HV HT
 go_enter Tryz.func93,Tryz.ntmps93
 have hQ0:=Q.refl w
 go_wp2_with fail
 refine cx (HB.out _ (hE.ofQ bt)) fun w1 hq1=>?_
 have hs1:Q w w1:=Q.trans bt hq1
 have hQ1:Q w w1:=Q.trans hQ0 hs1
 have A:=((Blk.new w [.string ⟨X.toArray⟩,.string ⟨Y.toArray⟩,.string ⟨Z.toArray⟩] 24).alloc (.cells #[.string ⟨X'.toArray⟩,.string ⟨Y'.toArray⟩,.string ⟨Z'.toArray⟩] 24) |>.alloc (.cells #[.string ⟨#[]⟩,.string ⟨#[]⟩,.string ⟨#[]⟩] 24)).keep hq1 (by first | (simp;done)|(simp;omega))
 have D:=((Blk.new (w.alloc (.cells #[.string ⟨X.toArray⟩,.string ⟨Y.toArray⟩,.string ⟨Z.toArray⟩] 24)) [.string ⟨X'.toArray⟩,.string ⟨Y'.toArray⟩,.string ⟨Z'.toArray⟩] 24).alloc (.cells #[.string ⟨#[]⟩,.string ⟨#[]⟩,.string ⟨#[]⟩] 24)).keep hq1 (by first | (simp;done)|(simp;omega))
 have R:=(Blk.new ((w.alloc (.cells #[.string ⟨X.toArray⟩,.string ⟨Y.toArray⟩,.string ⟨Z.toArray⟩] 24)).alloc (.cells #[.string ⟨X'.toArray⟩,.string ⟨Y'.toArray⟩,.string ⟨Z'.toArray⟩] 24)) [.string ⟨#[]⟩,.string ⟨#[]⟩,.string ⟨#[]⟩] 24).keep hq1 (by first | (simp;done)|(simp;omega))
 simp only[World.size_alloc]at D R
 replace a0:=A.cell
 replace lA:=A.lt
 replace d0:=D.cell
 replace lD:=D.lt
 go_wp2_with fail
 refine cx (HW.out _ (hE.ofQ bt)) fun w2 hq2=>?_
 have hs2:Q w1 w2:=Q.trans bt hq2
 have hQ2:Q w w2:=Q.trans hQ1 hs2
 replace A:=A.keep hs2 A.lt
 replace a0:=A.cell
 replace lA:=A.lt
 replace D:=D.keep hs2 D.lt
 replace d0:=D.cell
 replace lD:=D.lt
 clear A lA a0
 clear D lD d0
 replace R:=R.keep hs2 R.lt
 have r0:=R.cell
 have f0:=R.frozen 0
 have f1:=R.frozen 1
 have f2:=R.frozen 2
 go_wp2
 refine bodyPost_ret (v:=.tuple #[.agg #[.string ⟨U.toArray⟩,.string ⟨V.toArray⟩,.string ⟨T.toArray⟩],.int .i64 0]) (zi3 Tryz.results93 (.inl rfl) _ _ (w.heap.size+2) _ _ _ _ rfl rfl (R.set3.cell 0) (R.set3.cell 1) (R.set3.cell 2)) rfl ⟨rfl,bt⟩
end
section
open Go.RowKit Kp
open Go.Lib (decDigits)
theorem zgf(n a b:Int)(h1:a≤n)(h2:n≤b)(w:World) :
  Calls Tryz.prog 14 #[.int .i64 n,.int .i64 a,.int .i64 b] w fun e w'=>e=.returned (.bool false)∧w=w':=by
 have k1:¬ n<a:=by omega
 have k2:¬ b<n:=by omega
 go_enter Tryz.func14,Tryz.ntmps14
 go_wp2
 all_goals (go_ret;exact⟨rfl,rfl⟩)
theorem zlV{q:Rat}{n:Nat}(h:Bd n q):((zo (Lib.itoa q.num)).length:Int)≤n∧((Lib.itoa (q.den:Int)).length:Int)≤n:=by
 have h1:(zo (Lib.itoa q.num)).length≤n:=by
  rw[zaa]
  rcases Nat.eq_zero_or_pos n with rfl | hn
  ·exact absurd h.2 (by have:=q.den_pos;simp;omega)
  ·exact(zi _ n hn).2 h.1
 have h2:(Lib.itoa (q.den:Int)).length≤n:=by
  rw[← zL]
  rcases Nat.eq_zero_or_pos n with rfl | hn
  ·exact absurd h.2 (by have:=q.den_pos;simp;omega)
  ·exact(zi _ n hn).2 h.2
 exact⟨by omega,by omega⟩
theorem zqW(q:Rat)(h:Bd 36 q)(w:World)(hE:Env w) :
  CR 48 #[.string ⟨(za q).toArray⟩] w (.bool false):=by
 have HP:=LH (fun w hw=>za9 q (h.zak (by decide)) w hw)
 obtain⟨l1,l2⟩:=zlV h
 clear h
 generalize za q=S at *
 have hu:zo (Lib.itoa q.num)=zo (Lib.itoa q.num):=rfl
 generalize Lib.itoa (q.den:Int)=D at *
 have HT:=LH (fun w=>zH (Lib.itoa q.num) w)
 generalize zo (Lib.itoa q.num)=U at *
 generalize Lib.itoa q.num=N at *
 clear hu
 have hm:decide ((36:Int)<max (U.length:Int) (D.length:Int))=false:=by rw[decide_eq_false_iff_not];omega
 go_enter Tryz.func48,Tryz.ntmps48
 have hQ0:=Q.refl w
 go_wp2_with fail
 refine cx (HP.out _ (hE.ofQ bt)) fun w1 hq1=>?_
 have hs1:Q w w1:=Q.trans bt hq1
 have hQ1:Q w w1:=Q.trans hQ0 hs1
 go_wp2_with fail
 refine(HT.out _).mono ?_
 rintro e w2⟨rfl,rfl⟩
 go_wp2
 go_ret
 refine⟨?_,hQ1⟩
 first | rfl | (show Ending.returned (Value.bool (decide _))=_;rw[hm])
theorem zpt(l:List Rat)(hl:∀ q∈l,Bd 36 q)(hn:l.length≤100)(v:Value)(w:World)(hE:Env w)(hv:zca w v (l.map za)) :
  CR 87 #[v,.func (.func 48) #[] #[]] w (.int .i64 (-1)):=by
 obtain⟨b,o,cap,rfl,hb,hc⟩:=hv
 rw[List.length_map]at hc
 rw[List.length_map]
 have HL:=LH hl
 clear hl
 go_enter Tryz.func87,Tryz.ntmps87
 go_wp2
 go_loopw [8] (fun i wr=>∃ k:Nat,k≤l.length∧i=.int .i64 k∧Q w wr) (fun i _=>l.length - (intOf i).toNat)
 case atStart=>exact⟨0,by omega,rfl,Below.refl _ _⟩
 case round =>
  obtain⟨k,hk,rfl,hQ⟩:=hrel
  by_cases hlt:k<l.length
  ·have hcell:=hc k hlt
   have hcell':wr.cell? ⟨b,o+k,none⟩=some (.string ⟨((l.map za).getD k []).toArray⟩):=by rw[hQ.cell (p:=⟨b,o+k,none⟩) hb];exact hcell
   have hq:(l.map za).getD k []=za l[k]:=by rw[List.getD_eq_getElem?_getD,List.getElem?_map,List.getElem?_eq_getElem hlt];rfl
   rw[hq]at hcell'
   have HG:=LH (fun w hw=>zqW l[k] (HL.out _ (List.getElem_mem hlt)) w hw)
   clear hcell hc hq HL
   generalize za l[k]=S at *
   go_wp2_with fail
   refine cx (HG.out _ (hE.q hQ)) fun w2 hq2=>?_
   have hQ2:Q w w2:=Q.trans hQ hq2
   go_wp2
   go_roundw
   case rel=>exact⟨k+1,by omega,by go_num,hQ2⟩
   case measure=>simp[intOf];omega
  ·obtain rfl:k=l.length:=by omega
   go_wp2
   go_ret
   exact⟨rfl,hQ⟩
theorem zlQ(l:List Rat)(hl:∀ q∈l,Bd 36 q)(hn:l.length≤100)(v:Value)(w:World)(hE:Env w)(hv:zca w v (l.map za)) :
  CR 47 #[v,.func (.func 48) #[] #[]] w (.bool false):=by
 have HI:=LH (zpt l hl hn v w hE hv)
 clear hl hv
 go_enter Tryz.func47,Tryz.ntmps47
 go_wp2_with fail
 refine HI.out.mono ?_
 rintro e w1⟨rfl,hq1⟩
 go_wp2
 go_ret
 exact⟨rfl,hq1⟩
theorem zca.three{w:World}{b:Nat}{s1 s2 s3:Str}{t:TypeId}(h:Blk w b [.string ⟨s1.toArray⟩,.string ⟨s2.toArray⟩,.string ⟨s3.toArray⟩] t):zca w (.slice (some ⟨b,0,none⟩) 3 3) [s1,s2,s3]:=by
 refine⟨b,0,3,rfl,h.lt,fun i hi=>?_⟩
 simp only[List.length_cons,List.length_nil]at hi
 have:i=0∨i=1∨i=2:=by omega
 rcases this with rfl | rfl | rfl
 ·exact h.cell 0
 ·exact h.cell 1
 ·exact h.cell 2
theorem zon{n:Nat}(p:P3)(h:B3 n p)(hn:n≤36)(w:World)(hE:Env w) :
  CR 16 #[V3 p] w (.bool false):=by
 have HC:=LH (fun v w hw hv=>zlQ [p.x,p.y,p.z] (by
  intro q hq
  simp only[List.mem_cons,List.not_mem_nil,or_false]at hq
  rcases hq with rfl | rfl | rfl
  ·exact h.1.mono hn
  ·exact h.2.1.mono hn
  ·exact h.2.2.mono hn) (by simp) v w hw hv)
 clear h
 unfold V3
 have HC':Hid (∀ b t w,Env w→Blk w b [.string ⟨(za p.x).toArray⟩,.string ⟨(za p.y).toArray⟩,.string ⟨(za p.z).toArray⟩] t →
   CR 47 #[.slice (some ⟨b,0,none⟩) 3 3,.func (.func 48) #[] #[]] w (.bool false)) :=
  LH (fun b t w hw hb=>HC.out _ w hw (zca.three hb))
 clear HC
 generalize za p.x=X at *
 generalize za p.y=Y at *
 generalize za p.z=Z at *
 go_enter Tryz.func16,Tryz.ntmps16
 have hQ0:=Q.refl w
 go_wp2_with fail
 refine cx (HC'.out (w.heap.size+1) 22 _ (hE.ofQ bt) (Blk.new1 w _ [.string ⟨X.toArray⟩,.string ⟨Y.toArray⟩,.string ⟨Z.toArray⟩] 22)) fun w1 hq1=>?_
 have hs1:Q w w1:=Q.trans bt hq1
 have hQ1:Q w w1:=Q.trans hQ0 hs1
 go_wp2
 go_ret
 exact⟨rfl,bt⟩
structure MOk (k W D:Int):Prop where
 k1:1≤k
 k2:k≤12
 w1:1≤W
 w2:W≤1000
 d1:1≤D
 d2:D≤1000
theorem zs8{f t:P3}(h:f≠t):((za f.x == za t.x) && ((za f.y == za t.y) && (za f.z == za t.z)))=false:=by
 cases hx:(za f.x == za t.x)with
 | false=>rfl
 | true=>cases hy:(za f.y == za t.y)with
  | false=>rfl
  | true=>cases hz:(za f.z == za t.z)with
   | false=>rfl
   | true =>
    exfalso;apply h
    have h1:=zaR (beq_iff_eq.1 hx)
    have h2:=zaR (beq_iff_eq.1 hy)
    have h3:=zaR (beq_iff_eq.1 hz)
    cases f;cases t
    simp only at h1 h2 h3
    rw[h1,h2,h3]
end
section
open Go.RowKit Kp
open Go.Lib (decDigits)
theorem zr3(U V T:Str)(w:World) :
  CR 55 #[.agg #[.string ⟨U.toArray⟩,.string ⟨V.toArray⟩,.string ⟨T.toArray⟩]] w (.tuple #[.agg #[.string ⟨U.toArray⟩,.string ⟨V.toArray⟩,.string ⟨T.toArray⟩],.int .i64 0]):=by
 go_enter Tryz.func55,Tryz.ntmps55
 go_wp2
 have BB:=Blk.new1 w (.cells #[.string ⟨U.toArray⟩,.string ⟨V.toArray⟩,.string ⟨T.toArray⟩] 24) [.string ⟨U.toArray⟩,.string ⟨V.toArray⟩,.string ⟨T.toArray⟩] 24
 refine bodyPost_ret (v:=.tuple #[.agg #[.string ⟨U.toArray⟩,.string ⟨V.toArray⟩,.string ⟨T.toArray⟩],.int .i64 0]) (zi3 Tryz.results55 (.inl rfl) _ _ (w.heap.size+1) _ _ _ _ rfl rfl (BB.cell 0) (BB.cell 1) (BB.cell 2)) rfl ⟨rfl,bt⟩
def LenAt(w:World)(B:Nat)(v:Value)(s:Rat):Prop:=(s=0∧v=.slice none 0 0)∨(0<s.num∧zss w B v (aOf s) (leftOf s))
theorem LenAt.keep{w w':World}{B:Nat}{v:Value}{s:Rat}(h:LenAt w B v s)(hq:Q w w'):LenAt w' B v s :=
 h.elim .inl (fun h=>.inr ⟨h.1,zkm h.2 hq⟩)
theorem LenAt.mono{w:World}{B B':Nat}{v:Value}{s:Rat}(h:LenAt w B v s)(hb:B'≤B):LenAt w B' v s :=
 h.elim .inl (fun h=>.inr ⟨h.1,Joins.ownsRow_le h.2 hb⟩)
theorem sq_nonneg(a:Rat):0≤a*a:=by
 rcases Rat.le_total (a:=0) (b:=a)with h | h
 ·exact Rat.mul_nonneg h h
 ·have h2:0≤-a:=by rw[← Rat.neg_zero];exact Rat.neg_le_neg h
  have:=Rat.mul_nonneg h2 h2
  rwa[Rat.neg_mul,Rat.mul_neg,Rat.neg_neg]at this
theorem P3.sq_nonneg(p:P3):0≤p.sq:=Rat.add_nonneg (Rat.add_nonneg (Go.Proofs.YtdecodpgdainiaaGreatDoor.sq_nonneg _) (Go.Proofs.YtdecodpgdainiaaGreatDoor.sq_nonneg _)) (Go.Proofs.YtdecodpgdainiaaGreatDoor.sq_nonneg _)
theorem zsW{s:Rat}(b:Bd 16 s)(hp:0<s.num):Term1 (aOf s) (leftOf s):=by
 have ba:=zsP b hp
 have bl:Bd 32 (leftOf s:Rat):=zsF b hp (by decide)
 exact⟨ba.zak (by decide),zup b hp,by have:=zdH ba (by decide);omega,zlE hp,bl.mono (by decide)⟩
end
section
open Go.RowKit Kp
open Go.Lib (decDigits)
end
section
open Go.RowKit Kp
open Go.Lib (decDigits)
end
section
open Go.RowKit Kp
open Go.Lib (decDigits)
end
end Go.Proofs.YtdecodpgdainiaaGreatDoor
namespace Kp
end Kp
namespace Go.Proofs.YtdecodpgdainiaaGreatDoor
section
open Go.RowKit Kp
open Go.Lib (decDigits)
theorem zfM{a:Int}{n:Nat}(h:a.natAbs<10 ^ n)(hn:0<n):Bd n (a:Rat):=⟨by rw[Rat.num_intCast];exact h,by rw[Rat.den_intCast];exact Nat.one_lt_pow (by omega) (by decide)⟩
end
section
open Go.RowKit Kp
open Go.Lib (decDigits)
end
section
open Go.RowKit Kp
theorem zfE{F:Fence}{m:Nat}{P:Program}{md:Region.Mode}{ops:Array Oper}{R:Exit→Act→World→Prop}:∀ (l:List Oper) (k:Nat) (listed:Array Bool) (a:Act) (w:World),(∀ j,l[j]? = ops[k+j]?) →
  Region.seqB md ops l.length k listed=true→wpListIn F m P ops R l a w→wpAnyIn F m P md ops R l.length listed a w
 | [],_,_,_,_,_,hB,h=>⟨by simpa[Region.seqB]using hB,h⟩
 | o::l,k,listed,a,w,hl,hB,h=>by
  have h0:ops[k]? = some o:=by simpa using(hl 0).symm
  simp only[List.length_cons,Region.seqB,Bool.and_eq_true,decide_eq_true_eq]at hB
  refine⟨fun h1=>(by rw[hB.1]at h1;cases h1),fun i hi=>?_⟩
  rw[hB.1]at hi
  have hik:i=k:=by simpa using hi
  subst hik
  have hw:wpOpIn F m P ops R i (wpListIn F m P ops R l) a w:=by unfold wpOpIn;simp only[h0];exact h
  exact wpOpIn_mono (fun a' w' h'=>zfE l (i+1) _ a' w' (fun j=>by have:=hl (j+1);simpa[Nat.add_assoc,Nat.add_comm 1 j]using this) hB.2 h') hw
namespace RT
def zeN:Exit→Act→World→Prop:=zbM fun _ _=>True
section
variable {P:Program} {l:List Oper} {T:Act→World→Prop} {R:Exit→Act→World→Prop} {md:Region.Mode} {n m:Nat}
def zeJ(P:Program)(md:Region.Mode)(l:List Oper)(T:Act→World→Prop)(n:Nat):Nat→Array Bool→Act→World→Prop
 | 0,ls,a,w=>Region.seqB md l.toArray (l.toArray.size - n) n ls=true∧∀ w',Q w w'→T a w'
 | f+1,ls,a,w=>Region.ready md l.toArray ls≠[] ∧
  ∀ i∈Region.ready md l.toArray ls,i<n∧∀ w',Q w w'→wpOp P l.toArray zeN i (fun a' w''=>Q w' w''∧zeJ P md l T n f (ls.setIfInBounds i true) a' w'') a w'
theorem zeJ.later:∀ {f:Nat} {ls:Array Bool} {a:Act} {w w':World},zeJ P md l T n f ls a w→Q w w'→zeJ P md l T n f ls a w'
 | 0,_,_,_,_,h,hq=>⟨h.1,fun _ h1=>h.2 _ (hq.trans h1)⟩
 | _+1,_,_,_,_,h,hq=>⟨h.1,fun i hi=>⟨(h.2 i hi).1,fun _ h1=>(h.2 i hi).2 _ (hq.trans h1)⟩⟩
theorem zoI{ops:Array Oper}{i:Nat}{N:Act→World→Prop}{a:Act}{w:World}(h:wpOp P ops zeN i N a w):wpOpIn Fence.wide m P ops R i N a w:=by
 unfold wpOp at h
 unfold wpOpIn
 split
 ·next he=>simp only[he]at h;exact h
 ·next o ho =>
  simp only[ho]at h
  split
  ·next hw =>
   rw[if_pos hw]at h
   rcases h with h | ⟨_,h⟩
   ·refine⟨fun _ _=>trivial,?_⟩
    rw[show Fence.wide.round=none from rfl,Oper.semAt_none]
    unfold Oper.wp at h
    generalize (execOp a.eval o).run P w=r at h ⊢
    match r,h with
    | .ok (.value v) w',h=>exact h
    | .ok .skip w',h=>exact h
    | .ok (.defer d) w',h=>exact h
    | .ok (.enter f args) w',h =>
     refine⟨fun hd=>(by cases hd),callsIn_wide.2 (Calls.mono h fun e w'' he=>?_)⟩
     match e,he with
     | .returned v,he=>exact he
     | .panicked c,he=>exact he.elim
     | .outgrown,he=>exact absurd he (zg9 _)
    | .ok (.row row args) w',h=>exact⟨fun hd=>(by cases hd),fun c cs _=>by
      obtain⟨v,w',hs,st⟩:=h c cs
      exact⟨v,w',hs,stepsIn_wide.2 st⟩⟩
    | .halt x w',h =>
     cases x <;> first | exact h.elim | exact False.elim h
   ·exact absurd h (zg9 _)
  ·next hw =>
   rw[if_neg hw]at h
   exact⟨fun _ _=>trivial,h⟩
theorem zeJ.any(hn:n≤l.length):∀ {f:Nat} {ls:Array Bool} {a:Act} {w:World},zeJ P md l (fun a w=>wpListIn Fence.wide m P l.toArray R (l.drop n) a w) n f ls a w→wpAnyIn Fence.wide m P md l.toArray R (f+(l.toArray.size - n)) ls a w
 | 0,ls,a,w,h=>by
  rw[Nat.zero_add]
  have hd:(l.drop n).length=l.toArray.size - n:=by simp
  have:=zfE (F:=Fence.wide) (m:=m) (P:=P) (md:=md) (R:=R) (l.drop n) n ls a w (fun j=>by simp[List.getElem?_drop]) (by rw[hd];exact h.1) (h.2 w (Q.refl w))
  rwa[hd]at this
 | f+1,ls,a,w,h=>by
  rw[show f+1+(l.toArray.size - n)=(f+(l.toArray.size - n))+1 by omega]
  exact⟨fun e=>absurd e h.1,fun i hi=>zoI (wpOp_mono (fun _ _ h'=>zeJ.any hn h'.2) ((h.2 i hi).2 w (Q.refl w)))⟩
theorem zl7{i:Nat}{oi:Oper}{v:Value}(hi:l.toArray[i]? = some oi)(hB:zey md l.toArray n=true)(hin:i<n)
  (hR:∀ c a w,zeN (.panic c) (a.put oi.dst v) w→zeN (.panic c) a w) :
  ∀ (f:Nat) (ls:Array Bool) (a:Act) (w:World),HeadInv md l.toArray n ls →
   (∀ j oj,l.toArray[j]? = some oj→j≠i→ls.getD j true=false→(∀ e∈oj.after,Region.binds md e=true→e.on≠i)→oi.apart l.toArray oj=true) →
   i∈Region.ready md l.toArray ls→Does P l.toArray oi v a w →
   zeJ P md l T n f (ls.setIfInBounds i true) (a.put oi.dst v) w→zeJ P md l T n (f+1) ls a w:=by
 intro f
 induction f with
 | zero =>
  intro ls a w inv _ hr hd H
  refine⟨fun h=>(by rw[h]at hr;cases hr),fun j hj=>⟨zb4 hB inv hin hr j hj,fun w' hq=>?_⟩⟩
  by_cases hji:j=i
  ·subst hji
   exact hd.wpOp hi hq fun w'' hq'=>⟨hq',zeJ.later (f:=0) H (hq.trans hq')⟩
  ·have h1:=zb4 hB inv hin hr j hj
   have h2:=seqB_ready H.1 j (ready_mono hj hji)
   omega
 | succ f ih =>
  intro ls a w inv hf hr hd H
  refine⟨fun h=>(by rw[h]at hr;cases hr),fun j hj=>?_⟩
  have hjn:=zb4 hB inv hin hr j hj
  refine⟨hjn,fun w' hq=>?_⟩
  by_cases hji:j=i
  ·subst hji
   exact hd.wpOp hi hq fun w'' hq'=>⟨hq',H.later (hq.trans hq')⟩
  ·have h1:=(H.2 j (ready_mono hj hji)).2 w' hq
   obtain⟨hjun,oj,hoj,hall⟩:=mem_ready.1 hj
   have hno:∀ e∈oj.after,Region.binds md e=true→e.on≠i:=fun e he hb heq=>by
    have h1:=hall e he hb
    rw[heq,getD_both (mem_ready.1 hr).1]at h1
    cases h1
   have h2:=zfr hoj (hf j oj hoj hji hjun hno) (fun cs b=>zcS hB i oi cs b hi) (fun cs b=>zcS hB j oj cs b hoj) hR h1
   have hf':∀ k ok,l.toArray[k]? = some ok→k≠i→(ls.setIfInBounds j true).getD k true=false →
     (∀ e∈ok.after,Region.binds md e=true→e.on≠i)→oi.apart l.toArray ok=true:=fun k ok hk hki hun hn=>by
    by_cases hjk:j=k
    ·subst hjk;exact hf j ok hk hki hjun hn
    ·rw[getD_set_ne true hjk]at hun
     exact hf k ok hk hki hun hn
   refine wpOp_mono (fun a' w'' h3=>⟨h3.2.1,ih (ls.setIfInBounds j true) a' w'' (inv.set hj hjn) hf' (ready_mono hr (Ne.symm hji)) (hd.alike h3.1 (hq.trans h3.2.1)) ?_⟩) h2
   rw[Array.setIfInBounds_comm _ _ hji]
   exact h3.2.2
def zk(P:Program)(md:Region.Mode)(l:List Oper)(T:Act→World→Prop)(n f:Nat)(ls:Array Bool)(a:Act)(w:World):Prop :=
 zey md l.toArray n=true→HeadInv md l.toArray n ls→zeJ P md l T n f ls a w
theorem zaA(n:Nat){id:Nat}{a:Act}{w:World}(hm:P.follows .mixedOrders=true)(hB:zey .any l.toArray n=true)(hn:decide (n≤l.length)=true)
  (h:zk P .any l (fun a w=>wpListIn Fence.wide m P l.toArray R (l.drop n) a w) n n (Array.replicate l.toArray.size false) a w.drew):(Code.region id l.toArray true).wpIn Fence.wide m P R a w:=by
 have hn':n≤l.length:=by simpa using hn
 have inv0:HeadInv .any l.toArray n (Array.replicate l.toArray.size false) :=
  ⟨by simp,fun j oj _ hl=>(by rw[getD_replicate_false]at hl;cases hl),fun t _ ht=>getD_in (by simpa using ht) (getD_replicate_false _ _)⟩
 refine wpIn_region_any hm ?_
 have:=zeJ.any hn' (h hB inv0)
 rwa[show n+(l.toArray.size - n)=l.toArray.size by simp;omega]at this
theorem zT{i:Nat}{oi:Oper}{v:Value}{f:Nat}{ls:Array Bool}{a:Act}{w:World}(hi:l[i]? = some oi)(hin:decide (i<n)=true)
  (hf:Region.free md l.toArray ls i=true)(hr:(Region.ready md l.toArray ls).contains i=true)
  (hR:∀ c a w,zeN (.panic c) (a.put oi.dst v) w→zeN (.panic c) a w)(hd:Does P l.toArray oi v a w)
  (h:zk P md l T n f (ls.setIfInBounds i true) (a.put oi.dst v) w):zk P md l T n (f+1) ls a w:=fun hB inv=>by
 have hr':i∈Region.ready md l.toArray ls:=by simpa using hr
 have hin':i<n:=by simpa using hin
 exact zl7 (zb9 hi) hB hin' hR f ls a w inv (Region.free_spec (zb9 hi) hf) hr' hd (h hB (inv.set hr' hin'))
theorem zS{i:Nat}{oi:Oper}{v:Value}{f:Nat}{ls:Array Bool}{a:Act}{w:World}(hi:l[i]? = some oi)(hin:decide (i<n)=true)
  (hf:Region.free md l.toArray ls i=true)(hr:(Region.ready md l.toArray ls).contains i=true)
  (hR:∀ c a w,zeN (.panic c) (a.put oi.dst v) w→zeN (.panic c) a w)(hw:Region.wanted oi (yielded l.toArray a.tmps)=true)
  (hx:∀ w',Q w w'→(execOp a.eval oi).run P w'=.ok (.value v) w')
  (h:zk P md l T n f (ls.setIfInBounds i true) (a.put oi.dst v) w):zk P md l T n (f+1) ls a w :=
 zT hi hin hf hr hR (.inl ⟨hw,hx⟩) h
theorem zbq{i:Nat}{oi:Oper}{f:Nat}{ls:Array Bool}{a:Act}{w:World}(hi:l[i]? = some oi)(hin:decide (i<n)=true)
  (hf:Region.free md l.toArray ls i=true)(hr:(Region.ready md l.toArray ls).contains i=true)
  (hR:∀ c a w,zeN (.panic c) (a.put oi.dst undef) w→zeN (.panic c) a w)(hw:Region.wanted oi (yielded l.toArray a.tmps)=false)
  (h:zk P md l T n f (ls.setIfInBounds i true) (a.put oi.dst undef) w):zk P md l T n (f+1) ls a w :=
 zT hi hin hf hr hR (.inr (.inr ⟨hw,rfl⟩)) h
theorem svp(i:Nat){oi:Oper}{v:Value}{f:Nat}{ls:Array Bool}{a a':Act}{w:World}
  (h:zk P md l T n f (ls.setIfInBounds i true) a' w)(hi:l[i]? = some oi:=by exact rfl)(hin:decide (i<n)=true:=by exact rfl)
  (hf:Region.free md l.toArray ls i=true:=by kernel_rfl)(hr:(Region.ready md l.toArray ls).contains i=true:=by kernel_rfl)
  (hw:Region.wanted oi (yielded l.toArray a.tmps)=true:=by rfl)
  (hx:∀ w',Q w w'→(execOp a.eval oi).run P w'=.ok (.value v) w':=by intro w' hq;go_simp;try with_reducible rfl)
  (hR:∀ c a w,zeN (.panic c) (a.put oi.dst v) w→zeN (.panic c) a w:=by exact fun _ _ _ h=>h)
  (ha:a.put oi.dst v=a':=by simp only[Act.put,zs1,zs2,zs3];exact rfl):zk P md l T n (f+1) ls a w :=
 zS hi hin hf hr hR hw hx (ha ▸ h)
theorem svq(i:Nat){oi:Oper}{v:Value}{f:Nat}{ls:Array Bool}{a a':Act}{w:World}(hi:l[i]? = some oi)
  (hx:∀ w',Q w w'→(execOp a.eval oi).run P w'=.ok (.value v) w')
  (h:zk P md l T n f (ls.setIfInBounds i true) a' w)(hin:decide (i<n)=true:=by exact rfl)
  (hf:Region.free md l.toArray ls i=true:=by kernel_rfl)(hr:(Region.ready md l.toArray ls).contains i=true:=by kernel_rfl)
  (hw:Region.wanted oi (yielded l.toArray a.tmps)=true:=by rfl)
  (hR:∀ c a w,zeN (.panic c) (a.put oi.dst v) w→zeN (.panic c) a w:=by exact fun _ _ _ h=>h)
  (ha:a.put oi.dst v=a':=by simp only[Act.put,zs1,zs2,zs3];exact rfl):zk P md l T n (f+1) ls a w :=
 zS hi hin hf hr hR hw hx (ha ▸ h)
theorem svi(i:Nat){oi:Oper}{f:Nat}{ls:Array Bool}{a a':Act}{w:World}
  (h:zk P md l T n f (ls.setIfInBounds i true) a' w)(hi:l[i]? = some oi:=by exact rfl)(hin:decide (i<n)=true:=by exact rfl)
  (hf:Region.free md l.toArray ls i=true:=by kernel_rfl)(hr:(Region.ready md l.toArray ls).contains i=true:=by kernel_rfl)
  (hw:Region.wanted oi (yielded l.toArray a.tmps)=false:=by rfl)
  (hR:∀ c a w,zeN (.panic c) (a.put oi.dst undef) w→zeN (.panic c) a w:=by exact fun _ _ _ h=>h)
  (ha:a.put oi.dst undef=a':=by simp only[Act.put,zs1,zs2,zs3];exact rfl):zk P md l T n (f+1) ls a w :=
 zbq hi hin hf hr hR hw (ha ▸ h)
theorem zf{i:Nat}{oi:Oper}{v:Value}{n f:Nat}{ls:Array Bool}{a:Act}{w:World}{g:FuncId}{args:Array Value}(hi:l[i]? = some oi)(hin:decide (i<n)=true)
  (hf:Region.free md l.toArray ls i=true)(hr:(Region.ready md l.toArray ls).contains i=true)
  (hR:∀ c a w,zeN (.panic c) (a.put oi.dst v) w→zeN (.panic c) a w)(hw:Region.wanted oi (yielded l.toArray a.tmps)=true)
  (hx:∀ w',Q w w'→(execOp a.eval oi).run P w'=.ok (.enter g args) w')
  (hc:∀ w',Q w w'→Calls P g args w' fun e w''=>e=.returned v∧Q w' w'')
  (h:zk P md l T n f (ls.setIfInBounds i true) (a.put oi.dst v) w):zk P md l T n (f+1) ls a w :=
 zT hi hin hf hr hR (.inr (.inl ⟨hw,g,args,hx,hc⟩)) h
theorem zh{ls:Array Bool}{a:Act}{w:World}(hB:Region.seqB md l.toArray (l.toArray.size - n) n ls=true)(h:∀ w',Q w w'→T a w'):zk P md l T n 0 ls a w :=
 fun _ _=>⟨hB,h⟩
end
end RT
end
section
open Go.RowKit Kp
def zcV{α:Type}(k:Nat)(enc:α→List Value)(w:World)(v:Value)(l:List α):Prop:=∃ a cap,v=.slice a l.length cap∧∀ i (h:i<l.length),∃ b o,a=some ⟨b,o,none⟩∧b<w.heap.size∧∀ j u,(enc l[i])[j]? = some u→w.cell? ⟨b,o+i*k+j,none⟩=some u
section
variable {α:Type} {k:Nat} {enc:α→List Value}
theorem zcV.keepB{w w':World}{B:Nat}{v:Value}{l:List α}(h:zcV k enc w v l)(hq:Below B w w')(hB:w.heap.size≤B):zcV k enc w' v l:=by
 obtain⟨a,cap,rfl,hc⟩:=h
 refine⟨a,cap,rfl,fun i hi=>?_⟩
 obtain⟨b,o,ha,hb,h⟩:=hc i hi
 exact⟨b,o,ha,Nat.lt_of_lt_of_le hb hq.size,fun j u hu=>(hq.cell (p:=⟨b,o+i*k+j,none⟩) (show b<B by omega)).trans (h j u hu)⟩
theorem zcV.keep{w w':World}{v:Value}{l:List α}(h:zcV k enc w v l)(hq:Q w w'):zcV k enc w' v l:=h.keepB hq (Nat.le_refl _)
theorem zcV.nil(w:World)(a:Option Addr)(cap:Nat):zcV k enc w (.slice a 0 cap) ([]:List α):=⟨a,cap,rfl,fun _ hi=>absurd hi (Nat.not_lt_zero _)⟩
def rowOf(enc:α→List Value)(l:List α):List Value:=l.flatMap enc
theorem ziW(hk:∀ x,(enc x).length=k):∀ l:List α,(rowOf enc l).length=l.length*k
 | []=>by simp[rowOf]
 | x::l=>by
  have ih:=ziW hk l
  unfold rowOf at *
  rw[List.flatMap_cons,List.length_append,hk,ih,List.length_cons,Nat.succ_mul];omega
theorem zdj(hk:∀ x,(enc x).length=k):∀ (l:List α) (i:Nat) (h:i<l.length) (j:Nat),j<k→(rowOf enc l)[i*k+j]? = (enc l[i])[j]?
 | [],i,h,_,_=>absurd h (Nat.not_lt_zero _)
 | x::l,0,_,j,hj=>by
  unfold rowOf
  rw[List.flatMap_cons,Nat.zero_mul,Nat.zero_add,List.getElem?_append_left (by rw[hk];exact hj)];rfl
 | x::l,i+1,h,j,hj=>by
  have ih:=zdj hk l i (by simpa using h) j hj
  unfold rowOf at *
  rw[List.flatMap_cons,List.getElem?_append_right (by rw[hk,Nat.succ_mul];omega),hk,show (i+1)*k+j - k=i*k+j by rw[Nat.succ_mul];omega]
  exact ih
theorem zkn(l:List α)(x:α):rowOf enc (l++[x])=rowOf enc l++enc x:=by unfold rowOf;rw[List.flatMap_append];simp
theorem zcV.of_row{w:World}{B:Nat}{t:TypeId}{v:Value}{l:List α}(hk:∀ x,(enc x).length=k)(h:w.ownsRow B t k v l.length (rowOf enc l)):zcV k enc w v l:=by
 have h0:=h
 rcases h.2 with⟨rfl,hn⟩|⟨g,cap,cur,rfl,hg,hc,hnc,hcm,hsz,htk⟩
 ·exact⟨none,0,by rw[hn],fun i hi=>by omega⟩
 ·refine⟨_,cap,rfl,fun i hi=>⟨g,0,rfl,(Array.getElem?_eq_some_iff.1 hc).1,fun j u hu=>?_⟩⟩
  have hj:j<k:=by have:=(List.getElem?_eq_some_iff.1 hu).1;rwa[hk]at this
  have hb:i*k+j<l.length*k:=by
   have h1:=Nat.mul_le_mul_right k (show i+1≤l.length from hi)
   rw[Nat.succ_mul]at h1;omega
  rw[Nat.zero_add,World.ownsRow.cellAt h0 (i*k+j) hb,zdj hk l i hi j hj]
  exact hu
end
theorem zda{P:Program}{o:Oper}{ev:Operand→Value}(ty:TypeId)(x:Operand)(ho:o.op=.load ty x)(g:Nat)(hx:ev x=.pointer (some ⟨g,0,none⟩)){t:TypeId}{cs:List Value}{W:World}(hb:Blk W g cs t)(d:TypeDesc)
  (hu:P.underlying ty=some d)(hd:(match d with | .struct _ | .array _ _=>true | _=>false)=true)(hi:(P.info? ty).map (·.size)=some cs.length) :
  (execOp ev o).run P W=.ok (.value (.agg cs.toArray)) W:=by
 unfold execOp
 simp only[ho,hx,Instr.loadAt,Instr.sureAddr,Sem.run_bind,Sem.run_pure,Result.andThen_ok,run_loadVar_row W g t ty cs.toArray (0,0) d hb hu hd (by simpa using hi)]
end
end Go.Proofs.YtdecodpgdainiaaGreatDoor
