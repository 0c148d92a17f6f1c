/-
  VA VB VC VD, one behind the other.
-/
import Derived.Test.YtohlpeicpoaanaaGreatDoorSU2
import Derived.Lib.MinMax
namespace Kp
structure P3 where
 x:Rat
 y:Rat
 z:Rat
deriving DecidableEq
namespace P3
def sub (a b:P3):P3:=⟨a.x - b.x,a.y - b.y,a.z - b.z⟩
def add (a b:P3):P3:=⟨a.x+b.x,a.y+b.y,a.z+b.z⟩
def neg (a:P3):P3:=⟨-a.x,-a.y,-a.z⟩
def sq (a:P3):Rat:=a.x*a.x+a.y*a.y+a.z*a.z
end P3
end Kp
namespace Go.Proofs.YtohlpeicpoaanaaGreatDoor
section
open Go.RowKit Kp
open Go.Lib (decDigits)
abbrev V3 (p:P3):Value:=.agg #[.string ⟨(rstr p.x).toArray⟩,.string ⟨(rstr p.y).toArray⟩,.string ⟨(rstr p.z).toArray⟩]
def B3 (n:Nat) (p:P3):Prop:=Bd n p.x∧Bd n p.y∧Bd n p.z
theorem ret_c3 {fn:Func} {m:Tmp} {T:TypeId} (hf:fn.results=#[.cell m T]) (hT:T=57∨T=139) (tmps:Array Value) (W:World) (b:Nat) (x y z:Value) (hp:tmps.getD m undef=.pointer (some ⟨b,0,none⟩))
  (c0:W.cell? ⟨b,0,none⟩=some x) (c1:W.cell? ⟨b,1,none⟩=some y) (c2:W.cell? ⟨b,2,none⟩=some z) :
  (results fn tmps).run Tryz.prog W=.ok (.agg #[x,y,z]) W:=by
 simp only [Array.getD_eq_getD_getElem?] at hp
 rcases hT with rfl | rfl <;> simp [results,hf,go_sem,hp,c0,c1,c2]
theorem ret_c3t {fn:Func} {m k:Tmp} {T:TypeId} (hf:fn.results=#[.cell m T,.tmp k]) (hT:T=57∨T=139) (tmps:Array Value) (W:World) (b:Nat) (x y z u:Value) (hp:tmps.getD m undef=.pointer (some ⟨b,0,none⟩)) (hk:tmps.getD k undef=u)
  (c0:W.cell? ⟨b,0,none⟩=some x) (c1:W.cell? ⟨b,1,none⟩=some y) (c2:W.cell? ⟨b,2,none⟩=some z) :
  (results fn tmps).run Tryz.prog W=.ok (.tuple #[.agg #[x,y,z],u]) W:=by
 simp only [Array.getD_eq_getD_getElem?] at hp hk
 rcases hT with rfl | rfl <;> simp [results,hf,go_sem,hp,hk,c0,c1,c2]
theorem Blk.set3 {w:World} {b:Nat} {x y z x' y' z':Value} {t:TypeId} (h:Blk w b [x,y,z] t):Blk (((w.setCell ⟨b,0,none⟩ x').setCell ⟨b,1,none⟩ y').setCell ⟨b,2,none⟩ z') b [x',y',z'] t :=
 ((h.set 0 x').set 1 y').set 2 z'
set_option maxHeartbeats 400000 in
theorem vector_list (X Y Z:Str) (w:World) :
  Calls Tryz.prog 87 #[.agg #[.string ⟨X.toArray⟩,.string ⟨Y.toArray⟩,.string ⟨Z.toArray⟩]] w fun e w'=>e=.returned (.agg #[.string ⟨X.toArray⟩,.string ⟨Y.toArray⟩,.string ⟨Z.toArray⟩])∧Q w w':=by
 go_enter Tryz.func87,Tryz.ntmps87
 go_wp2
 have BB:=Blk.new (w.alloc (.cells #[.string ⟨X.toArray⟩,.string ⟨Y.toArray⟩,.string ⟨Z.toArray⟩] 140)) [.string ⟨X.toArray⟩,.string ⟨Y.toArray⟩,.string ⟨Z.toArray⟩] 139
 rw [World.size_alloc] at BB
 refine bodyPost_ret (v:=.agg #[.string ⟨X.toArray⟩,.string ⟨Y.toArray⟩,.string ⟨Z.toArray⟩]) (ret_c3 Tryz.results87 (.inr rfl) _ _ (w.heap.size+1) _ _ _ rfl (BB.cell 0) (BB.cell 1) (BB.cell 2)) rfl ⟨rfl,bt⟩
set_option maxHeartbeats 400000 in
theorem vector_of (X Y Z:Str) (w:World) :
  Calls Tryz.prog 226 #[.agg #[.string ⟨X.toArray⟩,.string ⟨Y.toArray⟩,.string ⟨Z.toArray⟩]] w fun e w'=>e=.returned (.agg #[.string ⟨X.toArray⟩,.string ⟨Y.toArray⟩,.string ⟨Z.toArray⟩])∧Q w w':=by
 go_enter Tryz.func226,Tryz.ntmps226
 go_wp2
 have BB:=Blk.new (w.alloc (.cells #[.string ⟨X.toArray⟩,.string ⟨Y.toArray⟩,.string ⟨Z.toArray⟩] 139)) [.string ⟨X.toArray⟩,.string ⟨Y.toArray⟩,.string ⟨Z.toArray⟩] 57
 rw [World.size_alloc] at BB
 refine bodyPost_ret (v:=.agg #[.string ⟨X.toArray⟩,.string ⟨Y.toArray⟩,.string ⟨Z.toArray⟩]) (ret_c3 Tryz.results226 (.inl rfl) _ _ (w.heap.size+1) _ _ _ rfl (BB.cell 0) (BB.cell 1) (BB.cell 2)) rfl ⟨rfl,bt⟩
theorem idx3_0 (x y z:Value) (w:World):(Instr.index 139 (.agg #[x,y,z]) (.int .i64 0)).run Tryz.prog w=.ok x w:=by kernel_rfl
theorem idx3_1 (x y z:Value) (w:World):(Instr.index 139 (.agg #[x,y,z]) (.int .i64 1)).run Tryz.prog w=.ok y w:=by kernel_rfl
theorem idx3_2 (x y z:Value) (w:World):(Instr.index 139 (.agg #[x,y,z]) (.int .i64 2)).run Tryz.prog w=.ok z w:=by kernel_rfl
set_option maxRecDepth 100000 in
set_option maxHeartbeats 1000000 in
theorem vector_Check_of (X Y Z:Str) (HX:Hid (∀ w,Env w→Calls Tryz.prog 88 #[.string ⟨X.toArray⟩] w fun e w'=>e=.returned (.int .i64 0)∧Q w w'))
  (HY:Hid (∀ w,Env w→Calls Tryz.prog 88 #[.string ⟨Y.toArray⟩] w fun e w'=>e=.returned (.int .i64 0)∧Q w w'))
  (HZ:Hid (∀ w,Env w→Calls Tryz.prog 88 #[.string ⟨Z.toArray⟩] w fun e w'=>e=.returned (.int .i64 0)∧Q w w')) (w:World) (hE:Env w) :
  Calls Tryz.prog 65 #[.agg #[.string ⟨X.toArray⟩,.string ⟨Y.toArray⟩,.string ⟨Z.toArray⟩]] w fun e w'=>e=.returned (.int .i64 0)∧Q w w':=by
 have HL:=LH (fun w=>vector_list X Y Z w)
 go_enter Tryz.func65,Tryz.ntmps65
 have hQ0:=Q.refl w
 go_wp2_with fail
 refine (HL.out _).mono ?_
 rintro e w1 ⟨rfl,hq1⟩
 have hs1:Q w w1:=Q.trans bt hq1
 have hQ1:Q w w1:=Q.trans hQ0 hs1
 go_wp2
 go_loopw [8] (fun i wr=>(i=.int .i64 0∨i=.int .i64 1∨i=.int .i64 2∨i=.int .i64 3)∧Q w wr) (fun i _=>3 - (intOf i).toNat)
 case atStart=>exact ⟨.inl rfl,hQ1⟩
 case round =>
  obtain ⟨hi,hQ⟩:=hrel
  clear hQ0 hs1 hq1 hQ1
  rcases hi with rfl | rfl | rfl | rfl
  ·have hi:=idx3_0 (.string ⟨X.toArray⟩) (.string ⟨Y.toArray⟩) (.string ⟨Z.toArray⟩)
   go_wp2_with fail
   refine (HX.out _ (hE.ofQ bt)).mono ?_
   rintro e w2 ⟨rfl,hq2⟩
   have hQ2:Q w w2:=Q.trans bt hq2
   go_wp2
   go_roundw
   case rel=>exact ⟨.inr (.inl rfl),hQ2⟩
   case measure=>simp [intOf]
  ·have hi:=idx3_1 (.string ⟨X.toArray⟩) (.string ⟨Y.toArray⟩) (.string ⟨Z.toArray⟩)
   go_wp2_with fail
   refine (HY.out _ (hE.ofQ bt)).mono ?_
   rintro e w2 ⟨rfl,hq2⟩
   have hQ2:Q w w2:=Q.trans bt hq2
   go_wp2
   go_roundw
   case rel=>exact ⟨.inr (.inr (.inl rfl)),hQ2⟩
   case measure=>simp [intOf]
  ·have hi:=idx3_2 (.string ⟨X.toArray⟩) (.string ⟨Y.toArray⟩) (.string ⟨Z.toArray⟩)
   go_wp2_with fail
   refine (HZ.out _ (hE.ofQ bt)).mono ?_
   rintro e w2 ⟨rfl,hq2⟩
   have hQ2:Q w w2:=Q.trans bt hq2
   go_wp2
   go_roundw
   case rel=>exact ⟨.inr (.inr (.inr rfl)),hQ2⟩
   case measure=>simp [intOf]
  ·go_wp2
   go_ret
   exact ⟨rfl,bt⟩
theorem vector_Check {n:Nat} (p:P3) (h:B3 n p) (hn:n≤300) (w:World) (hE:Env w) :
  Calls Tryz.prog 65 #[V3 p] w fun e w'=>e=.returned (.int .i64 0)∧Q w w' :=
 vector_Check_of _ _ _ (LH fun w hw=>rational_Check_num p.x (h.1.rlim hn) w hw) (LH fun w hw=>rational_Check_num p.y (h.2.1.rlim hn) w hw) (LH fun w hw=>rational_Check_num p.z (h.2.2.rlim hn) w hw) w hE
set_option maxHeartbeats 1000000 in
theorem vector_both {n m:Nat} (p q:P3) (h:B3 n p) (k:B3 m q) (hn:n≤300) (hm:m≤300) (w:World) (hE:Env w) :
  Calls Tryz.prog 260 #[V3 p,V3 q] w fun e w'=>e=.returned (.int .i64 0)∧Q w w':=by
 have HP:=LH (fun w hw=>vector_Check p h hn w hw)
 have HQ:=LH (fun w hw=>vector_Check q k hm w hw)
 clear h k
 unfold V3 at *
 generalize rstr p.x=X at *
 generalize rstr p.y=Y at *
 generalize rstr p.z=Z at *
 generalize rstr q.x=X' at *
 generalize rstr q.y=Y' at *
 generalize rstr q.z=Z' at *
 go_enter Tryz.func260,Tryz.ntmps260
 have hQ0:=Q.refl w
 go_wp2_with fail
 refine (HP.out _ (hE.ofQ bt)).mono ?_
 rintro e w1 ⟨rfl,hq1⟩
 have hs1:Q w w1:=Q.trans bt hq1
 have hQ1:Q w w1:=Q.trans hQ0 hs1
 have D:=(Blk.new (w.alloc (.cells #[.string ⟨X.toArray⟩,.string ⟨Y.toArray⟩,.string ⟨Z.toArray⟩] 57)) [.string ⟨X'.toArray⟩,.string ⟨Y'.toArray⟩,.string ⟨Z'.toArray⟩] 57).keep hq1 (by first | (simp; done) | (simp; omega))
 rw [World.size_alloc] at D
 replace d0:=D.cell 0
 replace d1:=D.cell 1
 replace d2:=D.cell 2
 simp only [zs4,zs5] at d0 d1 d2
 replace lD:=D.lt
 go_wp2_with fail
 refine (HQ.out _ (hE.ofQ bt)).mono ?_
 rintro e w2 ⟨rfl,hq2⟩
 have hs2:Q w1 w2:=Q.trans bt hq2
 have hQ2:Q w w2:=Q.trans hQ1 hs2
 replace D:=D.keep hs2 D.lt
 replace d0:=D.cell 0
 replace d1:=D.cell 1
 replace d2:=D.cell 2
 simp only [zs4,zs5] at d0 d1 d2
 replace lD:=D.lt
 go_wp2
 go_ret
 exact ⟨rfl,bt⟩
def OpIs (K:Nat) (x y z:Str):Prop:=∀ w,Env w→Calls Tryz.prog K #[.string ⟨x.toArray⟩,.string ⟨y.toArray⟩] w fun e w'=>e=.returned (.tuple #[.string ⟨z.toArray⟩,.int .i64 0])∧Q w w'
set_option maxRecDepth 100000 in
set_option maxHeartbeats 2000000 in
theorem vector_with (K:Nat) (HK:∀ args w,(callFunc K args).run Tryz.prog w=.ok (.enter K args) w) (X Y Z X' Y' Z' U V T:Str) (HU:Hid (OpIs K X X' U)) (HV:Hid (OpIs K Y Y' V)) (HT:Hid (OpIs K Z Z' T)) (w:World) (hE:Env w) :
  Calls Tryz.prog 190 #[.agg #[.string ⟨X.toArray⟩,.string ⟨Y.toArray⟩,.string ⟨Z.toArray⟩],.agg #[.string ⟨X'.toArray⟩,.string ⟨Y'.toArray⟩,.string ⟨Z'.toArray⟩],.func (.func K) #[] #[]] w fun e w' =>
   e=.returned (.tuple #[.agg #[.string ⟨U.toArray⟩,.string ⟨V.toArray⟩,.string ⟨T.toArray⟩],.int .i64 0])∧Q w w':=by
 have HL:=LH (fun w=>vector_list X Y Z w)
 have HL':=LH (fun w=>vector_list X' Y' Z' w)
 have HO:=LH (fun w=>vector_of U V T w)
 go_enter Tryz.func190,Tryz.ntmps190
 have hQ0:=Q.refl w
 go_wp2_with fail
 refine (HL'.out _).mono ?_
 rintro e w1 ⟨rfl,hq1⟩
 have hs1:Q w w1:=Q.trans bt hq1
 have hQ1:Q w w1:=Q.trans hQ0 hs1
 have R:=(((Blk.new ((w.alloc (.cells #[.string ⟨X.toArray⟩,.string ⟨Y.toArray⟩,.string ⟨Z.toArray⟩] 140)).alloc (.cells #[.string ⟨X'.toArray⟩,.string ⟨Y'.toArray⟩,.string ⟨Z'.toArray⟩] 140)) [.string ⟨#[]⟩,.string ⟨#[]⟩,.string ⟨#[]⟩] 57).alloc (.cells #[.string ⟨#[]⟩,.string ⟨#[]⟩,.string ⟨#[]⟩] 139))).keep hq1 (by first | (simp; done) | (simp; omega))
 have O:=(Blk.new (((w.alloc (.cells #[.string ⟨X.toArray⟩,.string ⟨Y.toArray⟩,.string ⟨Z.toArray⟩] 140)).alloc (.cells #[.string ⟨X'.toArray⟩,.string ⟨Y'.toArray⟩,.string ⟨Z'.toArray⟩] 140)).alloc (.cells #[.string ⟨#[]⟩,.string ⟨#[]⟩,.string ⟨#[]⟩] 57)) [.string ⟨#[]⟩,.string ⟨#[]⟩,.string ⟨#[]⟩] 139).keep hq1 (by first | (simp; done) | (simp; omega))
 have A:=(((Blk.new w [.string ⟨X.toArray⟩,.string ⟨Y.toArray⟩,.string ⟨Z.toArray⟩] 140).alloc (.cells #[.string ⟨X'.toArray⟩,.string ⟨Y'.toArray⟩,.string ⟨Z'.toArray⟩] 140)).alloc (.cells #[.string ⟨#[]⟩,.string ⟨#[]⟩,.string ⟨#[]⟩] 57) |>.alloc (.cells #[.string ⟨#[]⟩,.string ⟨#[]⟩,.string ⟨#[]⟩] 139)).keep hq1 (by first | (simp; done) | (simp; omega))
 simp only [World.size_alloc] at R O
 have a0:=A.cell 0
 have a1:=A.cell 1
 have a2:=A.cell 2
 simp only [zs4,zs5] at a0 a1 a2
 have lA:=A.lt
 have D0:=Blk.new w1 [.string ⟨X'.toArray⟩,.string ⟨Y'.toArray⟩,.string ⟨Z'.toArray⟩] 139
 go_wp2_with fail
 refine (HL.out _).mono ?_
 rintro e w2 ⟨rfl,hq2⟩
 have hs2:Q w1 w2:=Q.trans bt hq2
 have hQ2:Q w w2:=Q.trans hQ1 hs2
 have lR:=R.lt
 have lO:=O.lt
 have hz2:w1.heap.size<w2.heap.size:=by have:=hs2.size; have:=hq2.size; simp at this; omega
 have D:Blk w2 w1.heap.size [.string ⟨X'.toArray⟩,.string ⟨Y'.toArray⟩,.string ⟨Z'.toArray⟩] 139:=D0.keep hq2 (by simp)
 replace R:=R.keep hs2 R.lt
 replace O:=O.keep hs2 O.lt
 have hn1:w.heap.size+3<w1.heap.size:=lO
 clear D0 A a0 a1 a2 lA hq1 hq2 hs1 hs2 hQ1 hQ0 HL HL'
 go_wp2
 go_loopw [18] (fun i wr=>Q w wr∧Blk wr (w.heap.size+2) [.string ⟨#[]⟩,.string ⟨#[]⟩,.string ⟨#[]⟩] 57∧Blk wr w1.heap.size [.string ⟨X'.toArray⟩,.string ⟨Y'.toArray⟩,.string ⟨Z'.toArray⟩] 139 ∧
  ((i=.int .i64 0∧Blk wr (w.heap.size+3) [.string ⟨#[]⟩,.string ⟨#[]⟩,.string ⟨#[]⟩] 139)∨(i=.int .i64 1∧Blk wr (w.heap.size+3) [.string ⟨U.toArray⟩,.string ⟨#[]⟩,.string ⟨#[]⟩] 139)∨(i=.int .i64 2∧Blk wr (w.heap.size+3) [.string ⟨U.toArray⟩,.string ⟨V.toArray⟩,.string ⟨#[]⟩] 139)∨(i=.int .i64 3∧Blk wr (w.heap.size+3) [.string ⟨U.toArray⟩,.string ⟨V.toArray⟩,.string ⟨T.toArray⟩] 139))) (fun i _=>3 - (intOf i).toNat)
 case atStart=>exact ⟨hQ2,R,D,.inl ⟨rfl,O⟩⟩
 case round =>
  clear R D O lR lO hQ2 hz2
  obtain ⟨hQ,R,D,hi⟩:=hrel
  rcases hi with ⟨rfl,O⟩ | ⟨rfl,O⟩ | ⟨rfl,O⟩ | ⟨rfl,O⟩
  ·have hi:=idx3_0 (.string ⟨X.toArray⟩) (.string ⟨Y.toArray⟩) (.string ⟨Z.toArray⟩)
   have d0:=D.cell 0
   simp only [List.getElem?_cons_zero] at d0
   have lD:=D.lt
   go_wp2_with fail
   refine (HU.out _ (hE.ofQ bt)).mono ?_
   rintro e w3 ⟨rfl,hq3⟩
   have hs3:Q wr w3:=Q.trans bt hq3
   have hQ3:Q w w3:=Q.trans hQ hs3
   replace R:=R.keep hs3 R.lt
   replace D:=D.keep hs3 D.lt
   replace O:=O.keep hs3 O.lt
   clear d0
   have f0:=O.frozen 0
   have o0:=O.cell 0
   simp only [List.getElem?_cons_zero] at o0
   go_wp2
   go_roundw
   case rel=>exact ⟨bt,R.setOther (by omega) _ _,D.setOther (by omega) _ _,.inr (.inl ⟨rfl,O.set 0 _⟩)⟩
   case measure=>simp [intOf]
  ·have hi:=idx3_1 (.string ⟨X.toArray⟩) (.string ⟨Y.toArray⟩) (.string ⟨Z.toArray⟩)
   have d0:=D.cell 1
   simp only [zs4,zs5] at d0
   have lD:=D.lt
   go_wp2_with fail
   refine (HV.out _ (hE.ofQ bt)).mono ?_
   rintro e w3 ⟨rfl,hq3⟩
   have hs3:Q wr w3:=Q.trans bt hq3
   have hQ3:Q w w3:=Q.trans hQ hs3
   replace R:=R.keep hs3 R.lt
   replace D:=D.keep hs3 D.lt
   replace O:=O.keep hs3 O.lt
   clear d0
   have f0:=O.frozen 1
   have o0:=O.cell 1
   simp only [zs4,zs5] at o0
   go_wp2
   go_roundw
   case rel=>exact ⟨bt,R.setOther (by omega) _ _,D.setOther (by omega) _ _,.inr (.inr (.inl ⟨rfl,O.set 1 _⟩))⟩
   case measure=>simp [intOf]
  ·have hi:=idx3_2 (.string ⟨X.toArray⟩) (.string ⟨Y.toArray⟩) (.string ⟨Z.toArray⟩)
   have d0:=D.cell 2
   simp only [zs4,zs5] at d0
   have lD:=D.lt
   go_wp2_with fail
   refine (HT.out _ (hE.ofQ bt)).mono ?_
   rintro e w3 ⟨rfl,hq3⟩
   have hs3:Q wr w3:=Q.trans bt hq3
   have hQ3:Q w w3:=Q.trans hQ hs3
   replace R:=R.keep hs3 R.lt
   replace D:=D.keep hs3 D.lt
   replace O:=O.keep hs3 O.lt
   clear d0
   have f0:=O.frozen 2
   have o0:=O.cell 2
   simp only [zs4,zs5] at o0
   go_wp2
   go_roundw
   case rel=>exact ⟨bt,R.setOther (by omega) _ _,D.setOther (by omega) _ _,.inr (.inr (.inr ⟨rfl,O.set 2 _⟩))⟩
   case measure=>simp [intOf]
  ·have o0:=O.cell 0
   have o1:=O.cell 1
   have o2:=O.cell 2
   simp only [zs4,zs5] at o0 o1 o2
   go_wp2_with fail
   refine (HO.out _).mono ?_
   rintro e w3 ⟨rfl,hq3⟩
   have hs3:Q wr w3:=Q.trans bt hq3
   have hQ3:Q w w3:=Q.trans hQ hs3
   replace R:=R.keep hs3 R.lt
   clear o0 o1 o2
   have r0:=R.cell 0
   have r1:=R.cell 1
   have r2:=R.cell 2
   simp only [zs4,zs5] at r0 r1 r2
   have f0:=R.frozen 0
   have f1:=R.frozen 1
   have f2:=R.frozen 2
   go_wp2
   refine bodyPost_ret (v:=.tuple #[.agg #[.string ⟨U.toArray⟩,.string ⟨V.toArray⟩,.string ⟨T.toArray⟩],.int .i64 0]) (ret_c3t Tryz.results190 (.inl rfl) _ _ (w.heap.size+2) _ _ _ _ rfl rfl (R.set3.cell 0) (R.set3.cell 1) (R.set3.cell 2)) rfl ⟨rfl,bt⟩
theorem enter_Sub:∀ args w,(callFunc 248 args).run Tryz.prog w=.ok (.enter 248 args) w:=fun _ _=>by kernel_rfl
theorem enter_Mul:∀ args w,(callFunc 129 args).run Tryz.prog w=.ok (.enter 129 args) w:=fun _ _=>by kernel_rfl
set_option maxRecDepth 100000 in
set_option maxHeartbeats 1000000 in
theorem vector_Sub {n m:Nat} (p q:P3) (h:B3 n p) (k:B3 m q) (hnm:n+m+1≤300) (w:World) (hE:Env w) :
  Calls Tryz.prog 225 #[V3 p,V3 q] w fun e w'=>e=.returned (.tuple #[V3 (p.sub q),.int .i64 0])∧Q w w':=by
 have HB:=LH (fun w hw=>vector_both p q h k (by omega) (by omega) w hw)
 have HU:Hid (OpIs 248 (rstr p.x) (rstr q.x) (rstr (p.sub q).x)):=LH (fun w hw=>rational_Sub_bd p.x q.x h.1 k.1 hnm w hw)
 have HV:Hid (OpIs 248 (rstr p.y) (rstr q.y) (rstr (p.sub q).y)):=LH (fun w hw=>rational_Sub_bd p.y q.y h.2.1 k.2.1 hnm w hw)
 have HT:Hid (OpIs 248 (rstr p.z) (rstr q.z) (rstr (p.sub q).z)):=LH (fun w hw=>rational_Sub_bd p.z q.z h.2.2 k.2.2 hnm w hw)
 unfold V3 at *
 clear h k
 generalize rstr (p.sub q).x=U at *
 generalize rstr (p.sub q).y=V at *
 generalize rstr (p.sub q).z=T at *
 generalize rstr p.x=X at *
 generalize rstr p.y=Y at *
 generalize rstr p.z=Z at *
 generalize rstr q.x=X' at *
 generalize rstr q.y=Y' at *
 generalize rstr q.z=Z' at *
 have HW:=LH (fun w hw=>vector_with 248 enter_Sub X Y Z X' Y' Z' U V T HU HV HT w hw)
 clear HU HV HT
 go_enter Tryz.func225,Tryz.ntmps225
 have hQ0:=Q.refl w
 go_wp2_with fail
 refine (HB.out _ (hE.ofQ bt)).mono ?_
 rintro e w1 ⟨rfl,hq1⟩
 have hs1:Q w w1:=Q.trans bt hq1
 have hQ1:Q w w1:=Q.trans hQ0 hs1
 have A:=((Blk.new w [.string ⟨X.toArray⟩,.string ⟨Y.toArray⟩,.string ⟨Z.toArray⟩] 57).alloc (.cells #[.string ⟨X'.toArray⟩,.string ⟨Y'.toArray⟩,.string ⟨Z'.toArray⟩] 57) |>.alloc (.cells #[.string ⟨#[]⟩,.string ⟨#[]⟩,.string ⟨#[]⟩] 57)).keep hq1 (by first | (simp; done) | (simp; omega))
 have D:=((Blk.new (w.alloc (.cells #[.string ⟨X.toArray⟩,.string ⟨Y.toArray⟩,.string ⟨Z.toArray⟩] 57)) [.string ⟨X'.toArray⟩,.string ⟨Y'.toArray⟩,.string ⟨Z'.toArray⟩] 57).alloc (.cells #[.string ⟨#[]⟩,.string ⟨#[]⟩,.string ⟨#[]⟩] 57)).keep hq1 (by first | (simp; done) | (simp; omega))
 have R:=(Blk.new ((w.alloc (.cells #[.string ⟨X.toArray⟩,.string ⟨Y.toArray⟩,.string ⟨Z.toArray⟩] 57)).alloc (.cells #[.string ⟨X'.toArray⟩,.string ⟨Y'.toArray⟩,.string ⟨Z'.toArray⟩] 57)) [.string ⟨#[]⟩,.string ⟨#[]⟩,.string ⟨#[]⟩] 57).keep hq1 (by first | (simp; done) | (simp; omega))
 simp only [World.size_alloc] at D R
 replace a0:=A.cell 0
 replace a1:=A.cell 1
 replace a2:=A.cell 2
 simp only [zs4,zs5] at a0 a1 a2
 replace lA:=A.lt
 replace d0:=D.cell 0
 replace d1:=D.cell 1
 replace d2:=D.cell 2
 simp only [zs4,zs5] at d0 d1 d2
 replace lD:=D.lt
 go_wp2_with fail
 refine (HW.out _ (hE.ofQ bt)).mono ?_
 rintro e w2 ⟨rfl,hq2⟩
 have hs2:Q w1 w2:=Q.trans bt hq2
 have hQ2:Q w w2:=Q.trans hQ1 hs2
 replace A:=A.keep hs2 A.lt
 replace a0:=A.cell 0
 replace a1:=A.cell 1
 replace a2:=A.cell 2
 simp only [zs4,zs5] at a0 a1 a2
 replace lA:=A.lt
 replace D:=D.keep hs2 D.lt
 replace d0:=D.cell 0
 replace d1:=D.cell 1
 replace d2:=D.cell 2
 simp only [zs4,zs5] at d0 d1 d2
 replace lD:=D.lt
 clear A lA a0 a1 a2
 clear D lD d0 d1 d2
 replace R:=R.keep hs2 R.lt
 have r0:=R.cell 0
 have r1:=R.cell 1
 have r2:=R.cell 2
 simp only [zs4,zs5] at r0 r1 r2
 have f0:=R.frozen 0
 have f1:=R.frozen 1
 have f2:=R.frozen 2
 go_wp2
 refine bodyPost_ret (v:=.tuple #[.agg #[.string ⟨U.toArray⟩,.string ⟨V.toArray⟩,.string ⟨T.toArray⟩],.int .i64 0]) (ret_c3t Tryz.results225 (.inl rfl) _ _ (w.heap.size+2) _ _ _ _ rfl rfl (R.set3.cell 0) (R.set3.cell 1) (R.set3.cell 2)) rfl ⟨rfl,bt⟩
theorem mul_bd_len {n:Nat} {p:P3} (h:B3 n p):Bd (n+n) (p.x*p.x)∧Bd (n+n) (p.y*p.y)∧Bd (n+n) (p.z*p.z):=⟨h.1.mul h.1,h.2.1.mul h.2.1,h.2.2.mul h.2.2⟩
set_option maxRecDepth 100000 in
set_option maxHeartbeats 1000000 in
theorem vector_dot {n:Nat} (p:P3) (h:B3 n p) (hn:6*n+2≤300) (w:World) (hE:Env w) :
  Calls Tryz.prog 152 #[V3 p,V3 p] w fun e w'=>e=.returned (.tuple #[.string ⟨(rstr p.sq).toArray⟩,.int .i64 0])∧Q w w':=by
 obtain ⟨b1,b2,b3⟩:=mul_bd_len h
 have HU:Hid (OpIs 129 (rstr p.x) (rstr p.x) (rstr (p.x*p.x))):=LH (fun w hw=>rational_Mul_bd p.x p.x h.1 h.1 (by omega) w hw)
 have HV:Hid (OpIs 129 (rstr p.y) (rstr p.y) (rstr (p.y*p.y))):=LH (fun w hw=>rational_Mul_bd p.y p.y h.2.1 h.2.1 (by omega) w hw)
 have HT:Hid (OpIs 129 (rstr p.z) (rstr p.z) (rstr (p.z*p.z))):=LH (fun w hw=>rational_Mul_bd p.z p.z h.2.2 h.2.2 (by omega) w hw)
 have HS:=LH (fun w hw=>rational_Add_bd _ _ b1 b2 (by omega) w hw)
 have HD:=LH (fun w hw=>rational_Add_bd _ _ (b1.add b2) b3 (by omega) w hw)
 have e:p.sq=p.x*p.x+p.y*p.y+p.z*p.z:=rfl
 rw [e]
 unfold V3 at *
 clear h b1 b2 b3 e
 generalize rstr (p.x*p.x+p.y*p.y+p.z*p.z)=S at *
 generalize rstr (p.x*p.x+p.y*p.y)=P at *
 generalize rstr (p.x*p.x)=U at *
 generalize rstr (p.y*p.y)=V at *
 generalize rstr (p.z*p.z)=T at *
 generalize rstr p.x=X at *
 generalize rstr p.y=Y at *
 generalize rstr p.z=Z at *
 have HW:=LH (fun w hw=>vector_with 129 enter_Mul X Y Z X Y Z U V T HU HV HT w hw)
 clear HU HV HT
 go_enter Tryz.func152,Tryz.ntmps152
 have hQ0:=Q.refl w
 go_wp2_with fail
 refine (HW.out _ (hE.ofQ bt)).mono ?_
 rintro e w1 ⟨rfl,hq1⟩
 have hs1:Q w w1:=Q.trans bt hq1
 have hQ1:Q w w1:=Q.trans hQ0 hs1
 have A:=Blk.new w1 [.string ⟨U.toArray⟩,.string ⟨V.toArray⟩,.string ⟨T.toArray⟩] 57
 go_wp2_with fail
 refine (HS.out _ (hE.ofQ bt)).mono ?_
 rintro e w2 ⟨rfl,hq2⟩
 have hs2:Q w1 w2:=Q.trans bt hq2
 have hQ2:Q w w2:=Q.trans hQ1 hs2
 replace A:=A.keep hq2 (by simp)
 replace a0:=A.cell 0
 replace a1:=A.cell 1
 replace a2:=A.cell 2
 simp only [zs4,zs5] at a0 a1 a2
 replace lA:=A.lt
 go_wp2_with fail
 refine (HD.out _ (hE.ofQ bt)).mono ?_
 rintro e w3 ⟨rfl,hq3⟩
 have hs3:Q w2 w3:=Q.trans bt hq3
 have hQ3:Q w w3:=Q.trans hQ2 hs3
 replace A:=A.keep hs3 A.lt
 replace a0:=A.cell 0
 replace a1:=A.cell 1
 replace a2:=A.cell 2
 simp only [zs4,zs5] at a0 a1 a2
 replace lA:=A.lt
 clear A lA a0 a1 a2
 go_wp2
 go_ret2
 exact ⟨rfl,bt⟩
end
section
open Go.RowKit Kp
open Go.Lib (decDigits)
set_option maxHeartbeats 400000 in
theorem hip_outside (n a b:Int) (h1:a≤n) (h2:n≤b) (w:World) :
  Calls Tryz.prog 64 #[.int .i64 n,.int .i64 a,.int .i64 b] w fun e w'=>e=.returned (.bool false)∧w=w':=by
 have k1:¬ n<a:=by omega
 have k2:¬ b<n:=by omega
 go_enter Tryz.func64,Tryz.ntmps64
 go_wp2
 all_goals (go_ret; exact ⟨rfl,rfl⟩)
theorem bd_lens {q:Rat} {n:Nat} (h:Bd n q):((unsig (Lib.itoa q.num)).length:Int)≤n∧((Lib.itoa (q.den:Int)).length:Int)≤n:=by
 have h1:(unsig (Lib.itoa q.num)).length≤n:=by
  rw [unsig_itoa]
  rcases Nat.eq_zero_or_pos n with rfl | hn
  ·exact absurd h.2 (by have:=q.den_pos; simp; omega)
  ·exact (decDigits_len_le _ n hn).2 h.1
 have h2:(Lib.itoa (q.den:Int)).length≤n:=by
  rw [← dec_eq_itoa]
  rcases Nat.eq_zero_or_pos n with rfl | hn
  ·exact absurd h.2 (by have:=q.den_pos; simp; omega)
  ·exact (decDigits_len_le _ n hn).2 h.2
 exact ⟨by omega,by omega⟩
set_option maxHeartbeats 1000000 in
theorem hip_long1 (q:Rat) (h:Bd 36 q) (w:World) (hE:Env w) :
  Calls Tryz.prog 90 #[.string ⟨(rstr q).toArray⟩] w fun e w'=>e=.returned (.bool false)∧Q w w':=by
 have HP:=LH (fun w hw=>rational_Parts q (h.rlim (by decide)) w hw)
 obtain ⟨l1,l2⟩:=bd_lens h
 clear h
 generalize rstr q=S at *
 have hu:unsig (Lib.itoa q.num)=unsig (Lib.itoa q.num):=rfl
 generalize Lib.itoa (q.den:Int)=D at *
 have HT:=LH (fun w=>lib_TrimMinus (Lib.itoa q.num) w)
 generalize unsig (Lib.itoa q.num)=U at *
 generalize Lib.itoa q.num=N at *
 clear hu
 have hm:decide ((36:Int)<max (U.length:Int) (D.length:Int))=false:=by rw [decide_eq_false_iff_not]; omega
 go_enter Tryz.func90,Tryz.ntmps90
 have hQ0:=Q.refl w
 go_wp2_with fail
 refine (HP.out _ (hE.ofQ bt)).mono ?_
 rintro e w1 ⟨rfl,hq1⟩
 have hs1:Q w w1:=Q.trans bt hq1
 have hQ1:Q w w1:=Q.trans hQ0 hs1
 go_wp2_with fail
 refine (HT.out _).mono ?_
 rintro e w2 ⟨rfl,rfl⟩
 go_wp2
 go_ret
 refine ⟨?_,hQ1⟩
 first | rfl | (show Ending.returned (Value.bool (decide _))=_; rw [hm])
set_option maxRecDepth 100000 in
set_option maxHeartbeats 1000000 in
theorem index_nums (l:List Rat) (hl:∀ q∈l,Bd 36 q) (hn:l.length≤100) (v:Value) (w:World) (hE:Env w) (hv:StrSl w v (l.map rstr)) :
  Calls Tryz.prog 120 #[v,.func (.func 90) #[] #[]] w fun e w'=>e=.returned (.int .i64 (-1))∧Q w w':=by
 obtain ⟨b,o,cap,rfl,hb,hc⟩:=hv
 rw [List.length_map] at hc
 rw [List.length_map]
 have HL:=LH hl
 clear hl
 go_enter Tryz.func120,Tryz.ntmps120
 go_wp2
 go_loopw [8] (fun i wr=>∃ k:Nat,k≤l.length∧i=.int .i64 k∧Q w wr) (fun i _=>l.length - (intOf i).toNat)
 case atStart=>exact ⟨0,by omega,rfl,Below.refl _ _⟩
 case round =>
  obtain ⟨k,hk,rfl,hQ⟩:=hrel
  by_cases hlt:k<l.length
  ·have hcell:=hc k hlt
   have hcell':wr.cell? ⟨b,o+k,none⟩=some (.string ⟨((l.map rstr).getD k []).toArray⟩):=by rw [hQ.cell (p:=⟨b,o+k,none⟩) hb]; exact hcell
   have hq:(l.map rstr).getD k []=rstr l[k]:=by rw [List.getD_eq_getElem?_getD,List.getElem?_map,List.getElem?_eq_getElem hlt]; rfl
   rw [hq] at hcell'
   have HG:=LH (fun w hw=>hip_long1 l[k] (HL.out _ (List.getElem_mem hlt)) w hw)
   clear hcell hc hq HL
   generalize rstr l[k]=S at *
   go_wp2_with fail
   refine (HG.out _ (hE.q hQ)).mono ?_
   rintro e w2 ⟨rfl,hq2⟩
   have hQ2:Q w w2:=Q.trans hQ hq2
   go_wp2
   go_roundw
   case rel=>exact ⟨k+1,by omega,by go_num,hQ2⟩
   case measure=>simp [intOf]; omega
  ·obtain rfl:k=l.length:=by omega
   go_wp2
   go_ret
   exact ⟨rfl,hQ⟩
set_option maxHeartbeats 1000000 in
theorem contains_nums (l:List Rat) (hl:∀ q∈l,Bd 36 q) (hn:l.length≤100) (v:Value) (w:World) (hE:Env w) (hv:StrSl w v (l.map rstr)) :
  Calls Tryz.prog 89 #[v,.func (.func 90) #[] #[]] w fun e w'=>e=.returned (.bool false)∧Q w w':=by
 have HI:=LH (index_nums l hl hn v w hE hv)
 clear hl hv
 go_enter Tryz.func89,Tryz.ntmps89
 go_wp2_with fail
 refine HI.out.mono ?_
 rintro e w1 ⟨rfl,hq1⟩
 go_wp2
 go_ret
 exact ⟨rfl,hq1⟩
theorem StrSl.three {w:World} {b:Nat} {s1 s2 s3:Str} {t:TypeId} (h:Blk w b [.string ⟨s1.toArray⟩,.string ⟨s2.toArray⟩,.string ⟨s3.toArray⟩] t):StrSl w (.slice (some ⟨b,0,none⟩) 3 3) [s1,s2,s3]:=by
 refine ⟨b,0,3,rfl,h.lt,fun i hi=>?_⟩
 simp only [List.length_cons,List.length_nil] at hi
 have:i=0∨i=1∨i=2:=by omega
 rcases this with rfl | rfl | rfl
 ·exact h.cell 0
 ·exact h.cell 1
 ·exact h.cell 2
set_option maxHeartbeats 1000000 in
theorem hip_long {n:Nat} (p:P3) (h:B3 n p) (hn:n≤36) (w:World) (hE:Env w) :
  Calls Tryz.prog 66 #[V3 p] w fun e w'=>e=.returned (.bool false)∧Q w w':=by
 have HC:=LH (fun v w hw hv=>contains_nums [p.x,p.y,p.z] (by
  intro q hq
  simp only [List.mem_cons,List.not_mem_nil,or_false] at hq
  rcases hq with rfl | rfl | rfl
  ·exact h.1.mono hn
  ·exact h.2.1.mono hn
  ·exact h.2.2.mono hn) (by simp) v w hw hv)
 clear h
 unfold V3
 have HC':Hid (∀ b t w,Env w→Blk w b [.string ⟨(rstr p.x).toArray⟩,.string ⟨(rstr p.y).toArray⟩,.string ⟨(rstr p.z).toArray⟩] t →
   Calls Tryz.prog 89 #[.slice (some ⟨b,0,none⟩) 3 3,.func (.func 90) #[] #[]] w fun e w'=>e=.returned (.bool false)∧Q w w') :=
  LH (fun b t w hw hb=>HC.out _ w hw (StrSl.three hb))
 clear HC
 generalize rstr p.x=X at *
 generalize rstr p.y=Y at *
 generalize rstr p.z=Z at *
 go_enter Tryz.func66,Tryz.ntmps66
 have hQ0:=Q.refl w
 go_wp2_with fail
 refine (HC'.out (w.heap.size+1) 55 _ (hE.ofQ bt) (Blk.new1 w _ [.string ⟨X.toArray⟩,.string ⟨Y.toArray⟩,.string ⟨Z.toArray⟩] 55)).mono ?_
 rintro e w1 ⟨rfl,hq1⟩
 have hs1:Q w w1:=Q.trans bt hq1
 have hQ1:Q w w1:=Q.trans hQ0 hs1
 go_wp2
 go_ret
 exact ⟨rfl,bt⟩
abbrev VM (k W D:Int) (f t:P3):Value:=.agg #[.int .i64 k,.int .i64 0,.int .i64 (-1),.string ⟨(rstr f.x).toArray⟩,.string ⟨(rstr f.y).toArray⟩,.string ⟨(rstr f.z).toArray⟩,.string ⟨(rstr t.x).toArray⟩,.string ⟨(rstr t.y).toArray⟩,.string ⟨(rstr t.z).toArray⟩,.int .i64 W,.int .i64 D]
structure MOk (k W D:Int):Prop where
 k1:1≤k
 k2:k≤12
 w1:1≤W
 w2:W≤1000
 d1:1≤D
 d2:D≤1000
theorem spot_ne {f t:P3} (h:f≠t):((rstr f.x == rstr t.x) && ((rstr f.y == rstr t.y) && (rstr f.z == rstr t.z)))=false:=by
 cases hx:(rstr f.x == rstr t.x) with
 | false=>rfl
 | true=>cases hy:(rstr f.y == rstr t.y) with
  | false=>rfl
  | true=>cases hz:(rstr f.z == rstr t.z) with
   | false=>rfl
   | true =>
    exfalso; apply h
    have h1:=rstr_inj (beq_iff_eq.1 hx)
    have h2:=rstr_inj (beq_iff_eq.1 hy)
    have h3:=rstr_inj (beq_iff_eq.1 hz)
    cases f; cases t
    simp only at h1 h2 h3
    rw [h1,h2,h3]
set_option maxRecDepth 100000 in
set_option maxHeartbeats 4000000 in
theorem hip_Check {n:Nat} (k W D:Int) (hm:MOk k W D) (f t:P3) (hf:B3 n f) (ht:B3 n t) (hn:n≤36) (hne:f≠t) (w:World) (hE:Env w) :
  Calls Tryz.prog 46 #[VM k W D f t] w fun e w'=>e=.returned (.int .i64 0)∧Q w w':=by
 have HF:=LH (fun w hw=>vector_Check f hf (by omega) w hw)
 have HT:=LH (fun w hw=>vector_Check t ht (by omega) w hw)
 have HLF:=LH (fun w hw=>hip_long f hf hn w hw)
 have HLT:=LH (fun w hw=>hip_long t ht hn w hw)
 have hne':=spot_ne hne
 obtain ⟨hk1,hk2,hw1,hw2,hd1,hd2⟩:=hm
 have HO1:=LH (fun w=>hip_outside k 1 12 hk1 hk2 w)
 have HO2:=LH (fun w=>hip_outside W 1 1000 hw1 hw2 w)
 have HO3:=LH (fun w=>hip_outside D 1 1000 hd1 hd2 w)
 unfold VM V3 at *
 clear hf ht hne
 generalize rstr f.x=X at *
 generalize rstr f.y=Y at *
 generalize rstr f.z=Z at *
 generalize rstr t.x=X' at *
 generalize rstr t.y=Y' at *
 generalize rstr t.z=Z' at *
 go_enter Tryz.func46,Tryz.ntmps46
 go_wp2_with fail
 have A:=Blk.new w [.int .i64 k,.int .i64 0,.int .i64 (-1),.string ⟨X.toArray⟩,.string ⟨Y.toArray⟩,.string ⟨Z.toArray⟩,.string ⟨X'.toArray⟩,.string ⟨Y'.toArray⟩,.string ⟨Z'.toArray⟩,.int .i64 W,.int .i64 D] 59
 refine (HO1.out _).mono ?_
 rintro e w1 ⟨rfl,rfl⟩
 go_wp2_with fail
 refine (HO2.out _).mono ?_
 rintro e w1 ⟨rfl,rfl⟩
 go_wp2_with fail
 refine (HO3.out _).mono ?_
 rintro e w1 ⟨rfl,rfl⟩
 clear HO1 HO2 HO3
 go_wp2
 have S:=Blk.new1 w (.cells #[.int .i64 k,.int .i64 0,.int .i64 (-1),.string ⟨X.toArray⟩,.string ⟨Y.toArray⟩,.string ⟨Z.toArray⟩,.string ⟨X'.toArray⟩,.string ⟨Y'.toArray⟩,.string ⟨Z'.toArray⟩,.int .i64 W,.int .i64 D] 59) [.string ⟨X.toArray⟩,.string ⟨Y.toArray⟩,.string ⟨Z.toArray⟩,.string ⟨X'.toArray⟩,.string ⟨Y'.toArray⟩,.string ⟨Z'.toArray⟩] 57
 replace A:=A.alloc (.cells #[.string ⟨X.toArray⟩,.string ⟨Y.toArray⟩,.string ⟨Z.toArray⟩,.string ⟨X'.toArray⟩,.string ⟨Y'.toArray⟩,.string ⟨Z'.toArray⟩] 57)
 go_loopw [34] (fun i wr=>(i=.int .i64 0∨i=.int .i64 1∨i=.int .i64 2)∧Q w wr∧Blk wr w.heap.size [.int .i64 k,.int .i64 0,.int .i64 (-1),.string ⟨X.toArray⟩,.string ⟨Y.toArray⟩,.string ⟨Z.toArray⟩,.string ⟨X'.toArray⟩,.string ⟨Y'.toArray⟩,.string ⟨Z'.toArray⟩,.int .i64 W,.int .i64 D] 59∧Blk wr (w.heap.size+1) [.string ⟨X.toArray⟩,.string ⟨Y.toArray⟩,.string ⟨Z.toArray⟩,.string ⟨X'.toArray⟩,.string ⟨Y'.toArray⟩,.string ⟨Z'.toArray⟩] 57) (fun i _=>2 - (intOf i).toNat)
 case atStart=>exact ⟨.inl rfl,bt,A,S⟩
 case round =>
  clear A S
  obtain ⟨hi,hQ,A,S⟩:=hrel
  rcases hi with rfl | rfl | rfl
  ·have s0:=S.cell 0
   have s1:=S.cell 1
   have s2:=S.cell 2
   simp only [zs4,zs5] at s0 s1 s2
   go_wp2_with fail
   refine (HF.out _ (hE.ofQ bt)).mono ?_
   rintro e w2 ⟨rfl,hq2⟩
   have hs2:Q wr w2:=Q.trans bt hq2
   have hQ2:Q w w2:=Q.trans hQ hs2
   clear s0 s1 s2
   go_wp2
   go_roundw
   case rel=>exact ⟨.inr (.inl rfl),hQ2,A.keep hs2 A.lt,S.keep hs2 S.lt⟩
   case measure=>simp [intOf]
  ·have s0:=S.cell 3
   have s1:=S.cell 4
   have s2:=S.cell 5
   simp only [zs4,zs5] at s0 s1 s2
   go_wp2_with fail
   refine (HT.out _ (hE.ofQ bt)).mono ?_
   rintro e w2 ⟨rfl,hq2⟩
   have hs2:Q wr w2:=Q.trans bt hq2
   have hQ2:Q w w2:=Q.trans hQ hs2
   clear s0 s1 s2
   go_wp2
   go_roundw
   case rel=>exact ⟨.inr (.inr rfl),hQ2,A.keep hs2 A.lt,S.keep hs2 S.lt⟩
   case measure=>simp [intOf]
  ·clear S
   have a3:=A.cell 3
   have a4:=A.cell 4
   have a5:=A.cell 5
   have a6:=A.cell 6
   have a7:=A.cell 7
   have a8:=A.cell 8
   simp only [zs4,zs5] at a3 a4 a5 a6 a7 a8
   go_wp2_with fail
   refine (HLF.out _ (hE.ofQ bt)).mono ?_
   rintro e w2 ⟨rfl,hq2⟩
   have hs2:Q wr w2:=Q.trans bt hq2
   have hQ2:Q w w2:=Q.trans hQ hs2
   replace A:=A.keep hs2 A.lt
   replace a3:=A.cell 3
   replace a4:=A.cell 4
   replace a5:=A.cell 5
   replace a6:=A.cell 6
   replace a7:=A.cell 7
   replace a8:=A.cell 8
   simp only [zs4,zs5] at a3 a4 a5 a6 a7 a8
   go_wp2_with fail
   refine (HLT.out _ (hE.ofQ bt)).mono ?_
   rintro e w3 ⟨rfl,hq3⟩
   have hs3:Q w2 w3:=Q.trans bt hq3
   have hQ3:Q w w3:=Q.trans hQ2 hs3
   replace A:=A.keep hs3 A.lt
   replace a3:=A.cell 3
   replace a4:=A.cell 4
   replace a5:=A.cell 5
   replace a6:=A.cell 6
   replace a7:=A.cell 7
   replace a8:=A.cell 8
   simp only [zs4,zs5] at a3 a4 a5 a6 a7 a8
   go_wp2
   all_goals first
    | (exfalso; subst_vars; simp at hne'; done)
    | (go_ret; exact ⟨rfl,hQ3⟩)
end
section
open Go.RowKit Kp
open Go.Lib (decDigits)
set_option maxHeartbeats 400000 in
theorem hip_dir1 (U V T:Str) (w:World) :
  Calls Tryz.prog 188 #[.agg #[.string ⟨U.toArray⟩,.string ⟨V.toArray⟩,.string ⟨T.toArray⟩]] w fun e w'=>e=.returned (.tuple #[.agg #[.string ⟨U.toArray⟩,.string ⟨V.toArray⟩,.string ⟨T.toArray⟩],.int .i64 0])∧Q w w':=by
 go_enter Tryz.func188,Tryz.ntmps188
 go_wp2
 have BB:=Blk.new1 w (.cells #[.string ⟨U.toArray⟩,.string ⟨V.toArray⟩,.string ⟨T.toArray⟩] 57) [.string ⟨U.toArray⟩,.string ⟨V.toArray⟩,.string ⟨T.toArray⟩] 57
 refine bodyPost_ret (v:=.tuple #[.agg #[.string ⟨U.toArray⟩,.string ⟨V.toArray⟩,.string ⟨T.toArray⟩],.int .i64 0]) (ret_c3t Tryz.results188 (.inl rfl) _ _ (w.heap.size+1) _ _ _ _ rfl rfl (BB.cell 0) (BB.cell 1) (BB.cell 2)) rfl ⟨rfl,bt⟩
set_option maxRecDepth 100000 in
set_option maxHeartbeats 2000000 in
theorem hip_of {n:Nat} (k W D:Int) (hm:MOk k W D) (f t:P3) (hf:B3 n f) (ht:B3 n t) (hn:n≤36) (hne:f≠t) (w:World) (hE:Env w) :
  Calls Tryz.prog 189 #[.agg #[.func (.func 188) #[] #[]],VM k W D f t] w fun e w'=>e=.returned (.tuple #[V3 (t.sub f),.int .i64 0])∧Q w w':=by
 have HC:=LH (fun w hw=>hip_Check k W D hm f t hf ht hn hne w hw)
 have HS:=LH (fun w hw=>vector_Sub t f ht hf (by omega) w hw)
 unfold VM V3 at *
 clear hm hf ht hne
 generalize rstr (t.sub f).x=U at *
 generalize rstr (t.sub f).y=V at *
 generalize rstr (t.sub f).z=T at *
 generalize rstr f.x=X at *
 generalize rstr f.y=Y at *
 generalize rstr f.z=Z at *
 generalize rstr t.x=X' at *
 generalize rstr t.y=Y' at *
 generalize rstr t.z=Z' at *
 have HD:=LH (fun w=>hip_dir1 U V T w)
 go_enter Tryz.func189,Tryz.ntmps189
 have hQ0:=Q.refl w
 go_wp2_with fail
 refine (HC.out _ (hE.ofQ bt)).mono ?_
 rintro e w1 ⟨rfl,hq1⟩
 have hs1:Q w w1:=Q.trans bt hq1
 have hQ1:Q w w1:=Q.trans hQ0 hs1
 have A:=((Blk.new w [.func (.func 188) #[] #[]] 266).alloc (.cells #[.int .i64 k,.int .i64 0,.int .i64 (-1),.string ⟨X.toArray⟩,.string ⟨Y.toArray⟩,.string ⟨Z.toArray⟩,.string ⟨X'.toArray⟩,.string ⟨Y'.toArray⟩,.string ⟨Z'.toArray⟩,.int .i64 W,.int .i64 D] 59) |>.alloc (.cells #[.string ⟨#[]⟩,.string ⟨#[]⟩,.string ⟨#[]⟩] 57) |>.alloc (.cells #[.string ⟨#[]⟩,.string ⟨#[]⟩,.string ⟨#[]⟩] 57)).keep hq1 (by first | (simp; done) | (simp; omega))
 have M:=((Blk.new1 w (.cells #[.func (.func 188) #[] #[]] 266) [.int .i64 k,.int .i64 0,.int .i64 (-1),.string ⟨X.toArray⟩,.string ⟨Y.toArray⟩,.string ⟨Z.toArray⟩,.string ⟨X'.toArray⟩,.string ⟨Y'.toArray⟩,.string ⟨Z'.toArray⟩,.int .i64 W,.int .i64 D] 59).alloc (.cells #[.string ⟨#[]⟩,.string ⟨#[]⟩,.string ⟨#[]⟩] 57) |>.alloc (.cells #[.string ⟨#[]⟩,.string ⟨#[]⟩,.string ⟨#[]⟩] 57)).keep hq1 (by first | (simp; done) | (simp; omega))
 have R:=((Blk.new2 w (.cells #[.func (.func 188) #[] #[]] 266) (.cells #[.int .i64 k,.int .i64 0,.int .i64 (-1),.string ⟨X.toArray⟩,.string ⟨Y.toArray⟩,.string ⟨Z.toArray⟩,.string ⟨X'.toArray⟩,.string ⟨Y'.toArray⟩,.string ⟨Z'.toArray⟩,.int .i64 W,.int .i64 D] 59) [.string ⟨#[]⟩,.string ⟨#[]⟩,.string ⟨#[]⟩] 57).alloc (.cells #[.string ⟨#[]⟩,.string ⟨#[]⟩,.string ⟨#[]⟩] 57)).keep hq1 (by first | (simp; done) | (simp; omega))
 replace a0:=A.cell 0
 simp only [List.getElem?_cons_zero] at a0
 replace lA:=A.lt
 replace m0:=M.cell 0
 replace m1:=M.cell 1
 replace m2:=M.cell 2
 replace m3:=M.cell 3
 replace m4:=M.cell 4
 replace m5:=M.cell 5
 replace m6:=M.cell 6
 replace m7:=M.cell 7
 replace m8:=M.cell 8
 replace m9:=M.cell 9
 replace m10:=M.cell 10
 simp only [zs4,zs5] at m0 m1 m2 m3 m4 m5 m6 m7 m8 m9 m10
 replace lM:=M.lt
 replace r0:=R.cell 0
 replace r1:=R.cell 1
 replace r2:=R.cell 2
 simp only [zs4,zs5] at r0 r1 r2
 replace lR:=R.lt
 go_wp2_with fail
 refine (HS.out _ (hE.ofQ bt)).mono ?_
 rintro e w2 ⟨rfl,hq2⟩
 have hs2:Q w1 w2:=Q.trans bt hq2
 have hQ2:Q w w2:=Q.trans hQ1 hs2
 replace A:=A.keep hs2 A.lt
 replace a0:=A.cell 0
 simp only [List.getElem?_cons_zero] at a0
 replace lA:=A.lt
 replace M:=M.keep hs2 M.lt
 replace m0:=M.cell 0
 replace m1:=M.cell 1
 replace m2:=M.cell 2
 replace m3:=M.cell 3
 replace m4:=M.cell 4
 replace m5:=M.cell 5
 replace m6:=M.cell 6
 replace m7:=M.cell 7
 replace m8:=M.cell 8
 replace m9:=M.cell 9
 replace m10:=M.cell 10
 simp only [zs4,zs5] at m0 m1 m2 m3 m4 m5 m6 m7 m8 m9 m10
 replace lM:=M.lt
 replace R:=R.keep hs2 R.lt
 replace r0:=R.cell 0
 replace r1:=R.cell 1
 replace r2:=R.cell 2
 simp only [zs4,zs5] at r0 r1 r2
 replace lR:=R.lt
 clear M lM m0 m1 m2 m3 m4 m5 m6 m7 m8 m9 m10
 clear HC HS
 go_wp2_with fail
 have f0:=R.frozen 0
 have f1:=R.frozen 1
 have f2:=R.frozen 2
 refine (HD.out _).mono ?_
 rintro e w3 ⟨rfl,hq3⟩
 have hs3:Q w2 w3:=Q.trans bt hq3
 have hQ3:Q w w3:=Q.trans hQ2 hs3
 replace R:=R.keep hs3 R.lt
 clear f0 f1 f2
 have f0:=R.frozen 0
 have f1:=R.frozen 1
 have f2:=R.frozen 2
 clear A lA a0
 replace r0:=R.cell 0
 replace r1:=R.cell 1
 replace r2:=R.cell 2
 simp only [zs4,zs5] at r0 r1 r2
 go_wp2
 refine bodyPost_ret (v:=.tuple #[.agg #[.string ⟨U.toArray⟩,.string ⟨V.toArray⟩,.string ⟨T.toArray⟩],.int .i64 0]) (ret_c3t Tryz.results189 (.inl rfl) _ _ (w.heap.size+2) _ _ _ _ rfl rfl (R.set3.cell 0) (R.set3.cell 1) (R.set3.cell 2)) rfl ⟨rfl,bt⟩
set_option maxRecDepth 100000 in
set_option maxHeartbeats 1000000 in
theorem hip_Direction {n:Nat} (k W D:Int) (hm:MOk k W D) (f t:P3) (hf:B3 n f) (ht:B3 n t) (hn:n≤36) (hne:f≠t) (w:World) (hE:Env w) :
  Calls Tryz.prog 151 #[VM k W D f t] w fun e w'=>e=.returned (.tuple #[V3 (t.sub f),.int .i64 0])∧Q w w':=by
 have HS:=LH (fun w hw=>hip_of k W D hm f t hf ht hn hne w hw)
 unfold VM V3 at *
 clear hm hf ht hne
 generalize rstr (t.sub f).x=U at *
 generalize rstr (t.sub f).y=V at *
 generalize rstr (t.sub f).z=T at *
 generalize rstr f.x=X at *
 generalize rstr f.y=Y at *
 generalize rstr f.z=Z at *
 generalize rstr t.x=X' at *
 generalize rstr t.y=Y' at *
 generalize rstr t.z=Z' at *
 go_enter Tryz.func151,Tryz.ntmps151
 have hQ0:=Q.refl w
 go_wp2_with fail
 refine (HS.out _ (hE.ofQ bt)).mono ?_
 rintro e w1 ⟨rfl,hq1⟩
 have hs1:Q w w1:=Q.trans bt hq1
 have hQ1:Q w w1:=Q.trans hQ0 hs1
 have R:=(Blk.new1 w (.cells #[.int .i64 k,.int .i64 0,.int .i64 (-1),.string ⟨X.toArray⟩,.string ⟨Y.toArray⟩,.string ⟨Z.toArray⟩,.string ⟨X'.toArray⟩,.string ⟨Y'.toArray⟩,.string ⟨Z'.toArray⟩,.int .i64 W,.int .i64 D] 59) [.string ⟨#[]⟩,.string ⟨#[]⟩,.string ⟨#[]⟩] 57).keep hq1 (by first | (simp; done) | (simp; omega))
 have f0:=R.frozen 0
 have f1:=R.frozen 1
 have f2:=R.frozen 2
 replace r0:=R.cell 0
 replace r1:=R.cell 1
 replace r2:=R.cell 2
 simp only [zs4,zs5] at r0 r1 r2
 replace lR:=R.lt
 go_wp2
 refine bodyPost_ret (v:=.tuple #[.agg #[.string ⟨U.toArray⟩,.string ⟨V.toArray⟩,.string ⟨T.toArray⟩],.int .i64 0]) (ret_c3t Tryz.results151 (.inl rfl) _ _ (w.heap.size+1) _ _ _ _ rfl rfl (R.set3.cell 0) (R.set3.cell 1) (R.set3.cell 2)) rfl ⟨rfl,bt⟩
set_option maxRecDepth 100000 in
set_option maxHeartbeats 1000000 in
theorem true_direction {n:Nat} (k W D:Int) (hm:MOk k W D) (f t:P3) (hf:B3 n f) (ht:B3 n t) (hn:n≤36) (hne:f≠t) (w:World) (hE:Env w) :
  Calls Tryz.prog 122 #[VM k W D f t] w fun e w'=>e=.returned (.tuple #[V3 (t.sub f),.int .i64 0])∧Q w w':=by
 have HC:=LH (fun w hw=>hip_Check k W D hm f t hf ht hn hne w hw)
 have HS:=LH (fun w hw=>hip_Direction k W D hm f t hf ht hn hne w hw)
 unfold VM V3 at *
 clear hm hf ht hne
 generalize rstr (t.sub f).x=U at *
 generalize rstr (t.sub f).y=V at *
 generalize rstr (t.sub f).z=T at *
 generalize rstr f.x=X at *
 generalize rstr f.y=Y at *
 generalize rstr f.z=Z at *
 generalize rstr t.x=X' at *
 generalize rstr t.y=Y' at *
 generalize rstr t.z=Z' at *
 go_enter Tryz.func122,Tryz.ntmps122
 have hQ0:=Q.refl w
 go_wp2_with fail
 refine (HC.out _ (hE.ofQ bt)).mono ?_
 rintro e w1 ⟨rfl,hq1⟩
 have hs1:Q w w1:=Q.trans bt hq1
 have hQ1:Q w w1:=Q.trans hQ0 hs1
 have M:=((Blk.new w [.int .i64 k,.int .i64 0,.int .i64 (-1),.string ⟨X.toArray⟩,.string ⟨Y.toArray⟩,.string ⟨Z.toArray⟩,.string ⟨X'.toArray⟩,.string ⟨Y'.toArray⟩,.string ⟨Z'.toArray⟩,.int .i64 W,.int .i64 D] 59).alloc (.cells #[.string ⟨#[]⟩,.string ⟨#[]⟩,.string ⟨#[]⟩] 57)).keep hq1 (by first | (simp; done) | (simp; omega))
 have R:=(Blk.new1 w (.cells #[.int .i64 k,.int .i64 0,.int .i64 (-1),.string ⟨X.toArray⟩,.string ⟨Y.toArray⟩,.string ⟨Z.toArray⟩,.string ⟨X'.toArray⟩,.string ⟨Y'.toArray⟩,.string ⟨Z'.toArray⟩,.int .i64 W,.int .i64 D] 59) [.string ⟨#[]⟩,.string ⟨#[]⟩,.string ⟨#[]⟩] 57).keep hq1 (by first | (simp; done) | (simp; omega))
 replace m0:=M.cell 0
 replace m1:=M.cell 1
 replace m2:=M.cell 2
 replace m3:=M.cell 3
 replace m4:=M.cell 4
 replace m5:=M.cell 5
 replace m6:=M.cell 6
 replace m7:=M.cell 7
 replace m8:=M.cell 8
 replace m9:=M.cell 9
 replace m10:=M.cell 10
 simp only [zs4,zs5] at m0 m1 m2 m3 m4 m5 m6 m7 m8 m9 m10
 replace lM:=M.lt
 replace r0:=R.cell 0
 replace r1:=R.cell 1
 replace r2:=R.cell 2
 simp only [zs4,zs5] at r0 r1 r2
 replace lR:=R.lt
 go_wp2_with fail
 refine (HS.out _ (hE.ofQ bt)).mono ?_
 rintro e w2 ⟨rfl,hq2⟩
 have hs2:Q w1 w2:=Q.trans bt hq2
 have hQ2:Q w w2:=Q.trans hQ1 hs2
 replace M:=M.keep hs2 M.lt
 replace m0:=M.cell 0
 replace m1:=M.cell 1
 replace m2:=M.cell 2
 replace m3:=M.cell 3
 replace m4:=M.cell 4
 replace m5:=M.cell 5
 replace m6:=M.cell 6
 replace m7:=M.cell 7
 replace m8:=M.cell 8
 replace m9:=M.cell 9
 replace m10:=M.cell 10
 simp only [zs4,zs5] at m0 m1 m2 m3 m4 m5 m6 m7 m8 m9 m10
 replace lM:=M.lt
 replace R:=R.keep hs2 R.lt
 replace r0:=R.cell 0
 replace r1:=R.cell 1
 replace r2:=R.cell 2
 simp only [zs4,zs5] at r0 r1 r2
 replace lR:=R.lt
 clear M lM m0 m1 m2 m3 m4 m5 m6 m7 m8 m9 m10
 have f0:=R.frozen 0
 have f1:=R.frozen 1
 have f2:=R.frozen 2
 go_wp2
 refine bodyPost_ret (v:=.tuple #[.agg #[.string ⟨U.toArray⟩,.string ⟨V.toArray⟩,.string ⟨T.toArray⟩],.int .i64 0]) (ret_c3t Tryz.results122 (.inl rfl) _ _ (w.heap.size+1) _ _ _ _ rfl rfl (R.set3.cell 0) (R.set3.cell 1) (R.set3.cell 2)) rfl ⟨rfl,bt⟩
def LenAt (w:World) (B:Nat) (v:Value) (s:Rat):Prop:=(s=0∧v=.slice none 0 0)∨(0<s.num∧Surd1 w B v (aOf s) (leftOf s))
theorem LenAt.keep {w w':World} {B:Nat} {v:Value} {s:Rat} (h:LenAt w B v s) (hq:Q w w'):LenAt w' B v s :=
 h.elim .inl (fun h=>.inr ⟨h.1,surd1_keep h.2 hq⟩)
theorem LenAt.mono {w:World} {B B':Nat} {v:Value} {s:Rat} (h:LenAt w B v s) (hb:B'≤B):LenAt w B' v s :=
 h.elim .inl (fun h=>.inr ⟨h.1,Joins.ownsRow_le h.2 hb⟩)
theorem sq_nonneg (a:Rat):0≤a*a:=by
 rcases Rat.le_total (a:=0) (b:=a) with h | h
 ·exact Rat.mul_nonneg h h
 ·have h2:0≤-a:=by rw [← Rat.neg_zero]; exact Rat.neg_le_neg h
  have:=Rat.mul_nonneg h2 h2
  rwa [Rat.neg_mul,Rat.mul_neg,Rat.neg_neg] at this
theorem P3.sq_nonneg (p:P3):0≤p.sq:=Rat.add_nonneg (Rat.add_nonneg (Go.Proofs.YtohlpeicpoaanaaGreatDoor.sq_nonneg _) (Go.Proofs.YtohlpeicpoaanaaGreatDoor.sq_nonneg _)) (Go.Proofs.YtohlpeicpoaanaaGreatDoor.sq_nonneg _)
theorem term_of {s:Rat} (b:Bd 16 s) (hp:0<s.num):Term1 (aOf s) (leftOf s):=by
 have ba:=aOf_bd b hp
 have bl:Bd 32 (leftOf s:Rat):=lOf_bd b hp (by decide)
 exact ⟨ba.rlim (by decide),aOf_ne b hp,by have:=longV_bd ba (by decide); omega,lOf_norm hp,bl.mono (by decide)⟩
set_option maxRecDepth 100000 in
set_option maxHeartbeats 1000000 in
theorem vector_Length {n:Nat} (p:P3) (h:B3 n p) (hn:6*n+2≤300) (hs:Bd 16 p.sq) (w:World) (hE:Env w) :
  Calls Tryz.prog 123 #[V3 p] w fun e w'=>∃ v,e=.returned (.tuple #[v,.int .i64 0])∧Q w w'∧LenAt w' w.heap.size v p.sq:=by
 have HC:=LH (fun w hw=>vector_Check p h (by omega) w hw)
 have HD:=LH (fun w hw=>vector_dot p h hn w hw)
 have h0:=P3.sq_nonneg p
 have h0':0≤p.sq.num:=Rat.num_nonneg.2 h0
 unfold V3 at *
 clear h h0
 generalize p.sq=s at *
 by_cases hz:s.num=0
 ·have e0:s=0:=Rat.num_eq_zero.1 hz
  subst e0
  have HN:=LH (fun w hw=>root_Normal_zero w hw)
  have HL:=LH (show ∀ w':World,LenAt w' w.heap.size (.slice none 0 0) 0 from fun w'=>.inl ⟨rfl,rfl⟩)
  clear hz h0' hs
  generalize rstr 0=S at *
  generalize rstr p.x=U at *
  generalize rstr p.y=V at *
  generalize rstr p.z=T at *
  go_enter Tryz.func123,Tryz.ntmps123
  have hQ0:=Q.refl w
  go_wp2_with fail
  refine (HC.out _ (hE.ofQ bt)).mono ?_
  rintro e w1 ⟨rfl,hq1⟩
  have hs1:Q w w1:=Q.trans bt hq1
  have hQ1:Q w w1:=Q.trans hQ0 hs1
  have A:=(Blk.new w [.string ⟨U.toArray⟩,.string ⟨V.toArray⟩,.string ⟨T.toArray⟩] 57).keep hq1 (by first | (simp; done) | (simp; omega))
  replace a0:=A.cell 0
  replace a1:=A.cell 1
  replace a2:=A.cell 2
  simp only [zs4,zs5] at a0 a1 a2
  replace lA:=A.lt
  go_wp2_with fail
  refine (HD.out _ (hE.ofQ bt)).mono ?_
  rintro e w2 ⟨rfl,hq2⟩
  have hs2:Q w1 w2:=Q.trans bt hq2
  have hQ2:Q w w2:=Q.trans hQ1 hs2
  replace A:=A.keep hs2 A.lt
  replace a0:=A.cell 0
  replace a1:=A.cell 1
  replace a2:=A.cell 2
  simp only [zs4,zs5] at a0 a1 a2
  replace lA:=A.lt
  clear A lA a0 a1 a2
  go_wp2_with fail
  refine (HN.out _ (hE.ofQ bt)).mono ?_
  rintro e w3 ⟨rfl,hq3⟩
  have hs3:Q w2 w3:=Q.trans bt hq3
  have hQ3:Q w w3:=Q.trans hQ2 hs3
  go_wp2
  go_ret2
  exact ⟨_,rfl,bt,HL.out _⟩
 ·have hp:0<s.num:=by omega
  have hn0:=fun w hw=>root_Normal s (hs.root90 (by decide)) hp w hw
  have ht:=term_of hs hp
  have hL:∀ w' v,Surd1 w' w.heap.size v (aOf s) (leftOf s)→LenAt w' w.heap.size v s:=fun w' v h=>.inr ⟨hp,h⟩
  have HL:=LH hL
  have hK:∀ B v w,Env w→Surd1 w B v (aOf s) (leftOf s)→_:=fun B v w hw hv=>surd_Check_one (aOf s) (leftOf s) ht B v w hw hv
  have HK:=LH hK
  rw [show Rat.divInt (normM (s.num.toNat*s.den)).1 s.den=aOf s from rfl,show (normM (s.num.toNat*s.den)).2=leftOf s from rfl] at hn0
  have HN:=LH hn0
  have hcz:(rstr (aOf s) == [48])=false:=by
   rw [beq_eq_false_iff_ne,← rstr_zero]; exact fun h=>ht.ne (rstr_inj h)
  clear hz h0' hs hn0 ht hp hK hL
  unfold Surd1 at *
  generalize rstr (aOf s)=C at *
  generalize Lib.itoa (leftOf s:Int)=N at *
  generalize rstr s=S at *
  generalize rstr p.x=U at *
  generalize rstr p.y=V at *
  generalize rstr p.z=T at *
  go_enter Tryz.func123,Tryz.ntmps123
  have hQ0:=Q.refl w
  go_wp2_with fail
  refine (HC.out _ (hE.ofQ bt)).mono ?_
  rintro e w1 ⟨rfl,hq1⟩
  have hs1:Q w w1:=Q.trans bt hq1
  have hQ1:Q w w1:=Q.trans hQ0 hs1
  have A:=(Blk.new w [.string ⟨U.toArray⟩,.string ⟨V.toArray⟩,.string ⟨T.toArray⟩] 57).keep hq1 (by first | (simp; done) | (simp; omega))
  replace a0:=A.cell 0
  replace a1:=A.cell 1
  replace a2:=A.cell 2
  simp only [zs4,zs5] at a0 a1 a2
  replace lA:=A.lt
  go_wp2_with fail
  refine (HD.out _ (hE.ofQ bt)).mono ?_
  rintro e w2 ⟨rfl,hq2⟩
  have hs2:Q w1 w2:=Q.trans bt hq2
  have hQ2:Q w w2:=Q.trans hQ1 hs2
  replace A:=A.keep hs2 A.lt
  replace a0:=A.cell 0
  replace a1:=A.cell 1
  replace a2:=A.cell 2
  simp only [zs4,zs5] at a0 a1 a2
  replace lA:=A.lt
  clear A lA a0 a1 a2
  go_wp2_with fail
  refine (HN.out _ (hE.ofQ bt)).mono ?_
  rintro e w3 ⟨rfl,hq3⟩
  have hs3:Q w2 w3:=Q.trans bt hq3
  have hQ3:Q w w3:=Q.trans hQ2 hs3
  have S1:=World.ownsRow_lit (base:=w.heap.size) (e:=225) (size:=2) w3 #[.string ⟨C.toArray⟩,.string ⟨N.toArray⟩] 1 hQ3.size (by decide) rfl
  go_wp2_with fail
  refine (HK.out _ _ _ (hE.ofQ bt) S1).mono ?_
  rintro e w4 ⟨rfl,hq4⟩
  have hs4:Q w3 w4:=Q.trans bt hq4
  have hQ4:Q w w4:=Q.trans hQ3 hs4
  have S2:=HL.out _ _ (ownsRow_keep S1 hq4)
  go_wp2
  go_ret2
  exact ⟨_,rfl,bt,S2⟩
set_option maxHeartbeats 400000 in
theorem true_Length1 (U V T:Str) (w:World) :
  Calls Tryz.prog 93 #[.agg #[.string ⟨U.toArray⟩,.string ⟨V.toArray⟩,.string ⟨T.toArray⟩]] w fun e w'=>e=.returned (.agg #[.string ⟨U.toArray⟩,.string ⟨V.toArray⟩,.string ⟨T.toArray⟩])∧Q w w':=by
 go_enter Tryz.func93,Tryz.ntmps93
 go_wp2
 have BB:=Blk.new1 w (.cells #[.string ⟨U.toArray⟩,.string ⟨V.toArray⟩,.string ⟨T.toArray⟩] 57) [.string ⟨U.toArray⟩,.string ⟨V.toArray⟩,.string ⟨T.toArray⟩] 57
 refine bodyPost_ret (v:=.agg #[.string ⟨U.toArray⟩,.string ⟨V.toArray⟩,.string ⟨T.toArray⟩]) (ret_c3 Tryz.results93 (.inl rfl) _ _ (w.heap.size+1) _ _ _ rfl (BB.cell 0) (BB.cell 1) (BB.cell 2)) rfl ⟨rfl,bt⟩
set_option maxRecDepth 100000 in
set_option maxHeartbeats 1000000 in
theorem true_of (K:Nat) (HK:∀ args w,(callFunc K args).run Tryz.prog w=.ok (.enter K args) w) (g:P3→P3)
  (HG:∀ d w,Calls Tryz.prog K #[V3 d] w fun e w'=>e=.returned (V3 (g d))∧Q w w') {m:Nat} (hm6:6*m+2≤300)
  {n:Nat} (k W D:Int) (hm:MOk k W D) (f t:P3) (hf:B3 n f) (ht:B3 n t) (hn:n≤36) (hne:f≠t) (w:World) (hE:Env w) (hd:B3 m (g (t.sub f))) (hs:Bd 16 (g (t.sub f)).sq) :
  Calls Tryz.prog 94 #[.agg #[.func (.func K) #[] #[]],VM k W D f t] w fun e w'=>∃ v,e=.returned (.tuple #[v,.int .i64 0])∧Q w w'∧LenAt w' w.heap.size v (g (t.sub f)).sq:=by
 have HS:=LH (fun w hw=>true_direction k W D hm f t hf ht hn hne w hw)
 have HL:=LH (fun w hw=>vector_Length (g (t.sub f)) hd hm6 hs w hw)
 have HP:=LH (fun w=>HG (t.sub f) w)
 unfold VM V3 at *
 clear hm hf ht hne hd hs HG
 generalize (g (t.sub f)).sq=s at *
 generalize rstr (g (t.sub f)).x=U2 at *
 generalize rstr (g (t.sub f)).y=V2 at *
 generalize rstr (g (t.sub f)).z=T2 at *
 generalize rstr (t.sub f).x=U at *
 generalize rstr (t.sub f).y=V at *
 generalize rstr (t.sub f).z=T at *
 generalize rstr f.x=X at *
 generalize rstr f.y=Y at *
 generalize rstr f.z=Z at *
 generalize rstr t.x=X' at *
 generalize rstr t.y=Y' at *
 generalize rstr t.z=Z' at *
 go_enter Tryz.func94,Tryz.ntmps94
 have hQ0:=Q.refl w
 go_wp2_with fail
 refine (HS.out _ (hE.ofQ bt)).mono ?_
 rintro e w1 ⟨rfl,hq1⟩
 have hs1:Q w w1:=Q.trans bt hq1
 have hQ1:Q w w1:=Q.trans hQ0 hs1
 have A:=((Blk.new w [.func (.func K) #[] #[]] 150).alloc (.cells #[.int .i64 k,.int .i64 0,.int .i64 (-1),.string ⟨X.toArray⟩,.string ⟨Y.toArray⟩,.string ⟨Z.toArray⟩,.string ⟨X'.toArray⟩,.string ⟨Y'.toArray⟩,.string ⟨Z'.toArray⟩,.int .i64 W,.int .i64 D] 59)).keep hq1 (by first | (simp; done) | (simp; omega))
 replace a0:=A.cell 0
 simp only [List.getElem?_cons_zero] at a0
 replace lA:=A.lt
 go_wp2_with fail
 refine (HP.out _).mono ?_
 rintro e w2 ⟨rfl,hq2⟩
 have hs2:Q w1 w2:=Q.trans bt hq2
 have hQ2:Q w w2:=Q.trans hQ1 hs2
 replace A:=A.keep hs2 A.lt
 replace a0:=A.cell 0
 simp only [List.getElem?_cons_zero] at a0
 replace lA:=A.lt
 clear A lA a0
 go_wp2_with fail
 refine (HL.out _ (hE.ofQ bt)).mono ?_
 rintro e w3 ⟨v,rfl,hq3,hl⟩
 have hs3:Q w2 w3:=Q.trans bt hq3
 have hQ3:Q w w3:=Q.trans hQ2 hs3
 go_wp2
 go_ret2
 exact ⟨_,rfl,bt,hl.mono hQ2.size⟩
theorem enter_len1:∀ args w,(callFunc 93 args).run Tryz.prog w=.ok (.enter 93 args) w:=fun _ _=>by kernel_rfl
set_option maxRecDepth 100000 in
set_option maxHeartbeats 1000000 in
theorem true_Length {m:Nat} (hm6:6*m+2≤300) {n:Nat} (k W D:Int) (hm:MOk k W D) (f t:P3) (hf:B3 n f) (ht:B3 n t) (hn:n≤36) (hne:f≠t) (w:World) (hE:Env w) (hd:B3 m (t.sub f)) (hs:Bd 16 (t.sub f).sq) :
  Calls Tryz.prog 67 #[VM k W D f t] w fun e w'=>∃ v,e=.returned (.tuple #[v,.int .i64 0])∧Q w w'∧LenAt w' w.heap.size v (t.sub f).sq:=by
 have HS:=LH (fun w hw=>true_of 93 enter_len1 id (fun d w=>true_Length1 _ _ _ w) hm6 k W D hm f t hf ht hn hne w hw hd hs)
 unfold VM at *
 clear hm hf ht hne hd hs
 simp only [id] at HS
 generalize (t.sub f).sq=s at *
 generalize rstr f.x=X at *
 generalize rstr f.y=Y at *
 generalize rstr f.z=Z at *
 generalize rstr t.x=X' at *
 generalize rstr t.y=Y' at *
 generalize rstr t.z=Z' at *
 go_enter Tryz.func67,Tryz.ntmps67
 have hQ0:=Q.refl w
 go_wp2_with fail
 refine (HS.out _ (hE.ofQ bt)).mono ?_
 rintro e w1 ⟨v,rfl,hq1,hl⟩
 have hs1:Q w w1:=Q.trans bt hq1
 have hQ1:Q w w1:=Q.trans hQ0 hs1
 go_wp2
 go_ret2
 exact ⟨_,rfl,bt,hl.mono (by first | (simp; done) | (simp; omega))⟩
end
section
open Go.RowKit Kp
open Go.Lib (decDigits)
end
end Go.Proofs.YtohlpeicpoaanaaGreatDoor
