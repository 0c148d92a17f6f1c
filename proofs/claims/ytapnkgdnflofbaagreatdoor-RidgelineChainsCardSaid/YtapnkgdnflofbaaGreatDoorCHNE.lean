/-
  slices.Concat at two rows of integers.
-/
import Derived.Test.YtapnkgdnflofbaaGreatDoorCH05
import Derived.Test.YtapnkgdnflofbaaGreatDoorCHSU2
import Derived.Shelf.Spec.SlicesGrow
set_option maxRecDepth 100000
set_option maxHeartbeats 4000000
namespace Go.Proofs
open Go.Shelf
def Tryz.growInt_ren:Go.Shelf.Ren:=⟨fun | 4=>51 | n=>n,fun | 22=>29 | 25=>3 | 20=>20 | 9=>9 | 3=>3 | 4=>4 | 0=>0 | n=>n,fun | n=>n⟩
theorem Tryz.growInt:Go.Proofs.Lays8.n4 Tryz.prog Tryz.growInt_ren:={
 mixed:=by kernel_rfl
 f4:=⟨Tryz.f51.name,by decide,Tryz.func51.trans (congrArg some (by kernel_rfl))⟩
 t0:=Tryz.underlying0
 a0:=Tryz.isAgg0
 z0:=Tryz.sizeOf0
 v0:=Tryz.zeroValue0
 t3:=Tryz.underlying3
 a3:=Tryz.isAgg3
 z3:=Tryz.sizeOf3
 v3:=Tryz.zeroValue3
 t4:=Tryz.underlying4
 a4:=Tryz.isAgg4
 z4:=Tryz.sizeOf4
 v4:=Tryz.zeroValue4
 t9:=Tryz.underlying9
 a9:=Tryz.isAgg9
 z9:=Tryz.sizeOf9
 v9:=Tryz.zeroValue9
 t20:=Tryz.underlying20
 a20:=Tryz.isAgg20
 z20:=Tryz.sizeOf20
 v20:=Tryz.zeroValue20
 t22:=Tryz.underlying29
 a22:=Tryz.isAgg29
 z22:=Tryz.sizeOf29
 v22:=Tryz.zeroValue29 }
end Go.Proofs
namespace Go.Proofs.YtapnkgdnflofbaaGreatDoor
open Go.RowKit Go.Shelf Kp
open Go.Lib (decDigits)
attribute [local go_sem] Oper.semAt_some
theorem zqf(l:List Nat):∀ u∈ivs l,u.oneCell'=true:=fun u hu=>by
 obtain⟨n,-,rfl⟩:=List.mem_map.1 hu
 rfl
theorem zm7(a b:List Nat):ivs (a++b)=ivs a++ivs b:=by unfold ivs;rw[List.map_append]
theorem zqs(n:Nat)(hn:0<n)(hn2:n≤100000)(w:World) :
  Calls Tryz.prog 51 #[.slice none 0 0,.int .i64 n] w fun e w'=>∃ v,e=.returned v∧Q w w'∧w'.ownsRow w.heap.size 3 1 v 0 []∧∃ g cap,v=.slice (some ⟨g,0,none⟩) 0 cap:=by
 obtain⟨i0,hi,hz0,hz1,hz2⟩:=zbU zdz
 refine(Any8.slices_Grow_grow Tryz.growInt i0 _ hi hz0 (by rw[hz1];decide) none 0 0 n [] w (Nat.le_refl _) (by omega) (by rw[hz2];omega) (by omega) (by simp) (fun _=>rfl) (fun a h=>by cases h)).mono ?_
 rintro e w'⟨rfl,rfl⟩
 have hcap:Go.grownCap w (0+n) 0 3≤maxLen:=Go.grownCap_le_maxLen w (0+n) 0 _ (by unfold maxLen;omega)
 have hge:0+n≤Go.grownCap w (0+n) 0 3:=Go.grownCap_ge w _ _ _
 refine⟨_,rfl,(Below.refl _ w).drew.alloc (Nat.le_refl _) _,⟨rfl,.inr ⟨w.heap.size,_,_,rfl,Nat.le_refl _,heap_alloc_new w.drew _,Nat.zero_le _,hcap,?_,by simp⟩⟩,_,_,rfl⟩
 rw[Array.size_append,Array.size_append,size_zeroCells,size_zeroCells]
 have e2:(Value.int IntKind.i64 0).cells.size=1:=rfl
 rw[e2]
 rw[show Tryz.growInt_ren.t 25=3 from rfl]
 simp only[List.size_toArray,List.length_nil]
 omega
theorem zm9(l1 l2:List Nat)(h1:0<l1.length)(h2:0<l2.length)(n1:l1.length≤1000)(n2:l2.length≤1000)(v1 v2:Value)(B1 B2:Nat)(b:Nat)(t:TypeId)(w:World)(hb:Blk w b [v1,v2] t)(s1:w.ownsRow B1 3 1 v1 l1.length (ivs l1))(s2:w.ownsRow B2 3 1 v2 l2.length (ivs l2)) :
  Calls Tryz.prog 24 #[.slice (some ⟨b,0,none⟩) 2 2] w fun e w'=>∃ v,e=.returned v∧Q w w'∧w'.ownsRow w.heap.size 3 1 v (l1++l2).length (ivs (l1++l2)):=by
 obtain⟨b1,cap1,rfl,-,-⟩:=s1.form h1
 obtain⟨b2,cap2,rfl,-,-⟩:=s2.form h2
 have hg:=fun w=>zqs (l1.length+l2.length) (by omega) (by omega) w
 rw[Int.natCast_add]at hg
 have HG:=LH hg
 rw[List.length_append,zm7]
 have HN1:=LH (fun(W:World) (hq:Q w W) (j:Nat) (u:Value) (hu:(ivs l1)[j]? = some u)=>(zi s1 hq).cells rfl j u hu)
 have HN2:=LH (fun(W:World) (hq:Q w W) (j:Nat) (u:Value) (hu:(ivs l2)[j]? = some u)=>(zi s2 hq).cells rfl j u hu)
 clear s1 s2 hg
 have HL1:=LH (show (ivs l1).length=l1.length*1 by rw[zqg];omega)
 have HL2:=LH (show (ivs l2).length=l2.length*1 by rw[zqg];omega)
 have HO1:=LH (zqf l1)
 have HO2:=LH (zqf l2)
 generalize ivs l1=r1 at *
 generalize ivs l2=r2 at *
 generalize l1.length=m1 at *
 generalize l2.length=m2 at *
 have lb:=hb.lt
 obtain⟨i0,hi,hz0,hz1,hz2⟩:=zbU zdz
 have HI:=LH hi
 have HZ:=LH hz0
 have HS:=LH hz1
 have HBy:=LH hz2
 clear hi hz0 hz1 hz2
 have c0:=hb.cell 0
 have c1:=hb.cell 1
 simp only[zs4,zs5]at c0 c1
 have w1i:=Go.IntWalk.i64_in ((m1:Int)+(m2:Int)) (by omega)
 have w1j:=Go.IntWalk.i64_in ((0:Int)+(m1:Int)) (by omega)
 go_enter Tryz.func24,Tryz.ntmps24
 go_wp2
 go_loop [3,11] (fun sz i=>(i=.int .i64 0∧sz=.int .i64 0)∨(i=.int .i64 1∧sz=.int .i64 m1)∨(i=.int .i64 2∧sz=.int .i64 ((m1:Int)+(m2:Int)))) (fun _ i=>2 - (intOf i).toNat)
 case atStart=>exact .inl ⟨rfl,rfl⟩
 case round =>
  rcases hrel with⟨rfl,rfl⟩|⟨rfl,rfl⟩|⟨rfl,rfl⟩
  ·go_wp2
   go_round
   case rel=>exact .inr (.inl ⟨rfl,by go_num⟩)
   case measure=>simp[intOf]
  ·go_wp2
   go_round
   case rel=>exact .inr (.inr ⟨rfl,by go_num⟩)
   case measure=>simp[intOf]
  ·go_wp2_with fail
   refine(HG.out _).mono ?_
   rintro e w1⟨v,rfl,hq1,hr1,g1,gc1,rfl⟩
   clear c0 c1
   have hb1:=hb.keep hq1 lb
   go_wp2
   go_loopw [6,27] (fun o i wr=>Q w wr∧((i=.int .i64 0∧o=.slice (some ⟨g1,0,none⟩) 0 gc1∧wr.ownsRow w.heap.size 3 1 o 0 [])∨(i=.int .i64 1∧wr.ownsRow w.heap.size 3 1 o m1 r1)∨(i=.int .i64 2∧wr.ownsRow w.heap.size 3 1 o (m1+m2) (r1++r2)))) (fun _ i _=>2 - (intOf i).toNat)
   case atStart=>exact⟨hq1,.inl ⟨rfl,rfl,hr1⟩⟩
   case round =>
    obtain⟨hQ,⟨rfl,rfl,hrow⟩|⟨rfl,hrow⟩|⟨rfl,hrow⟩⟩:=hrel
    ·have hbr:=hb.keep hQ lb
     have c0:=hbr.cell 0
     simp only[List.getElem?_cons_zero]at c0
     have lbr:=hbr.lt
     go_wp2_with (at_builtin;refine wpList_append_lies _ (by rfl) (.tmp 31) (.tmp 32) 29 (by rfl) w.heap.size 3 i0 _ 1 8 Tryz.underlying29 HI.out HZ.out HS.out HBy.out rfl (by decide) (.slice (some ⟨g1,0,none⟩) 0 gc1) 0 [] (by rfl) hrow ⟨b1,0,none⟩ m1 cap1 r1 (by rfl) HL1.out (HN1.out _ hQ) HO1.out h1 (by unfold maxLen;omega) (by omega) hQ.size _ (by rfl) ?_;intro g4 cap4 w4 hown4 hgrow4 hat4 hlt4)
     go_roundw
     case rel=>exact⟨hQ.grown hgrow4 hQ.size (fun k hk=>(hrow.lt k hk).1),.inr (.inl ⟨rfl,by rw[Nat.zero_add,List.nil_append]at hown4;simpa using hown4⟩)⟩
     case measure=>simp[intOf]
    ·obtain⟨g5,gc5,rfl,-,-⟩:=hrow.form h1
     have hbr:=hb.keep hQ lb
     have c1:=hbr.cell 1
     simp only[zs4,zs5]at c1
     have lbr:=hbr.lt
     go_wp2_with (at_builtin;refine wpList_append_lies _ (by rfl) (.tmp 31) (.tmp 32) 29 (by rfl) w.heap.size 3 i0 _ 1 8 Tryz.underlying29 HI.out HZ.out HS.out HBy.out rfl (by decide) (.slice (some ⟨g5,0,none⟩) m1 gc5) m1 r1 (by rfl) hrow ⟨b2,0,none⟩ m2 cap2 r2 (by rfl) HL2.out (HN2.out _ hQ) HO2.out h2 (by unfold maxLen;omega) (by omega) hQ.size _ (by rfl) ?_;intro g4 cap4 w4 hown4 hgrow4 hat4 hlt4)
     go_roundw
     case rel=>exact⟨hQ.grown hgrow4 hQ.size (fun k hk=>(hrow.lt k hk).1),.inr (.inr ⟨rfl,hown4⟩)⟩
     case measure=>simp[intOf]
    ·go_wp2
     go_ret
     exact⟨_,rfl,hQ,hrow⟩
end Go.Proofs.YtapnkgdnflofbaaGreatDoor
