/-
  CD CE CF SqM CG CH LSquares, one behind the other (what SD leaves).
-/
import Derived.Test.YtbpghkdadajomaaGreatDoorSD
set_option maxRecDepth 100000
set_option maxHeartbeats 2000000
namespace Go.Proofs.YtbpghkdadajomaaGreatDoor
section
open Go.RowKit Kp
open Go.Lib (decDigits)
theorem zjq(l:Nat)(hl:zg6 l)(hb:Bd 40 (l:Rat))(w:World)(hE:Env w) :
  Calls Tryz.prog 138 #[.string ⟨(Lib.itoa (l:Int)).toArray⟩] w fun e w'=>e=.returned (.tuple #[.string ⟨#[49]⟩,.string ⟨(Lib.itoa (l:Int)).toArray⟩,.int .i64 0])∧Q w w':=by
 have h:=zfR (l:Rat) (hb.root90 (by decide)) (by rw[Rat.num_natCast];have:=hl.1;omega) w hE
 rw[zaO,Rat.num_natCast,Rat.den_natCast,Int.toNat_natCast,Nat.mul_one,hl.2]at h
 rw[show Rat.divInt ((1:Nat):Int) ((1:Nat):Int)=1 by rfl,zcJ]at h
 exact h
theorem zjv(x:Rat)(l:Nat)(hx:zav x=false)(hx0:x≠0)(k60:za5 x≤60)(hl:zg6 l)(hb:Bd 40 (l:Rat))(hl1:l=1)(w:World)(hE:Env w) :
  Calls Tryz.prog 91 #[.agg #[.string ⟨(ze x).toArray⟩,.string ⟨(Lib.itoa (l:Int)).toArray⟩]] w fun e w'=>e=.returned (.int .i64 0)∧Q w w':=by
 have hlr:zav (l:Rat)=false:=hb.zav (by decide)
 have k40:za5 (l:Rat)≤40:=za7 hb (by decide)
 have HC1:=LH (fun w hw=>zw x hx w hw)
 have hc2:=fun w hw=>zw (l:Rat) hlr w hw
 have HL1:=LH (fun w hw=>zW x hx w hw)
 have hl2:=fun w hw=>zW (l:Rat) hlr w hw
 rw[zaO]at hc2 hl2
 have HC2:=LH hc2
 have HL2:=LH hl2
 have HN:=LH (fun w hw=>zjq l hl hb w hw)
 have hp:=hl.1
 have hz:(ze x == [48])=false:=by
  rw[beq_eq_false_iff_ne,← zah];exact fun h=>hx0 (zaJ h)
 have hlz:(Lib.itoa (l:Int) == [48])=false:=by
  rw[beq_eq_false_iff_ne,← zO];exact fun h=>by have:=zan h;omega
 have hlo:(Lib.itoa (l:Int) == [49])=true:=by
  subst hl1;rw[show ((1:Nat):Int)=1 from rfl,zaa];rfl
 have hm:decide ((Lib.itoa (l:Int)).head? = some 45)=false:=by
  rw[itoa_nonneg (by omega),decide_eq_false_iff_not];exact zy _
 have hs:zac (Lib.itoa (l:Int))=false:=zcP _
 have hlen:(Lib.itoa (l:Int)).length≤301:=zab _ (by have:=(zA hlr).1;rwa[Rat.num_natCast]at this)
 have HH:=LH (fun w=>zL (Lib.itoa (l:Int)) w)
 have HS:=LH (fun w hw=>zec (Lib.itoa (l:Int)) (by omega) w hw)
 rw[hm]at HH
 have n1:=zV x
 have n2:=zV (l:Rat)
 clear hc2 hl2 hx hx0 hl hb hlr hl1 hm
 generalize za5 x=v1 at *
 generalize za5 (l:Rat)=v2 at *
 generalize ze x=X at *
 generalize Lib.itoa (l:Int)=L at *
 go_enter Tryz.func91,Tryz.ntmps91
 go_wp2_with fail
 have B0:=Blk.new w [.string ⟨X.toArray⟩,.string ⟨L.toArray⟩] 84
 have hQ0:Q w (w.alloc (.cells [.string ⟨X.toArray⟩,.string ⟨L.toArray⟩].toArray 84)):=(Below.refl _ w).alloc (Nat.le_refl _) _
 refine(HC1.out _ (hE.q hQ0)).mono ?_
 rintro e w1⟨rfl,hq1⟩
 have hQ1:=Q.trans hQ0 hq1
 have B1:=B0.keep hq1 B0.lt
 have c0:=B1.cell 0
 have c1:=B1.cell 1
 simp only[zs4,zs5]at c0 c1
 go_wp2_with fail
 clear c0 c1
 refine(HC2.out _ (hE.q hQ1)).mono ?_
 rintro e w2⟨rfl,hq2⟩
 have hQ2:=Q.trans hQ1 hq2
 have B2:=B1.keep hq2 B1.lt
 have c0:=B2.cell 0
 have c1:=B2.cell 1
 simp only[zs4,zs5]at c0 c1
 go_wp2_with fail
 clear c0 c1
 refine(HL1.out _ (hE.q hQ2)).mono ?_
 rintro e w3⟨rfl,hq3⟩
 have hQ3:=Q.trans hQ2 hq3
 have B3:=B2.keep hq3 B2.lt
 have c0:=B3.cell 0
 have c1:=B3.cell 1
 simp only[zs4,zs5]at c0 c1
 go_wp2_with fail
 clear c0 c1
 refine(HL2.out _ (hE.q hQ3)).mono ?_
 rintro e w4⟨rfl,hq4⟩
 have hQ4:=Q.trans hQ3 hq4
 have B4:=B3.keep hq4 B3.lt
 have c0:=B4.cell 0
 have c1:=B4.cell 1
 simp only[zs4,zs5]at c0 c1
 go_wp2
 go_ret
 exact⟨rfl,hQ4⟩
theorem zib(x:Rat)(l:Nat)(hx:zav x=false)(hx0:x≠0)(k60:za5 x≤60)(hl:zg6 l)(hb:Bd 40 (l:Rat))(hl1:l≠1)(w:World)(hE:Env w) :
  Calls Tryz.prog 91 #[.agg #[.string ⟨(ze x).toArray⟩,.string ⟨(Lib.itoa (l:Int)).toArray⟩]] w fun e w'=>e=.returned (.int .i64 0)∧Q w w':=by
 have hlr:zav (l:Rat)=false:=hb.zav (by decide)
 have k40:za5 (l:Rat)≤40:=za7 hb (by decide)
 have HC1:=LH (fun w hw=>zw x hx w hw)
 have hc2:=fun w hw=>zw (l:Rat) hlr w hw
 have HL1:=LH (fun w hw=>zW x hx w hw)
 have hl2:=fun w hw=>zW (l:Rat) hlr w hw
 rw[zaO]at hc2 hl2
 have HC2:=LH hc2
 have HL2:=LH hl2
 have HN:=LH (fun w hw=>zjq l hl hb w hw)
 have hp:=hl.1
 have hz:(ze x == [48])=false:=by
  rw[beq_eq_false_iff_ne,← zah];exact fun h=>hx0 (zaJ h)
 have hlz:(Lib.itoa (l:Int) == [48])=false:=by
  rw[beq_eq_false_iff_ne,← zO];exact fun h=>by have:=zan h;omega
 have hlo:(Lib.itoa (l:Int) == [49])=false:=by
  rw[beq_eq_false_iff_ne,← zaa];exact fun h=>by have:=zan h;omega
 have hm:decide ((Lib.itoa (l:Int)).head? = some 45)=false:=by
  rw[itoa_nonneg (by omega),decide_eq_false_iff_not];exact zy _
 have hs:zac (Lib.itoa (l:Int))=false:=zcP _
 have hlen:(Lib.itoa (l:Int)).length≤301:=zab _ (by have:=(zA hlr).1;rwa[Rat.num_natCast]at this)
 have HH:=LH (fun w=>zL (Lib.itoa (l:Int)) w)
 have HS:=LH (fun w hw=>zec (Lib.itoa (l:Int)) (by omega) w hw)
 rw[hm]at HH
 have n1:=zV x
 have n2:=zV (l:Rat)
 clear hc2 hl2 hx hx0 hl hb hlr hl1 hm
 generalize za5 x=v1 at *
 generalize za5 (l:Rat)=v2 at *
 generalize ze x=X at *
 generalize Lib.itoa (l:Int)=L at *
 go_enter Tryz.func91,Tryz.ntmps91
 go_wp2_with fail
 have B0:=Blk.new w [.string ⟨X.toArray⟩,.string ⟨L.toArray⟩] 84
 have hQ0:Q w (w.alloc (.cells [.string ⟨X.toArray⟩,.string ⟨L.toArray⟩].toArray 84)):=(Below.refl _ w).alloc (Nat.le_refl _) _
 refine(HC1.out _ (hE.q hQ0)).mono ?_
 rintro e w1⟨rfl,hq1⟩
 have hQ1:=Q.trans hQ0 hq1
 have B1:=B0.keep hq1 B0.lt
 have c0:=B1.cell 0
 have c1:=B1.cell 1
 simp only[zs4,zs5]at c0 c1
 go_wp2_with fail
 clear c0 c1
 refine(HC2.out _ (hE.q hQ1)).mono ?_
 rintro e w2⟨rfl,hq2⟩
 have hQ2:=Q.trans hQ1 hq2
 have B2:=B1.keep hq2 B1.lt
 have c0:=B2.cell 0
 have c1:=B2.cell 1
 simp only[zs4,zs5]at c0 c1
 go_wp2_with fail
 clear c0 c1
 refine(HL1.out _ (hE.q hQ2)).mono ?_
 rintro e w3⟨rfl,hq3⟩
 have hQ3:=Q.trans hQ2 hq3
 have B3:=B2.keep hq3 B2.lt
 have c0:=B3.cell 0
 have c1:=B3.cell 1
 simp only[zs4,zs5]at c0 c1
 go_wp2_with fail
 clear c0 c1
 refine(HL2.out _ (hE.q hQ3)).mono ?_
 rintro e w4⟨rfl,hq4⟩
 have hQ4:=Q.trans hQ3 hq4
 have B4:=B3.keep hq4 B3.lt
 have c0:=B4.cell 0
 have c1:=B4.cell 1
 simp only[zs4,zs5]at c0 c1
 go_wp2_with fail
 refine(HH.out _).mono ?_
 rintro e w5⟨rfl,rfl⟩
 go_wp2_with fail
 refine(HS.out _ (hE.q hQ4)).mono ?_
 rintro e w5⟨rfl,rfl⟩
 rw[hs]
 clear c0 hs
 go_wp2_with fail
 clear c1
 refine(HN.out _ (hE.q hQ4)).mono ?_
 rintro e w5⟨rfl,hq5⟩
 have hQ5:=Q.trans hQ4 hq5
 have B5:=B4.keep hq5 B4.lt
 have c0:=B5.cell 0
 have c1:=B5.cell 1
 simp only[zs4,zs5]at c0 c1
 go_wp2
 go_ret
 exact⟨rfl,hQ5⟩
theorem zlD(x:Rat)(l:Nat)(hx:zav x=false)(hx0:x≠0)(k60:za5 x≤60)(hl:zg6 l)(hb:Bd 40 (l:Rat))(w:World)(hE:Env w) :
  Calls Tryz.prog 91 #[.agg #[.string ⟨(ze x).toArray⟩,.string ⟨(Lib.itoa (l:Int)).toArray⟩]] w fun e w'=>e=.returned (.int .i64 0)∧Q w w':=by
 by_cases h1:l=1
 ·exact zjv x l hx hx0 k60 hl hb h1 w hE
 ·exact zib x l hx hx0 k60 hl hb h1 w hE
end
section
open Go.RowKit Kp
open Go.Lib (decDigits)
def zbA(w:World)(B:Nat)(v:Value)(x:Rat)(l:Nat):Prop :=
 w.ownsRow B 84 2 v 1 [.string ⟨(ze x).toArray⟩,.string ⟨(Lib.itoa (l:Int)).toArray⟩]
structure Term1 (x:Rat) (l:Nat):Prop where
 lim:zav x=false
 ne:x≠0
 c60:za5 x≤60
 norm:zg6 l
 c40:Bd 40 (l:Rat)
theorem zbu(x:Rat)(l:Nat)(ht:Term1 x l)(B:Nat)(v:Value)(w:World)(hE:Env w)(hv:zbA w B v x l) :
  Calls Tryz.prog 42 #[v] w fun e w'=>e=.returned (.int .i64 0)∧Q w w':=by
 have HR:=LH (fun w hw=>zlD x l ht.lim ht.ne ht.c60 ht.norm ht.c40 w hw)
 unfold zbA at hv
 generalize ze x=X at *
 generalize Lib.itoa (l:Int)=L at *
 clear ht
 obtain⟨g,cap,rfl,hg1,hg2⟩:=hv.form (by omega)
 go_enter Tryz.func42,Tryz.ntmps42
 go_wp2
 go_loopw [13] (fun i wr=>∃ k:Nat,k≤1∧i=.int .i64 k∧Q w wr) (fun i _=>1 - (intOf i).toNat)
 case atStart=>exact⟨0,by omega,rfl,Q.refl _⟩
 case round =>
  obtain⟨k,hk,rfl,hQ⟩:=hrel
  rcases(show k=0∨k=1 by omega)with rfl | rfl
  ·have hrow:=zi hv hQ
   have e0:=hrow.cellAt 0 (by omega)
   have e1:=hrow.cellAt 1 (by omega)
   simp only[zs4,zs5]at e0 e1
   go_wp2_with fail
   refine(HR.out _ (hE.q (hQ.alloc hQ.size _))).mono ?_
   rintro e w1⟨rfl,hq1⟩
   have hQ1:=Q.trans (hQ.alloc hQ.size _) hq1
   clear e0 e1
   go_wp2
   go_roundw
   case rel=>exact⟨1,by omega,by go_num,hQ1⟩
   case measure=>simp[intOf]
  ·go_wp2
   go_ret
   exact⟨rfl,hQ⟩
theorem zgj(x y:Rat)(l m:Nat)(hx:Term1 x l)(hy:Term1 y m)(B1 B2:Nat)(v1 v2:Value)(w:World)(hE:Env w)(h1:zbA w B1 v1 x l)(h2:zbA w B2 v2 y m) :
  Calls Tryz.prog 39 #[v1,v2] w fun e w'=>e=.returned (.bool true)∧Q w w':=by
 have HC1:=LH (zbu x l hx B1 v1 w hE h1)
 have HC2:=LH (fun w' (hq:Q w w')=>zbu y m hy B2 v2 w' (hE.q hq) (zi h2 hq))
 unfold zbA at h1 h2
 obtain⟨g1,c1,rfl,-,-⟩:=h1.form (by omega)
 obtain⟨g2,c2,rfl,-,-⟩:=h2.form (by omega)
 clear hx hy h1 h2
 go_enter Tryz.func39,Tryz.ntmps39
 go_wp2_with fail
 refine HC1.out.mono ?_
 rintro e w1⟨rfl,hq1⟩
 go_wp2_with fail
 refine(HC2.out _ hq1).mono ?_
 rintro e w2⟨rfl,hq2⟩
 have hQ2:=Q.trans hq1 hq2
 go_wp2
 go_ret
 exact⟨rfl,hQ2⟩
theorem zjy(x:Rat)(hx:Term1 x 1)(B:Nat)(v:Value)(w:World)(hE:Env w)(hv:zbA w B v x 1) :
  Calls Tryz.prog 12 #[v] w fun e w'=>e=.returned (.tuple #[.string ⟨(ze x).toArray⟩,.bool true,.int .i64 0])∧Q w w':=by
 have HC:=LH (zbu x 1 hx B v w hE hv)
 unfold zbA at hv
 rw[show ((1:Nat):Int)=1 from rfl,zaa]at hv
 obtain⟨g,cap,rfl,hg1,hg2⟩:=hv.form (by omega)
 generalize ze x=X at *
 clear hx
 go_enter Tryz.func12,Tryz.ntmps12
 go_wp2_with fail
 refine HC.out.mono ?_
 rintro e w1⟨rfl,hq1⟩
 have hrow:=zi hv hq1
 have e0:=hrow.cellAt 0 (by omega)
 have e1:=hrow.cellAt 1 (by omega)
 simp only[zs4,zs5]at e0 e1
 go_wp2
 go_ret3
 exact⟨rfl,hq1⟩
end
section
open Go.RowKit Kp
open Go.Lib (decDigits)
theorem zlF{a b:Nat}(x y:Rat)(l m:Nat)(hx:Term1 x l)(hy:Term1 y m)(ba:Bd a x)(bb:Bd b y)(hab:a+b≤200)(bl:Bd 21 (l:Rat))(bm:Bd 21 (m:Rat))(B1 B2:Nat)(v1 v2:Value)(w:World)(hE:Env w)(h1:zbA w B1 v1 x l)(h2:zbA w B2 v2 y m) :
  Calls Tryz.prog 9 #[v1,v2] w (zcH w (x*y*aOf ((l:Rat)*(m:Rat))) (lOf ((l:Rat)*(m:Rat)))):=by
 have HB:=LH (zgj x y l m hx hy B1 B2 v1 v2 w hE h1 h2)
 have HM1:=LH (fun w hw=>zai x y ba bb (by omega) w hw)
 have hm2:=fun w hw=>zai (l:Rat) (m:Rat) bl bm (by decide) w hw
 have hne:x*y≠0:=fun e=>by
  rcases Rat.mul_eq_zero.1 e with h | h
  ·exact hx.ne h
  ·exact hy.ne h
 have hpos:0<((l:Rat)*(m:Rat)).num:=by
  rw[← Rat.natCast_mul,Rat.num_natCast]
  have:=Nat.mul_pos hx.norm.1 hy.norm.1
  omega
 have HMK:=LH (fun(rest:List Value) (cap b:Nat) t w hw hb=>zb0 (rest:=rest) (cap:=cap) (x*y) ((l:Rat)*(m:Rat)) (ba.mul bb) (by omega) hne (bl.mul bm) hpos b t w hw hb)
 unfold zbA at h1 h2
 rw[zaO,zaO]at hm2
 have HM2:=LH hm2
 clear hm2 hx hy ba bb bl bm hne hpos
 generalize x*y*aOf ((l:Rat)*(m:Rat))=X at *
 generalize lOf ((l:Rat)*(m:Rat))=Y at *
 generalize ze (x*y)=P at *
 generalize ze ((l:Rat)*(m:Rat))=R at *
 generalize ze x=sx at *
 generalize ze y=sy at *
 generalize Lib.itoa (l:Int)=sl at *
 generalize Lib.itoa (m:Int)=sm at *
 obtain⟨g1,c1,rfl,k1,k2⟩:=h1.form (by omega)
 obtain⟨g2,c2,rfl,k3,k4⟩:=h2.form (by omega)
 obtain⟨i0,hi,hz0,hz1,hz2⟩:=zbs zcu
 have HI:=LH hi
 have HZ:=LH hz0
 have HS:=LH hz1
 have HBy:=LH hz2
 clear hi hz0 hz1 hz2
 go_enter Tryz.func9,Tryz.ntmps9
 go_wp2_with fail
 refine HB.out.mono ?_
 rintro e w1⟨rfl,hq1⟩
 clear HB
 go_wp2
 go_loopw [6,20] (fun o i wr=>Q w wr∧((o=.slice none 0 0∧i=.int .i64 0)∨(i=.int .i64 1∧wr.ownsRow w.heap.size 84 2 o 1 [.string ⟨P.toArray⟩,.string ⟨R.toArray⟩]))) (fun _ i _=>1 - (intOf i).toNat)
 case atStart=>exact⟨hq1,.inl ⟨rfl,rfl⟩⟩
 case round =>
  obtain⟨hQ,⟨rfl,rfl⟩|⟨rfl,hout⟩⟩:=hrel
  ·have hrow:=zi h1 hQ
   have e0:=hrow.cellAt 0 (by omega)
   have e1:=hrow.cellAt 1 (by omega)
   simp only[zs4,zs5]at e0 e1
   have T8:=Blk.new wr [.string ⟨sx.toArray⟩,.string ⟨sl.toArray⟩] 84
   have hQa:Q wr (wr.alloc (.cells [.string ⟨sx.toArray⟩,.string ⟨sl.toArray⟩].toArray 84)):=(Below.refl _ wr).alloc (Nat.le_refl _) _
   go_wp2
   go_loopw [6,26] (fun o i wr2=>Q (wr.alloc (.cells [.string ⟨sx.toArray⟩,.string ⟨sl.toArray⟩].toArray 84)) wr2∧((o=.slice none 0 0∧i=.int .i64 0)∨(i=.int .i64 1∧wr2.ownsRow w.heap.size 84 2 o 1 [.string ⟨P.toArray⟩,.string ⟨R.toArray⟩]))) (fun _ i _=>1 - (intOf i).toNat)
   case atStart=>exact⟨Q.refl _,.inl ⟨rfl,rfl⟩⟩
   case round =>
    clear e0 e1
    obtain⟨hQ2,⟨rfl,rfl⟩|⟨rfl,hout⟩⟩:=hrel
    ·have hQ3:=Q.trans hQ (Q.trans hQa hQ2)
     have t8:=T8.keep hQ2 T8.lt
     have row2:=zi h2 hQ3
     have f0:=row2.cellAt 0 (by omega)
     have f1:=row2.cellAt 1 (by omega)
     have b0:=t8.cell 0
     have b1:=t8.cell 1
     have lt8:=t8.lt
     simp only[zs4,zs5]at f0 f1 b0 b1
     have hq0:=hQ3.alloc hQ3.size (Obj.cells [.string ⟨sy.toArray⟩,.string ⟨sm.toArray⟩].toArray 84)
     have T10:=Blk.new wr [.string ⟨sy.toArray⟩,.string ⟨sm.toArray⟩] 84
     go_wp2_with fail
     refine(HM1.out _ (hE.q hq0)).mono ?_
     rintro e w3⟨rfl,hq3⟩
     have hQ4:=Q.trans hq0 hq3
     have u8:=(t8.alloc (Obj.cells [.string ⟨sy.toArray⟩,.string ⟨sm.toArray⟩].toArray 84)).keep hq3 (by simp;omega)
     have u10:=T10.keep hq3 (by simp)
     have p0:=u8.cell 1
     have p1:=u10.cell 1
     simp only[zs4,zs5]at p0 p1
     clear f0 f1 b0 b1 hq0 T10
     go_wp2_with fail
     refine(HM2.out _ (hE.q hQ4)).mono ?_
     rintro e w4⟨rfl,hq4⟩
     have hQ5:=Q.trans hQ4 hq4
     have hnew:=Blk.new w4 [.string ⟨P.toArray⟩,.string ⟨R.toArray⟩] 84
     have hsz3:w.heap.size≤w4.heap.size:=hQ5.size
     have hZ:=Q.trans hQ2 (Q.trans ((Below.refl _ wr).alloc (Nat.le_refl _) (Obj.cells [.string ⟨sy.toArray⟩,.string ⟨sm.toArray⟩].toArray 84)) (Q.trans hq3 hq4))
     clear p0 p1 HM1 HM2
     go_wp2_with (at_builtin;refine wpList_append_lies _ (by rfl) (.tmp 52) (.tmp 56) 45 (by rfl) w.heap.size 84 i0 _ 2 32 Tryz.underlying45 HI.out HZ.out HS.out HBy.out rfl (by decide) (.slice none 0 0) 0 [] (by rfl) (World.ownsRow_nil _ _ _ _) ⟨w4.heap.size,0,none⟩ 1 1 [.string ⟨P.toArray⟩,.string ⟨R.toArray⟩] (by rfl) (by rfl) (World.news_of_block (cs:=#[.string ⟨P.toArray⟩,.string ⟨R.toArray⟩]) (t:=84) (fr:=(0,0)) hnew) (by simp[Value.oneCell']) (by decide) (by decide) (by decide) (by simp;omega) (w4.heap.size+1) (by simp) ?_;intro g4 cap4 w5 hown4 hgrow4 hat4 hlt4)
     go_roundw
     case rel =>
      exact⟨(hZ.alloc hZ.size _).grown hgrow4 (by have:=hZ.size;simp at this ⊢;omega) (by simp[Value.ownBlock]),.inr ⟨rfl,hown4⟩⟩
     case measure=>simp[intOf]
    ·have hQ3:=Q.trans hQ (Q.trans hQa hQ2)
     go_wp2
     go_roundw
     case rel=>exact⟨hQ3,.inr ⟨rfl,hout⟩⟩
     case measure=>simp[intOf]
  ·obtain⟨g',cap',rest,rfl,q1,hbk⟩:=zkE hout
   have HE:=LH (HMK.out rest cap' g' 84 _ (hE.q hQ) hbk)
   go_wp2_with fail
   refine HE.out.mono ?_
   rintro e w4 hend
   replace hend:=hend.base hQ
   have HEND:=LH hend
   obtain⟨hQ4,⟨a1,a2,v,rfl,hown⟩|⟨a1,rfl⟩⟩:=hend
   ·clear a1 a2 hown
    go_wp2
    go_ret2
    exact HEND.out
   ·clear a1
    go_wp2
    go_ret2
    exact HEND.out
end
end Go.Proofs.YtbpghkdadajomaaGreatDoor
namespace Kp
theorem zpV{c r l:Nat}(hc:0<c)(h:c*c*l=r*r):∃ t,r=c*t∧l=t*t:=by
 have h1:c*c ∣ r*r:=⟨l,h.symm⟩
 have h2:c ∣ r:=by
  have:=(Nat.pow_dvd_pow_iff (a:=c) (b:=r) (n:=2) (by decide)).1 (by rw[Nat.pow_two,Nat.pow_two];exact h1)
  exact this
 obtain⟨t,ht⟩:=h2
 refine⟨t,ht,?_⟩
 have h3:c*c*l=c*c*(t*t):=by rw[h,ht];grind
 exact Nat.eq_of_mul_eq_mul_left (Nat.mul_pos hc hc) h3
theorem zqp{r:Nat}(hr:0<r):zaG (r*r)=(r,1):=by
 obtain⟨a,b,d,f⟩:=zck zJ zd2 1 (r*r) (Nat.mul_pos hr hr) (by decide)
 unfold zaG
 generalize (zK zJ (1,r*r)).1=c at *
 generalize (zK zJ (1,r*r)).2=l at *
 obtain⟨t,ht,hl⟩:=zpV (r:=r) b (by rw[d];simp)
 have hi:zn l=t:=zfs ⟨by omega,by rw[hl];exact Nat.mul_lt_mul_of_lt_of_lt (by omega) (by omega)⟩
 rw[hi,if_pos hl.symm,← ht]
end Kp
namespace Go.Proofs.YtbpghkdadajomaaGreatDoor
section
open Kp
theorem zri{l:Nat}(hl:0<l):aOf ((l:Rat)*(l:Rat))=l∧lOf ((l:Rat)*(l:Rat))=1:=by
 rw[← Rat.natCast_mul]
 unfold aOf lOf
 rw[Rat.num_natCast,Rat.den_natCast,Int.toNat_natCast,Nat.mul_one,zqp hl]
 have h:=Rat.num_divInt_den (l:Rat)
 rw[Rat.num_natCast,Rat.den_natCast]at h
 exact⟨h,rfl⟩
theorem zi9(s:Rat)(hs:0<s.num):(1 / s).num=s.den∧(1 / s).den=s.num.toNat:=by
 rw[zrb s hs]
 obtain⟨e1,e2⟩:=zdj (s.den:Int) s.num.toNat (by omega)
 have hg:Nat.gcd (s.den:Int).natAbs s.num.toNat=1:=by
  have h:=s.reduced
  rw[Int.natAbs_natCast,Nat.gcd_comm,show s.num.toNat=s.num.natAbs by omega];exact h
 rw[hg]at e1 e2
 refine⟨by rw[e1];simp,?_⟩
 have:((Rat.divInt (s.den:Int) (s.num.toNat:Int)).den:Int)=(s.num.toNat:Int):=by rw[e2];simp
 omega
theorem zng(s:Rat)(hs:0<s.num):∃ C L N D:Rat,N≠0∧D≠0∧C*C*L=N*D∧s*D=N∧aOf s=C / D∧aOf (1 / s)=C / N∧(leftOf s:Rat)=L:=by
 have hm:0<s.num.toNat*s.den:=Nat.mul_pos (by omega) s.den_pos
 obtain⟨h1,h2,h3,h4⟩:=zd6 hm
 have hd:=s.den_nz
 have hD:(s.den:Rat)≠0:=fun e=>hd (by exact_mod_cast e)
 have hN:(s.num.toNat:Rat)≠0:=fun e=>by
  have:s.num.toNat=0:=by exact_mod_cast e
  omega
 refine⟨((zaG (s.num.toNat*s.den)).1:Rat),(leftOf s:Rat),(s.num.toNat:Rat),(s.den:Rat),hN,hD,?_,?_,?_,?_,rfl⟩
 ·have:=congrArg (Nat.cast (R:=Rat)) h3
  unfold leftOf
  simpa[Rat.natCast_mul]using this
 ·have h5:(s.num:Rat) / ((s.den:Int):Rat)=s:=by rw[← Rat.divInt_eq_div];exact Rat.num_divInt_den s
  rw[Rat.intCast_natCast]at h5
  have h6:((s.num.toNat:Nat):Rat)=(s.num:Rat):=by
   rw[← Rat.intCast_natCast];congr 1;omega
  rw[h6]
  grind
 ·unfold aOf
  rw[Rat.divInt_eq_div,Rat.intCast_natCast,Rat.intCast_natCast]
 ·unfold aOf
  rw[(zi9 s hs).1,(zi9 s hs).2,Int.toNat_natCast,Nat.mul_comm s.den,Rat.divInt_eq_div,Rat.intCast_natCast,Rat.intCast_natCast]
end
section
open Go.RowKit Kp
open Go.Lib (decDigits)
theorem zcH.good{w:World}{x:Rat}{l:Nat}{e:Ending}{w':World}(h:zcH w x (l:Rat) e w')(ht:za5 x≤60)(hl:za5 (l:Rat)≤40) :
  Q w w'∧∃ v,e=.returned (.tuple #[v,.int .i64 0])∧zbA w' w.heap.size v x l:=by
 obtain⟨h1,⟨_,_,v,hv,ho⟩|⟨h2,_⟩⟩:=h
 ·refine⟨h1,v,hv,?_⟩
  unfold zbA;rw[zaO]at ho;exact ho
 ·omega
end
section
open Go.RowKit Kp
open Go.Lib (decDigits)
theorem zqo:zg6 1:=⟨by decide,zd7⟩
theorem nat_ne{l:Nat}(h:0<l):(l:Rat)≠0:=fun e=>by
 have:l=0:=by exact_mod_cast e
 omega
theorem zpk{x y:Rat}{l:Nat}(hx:Term1 x l)(hy:Term1 y l)(bx:Bd 20 x)(bY:Bd 20 y)(bl:Bd 16 (l:Rat)):Term1 (x*y*(l:Rat)) 1∧Bd 56 (x*y*(l:Rat)):=by
 have b:=(bx.mul bY).mul bl
 refine⟨⟨b.zav (by decide),fun e=>?_,by have:=za7 b (by decide);omega,zqo,(show Bd 40 ((1:Nat):Rat)from⟨by decide,by decide⟩)⟩,b⟩
 rcases Rat.mul_eq_zero.1 e with h | h
 ·rcases Rat.mul_eq_zero.1 h with h | h
  ·exact hx.ne h
  ·exact hy.ne h
 ·exact nat_ne hx.norm.1 h
theorem zjC(x y:Rat)(l:Nat)(hx:Term1 x l)(hy:Term1 y l)(bx:Bd 20 x)(bY:Bd 20 y)(bl:Bd 16 (l:Rat))(B1 B2:Nat)(v1 v2:Value)(w:World)(hE:Env w)(h1:zbA w B1 v1 x l)(h2:zbA w B2 v2 y l) :
  Calls Tryz.prog 9 #[v1,v2] w fun e w'=>∃ v,e=.returned (.tuple #[v,.int .i64 0])∧Q w w'∧zbA w' w.heap.size v (x*y*(l:Rat)) 1:=by
 have h:=zlF x y l l hx hy bx bY (by decide) (bl.mono (by decide)) (bl.mono (by decide)) B1 B2 v1 v2 w hE h1 h2
 rw[(zri hx.norm.1).1,(zri hx.norm.1).2]at h
 refine h.mono ?_
 intro e w' he
 obtain⟨ht,-⟩:=zpk hx hy bx bY bl
 obtain⟨hq,v,hv,hs⟩:=zcH.good (l:=1) he ht.c60 (by have:=za7 ht.c40 (by decide);omega)
 exact⟨v,hv,hq,hs⟩
theorem zjZ{w w':World}{B:Nat}{v:Value}{x:Rat}{l:Nat}(h:zbA w B v x l)(hq:Q w w'):zbA w' B v x l:=zi h hq
end
section
open Go.RowKit Kp
open Go.Lib (decDigits)
theorem zqt(w:World):(Builtin.max_ #[42,42,42,42] 42 #[.int .i64 0,.int .i64 0,.int .i64 0,.int .i64 0]).run Tryz.prog w=.ok (.int .i64 0) w:=by kernel_rfl
theorem zin{x:Int}(h:(Go.Lit.int .u8 x).wf=true):0≤x∧x≤255:=by
 have h2:(decide (IntKind.min .u8≤x) && decide (x≤IntKind.max .u8))=true:=h
 rw[show IntKind.min .u8=0 from rfl,show IntKind.max .u8=255 from rfl]at h2
 simpa using h2
end
end Go.Proofs.YtbpghkdadajomaaGreatDoor
