/-
  Walk of the chapter's awake.; Surds of no term: walks of package surd.
-/
import Derived.Test.YtbpghkdadajomaaGreatDoorG20
import Derived.Test.YtbpghkdadajomaaGreatDoorG09
set_option maxRecDepth 100000
set_option maxHeartbeats 4000000
namespace Go.Proofs.YtbpghkdadajomaaGreatDoor
section
open Go.RowKit Go.Shelf Kp
attribute [local go_sem] Oper.semAt_some
theorem zsG:zcp [r0]=0:=by kernel_rfl
theorem zsH:zoN m0=0:=by kernel_rfl
theorem zqw:m0.short:=⟨by decide,by decide,by decide,by decide,by decide,by decide⟩
theorem zsj:zmx [r0] m0=0:=by kernel_rfl
theorem zpx:zdW [r0] m0=40:=by kernel_rfl
theorem zru:RafPre [r0] m0 0 where
 hip:=zsH
 face:=rfl
 lt:=by decide
 gable:=rfl
theorem zsf:ofE [r0] m0=0:=by
 unfold ofE
 rw[zsj,zpx]
 decide
def x0R:Raf:=⟨45,3/4,40,8⟩
theorem zrv:zaz [r0] m0=x0R:=by
 unfold zaz x0R
 rw[zpx]
 congr 1
 kernel_rfl
theorem zrl:RafBd x0R where
 d1:=by decide
 d2:=by decide
 p:=⟨by rw[show x0R.pitch.num=3 from by kernel_rfl];decide,by rw[show x0R.pitch.den=4 from by kernel_rfl];decide⟩
 p0:=by rw[show x0R.pitch.num=3 from by kernel_rfl];decide
 r:=⟨by rw[show x0R.run.num=40 from by kernel_rfl];decide,by rw[show x0R.run.den=1 from by kernel_rfl];decide⟩
 o:=by decide
theorem zmy:x0R.run - (x0R.over:Rat)=32:=by kernel_rfl
theorem zht(ro:Ro)(w:World)(hv:zfk w ro.p.v [r0]):OfC w ro m0 x0R:=fun W hW hq=>by
 obtain⟨⟨a0,n0,c0⟩,⟨a1,n1,c1⟩,⟨a2,n2,c2⟩,⟨a3,n3,c3⟩⟩:=ro
 have:=zle [r0] zsG (by decide) m0 zqw 0 zru (by decide) (.slice a0 n0 c0) a1 a2 a3 n1 n2 n3 c1 c2 c3 W hW (hv.keep hq)
 unfold ofV at this
 rw[zsf,if_pos rfl,zrv]at this
 exact this
theorem zsd:zF (576/25):=zgo (n:=576) (d:=25) (by kernel_rfl) (by kernel_rfl) (by decide)
theorem zsF:zF (576/25*(5/4)):=zgo (n:=144) (d:=5) (by kernel_rfl) (by kernel_rfl) (by decide)
theorem zsC:(576/25*(5/4):Rat)=144/5:=by kernel_rfl
theorem zpw(b:Nat)(t:TypeId)(w:World)(hE:Env w)(hb:Blk w b [.string ⟨(ze (576/25)).toArray⟩,.string ⟨(ze (25/16)).toArray⟩] t) :
  Calls Tryz.prog 38 #[.slice (some ⟨b,0,none⟩) 1 1] w fun e w'=>∃ v,e=.returned (.tuple #[v,.int .i64 0])∧Q w w' ∧
   w'.ownsRow w.heap.size 84 2 v 1 [.string ⟨#[49,52,52,47,53]⟩,.string ⟨#[49]⟩]:=by
 have h:=zkw (576/25) (25/16) (5/4) 1 zsd zsE (zrA 25 (by kernel_rfl) (by decide)) (zpt 576 0 (by kernel_rfl) (by kernel_rfl) (by decide)) (zpt 25 1 (by kernel_rfl) (by kernel_rfl) (by decide))
  (by rw[zsi,zl0,d16];exact v54) (by rw[zsi,zl0]) s54 s1 zsF (zpt 144 0 (by kernel_rfl) (by kernel_rfl) (by decide)) b t w hE hb
 rw[zsC,v1,show ze (144/5:Rat)=[49,52,52,47,53]from by kernel_rfl,show ze (1:Rat)=[49]from by kernel_rfl]at h
 exact h
theorem zrZ(w:World)(hE:Env w):Calls Tryz.prog 6 #[] w fun e w'=>e=.returned (.bool true)∧Q w w':=by
 have hn:NotchOk x0R 12:=⟨⟨by decide,by decide⟩,by decide,by rw[zmy];decide⟩
 have HB:Hid (∀ ro w,Env w→zfk w ro.p.v [r0]→Calls Tryz.prog 7 #[.agg (roC ro).toArray,.agg (mbC m0).toArray,.int .i64 12] w fun e w'=>e=.returned (.tuple #[.agg #[.string ⟨#[56]⟩,.string ⟨#[49,50]⟩,.string ⟨#[57]⟩],.int .i64 0])∧Q w w'):=LH (fun ro w hw hv=>by
  have:=zeE ro m0 x0R zrl 12 (by decide) (by decide) (by rw[zmy];decide) w hw (zht ro w hv)
  rw[show ze (x0R.over:Rat)=[56]from by kernel_rfl,show ze ((12:Int):Rat)=[49,50]from by kernel_rfl,show ze (((12:Int):Rat)*x0R.pitch)=[57]from by kernel_rfl]at this
  exact this)
 have HL:Hid (∀ ro w,Env w→zfk w ro.p.v [r0]→Calls Tryz.prog 8 #[.agg (roC ro).toArray,.agg (mbC m0).toArray,.agg #[.string ⟨#[56]⟩,.string ⟨#[49,50]⟩,.string ⟨#[57]⟩]] w fun e w'=>∃ v,e=.returned (.tuple #[v,.int .i64 0])∧Q w w'∧w'.ownsRow w.heap.size 84 2 v 1 [.string ⟨#[49,52,52,47,53]⟩,.string ⟨#[49]⟩]):=LH (fun ro w hw hv=>by
  have:=zov ro m0 x0R zrl 12 hn (25/16) (576/25) (by kernel_rfl) (by rw[show (25/16:Rat).num=25 from by kernel_rfl];decide) (by kernel_rfl) _ zpw w hw (zht ro w hv)
  rw[show ze (x0R.over:Rat)=[56]from by kernel_rfl,show ze (12:Rat)=[49,50]from by kernel_rfl,show ze ((12:Rat)*x0R.pitch)=[57]from by kernel_rfl]at this
  exact this)
 have HD:Hid (∀ ro w,Env w→zfk w ro.p.v [r0]→Calls Tryz.prog 29 #[.agg (roC ro).toArray,.agg (mbC m0).toArray] w fun e w'=>e=.returned (.tuple #[.string ⟨#[50,48]⟩,.int .i64 0])∧Q w w'):=LH (fun ro w hw hv=>by
  have:=zlg ro m0 x0R zrl 20 20 (by kernel_rfl) ⟨by decide,by decide⟩ (by rw[zmy,if_neg (by decide)]) w hw (zht ro w hv)
  rw[show ze (20:Rat)=[50,48]from by kernel_rfl]at this
  exact this)
 have HX:=LH (fun w=>zm2 w)
 go_enter Tryz.func6,Tryz.ntmps6
 go_wp2_with fail
 refine(HX.out w).mono ?_
 rintro e w1⟨ro,rfl,hv,hq1⟩
 have HBr:=LH (HB.out ro)
 have HLr:=LH (HL.out ro)
 have HDr:=LH (HD.out ro)
 clear HX HB HL HD
 obtain⟨⟨a0,n0,c0⟩,⟨a1,n1,c1⟩,⟨a2,n2,c2⟩,⟨a3,n3,c3⟩⟩:=ro
 unfold roC Sl3.v mbC m0 at *
 simp only at HBr HLr HDr hv ⊢
 obtain⟨W2,hW2⟩:∃ W2,(w1.alloc (.cells #[.slice a0 n0 c0,.slice a1 n1 c1,.slice a2 n2 c2,.slice a3 n3 c3] 29)).alloc (.cells #[.int .i64 1,.int .i64 0,.int .i64 (-1),.string ⟨#[49,48]⟩,.string ⟨#[48]⟩,.string ⟨#[48]⟩,.string ⟨#[49,48]⟩,.string ⟨#[52,48]⟩,.string ⟨#[51,48]⟩,.int .i64 6,.int .i64 45] 34)=W2:=⟨_,rfl⟩
 have BR:Blk W2 w1.heap.size [.slice a0 n0 c0,.slice a1 n1 c1,.slice a2 n2 c2,.slice a3 n3 c3] 29:=by rw[← hW2];exact(Blk.new w1 _ _).alloc _
 have BM:Blk W2 (w1.heap.size+1) [.int .i64 1,.int .i64 0,.int .i64 (-1),.string ⟨#[49,48]⟩,.string ⟨#[48]⟩,.string ⟨#[48]⟩,.string ⟨#[49,48]⟩,.string ⟨#[52,48]⟩,.string ⟨#[51,48]⟩,.int .i64 6,.int .i64 45] 34:=by rw[← hW2];exact Blk.new1 w1 _ _ _
 have hqW:Q w1 W2:=by rw[← hW2];exact bt
 have hv2:=hv.keep hqW
 have hwW:Q w W2:=Q.trans hq1 hqW
 have hE2:=hE.ofQ hwW
 clear hE
 have hE:=hE2
 clear hE2 hv
 have hQ0:=Q.refl W2
 replace r0:=BR.cell 0
 replace r1:=BR.cell 1
 replace r2:=BR.cell 2
 replace r3:=BR.cell 3
 simp only[zs4,zs5]at r0 r1 r2 r3
 replace lBR:=BR.lt
 replace m0:=BM.cell 0
 replace m1:=BM.cell 1
 replace m2:=BM.cell 2
 replace m3:=BM.cell 3
 replace m4:=BM.cell 4
 replace m5:=BM.cell 5
 replace m6:=BM.cell 6
 replace m7:=BM.cell 7
 replace m8:=BM.cell 8
 replace m9:=BM.cell 9
 replace m10:=BM.cell 10
 simp only[zs4,zs5]at m0 m1 m2 m3 m4 m5 m6 m7 m8 m9 m10
 replace lBM:=BM.lt
 go_wp2_with fail
 clear hW2
 refine(HBr.out _ hE hv2).mono ?_
 rintro e Z1⟨rfl,hz1⟩
 replace BR:=BR.keep hz1 BR.lt
 replace BM:=BM.keep hz1 BM.lt
 have hv3:=hv2.keep hz1
 obtain⟨W3,hW3⟩:∃ W3,Z1.alloc (.cells #[.string ⟨#[56]⟩,.string ⟨#[49,50]⟩,.string ⟨#[57]⟩] 41)=W3:=⟨_,rfl⟩
 have N:Blk W3 Z1.heap.size [.string ⟨#[56]⟩,.string ⟨#[49,50]⟩,.string ⟨#[57]⟩] 41:=by rw[← hW3];exact Blk.new Z1 _ _
 have hqV:Q Z1 W3:=by rw[← hW3];exact bt
 have hv4:=hv3.keep hqV
 have hwV:Q w W3:=Q.trans hwW (Q.trans hz1 hqV)
 have hE3:=hE.ofQ (Q.trans hz1 hqV)
 clear hE hv2 hv3 HBr
 have hE:=hE3
 clear hE3
 replace BR:=BR.keep hqV BR.lt
 replace BM:=BM.keep hqV BM.lt
 have hQ0:=Q.refl W3
 replace r0:=BR.cell 0
 replace r1:=BR.cell 1
 replace r2:=BR.cell 2
 replace r3:=BR.cell 3
 simp only[zs4,zs5]at r0 r1 r2 r3
 replace lBR:=BR.lt
 replace m0:=BM.cell 0
 replace m1:=BM.cell 1
 replace m2:=BM.cell 2
 replace m3:=BM.cell 3
 replace m4:=BM.cell 4
 replace m5:=BM.cell 5
 replace m6:=BM.cell 6
 replace m7:=BM.cell 7
 replace m8:=BM.cell 8
 replace m9:=BM.cell 9
 replace m10:=BM.cell 10
 simp only[zs4,zs5]at m0 m1 m2 m3 m4 m5 m6 m7 m8 m9 m10
 replace lBM:=BM.lt
 replace n0:=N.cell 0
 replace n1:=N.cell 1
 replace n2:=N.cell 2
 simp only[zs4,zs5]at n0 n1 n2
 replace lN:=N.lt
 go_wp2_with fail
 clear hW3
 refine(HLr.out _ hE hv4).mono ?_
 rintro e V1⟨v,rfl,hu1,hown⟩
 obtain⟨g,cp,rfl⟩:=zhi hown (by decide)
 have hv5:=hv4.keep hu1
 replace BR:=BR.keep hu1 BR.lt
 replace BM:=BM.keep hu1 BM.lt
 replace N:=N.keep hu1 N.lt
 have hE4:=hE.ofQ hu1
 have hwU:Q w V1:=Q.trans hwV hu1
 clear hE hv4 HLr
 have hE:=hE4
 clear hE4
 have hQ0:=Q.refl V1
 replace r0:=BR.cell 0
 replace r1:=BR.cell 1
 replace r2:=BR.cell 2
 replace r3:=BR.cell 3
 simp only[zs4,zs5]at r0 r1 r2 r3
 replace lBR:=BR.lt
 replace m0:=BM.cell 0
 replace m1:=BM.cell 1
 replace m2:=BM.cell 2
 replace m3:=BM.cell 3
 replace m4:=BM.cell 4
 replace m5:=BM.cell 5
 replace m6:=BM.cell 6
 replace m7:=BM.cell 7
 replace m8:=BM.cell 8
 replace m9:=BM.cell 9
 replace m10:=BM.cell 10
 simp only[zs4,zs5]at m0 m1 m2 m3 m4 m5 m6 m7 m8 m9 m10
 replace lBM:=BM.lt
 replace n0:=N.cell 0
 replace n1:=N.cell 1
 replace n2:=N.cell 2
 simp only[zs4,zs5]at n0 n1 n2
 replace lN:=N.lt
 go_wp2_with fail
 refine(HDr.out _ hE hv5).mono ?_
 rintro e U1⟨rfl,hu2⟩
 have hown2:=zi hown hu2
 have S:=Blk.new U1 [.string ⟨#[49,52,52,47,53]⟩,.string ⟨#[49]⟩] 84
 have hqS:Q U1 (U1.alloc (.cells ([.string ⟨#[49,52,52,47,53]⟩,.string ⟨#[49]⟩]:List Value).toArray 84)):=(Below.refl _ U1).alloc (Nat.le_refl _) _
 have hown3:=zi hown2 hqS
 have s0:=hown3.cells rfl 0 _ rfl
 have s1:=hown3.cells rfl 1 _ rfl
 rw[Addr.add_lit]at s0 s1
 have HS:=LH (zjG g U1.heap.size cp 1 [49,52,52,47,53] [49] _ s0 s1 (S.cell 0) (S.cell 1))
 replace N:=N.keep hu2 N.lt
 have n0:=N.cell 0
 have n1:=N.cell 1
 have n2:=N.cell 2
 simp only[zs4,zs5]at n0 n1 n2
 have lN:=N.lt
 have hQe:Q w (U1.alloc (.cells ([.string ⟨#[49,52,52,47,53]⟩,.string ⟨#[49]⟩]:List Value).toArray 84)):=Q.trans hwU (Q.trans hu2 hqS)
 clear hown hown2 hown3 HDr hv5 BR BM
 go_wp2_with fail
 refine HS.out.mono ?_
 rintro e Ue⟨rfl,k,rfl⟩
 have hQf:=Q.trans hQe (Below.drewN (Q.refl _) k)
 go_wp2
 go_ret
 exact⟨rfl,hQf⟩
end
section
open Go.RowKit Kp
open Go.Lib (decDigits)
theorem zju(f:Value)(w:World):Calls Tryz.prog 82 #[.slice none 0 0,f] w fun e w'=>e=.returned (.int .i64 0)∧Q w w':=by
 go_enter Tryz.func82,Tryz.ntmps82
 go_wp2
 go_loopw [13] (fun i wr=>i=.int .i64 0∧wr=w) (fun _ _=>0)
 case atStart=>exact⟨rfl,rfl⟩
 case round =>
  obtain⟨rfl,rfl⟩:=hrel
  go_wp2
  go_ret
  exact⟨rfl,bt⟩
theorem zgk(w:World):Calls Tryz.prog 38 #[.slice none 0 0] w fun e w'=>e=.returned (.tuple #[.slice none 0 0,.int .i64 0])∧Q w w':=by
 go_enter Tryz.func38,Tryz.ntmps38
 go_wp2
 go_loopw [18] (fun i wr=>i=.int .i64 0∧wr=w) (fun _ _=>0)
 case atStart=>exact⟨rfl,rfl⟩
 case round =>
  obtain⟨rfl,rfl⟩:=hrel
  go_wp2_with fail
  have hG:=Blk.new wr [Value.slice none 0 0] 144
  refine(zju _ _).mono ?_
  rintro e w1⟨rfl,hq1⟩
  have hQ1:Q wr w1:=Q.trans bt hq1
  replace hG:=hG.keep hq1 hG.lt
  have g0:=hG.cell 0
  simp only[List.getElem?_cons_zero]at g0
  go_wp2_with fail
  go_loopw [10,47] (fun o i wr2=>o=.slice none 0 0∧i=.int .i64 0∧wr2=w1) (fun _ i _=>1 - (intOf i).toNat)
  case atStart=>exact⟨rfl,rfl,rfl⟩
  case round =>
   obtain⟨rfl,rfl,rfl⟩:=hrel
   go_wp2_with fail
   refine(zej _ _ _ _).mono ?_
   rintro e w2⟨⟨u,rfl⟩,rfl⟩
   go_wp2
   go_ret2
   exact⟨rfl,hQ1⟩
theorem zjx(w:World):Calls Tryz.prog 39 #[.slice none 0 0,.slice none 0 0] w fun e w'=>e=.returned (.bool true)∧Q w w':=by
 have HN:=LH (fun w=>zb1 w)
 go_enter Tryz.func39,Tryz.ntmps39
 have hQ0:=Q.refl w
 go_wp2_with fail
 refine(HN.out _).mono ?_
 rintro e w1⟨rfl,hq1⟩
 have hs1:Q w w1:=Q.trans bt hq1
 have hQ1:Q w w1:=Q.trans hQ0 hs1
 go_wp2_with fail
 refine(HN.out _).mono ?_
 rintro e w2⟨rfl,hq2⟩
 have hs2:Q w1 w2:=Q.trans bt hq2
 have hQ2:Q w w2:=Q.trans hQ1 hs2
 go_wp2
 go_ret
 exact⟨rfl,bt⟩
theorem zlG(w:World):Calls Tryz.prog 9 #[.slice none 0 0,.slice none 0 0] w fun e w'=>e=.returned (.tuple #[.slice none 0 0,.int .i64 0])∧Q w w':=by
 have HM:=LH (fun w=>zgk w)
 go_enter Tryz.func9,Tryz.ntmps9
 have hQ0:=Q.refl w
 go_wp2_with fail
 refine(zjx _).mono ?_
 rintro e w1⟨rfl,hq1⟩
 have hs1:Q w w1:=Q.trans bt hq1
 have hQ1:Q w w1:=Q.trans hQ0 hs1
 go_wp2
 go_loopw [6,20] (fun o i wr=>o=.slice none 0 0∧i=.int .i64 0∧wr=w1) (fun _ _ _=>0)
 case atStart=>exact⟨rfl,rfl,rfl⟩
 case round =>
  obtain⟨rfl,rfl,rfl⟩:=hrel
  go_wp2_with fail
  refine(HM.out _).mono ?_
  rintro e w2⟨rfl,hq2⟩
  have hQ2:Q w w2:=Q.trans hQ1 hq2
  go_wp2
  go_ret2
  exact⟨rfl,hQ2⟩
theorem zjz(w:World):Calls Tryz.prog 12 #[.slice none 0 0] w fun e w'=>e=.returned (.tuple #[.string ⟨#[48]⟩,.bool true,.int .i64 0])∧Q w w':=by
 have HN:=LH (fun w=>zb1 w)
 go_enter Tryz.func12,Tryz.ntmps12
 have hQ0:=Q.refl w
 go_wp2_with fail
 refine(HN.out _).mono ?_
 rintro e w1⟨rfl,hq1⟩
 have hs1:Q w w1:=Q.trans bt hq1
 have hQ1:Q w w1:=Q.trans hQ0 hs1
 go_wp2
 go_ret3
 exact⟨rfl,bt⟩
theorem zhc(R:Str){rest:List Value}{cap:Nat}(b:Nat)(t:TypeId)(w:World)(hb:Blk w b (.string ⟨#[48]⟩::.string ⟨R.toArray⟩::rest) t)(f:Value) :
  Calls Tryz.prog 82 #[.slice (some ⟨b,0,none⟩) 1 cap,f] w fun e w'=>e=.returned (.int .i64 0)∧Q w w':=by
 have lb:=hb.lt
 go_enter Tryz.func82,Tryz.ntmps82
 go_wp2
 go_loopw [13] (fun i wr=>(i=.int .i64 0∨i=.int .i64 1)∧Q w wr) (fun i _=>1 - (intOf i).toNat)
 case atStart=>exact⟨.inl rfl,Below.refl _ _⟩
 case round =>
  obtain⟨rfl | rfl,hQ⟩:=hrel
  ·have hB:=hb.keep hQ lb
   have c0:=hB.cell 0
   have c1:=hB.cell 1
   have l1:=hB.lt
   simp only[zs4,zs5]at c0 c1
   have hq0:Q w (wr.alloc (Obj.cells [.string ⟨#[48]⟩,.string ⟨R.toArray⟩].toArray 84)):=hQ.alloc hQ.size _
   go_wp2
   try (go_quiet (fail);go_wp2)
   go_roundw
   case rel=>exact⟨.inr rfl,by first | exact hq0 | exact Below.drewN hq0 _⟩
   case measure=>simp[intOf]
  ·go_wp2
   go_ret
   exact⟨rfl,hQ⟩
theorem zic(r:Rat)(hr:zav r=false)(hp:0≤r.num){rest:List Value}{cap:Nat}(b:Nat)(t:TypeId)(w:World)(hE:Env w)(hb:Blk w b (.string ⟨#[48]⟩::.string ⟨(ze r).toArray⟩::rest) t) :
  Calls Tryz.prog 38 #[.slice (some ⟨b,0,none⟩) 1 cap] w fun e w'=>e=.returned (.tuple #[.slice none 0 0,.int .i64 0])∧Q w w':=by
 have l0:=hb.lt
 have hc0:=fun w hw=>zw 0 (show zav 0=false by unfold zav;rw[show ((0:Rat)).num=0 from rfl,show (((0:Rat)).den:Int)=1 from rfl,zer,zdd];rfl) w hw
 have hc1:=fun w hw=>zw r hr w hw
 have hneg:decide ((ze r).head? = some 45)=false:=by rw[decide_eq_false_iff_not,zbG];omega
 have HH:=LH (fun w=>zL (ze r) w)
 rw[hneg]at HH
 clear hneg
 rw[zah]at hc0
 have HC0:=LH hc0
 have HC1:=LH hc1
 clear hc0 hc1
 generalize ze r=R at *
 go_enter Tryz.func38,Tryz.ntmps38
 go_wp2
 go_loopw [18] (fun i wr=>(i=.int .i64 0∨i=.int .i64 1)∧Q w wr) (fun i _=>1 - (intOf i).toNat)
 case atStart=>exact⟨.inl rfl,Below.refl _ _⟩
 case round =>
  obtain⟨rfl | rfl,hQ⟩:=hrel
  ·have hB:=hb.keep hQ l0
   have c0:=hB.cell 0
   have c1:=hB.cell 1
   have l1:=hB.lt
   simp only[zs4,zs5]at c0 c1
   go_wp2_with fail
   have hq0:Q w (wr.alloc (Obj.cells [.string ⟨#[48]⟩,.string ⟨R.toArray⟩].toArray 84)):=hQ.alloc hQ.size _
   have BT:=Blk.new wr [.string ⟨#[48]⟩,.string ⟨R.toArray⟩] 84
   refine(HC0.out _ (hE.q hq0)).mono ?_
   rintro e w1⟨rfl,hq1⟩
   have hQ1:=Q.trans hq0 hq1
   have B1:=BT.keep hq1 (by simp)
   have d1:=B1.cell 1
   simp only[zs4,zs5]at d1
   clear hq1 hq0 BT c0 c1
   go_wp2_with fail
   refine(HC1.out _ (hE.q hQ1)).mono ?_
   rintro e w2⟨rfl,hq2⟩
   have hQ2:=Q.trans hQ1 hq2
   have B2:=B1.keep hq2 B1.lt
   have d2:=B2.cell 1
   simp only[zs4,zs5]at d2
   clear hq2 hQ1 B1 d1
   go_wp2_with fail
   refine(HH.out _).mono ?_
   rintro e w3⟨rfl,rfl⟩
   go_wp2
   go_roundw
   case rel=>exact⟨.inr rfl,hQ2⟩
   case measure=>simp[intOf]
  ·go_wp2_with fail
   have hBb:=(hb.keep hQ l0).alloc (Obj.cells #[Value.slice none 0 0] 144)
   have hG:=Blk.new wr [Value.slice none 0 0] 144
   refine(zhc R b t _ hBb _).mono ?_
   rintro e w1⟨rfl,hq1⟩
   have hQ1:Q w w1:=Q.trans (hQ.alloc hQ.size _) hq1
   replace hG:=hG.keep hq1 hG.lt
   have g0:=hG.cell 0
   simp only[List.getElem?_cons_zero]at g0
   go_wp2_with fail
   go_loopw [10,47] (fun o i wr2=>o=.slice none 0 0∧i=.int .i64 0∧wr2=w1) (fun _ i _=>1 - (intOf i).toNat)
   case atStart=>exact⟨rfl,rfl,rfl⟩
   case round =>
    obtain⟨rfl,rfl,rfl⟩:=hrel
    go_wp2_with fail
    refine(zej _ _ _ _).mono ?_
    rintro e w2⟨⟨u,rfl⟩,rfl⟩
    go_wp2
    go_ret2
    exact⟨rfl,hQ1⟩
theorem zeN(c:Value)(w:World):Calls Tryz.prog 44 #[.slice none 0 0,c] w fun e w'=>e=.returned (.tuple #[.slice none 0 0,.int .i64 0])∧Q w w':=by
 go_enter Tryz.func44,Tryz.ntmps44
 go_wp2
 go_loopw [6,13] (fun o i wr=>o=.slice none 0 0∧i=.int .i64 0∧wr=w) (fun _ _ _=>0)
 case atStart=>exact⟨rfl,rfl,rfl⟩
 case round =>
  obtain⟨rfl,rfl,rfl⟩:=hrel
  go_wp2
  go_ret2
  exact⟨rfl,bt⟩
theorem zjB(c:Rat)(hc:zav c=false)(w:World)(hE:Env w):Calls Tryz.prog 11 #[.slice none 0 0,.string ⟨(ze c).toArray⟩] w fun e w'=>e=.returned (.tuple #[.slice none 0 0,.int .i64 0])∧Q w w':=by
 have HN:=LH (fun w=>zb1 w)
 have HC:=LH (fun w hw=>zw c hc w hw)
 have HS:=LH (fun c w=>zeN c w)
 have HM:=LH (fun w=>zgk w)
 generalize ze c=C at *
 go_enter Tryz.func11,Tryz.ntmps11
 have hQ0:=Q.refl w
 go_wp2_with fail
 refine(HN.out _).mono ?_
 rintro e w1⟨rfl,hq1⟩
 have hs1:Q w w1:=Q.trans bt hq1
 have hQ1:Q w w1:=Q.trans hQ0 hs1
 go_wp2_with fail
 refine(HC.out _ (hE.ofQ bt)).mono ?_
 rintro e w2⟨rfl,hq2⟩
 have hs2:Q w1 w2:=Q.trans bt hq2
 have hQ2:Q w w2:=Q.trans hQ1 hs2
 go_wp2_with fail
 refine(HS.out _ _).mono ?_
 rintro e w3⟨rfl,hq3⟩
 have hs3:Q w2 w3:=Q.trans bt hq3
 have hQ3:Q w w3:=Q.trans hQ2 hs3
 go_wp2_with fail
 refine(HM.out _).mono ?_
 rintro e w4⟨rfl,hq4⟩
 have hs4:Q w3 w4:=Q.trans bt hq4
 have hQ4:Q w w4:=Q.trans hQ3 hs4
 go_wp2
 go_ret2
 exact⟨rfl,bt⟩
theorem ziF(x y:Rat)(l m:Nat)(hx:Term1 x l)(hy:Term1 y m)(bx:Bd 20 x)(bY:Bd 20 y)(bl:l<10 ^ 16)(bm:m<10 ^ 16)(σ:Int)(hs:zkC (zly (zeK (zdz [(x,l)] (-y,m))))=some σ)(hcb:∀ c∈zdz [(x,l)] (-y,m),Bd 50 c.1∧0<c.2∧c.2<10 ^ 16)
  (B1 B2:Nat)(v1 v2:Value)(w:World)(hE:Env w)(hP:zbU w)(h1:zbA w B1 v1 x l)(h2:zbA w B2 v2 y m) :
  Calls Tryz.prog 16 #[v1,v2] w fun e w'=>e=.returned (.tuple #[.int .i64 σ,.int .i64 0])∧Q w w':=by
 have HSUB:=LH (zlE x y l m hx hy bx bY bl bm hcb B1 B2 v1 v2 w hE h1 h2)
 have hvs:∀ t∈zly (zeK (zdz [(x,l)] (-y,m))),VS t:=fun t ht=>by
  obtain⟨a1,a2,a3⟩:=hcb t (znw (zqs ht))
  exact⟨a1.mono (by decide),Nat.lt_of_lt_of_le a3 (by decide)⟩
 have hlen:(zly (zeK (zdz [(x,l)] (-y,m)))).length≤1000:=by
  have h1:=znq (zeK (zdz [(x,l)] (-y,m)))
  have h2:=zir (zdz [(x,l)] (-y,m))
  have h3:=zix [(x,l)] (-y,m)
  simp at h3;omega
 have hsg:=fun v w hw hp hsl=>ziD (zly (zeK (zdz [(x,l)] (-y,m)))) hvs hlen v w hw hp hsl
 have hv:zdR (zly (zeK (zdz [(x,l)] (-y,m))))=.tuple #[.int .i64 σ,.int .i64 0]:=by unfold zdR;rw[hs]
 rw[hv]at hsg
 have HSG:=LH hsg
 have HPL:=LH hP
 obtain⟨g1,c1,rfl,-,-⟩:=World.ownsRow.form h1 (by omega)
 obtain⟨g2,c2,rfl,-,-⟩:=World.ownsRow.form h2 (by omega)
 generalize zly (zeK (zdz [(x,l)] (-y,m)))=R at *
 clear hs hcb hvs hsg hv hx hy bx bY bl bm h1 h2 hP
 go_enter Tryz.func16,Tryz.ntmps16
 go_wp2_with fail
 refine HSUB.out.mono ?_
 rintro e w1⟨v,rfl,hq1,hr⟩
 have HR:=LH hr
 obtain⟨a,cap,hv⟩:=zgs hr
 rw[List.length_map]at hv
 subst hv
 clear hr hlen
 go_wp2_with fail
 refine(HSG.out _ _ (hE.q hq1) (HPL.out.q hE hq1) (TSl.of_row HR.out)).mono ?_
 rintro e w2⟨rfl,hq2⟩
 have hQ2:=Q.trans hq1 hq2
 go_wp2
 go_ret2
 exact⟨rfl,hQ2⟩
theorem zhd(l1:List (Str × Str))(h1:0<l1.length)(n1:l1.length≤1000)(v1:Value)(a2:Option Addr)(cap2:Nat)(ha:(a2=none∧cap2=0)∨∃ g,a2=some ⟨g,0,none⟩)(b:Nat)(t:TypeId)(w:World)(hb:Blk w b [v1,.slice a2 0 cap2] t)(s1:TSl w w.heap.size v1 l1) :
  Calls Tryz.prog 105 #[.slice (some ⟨b,0,none⟩) 2 2] w fun e w'=>∃ v,e=.returned v∧Q w w'∧w'.ownsRow w.heap.size 84 2 v l1.length (zcd l1):=by
 have S1:=LH s1
 obtain⟨b1,o1,cap1,rfl,-,-,-⟩:=s1.open h1
 have hg:=fun w=>zjf l1.length (by omega) (by omega) w
 have HG:=LH hg
 clear s1 hg
 have HN1:=LH (fun(W:World) (hq:Q w W) (j:Nat) (u:Value) (hu:(zcd l1)[j]? = some u)=>by
  obtain⟨b',o',cap',hv,_,_,hc⟩:=(S1.out.keep hq (Nat.le_refl _)).open h1
  cases hv
  exact hc j u hu)
 have HL1:=LH (zgu l1)
 have HO1:=LH (zgt l1)
 generalize zcd l1=r1 at *
 generalize l1.length=m1 at *
 have lb:=hb.lt
 obtain⟨i0,hi,hz0,hz1,hz2⟩:=zbs zcu
 have HI:=LH hi
 have HZ:=LH hz0
 have HS:=LH hz1
 have HBy:=LH hz2
 clear hi hz0 hz1 hz2
 have c0:=hb.cell 0
 have c1:=hb.cell 1
 simp only[zs4,zs5]at c0 c1
 have w1i:=Go.IntWalk.i64_in (m1:Int) (by omega)
 have w1j:=Go.IntWalk.i64_in ((0:Int)+(m1:Int)) (by omega)
 go_enter Tryz.func105,Tryz.ntmps105
 go_wp2
 go_loop [3,11] (fun sz i=>(i=.int .i64 0∧sz=.int .i64 0)∨(i=.int .i64 1∧sz=.int .i64 m1)∨(i=.int .i64 2∧sz=.int .i64 m1)) (fun _ i=>2 - (intOf i).toNat)
 case atStart=>exact .inl ⟨rfl,rfl⟩
 case round =>
  rcases hrel with⟨rfl,rfl⟩|⟨rfl,rfl⟩|⟨rfl,rfl⟩
  ·go_wp2
   go_round
   case rel=>exact .inr (.inl ⟨rfl,by go_num⟩)
   case measure=>simp[intOf]
  ·go_wp2
   go_round
   case rel=>exact .inr (.inr ⟨rfl,by first | rfl | go_num⟩)
   case measure=>simp[intOf]
  ·go_wp2_with fail
   refine(HG.out _).mono ?_
   rintro e w1⟨v,rfl,hq1,hr1,g1,gc1,rfl⟩
   clear c0 c1
   have hb1:=hb.keep hq1 lb
   go_wp2
   go_loopw [6,27] (fun o i wr=>Q w wr∧((i=.int .i64 0∧o=.slice (some ⟨g1,0,none⟩) 0 gc1∧wr.ownsRow w.heap.size 84 2 o 0 [])∨(i=.int .i64 1∧wr.ownsRow w.heap.size 84 2 o m1 r1)∨(i=.int .i64 2∧wr.ownsRow w.heap.size 84 2 o m1 r1))) (fun _ i _=>2 - (intOf i).toNat)
   case atStart=>exact⟨hq1,.inl ⟨rfl,rfl,hr1⟩⟩
   case round =>
    obtain⟨hQ,⟨rfl,rfl,hrow⟩|⟨rfl,hrow⟩|⟨rfl,hrow⟩⟩:=hrel
    ·have hbr:=hb.keep hQ lb
     have c0:=hbr.cell 0
     simp only[List.getElem?_cons_zero]at c0
     have lbr:=hbr.lt
     go_wp2_with (at_builtin;refine wpList_append_lies _ (by rfl) (.tmp 31) (.tmp 32) 46 (by rfl) w.heap.size 84 i0 _ 2 32 Tryz.underlying46 HI.out HZ.out HS.out HBy.out rfl (by decide) (.slice (some ⟨g1,0,none⟩) 0 gc1) 0 [] (by rfl) hrow ⟨b1,o1,none⟩ m1 cap1 r1 (by rfl) HL1.out (HN1.out _ hQ) HO1.out h1 (by unfold maxLen;omega) (by omega) hQ.size _ (by rfl) ?_;intro g4 cap4 w4 hown4 hgrow4 hat4 hlt4)
     go_roundw
     case rel=>exact⟨hQ.grown hgrow4 hQ.size (fun k hk=>(hrow.lt k hk).1),.inr (.inl ⟨rfl,by rw[Nat.zero_add,List.nil_append]at hown4;simpa using hown4⟩)⟩
     case measure=>simp[intOf]
    ·rcases hrow.2 with⟨_,h0⟩|⟨g5,gc5,cur,rfl,-,-,hcap5,-⟩
     ·omega
     have hbr:=hb.keep hQ lb
     have c1:=hbr.cell 1
     simp only[zs4,zs5]at c1
     have lbr:=hbr.lt
     rcases ha with⟨rfl,rfl⟩|⟨g2,rfl⟩
     ·go_wp2
      try (go_quiet (fail);go_wp2)
      go_roundw
      case rel=>exact⟨hQ,.inr (.inr ⟨rfl,hrow⟩)⟩
      case measure=>simp[intOf]
     ·go_wp2
      try (go_quiet (fail);go_wp2)
      go_roundw
      case rel=>exact⟨hQ,.inr (.inr ⟨rfl,hrow⟩)⟩
      case measure=>simp[intOf]
    ·go_wp2
     go_ret
     exact⟨_,rfl,hQ,hrow⟩
theorem zhf(x:Rat)(l:Nat)(hx:Term1 x l)(px:0<x.num)(bx:Bd 20 x)(bl:l<10 ^ 16)(B:Nat)(v:Value)(w:World)(hE:Env w)(hP:zbU w)(hv:zbA w B v x l) :
  Calls Tryz.prog 16 #[.slice none 0 0,v] w fun e w'=>e=.returned (.tuple #[.int .i64 (-1),.int .i64 0])∧Q w w':=by
 have HB:=LH (zkv x l hx B v w hE hv)
 have hsc:=fun v w hw hs=>zfP [(x,l)] (-1) zh7 (fun t ht=>by rw[List.mem_singleton]at ht;subst ht;exact bx.mono (by decide)) (by simp) v w hw hs
 rw[zfE,show (zdm (-1) [(x,l)]).map ofC=[ofC (-x,l)] by simp[zdm,zgL]]at hsc
 have HSC:=LH hsc
 have HCC:=LH (fun v2 b t w hb s2=>ziE [ofC (-x,l)] (by simp) (by simp) v2 b t w hb s2)
 have hny:Bd 60 (-x):=(zpu bx).mono (by decide)
 have hne:-x≠0:=fun e=>hx.ne (by have:=congrArg (fun q=>-q) e;simpa using this)
 have hlq:Bd 42 (l:Rat):=⟨by rw[Rat.num_natCast,Int.natAbs_natCast];exact Nat.lt_of_lt_of_le bl (by decide),by rw[Rat.den_natCast];exact by decide⟩
 have hl40:Bd 40 (l:Rat):=⟨by rw[Rat.num_natCast,Int.natAbs_natCast];exact Nat.lt_of_lt_of_le bl (by decide),by rw[Rat.den_natCast];exact by decide⟩
 have hmk:∀ (rest:List Value) (cap b:Nat) (t:TypeId) (w:World),Env w→Blk w b (.string ⟨(ze (-x)).toArray⟩::.string ⟨(Lib.itoa (l:Int)).toArray⟩::rest) t →
   Calls Tryz.prog 38 #[.slice (some ⟨b,0,none⟩) 1 cap] w fun e w'=>∃ v',e=.returned (.tuple #[v',.int .i64 0])∧Q w w'∧zbA w' w.heap.size v' (-x) l:=fun rest cap b t w hw hb'=>by
  have h:=zb0 (rest:=rest) (cap:=cap) (-x) (l:Rat) hny (by decide) hne hlq (by rw[Rat.num_natCast];have:=hx.norm.1;omega) b t w hw (by rw[zaO];exact hb')
  have hp:=zd5 hx.norm
  rw[hp.1,Rat.mul_one,zfq,hp.2]at h
  refine h.mono fun e w' he=>?_
  obtain⟨hq,v,hv,hs⟩:=zcH.good (l:=l) he (by have:=za7 hny (by decide);omega) (by have:=za7 hl40 (by decide);omega)
  exact⟨v,hv,hq,hs⟩
 have HMK:=LH hmk
 have hsg:=fun v w hw hp hsl=>ziD [(-x,l)] (fun t ht=>by rw[List.mem_singleton]at ht;subst ht;exact⟨hny,Nat.lt_of_lt_of_le bl (by decide)⟩) (by simp) v w hw hp hsl
 have hvv:zdR [(-x,l)]=.tuple #[.int .i64 (-1),.int .i64 0]:=by unfold zdR;rw[sign_one (by rw[zkI];omega) hx.norm.1 (by rw[zns];exact Nat.lt_of_lt_of_le bx.2 (by decide)),if_neg (by rw[zkI];omega)]
 rw[hvv]at hsg
 have HSG:=LH hsg
 have HPL:=LH hP
 have r1:Hid (w.ownsRow B 84 2 v ([(x,l)].map ofC).length (zcd ([(x,l)].map ofC))):=LH hv
 obtain⟨g1,c1,rfl,-,-⟩:=World.ownsRow.form hv (by omega)
 clear hx px bx bl hsc hny hne hlq hl40 hmk hsg hvv hv hP
 have HSUB:Hid (Calls Tryz.prog 53 #[.slice none 0 0,.slice (some ⟨g1,0,none⟩) 1 c1] w fun e w'=>∃ v',e=.returned (.tuple #[v',.int .i64 0])∧Q w w'∧zbA w' w.heap.size v' (-x) l):=LH (by
  unfold zbA at HMK ⊢
  have hP1:(ofC (-x,l)).1=ze (-x):=rfl
  have hP2:(ofC (-x,l)).2=Lib.itoa (l:Int):=rfl
  rw[← hP1,← hP2]at HMK
  rw[← hP1,← hP2]
  clear hP1 hP2 HSG
  generalize ofC (-x,l)=P1 at *
  go_enter Tryz.func53,Tryz.ntmps53
  go_wp2_with fail
  refine HB.out.mono ?_
  rintro e w1⟨rfl,hq1⟩
  go_wp2_with fail
  refine(HSC.out _ _ (hE.q hq1) (TSl.of_row (zi r1.out hq1))).mono ?_
  rintro e w2⟨v3,rfl,hq2,hr3⟩
  have hQ2:=Q.trans hq1 hq2
  have R3:=LH hr3
  obtain⟨g3,c3,rfl,-,-⟩:=hr3.form (by simp)
  clear hr3
  go_wp2_with fail
  have hb:=Blk.new w2 [.slice none 0 0,.slice (some ⟨g3,0,none⟩) 1 c3] 46
  have hqa:=hQ2.alloc hQ2.size (Obj.cells [.slice none 0 0,.slice (some ⟨g3,0,none⟩) 1 c3].toArray 46)
  refine(HCC.out _ _ _ _ hb (TSl.of_row (R3.out.alloc _))).mono ?_
  rintro e w3⟨v4,rfl,hq3,hr4⟩
  have hQ3:=Q.trans hqa hq3
  obtain⟨g4,c4,rest4,rfl,-,hb4⟩:=zkE (P:=.string ⟨P1.1.toArray⟩) (R:=.string ⟨P1.2.toArray⟩) hr4
  clear hr4
  go_wp2_with fail
  refine(HMK.out rest4 c4 g4 _ _ (hE.q hQ3) hb4).mono ?_
  rintro e w4⟨v5,rfl,hq4,hr5⟩
  have hQ4:=Q.trans hQ3 hq4
  have HR5:=LH (Joins.ownsRow_le hr5 hQ3.size)
  clear hr5
  go_wp2
  go_ret2
  exact⟨_,rfl,hQ4,HR5.out⟩)
 clear HB HSC HCC HMK r1
 go_enter Tryz.func16,Tryz.ntmps16
 go_wp2_with fail
 refine HSUB.out.mono ?_
 rintro e w1⟨v1,rfl,hq1,hr⟩
 have HR:=LH (show w1.ownsRow w.heap.size 84 2 v1 ([(-x,l)].map ofC).length (zcd ([(-x,l)].map ofC))from hr)
 obtain⟨a,cap,rfl,-,-⟩:=World.ownsRow.form hr (by omega)
 clear hr
 go_wp2_with fail
 refine(HSG.out _ _ (hE.q hq1) (HPL.out.q hE hq1) (TSl.of_row HR.out)).mono ?_
 rintro e w2⟨rfl,hq2⟩
 have hQ2:=Q.trans hq1 hq2
 go_wp2
 go_ret2
 exact⟨rfl,hQ2⟩
theorem zjw(x:Rat)(l:Nat)(hx:Term1 x l)(B:Nat)(v:Value)(w:World)(hE:Env w)(h:zbA w B v x l) :
  Calls Tryz.prog 39 #[v,.slice none 0 0] w fun e w'=>e=.returned (.bool true)∧Q w w':=by
 have HC:=LH (zbu x l hx B v w hE h)
 have HN:=LH (fun w=>zb1 w)
 obtain⟨g1,c1,rfl,-,-⟩:=World.ownsRow.form h (by omega)
 clear hx h
 go_enter Tryz.func39,Tryz.ntmps39
 have hQ0:=Q.refl w
 go_wp2_with fail
 refine(HC.out).mono ?_
 rintro e w1⟨rfl,hq1⟩
 have hs1:Q w w1:=Q.trans bt hq1
 have hQ1:Q w w1:=Q.trans hQ0 hs1
 go_wp2_with fail
 refine(HN.out _).mono ?_
 rintro e w2⟨rfl,hq2⟩
 have hs2:Q w1 w2:=Q.trans bt hq2
 have hQ2:Q w w2:=Q.trans hQ1 hs2
 go_wp2
 go_ret
 exact⟨rfl,bt⟩
theorem zhe(x:Rat)(l:Nat)(hx:Term1 x l)(px:x.num<0)(bx:Bd 20 x)(bl:l<10 ^ 16)(B:Nat)(v:Value)(w:World)(hE:Env w)(hP:zbU w)(hv:zbA w B v x l) :
  Calls Tryz.prog 16 #[v,.slice none 0 0] w fun e w'=>e=.returned (.tuple #[.int .i64 (-1),.int .i64 0])∧Q w w':=by
 have HB:=LH (zjw x l hx B v w hE hv)
 have HSC:=LH (fun c w=>zeN c w)
 have HCC:=LH (fun v1 b t w hb s1=>zhd [ofC (x,l)] (by simp) (by simp) v1 none 0 (.inl ⟨rfl,rfl⟩) b t w hb s1)
 have hny:Bd 60 x:=bx.mono (by decide)
 have hlq:Bd 42 (l:Rat):=⟨by rw[Rat.num_natCast,Int.natAbs_natCast];exact Nat.lt_of_lt_of_le bl (by decide),by rw[Rat.den_natCast];exact by decide⟩
 have hl40:Bd 40 (l:Rat):=⟨by rw[Rat.num_natCast,Int.natAbs_natCast];exact Nat.lt_of_lt_of_le bl (by decide),by rw[Rat.den_natCast];exact by decide⟩
 have hmk:∀ (rest:List Value) (cap b:Nat) (t:TypeId) (w:World),Env w→Blk w b (.string ⟨(ze x).toArray⟩::.string ⟨(Lib.itoa (l:Int)).toArray⟩::rest) t →
   Calls Tryz.prog 38 #[.slice (some ⟨b,0,none⟩) 1 cap] w fun e w'=>∃ v',e=.returned (.tuple #[v',.int .i64 0])∧Q w w'∧zbA w' w.heap.size v' x l:=fun rest cap b t w hw hb'=>by
  have h:=zb0 (rest:=rest) (cap:=cap) x (l:Rat) hny (by decide) hx.ne hlq (by rw[Rat.num_natCast];have:=hx.norm.1;omega) b t w hw (by rw[zaO];exact hb')
  have hp:=zd5 hx.norm
  rw[hp.1,Rat.mul_one,zfq,hp.2]at h
  refine h.mono fun e w' he=>?_
  obtain⟨hq,v,hv,hs⟩:=zcH.good (l:=l) he (by have:=za7 hny (by decide);omega) (by have:=za7 hl40 (by decide);omega)
  exact⟨v,hv,hq,hs⟩
 have HMK:=LH hmk
 have hsg:=fun v w hw hp hsl=>ziD [(x,l)] (fun t ht=>by rw[List.mem_singleton]at ht;subst ht;exact⟨hny,Nat.lt_of_lt_of_le bl (by decide)⟩) (by simp) v w hw hp hsl
 have hvv:zdR [(x,l)]=.tuple #[.int .i64 (-1),.int .i64 0]:=by unfold zdR;rw[sign_one (by omega) hx.norm.1 (Nat.lt_of_lt_of_le bx.2 (by decide)),if_neg (by omega)]
 rw[hvv]at hsg
 have HSG:=LH hsg
 have HPL:=LH hP
 have r1:Hid (w.ownsRow B 84 2 v ([(x,l)].map ofC).length (zcd ([(x,l)].map ofC))):=LH hv
 obtain⟨g1,c1,rfl,-,-⟩:=World.ownsRow.form hv (by omega)
 clear hx px bx bl hny hlq hl40 hmk hsg hvv hv hP
 have HSUB:Hid (Calls Tryz.prog 53 #[.slice (some ⟨g1,0,none⟩) 1 c1,.slice none 0 0] w fun e w'=>∃ v',e=.returned (.tuple #[v',.int .i64 0])∧Q w w'∧zbA w' w.heap.size v' x l):=LH (by
  unfold zbA at HMK ⊢
  have hP1:(ofC (x,l)).1=ze x:=rfl
  have hP2:(ofC (x,l)).2=Lib.itoa (l:Int):=rfl
  rw[← hP1,← hP2]at HMK
  rw[← hP1,← hP2]
  clear hP1 hP2 HSG
  have r2:Hid (w.ownsRow B 84 2 (.slice (some ⟨g1,0,none⟩) 1 c1) ([ofC (x,l)]).length (zcd [ofC (x,l)])):=LH r1.out
  clear r1
  generalize ofC (x,l)=P1 at *
  go_enter Tryz.func53,Tryz.ntmps53
  go_wp2_with fail
  refine HB.out.mono ?_
  rintro e w1⟨rfl,hq1⟩
  go_wp2_with fail
  refine(HSC.out _ _).mono ?_
  rintro e w2⟨rfl,hq2⟩
  have hQ2:=Q.trans hq1 hq2
  go_wp2_with fail
  have hb:=Blk.new w2 [.slice (some ⟨g1,0,none⟩) 1 c1,.slice none 0 0] 46
  have hqa:=hQ2.alloc hQ2.size (Obj.cells [.slice (some ⟨g1,0,none⟩) 1 c1,.slice none 0 0].toArray 46)
  refine(HCC.out _ _ _ _ hb (TSl.of_row (zi r2.out hqa))).mono ?_
  rintro e w3⟨v4,rfl,hq3,hr4⟩
  have hQ3:=Q.trans hqa hq3
  obtain⟨g4,c4,rest4,rfl,-,hb4⟩:=zkE (P:=.string ⟨P1.1.toArray⟩) (R:=.string ⟨P1.2.toArray⟩) hr4
  clear hr4
  go_wp2_with fail
  refine(HMK.out rest4 c4 g4 _ _ (hE.q hQ3) hb4).mono ?_
  rintro e w4⟨v5,rfl,hq4,hr5⟩
  have hQ4:=Q.trans hQ3 hq4
  have HR5:=LH (Joins.ownsRow_le hr5 hQ3.size)
  clear hr5
  go_wp2
  go_ret2
  exact⟨_,rfl,hQ4,HR5.out⟩)
 clear HB HSC HCC HMK r1
 go_enter Tryz.func16,Tryz.ntmps16
 go_wp2_with fail
 refine HSUB.out.mono ?_
 rintro e w1⟨v1,rfl,hq1,hr⟩
 have HR:=LH (show w1.ownsRow w.heap.size 84 2 v1 ([(x,l)].map ofC).length (zcd ([(x,l)].map ofC))from hr)
 obtain⟨a,cap,rfl,-,-⟩:=World.ownsRow.form hr (by omega)
 clear hr
 go_wp2_with fail
 refine(HSG.out _ _ (hE.q hq1) (HPL.out.q hE hq1) (TSl.of_row HR.out)).mono ?_
 rintro e w2⟨rfl,hq2⟩
 have hQ2:=Q.trans hq1 hq2
 go_wp2
 go_ret2
 exact⟨rfl,hQ2⟩
theorem zrs(s:Rat)(hs:0<s.num):aOf s*aOf s*(leftOf s:Rat)=s:=by
 obtain⟨C,L,N,D,hN,hD,h,hsd,e1,e2,e3⟩:=zng s hs
 rw[e1,e3]
 have:s=N / D:=by grind
 rw[this]
 grind
theorem zr2{n:Nat}{r:Rat}(hr:Bd n r)(hp:0<r.num):0<(aOf r).num:=by
 obtain⟨h1,-⟩:=zqr hr hp
 exact zby (by have:=(zd6 h1).2.1;omega) r.den_pos
end
end Go.Proofs.YtbpghkdadajomaaGreatDoor
