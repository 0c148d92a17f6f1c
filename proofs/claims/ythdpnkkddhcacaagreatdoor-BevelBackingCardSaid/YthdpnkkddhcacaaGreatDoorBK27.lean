/-
  The law BevelBacking.; slices.Equal at surds of one term that read the same.; The chapter's awake.; What the row lays of the table of bevels.
-/
import Derived.Test.YthdpnkkddhcacaaGreatDoorBK26
import Derived.Test.YthdpnkkddhcacaaGreatDoorBK23
import Derived.Test.YthdpnkkddhcacaaGreatDoorBK25
import Derived.Test.YthdpnkkddhcacaaGreatDoorBKFOW
import Derived.Maps.Keyed
import Derived.WideKeyElems2
set_option maxRecDepth 100000
set_option maxHeartbeats 8000000
namespace Go.Proofs.YthdpnkkddhcacaaGreatDoor
section
open Go.RowKit Go.Shelf Kp
attribute [local go_sem] Oper.semAt_some
theorem zuj(w:World):(Builtin.max_ #[30,30,30,30,30] 30 #[.int .i64 0,.int .i64 0,.int .i64 0,.int .i64 0,.int .i64 0]).run Tryz.prog w=.ok (.int .i64 0) w:=by kernel_rfl
theorem zui(w:World):(Builtin.max_ #[30,30,30,30,30,30,30] 30 #[.int .i64 0,.int .i64 0,.int .i64 0,.int .i64 0,.int .i64 0,.int .i64 0,.int .i64 0]).run Tryz.prog w=.ok (.int .i64 0) w:=by kernel_rfl
theorem zfs(x:Int)(h0:0≤x)(h1:x≤255)(a:Nat)(ha:1+x % 48=a)(w:World) :
  Calls Tryz.prog 4 #[.int .u8 x] w fun e w'=>e=.returned (.int .i64 a)∧w=w':=by
 have e1:x.tmod 48=x % 48:=Int.tmod_eq_emod_of_nonneg h0
 have e2:=Go.IntWalk.i64_in (x % 48) (by omega)
 have e3:=Go.IntWalk.i64_in (1+x % 48) (by omega)
 have e4:=Go.IntWalk.i64_in x (by omega)
 rw[← ha]
 clear ha
 go_enter Tryz.func4,Tryz.ntmps4
 go_wp2
 go_ret
 exact⟨rfl,rfl⟩
theorem Blk.newAt{w:World}{n:Nat}(h:w.heap.size=n)(cs:List Value)(t:TypeId):Blk (w.alloc (.cells cs.toArray t)) n cs t:=by rw[← h];exact Blk.new w cs t
theorem zn3(x0 x1 x2 x3 x4:Int)(h0:0≤x0∧x0≤255)(h1:0≤x1∧x1≤255)(h2:0≤x2∧x2≤255)(h3:0≤x3∧x3≤255)(h4:0≤x4∧x4≤255)(w:World)(hE:Env w)
  (HAw:Hid (∀ w',Q w w'→Calls Tryz.prog 13 #[] w' fun e w''=>e=.returned (.bool true)∧Q w' w'')) :
  CR 3 #[.int .u8 x0,.int .u8 x1,.int .u8 x2,.int .u8 x3,.int .u8 x4] w (.bool true):=by
 have of:∀ x:Int,0≤x∧x≤255→∃ a:Nat,1+x % 48=a∧1≤a∧a≤48:=fun x h=>⟨(1+x % 48).toNat,by omega,by omega,by omega⟩
 obtain⟨a,ea,a1,a2⟩:=of x0 h0
 obtain⟨b,eb,b1,b2⟩:=of x1 h1
 obtain⟨c,ec,c1,c2⟩:=of x2 h2
 obtain⟨d,ed,d1,d2⟩:=of x3 h3
 have HA:=LH (fun w=>zfs x0 h0.1 h0.2 a ea w)
 have HB:=LH (fun w=>zfs x1 h1.1 h1.2 b eb w)
 have HC:=LH (fun w=>zfs x2 h2.1 h2.2 c ec w)
 have HD:=LH (fun w=>zfs x3 h3.1 h3.2 d ed w)
 have hs:=fun w hw=>zof a b a1 a2 b1 b2 w hw
 have ht:=fun w hw=>zof c d c1 c2 d1 d2 w hw
 have hq:=zsI a1 a2 b1 b2
 have hr:=zsI c1 c2 d1 d2
 have pa:Pt (a:Int) b:=⟨by omega,by omega,by omega,by omega⟩
 have pc:Pt (c:Int) d:=⟨by omega,by omega,by omega,by omega⟩
 obtain⟨q,hqe⟩:∃ q,Rat.divInt (a:Int) (b:Int)=q:=⟨_,rfl⟩
 obtain⟨r,hre⟩:∃ r,Rat.divInt (c:Int) (d:Int)=r:=⟨_,rfl⟩
 obtain⟨z,hze⟩:∃ z:Rat,((1+x4:Int):Rat)=z:=⟨_,rfl⟩
 rw[hqe]at hs hq
 rw[hre]at ht hr
 have z0:0<z:=by rw[← hze];exact Rat.intCast_pos.2 (by omega)
 have bz:Bd 3 z:=by rw[← hze];exact zmI (by omega) (by decide)
 have ho:=fun w=>zma (1+x4) (by omega) w
 rw[hze]at ho
 have HD1:=LH (fun w=>zef z q (by have:=npos z0;omega) (npos hq.pos) bz (hq.bd.mono (by decide)) w)
 have HD2:=LH (fun w=>zef z r (by have:=npos z0;omega) (npos hr.pos) bz (hr.bd.mono (by decide)) w)
 have HD3:=LH (fun w=>zef q r (by have:=npos hq.pos;omega) (npos hr.pos) (hq.bd.mono (by decide)) (hr.bd.mono (by decide)) w)
 have HD4:=LH (fun w=>zef r q (by have:=npos hr.pos;omega) (npos hq.pos) (hr.bd.mono (by decide)) (hq.bd.mono (by decide)) w)
 have k3:=fun av nn cp w hv W hE hqw=>znX pa pc hq hr z0 bz av nn cp w hv hqe.symm W hE hqw
 have k0:=fun av nn cp w hv W hE hqw=>znZ pa pc hq hr z0 bz av nn cp w hv hre.symm W hE hqw
 have k1:=fun av nn cp w hv W hE hqw=>znY pa pc hq hr z0 bz av nn cp w hv W hE hqw
 obtain⟨c3p,c3b,c3e⟩:=zuq hq hr z0 bz
 obtain⟨c0p,c0b,c0e⟩:=zur hq hr z0 bz
 have m3:=fun B1 B2 v1 v2 w hE h1 h2=>zsS hq hr z0 bz c3p c3b B1 B2 v1 v2 w hE h1 h2
 have m0:=fun B1 B2 v1 v2 w hE h1 h2=>zsS hq hr z0 bz c0p c0b B1 B2 v1 v2 w hE h1 h2
 rw[c3e]at m3
 rw[c0e]at m0
 have EQ3:=LH (fun B1 v1 w w0 hE hw hv=>zoM (zbV hq.pos hr.pos) (hq.bd.quot hr.bd (npos hr.pos)) (by decide) (by decide) B1 v1 w w0 hE hw hv)
 have EQ0:=LH (fun B1 v1 w w0 hE hw hv=>zoM (zbV hr.pos hq.pos) (hr.bd.quot hq.bd (npos hq.pos)) (by decide) (by decide) B1 v1 w w0 hE hw hv)
 have HL:=LH (fun w hw=>zl0 q r hq hr w hw)
 have hc:(bkM q r z).c=[.int .i64 6,.int .i64 3,.int .i64 0,.string ⟨#[48]⟩,.string ⟨#[48]⟩,.string ⟨#[48]⟩,.string ⟨(ze (z / q)).toArray⟩,.string ⟨(ze (z / r)).toArray⟩,.string ⟨(ze z).toArray⟩,.int .i64 50,.int .i64 100]:=by
  unfold bkM Vm.c bkD
  simp only[zaw]
 rw[hc]at k3 k0 k1
 have HME:=LH (fun w=>ze4 6 3 0 [48] [48] [48] (ze (z / q)) (ze (z / r)) (ze z) w)
 have HS:=LH hs
 have HT:=LH ht
 have HO:=LH ho
 have K3:=LH k3
 have K0:=LH k0
 have K1:=LH k1
 have M3:=LH m3
 have M0:=LH m0
 clear of ea eb ec ed h0 h1 h2 h3 hs ht ho k3 k0 k1 m3 m0 c3p c3b c3e c0p c0b c0e hc hqe hre hze hq hr z0 bz pa pc
 generalize bkL (q*(z / r)) q r z=L3 at *
 generalize bkL (r*(z / q)) q r z=L0 at *
 generalize zpF q r=LL at *
 generalize ze (z / q)=ZQ at *
 generalize ze (z / r)=ZR at *
 generalize ze (q / r)=QR at *
 generalize ze (r / q)=RQ at *
 generalize ze q=X at *
 generalize ze r=Y at *
 generalize ze z=Z at *
 have hmax5:=zuj
 have hmax7:=zui
 have u1:=Go.IntWalk.i64_in x4 (by omega)
 have u2:=Go.IntWalk.i64_in (1+x4) (by omega)
 go_enter Tryz.func3,Tryz.ntmps3
 go_wp2_with fail
 refine(HA.out _).mono ?_
 rintro e w1⟨rfl,rfl⟩
 go_wp2_with fail
 refine(HB.out _).mono ?_
 rintro e w1⟨rfl,rfl⟩
 go_wp2_with fail
 refine(HC.out _).mono ?_
 rintro e w1⟨rfl,rfl⟩
 go_wp2_with fail
 refine(HD.out _).mono ?_
 rintro e w1⟨rfl,rfl⟩
 clear HA HB HC HD
 go_wp2_with fail
 obtain⟨W4,hW4⟩:∃ W4,((((w.alloc (.cells #[.int .i64 0,.int .i64 1000,.int .i64 a,.int .i64 b,.bool false,.int .i64 0,.int .i64 0] 24)).alloc (.cells #[.int .i64 0,.int .i64 0,.int .i64 c,.int .i64 d,.bool false,.int .i64 0,.int .i64 0] 24)).alloc (.cells #[.int .i64 0,.int .i64 0,.int .i64 c,.int .i64 d,.bool false,.int .i64 0,.int .i64 0,.int .i64 1000,.int .i64 0,.int .i64 0,.int .i64 0,.bool true,.int .i64 0,.int .i64 0,.int .i64 1000,.int .i64 1000,.int .i64 0,.int .i64 0,.bool true,.int .i64 0,.int .i64 0,.int .i64 0,.int .i64 1000,.int .i64 a,.int .i64 b,.bool false,.int .i64 0,.int .i64 0] 24)).alloc (.cells #[.slice (some ⟨w.heap.size+1+1,0,none⟩) 4 4] 25)).alloc (.cells #[.slice (some ⟨w.heap.size+1+1+1,0,none⟩) 1 1] 28)=W4:=⟨_,rfl⟩
 have BS:Blk W4 w.heap.size [.int .i64 0,.int .i64 1000,.int .i64 a,.int .i64 b,.bool false,.int .i64 0,.int .i64 0] 24:=by rw[← hW4];exact((((Blk.new w _ _).alloc _).alloc _).alloc _).alloc _
 have BT:Blk W4 (w.heap.size+1) [.int .i64 0,.int .i64 0,.int .i64 c,.int .i64 d,.bool false,.int .i64 0,.int .i64 0] 24:=by rw[← hW4];exact(((Blk.new1 w _ _ _).alloc _).alloc _).alloc _
 have BR:Blk W4 (w.heap.size+1+1) [.int .i64 0,.int .i64 0,.int .i64 c,.int .i64 d,.bool false,.int .i64 0,.int .i64 0,.int .i64 1000,.int .i64 0,.int .i64 0,.int .i64 0,.bool true,.int .i64 0,.int .i64 0,.int .i64 1000,.int .i64 1000,.int .i64 0,.int .i64 0,.bool true,.int .i64 0,.int .i64 0,.int .i64 0,.int .i64 1000,.int .i64 a,.int .i64 b,.bool false,.int .i64 0,.int .i64 0] 24:=by rw[← hW4];exact((Blk.new2 w _ _ _ _).alloc _).alloc _
 have BL:Blk W4 (w.heap.size+1+1+1) [.slice (some ⟨w.heap.size+1+1,0,none⟩) 4 4] 25:=by rw[← hW4];exact(Blk.newAt (by simp) _ _).alloc _
 have BP:Blk W4 (w.heap.size+1+1+1+1) [.slice (some ⟨w.heap.size+1+1+1,0,none⟩) 1 1] 28:=by rw[← hW4];exact Blk.newAt (by simp) _ _
 have hq4:Q w W4:=by rw[← hW4];exact bt
 have hrow:zcu 7 sdC W4 (.slice (some ⟨w.heap.size+1+1,0,none⟩) 4 4) (bkR a b c d) :=
  zcu.of_row (B:=0) zhe (l:=bkR a b c d) ⟨rfl,.inr ⟨w.heap.size+1+1,4,_,rfl,Nat.zero_le _,BR,Nat.le_refl 4,by unfold maxLen;decide,rfl,rfl⟩⟩
 have hv:zgb W4 (.slice (some ⟨w.heap.size+1+1+1,0,none⟩) 1 1) [bkR a b c d]:=by
  refine⟨_,_,rfl,fun i hi=>?_⟩
  simp only[List.length_cons,List.length_nil]at hi
  obtain rfl:i=0:=by omega
  exact⟨w.heap.size+1+1+1,0,_,rfl,BL.lt,BL.cell 0,hrow⟩
 have HV:=LH hv
 rw[hW4]
 clear hW4 hv hrow BR BL
 generalize w.heap.size+1+1+1+1=gp at *
 generalize w.heap.size+1+1+1=gl at *
 generalize w.heap.size+1+1=gr at *
 generalize w.heap.size+1=gt at *
 refine cx (HS.out _ (hE.ofQ hq4)) fun G1 hg1=>?_
 replace BT:=BT.keep hg1 BT.lt
 replace BP:=BP.keep hg1 BP.lt
 have hQ1:=Q.trans hq4 hg1
 have hP1:=hg1
 clear HS BS hg1
 have hQ0:=Q.refl G1
 replace t0:=BT.cell 0
 replace t1:=BT.cell 1
 replace t2:=BT.cell 2
 replace t3:=BT.cell 3
 replace t4:=BT.cell 4
 replace t5:=BT.cell 5
 replace t6:=BT.cell 6
 simp only[zs4,zs5]at t0 t1 t2 t3 t4 t5 t6
 replace lBT:=BT.lt
 go_wp2_with fail
 refine cx (HT.out _ (hE.ofQ hQ1)) fun G2 hg2=>?_
 replace BP:=BP.keep hg2 BP.lt
 have hQ2:=Q.trans hQ1 hg2
 have hP2:=Q.trans hP1 hg2
 clear HT BT hg2 hQ1 hP1 t0 t1 t2 t3 t4 t5 t6 lBT hQ0
 go_wp2_with fail
 refine cx (HO.out _) fun G3 hg3=>?_
 go_wp2_with fail
 refine cx (HD1.out _) fun G4 hg4=>?_
 go_wp2_with fail
 refine cx (HD2.out _) fun G5 hg5=>?_
 go_wp2_with fail
 refine cx (HME.out _) fun G6 hg6=>?_
 have hg:=Q.trans hg3 (Q.trans hg4 (Q.trans hg5 hg6))
 replace BP:=BP.keep hg BP.lt
 have hQ6:=Q.trans hQ2 hg
 have hP6:=Q.trans hP2 hg
 clear HO HD1 HD2 HME hg hg3 hg4 hg5 hg6 hQ2 hP2 u1 u2 h4 hmax5
 obtain⟨W7,hW7⟩:∃ W7,G6.alloc (.cells #[.int .i64 6,.int .i64 3,.int .i64 0,.string ⟨#[48]⟩,.string ⟨#[48]⟩,.string ⟨#[48]⟩,.string ⟨ZQ.toArray⟩,.string ⟨ZR.toArray⟩,.string ⟨Z.toArray⟩,.int .i64 50,.int .i64 100] 37)=W7:=⟨_,rfl⟩
 have BM:Blk W7 G6.heap.size [.int .i64 6,.int .i64 3,.int .i64 0,.string ⟨#[48]⟩,.string ⟨#[48]⟩,.string ⟨#[48]⟩,.string ⟨ZQ.toArray⟩,.string ⟨ZR.toArray⟩,.string ⟨Z.toArray⟩,.int .i64 50,.int .i64 100] 37:=by rw[← hW7];exact Blk.new G6 _ _
 have hq7:Q G6 W7:=by rw[← hW7];exact bt
 replace BP:=BP.keep hq7 BP.lt
 have hQ7:=Q.trans hQ6 hq7
 have hP7:=Q.trans hP6 hq7
 clear hQ6 hP6 hq7
 have hQ0:=Q.refl W7
 replace p0:=BP.cell
 replace lBP:=BP.lt
 replace m0:=BM.cell 0
 replace m1:=BM.cell 1
 replace m2:=BM.cell 2
 replace m3:=BM.cell 3
 replace m4:=BM.cell 4
 replace m5:=BM.cell 5
 replace m6:=BM.cell 6
 replace m7:=BM.cell 7
 replace m8:=BM.cell 8
 replace m9:=BM.cell 9
 replace m10:=BM.cell 10
 simp only[zs4,zs5]at m0 m1 m2 m3 m4 m5 m6 m7 m8 m9 m10
 replace lBM:=BM.lt
 go_wp2_with fail
 refine(K3.out _ _ _ _ HV.out _ (hE.ofQ hQ7) hP7).mono ?_
 rintro e G8⟨v3,rfl,hg8,hs3⟩
 replace BP:=BP.keep hg8 BP.lt
 replace BM:=BM.keep hg8 BM.lt
 have hQ8:=Q.trans hQ7 hg8
 have hP8:=Q.trans hP7 hg8
 clear hW7 K3 hg8 hQ7 hP7 p0 lBP m0 m1 m2 m3 m4 m5 m6 m7 m8 m9 m10 lBM hQ0
 have hQ0:=Q.refl G8
 replace p0:=BP.cell
 replace lBP:=BP.lt
 replace m0:=BM.cell 0
 replace m1:=BM.cell 1
 replace m2:=BM.cell 2
 replace m3:=BM.cell 3
 replace m4:=BM.cell 4
 replace m5:=BM.cell 5
 replace m6:=BM.cell 6
 replace m7:=BM.cell 7
 replace m8:=BM.cell 8
 replace m9:=BM.cell 9
 replace m10:=BM.cell 10
 simp only[zs4,zs5]at m0 m1 m2 m3 m4 m5 m6 m7 m8 m9 m10
 replace lBM:=BM.lt
 go_wp2_with fail
 refine(K0.out _ _ _ _ HV.out _ (hE.ofQ hQ8) hP8).mono ?_
 rintro e G9⟨v0,rfl,hg9,hs0⟩
 replace BP:=BP.keep hg9 BP.lt
 replace BM:=BM.keep hg9 BM.lt
 replace hs3:=zH.keep hs3 hg9
 have hQ9:=Q.trans hQ8 hg9
 have hP9:=Q.trans hP8 hg9
 clear K0 hg9 hQ8 hP8 p0 lBP m0 m1 m2 m3 m4 m5 m6 m7 m8 m9 m10 lBM hQ0
 have hQ0:=Q.refl G9
 replace p0:=BP.cell
 replace lBP:=BP.lt
 replace m0:=BM.cell 0
 replace m1:=BM.cell 1
 replace m2:=BM.cell 2
 replace m3:=BM.cell 3
 replace m4:=BM.cell 4
 replace m5:=BM.cell 5
 replace m6:=BM.cell 6
 replace m7:=BM.cell 7
 replace m8:=BM.cell 8
 replace m9:=BM.cell 9
 replace m10:=BM.cell 10
 simp only[zs4,zs5]at m0 m1 m2 m3 m4 m5 m6 m7 m8 m9 m10
 replace lBM:=BM.lt
 go_wp2_with fail
 refine cx (K1.out _ _ _ _ HV.out _ (hE.ofQ hQ9) hP9) fun G10 hg10=>?_
 have hQ10:=Q.trans hQ9 hg10
 clear K1 BP BM hP9 HV p0 lBP m0 m1 m2 m3 m4 m5 m6 m7 m8 m9 m10 lBM hQ0
 go_wp2_with fail
 refine(HL.out _ (hE.ofQ hQ10)).mono ?_
 rintro e G11⟨vl,rfl,hg11,hsl⟩
 have hQ11:=Q.trans hQ10 hg11
 have t3:=zH.keep hs3 (Q.trans hg10 hg11)
 have t0:=zH.keep hs0 (Q.trans hg10 hg11)
 clear HL hs3 hs0 hg10 hg11 hQ9 hQ10
 go_wp2_with fail
 refine(M3.out _ _ _ _ _ (hE.ofQ hQ11) t3 hsl).mono ?_
 rintro e G12⟨n3,rfl,hg12,hn3⟩
 have hQ12:=Q.trans hQ11 hg12
 have t0':=zH.keep t0 hg12
 have hsl':=zH.keep hsl hg12
 clear M3 t0 hsl t3 hQ11 hg12
 go_wp2_with fail
 refine(M0.out _ _ _ _ _ (hE.ofQ hQ12) t0' hsl').mono ?_
 rintro e G13⟨n0,rfl,hg13,hn0⟩
 have hQ13:=Q.trans hQ12 hg13
 have hn3':=zH.keep hn3 hg13
 clear M0 t0' hsl' hn3 hQ12 hg13
 go_wp2_with fail
 refine cx (HD3.out _) fun G14 hg14=>?_
 go_wp2_with fail
 refine cx (HD4.out _) fun G15 hg15=>?_
 have hg:=Q.trans hg14 hg15
 have hQ15:=Q.trans hQ13 hg
 have i3:=zH.keep hn3' hg
 have i0:=zH.keep hn0 hg
 clear HD3 HD4 hn3' hn0 hg hg14 hg15 hQ13
 have hqa:Q G15 (G15.alloc (.cells #[.string ⟨QR.toArray⟩,.string ⟨#[49]⟩] 47)):=bt
 have hEQ:=LH (EQ3.out _ n3 _ G15 (hE.ofQ (Q.trans hQ15 hqa)) rfl (zH.keep i3 hqa))
 go_wp2_with fail
 refine hEQ.out.mono ?_
 rintro e G16⟨rfl,hg16⟩
 have hQ16:=Q.trans hQ15 (Q.trans hqa hg16)
 have hqb:Q G16 (G16.alloc (.cells #[.string ⟨RQ.toArray⟩,.string ⟨#[49]⟩] 47)):=bt
 have hEQ2:=LH (EQ0.out _ n0 _ G16 (hE.ofQ (Q.trans hQ16 hqb)) rfl (zH.keep i0 (Q.trans hqa (Q.trans hg16 hqb))))
 clear hEQ EQ3 EQ0 i3 i0 hqa hg16 hQ15
 go_wp2_with fail
 refine hEQ2.out.mono ?_
 rintro e G17⟨rfl,hg17⟩
 have hQ17:=Q.trans hQ16 (Q.trans hqb hg17)
 go_wp2_with fail
 refine cx (HAw.out _ hQ17) fun G18 hg18=>?_
 have hQe:=Q.trans hQ17 hg18
 go_wp2
 go_ret
 exact⟨rfl,hQe⟩
theorem znP(A B:Str)(w:World):(Op.equalIn 10000 47 (.agg #[.string ⟨A.toArray⟩,.string ⟨B.toArray⟩]) (.agg #[.string ⟨A.toArray⟩,.string ⟨B.toArray⟩])).run Tryz.prog w=.ok true w:=by
 have u3:=Tryz.underlying29
 have a3:=Tryz.isAgg29
 have z3:=Tryz.sizeOf29
 rw[show (10000:Nat)=9999+1 from rfl,Op.equalIn]
 simp only[Sem.run_bind,run_underlying Tryz.underlying47,Result.andThen_ok]
 go_simp
theorem zq9(s1 s2:Str)(B1 B2:Nat)(v1 v2:Value)(w:World)(h1:TSl w B1 v1 [(s1,s2)])(h2:TSl w B2 v2 [(s1,s2)]) :
  CR 46 #[v1,v2] w (.bool true):=by
 obtain⟨a1,c1,rfl,-,k1⟩:=h1
 obtain⟨a2,c2,rfl,-,k2⟩:=h2
 obtain⟨b1,o1,rfl,l1,e1,e2⟩:=k1 0 (by simp)
 obtain⟨b2,o2,rfl,l2,f1,f2⟩:=k2 0 (by simp)
 rw[Nat.zero_mul,Nat.add_zero]at e1 e2 f1 f2
 have hq:=fun w=>znP s1 s2 w
 simp only[List.getD_cons_zero]at e1 e2 f1 f2
 clear k1 k2
 go_enter Tryz.func46,Tryz.ntmps46
 go_wp2
 refine wp_loop_rounds 2 ?_
 rw[rounds_succ]
 go_wp2_with fail
 have d1:w.drew.cell? ⟨b1,o1,none⟩=some (.string ⟨s1.toArray⟩):=e1
 have d2:w.drew.cell? ⟨b1,o1+1,none⟩=some (.string ⟨s2.toArray⟩):=e2
 have g1:w.drew.cell? ⟨b2,o2,none⟩=some (.string ⟨s1.toArray⟩):=f1
 have g2:w.drew.cell? ⟨b2,o2+1,none⟩=some (.string ⟨s2.toArray⟩):=f2
 refine zm 9 rfl (by kernel_rfl) rfl ?_
 refine svp 0 ?_
 refine svp 1 ?_
 refine svp 2 ?_
 refine svq 3 rfl (by intro w' hq;have hc0:=za hq d1;have hc1:=za hq d2;go_simp;try with_reducible rfl) ?_
 refine svp 4 ?_
 refine svp 5 ?_
 refine svp 6 ?_
 refine svq 7 rfl (by intro w' hq;have hc0:=za hq g1;have hc1:=za hq g2;go_simp;try with_reducible rfl) ?_
 refine svp 8 ?_
 refine zi (by kernel_rfl) (fun w3 hq3=>?_)
 simp only[List.drop_succ_cons,List.drop_nil]
 have hQ:Q w w3:=Q.trans (Below.drew (Q.refl w)) hq3
 clear d1 d2 g1 g2 e1 e2 f1 f2
 go_wp2
 rw[rounds_succ]
 go_wp2
 go_ret
 exact⟨rfl,hQ⟩
theorem zmi{P:Program}{R:Exit→Act→World→Prop}{op:Oper}{a:Act}{w:World}{K:Act→World→Prop}{g:FuncId}{args:Array Value}(hx:(execOp a.eval op).run P w=.ok (.enter g args) w)(h:Calls P g args w fun e w''=>∃ v,e=.returned v∧K (a.put op.dst v) w''):Oper.wp P op a w K R:=by
 unfold Oper.wp
 rw[hx]
 refine h.mono fun e w'' he=>?_
 obtain⟨v,rfl,h2⟩:=he
 exact h2
theorem zH.str{w:World}{B:Nat}{v:Value}{c:Rat × Nat}{s1 s2:Str}(h:zH w B v [c])(e:ofC c=(s1,s2)):TSl w w.heap.size v [(s1,s2)]:=by
 have:=h.tsl
 rw[List.map_cons,List.map_nil,e]at this
 exact this
theorem zH.setB{w:World}{p B i:Nat}{cs:List Value}{v x:Value}{L:List (Rat × Nat)}(h:zH w B v L)(hb:Blk w p cs 85):zH (w.setCell ⟨p,i,none⟩ x) B v L:=by
 refine⟨h.1,h.2.elim .inl ?_⟩
 rintro⟨g,cap,cur,hv,hg,hc,r⟩
 refine .inr ⟨g,cap,cur,hv,hg,?_,r⟩
 have hne:g≠p:=by
  rintro rfl
  unfold Blk at hb
  rw[hb]at hc
  simp at hc
 rw[zjN hne]
 exact hc
theorem zH.setB5{w:World}{p B:Nat}{cs:List Value}{v:Value}{L:List (Rat × Nat)}(x y z u t:Value)(h:zH w B v L)(hb:Blk w p cs 85):zH (((((w.setCell ⟨p,0,none⟩ x).setCell ⟨p,1,none⟩ y).setCell ⟨p,2,none⟩ z).setCell ⟨p,3,none⟩ u).setCell ⟨p,4,none⟩ t) B v L :=
 ((((h.setB hb).setB (hb.set 0 x)).setB ((hb.set 0 x).set 1 y)).setB (((hb.set 0 x).set 1 y).set 2 z)).setB ((((hb.set 0 x).set 1 y).set 2 z).set 3 u)
theorem zrV{b g:Nat}{x y z u v:Value}(hg:b≤g)(w:World):(zp4 b).r w (((((w.setCell ⟨g,0,none⟩ x).setCell ⟨g,1,none⟩ y).setCell ⟨g,2,none⟩ z).setCell ⟨g,3,none⟩ u).setCell ⟨g,4,none⟩ v):=fun _ =>
 (((((Below.refl _ _).setCell (p:=⟨g,0,none⟩) hg _).setCell (p:=⟨g,1,none⟩) hg _).setCell (p:=⟨g,2,none⟩) hg _).setCell (p:=⟨g,3,none⟩) hg _).setCell (p:=⟨g,4,none⟩) hg _
theorem ztM(w:World)(hE:Env w)(hA:zjV w):CR 13 #[] w (.bool true):=by
 have H1:=LH (fun w=>ze4 2 1 (-1) [49,48] [53] [48] [54] [53] [51] w)
 have H2:=LH (fun w=>ze4 6 3 0 [48] [48] [48] [52] [52] [52] w)
 have hs:=ztu
 have hp:=zsd
 have hc:=zse
 have ho:=zuG
 rw[zuF]at hs hp hc
 rw[zun]at hc ho
 have HS:=LH hs
 have HP:=LH hp
 have HC:=LH hc
 have HO:=LH ho
 have HQ:=LH zmA
 clear hs hp hc ho
 go_enter Tryz.func13,Tryz.ntmps13
 go_wp2_with fail
 refine cx (H1.out _) fun w1 hq1=>?_
 go_wp2_with fail
 refine cx (H2.out _) fun w2 hq2=>?_
 clear H1 H2
 have BM0:=(Blk.new w1 [.int .i64 2,.int .i64 1,.int .i64 (-1),.string ⟨#[49,48]⟩,.string ⟨#[53]⟩,.string ⟨#[48]⟩,.string ⟨#[54]⟩,.string ⟨#[53]⟩,.string ⟨#[51]⟩,.int .i64 50,.int .i64 100] 37).keep hq2 (by simp)
 obtain⟨W3,hW3⟩:∃ W3,w2.alloc (.cells #[.int .i64 6,.int .i64 3,.int .i64 0,.string ⟨#[48]⟩,.string ⟨#[48]⟩,.string ⟨#[48]⟩,.string ⟨#[52]⟩,.string ⟨#[52]⟩,.string ⟨#[52]⟩,.int .i64 50,.int .i64 100] 37)=W3:=⟨_,rfl⟩
 have BM:Blk W3 w1.heap.size [.int .i64 2,.int .i64 1,.int .i64 (-1),.string ⟨#[49,48]⟩,.string ⟨#[53]⟩,.string ⟨#[48]⟩,.string ⟨#[54]⟩,.string ⟨#[53]⟩,.string ⟨#[51]⟩,.int .i64 50,.int .i64 100] 37:=by rw[← hW3];exact BM0.alloc _
 have BH:Blk W3 w2.heap.size [.int .i64 6,.int .i64 3,.int .i64 0,.string ⟨#[48]⟩,.string ⟨#[48]⟩,.string ⟨#[48]⟩,.string ⟨#[52]⟩,.string ⟨#[52]⟩,.string ⟨#[52]⟩,.int .i64 50,.int .i64 100] 37:=by rw[← hW3];exact Blk.new w2 _ _
 have hq3:Q w W3:=Q.trans hq1 (Q.trans bt (Q.trans hq2 (by rw[← hW3];exact bt)))
 clear BM0 hq1 hq2
 have hQ0:=Q.refl W3
 replace m0:=BM.cell 0
 replace m1:=BM.cell 1
 replace m2:=BM.cell 2
 replace m3:=BM.cell 3
 replace m4:=BM.cell 4
 replace m5:=BM.cell 5
 replace m6:=BM.cell 6
 replace m7:=BM.cell 7
 replace m8:=BM.cell 8
 replace m9:=BM.cell 9
 replace m10:=BM.cell 10
 simp only[zs4,zs5]at m0 m1 m2 m3 m4 m5 m6 m7 m8 m9 m10
 replace lBM:=BM.lt
 replace h0:=BH.cell 0
 replace h1:=BH.cell 1
 replace h2:=BH.cell 2
 replace h3:=BH.cell 3
 replace h4:=BH.cell 4
 replace h5:=BH.cell 5
 replace h6:=BH.cell 6
 replace h7:=BH.cell 7
 replace h8:=BH.cell 8
 replace h9:=BH.cell 9
 replace h10:=BH.cell 10
 simp only[zs4,zs5]at h0 h1 h2 h3 h4 h5 h6 h7 h8 h9 h10
 replace lBH:=BH.lt
 go_wp2_with fail
 clear hW3
 refine(HS.out _ (hE.ofQ hq3)).mono ?_
 rintro e G1⟨v1,rfl,hg1,hs1⟩
 replace BM:=BM.keep hg1 BM.lt
 replace BH:=BH.keep hg1 BH.lt
 have hQ1:=Q.trans hq3 hg1
 clear HS hq3 hg1 hQ0 m0 m1 m2 m3 m4 m5 m6 m7 m8 m9 m10 lBM h0 h1 h2 h3 h4 h5 h6 h7 h8 h9 h10 lBH
 have hQ0:=Q.refl G1
 replace m0:=BM.cell 0
 replace m1:=BM.cell 1
 replace m2:=BM.cell 2
 replace m3:=BM.cell 3
 replace m4:=BM.cell 4
 replace m5:=BM.cell 5
 replace m6:=BM.cell 6
 replace m7:=BM.cell 7
 replace m8:=BM.cell 8
 replace m9:=BM.cell 9
 replace m10:=BM.cell 10
 simp only[zs4,zs5]at m0 m1 m2 m3 m4 m5 m6 m7 m8 m9 m10
 replace lBM:=BM.lt
 replace h0:=BH.cell 0
 replace h1:=BH.cell 1
 replace h2:=BH.cell 2
 replace h3:=BH.cell 3
 replace h4:=BH.cell 4
 replace h5:=BH.cell 5
 replace h6:=BH.cell 6
 replace h7:=BH.cell 7
 replace h8:=BH.cell 8
 replace h9:=BH.cell 9
 replace h10:=BH.cell 10
 simp only[zs4,zs5]at h0 h1 h2 h3 h4 h5 h6 h7 h8 h9 h10
 replace lBH:=BH.lt
 go_wp2_with fail
 refine(HP.out _ (hE.ofQ hQ1)).mono ?_
 rintro e G2⟨v2,rfl,hg2,hs2⟩
 replace BM:=BM.keep hg2 BM.lt
 replace BH:=BH.keep hg2 BH.lt
 replace hs1:=zH.keep hs1 hg2
 have hQ2:=Q.trans hQ1 hg2
 clear HP hQ1 hg2 hQ0 m0 m1 m2 m3 m4 m5 m6 m7 m8 m9 m10 lBM h0 h1 h2 h3 h4 h5 h6 h7 h8 h9 h10 lBH
 have hQ0:=Q.refl G2
 replace m0:=BM.cell 0
 replace m1:=BM.cell 1
 replace m2:=BM.cell 2
 replace m3:=BM.cell 3
 replace m4:=BM.cell 4
 replace m5:=BM.cell 5
 replace m6:=BM.cell 6
 replace m7:=BM.cell 7
 replace m8:=BM.cell 8
 replace m9:=BM.cell 9
 replace m10:=BM.cell 10
 simp only[zs4,zs5]at m0 m1 m2 m3 m4 m5 m6 m7 m8 m9 m10
 replace lBM:=BM.lt
 replace h0:=BH.cell 0
 replace h1:=BH.cell 1
 replace h2:=BH.cell 2
 replace h3:=BH.cell 3
 replace h4:=BH.cell 4
 replace h5:=BH.cell 5
 replace h6:=BH.cell 6
 replace h7:=BH.cell 7
 replace h8:=BH.cell 8
 replace h9:=BH.cell 9
 replace h10:=BH.cell 10
 simp only[zs4,zs5]at h0 h1 h2 h3 h4 h5 h6 h7 h8 h9 h10
 replace lBH:=BH.lt
 go_wp2_with fail
 have hQd:Q w G2.drew:=Q.trans hQ2 (Below.drew (Q.refl G2))
 refine zm 9 rfl (by kernel_rfl) rfl ?_
 refine svq 1 rfl (by intro w' hq;have hc0:=za hq m0;have hc1:=za hq m1;have hc2:=za hq m2;have hc3:=za hq m3;have hc4:=za hq m4;have hc5:=za hq m5;have hc6:=za hq m6;have hc7:=za hq m7;have hc8:=za hq m8;have hc9:=za hq m9;have hc10:=za hq m10;go_simp;try with_reducible rfl) ?_
 refine svq 2 rfl (by intro w' hq;have hc0:=za hq h0;have hc1:=za hq h1;have hc2:=za hq h2;have hc3:=za hq h3;have hc4:=za hq h4;have hc5:=za hq h5;have hc6:=za hq h6;have hc7:=za hq h7;have hc8:=za hq h8;have hc9:=za hq h9;have hc10:=za hq h10;go_simp;try with_reducible rfl) ?_
 refine zZ (i:=0) rfl rfl (by kernel_rfl) (by rfl) (fun w' hq=>by go_simp;try with_reducible rfl) (fun w6 hq6=>(HQ.out w6).mono ?_)
 rintro e w7⟨a1,n1,c1,rfl,hq7,hv1⟩
 refine⟨_,rfl,hq7,?_⟩
 simp only[Act.put,zs1,zs2,zs3]
 have hQ7:Q w w7:=Q.trans hQd (Q.trans hq6 hq7)
 refine zZ (i:=3) rfl rfl (by kernel_rfl) (by rfl) (fun w' hq=>by go_simp;try with_reducible rfl) (fun w8 hq8=>(HC.out a1 n1 c1 w8 (hE.ofQ (Q.trans hQ7 hq8)) (hv1.keep hq8)).mono ?_)
 rintro e w9⟨v3,rfl,hq9,hs3⟩
 refine⟨_,rfl,hq9,?_⟩
 simp only[Act.put,zs1,zs2,zs3]
 refine svp 4 ?_
 refine svp 5 ?_
 refine svp 6 ?_
 refine svp 7 ?_
 refine svp 8 ?_
 refine zi (by kernel_rfl) (fun w10 hq10=>?_)
 simp only[List.drop_succ_cons,List.drop_nil]
 have hgq:Q G2 w10:=Q.trans (Below.drew (Q.refl G2)) (Q.trans hq6 (Q.trans hq7 (Q.trans hq8 (Q.trans hq9 hq10))))
 have hQ:Q w w10:=Q.trans hQ2 hgq
 replace BH:=BH.keep hgq BH.lt
 replace hs1:=zH.keep hs1 hgq
 replace hs2:=zH.keep hs2 hgq
 replace hs3:=zH.keep hs3 hq10
 clear HC hgq hq10 hq9 hq8 hQ7 hv1 hq7 hq6 hQd hQ2 hQ0 m0 m1 m2 m3 m4 m5 m6 m7 m8 m9 m10 lBM h0 h1 h2 h3 h4 h5 h6 h7 h8 h9 h10 lBH BM
 have hQ0:=Q.refl w10
 replace h0:=BH.cell 0
 replace h1:=BH.cell 1
 replace h2:=BH.cell 2
 replace h3:=BH.cell 3
 replace h4:=BH.cell 4
 replace h5:=BH.cell 5
 replace h6:=BH.cell 6
 replace h7:=BH.cell 7
 replace h8:=BH.cell 8
 replace h9:=BH.cell 9
 replace h10:=BH.cell 10
 simp only[zs4,zs5]at h0 h1 h2 h3 h4 h5 h6 h7 h8 h9 h10
 replace lBH:=BH.lt
 have hQd:Q w w10.drew:=Q.trans hQ (Below.drew (Q.refl w10))
 go_wp2_with fail
 refine RF.zm (ρ:=zp4 w10.drew.heap.size) 10 (by kernel_rfl) (by kernel_rfl) rfl ?_
 refine RF.svq 2 rfl (by intro w' hq;have hc0:=za (hq (Nat.le_refl _)) h0;have hc1:=za (hq (Nat.le_refl _)) h1;have hc2:=za (hq (Nat.le_refl _)) h2;have hc3:=za (hq (Nat.le_refl _)) h3;have hc4:=za (hq (Nat.le_refl _)) h4;have hc5:=za (hq (Nat.le_refl _)) h5;have hc6:=za (hq (Nat.le_refl _)) h6;have hc7:=za (hq (Nat.le_refl _)) h7;have hc8:=za (hq (Nat.le_refl _)) h8;have hc9:=za (hq (Nat.le_refl _)) h9;have hc10:=za (hq (Nat.le_refl _)) h10;go_simp;try with_reducible rfl) ?_
 clear h0 h1 h2 h3 h4 h5 h6 h7 h8 h9 h10 lBH BH
 replace hs1:zH w10.drew _ _ _:=hs1
 replace hs2:zH w10.drew _ _ _:=hs2
 replace hs3:zH w10.drew _ _ _:=hs3
 have hD:Q w10.drew w10.drew:=Q.refl _
 refine RF.steadily_both (i:=0) (j:=7) rfl rfl rfl rfl (by kernel_rfl) (by rfl) (by rfl) (fun y1 hy1 K hK=>?ma) (fun y1 hy1 K hK=>?mb)
 case' ma =>
  refine zmi (by go_simp;try with_reducible rfl) ((HQ.out y1).mono ?_)
  rintro e y2⟨a,n,c,rfl,hy2,hv⟩
  refine⟨_,rfl,hK _ _ ((zp4 _).q hy2) ?_⟩
  simp only[Act.put,zs1,zs2,zs3]
  replace hD:=Q.trans hD (Q.trans hy1 hy2)
  clear hK hy1 hy2
  refine RF.svp 1 ?_
  refine RF.steadily_both (i:=3) (j:=7) rfl rfl rfl rfl (by kernel_rfl) (by rfl) (by rfl) (fun y3 hy3 K hK=>?mc) (fun y3 hy3 K hK=>?md)
 case' mc =>
  have hwy:=Q.trans hQd (Q.trans hD hy3)
  refine zmi (by go_simp;try with_reducible rfl) ((HO.out a n c y3 (hE.ofQ hwy) (hA.q hwy) (hv.keep hy3)).mono ?_)
  rintro e y4⟨v5,v6,v7,rfl,hy4,k5,k6,k7⟩
  refine⟨_,rfl,hK _ _ ((zp4 _).q hy4) ?_⟩
  simp only[Act.put,zs1,zs2,zs3]
  replace hD:=Q.trans hD (Q.trans hy3 hy4)
  clear hK hy3 hwy hv
  refine RF.svp 4 ?_
  refine RF.svp 5 ?_
  refine RF.svp 6 ?_
  refine RF.zaC (i:=7) (.cells #[.slice none 0 0,.slice none 0 0,.slice none 0 0,.slice none 0 0,.slice none 0 0] 85) rfl rfl (by kernel_rfl) (by rfl) (fun w' hq=>by go_simp;try with_reducible rfl) (fun y5 hy5=>?_)
  simp only[Act.put,zs1,zs2,zs3]
  have BP:=Blk.new y5 [.slice none 0 0,.slice none 0 0,.slice none 0 0,.slice none 0 0,.slice none 0 0] 85
  have hqa:Q y4 (y5.alloc (.cells ([.slice none 0 0,.slice none 0 0,.slice none 0 0,.slice none 0 0,.slice none 0 0]:List Value).toArray 85)):=Q.trans hy5 ((Below.refl _ y5).alloc (Nat.le_refl _) _)
  have hpB:w10.drew.heap.size≤y5.heap.size:=(Q.trans hD hy5).size
  replace hD:=Q.trans hD hqa
  replace k5:=zH.keep k5 hqa
  replace k6:=zH.keep k6 hqa
  replace k7:=zH.keep k7 hqa
  clear hqa hy5 hy4
  generalize y5.alloc _=Y at *
  generalize y5.heap.size=p at *
  generalize y3.heap.size=B5 at *
  clear y5
 case' md =>
  have hqa:Q y3 (y3.alloc (.cells ([.slice none 0 0,.slice none 0 0,.slice none 0 0,.slice none 0 0,.slice none 0 0]:List Value).toArray 85)):=(Below.refl _ y3).alloc (Nat.le_refl _) _
  refine zeY (.pointer (some ⟨y3.heap.size,0,none⟩)) (.cells #[.slice none 0 0,.slice none 0 0,.slice none 0 0,.slice none 0 0,.slice none 0 0] 85) (by go_simp;try with_reducible rfl) (hK _ _ ((zp4 _).q hqa) ?_)
  have BP0:=Blk.new y3 [.slice none 0 0,.slice none 0 0,.slice none 0 0,.slice none 0 0,.slice none 0 0] 85
  simp only[Act.put,zs1,zs2,zs3]
  have hpB:w10.drew.heap.size≤y3.heap.size:=(Q.trans hD hy3).size
  replace hD:=Q.trans hD (Q.trans hy3 hqa)
  replace hv:=hv.keep (Q.trans hy3 hqa)
  clear hK hy3 hqa
  generalize y3.alloc _=y4 at *
  generalize y3.heap.size=p at *
  have hwy:=Q.trans hQd hD
  refine RF.zZ (i:=3) rfl rfl (by kernel_rfl) (by rfl) (fun w' hq=>by go_simp;try with_reducible rfl) (fun y5 hy5=>(HO.out a n c y5 (hE.ofQ (Q.trans hwy hy5)) (hA.q (Q.trans hwy hy5)) (hv.keep hy5)).mono ?_)
  rintro e Y⟨v5,v6,v7,rfl,hy6,k5,k6,k7⟩
  refine⟨_,rfl,hy6,?_⟩
  simp only[Act.put,zs1,zs2,zs3]
  have BP:=BP0.keep (Q.trans hy5 hy6) BP0.lt
  replace hD:=Q.trans hD (Q.trans hy5 hy6)
  clear BP0 hwy hy5 hy6 hv
  refine RF.svp 4 ?_
  refine RF.svp 5 ?_
  refine RF.svp 6 ?_
  generalize y5.heap.size=B5 at *
  clear y5 y4
 case' mb =>
  have hqa:Q y1 (y1.alloc (.cells ([.slice none 0 0,.slice none 0 0,.slice none 0 0,.slice none 0 0,.slice none 0 0]:List Value).toArray 85)):=(Below.refl _ y1).alloc (Nat.le_refl _) _
  refine zeY (.pointer (some ⟨y1.heap.size,0,none⟩)) (.cells #[.slice none 0 0,.slice none 0 0,.slice none 0 0,.slice none 0 0,.slice none 0 0] 85) (by go_simp;try with_reducible rfl) (hK _ _ ((zp4 _).q hqa) ?_)
  have BP0:=Blk.new y1 [.slice none 0 0,.slice none 0 0,.slice none 0 0,.slice none 0 0,.slice none 0 0] 85
  simp only[Act.put,zs1,zs2,zs3]
  have hpB:w10.drew.heap.size≤y1.heap.size:=(Q.trans hD hy1).size
  replace hD:=Q.trans hD (Q.trans hy1 hqa)
  clear hK hy1 hqa
  generalize y1.alloc _=y2 at *
  generalize y1.heap.size=p at *
  refine RF.zZ (i:=0) rfl rfl (by kernel_rfl) (by rfl) (fun w' hq=>by go_simp;try with_reducible rfl) (fun y3 hy3=>(HQ.out y3).mono ?_)
  rintro e y4⟨a,n,c,rfl,hy4,hv⟩
  refine⟨_,rfl,hy4,?_⟩
  simp only[Act.put,zs1,zs2,zs3]
  replace BP0:=BP0.keep (Q.trans hy3 hy4) BP0.lt
  replace hD:=Q.trans hD (Q.trans hy3 hy4)
  clear hy3 hy4 y3
  refine RF.svp 1 ?_
  have hwy:=Q.trans hQd hD
  refine RF.zZ (i:=3) rfl rfl (by kernel_rfl) (by rfl) (fun w' hq=>by go_simp;try with_reducible rfl) (fun y5 hy5=>(HO.out a n c y5 (hE.ofQ (Q.trans hwy hy5)) (hA.q (Q.trans hwy hy5)) (hv.keep hy5)).mono ?_)
  rintro e Y⟨v5,v6,v7,rfl,hy6,k5,k6,k7⟩
  refine⟨_,rfl,hy6,?_⟩
  simp only[Act.put,zs1,zs2,zs3]
  have BP:=BP0.keep (Q.trans hy5 hy6) BP0.lt
  replace hD:=Q.trans hD (Q.trans hy5 hy6)
  clear BP0 hwy hy5 hy6 hv
  refine RF.svp 4 ?_
  refine RF.svp 5 ?_
  refine RF.svp 6 ?_
  generalize y5.heap.size=B5 at *
  clear y5 y4
 all_goals
  obtain⟨g5,c5,rfl,-⟩:=k5.form
  obtain⟨g6,c6,rfl,-⟩:=k6.form
  obtain⟨g7,c7,rfl,-⟩:=k7.form
  simp only[List.length_cons,List.length_nil]at k5 k6 k7 ⊢
  refine RF.zaP (i:=8) (fun w'=>((((w'.setCell ⟨p,0,none⟩ (.slice g5 1 c5)).setCell ⟨p,1,none⟩ (.slice none 0 0)).setCell ⟨p,2,none⟩ (.slice none 0 0)).setCell ⟨p,3,none⟩ (.slice g6 1 c6)).setCell ⟨p,4,none⟩ (.slice g7 1 c7)) rfl rfl (by kernel_rfl) (by rfl) (fun w' hq=>?_) (fun w'=>zrV hpB w') (fun y7 hy7=>?_)
  ·have hc:=BP.keep hq BP.lt
   have e0:=hc.cell
   have f0:=hc.frozen
   go_simp;try with_reducible rfl
  simp only[Act.put]
  have hpw:w10.drew.heap.size≤p:=hpB
  have hD7:Below w10.drew.heap.size w10.drew (((((y7.setCell ⟨p,0,none⟩ (.slice g5 1 c5)).setCell ⟨p,1,none⟩ (.slice none 0 0)).setCell ⟨p,2,none⟩ (.slice none 0 0)).setCell ⟨p,3,none⟩ (.slice g6 1 c6)).setCell ⟨p,4,none⟩ (.slice g7 1 c7)) :=
   (((((Q.trans hD hy7).setCell (p:=⟨p,0,none⟩) hpw _).setCell (p:=⟨p,1,none⟩) hpw _).setCell (p:=⟨p,2,none⟩) hpw _).setCell (p:=⟨p,3,none⟩) hpw _).setCell (p:=⟨p,4,none⟩) hpw _
  have B7:=BP.keep hy7 BP.lt
  have e5:=zH.setB5 (.slice g5 1 c5) (.slice none 0 0) (.slice none 0 0) (.slice g6 1 c6) (.slice g7 1 c7) (zH.keep k5 hy7) B7
  have e6:=zH.setB5 (.slice g5 1 c5) (.slice none 0 0) (.slice none 0 0) (.slice g6 1 c6) (.slice g7 1 c7) (zH.keep k6 hy7) B7
  have e7:=zH.setB5 (.slice g5 1 c5) (.slice none 0 0) (.slice none 0 0) (.slice g6 1 c6) (.slice g7 1 c7) (zH.keep k7 hy7) B7
  have BB:=((((B7.set 0 (.slice g5 1 c5)).set 1 (.slice none 0 0)).set 2 (.slice none 0 0)).set 3 (.slice g6 1 c6)).set 4 (.slice g7 1 c7)
  simp only[List.set_cons_zero,List.set_cons_succ]at BB
  clear k5 k6 k7 BP B7 hy7 hD hpB hpw
  generalize World.setCell _ _ _=Y8 at *
  refine RF.svp 9 ?_
  refine RF.zi (by kernel_rfl) (fun y9 hy9=>?_)
  simp only[List.drop_succ_cons,List.drop_nil]
  have hD9:=Q.trans hD7 hy9
  have hQ9:=Q.trans hQd hD9
  replace hs1:=zH.keep hs1 hD9
  replace hs2:=zH.keep hs2 hD9
  replace hs3:=zH.keep hs3 hD9
  replace e5:=zH.keep e5 hy9
  replace e6:=zH.keep e6 hy9
  replace e7:=zH.keep e7 hy9
  replace BB:=BB.keep hy9 BB.lt
  clear hD7 hD9 hy9 HO HQ hA hE hQd hQ
  have hmx:∀ w,(Builtin.max_ #[30,30,30,30] 30 #[.int .i64 0,.int .i64 0,.int .i64 0,.int .i64 0]).run Tryz.prog w=.ok (.int .i64 0) w:=fun w=>by kernel_rfl
  have HEQ:=LH zq9
  have BT:=Blk.new y9 [.string ⟨#[49,47,51]⟩,.string ⟨#[51]⟩] 47
  have hqt:Q y9 (y9.alloc (.cells ([.string ⟨#[49,47,51]⟩,.string ⟨#[51]⟩]:List Value).toArray 47)):=bt
  have hQ0:=Q.refl y9
  go_wp2_with fail
  have qa:Q y9 ((y9.alloc (.cells ([.string ⟨#[49,47,51]⟩,.string ⟨#[51]⟩]:List Value).toArray 47)).alloc (.cells ([.string ⟨#[51,47,52]⟩,.string ⟨#[49]⟩]:List Value).toArray 47)):=bt
  refine cx (HEQ.out [51,47,52] [49] _ _ v1 _ _ ((zH.keep hs1 qa).str (by kernel_rfl)) (TSl.one (Blk.new1 y9 _ _ _) 1)) fun z1 hz1=>?_
  have q1:=Q.trans qa hz1
  replace BT:=BT.keep (show Q (y9.alloc (.cells ([.string ⟨#[49,47,51]⟩,.string ⟨#[51]⟩]:List Value).toArray 47)) z1 from Q.trans bt hz1) BT.lt
  clear hs1 qa hz1
  go_wp2_with fail
  have qb:Q z1 (z1.alloc (.cells ([.string ⟨#[52,47,51]⟩,.string ⟨#[49]⟩]:List Value).toArray 47)):=bt
  refine cx (HEQ.out [52,47,51] [49] _ _ v2 _ _ ((zH.keep hs2 (Q.trans q1 qb)).str (by kernel_rfl)) (TSl.one (Blk.new z1 _ _) 1)) fun z2 hz2=>?_
  have q2:=Q.trans q1 (Q.trans qb hz2)
  replace BT:=BT.keep (Q.trans qb hz2) BT.lt
  clear hs2 qb hz2 q1
  go_wp2_with fail
  have qc:Q z2 (z2.alloc (.cells ([.string ⟨#[53,47,52]⟩,.string ⟨#[49]⟩]:List Value).toArray 47)):=bt
  refine cx (HEQ.out [53,47,52] [49] _ _ v3 _ _ ((zH.keep hs3 (Q.trans q2 qc)).str (by kernel_rfl)) (TSl.one (Blk.new z2 _ _) 1)) fun z3 hz3=>?_
  have q3:=Q.trans q2 (Q.trans qc hz3)
  replace BT:=BT.keep (Q.trans qc hz3) BT.lt
  replace BB:=BB.keep q3 BB.lt
  clear hs3 qc hz3 q2
  have b3:=BB.cell
  go_wp2_with fail
  refine cx (HEQ.out [49,47,51] [51] _ _ _ _ z3 ((zH.keep e6 q3).str (by kernel_rfl)) (TSl.one BT 1)) fun z4 hz4=>?_
  have q4:=Q.trans q3 hz4
  replace BT:=BT.keep hz4 BT.lt
  replace BB:=BB.keep hz4 BB.lt
  clear e6 hz4 q3 b3
  have b4:=BB.cell
  go_wp2_with fail
  refine cx (HEQ.out [49,47,51] [51] _ _ _ _ z4 ((zH.keep e7 q4).str (by kernel_rfl)) (TSl.one BT 1)) fun z5 hz5=>?_
  have q5:=Q.trans q4 hz5
  replace BB:=BB.keep hz5 BB.lt
  clear e7 hz5 q4 b4 BT
  have b0:=BB.cell
  go_wp2_with fail
  have qd:Q z5 (z5.alloc (.cells ([.string ⟨#[49,47,50]⟩,.string ⟨#[50]⟩]:List Value).toArray 47)):=bt
  refine cx (HEQ.out [49,47,50] [50] _ _ _ _ _ ((zH.keep e5 (Q.trans q5 qd)).str (by kernel_rfl)) (TSl.one (Blk.new z5 _ _) 1)) fun z6 hz6=>?_
  have q6:=Q.trans hQ9 (Q.trans q5 (Q.trans qd hz6))
  clear e5 b0 BB HEQ
  go_wp2
  go_ret
  exact⟨rfl,q6⟩
end
section
open Go.ChangeShapes Go.WideShapes Go.ChangeAt Go.RowKit Go.Deep Kp
def zsw:DataW Unit:=match (Rows.laid_kingpost_bevel_asks:DataW Unit)with
 | .iface _ d=>d
 | d=>d
theorem zuD : Tryz.prog.globalNamed "kingpost/bevel.asks" = some 0 := by kernel_rfl
theorem zuA:(Tryz.prog.globals[0]?).map (·.type)=some 152:=by kernel_rfl
theorem zlK:zsw.funcsOut.atKey (.int .i64 6) .nil=.held [107,105,110,103,112,111,115,116,47,98,101,118,101,108,46,98,97,99,107,105,110,103,115]:=by kernel_rfl
theorem zsv:zsw.funcsOut≠.nil:=fun h=>by
 have h1:zsw.funcsOut.atKey (.int .i64 6) .nil=.nil:=by rw[h];rfl
 rw[zlK]at h1
 cases h1
theorem zrQ:((List.range Tryz.prog.funcs.size).filter fun f=>(Tryz.prog.funcs[f]?).any (·.name.toUTF8.data.toList == [107,105,110,103,112,111,115,116,47,98,101,118,101,108,46,98,97,99,107,105,110,103,115]))=[345]:=by kernel_rfl
theorem zrd{W:World}{n:Nat}{v:Value}{y:DataW (List UInt8) × List MemPlace}(h:Go.WideElems.elemAt (funcToken Tryz.prog) Tryz.prog W 0 (fun _=>true) true n 151 v=some y)(hy:y.1=.held [107,105,110,103,112,111,115,116,47,98,101,118,101,108,46,98,97,99,107,105,110,103,115]):v=.func (.func 345) #[] #[]:=by
 have he:=Tryz.underlying151
 unfold Go.WideElems.elemAt at h
 split at h
 ·rename_i hf
  have hc:v.cells.toList=[v]:=by
   cases v <;> simp[Value.formed,he,Value.cells]at hf ⊢
  rw[hc]at h
  obtain⟨d,q⟩:=y
  simp only at hy
  subst hy
  exact Go.func_of_trod he zrQ h
 ·cases h
theorem ztN {W : World} {L : List (String × DataW Unit)} (hl : laidMetH Tryz.prog L W) (hm : ("kingpost/bevel.asks", Rows.laid_kingpost_bevel_asks) ∈ L) : zjV W := by
 obtain ⟨g, t, cs, fuel, p, hg, ht, hv, hd⟩ := hl.funcs (n := "kingpost/bevel.asks") (d := zsw) hm
 obtain rfl:=Option.some.inj (zuD.symm.trans hg)
 obtain rfl:=Option.some.inj (zuA.symm.trans ht)
 rcases Go.WideElems.open_map Tryz.underlying152 hd with⟨_,hx⟩|⟨b,es,clock,n,rfl,hcs,hb,_,F,hx⟩
 ·exact absurd (congrArg Prod.fst hx) zsv
 ·have hcell:W.cell? ⟨0,0,none⟩=some (.map (some b)):=by
   have:=World.var?_cell hg hv 0
   rw[Array.eq_one_of_toList hcs]at this
   simpa using this
  have hglt:0<W.heap.size:=by
   by_cases h:0<W.heap.size
   ·exact h
   ·unfold World.cell? at hcell
    rw[Array.getElem?_eq_none (by omega)]at hcell
    cases hcell
  refine⟨hglt,b,(Array.getElem?_eq_some_iff.1 hb).1,hcell,_,hb,fun W' hb'=>?_⟩
  have hx1:=congrArg Prod.fst hx
  try simp only at hx1
  rcases Go.Maps.fit_look false (Go.Maps.int_keyed Tryz.underlying3) Tryz.underlying152 (z:=.nilFunc) (by kernel_rfl) hb' F (Go.Maps.keyOf_int_mk (a:=6) Tryz.underlying3 (by decide))with⟨_,_,hat⟩|⟨e0,y,_,_,hrun,hRv,hat,_⟩
  ·have h1:=hat .nil
   rw[← hx1,zlK]at h1
   cases h1
  ·have h1:=hat .nil
   rw[← hx1,zlK]at h1
   rw[zrd hRv h1.symm]at hrun
   exact hrun
theorem zlT{H:Type}{enc:TypeId × Value→H}{P:Program}{w:World}{base:Nat}{spare:Nat→Bool}{held:Bool}{t t1 t2 t3 t4:TypeId}{args:Array Value}{ds:List (DataW H)}{ps:List MemPlace}(h:DataW.TrodAll enc P w base spare held [t,t1,t2,t3,t4] args.toList ds ps) :
  ∃ v v1 v2 v3 v4 d d1 d2 d3 d4 p p1 p2 p3 p4,args=#[v,v1,v2,v3,v4]∧ds=[d,d1,d2,d3,d4]∧ps=p++p1++p2++p3++p4∧DataW.Trod enc P w base spare held t v d p∧DataW.Trod enc P w base spare held t1 v1 d1 p1∧DataW.Trod enc P w base spare held t2 v2 d2 p2∧DataW.Trod enc P w base spare held t3 v3 d3 p3∧DataW.Trod enc P w base spare held t4 v4 d4 p4:=by
 obtain⟨v,vs,d,ds',p,q,hargs,rfl,rfl,h0,hr⟩:=trodAll_cons h
 obtain⟨v1,vs1,d1,ds1,p1,q1,rfl,rfl,rfl,h1,hr1⟩:=trodAll_cons hr
 obtain⟨v2,vs2,d2,ds2,p2,q2,rfl,rfl,rfl,h2,hr2⟩:=trodAll_cons hr1
 obtain⟨v3,vs3,d3,ds3,p3,q3,rfl,rfl,rfl,h3,hr3⟩:=trodAll_cons hr2
 obtain⟨v4,vs4,d4,ds4,p4,q4,rfl,rfl,rfl,h4,hr4⟩:=trodAll_cons hr3
 obtain⟨rfl,rfl,rfl⟩:=trodAll_nil hr4
 exact⟨v,v1,v2,v3,v4,d,d1,d2,d3,d4,p,p1,p2,p3,p4,by cases args;simp_all,rfl,by simp,h0,h1,h2,h3,h4⟩
end
end Go.Proofs.YthdpnkkddhcacaaGreatDoor
