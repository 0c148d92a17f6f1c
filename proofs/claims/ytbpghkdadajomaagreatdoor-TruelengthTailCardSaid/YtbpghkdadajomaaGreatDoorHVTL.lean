/-
  The law TruelengthTail: its walk.
-/
import Derived.Test.YtbpghkdadajomaaGreatDoorHVT
set_option maxRecDepth 100000
set_option maxHeartbeats 8000000
namespace Go.Proofs.YtbpghkdadajomaaGreatDoor
open Go.RowKit Go.Shelf Kp
attribute [local go_sem] Oper.semAt_some
theorem zoN(x y o:Int)(o0:0≤o)(o1:o≤255)(D:Nat)(w:World)(hD:D<w.heap.size)(hc:w.cell? ⟨D,0,none⟩=some (.int .u8 o)) :
  Calls Tryz.prog 17 #[.int .i64 x,.int .i64 y,.pointer (some ⟨D,0,none⟩)] w fun e w'=>e=.returned (.agg #[.int .i64 x,.int .i64 y,.int .i64 1,.int .i64 1,.bool false,.int .i64 0,.int .i64 o])∧Q w w':=by
 have wo:=Go.IntWalk.i64_in o (by omega)
 go_enter Tryz.func17,Tryz.ntmps17
 go_wp2
 have hq:Q w (w.alloc (.cells #[.int .i64 x,.int .i64 y,.int .i64 1,.int .i64 1,.bool false,.int .i64 0,.int .i64 o] 36)):=bt
 exact bodyPost_ret (results_cell_row (fn:=Tryz.f17) rfl _ _ w.heap.size _ #[.int .i64 x,.int .i64 y,.int .i64 1,.int .i64 1,.bool false,.int .i64 0,.int .i64 o] (0,0) _ rfl (Blk.new w [.int .i64 x,.int .i64 y,.int .i64 1,.int .i64 1,.bool false,.int .i64 0,.int .i64 o] 36) Tryz.underlying36 rfl (by kernel_rfl)) rfl ⟨rfl,hq⟩
theorem znW{w:World}{b:Nat}{r:List Sd}{t:TypeId}(h:Blk w b (rowOf sdC r) t)(cap:Nat):zcS 7 sdC w (.slice (some ⟨b,0,none⟩) r.length cap) r:=⟨_,cap,rfl,fun i hi=>⟨b,0,rfl,h.lt,fun j u hu=>by
 have hj:j<7:=by have:=(List.getElem?_eq_some_iff.1 hu).1;rwa[zg3]at this
 rw[Nat.zero_add]
 exact(h.cell (i*7+j)).trans ((zdd zg3 r i hi j hj).trans hu)⟩⟩
theorem zlp{w:World}{b c:Nat}{r:List Sd}{t t':TypeId}(h:Blk w b (rowOf sdC r) t)(hc:Blk w c [.slice (some ⟨b,0,none⟩) r.length r.length] t'):zf9 w (.slice (some ⟨c,0,none⟩) 1 1) [r]:=⟨_,1,rfl,fun i hi=>by
 have h0:i=0:=by simpa using hi
 subst h0
 exact⟨c,0,_,rfl,hc.lt,hc.cell 0,znW h _⟩⟩
theorem znI{o r h a:Nat}(ho:o≤255)(hr:r≤255)(hh:h≤255)(ha:a≤255)(w:World)(hE:Env w) :
  Calls Tryz.prog 4 #[.int .u8 o,.int .u8 r,.int .u8 h,.int .u8 a] w fun e' w'=>e'=.returned (.bool true)∧Q w w':=by
 have k:TOk o (r+1) h:=⟨by omega,by omega,ho,hh⟩
 obtain⟨W,hW⟩:∃ W,r+1=W:=⟨_,rfl⟩
 rw[hW]at k
 have HSd:=LH (fun x y D w hD hc=>zoN x y (o:Int) (by omega) (by omega) D w hD hc)
 have HT:=LH (fun a0 c0 w hw hv=>zoJ k a ha a0 c0 w hw hv)
 have ht1:=fun a0 c0 w hw hv=>zhs k 1 (.inl rfl) a ha a0 c0 w hw hv
 have ht6:=fun a0 c0 w hw hv=>zhs k 6 (.inr rfl) a ha a0 c0 w hw hv
 rw[if_pos rfl]at ht1
 rw[if_neg (by decide)]at ht6
 have hl:=fun w hw=>zm2 k a ha w hw
 simp only[tVM]at HT hl
 simp only[uVM]at ht1 ht6
 have HT1:=LH ht1
 have HT6:=LH ht6
 have HL:=LH hl
 have HSc:=LH (fun B v w hw hv=>zoP k B v w hw hv)
 have HC0:=LH (fun B1 B2 v1 v2 w hw h1 h2=>zsn k B1 B2 v1 v2 w hw h1 h2)
 obtain⟨σ,hσ,hcm⟩:=zoO k
 have HCM:=LH hcm
 have HZ:Hid (o=0→tX o W h=0):=LH (fun e=>by rw[e];exact zj9 W h)
 have HNZ:Hid (0<o→tX o W h≠0):=LH (fun h=>(k.part h).t.ne)
 have ints:∀ n:Nat,n≤256→∀ w,Env w→Calls Tryz.prog 19 #[.int .i64 n,.int .i64 1] w fun e w'=>e=.returned (.string ⟨(Lib.itoa (n:Int)).toArray⟩)∧Q w w':=fun n hn w hw=>by
  have:=zkQ (n:Int) 1 (by decide) (by omega) (by decide) w hw
  rw[zfn,Rat.intCast_natCast,zT]at this
  exact this
 have HNa:=LH (ints a (by omega))
 have HNW:=LH (ints W (by omega))
 have HNh:=LH (ints h (by omega))
 have HNc:Hid (∀ w,Env w→Calls Tryz.prog 19 #[.int .i64 (min (W:Int) (o:Int)),.int .i64 W] w fun e w'=>e=.returned (.string ⟨(za (tC o W)).toArray⟩)∧Q w w'):=LH (fun w hw=>by
  rw[show min (W:Int) (o:Int)=((min W o:Nat):Int) by omega]
  exact zkQ _ W (by have:=k.w1;omega) (by have:=k.w2;omega) (by have:=k.w2;omega) w hw)
 have HN1:=LH (fun w hw=>zkQ 1 2 (by decide) (by decide) (by decide) w hw)
 have HN2:=LH (fun w hw=>zkQ (2*(W:Int)+1) 2 (by decide) (by have:=k.w2;omega) (by decide) w hw)
 have HSp:=LH (fun X Y Z w=>znf X Y Z w)
 have HAw:=LH (fun w hw=>zr9 w hw)
 have hw1:=k.w1
 have hw2:=k.w2
 clear ht1 ht6 hl hcm ints k
 generalize tX o W h=TX at *
 generalize aOf ((tN W h:Nat):Rat)=AX at *
 generalize tL W h=LX at *
 generalize za (tC o W)=CS at *
 generalize za (Rat.divInt (1:Int) ((2:Nat):Int))=LS at *
 generalize za (Rat.divInt (2*(W:Int)+1) ((2:Nat):Int))=TS at *
 generalize Lib.itoa (a:Int)=A at *
 generalize Lib.itoa (W:Int)=WS at *
 generalize Lib.itoa (h:Int)=HS at *
 have wr:=Go.IntWalk.i64_in (r:Int) (by omega)
 have wr1:IntKind.i64.wrap ((r:Int)+1)=W:=by rw[Go.IntWalk.i64_in _ (by omega)];omega
 have wa:=Go.IntWalk.i64_in (a:Int) (by omega)
 have wh:=Go.IntWalk.i64_in (h:Int) (by omega)
 have wo:=Go.IntWalk.i64_in (o:Int) (by omega)
 have w2W:=Go.IntWalk.i64_in (2*(W:Int)) (by omega)
 have w2W1:=Go.IntWalk.i64_in (2*(W:Int)+1) (by omega)
 have OB:=Blk.new w [.int .u8 o] 5
 obtain⟨W0,hW0⟩:∃ W0,w.alloc (.cells #[.int .u8 o] 5)=W0:=⟨_,rfl⟩
 have hq0:Q w W0:=by rw[← hW0];exact bt
 have hEw:=hE.ofQ hq0
 have OB:Blk W0 w.heap.size [.int .u8 o] 5:=by rw[← hW0];exact OB
 clear hE
 have hE:=hEw
 clear hEw
 have hQ0:=Q.refl W0
 replace o0:=OB.cell 0
 simp only[List.getElem?_cons_zero]at o0
 replace lOB:=OB.lt
 go_enter Tryz.func4,Tryz.ntmps4
 go_wp2_with fail
 clear hW0
 go_wp2_with fail
 refine(HSd.out _ _ w.heap.size _ (by assumption) (by assumption)).mono ?_
 rintro e Y1⟨rfl,hq1⟩
 have hs1:Q W0 Y1:=Q.trans bt hq1
 have hQ1:Q W0 Y1:=Q.trans hQ0 hs1
 replace OB:=OB.keep hs1 OB.lt
 replace o0:=OB.cell 0
 simp only[List.getElem?_cons_zero]at o0
 replace lOB:=OB.lt
 go_wp2_with fail
 refine(HSd.out _ _ w.heap.size _ (by assumption) (by assumption)).mono ?_
 rintro e Y2⟨rfl,hq2⟩
 have hs2:Q Y1 Y2:=Q.trans bt hq2
 have hQ2:Q W0 Y2:=Q.trans hQ1 hs2
 replace OB:=OB.keep hs2 OB.lt
 replace o0:=OB.cell 0
 simp only[List.getElem?_cons_zero]at o0
 replace lOB:=OB.lt
 go_wp2_with fail
 refine(HSd.out _ _ w.heap.size _ (by assumption) (by assumption)).mono ?_
 rintro e Y3⟨rfl,hq3⟩
 have hs3:Q Y2 Y3:=Q.trans bt hq3
 have hQ3:Q W0 Y3:=Q.trans hQ2 hs3
 replace OB:=OB.keep hs3 OB.lt
 replace o0:=OB.cell 0
 simp only[List.getElem?_cons_zero]at o0
 replace lOB:=OB.lt
 go_wp2_with fail
 refine(HSd.out _ _ w.heap.size _ (by assumption) (by assumption)).mono ?_
 rintro e Y4⟨rfl,hq4⟩
 have hs4:Q Y3 Y4:=Q.trans bt hq4
 have hQ4:Q W0 Y4:=Q.trans hQ3 hs4
 replace OB:=OB.keep hs4 OB.lt
 replace o0:=OB.cell 0
 simp only[List.getElem?_cons_zero]at o0
 replace lOB:=OB.lt
 have B28:=((Blk.new Y4 [.int .i64 0,.int .i64 0,.int .i64 1,.int .i64 1,.bool false,.int .i64 0,.int .i64 o,.int .i64 600,.int .i64 0,.int .i64 1,.int .i64 1,.bool false,.int .i64 0,.int .i64 o,.int .i64 600,.int .i64 600,.int .i64 1,.int .i64 1,.bool false,.int .i64 0,.int .i64 o,.int .i64 0,.int .i64 600,.int .i64 1,.int .i64 1,.bool false,.int .i64 0,.int .i64 o] 36).alloc (.cells #[.slice (some ⟨Y4.heap.size,0,none⟩) 4 4] 61)).alloc (.cells #[.slice (some ⟨Y4.heap.size+1,0,none⟩) 1 1] 24)
 have BSl:=(Blk.new1 Y4 (.cells #[.int .i64 0,.int .i64 0,.int .i64 1,.int .i64 1,.bool false,.int .i64 0,.int .i64 o,.int .i64 600,.int .i64 0,.int .i64 1,.int .i64 1,.bool false,.int .i64 0,.int .i64 o,.int .i64 600,.int .i64 600,.int .i64 1,.int .i64 1,.bool false,.int .i64 0,.int .i64 o,.int .i64 0,.int .i64 600,.int .i64 1,.int .i64 1,.bool false,.int .i64 0,.int .i64 o] 36) [.slice (some ⟨Y4.heap.size,0,none⟩) 4 4] 61).alloc (.cells #[.slice (some ⟨Y4.heap.size+1,0,none⟩) 1 1] 24)
 have BPl:=Blk.new2 Y4 (.cells #[.int .i64 0,.int .i64 0,.int .i64 1,.int .i64 1,.bool false,.int .i64 0,.int .i64 o,.int .i64 600,.int .i64 0,.int .i64 1,.int .i64 1,.bool false,.int .i64 0,.int .i64 o,.int .i64 600,.int .i64 600,.int .i64 1,.int .i64 1,.bool false,.int .i64 0,.int .i64 o,.int .i64 0,.int .i64 600,.int .i64 1,.int .i64 1,.bool false,.int .i64 0,.int .i64 o] 36) (.cells #[.slice (some ⟨Y4.heap.size,0,none⟩) 4 4] 61) [.slice (some ⟨Y4.heap.size+1,0,none⟩) 1 1] 24
 obtain⟨W1,hW1⟩:∃ W1,((Y4.alloc (.cells #[.int .i64 0,.int .i64 0,.int .i64 1,.int .i64 1,.bool false,.int .i64 0,.int .i64 o,.int .i64 600,.int .i64 0,.int .i64 1,.int .i64 1,.bool false,.int .i64 0,.int .i64 o,.int .i64 600,.int .i64 600,.int .i64 1,.int .i64 1,.bool false,.int .i64 0,.int .i64 o,.int .i64 0,.int .i64 600,.int .i64 1,.int .i64 1,.bool false,.int .i64 0,.int .i64 o] 36)).alloc (.cells #[.slice (some ⟨Y4.heap.size,0,none⟩) 4 4] 61)).alloc (.cells #[.slice (some ⟨Y4.heap.size+1,0,none⟩) 1 1] 24)=W1:=⟨_,rfl⟩
 have hqW:Q Y4 W1:=by rw[← hW1];exact bt
 rw[hW1]at B28 BSl
 have BPl:Blk W1 (Y4.heap.size+2) [.slice (some ⟨Y4.heap.size+1,0,none⟩) 1 1] 24:=by rw[← hW1];exact BPl
 have hv:zf9 W1 (.slice (some ⟨Y4.heap.size+1,0,none⟩) 1 1) [rT o]:=zlp (r:=rT o) B28 BSl
 replace OB:=OB.keep hqW OB.lt
 have hw1:Q w W1:=Q.trans hq0 (Q.trans hQ4 hqW)
 have hE1:=hE.ofQ (Q.trans hQ4 hqW)
 go_wp2_with fail
 try rw[hW1]
 clear hW1 B28 BSl o0 lOB hE HSd
 have hE:=hE1
 clear hE1
 have BPl:Blk W1 (Y4.heap.size+1+1) [.slice (some ⟨Y4.heap.size+1,0,none⟩) 1 1] 24:=BPl
 generalize Y4.heap.size+1=gp at *
 have HPL:=LH BPl
 have HRG:=LH hv
 have HEN:=LH hE
 have hQ0:=Q.refl W1
 replace o0:=OB.cell 0
 simp only[List.getElem?_cons_zero]at o0
 replace lOB:=OB.lt
 replace p0:=BPl.cell 0
 simp only[List.getElem?_cons_zero]at p0
 replace lBPl:=BPl.lt
 go_wp2_with fail
 refine(HNa.out _ (hE.ofQ bt)).mono ?_
 rintro e U1⟨rfl,hq1⟩
 have hs1:Q W1 U1:=Q.trans bt hq1
 have hQ1:Q W1 U1:=Q.trans hQ0 hs1
 replace hv:=zf9.keep hv hs1
 replace OB:=OB.keep hs1 OB.lt
 replace o0:=OB.cell 0
 simp only[List.getElem?_cons_zero]at o0
 replace lOB:=OB.lt
 replace BPl:=BPl.keep hs1 BPl.lt
 replace p0:=BPl.cell 0
 simp only[List.getElem?_cons_zero]at p0
 replace lBPl:=BPl.lt
 go_wp2_with fail
 refine(HSp.out _ _ _ _).mono ?_
 rintro e U2⟨rfl,hq2⟩
 have hs2:Q U1 U2:=Q.trans bt hq2
 have hQ2:Q W1 U2:=Q.trans hQ1 hs2
 replace hv:=zf9.keep hv hs2
 replace OB:=OB.keep hs2 OB.lt
 replace o0:=OB.cell 0
 simp only[List.getElem?_cons_zero]at o0
 replace lOB:=OB.lt
 replace BPl:=BPl.keep hs2 BPl.lt
 replace p0:=BPl.cell 0
 simp only[List.getElem?_cons_zero]at p0
 replace lBPl:=BPl.lt
 go_wp2_with fail
 refine(HNa.out _ (hE.ofQ bt)).mono ?_
 rintro e U3⟨rfl,hq3⟩
 have hs3:Q U2 U3:=Q.trans bt hq3
 have hQ3:Q W1 U3:=Q.trans hQ2 hs3
 replace hv:=zf9.keep hv hs3
 replace OB:=OB.keep hs3 OB.lt
 replace o0:=OB.cell 0
 simp only[List.getElem?_cons_zero]at o0
 replace lOB:=OB.lt
 replace BPl:=BPl.keep hs3 BPl.lt
 replace p0:=BPl.cell 0
 simp only[List.getElem?_cons_zero]at p0
 replace lBPl:=BPl.lt
 go_wp2_with fail
 refine(HNW.out _ (hE.ofQ bt)).mono ?_
 rintro e U4⟨rfl,hq4⟩
 have hs4:Q U3 U4:=Q.trans bt hq4
 have hQ4:Q W1 U4:=Q.trans hQ3 hs4
 replace hv:=zf9.keep hv hs4
 replace OB:=OB.keep hs4 OB.lt
 replace o0:=OB.cell 0
 simp only[List.getElem?_cons_zero]at o0
 replace lOB:=OB.lt
 replace BPl:=BPl.keep hs4 BPl.lt
 replace p0:=BPl.cell 0
 simp only[List.getElem?_cons_zero]at p0
 replace lBPl:=BPl.lt
 go_wp2_with fail
 refine(HNh.out _ (hE.ofQ bt)).mono ?_
 rintro e U5⟨rfl,hq5⟩
 have hs5:Q U4 U5:=Q.trans bt hq5
 have hQ5:Q W1 U5:=Q.trans hQ4 hs5
 replace hv:=zf9.keep hv hs5
 replace OB:=OB.keep hs5 OB.lt
 replace o0:=OB.cell 0
 simp only[List.getElem?_cons_zero]at o0
 replace lOB:=OB.lt
 replace BPl:=BPl.keep hs5 BPl.lt
 replace p0:=BPl.cell 0
 simp only[List.getElem?_cons_zero]at p0
 replace lBPl:=BPl.lt
 go_wp2_with fail
 refine(HSp.out _ _ _ _).mono ?_
 rintro e U6⟨rfl,hq6⟩
 have hs6:Q U5 U6:=Q.trans bt hq6
 have hQ6:Q W1 U6:=Q.trans hQ5 hs6
 replace hv:=zf9.keep hv hs6
 replace OB:=OB.keep hs6 OB.lt
 replace o0:=OB.cell 0
 simp only[List.getElem?_cons_zero]at o0
 replace lOB:=OB.lt
 replace BPl:=BPl.keep hs6 BPl.lt
 replace p0:=BPl.cell 0
 simp only[List.getElem?_cons_zero]at p0
 replace lBPl:=BPl.lt
 have BM:=Blk.new U6 [.int .i64 1,.int .i64 0,.int .i64 (-1),.string ⟨A.toArray⟩,.string ⟨#[48]⟩,.string ⟨#[48]⟩,.string ⟨A.toArray⟩,.string ⟨WS.toArray⟩,.string ⟨HS.toArray⟩,.int .i64 60,.int .i64 180] 34
 obtain⟨W2,hW2⟩:∃ W2,U6.alloc (.cells #[.int .i64 1,.int .i64 0,.int .i64 (-1),.string ⟨A.toArray⟩,.string ⟨#[48]⟩,.string ⟨#[48]⟩,.string ⟨A.toArray⟩,.string ⟨WS.toArray⟩,.string ⟨HS.toArray⟩,.int .i64 60,.int .i64 180] 34)=W2:=⟨_,rfl⟩
 have hqM:Q U6 W2:=by rw[← hW2];exact bt
 have BM:Blk W2 U6.heap.size [.int .i64 1,.int .i64 0,.int .i64 (-1),.string ⟨A.toArray⟩,.string ⟨#[48]⟩,.string ⟨#[48]⟩,.string ⟨A.toArray⟩,.string ⟨WS.toArray⟩,.string ⟨HS.toArray⟩,.int .i64 60,.int .i64 180] 34:=by rw[← hW2];exact BM
 replace OB:=OB.keep hqM OB.lt
 replace BPl:=BPl.keep hqM BPl.lt
 replace hv:=hv.keep hqM
 have hw2':Q w W2:=Q.trans hw1 (Q.trans hQ6 hqM)
 have hE2:=hE.ofQ (Q.trans hQ6 hqM)
 have p0:W2.cell? ⟨gp+1,0,none⟩=some (.slice (some ⟨gp,0,none⟩) 1 1):=BPl.cell 0
 have lBPl:=BPl.lt
 have lBM:=BM.lt
 have m0:=BM.cell 0
 have m1:=BM.cell 1
 have m2:=BM.cell 2
 have m3:=BM.cell 3
 have m4:=BM.cell 4
 have m5:=BM.cell 5
 have m6:=BM.cell 6
 have m7:=BM.cell 7
 have m8:=BM.cell 8
 have m9:=BM.cell 9
 have m10:=BM.cell 10
 simp only[zs4,zs5]at m0 m1 m2 m3 m4 m5 m6 m7 m8 m9 m10
 clear o0 lOB HNa HSp HNh
 go_wp2_with fail
 clear hW2
 clear hE m0 m1 m2 m3 m4 m5 m6 m7 m8 m9 m10 lBM p0 lBPl
 have hE:=hE2
 clear hE2
 have hgm:W1.heap.size≤U6.heap.size:=hQ6.size
 have hq12:Q W1 W2:=Q.trans hQ6 hqM
 generalize U6.heap.size=gm at *
 have hQ0:=Q.refl W2
 replace o0:=OB.cell 0
 simp only[List.getElem?_cons_zero]at o0
 replace lOB:=OB.lt
 replace p0:=BPl.cell 0
 simp only[List.getElem?_cons_zero]at p0
 replace lBPl:=BPl.lt
 replace m0:=BM.cell 0
 replace m1:=BM.cell 1
 replace m2:=BM.cell 2
 replace m3:=BM.cell 3
 replace m4:=BM.cell 4
 replace m5:=BM.cell 5
 replace m6:=BM.cell 6
 replace m7:=BM.cell 7
 replace m8:=BM.cell 8
 replace m9:=BM.cell 9
 replace m10:=BM.cell 10
 simp only[zs4,zs5]at m0 m1 m2 m3 m4 m5 m6 m7 m8 m9 m10
 replace lBM:=BM.lt
 go_wp2_with fail
 refine(HT.out _ _ _ hE hv).mono ?_
 rintro e V1⟨tv,rfl,hq1,htv⟩
 have hs1:Q W2 V1:=Q.trans bt hq1
 have hQ1:Q W2 V1:=Q.trans hQ0 hs1
 replace hv:=zf9.keep hv hs1
 replace OB:=OB.keep hs1 OB.lt
 replace o0:=OB.cell 0
 simp only[List.getElem?_cons_zero]at o0
 replace lOB:=OB.lt
 replace BPl:=BPl.keep hs1 BPl.lt
 replace p0:=BPl.cell 0
 simp only[List.getElem?_cons_zero]at p0
 replace lBPl:=BPl.lt
 replace BM:=BM.keep hs1 BM.lt
 replace m0:=BM.cell 0
 replace m1:=BM.cell 1
 replace m2:=BM.cell 2
 replace m3:=BM.cell 3
 replace m4:=BM.cell 4
 replace m5:=BM.cell 5
 replace m6:=BM.cell 6
 replace m7:=BM.cell 7
 replace m8:=BM.cell 8
 replace m9:=BM.cell 9
 replace m10:=BM.cell 10
 simp only[zs4,zs5]at m0 m1 m2 m3 m4 m5 m6 m7 m8 m9 m10
 replace lBM:=BM.lt
 go_wp2_with fail
 refine(HL.out _ (hE.ofQ bt)).mono ?_
 rintro e V2⟨lv,rfl,hq2,hlv⟩
 have hs2:Q V1 V2:=Q.trans bt hq2
 have hQ2:Q W2 V2:=Q.trans hQ1 hs2
 replace hv:=zf9.keep hv hs2
 replace htv:=zeK.keep htv hs2
 replace OB:=OB.keep hs2 OB.lt
 replace o0:=OB.cell 0
 simp only[List.getElem?_cons_zero]at o0
 replace lOB:=OB.lt
 replace BPl:=BPl.keep hs2 BPl.lt
 replace p0:=BPl.cell 0
 simp only[List.getElem?_cons_zero]at p0
 replace lBPl:=BPl.lt
 replace BM:=BM.keep hs2 BM.lt
 replace m0:=BM.cell 0
 replace m1:=BM.cell 1
 replace m2:=BM.cell 2
 replace m3:=BM.cell 3
 replace m4:=BM.cell 4
 replace m5:=BM.cell 5
 replace m6:=BM.cell 6
 replace m7:=BM.cell 7
 replace m8:=BM.cell 8
 replace m9:=BM.cell 9
 replace m10:=BM.cell 10
 simp only[zs4,zs5]at m0 m1 m2 m3 m4 m5 m6 m7 m8 m9 m10
 replace lBM:=BM.lt
 clear HT HL
 go_wp2_with fail
 refine(HNc.out _ (hE.ofQ bt)).mono ?_
 rintro e V3⟨rfl,hq3⟩
 have hs3:Q V2 V3:=Q.trans bt hq3
 have hQ3:Q W2 V3:=Q.trans hQ2 hs3
 replace hv:=zf9.keep hv hs3
 replace htv:=zeK.keep htv hs3
 replace hlv:=zU hlv hs3
 replace OB:=OB.keep hs3 OB.lt
 replace o0:=OB.cell 0
 simp only[List.getElem?_cons_zero]at o0
 replace lOB:=OB.lt
 replace BPl:=BPl.keep hs3 BPl.lt
 replace p0:=BPl.cell 0
 simp only[List.getElem?_cons_zero]at p0
 replace lBPl:=BPl.lt
 replace BM:=BM.keep hs3 BM.lt
 replace m0:=BM.cell 0
 replace m1:=BM.cell 1
 replace m2:=BM.cell 2
 replace m3:=BM.cell 3
 replace m4:=BM.cell 4
 replace m5:=BM.cell 5
 replace m6:=BM.cell 6
 replace m7:=BM.cell 7
 replace m8:=BM.cell 8
 replace m9:=BM.cell 9
 replace m10:=BM.cell 10
 simp only[zs4,zs5]at m0 m1 m2 m3 m4 m5 m6 m7 m8 m9 m10
 replace lBM:=BM.lt
 go_wp2_with fail
 refine(HSc.out _ _ _ (hE.ofQ bt) hlv).mono ?_
 rintro e V4⟨wv,rfl,hq4,hwv⟩
 have hs4:Q V3 V4:=Q.trans bt hq4
 have hQ4:Q W2 V4:=Q.trans hQ3 hs4
 replace hv:=zf9.keep hv hs4
 replace htv:=zeK.keep htv hs4
 replace hlv:=zU hlv hs4
 replace OB:=OB.keep hs4 OB.lt
 replace o0:=OB.cell 0
 simp only[List.getElem?_cons_zero]at o0
 replace lOB:=OB.lt
 replace BPl:=BPl.keep hs4 BPl.lt
 replace p0:=BPl.cell 0
 simp only[List.getElem?_cons_zero]at p0
 replace lBPl:=BPl.lt
 replace BM:=BM.keep hs4 BM.lt
 replace m0:=BM.cell 0
 replace m1:=BM.cell 1
 replace m2:=BM.cell 2
 replace m3:=BM.cell 3
 replace m4:=BM.cell 4
 replace m5:=BM.cell 5
 replace m6:=BM.cell 6
 replace m7:=BM.cell 7
 replace m8:=BM.cell 8
 replace m9:=BM.cell 9
 replace m10:=BM.cell 10
 simp only[zs4,zs5]at m0 m1 m2 m3 m4 m5 m6 m7 m8 m9 m10
 replace lBM:=BM.lt
 go_wp2_with fail
 refine(HC0.out _ _ _ _ _ (hE.ofQ bt) htv hwv).mono ?_
 rintro e V5⟨rfl,hq5⟩
 have hs5:Q V4 V5:=Q.trans bt hq5
 have hQ5:Q W2 V5:=Q.trans hQ4 hs5
 replace hv:=zf9.keep hv hs5
 replace htv:=zeK.keep htv hs5
 replace hlv:=zU hlv hs5
 replace hwv:=zeK.keep hwv hs5
 replace OB:=OB.keep hs5 OB.lt
 replace o0:=OB.cell 0
 simp only[List.getElem?_cons_zero]at o0
 replace lOB:=OB.lt
 replace BPl:=BPl.keep hs5 BPl.lt
 replace p0:=BPl.cell 0
 simp only[List.getElem?_cons_zero]at p0
 replace lBPl:=BPl.lt
 replace BM:=BM.keep hs5 BM.lt
 replace m0:=BM.cell 0
 replace m1:=BM.cell 1
 replace m2:=BM.cell 2
 replace m3:=BM.cell 3
 replace m4:=BM.cell 4
 replace m5:=BM.cell 5
 replace m6:=BM.cell 6
 replace m7:=BM.cell 7
 replace m8:=BM.cell 8
 replace m9:=BM.cell 9
 replace m10:=BM.cell 10
 simp only[zs4,zs5]at m0 m1 m2 m3 m4 m5 m6 m7 m8 m9 m10
 replace lBM:=BM.lt
 go_wp2_with fail
 refine(HCM.out _ _ _ _ _ (hE.ofQ bt) htv hlv).mono ?_
 rintro e V6⟨rfl,hq6⟩
 have hs6:Q V5 V6:=Q.trans bt hq6
 have hQ6:Q W2 V6:=Q.trans hQ5 hs6
 replace hv:=zf9.keep hv hs6
 replace htv:=zeK.keep htv hs6
 replace hlv:=zU hlv hs6
 replace hwv:=zeK.keep hwv hs6
 replace OB:=OB.keep hs6 OB.lt
 replace o0:=OB.cell 0
 simp only[List.getElem?_cons_zero]at o0
 replace lOB:=OB.lt
 replace BPl:=BPl.keep hs6 BPl.lt
 replace p0:=BPl.cell 0
 simp only[List.getElem?_cons_zero]at p0
 replace lBPl:=BPl.lt
 replace BM:=BM.keep hs6 BM.lt
 replace m0:=BM.cell 0
 replace m1:=BM.cell 1
 replace m2:=BM.cell 2
 replace m3:=BM.cell 3
 replace m4:=BM.cell 4
 replace m5:=BM.cell 5
 replace m6:=BM.cell 6
 replace m7:=BM.cell 7
 replace m8:=BM.cell 8
 replace m9:=BM.cell 9
 replace m10:=BM.cell 10
 simp only[zs4,zs5]at m0 m1 m2 m3 m4 m5 m6 m7 m8 m9 m10
 replace lBM:=BM.lt
 clear hwv
 clear hlv
 clear HNc HSc HC0 HCM
 have hmax5:=znd
 have hσ1:¬ (0<σ):=by rcases hσ with rfl | rfl <;> decide
 have hσ2:decide (0<σ)=false:=decide_eq_false hσ1
 have hto:∃ b:Bool,((o:Int) == 0)=b∧((b=true∧tv=.slice none 0 0)∨(b=false∧∃ g cp,tv=.slice (some ⟨g,0,none⟩) 1 cp)):=by
  rcases Nat.eq_zero_or_pos o with e | e
  ·refine⟨true,by rw[e];rfl,.inl ⟨rfl,?_⟩⟩
   rcases htv with⟨-,h⟩|⟨n0,-⟩
   ·exact h
   ·exact absurd (HZ.out e) n0
  ·refine⟨false,by rw[beq_eq_false_iff_ne];omega,.inr ⟨rfl,?_⟩⟩
   rcases htv with⟨e0,-⟩|⟨-,hrow⟩
   ·exact absurd e0 (HNZ.out e)
   ·obtain⟨g,cp,h,-,-⟩:=World.ownsRow.form hrow (by omega)
    exact⟨g,cp,h⟩
 clear HNZ HZ hσ
 clear hv
 clear htv
 clear BPl lBPl p0
 obtain⟨bo,hoz,⟨rfl,rfl⟩|⟨rfl,g,cp,rfl⟩⟩:=hto
 all_goals
  go_wp2_with fail
  refine(HN1.out _ (hE.ofQ bt)).mono ?_
  rintro e V7⟨rfl,hq7⟩
  have hs7:Q V6 V7:=Q.trans bt hq7
  have hQ7:Q W2 V7:=Q.trans hQ6 hs7
  replace OB:=OB.keep hs7 OB.lt
  replace o0:=OB.cell 0
  simp only[List.getElem?_cons_zero]at o0
  replace lOB:=OB.lt
  replace BM:=BM.keep hs7 BM.lt
  replace m0:=BM.cell 0
  replace m1:=BM.cell 1
  replace m2:=BM.cell 2
  replace m3:=BM.cell 3
  replace m4:=BM.cell 4
  replace m5:=BM.cell 5
  replace m6:=BM.cell 6
  replace m7:=BM.cell 7
  replace m8:=BM.cell 8
  replace m9:=BM.cell 9
  replace m10:=BM.cell 10
  simp only[zs4,zs5]at m0 m1 m2 m3 m4 m5 m6 m7 m8 m9 m10
  replace lBM:=BM.lt
  have f4:=BM.frozen 4
  obtain⟨X1,hX1⟩:∃ X1,V7.setCell ⟨gm,4,none⟩ (.string ⟨LS.toArray⟩)=X1:=⟨_,rfl⟩
  have hqX1:Q W1 X1:=by rw[← hX1];exact(Q.trans hq12 hQ7).setCell (p:=⟨gm,4,none⟩) hgm _
  have BX:Blk X1 gm [.int .i64 1,.int .i64 0,.int .i64 (-1),.string ⟨A.toArray⟩,.string ⟨LS.toArray⟩,.string ⟨#[48]⟩,.string ⟨A.toArray⟩,.string ⟨WS.toArray⟩,.string ⟨HS.toArray⟩,.int .i64 60,.int .i64 180] 34:=by rw[← hX1];exact BM.set 4 _
  have hE1:=HEN.out.ofQ hqX1
  clear hE HN1 hσ1 hσ2
  have hE:=hE1
  go_wp2_with fail
  clear hX1 f4 m0 m1 m2 m3 m4 m5 m6 m7 m8 m9 m10 lBM BM
  have hQ0:=Q.refl X1
  go_wp2_with fail
  refine(HN2.out _ (hE.ofQ bt)).mono ?_
  rintro e Z1⟨rfl,hq1⟩
  have hs1:Q X1 Z1:=Q.trans bt hq1
  have hQ1:Q X1 Z1:=Q.trans hQ0 hs1
  have BZ:=BX.keep hq1 BX.lt
  have f7:=BZ.frozen 7
  have c7:=BZ.cell 7
  simp only[zs4,zs5]at c7
  obtain⟨X2,hX2⟩:∃ X2,Z1.setCell ⟨gm,7,none⟩ (.string ⟨TS.toArray⟩)=X2:=⟨_,rfl⟩
  have hqX2:Q W1 X2:=by rw[← hX2];exact(Q.trans hqX1 hQ1).setCell (p:=⟨gm,7,none⟩) hgm _
  have B2:Blk X2 gm [.int .i64 1,.int .i64 0,.int .i64 (-1),.string ⟨A.toArray⟩,.string ⟨LS.toArray⟩,.string ⟨#[48]⟩,.string ⟨A.toArray⟩,.string ⟨TS.toArray⟩,.string ⟨HS.toArray⟩,.int .i64 60,.int .i64 180] 34:=by rw[← hX2];exact BZ.set 7 _
  have hE2:=HEN.out.ofQ hqX2
  have P2:=HPL.out.keep hqX2 HPL.out.lt
  have p0:=P2.cell 0
  have lp:=P2.lt
  have lm:=B2.lt
  have m0:=B2.cell 0
  have m1:=B2.cell 1
  have m2:=B2.cell 2
  have m3:=B2.cell 3
  have m4:=B2.cell 4
  have m5:=B2.cell 5
  have m6:=B2.cell 6
  have m7:=B2.cell 7
  have m8:=B2.cell 8
  have m9:=B2.cell 9
  have m10:=B2.cell 10
  simp only[zs4,zs5]at p0 m0 m1 m2 m3 m4 m5 m6 m7 m8 m9 m10
  clear hE HN2 BX BZ
  go_wp2_with fail
  clear hX2
  refine(HT1.out _ _ _ hE2 (HRG.out.keep hqX2)).mono ?_
  rintro e U1⟨rfl,hqt⟩
  have B3:=B2.keep hqt lm
  have f0:=B3.frozen 0
  have c0:=B3.cell 0
  simp only[List.getElem?_cons_zero]at c0
  obtain⟨X3,hX3⟩:∃ X3,U1.setCell ⟨gm,0,none⟩ (.int .i64 6)=X3:=⟨_,rfl⟩
  have hqX3:Q W1 X3:=by rw[← hX3];exact(Q.trans hqX2 hqt).setCell (p:=⟨gm,0,none⟩) hgm _
  have B4:Blk X3 gm [.int .i64 6,.int .i64 0,.int .i64 (-1),.string ⟨A.toArray⟩,.string ⟨LS.toArray⟩,.string ⟨#[48]⟩,.string ⟨A.toArray⟩,.string ⟨TS.toArray⟩,.string ⟨HS.toArray⟩,.int .i64 60,.int .i64 180] 34:=by rw[← hX3];exact B3.set 0 _
  have hE3:=HEN.out.ofQ hqX3
  clear p0 lp lm m0 m1 m2 m3 m4 m5 m6 m7 m8 m9 m10 P2 c7
  have P3:=HPL.out.keep hqX3 HPL.out.lt
  have p0:=P3.cell 0
  have lp:=P3.lt
  have lm:=B4.lt
  have m0:=B4.cell 0
  have m1:=B4.cell 1
  have m2:=B4.cell 2
  have m3:=B4.cell 3
  have m4:=B4.cell 4
  have m5:=B4.cell 5
  have m6:=B4.cell 6
  have m7:=B4.cell 7
  have m8:=B4.cell 8
  have m9:=B4.cell 9
  have m10:=B4.cell 10
  simp only[zs4,zs5]at p0 m0 m1 m2 m3 m4 m5 m6 m7 m8 m9 m10
  clear HT1 B2 B3 hE2
  go_wp2_with fail
  clear hX3
  refine(HT6.out _ _ _ hE3 (HRG.out.keep hqX3)).mono ?_
  rintro e U2⟨rfl,hqu⟩
  clear p0 lp lm m0 m1 m2 m3 m4 m5 m6 m7 m8 m9 m10 P3 B4 HT6 f0 f7 c0
  go_wp2_with fail
  refine(HAw.out _ (hE3.ofQ hqu)).mono ?_
  rintro e U3⟨rfl,hqa⟩
  have hQe:=Q.trans hw1 (Q.trans hqX3 (Q.trans hqu hqa))
  go_wp2
  go_ret
  exact⟨rfl,hQe⟩
theorem zmj(o r h a:Int)(o0:0≤o)(o1:o≤255)(r0:0≤r)(r1:r≤255)(h0:0≤h)(h1:h≤255)(a0:0≤a)(a1:a≤255)(w:World)(hE:Env w) :
  Calls Tryz.prog 4 #[.int .u8 o,.int .u8 r,.int .u8 h,.int .u8 a] w fun e' w'=>e'=.returned (.bool true)∧Q w w':=by
 obtain⟨o,rfl⟩:=Int.eq_ofNat_of_zero_le o0
 obtain⟨r,rfl⟩:=Int.eq_ofNat_of_zero_le r0
 obtain⟨h,rfl⟩:=Int.eq_ofNat_of_zero_le h0
 obtain⟨a,rfl⟩:=Int.eq_ofNat_of_zero_le a0
 exact znI (by omega) (by omega) (by omega) (by omega) w hE
end Go.Proofs.YtbpghkdadajomaaGreatDoor
