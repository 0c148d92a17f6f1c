/-
  Walk of the chapter's awake.
-/
import Derived.Test.YtdecodpgdainiaaGreatDoorH25
set_option maxRecDepth 100000
set_option maxHeartbeats 4000000
namespace Go.Proofs.YtdecodpgdainiaaGreatDoor
open Go.RowKit Go.Shelf Kp
attribute [local go_sem] Oper.semAt_some
theorem zuA:zd8 [r0]=0:=by kernel_rfl
theorem zuB:zpU m0=0:=by kernel_rfl
theorem zrT:m0.short:=⟨by decide,by decide,by decide,by decide,by decide,by decide⟩
theorem zug:zrU [r0] m0=0:=by kernel_rfl
theorem zqI:zg7 [r0] m0=40:=by kernel_rfl
theorem ztg:RafPre [r0] m0 0 where
 hip:=zuB
 face:=rfl
 lt:=by decide
 gable:=rfl
theorem zt8:ofE [r0] m0=0:=by
 unfold ofE
 rw[zug,zqI]
 decide
def x0R:Raf:=⟨45,3/4,40,8⟩
theorem zth:zqv [r0] m0=x0R:=by
 unfold zqv x0R
 rw[zqI]
 congr 1
 kernel_rfl
theorem zsR:RafBd x0R where
 d1:=by decide
 d2:=by decide
 p:=⟨by rw[show x0R.pitch.num=3 from by kernel_rfl];decide,by rw[show x0R.pitch.den=4 from by kernel_rfl];decide⟩
 p0:=by rw[show x0R.pitch.num=3 from by kernel_rfl];decide
 r:=⟨by rw[show x0R.run.num=40 from by kernel_rfl];decide,by rw[show x0R.run.den=1 from by kernel_rfl];decide⟩
 o:=by decide
theorem zm8:x0R.run - (x0R.over:Rat)=32:=by kernel_rfl
theorem zhz(ro:Ro)(w:World)(hv:zki w ro.p.v [r0]):OfC w ro m0 x0R:=fun W hW hq=>by
 obtain⟨⟨a0,n0,c0⟩,⟨a1,n1,c1⟩,⟨a2,n2,c2⟩,⟨a3,n3,c3⟩⟩:=ro
 have:=zrZ [r0] zuA (by decide) m0 zrT 0 ztg (by decide) (.slice a0 n0 c0) a1 a2 a3 n1 n2 n3 c1 c2 c3 W hW (hv.keep hq)
 unfold ofV at this
 rw[zt8,if_pos rfl,zth]at this
 exact this
theorem zt7:zy (576/25):=zgv (n:=576) (d:=25) (by kernel_rfl) (by kernel_rfl) (by decide)
theorem zuz:zy (576/25*(5/4)):=zgv (n:=144) (d:=5) (by kernel_rfl) (by kernel_rfl) (by decide)
theorem zut:(576/25*(5/4):Rat)=144/5:=by kernel_rfl
theorem zqH(b:Nat)(t:TypeId)(w:World)(hE:Env w)(hb:Blk w b [.string ⟨(za (576/25)).toArray⟩,.string ⟨(za (25/16)).toArray⟩] t) :
  Calls Tryz.prog 8 #[.slice (some ⟨b,0,none⟩) 1 1] w fun e w'=>∃ v,e=.returned (.tuple #[v,.int .i64 0])∧Q w w' ∧
   w'.ownsRow w.heap.size 40 2 v 1 [.string ⟨#[49,52,52,47,53]⟩,.string ⟨#[49]⟩]:=by
 have h:=zkW (576/25) (25/16) (5/4) 1 zt7 zuy (ztn 25 (by kernel_rfl) (by decide)) (zqF 576 0 (by kernel_rfl) (by kernel_rfl) (by decide)) (zqF 25 1 (by kernel_rfl) (by kernel_rfl) (by decide))
  (by rw[zuf,zmx,d16];exact v54) (by rw[zuf,zmx]) s54 s1 zuz (zqF 144 0 (by kernel_rfl) (by kernel_rfl) (by decide)) b t w hE hb
 rw[zut,v1,show za (144/5:Rat)=[49,52,52,47,53]from by kernel_rfl,show za (1:Rat)=[49]from by kernel_rfl]at h
 exact h
theorem ztN(w:World)(hE:Env w):CR 6 #[] w (.bool true):=by
 have hn:NotchOk x0R 12:=⟨⟨by decide,by decide⟩,by decide,by rw[zm8];decide⟩
 have HB:Hid (∀ ro w,Env w→zki w ro.p.v [r0]→CR 18 #[.agg (roC ro).toArray,.agg (mbC m0).toArray,.int .i64 12] w (.tuple #[.agg #[.string ⟨#[56]⟩,.string ⟨#[49,50]⟩,.string ⟨#[57]⟩],.int .i64 0])):=LH (fun ro w hw hv=>by
  have:=ziq ro m0 x0R zsR 12 (by decide) (by decide) (by rw[zm8];decide) w hw (zhz ro w hv)
  rw[show za (x0R.over:Rat)=[56]from by kernel_rfl,show za ((12:Int):Rat)=[49,50]from by kernel_rfl,show za (((12:Int):Rat)*x0R.pitch)=[57]from by kernel_rfl]at this
  exact this)
 have HL:Hid (∀ ro w,Env w→zki w ro.p.v [r0]→Calls Tryz.prog 19 #[.agg (roC ro).toArray,.agg (mbC m0).toArray,.agg #[.string ⟨#[56]⟩,.string ⟨#[49,50]⟩,.string ⟨#[57]⟩]] w fun e w'=>∃ v,e=.returned (.tuple #[v,.int .i64 0])∧Q w w'∧w'.ownsRow w.heap.size 40 2 v 1 [.string ⟨#[49,52,52,47,53]⟩,.string ⟨#[49]⟩]):=LH (fun ro w hw hv=>by
  have:=zpq ro m0 x0R zsR 12 hn (25/16) (576/25) (by kernel_rfl) (by rw[show (25/16:Rat).num=25 from by kernel_rfl];decide) (by kernel_rfl) _ zqH w hw (zhz ro w hv)
  rw[show za (x0R.over:Rat)=[56]from by kernel_rfl,show za (12:Rat)=[49,50]from by kernel_rfl,show za ((12:Rat)*x0R.pitch)=[57]from by kernel_rfl]at this
  exact this)
 have HD:Hid (∀ ro w,Env w→zki w ro.p.v [r0]→CR 20 #[.agg (roC ro).toArray,.agg (mbC m0).toArray] w (.tuple #[.string ⟨#[50,48]⟩,.int .i64 0])):=LH (fun ro w hw hv=>by
  have:=zlG ro m0 x0R zsR 20 20 (by kernel_rfl) ⟨by decide,by decide⟩ (by rw[zm8,if_neg (by decide)]) w hw (zhz ro w hv)
  rw[show za (20:Rat)=[50,48]from by kernel_rfl]at this
  exact this)
 have HX:=LH (fun w=>znF w)
 go_enter Tryz.func6,Tryz.ntmps6
 go_wp2_with fail
 refine(HX.out w).mono ?_
 rintro e w1⟨ro,rfl,hv,hq1⟩
 have HBr:=LH (HB.out ro)
 have HLr:=LH (HL.out ro)
 have HDr:=LH (HD.out ro)
 clear HX HB HL HD
 obtain⟨⟨a0,n0,c0⟩,⟨a1,n1,c1⟩,⟨a2,n2,c2⟩,⟨a3,n3,c3⟩⟩:=ro
 unfold roC Sl3.v mbC m0 at *
 simp only at HBr HLr HDr hv ⊢
 obtain⟨W2,hW2⟩:∃ W2,(w1.alloc (.cells #[.slice a0 n0 c0,.slice a1 n1 c1,.slice a2 n2 c2,.slice a3 n3 c3] 57)).alloc (.cells #[.int .i64 1,.int .i64 0,.int .i64 (-1),.string ⟨#[49,48]⟩,.string ⟨#[48]⟩,.string ⟨#[48]⟩,.string ⟨#[49,48]⟩,.string ⟨#[52,48]⟩,.string ⟨#[51,48]⟩,.int .i64 6,.int .i64 45] 26)=W2:=⟨_,rfl⟩
 have BR:Blk W2 w1.heap.size [.slice a0 n0 c0,.slice a1 n1 c1,.slice a2 n2 c2,.slice a3 n3 c3] 57:=by rw[← hW2];exact(Blk.new w1 _ _).alloc _
 have BM:Blk W2 (w1.heap.size+1) [.int .i64 1,.int .i64 0,.int .i64 (-1),.string ⟨#[49,48]⟩,.string ⟨#[48]⟩,.string ⟨#[48]⟩,.string ⟨#[49,48]⟩,.string ⟨#[52,48]⟩,.string ⟨#[51,48]⟩,.int .i64 6,.int .i64 45] 26:=by rw[← hW2];exact Blk.new1 w1 _ _ _
 have hqW:Q w1 W2:=by rw[← hW2];exact bt
 have hv2:=hv.keep hqW
 have hwW:Q w W2:=Q.trans hq1 hqW
 have hE2:=hE.ofQ hwW
 clear hE
 have hE:=hE2
 clear hE2 hv
 have hQ0:=Q.refl W2
 replace xr0:=BR.cell
 replace lBR:=BR.lt
 replace xm0:=BM.cell
 replace lBM:=BM.lt
 go_wp2_with fail
 clear hW2
 refine cx (HBr.out _ hE hv2) fun Z1 hz1=>?_
 replace BR:=BR.keep hz1 BR.lt
 replace BM:=BM.keep hz1 BM.lt
 have hv3:=hv2.keep hz1
 obtain⟨W3,hW3⟩:∃ W3,Z1.alloc (.cells #[.string ⟨#[56]⟩,.string ⟨#[49,50]⟩,.string ⟨#[57]⟩] 61)=W3:=⟨_,rfl⟩
 have N:Blk W3 Z1.heap.size [.string ⟨#[56]⟩,.string ⟨#[49,50]⟩,.string ⟨#[57]⟩] 61:=by rw[← hW3];exact Blk.new Z1 _ _
 have hqV:Q Z1 W3:=by rw[← hW3];exact bt
 have hv4:=hv3.keep hqV
 have hwV:Q w W3:=Q.trans hwW (Q.trans hz1 hqV)
 have hE3:=hE.ofQ (Q.trans hz1 hqV)
 clear hE hv2 hv3 HBr
 have hE:=hE3
 clear hE3
 replace BR:=BR.keep hqV BR.lt
 replace BM:=BM.keep hqV BM.lt
 have hQ0:=Q.refl W3
 replace xr0:=BR.cell
 replace lBR:=BR.lt
 replace xm0:=BM.cell
 replace lBM:=BM.lt
 replace n0:=N.cell 0
 replace n1:=N.cell 1
 replace n2:=N.cell 2
 simp only[zs4,zs5]at n0 n1 n2
 replace lN:=N.lt
 go_wp2_with fail
 clear hW3
 refine(HLr.out _ hE hv4).mono ?_
 rintro e V1⟨v,rfl,hu1,hown⟩
 obtain⟨g,cp,rfl⟩:=ziV hown (by decide)
 have hv5:=hv4.keep hu1
 replace BR:=BR.keep hu1 BR.lt
 replace BM:=BM.keep hu1 BM.lt
 replace N:=N.keep hu1 N.lt
 have hE4:=hE.ofQ hu1
 have hwU:Q w V1:=Q.trans hwV hu1
 clear hE hv4 HLr
 have hE:=hE4
 clear hE4
 have hQ0:=Q.refl V1
 replace xr0:=BR.cell
 replace lBR:=BR.lt
 replace xm0:=BM.cell
 replace lBM:=BM.lt
 replace n0:=N.cell 0
 replace n1:=N.cell 1
 replace n2:=N.cell 2
 simp only[zs4,zs5]at n0 n1 n2
 replace lN:=N.lt
 go_wp2_with fail
 refine cx (HDr.out _ hE hv5) fun U1 hu2=>?_
 have hown2:=zl hown hu2
 have S:=Blk.new U1 [.string ⟨#[49,52,52,47,53]⟩,.string ⟨#[49]⟩] 40
 have hqS:Q U1 (U1.alloc (.cells ([.string ⟨#[49,52,52,47,53]⟩,.string ⟨#[49]⟩]:List Value).toArray 40)):=(Below.refl _ U1).alloc (Nat.le_refl _) _
 have hown3:=zl hown2 hqS
 have s0:=hown3.cells rfl 0 _ rfl
 have s1:=hown3.cells rfl 1 _ rfl
 rw[Addr.add_lit]at s0 s1
 have HS:=LH (zj0 g U1.heap.size cp 1 [49,52,52,47,53] [49] _ s0 s1 (S.cell 0) (S.cell 1))
 replace N:=N.keep hu2 N.lt
 have n0:=N.cell 0
 have n1:=N.cell 1
 have n2:=N.cell 2
 simp only[zs4,zs5]at n0 n1 n2
 have lN:=N.lt
 have hQe:Q w (U1.alloc (.cells ([.string ⟨#[49,52,52,47,53]⟩,.string ⟨#[49]⟩]:List Value).toArray 40)):=Q.trans hwU (Q.trans hu2 hqS)
 clear hown hown2 hown3 HDr hv5 BR BM
 go_wp2_with fail
 refine HS.out.mono ?_
 rintro e Ue⟨rfl,k,rfl⟩
 have hQf:=Q.trans hQe (Below.drewN (Q.refl _) k)
 go_wp2
 go_ret
 exact⟨rfl,hQf⟩
end Go.Proofs.YtdecodpgdainiaaGreatDoor
