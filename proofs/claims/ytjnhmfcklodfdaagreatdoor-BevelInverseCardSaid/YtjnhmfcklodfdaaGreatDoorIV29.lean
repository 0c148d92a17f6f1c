/-
  The law BevelInverse.; What the row lays of the table of bevels.; A member as an argument.
-/
import Derived.Test.YtjnhmfcklodfdaaGreatDoorIV23
import Derived.Test.YtjnhmfcklodfdaaGreatDoorIV28
import Derived.Test.YtjnhmfcklodfdaaGreatDoorIV27
import Derived.Test.YtjnhmfcklodfdaaGreatDoorIVFOW
import Derived.Maps.Keyed
import Derived.WideKeyElems2
import Derived.Test.YtjnhmfcklodfdaaGreatDoorIV15
import Derived.ChangeMaps5
set_option maxRecDepth 100000
set_option maxHeartbeats 8000000
namespace Go.Proofs.YtjnhmfcklodfdaaGreatDoor
section
open Go.RowKit Go.Shelf Kp
attribute [local go_sem] Oper.semAt_some
theorem znT(m:Mb)(w:World)(hE:Env w)
  (HAw:Hid (∀ w',Q w w'→Calls Tryz.prog 5 #[] w' fun e w''=>e=.returned (.bool true)∧Q w' w'')) :
  CR 3 #[.agg (mbC m).toArray] w (.bool true):=by
 have HFI:=LH (fun b c t w hw hb=>zpF m b c t w hw hb)
 cases hf:zg6 m with
 | false =>
  rw[hf]at HFI
  clear hf
  obtain⟨k,fc,ot,X,Y,Z,X',Y',Z',W,D⟩:=m
  unfold mbC at *
  simp only at *
  obtain⟨W0,hW0⟩:∃ W0,w.alloc (.cells #[.int .i64 k,.int .i64 fc,.int .i64 ot,.string ⟨X.toArray⟩,.string ⟨Y.toArray⟩,.string ⟨Z.toArray⟩,.string ⟨X'.toArray⟩,.string ⟨Y'.toArray⟩,.string ⟨Z'.toArray⟩,.int .i64 W,.int .i64 D] 26)=W0:=⟨_,rfl⟩
  have hq0:Q w W0:=by rw[← hW0];exact bt
  have BM:Blk W0 w.heap.size [.int .i64 k,.int .i64 fc,.int .i64 ot,.string ⟨X.toArray⟩,.string ⟨Y.toArray⟩,.string ⟨Z.toArray⟩,.string ⟨X'.toArray⟩,.string ⟨Y'.toArray⟩,.string ⟨Z'.toArray⟩,.int .i64 W,.int .i64 D] 26:=by rw[← hW0];exact Blk.new w _ _
  have hqa:Q W0 (W0.alloc (.cells #[.int .i64 k,.int .i64 fc,.int .i64 ot,.string ⟨X.toArray⟩,.string ⟨Y.toArray⟩,.string ⟨Z.toArray⟩,.string ⟨X'.toArray⟩,.string ⟨Y'.toArray⟩,.string ⟨Z'.toArray⟩,.int .i64 W,.int .i64 D] 26)):=bt
  have hQ0:=Q.refl W0
  replace m0:=BM.cell
  replace lBM:=BM.lt
  go_enter Tryz.func3,Tryz.ntmps3
  go_wp2_with fail
  refine cx (HFI.out _ _ _ _ (hE.ofQ (Q.trans hq0 hqa)) (Blk.new W0 [.int .i64 k,.int .i64 fc,.int .i64 ot,.string ⟨X.toArray⟩,.string ⟨Y.toArray⟩,.string ⟨Z.toArray⟩,.string ⟨X'.toArray⟩,.string ⟨Y'.toArray⟩,.string ⟨Z'.toArray⟩,.int .i64 W,.int .i64 D] 26)) fun G1 hg1=>?_
  have hQ1:=Q.trans hq0 (Q.trans hqa hg1)
  go_wp2_with fail
  refine cx (HAw.out _ hQ1) fun G2 hg2=>?_
  have hQ2:=Q.trans hQ1 hg2
  go_wp2
  go_ret
  exact⟨rfl,hQ2⟩
 | true =>
  rw[hf]at HFI
  obtain⟨ok,six⟩:=ztN hf
  clear hf
  rw[zvb ok]at HFI ⊢
  have o1:=zuT ok six
  have o2:=zuS ok six
  have o3:=zuU ok six
  obtain⟨bf,bt6⟩:=zkw ok six
  have hne:=zsa ok
  have hmk:=ztC ok
  have HAl:=LH (fun w hw=>zmd m.kind m.face m.other m.wid m.dep hmk.1 hmk.2 m.pf m.pt bf bt6 (by decide) (zoz bf (by decide)) (zoz bt6 (by decide)) hne ⟨zbP bt6.1 bf.1,zbP bt6.2.1 bf.2.1,zbP bt6.2.2 bf.2.2⟩ (1 / 2) (zrT (n:=1) (d:=2) (by kernel_rfl) (by kernel_rfl) (by decide)) (by decide +kernel) (by decide +kernel) (by decide) w hw)
  have hS0:=fun hr w hw=>zfq m.vm o1 hr w hw
  have hS:=fun hr w hw=>zqA m.vm o1 hr w hw
  have hT0:=fun hr w hw=>zfq m.vt o2 hr w hw
  have hT:=fun hr w hw=>zqA m.vt o2 hr w hw
  have hP0:=fun hr w hw=>zix m.vm o1 hr w hw
  have hP:=fun hr w hw=>zqP m.vm o1 hr w hw
  have hU:=fun hr w hw=>zqA m.vh o3 hr w hw
  have hV:=fun hr w hw=>zqP m.vh o3 hr w hw
  have e1:m.vm.t.sub m.vm.f=m.pt.sub m.pf:=rfl
  have e2:m.vt.t.sub m.vt.f=m.pf.sub m.pt:=rfl
  have e3:m.vh.t.sub m.vh.f=(m.pt.sub m.pf).scale (1 / 2):=zre _ _
  rw[e1]at hS0 hS hP0 hP
  rw[e2,(neg_sub m.pf m.pt).1]at hT0
  rw[e2,(neg_sub m.pf m.pt).1,zr8,zqX]at hT
  rw[e3]at hU hV
  have hFz:=ztM m.pf m.pt
  have hZz:=zuk m.pf m.pt
  have hn3:¬ (((ze m.pf.x == ze m.pt.x && ze m.pf.y == ze m.pt.y)=true)∧(ze m.pf.z == ze m.pt.z)=true):=fun h=>hne (by
   obtain⟨h1,h2⟩:=h
   rw[Bool.and_eq_true,beq_iff_eq,beq_iff_eq]at h1
   rw[beq_iff_eq]at h2
   have a1:=zaB h1.1
   have a2:=zaB h1.2
   have a3:=zaB h2
   generalize m.pf=p at *
   generalize m.pt=q at *
   cases p
   cases q
   simp only at a1 a2 a3
   rw[a1,a2,a3])
  have E1:=zlT (zd4 (m.pt.sub m.pf))
  have E2:=zlT (zc2 (m.pt.sub m.pf))
  have E3:=zlT (zd4 ((m.pt.sub m.pf).scale (1 / 2)))
  have E4:=zlT (zc2 ((m.pt.sub m.pf).scale (1 / 2)))
  have S1:=fun hF hz h=>ztq (d:=m.pt.sub m.pf) hF hz h
  have S2:=fun hF hz h=>zr3 (d:=m.pt.sub m.pf) hF hz h
  have SI:=fun hF hz=>zuY (d:=m.pt.sub m.pf) hF hz
  have n1:=zqB (m.pt.sub m.pf)
  have n2:=zpj (m.pt.sub m.pf)
  have hU':Hid (flR (m.pt.sub m.pf) (m.pt.sub m.pf)≠0→(m.pt.sub m.pf).z≠0→∀ w,Env w→Calls Tryz.prog 6 #[.agg m.vh.c.toArray] w (MkE w (zkT (zd4 ((m.pt.sub m.pf).scale (1 / 2)))) (zeL (m.pt.sub m.pf)))):=LH (fun hF hz w hw=>by
   have h:=hU (zrd hF) w hw
   rw[zpK hF hz]at h
   exact h)
  have hV':Hid (flR (m.pt.sub m.pf) (m.pt.sub m.pf)≠0→(m.pt.sub m.pf).z≠0→∀ w,Env w→Calls Tryz.prog 7 #[.agg m.vh.c.toArray] w (MkE w (zkT (zc2 ((m.pt.sub m.pf).scale (1 / 2)))) (zdn (m.pt.sub m.pf)))):=LH (fun hF hz w hw=>by
   have h:=hV (zrb hz) w hw
   rw[znY hF hz]at h
   exact h)
  clear hU hV o1 o2 o3 bf bt6 hmk hne e1 e2 e3 ok six
  unfold Mb.vm Mb.vt Mb.vh Vm.c at *
  unfold VN V3 at HAl
  have h12:ze (1 / 2)=[49,47,50]:=by kernel_rfl
  rw[h12]at HAl
  simp only at *
  generalize (m.pt.sub m.pf).z=dz at *
  generalize flR (m.pt.sub m.pf) (m.pt.sub m.pf)=F at *
  generalize zkT (zd4 (m.pt.sub m.pf))=c1 at *
  generalize zkT (zc2 (m.pt.sub m.pf))=c2 at *
  generalize zkT (zd4 ((m.pt.sub m.pf).scale (1 / 2)))=c3 at *
  generalize zkT (zc2 ((m.pt.sub m.pf).scale (1 / 2)))=c4 at *
  generalize zeL (m.pt.sub m.pf)=L1 at *
  generalize zdn (m.pt.sub m.pf)=L2 at *
  generalize m.pf.add ((m.pt.sub m.pf).scale (1 / 2))=hp at *
  generalize ze hp.x=H1 at *
  generalize ze hp.y=H2 at *
  generalize ze hp.z=H3 at *
  generalize ze m.pf.x=X at *
  generalize ze m.pf.y=Y at *
  generalize ze m.pf.z=Z at *
  generalize ze m.pt.x=X' at *
  generalize ze m.pt.y=Y' at *
  generalize ze m.pt.z=Z' at *
  generalize m.kind=k at *
  generalize m.face=fc at *
  generalize m.other=ot at *
  generalize m.wid=W at *
  generalize m.dep=D at *
  clear h12
  have HS0:=LH hS0
  have HS:=LH hS
  have HT0:=LH hT0
  have HT:=LH hT
  have HP0:=LH hP0
  have HP:=LH hP
  have HSZ:=LH S1
  have HPZ:=LH S2
  have HSI:=LH SI
  have HF:=LH hFz
  have HZ:=LH hZz
  have HN:=LH hn3
  have HE1:=LH E1
  have HE2:=LH E2
  have HE3:=LH E3
  have HE4:=LH E4
  clear hS0 hS hT0 hT hP0 hP S1 S2 SI hFz hZz hn3 E1 E2 E3 E4
  obtain⟨W0,hW0⟩:∃ W0,w.alloc (.cells #[.int .i64 k,.int .i64 fc,.int .i64 ot,.string ⟨X.toArray⟩,.string ⟨Y.toArray⟩,.string ⟨Z.toArray⟩,.string ⟨X'.toArray⟩,.string ⟨Y'.toArray⟩,.string ⟨Z'.toArray⟩,.int .i64 W,.int .i64 D] 26)=W0:=⟨_,rfl⟩
  have hq0:Q w W0:=by rw[← hW0];exact bt
  have BM:Blk W0 w.heap.size [.int .i64 k,.int .i64 fc,.int .i64 ot,.string ⟨X.toArray⟩,.string ⟨Y.toArray⟩,.string ⟨Z.toArray⟩,.string ⟨X'.toArray⟩,.string ⟨Y'.toArray⟩,.string ⟨Z'.toArray⟩,.int .i64 W,.int .i64 D] 26:=by rw[← hW0];exact Blk.new w _ _
  have hqa:Q W0 (W0.alloc (.cells #[.int .i64 k,.int .i64 fc,.int .i64 ot,.string ⟨X.toArray⟩,.string ⟨Y.toArray⟩,.string ⟨Z.toArray⟩,.string ⟨X'.toArray⟩,.string ⟨Y'.toArray⟩,.string ⟨Z'.toArray⟩,.int .i64 W,.int .i64 D] 26)):=bt
  have hQ0:=Q.refl W0
  replace mm0:=BM.cell 0
  replace mm1:=BM.cell 1
  replace mm2:=BM.cell 2
  replace mm3:=BM.cell 3
  replace mm4:=BM.cell 4
  replace mm5:=BM.cell 5
  replace mm6:=BM.cell 6
  replace mm7:=BM.cell 7
  replace mm8:=BM.cell 8
  replace mm9:=BM.cell 9
  replace mm10:=BM.cell 10
  simp only[zs4,zs5]at mm0 mm1 mm2 mm3 mm4 mm5 mm6 mm7 mm8 mm9 mm10
  replace lBM:=BM.lt
  go_enter Tryz.func3,Tryz.ntmps3
  go_wp2_with fail
  clear hW0
  refine cx (HFI.out _ _ _ _ (hE.ofQ (Q.trans hq0 hqa)) (Blk.new W0 [.int .i64 k,.int .i64 fc,.int .i64 ot,.string ⟨X.toArray⟩,.string ⟨Y.toArray⟩,.string ⟨Z.toArray⟩,.string ⟨X'.toArray⟩,.string ⟨Y'.toArray⟩,.string ⟨Z'.toArray⟩,.int .i64 W,.int .i64 D] 26)) fun G1 hg1=>?_
  have hq01:=Q.trans hqa hg1
  replace BM:=BM.keep hq01 BM.lt
  have hQ1:=Q.trans hq0 hq01
  clear HFI hqa hg1 hq01 hq0 hQ0 mm0 mm1 mm2 mm3 mm4 mm5 mm6 mm7 mm8 mm9 mm10 lBM
  have hQ0:=Q.refl G1
  replace mm0:=BM.cell 0
  replace mm1:=BM.cell 1
  replace mm2:=BM.cell 2
  replace mm3:=BM.cell 3
  replace mm4:=BM.cell 4
  replace mm5:=BM.cell 5
  replace mm6:=BM.cell 6
  replace mm7:=BM.cell 7
  replace mm8:=BM.cell 8
  replace mm9:=BM.cell 9
  replace mm10:=BM.cell 10
  simp only[zs4,zs5]at mm0 mm1 mm2 mm3 mm4 mm5 mm6 mm7 mm8 mm9 mm10
  replace lBM:=BM.lt
  go_wp2_with fail
  have hEd:Env G1.drew:=hE.ofQ (Q.trans hQ1 (Below.drew (Q.refl G1)))
  obtain⟨bz,hbz⟩:∃ b,(Z == Z')=b:=⟨_,rfl⟩
  obtain⟨yb,hby⟩:∃ b,(Y == Y')=b:=⟨_,rfl⟩
  have HZ2:Hid (dz=0 ↔ bz=true):=LH (by rw[← hbz];exact HZ.out)
  cases hbx:(X == X')
  case' false =>
   have hF0:F≠0:=fun h=>by
    have:=HF.out.1 h
    rw[hbx]at this
    cases this
   refine zm 25 rfl (by kernel_rfl) rfl ?_
   refine svp 0 ?_
   refine svp 1 ?_
   refine svq 2 rfl (by intro w' hq;have hc0:=za hq mm3;go_simp;try with_reducible rfl) ?_
   refine svp 3 ?_
   refine svp 4 ?_
   refine svq 5 rfl (by intro w' hq;have hc0:=za hq mm6;go_simp;try with_reducible rfl) ?_
   refine svp 6 ?_
   refine svp 7 ?_
   refine svi 8 ?_
   refine svi 9 ?_
   refine svi 10 ?_
   refine svi 11 ?_
   refine svi 12 ?_
   refine svi 13 ?_
   refine svi 14 ?_
   refine svp 15 ?_
   refine svp 16 ?_
   refine svp 17 ?_
   refine svq 18 rfl (by intro w' hq;have hc0:=za hq mm5;go_simp;try with_reducible rfl) ?_
   refine svp 19 ?_
   refine svp 20 ?_
   refine svq 21 rfl (by intro w' hq;have hc0:=za hq mm8;go_simp;try with_reducible rfl) ?_
   refine svp 22 ?_
   refine svp 23 ?_
   refine svp 24 ?_
   refine zi (by kernel_rfl) (fun V hqv=>?_)
   simp only[List.drop_succ_cons,List.drop_nil]
  case' true =>
   have HF2:Hid (F=0 ↔ yb=true):=LH (by rw[HF.out,hbx,hby,Bool.true_and])
   have HN2:Hid (yb=true→bz=true→False):=LH (fun h1 h2=>HN.out ⟨HF.out.1 (HF2.out.2 h1),by rw[hbz];exact h2⟩)
   refine zm 25 rfl (by kernel_rfl) rfl ?_
   refine svp 0 ?_
   refine svp 1 ?_
   refine svq 2 rfl (by intro w' hq;have hc0:=za hq mm3;go_simp;try with_reducible rfl) ?_
   refine svp 3 ?_
   refine svp 4 ?_
   refine svq 5 rfl (by intro w' hq;have hc0:=za hq mm6;go_simp;try with_reducible rfl) ?_
   refine svp 6 ?_
   refine svp 7 ?_
   refine svp 8 ?_
   refine svp 9 ?_
   refine svq 10 rfl (by intro w' hq;have hc0:=za hq mm4;go_simp;try with_reducible rfl) ?_
   refine svp 11 ?_
   refine svp 12 ?_
   refine svq 13 rfl (by intro w' hq;have hc0:=za hq mm7;go_simp;try with_reducible rfl) ?_
   refine svp 14 ?_
   refine svp 15 ?_
   refine svp 16 ?_
   refine svp 17 ?_
   refine svq 18 rfl (by intro w' hq;have hc0:=za hq mm5;go_simp;try with_reducible rfl) ?_
   refine svp 19 ?_
   refine svp 20 ?_
   refine svq 21 rfl (by intro w' hq;have hc0:=za hq mm8;go_simp;try with_reducible rfl) ?_
   refine svp 22 ?_
   refine svp 23 ?_
   refine svp 24 ?_
   refine zi (by kernel_rfl) (fun V hqv=>?_)
   simp only[List.drop_succ_cons,List.drop_nil]
   clear hby hbz
   cases yb
   case' false=>have hF0:F≠0:=fun h=>by cases HF2.out.1 h
  case' true.true =>
   have hF0:F=0:=HF2.out.2 rfl
   obtain rfl:false=bz:=by
    cases bz
    ·rfl
    ·exact(HN2.out rfl rfl).elim
   have hz0:dz≠0:=fun h=>by cases HZ2.out.1 h
   have b1:=LH (HS0.out hF0)
   have b2:=LH (HP.out hz0)
   have b3:=LH (HT0.out hF0)
   have hqV:Q G1 V:=Q.trans (Below.drew (Q.refl G1)) hqv
   replace BM:=BM.keep hqV BM.lt
   have hQ:=Q.trans hQ1 hqV
   clear HS0 HS HT0 HT HP0 HP hU' hV' HSZ HPZ HSI HF HZ HN HF2 HN2 HZ2 HE3 HE4 HAl hF0 hz0 hbx hqv hEd hqV mm0 mm1 mm2 mm3 mm4 mm5 mm6 mm7 mm8 mm9 mm10 lBM
   have hQ0:=Q.refl V
   replace mm0:=BM.cell 0
   replace mm1:=BM.cell 1
   replace mm2:=BM.cell 2
   replace mm3:=BM.cell 3
   replace mm4:=BM.cell 4
   replace mm5:=BM.cell 5
   replace mm6:=BM.cell 6
   replace mm7:=BM.cell 7
   replace mm8:=BM.cell 8
   replace mm9:=BM.cell 9
   replace mm10:=BM.cell 10
   simp only[zs4,zs5]at mm0 mm1 mm2 mm3 mm4 mm5 mm6 mm7 mm8 mm9 mm10
   replace lBM:=BM.lt
   go_wp2_with fail
   refine cx (b1.out _ (hE.ofQ hQ)) fun V1 hv1=>?_
   replace BM:=BM.keep hv1 BM.lt
   have hQ2:=Q.trans hQ hv1
   clear hQ0 hv1 mm0 mm1 mm2 mm3 mm4 mm5 mm6 mm7 mm8 mm9 mm10 lBM
   have hQ0:=Q.refl V1
   replace mm0:=BM.cell 0
   replace mm1:=BM.cell 1
   replace mm2:=BM.cell 2
   replace mm3:=BM.cell 3
   replace mm4:=BM.cell 4
   replace mm5:=BM.cell 5
   replace mm6:=BM.cell 6
   replace mm7:=BM.cell 7
   replace mm8:=BM.cell 8
   replace mm9:=BM.cell 9
   replace mm10:=BM.cell 10
   simp only[zs4,zs5]at mm0 mm1 mm2 mm3 mm4 mm5 mm6 mm7 mm8 mm9 mm10
   replace lBM:=BM.lt
   go_wp2_with fail
   refine(b2.out _ (hE.ofQ hQ2)).mono ?_
   rintro e V2⟨v2,rfl,hv2,-,-⟩
   replace BM:=BM.keep hv2 BM.lt
   have hQ3:=Q.trans hQ2 hv2
   clear hQ0 hv2 mm0 mm1 mm2 mm3 mm4 mm5 mm6 mm7 mm8 mm9 mm10 lBM
   have hQ0:=Q.refl V2
   replace mm0:=BM.cell 0
   replace mm1:=BM.cell 1
   replace mm2:=BM.cell 2
   replace mm3:=BM.cell 3
   replace mm4:=BM.cell 4
   replace mm5:=BM.cell 5
   replace mm6:=BM.cell 6
   replace mm7:=BM.cell 7
   replace mm8:=BM.cell 8
   replace mm9:=BM.cell 9
   replace mm10:=BM.cell 10
   simp only[zs4,zs5]at mm0 mm1 mm2 mm3 mm4 mm5 mm6 mm7 mm8 mm9 mm10
   replace lBM:=BM.lt
   have tu:=LH (fun w=>zhZ k fc ot W D X Y Z X' Y' Z' w)
   have eqn:=LH (fun w=>zjM none none 0 0 w)
   have hc2:=HE2.out
   rcases hc2 with rfl | rfl
   all_goals
    go_wp2_with fail
    refine cx (tu.out _) fun V3 hv3=>?_
    have hQ4:=Q.trans hQ3 hv3
    go_wp2_with fail
    refine cx (b3.out _ (hE.ofQ hQ4)) fun V4 hv4=>?_
    go_wp2_with fail
    refine cx (eqn.out _) fun V5 hv5=>?_
    have hQ5:=Q.trans hQ4 (Q.trans hv4 hv5)
    go_wp2_with fail
    refine cx (HAw.out _ hQ5) fun V6 hv6=>?_
    have hQ6:=Q.trans hQ5 hv6
    go_wp2
    go_ret
    exact⟨rfl,hQ6⟩
  all_goals
   try clear hby hbz
   obtain⟨d2,HPd,hd2⟩:∃ d2,Hid (∀ W',Env W'→Calls Tryz.prog 7 #[.agg #[.int .i64 k,.int .i64 fc,.int .i64 ot,.string ⟨X.toArray⟩,.string ⟨Y.toArray⟩,.string ⟨Z.toArray⟩,.string ⟨X'.toArray⟩,.string ⟨Y'.toArray⟩,.string ⟨Z'.toArray⟩,.int .i64 W,.int .i64 D]] W' (MkE W' d2 L2))∧((bz=true∧d2=12)∨(bz=false∧d2=0∧c2=0)∨(bz=false∧d2=4)):=by
    cases hb:bz
    ·refine⟨c2,LH (HP.out (fun h=>by have:=HZ2.out.1 h;rw[hb]at this;cases this)),?_⟩
     rcases HE2.out with h | h
     ·exact .inr (.inl ⟨rfl,h,h⟩)
     ·exact .inr (.inr ⟨rfl,h⟩)
    ·exact⟨12,LH (fun W' hW'=>(HP0.out (HZ2.out.2 hb) W' hW').mono fun e w' h=>⟨_,h.1,h.2,fun _=>rfl,fun h=>by cases h⟩),.inl ⟨rfl,rfl⟩⟩
   have b1:=LH (HS.out hF0)
   have b3:=LH (HT.out hF0)
   have hqV:Q G1 V:=Q.trans (Below.drew (Q.refl G1)) hqv
   replace BM:=BM.keep hqV BM.lt
   have hQ:=Q.trans hQ1 hqV
   clear HS0 HS HT0 HT HP0 HP HF HZ HN hbx hqv hEd hqV mm0 mm1 mm2 mm3 mm4 mm5 mm6 mm7 mm8 mm9 mm10 lBM
   have hQ0:=Q.refl V
   replace mm0:=BM.cell 0
   replace mm1:=BM.cell 1
   replace mm2:=BM.cell 2
   replace mm3:=BM.cell 3
   replace mm4:=BM.cell 4
   replace mm5:=BM.cell 5
   replace mm6:=BM.cell 6
   replace mm7:=BM.cell 7
   replace mm8:=BM.cell 8
   replace mm9:=BM.cell 9
   replace mm10:=BM.cell 10
   simp only[zs4,zs5]at mm0 mm1 mm2 mm3 mm4 mm5 mm6 mm7 mm8 mm9 mm10
   replace lBM:=BM.lt
   go_wp2_with fail
   refine(b1.out _ (hE.ofQ hQ)).mono ?_
   rintro e V1⟨v1,rfl,hv1,nn1,hs1⟩
   replace BM:=BM.keep hv1 BM.lt
   have hQ2:=Q.trans hQ hv1
   clear hQ0 hv1 mm0 mm1 mm2 mm3 mm4 mm5 mm6 mm7 mm8 mm9 mm10 lBM
   have hQ0:=Q.refl V1
   replace mm0:=BM.cell 0
   replace mm1:=BM.cell 1
   replace mm2:=BM.cell 2
   replace mm3:=BM.cell 3
   replace mm4:=BM.cell 4
   replace mm5:=BM.cell 5
   replace mm6:=BM.cell 6
   replace mm7:=BM.cell 7
   replace mm8:=BM.cell 8
   replace mm9:=BM.cell 9
   replace mm10:=BM.cell 10
   simp only[zs4,zs5]at mm0 mm1 mm2 mm3 mm4 mm5 mm6 mm7 mm8 mm9 mm10
   replace lBM:=BM.lt
   go_wp2_with fail
   refine(HPd.out _ (hE.ofQ hQ2)).mono ?_
   rintro e V2⟨v2,rfl,hv2,-,hs2⟩
   replace BM:=BM.keep hv2 BM.lt
   have hs1':=fun h=>zK.keep (hs1 h) hv2
   have hQ3:=Q.trans hQ2 hv2
   clear hQ0 hv2 hs1 mm0 mm1 mm2 mm3 mm4 mm5 mm6 mm7 mm8 mm9 mm10 lBM
   have hQ0:=Q.refl V2
   replace mm0:=BM.cell 0
   replace mm1:=BM.cell 1
   replace mm2:=BM.cell 2
   replace mm3:=BM.cell 3
   replace mm4:=BM.cell 4
   replace mm5:=BM.cell 5
   replace mm6:=BM.cell 6
   replace mm7:=BM.cell 7
   replace mm8:=BM.cell 8
   replace mm9:=BM.cell 9
   replace mm10:=BM.cell 10
   simp only[zs4,zs5]at mm0 mm1 mm2 mm3 mm4 mm5 mm6 mm7 mm8 mm9 mm10
   replace lBM:=BM.lt
   have tu:=LH (fun w=>zhZ k fc ot W D X Y Z X' Y' Z' w)
   have HE1':=HE1.out
   rcases HE1' with rfl | rfl <;> rcases hd2 with⟨rfl,rfl⟩|⟨rfl,rfl,rfl⟩|⟨rfl,rfl⟩
   all_goals
    first
    | (have z1:=nn1 (show (4:Int)≠0 by decide);clear nn1;subst z1)
    | clear nn1
    go_wp2_with fail
    refine cx (tu.out _) fun V3 hv3=>?_
    have hQ4:=Q.trans hQ3 hv3
    go_wp2_with fail
    refine(b3.out _ (hE.ofQ hQ4)).mono ?_
    rintro e V4⟨v4,rfl,hv4,nn3,hs3⟩
    first
    | (have z3:=nn3 (show (4:Int)≠0 by decide);clear nn3;subst z3)
    | clear nn3
    have h24:=Q.trans hv3 hv4
    first
    | have eqn:=LH (ztT n1 _ _ v1 v4 V4 (zK.keep (hs1' (by trivial)) h24) (hs3 (by trivial)))
    | have eqn:=LH (zjM none none 0 0 V4)
    go_wp2_with fail
    refine eqn.out.mono ?_
    rintro e V5⟨rfl,hv5⟩
    have hQ5:=Q.trans hQ4 (Q.trans hv4 hv5)
    have h25:=Q.trans h24 hv5
    clear hv3 hv4 hv5 h24 eqn hs3 tu b3
   all_goals try (go_wp2_with fail;refine(HAw.out _ hQ5).mono ?_;rintro e V6 ⟨rfl,hv6⟩;have hQ6:=Q.trans hQ5 hv6;go_wp2;go_ret;exact⟨rfl,hQ6⟩)
   have hz0:dz≠0:=fun h=>by cases HZ2.out.1 h
   have fa1:=HSZ.out hF0 hz0 (by trivial)
   have fa2:=HPZ.out hF0 hz0 (by trivial)
   have hU:=LH (hU'.out hF0 hz0)
   have hV:=LH (hV'.out hF0 hz0)
   obtain⟨im1,im2⟩:=HSI.out hF0 hz0
   have k1:=zK.keep (hs1' (by trivial)) h25
   have k2:=zK.keep (hs2 (by trivial)) h25
   replace BM:=BM.keep h25 BM.lt
   have HM:=LH (znr L1 L2 (fa1.1.slist fa1.2) (fa2.1.slist fa2.2) (Nat.le_trans (Nat.mul_le_mul n1 n2) (by decide)) im1 _ _ v1 v2 V5 (hE.ofQ hQ5) k1 k2)
   clear HSZ HPZ hU' hV' HSI im1 hs1' hs2 h25 hQ4 hQ3 hQ2 HPd b1 HZ2 hF0 hz0 HE1 HE2 hQ0 mm0 mm1 mm2 mm3 mm4 mm5 mm6 mm7 mm8 mm9 mm10 lBM
   go_wp2_with fail
   refine HM.out.mono ?_
   rintro e V6⟨hv6,hno,hso⟩
   obtain⟨h,v5,rfl,hh⟩:∃ h v5,e=.returned (.tuple #[v5,.int .i64 h])∧(h=4∨(h=0∧zK V6 V5.heap.size v5 [((1:Rat),1)])):=by
    cases hm:zaR (zgQ L1 L2)with
    | none=>exact⟨4,_,hno hm,.inl rfl⟩
    | some C =>
     obtain⟨v5,he,h5⟩:=hso C hm
     rw[im2 C hm]at h5
     exact⟨0,v5,he,.inr ⟨rfl,h5⟩⟩
   have hQ6:=Q.trans hQ5 hv6
   replace k1:=zK.keep k1 hv6
   replace k2:=zK.keep k2 hv6
   replace BM:=BM.keep hv6 BM.lt
   clear hno hso im2 HM hv6 hQ5
   obtain⟨W7,hW7⟩:∃ W7,V6.alloc (.cells #[.int .i64 k,.int .i64 fc,.int .i64 ot,.string ⟨X.toArray⟩,.string ⟨Y.toArray⟩,.string ⟨Z.toArray⟩,.string ⟨X'.toArray⟩,.string ⟨Y'.toArray⟩,.string ⟨Z'.toArray⟩,.int .i64 W,.int .i64 D] 26)=W7:=⟨_,rfl⟩
   have hq67:Q V6 W7:=by rw[← hW7];exact bt
   have BH:Blk W7 V6.heap.size [.int .i64 k,.int .i64 fc,.int .i64 ot,.string ⟨X.toArray⟩,.string ⟨Y.toArray⟩,.string ⟨Z.toArray⟩,.string ⟨X'.toArray⟩,.string ⟨Y'.toArray⟩,.string ⟨Z'.toArray⟩,.int .i64 W,.int .i64 D] 26:=by rw[← hW7];exact Blk.new V6 _ _
   have BM7:=BM.keep hq67 BM.lt
   have hhs:=hQ6.size
   replace mm0:=BM.cell 0
   replace mm1:=BM.cell 1
   replace mm2:=BM.cell 2
   replace mm3:=BM.cell 3
   replace mm4:=BM.cell 4
   replace mm5:=BM.cell 5
   replace mm6:=BM.cell 6
   replace mm7:=BM.cell 7
   replace mm8:=BM.cell 8
   replace mm9:=BM.cell 9
   replace mm10:=BM.cell 10
   simp only[zs4,zs5]at mm0 mm1 mm2 mm3 mm4 mm5 mm6 mm7 mm8 mm9 mm10
   replace lBM:=BM.lt
   replace nn0:=BM7.cell 0
   replace nn1:=BM7.cell 1
   replace nn2:=BM7.cell 2
   replace nn3:=BM7.cell 3
   replace nn4:=BM7.cell 4
   replace nn5:=BM7.cell 5
   replace nn6:=BM7.cell 6
   replace nn7:=BM7.cell 7
   replace nn8:=BM7.cell 8
   replace nn9:=BM7.cell 9
   replace nn10:=BM7.cell 10
   simp only[zs4,zs5]at nn0 nn1 nn2 nn3 nn4 nn5 nn6 nn7 nn8 nn9 nn10
   replace lBM7:=BM7.lt
   go_wp2_with fail
   refine cx (HAl.out _ (hE.ofQ (Q.trans hQ6 hq67))) fun V8 hv8=>?_
   have hQ8:=Q.trans hQ6 (Q.trans hq67 hv8)
   have h68:=Q.trans hq67 hv8
   replace BH:=BH.keep hv8 BH.lt
   clear hW7 HAl mm0 mm1 mm2 mm3 mm4 mm5 mm6 mm7 mm8 mm9 mm10 lBM nn0 nn1 nn2 nn3 nn4 nn5 nn6 nn7 nn8 nn9 nn10 lBM7 BM7 BM
   have BHY:=BH.alloc (.cells #[.string ⟨H1.toArray⟩,.string ⟨H2.toArray⟩,.string ⟨H3.toArray⟩] 24)
   have hqy:Q V6 (V8.alloc (.cells #[.string ⟨H1.toArray⟩,.string ⟨H2.toArray⟩,.string ⟨H3.toArray⟩] 24)):=Q.trans h68 bt
   have BHX:=((BHY.set 6 (.string ⟨H1.toArray⟩)).set 7 (.string ⟨H2.toArray⟩)).set 8 (.string ⟨H3.toArray⟩)
   simp only[List.set_cons_zero,List.set_cons_succ]at BHX
   have h6X:=((hqy.setCell (p:=⟨V6.heap.size,6,none⟩) (Nat.le_refl _) (.string ⟨H1.toArray⟩)).setCell (p:=⟨V6.heap.size,7,none⟩) (Nat.le_refl _) (.string ⟨H2.toArray⟩)).setCell (p:=⟨V6.heap.size,8,none⟩) (Nat.le_refl _) (.string ⟨H3.toArray⟩)
   have fz:=BHY.frozen
   have cz:=BHY.cell
   clear BH
   go_wp2_with fail
   generalize hX:World.setCell _ _ _=X at *
   clear hX fz cz BHY hqy
   replace h6X:Q V6 X:=h6X
   have hQX:=Q.trans hQ6 h6X
   replace nn0:=BHX.cell 0
   replace nn1:=BHX.cell 1
   replace nn2:=BHX.cell 2
   replace nn3:=BHX.cell 3
   replace nn4:=BHX.cell 4
   replace nn5:=BHX.cell 5
   replace nn6:=BHX.cell 6
   replace nn7:=BHX.cell 7
   replace nn8:=BHX.cell 8
   replace nn9:=BHX.cell 9
   replace nn10:=BHX.cell 10
   simp only[zs4,zs5]at nn0 nn1 nn2 nn3 nn4 nn5 nn6 nn7 nn8 nn9 nn10
   replace lBHX:=BHX.lt
   go_wp2_with fail
   refine(hU.out _ (hE.ofQ hQX)).mono ?_
   rintro e V9⟨v6,rfl,hv9,-,hs6⟩
   replace BHX:=BHX.keep hv9 BHX.lt
   have h69:=Q.trans h6X hv9
   clear hv9 nn0 nn1 nn2 nn3 nn4 nn5 nn6 nn7 nn8 nn9 nn10 lBHX
   replace nn0:=BHX.cell 0
   replace nn1:=BHX.cell 1
   replace nn2:=BHX.cell 2
   replace nn3:=BHX.cell 3
   replace nn4:=BHX.cell 4
   replace nn5:=BHX.cell 5
   replace nn6:=BHX.cell 6
   replace nn7:=BHX.cell 7
   replace nn8:=BHX.cell 8
   replace nn9:=BHX.cell 9
   replace nn10:=BHX.cell 10
   simp only[zs4,zs5]at nn0 nn1 nn2 nn3 nn4 nn5 nn6 nn7 nn8 nn9 nn10
   replace lBHX:=BHX.lt
   go_wp2_with fail
   refine(hV.out _ (hE.ofQ (Q.trans hQ6 h69))).mono ?_
   rintro e V10⟨v7,rfl,hv10,-,hs7⟩
   have h610:=Q.trans h69 hv10
   have k6:=fun h=>zK.keep (hs6 h) hv10
   clear hs6 hv10 hU hV h69 nn0 nn1 nn2 nn3 nn4 nn5 nn6 nn7 nn8 nn9 nn10 lBHX BHX h68 hQ8 hv8 h6X hQX hq67 hhs
   have HE3':=HE3.out
   have HE4':=HE4.out
   clear HE3 HE4
   rcases hh with rfl | ⟨rfl,h5⟩
   case' _=>have qc:Q V10 V10:=Q.refl _
   rotate_left
   case' _ =>
    have qa:Q V10 (V10.alloc (.cells #[.string ⟨#[49]⟩,.string ⟨#[49]⟩] 37)):=bt
    have eq1:=LH (zhI zuG zqv _ _ v5 _ _ (hE.ofQ (Q.trans hQ6 (Q.trans h610 qa))) (zK.keep h5 (Q.trans h610 qa)) (zK.lit V10))
    go_wp2_with fail
    refine eq1.out.mono ?_
    rintro e V11⟨rfl,hv11⟩
    have qc:=Q.trans qa hv11
    clear eq1 hv11 qa h5
   all_goals
    rcases HE3' with rfl | rfl
   all_goals
    try (
     go_wp2_with fail
     refine cx ((zhI fa1.1 fa1.2 _ _ v1 v6 _ (hE.ofQ (Q.trans hQ6 (Q.trans h610 qc))) (zK.keep k1 (Q.trans h610 qc)) (zK.keep (k6 (by trivial)) qc))) fun V12 hv12=>?_
     replace qc:=Q.trans qc hv12)
   all_goals
    rcases HE4' with rfl | rfl
   all_goals
    try (
     go_wp2_with fail
     refine cx ((zhI fa2.1 fa2.2 _ _ v2 v7 _ (hE.ofQ (Q.trans hQ6 (Q.trans h610 qc))) (zK.keep k2 (Q.trans h610 qc)) (zK.keep (hs7 (by trivial)) qc))) fun V13 hv13=>?_
     replace qc:=Q.trans qc hv13)
   all_goals
    go_wp2_with fail
    have hQz:=Q.trans hQ6 (Q.trans h610 qc)
    refine cx (HAw.out _ hQz) fun V14 hv14=>?_
    have hQe:=Q.trans hQz hv14
    go_wp2
    go_ret
    exact⟨rfl,hQe⟩
end
section
open Go.ChangeShapes Go.WideShapes Go.ChangeAt Go.RowKit Go.Deep Kp
def zsM:DataW Unit:=match (Rows.laid_kingpost_bevel_asks:DataW Unit)with
 | .iface _ d=>d
 | d=>d
theorem zuZ : Tryz.prog.globalNamed "kingpost/bevel.asks" = some 0 := by kernel_rfl
theorem zuW:(Tryz.prog.globals[0]?).map (·.type)=some 102:=by kernel_rfl
theorem zl3:zsM.funcsOut.atKey (.int .i64 6) .nil=.held [107,105,110,103,112,111,115,116,47,98,101,118,101,108,46,98,97,99,107,105,110,103,115]:=by kernel_rfl
theorem zsL:zsM.funcsOut≠.nil:=fun h=>by
 have h1:zsM.funcsOut.atKey (.int .i64 6) .nil=.nil:=by rw[h];rfl
 rw[zl3]at h1
 cases h1
theorem zr5:((List.range Tryz.prog.funcs.size).filter fun f=>(Tryz.prog.funcs[f]?).any (·.name.toUTF8.data.toList == [107,105,110,103,112,111,115,116,47,98,101,118,101,108,46,98,97,99,107,105,110,103,115]))=[335]:=by kernel_rfl
theorem zrt{W:World}{n:Nat}{v:Value}{y:DataW (List UInt8) × List MemPlace}(h:Go.WideElems.elemAt (funcToken Tryz.prog) Tryz.prog W 0 (fun _=>true) true n 101 v=some y)(hy:y.1=.held [107,105,110,103,112,111,115,116,47,98,101,118,101,108,46,98,97,99,107,105,110,103,115]):v=.func (.func 335) #[] #[]:=by
 have he:=Tryz.underlying101
 unfold Go.WideElems.elemAt at h
 split at h
 ·rename_i hf
  have hc:v.cells.toList=[v]:=by
   cases v <;> simp[Value.formed,he,Value.cells]at hf ⊢
  rw[hc]at h
  obtain⟨d,q⟩:=y
  simp only at hy
  subst hy
  exact Go.func_of_trod he zr5 h
 ·cases h
theorem zt8 {W : World} {L : List (String × DataW Unit)} (hl : laidMetH Tryz.prog L W) (hm : ("kingpost/bevel.asks", Rows.laid_kingpost_bevel_asks) ∈ L) : zj3 W := by
 obtain ⟨g, t, cs, fuel, p, hg, ht, hv, hd⟩ := hl.funcs (n := "kingpost/bevel.asks") (d := zsM) hm
 obtain rfl:=Option.some.inj (zuZ.symm.trans hg)
 obtain rfl:=Option.some.inj (zuW.symm.trans ht)
 rcases Go.WideElems.open_map Tryz.underlying102 hd with⟨_,hx⟩|⟨b,es,clock,n,rfl,hcs,hb,_,F,hx⟩
 ·exact absurd (congrArg Prod.fst hx) zsL
 ·have hcell:W.cell? ⟨0,0,none⟩=some (.map (some b)):=by
   have:=World.var?_cell hg hv 0
   rw[Array.eq_one_of_toList hcs]at this
   simpa using this
  have hglt:0<W.heap.size:=by
   by_cases h:0<W.heap.size
   ·exact h
   ·unfold World.cell? at hcell
    rw[Array.getElem?_eq_none (by omega)]at hcell
    cases hcell
  refine⟨hglt,b,(Array.getElem?_eq_some_iff.1 hb).1,hcell,_,hb,fun W' hb'=>?_⟩
  have hx1:=congrArg Prod.fst hx
  try simp only at hx1
  rcases Go.Maps.fit_look false (Go.Maps.int_keyed Tryz.underlying3) Tryz.underlying102 (z:=.nilFunc) (by kernel_rfl) hb' F (Go.Maps.keyOf_int_mk (a:=6) Tryz.underlying3 (by decide))with⟨_,_,hat⟩|⟨e0,y,_,_,hrun,hRv,hat,_⟩
  ·have h1:=hat .nil
   rw[← hx1,zl3]at h1
   cases h1
  ·have h1:=hat .nil
   rw[← hx1,zl3]at h1
   rw[zrt hRv h1.symm]at hrun
   exact hrun
theorem zuI:Tryz.prog.cellsOf 24=3:=by kernel_rfl
theorem zu4:Tryz.prog.cellsOf 22=1:=by kernel_rfl
theorem zrz:Tryz.prog.cellsOf 3=1:=by kernel_rfl
theorem zt2:Tryz.prog.cellsOf 26=11:=by kernel_rfl
theorem zo7:Tryz.prog.underlying 24=some (.struct (Tryz.prog.fieldsOf 24)):=by kernel_rfl
theorem zhX:Tryz.prog.underlying 26=some (.struct (Tryz.prog.fieldsOf 26)):=by kernel_rfl
theorem zla:(Tryz.prog.fieldsOf 24).map (fun f=>(f.type,f.offset))=#[(22,0),(22,1),(22,2)]:=by kernel_rfl
theorem zcQ:(Tryz.prog.fieldsOf 26).map (fun f=>(f.type,f.offset))=#[(3,0),(3,1),(3,2),(24,3),(24,6),(3,9),(3,10)]:=by kernel_rfl
theorem zb0{fs:Array Field}{l:Array (TypeId × Nat)}(h:fs.map (fun f=>(f.type,f.offset))=l)(i:Nat)(t o:Nat)(hi:l[i]? = some (t,o)):∃ f,fs[i]? = some f∧f.type=t∧f.offset=o:=by
 rw[← h,Array.getElem?_map]at hi
 obtain⟨f,h1,h2⟩:=Option.map_eq_some_iff.1 hi
 simp only[Prod.mk.injEq]at h2
 exact⟨f,h1,h2.1,h2.2⟩
theorem zpJ{x:Int}(h:(Go.Lit.int .i64 x).wf=true):-9223372036854775808≤x∧x≤9223372036854775807:=by
 have h2:(decide (IntKind.min .i64≤x) && decide (x≤IntKind.max .i64))=true:=h
 rw[show IntKind.min .i64 = -9223372036854775808 from rfl,show IntKind.max .i64=9223372036854775807 from rfl]at h2
 simpa using h2
section
variable {H:Type} {enc:TypeId × Value→H} {W:World} {b0:Nat} {sp:Nat→Bool} {held:Bool}
theorem zdN{α:Type}{l:List α}{n i:Nat}(h:l.length=n)(hi:i<n):∃ y,l[i]? = some y:=⟨l[i]'(by omega),List.getElem?_eq_getElem (by omega)⟩
theorem zk5{c:Value}{fuel:Nat}{x:DataW H × List MemPlace}(h:DataW.trod enc Tryz.prog W 0 sp held fuel 22 [c]=some x):∃ s:Str,c=.string ⟨s.toArray⟩∧s.length≤maxLen:=by
 obtain⟨s,e,-,hs⟩:=DataW.trod_string Tryz.underlying22 h
 simp only[List.cons.injEq,and_true]at e
 exact⟨s.data.toList,by rw[e],by simpa using hs⟩
theorem zd2{c:Value}{fuel:Nat}{x:DataW H × List MemPlace}(h:DataW.trod enc Tryz.prog W 0 sp held fuel 3 [c]=some x):∃ n:Int,c=.int .i64 n∧-9223372036854775808≤n∧n≤9223372036854775807:=by
 obtain⟨n,e,-,hw⟩:=DataW.trod_int Tryz.underlying3 h
 simp only[List.cons.injEq,and_true]at e
 exact⟨n,e,zpJ hw⟩
theorem zme{c0 c1 c2:Value}{fuel:Nat}{x:DataW H × List MemPlace}(h:DataW.trod enc Tryz.prog W 0 sp held fuel 24 [c0,c1,c2]=some x) :
  ∃ X Y Z:Str,c0=.string ⟨X.toArray⟩∧c1=.string ⟨Y.toArray⟩∧c2=.string ⟨Z.toArray⟩∧X.length≤maxLen∧Y.length≤maxLen∧Z.length≤maxLen:=by
 obtain⟨ys,n,-,-,-,hyl,hat⟩:=DataW.trod_struct zo7 h
 have hs:ys.length=3:=by
  have:=congrArg Array.size zla
  simp only[Array.size_map]at this
  rw[hyl,this];rfl
 obtain⟨f0,g0,t0,o0⟩:=zb0 zla 0 22 0 rfl
 obtain⟨f1,g1,t1,o1⟩:=zb0 zla 1 22 1 rfl
 obtain⟨f2,g2,t2,o2⟩:=zb0 zla 2 22 2 rfl
 have h0:=hat 0 f0 g0
 have h1:=hat 1 f1 g1
 have h2:=hat 2 f2 g2
 rw[t0,o0,zu4]at h0
 rw[t1,o1,zu4]at h1
 rw[t2,o2,zu4]at h2
 obtain⟨y0,e0⟩:=zdN hs (i:=0) (by decide)
 obtain⟨y1,e1⟩:=zdN hs (i:=1) (by decide)
 obtain⟨y2,e2⟩:=zdN hs (i:=2) (by decide)
 rw[e0]at h0
 rw[e1]at h1
 rw[e2]at h2
 obtain⟨X,rfl,lX⟩:=zk5 (show DataW.trod enc Tryz.prog W 0 sp held n 22 [c0]=some y0 from h0)
 obtain⟨Y,rfl,lY⟩:=zk5 (show DataW.trod enc Tryz.prog W 0 sp held n 22 [c1]=some y1 from h1)
 obtain⟨Z,rfl,lZ⟩:=zk5 (show DataW.trod enc Tryz.prog W 0 sp held n 22 [c2]=some y2 from h2)
 exact⟨X,Y,Z,rfl,rfl,rfl,lX,lY,lZ⟩
structure Mb.fits (m:Mb):Prop where
 kind:-9223372036854775808≤m.kind∧m.kind≤9223372036854775807
 face:-9223372036854775808≤m.face∧m.face≤9223372036854775807
 other:-9223372036854775808≤m.other∧m.other≤9223372036854775807
 fx:m.fx.length≤maxLen
 fy:m.fy.length≤maxLen
 fz:m.fz.length≤maxLen
 tx:m.tx.length≤maxLen
 ty:m.ty.length≤maxLen
 tz:m.tz.length≤maxLen
 wid:-9223372036854775808≤m.wid∧m.wid≤9223372036854775807
 dep:-9223372036854775808≤m.dep∧m.dep≤9223372036854775807
theorem znm{c0 c1 c2 c3 c4 c5 c6 c7 c8 c9 c10:Value}{fuel:Nat}{x:DataW H × List MemPlace}(h:DataW.trod enc Tryz.prog W 0 sp held fuel 26 [c0,c1,c2,c3,c4,c5,c6,c7,c8,c9,c10]=some x) :
  ∃ m:Mb,m.fits∧[c0,c1,c2,c3,c4,c5,c6,c7,c8,c9,c10]=mbC m:=by
 obtain⟨ys,n,-,-,-,hyl,hat⟩:=DataW.trod_struct zhX h
 have hs:ys.length=7:=by
  have:=congrArg Array.size zcQ
  simp only[Array.size_map]at this
  rw[hyl,this];rfl
 obtain⟨f0,g0,t0,o0⟩:=zb0 zcQ 0 3 0 rfl
 obtain⟨f1,g1,t1,o1⟩:=zb0 zcQ 1 3 1 rfl
 obtain⟨f2,g2,t2,o2⟩:=zb0 zcQ 2 3 2 rfl
 obtain⟨f3,g3,t3,o3⟩:=zb0 zcQ 3 24 3 rfl
 obtain⟨f4,g4,t4,o4⟩:=zb0 zcQ 4 24 6 rfl
 obtain⟨f5,g5,t5,o5⟩:=zb0 zcQ 5 3 9 rfl
 obtain⟨f6,g6,t6,o6⟩:=zb0 zcQ 6 3 10 rfl
 have h0:=hat 0 f0 g0
 have h1:=hat 1 f1 g1
 have h2:=hat 2 f2 g2
 have h3:=hat 3 f3 g3
 have h4:=hat 4 f4 g4
 have h5:=hat 5 f5 g5
 have h6:=hat 6 f6 g6
 rw[t0,o0,zrz]at h0
 rw[t1,o1,zrz]at h1
 rw[t2,o2,zrz]at h2
 rw[t3,o3,zuI]at h3
 rw[t4,o4,zuI]at h4
 rw[t5,o5,zrz]at h5
 rw[t6,o6,zrz]at h6
 obtain⟨y0,e0⟩:=zdN hs (i:=0) (by decide)
 obtain⟨y1,e1⟩:=zdN hs (i:=1) (by decide)
 obtain⟨y2,e2⟩:=zdN hs (i:=2) (by decide)
 obtain⟨y3,e3⟩:=zdN hs (i:=3) (by decide)
 obtain⟨y4,e4⟩:=zdN hs (i:=4) (by decide)
 obtain⟨y5,e5⟩:=zdN hs (i:=5) (by decide)
 obtain⟨y6,e6⟩:=zdN hs (i:=6) (by decide)
 rw[e0]at h0
 rw[e1]at h1
 rw[e2]at h2
 rw[e3]at h3
 rw[e4]at h4
 rw[e5]at h5
 rw[e6]at h6
 obtain⟨k,rfl,rk⟩:=zd2 (show DataW.trod enc Tryz.prog W 0 sp held n 3 [c0]=some y0 from h0)
 obtain⟨fc,rfl,rf⟩:=zd2 (show DataW.trod enc Tryz.prog W 0 sp held n 3 [c1]=some y1 from h1)
 obtain⟨ot,rfl,ro⟩:=zd2 (show DataW.trod enc Tryz.prog W 0 sp held n 3 [c2]=some y2 from h2)
 obtain⟨X,Y,Z,rfl,rfl,rfl,lX,lY,lZ⟩:=zme (show DataW.trod enc Tryz.prog W 0 sp held n 24 [c3,c4,c5]=some y3 from h3)
 obtain⟨X',Y',Z',rfl,rfl,rfl,lX',lY',lZ'⟩:=zme (show DataW.trod enc Tryz.prog W 0 sp held n 24 [c6,c7,c8]=some y4 from h4)
 obtain⟨wi,rfl,rw'⟩:=zd2 (show DataW.trod enc Tryz.prog W 0 sp held n 3 [c9]=some y5 from h5)
 obtain⟨dp,rfl,rd⟩:=zd2 (show DataW.trod enc Tryz.prog W 0 sp held n 3 [c10]=some y6 from h6)
 exact⟨⟨k,fc,ot,X,Y,Z,X',Y',Z',wi,dp⟩,⟨rk,rf,ro,lX,lY,lZ,lX',lY',lZ',rw',rd⟩,rfl⟩
theorem zt9{α:Type}{cs:Array α}(h:cs.size=11):∃ c0 c1 c2 c3 c4 c5 c6 c7 c8 c9 c10,cs=#[c0,c1,c2,c3,c4,c5,c6,c7,c8,c9,c10]:=by
 obtain⟨l⟩:=cs
 match l,h with
 | [c0,c1,c2,c3,c4,c5,c6,c7,c8,c9,c10],_=>exact⟨c0,c1,c2,c3,c4,c5,c6,c7,c8,c9,c10,rfl⟩
theorem znN{v:Value}{d:DataW H}{ps:List MemPlace}(hok:Value.okWide Tryz.prog W .any b0 26 v)(h:DataW.Trod enc Tryz.prog W 0 sp held 26 v d ps) :
  ∃ m:Mb,v=.agg (mbC m).toArray∧m.fits:=by
 obtain⟨cs,rfl,hsz⟩:=okWide_struct zhX hok
 obtain⟨c0,c1,c2,c3,c4,c5,c6,c7,c8,c9,c10,rfl⟩:=zt9 (hsz.trans zt2)
 obtain⟨fuel,hf⟩:=h
 obtain⟨m,hm,he⟩:=znm (show DataW.trod enc Tryz.prog W 0 sp held fuel 26 [c0,c1,c2,c3,c4,c5,c6,c7,c8,c9,c10]=some (d,ps)from hf)
 exact⟨m,by rw[← he],hm⟩
end
end
end Go.Proofs.YtjnhmfcklodfdaaGreatDoor
