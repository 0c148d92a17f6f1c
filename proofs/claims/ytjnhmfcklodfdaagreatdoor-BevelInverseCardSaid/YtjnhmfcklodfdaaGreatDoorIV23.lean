/-
  Walks of the reference's check of a member.; The law BevelInverse: what it asks of its member.; Walks of package truelength at members of any faces.; The law's numbers: kingpostref02.Of at whole numbers; its spots and members; equal.; The mitres of the law's members.
-/
import Derived.Test.YtjnhmfcklodfdaaGreatDoorIV21
import Derived.Test.YtjnhmfcklodfdaaGreatDoorIV20
import Derived.Test.YtjnhmfcklodfdaaGreatDoorIV22
import Derived.Test.YtjnhmfcklodfdaaGreatDoorIV15
set_option maxRecDepth 100000
set_option maxHeartbeats 4000000
namespace Go.Proofs.YtjnhmfcklodfdaaGreatDoor
section
open Go.RowKit Go.Shelf Kp
attribute [local go_sem] Oper.semAt_some
theorem zi6(X Y Z:Str)(lX:X.length≤9)(lY:Y.length≤9)(lZ:Z.length≤9)(w:World)(hE:Env w) :
  CR 40 #[.agg #[.string ⟨X.toArray⟩,.string ⟨Y.toArray⟩,.string ⟨Z.toArray⟩]] w (.int .i64 (zoa X Y Z)):=by
 have HX:=LH (fun w (_:Env w)=>zc8 X lX w)
 have HY:=LH (fun w (_:Env w)=>zc8 Y lY w)
 have HZ:=LH (fun w (_:Env w)=>zc8 Z lZ w)
 obtain⟨c,hc⟩:∃ c,zoa X Y Z=c:=⟨_,rfl⟩
 rw[hc]
 unfold zoa at hc
 generalize zb4 X=cX at *
 generalize zb4 Y=cY at *
 generalize zb4 Z=cZ at *
 have HC:=LH hc
 clear hc lX lY lZ
 obtain⟨W0,hW0⟩:∃ W0,w.alloc (.cells #[.string ⟨X.toArray⟩,.string ⟨Y.toArray⟩,.string ⟨Z.toArray⟩] 24)=W0:=⟨_,rfl⟩
 have hq0:Q w W0:=by rw[← hW0];exact bt
 have BS:Blk W0 w.heap.size [.string ⟨X.toArray⟩,.string ⟨Y.toArray⟩,.string ⟨Z.toArray⟩] 24:=by rw[← hW0];exact Blk.new w _ _
 have hE0:=hE.ofQ hq0
 go_enter Tryz.func40,Tryz.ntmps40
 have hQ0:=Q.refl W0
 replace s0:=BS.cell
 replace lBS:=BS.lt
 go_wp2_with fail
 clear hW0
 refine cx (HX.out _ hE0) fun G1 hg1=>?_
 replace BS:=BS.keep hg1 BS.lt
 have hQ1:=Q.trans hq0 hg1
 clear s0 lBS
 replace s0:=BS.cell
 replace lBS:=BS.lt
 by_cases h0:cX=0
 ·have hb:(cX == 0)=true:=by rw[h0];rfl
  have hb2:(cX != 0)=false:=by rw[h0];rfl
  go_wp2_with fail
  refine cx (HY.out _ (hE.ofQ hQ1)) fun G2 hg2=>?_
  replace BS:=BS.keep hg2 BS.lt
  have hQ2:=Q.trans hQ1 hg2
  clear s0 lBS
  replace s0:=BS.cell
  replace lBS:=BS.lt
  by_cases h1:cY=0
  ·have hb3:(cY == 0)=true:=by rw[h1];rfl
   have hb4:(cY != 0)=false:=by rw[h1];rfl
   go_wp2_with fail
   refine cx (HZ.out _ (hE.ofQ hQ2)) fun G3 hg3=>?_
   have hQ3:=Q.trans hQ2 hg3
   have hc:c=cZ:=by rw[← HC.out,if_neg (by simpa using h0),if_neg (by simpa using h1)]
   go_wp2
   go_ret
   exact⟨by rw[hc];rfl,hQ3⟩
  ·have hb3:(cY == 0)=false:=by simpa using h1
   have hb4:(cY != 0)=true:=by simpa using h1
   have hc:c=cY:=by rw[← HC.out,if_neg (by simpa using h0),if_pos h1]
   go_wp2
   go_ret
   exact⟨by rw[hc];rfl,hQ2⟩
 ·have hb:(cX == 0)=false:=by simpa using h0
  have hb2:(cX != 0)=true:=by simpa using h0
  have hc:c=cX:=by rw[← HC.out,if_pos h0]
  go_wp2
  go_ret
  exact⟨by rw[hc];rfl,hQ1⟩
theorem zkz(n:Int)(w:World):Calls Tryz.prog 39 #[.int .i64 n] w fun e w'=>e=.returned (.bool (!zop n 1 1000))∧w=w':=by
 unfold zop
 by_cases h1:n<1
 ·have h2:¬ 1≤n:=by omega
  have e:(!(decide (n<1) || decide (1000<n)))=false:=by rw[decide_eq_true h1];rfl
  rw[e]
  go_enter Tryz.func39,Tryz.ntmps39
  go_wp2
  go_ret
  exact⟨rfl,rfl⟩
 ·have h2:1≤n:=by omega
  by_cases h3:1000<n
  ·have h4:¬ n≤1000:=by omega
   have e:(!(decide (n<1) || decide (1000<n)))=false:=by rw[decide_eq_true h3,Bool.or_true];rfl
   rw[e]
   go_enter Tryz.func39,Tryz.ntmps39
   go_wp2
   go_ret
   exact⟨rfl,rfl⟩
  ·have h4:n≤1000:=by omega
   have e:(!(decide (n<1) || decide (1000<n)))=true:=by rw[decide_eq_false h1,decide_eq_false h3];rfl
   rw[e]
   go_enter Tryz.func39,Tryz.ntmps39
   go_wp2
   go_ret
   exact⟨rfl,rfl⟩
theorem zho{n:Nat}(q:Rat)(h:Bd n q)(hn:n≤36)(hl:(ze q).length≤9)(w:World)(hE:Env w) :
  CR 84 #[.string ⟨(ze q).toArray⟩] w (.bool false):=by
 have HP:=LH (fun w (_:Env w)=>zll q (h.zah (by omega)) hl w)
 obtain⟨l1,l2⟩:=zjW h
 have b2:decide ((36:Int)<((Lib.itoa (q.den:Int)).length:Int))=false:=decide_eq_false (by omega)
 have b1:decide ((36:Int)<((zo (Lib.itoa q.num)).length:Int))=false:=decide_eq_false (by omega)
 clear h l1 l2 hl
 generalize ze q=S at *
 generalize Lib.itoa (q.den:Int)=D at *
 generalize Lib.itoa q.num=a at *
 by_cases hm:a.head? = some 45
 ·have hc:=zd1 hm
  have hdr:za0 a 1=zo a:=by
   conv=>lhs;rw[hc]
   rfl
  have ha0:(((at0 a 0).toNat:Int) == 45)=true:=by rw[hc];rfl
  have hpos:(0:Int)<(a.length:Int):=by rw[hc,List.length_cons];omega
  clear hm hc
  generalize zo a=U at *
  go_enter Tryz.func84,Tryz.ntmps84
  have hQ0:=Q.refl w
  go_wp2_with fail
  refine cx (HP.out _ (hE.ofQ bt)) fun w1 hq1=>?_
  have hs1:Q w w1:=Q.trans bt hq1
  have hQ1:Q w w1:=Q.trans hQ0 hs1
  go_wp2
  go_ret
  exact⟨rfl,bt⟩
 ·have hw:¬ (0:Int)<(a.length:Int)∨((0:Int)<(a.length:Int)∧(((at0 a 0).toNat:Int) == 45)=false):=by
   by_cases h:a=[]
   ·exact .inl (by rw[h];simp)
   ·refine .inr ⟨by have:=List.length_pos_iff.2 h;omega,zuQ (fun e=>hm (by rw[zbS h,e]))⟩
  rw[zbc hm]at b1
  clear hm
  rcases hw with hw | ⟨hw,h45⟩
  all_goals
   go_enter Tryz.func84,Tryz.ntmps84
   have hQ0:=Q.refl w
   go_wp2_with fail
   refine cx (HP.out _ (hE.ofQ bt)) fun w1 hq1=>?_
   have hs1:Q w w1:=Q.trans bt hq1
   have hQ1:Q w w1:=Q.trans hQ0 hs1
   go_wp2
   go_ret
   exact⟨rfl,bt⟩
theorem zfH{n:Nat}(p:P3)(h:B3 n p)(hn:n≤36)(lx:(ze p.x).length≤9)(ly:(ze p.y).length≤9)(lz:(ze p.z).length≤9)(w:World)(hE:Env w) :
  CR 41 #[V3 p] w (.bool false):=by
 have H1:=LH (fun w hw=>zho p.x h.1 hn lx w hw)
 have H2:=LH (fun w hw=>zho p.y h.2.1 hn ly w hw)
 have H3:=LH (fun w hw=>zho p.z h.2.2 hn lz w hw)
 unfold V3
 clear h lx ly lz
 generalize ze p.x=X at *
 generalize ze p.y=Y at *
 generalize ze p.z=Z at *
 obtain⟨W0,hW0⟩:∃ W0,w.alloc (.cells #[.string ⟨X.toArray⟩,.string ⟨Y.toArray⟩,.string ⟨Z.toArray⟩] 24)=W0:=⟨_,rfl⟩
 have hq0:Q w W0:=by rw[← hW0];exact bt
 have BS:Blk W0 w.heap.size [.string ⟨X.toArray⟩,.string ⟨Y.toArray⟩,.string ⟨Z.toArray⟩] 24:=by rw[← hW0];exact Blk.new w _ _
 have hE0:=hE.ofQ hq0
 go_enter Tryz.func41,Tryz.ntmps41
 have hQ0:=Q.refl W0
 replace s0:=BS.cell
 replace lBS:=BS.lt
 go_wp2_with fail
 refine cx (H1.out _ hE0) fun G1 hq1=>?_
 have hs1:Q W0 G1:=Q.trans bt hq1
 have hQ1:Q W0 G1:=Q.trans hQ0 hs1
 replace BS:=BS.keep hs1 BS.lt
 replace s0:=BS.cell
 replace lBS:=BS.lt
 clear hW0
 go_wp2_with fail
 refine cx (H2.out _ (hE0.ofQ hQ1)) fun G2 hq2=>?_
 have hs2:Q G1 G2:=Q.trans bt hq2
 have hQ2:Q W0 G2:=Q.trans hQ1 hs2
 replace BS:=BS.keep hs2 BS.lt
 replace s0:=BS.cell
 replace lBS:=BS.lt
 go_wp2_with fail
 refine cx (H3.out _ (hE0.ofQ hQ2)) fun G3 hq3=>?_
 have hs3:Q G2 G3:=Q.trans bt hq3
 have hQ3:Q W0 G3:=Q.trans hQ2 hs3
 replace BS:=BS.keep hs3 BS.lt
 replace s0:=BS.cell
 replace lBS:=BS.lt
 have hQ:=Q.trans hq0 hQ3
 go_wp2
 go_ret
 exact⟨rfl,hQ⟩
theorem znA(m:Mb)(h6:m.six)(w:World)(hE:Env w) :
  CR 15 #[.agg (mbC m).toArray] w (.int .i64 (ztb m)):=by
 have hs:=h6.short
 have up:∀ {a:Nat},a≤6→a≤9:=fun h=>Nat.le_trans h (by decide)
 have HF:=LH (fun w hw=>zi6 m.fx m.fy m.fz (up h6.fx) (up h6.fy) (up h6.fz) w hw)
 have HT:=LH (fun w hw=>zi6 m.tx m.ty m.tz (up h6.tx) (up h6.ty) (up h6.tz) w hw)
 have HLF:Hid (zoa m.fx m.fy m.fz=0→∀ w,Env w→CR 41 #[.agg #[.string ⟨m.fx.toArray⟩,.string ⟨m.fy.toArray⟩,.string ⟨m.fz.toArray⟩]] w (.bool false)):=LH (fun h w hw=>by
  have hc:=zg9 h
  have h1:=zfH (n:=30) m.pf ⟨zb3 hc.1 hs.fx (by decide),zb3 hc.2.1 hs.fy (by decide),zb3 hc.2.2 hs.fz (by decide)⟩ (by decide) (by show (ze (rval m.fx)).length≤9;rw[(zay hc.1).1];exact up h6.fx) (by show (ze (rval m.fy)).length≤9;rw[(zay hc.2.1).1];exact up h6.fy) (by show (ze (rval m.fz)).length≤9;rw[(zay hc.2.2).1];exact up h6.fz) w hw
  unfold V3 Mb.pf at h1
  simp only[(zay hc.1).1,(zay hc.2.1).1,(zay hc.2.2).1]at h1
  exact h1)
 have HLT:Hid (zoa m.tx m.ty m.tz=0→∀ w,Env w→CR 41 #[.agg #[.string ⟨m.tx.toArray⟩,.string ⟨m.ty.toArray⟩,.string ⟨m.tz.toArray⟩]] w (.bool false)):=LH (fun h w hw=>by
  have hc:=zg9 h
  have h1:=zfH (n:=30) m.pt ⟨zb3 hc.1 hs.tx (by decide),zb3 hc.2.1 hs.ty (by decide),zb3 hc.2.2 hs.tz (by decide)⟩ (by decide) (by show (ze (rval m.tx)).length≤9;rw[(zay hc.1).1];exact up h6.tx) (by show (ze (rval m.ty)).length≤9;rw[(zay hc.2.1).1];exact up h6.ty) (by show (ze (rval m.tz)).length≤9;rw[(zay hc.2.2).1];exact up h6.tz) w hw
  unfold V3 Mb.pt at h1
  simp only[(zay hc.1).1,(zay hc.2.1).1,(zay hc.2.2).1]at h1
  exact h1)
 have HQ:=LH (fun w=>ztU m.fx m.fy m.fz m.tx m.ty m.tz w)
 obtain⟨c,hc⟩:∃ c,ztb m=c:=⟨_,rfl⟩
 rw[hc]
 unfold ztb at hc
 obtain⟨k,fc,ot,X,Y,Z,X',Y',Z',W,D⟩:=m
 unfold mbC
 simp only at *
 clear hs h6 up
 generalize zoa X Y Z=c1 at *
 generalize zoa X' Y' Z'=c2 at *
 have HO2:=LH (fun w=>zkz W w)
 have HO3:=LH (fun w=>zkz D w)
 obtain⟨W0,hW0⟩:∃ W0,w.alloc (.cells #[.int .i64 k,.int .i64 fc,.int .i64 ot,.string ⟨X.toArray⟩,.string ⟨Y.toArray⟩,.string ⟨Z.toArray⟩,.string ⟨X'.toArray⟩,.string ⟨Y'.toArray⟩,.string ⟨Z'.toArray⟩,.int .i64 W,.int .i64 D] 26)=W0:=⟨_,rfl⟩
 have hq0:Q w W0:=by rw[← hW0];exact bt
 have BM:Blk W0 w.heap.size [.int .i64 k,.int .i64 fc,.int .i64 ot,.string ⟨X.toArray⟩,.string ⟨Y.toArray⟩,.string ⟨Z.toArray⟩,.string ⟨X'.toArray⟩,.string ⟨Y'.toArray⟩,.string ⟨Z'.toArray⟩,.int .i64 W,.int .i64 D] 26:=by rw[← hW0];exact Blk.new w _ _
 have hE0:=hE.ofQ hq0
 by_cases hk:zop k 1 12=true
 ·rw[if_pos hk]at hc
  subst hc
  have hk2:k<1∨(¬ k<1∧12<k):=by
   unfold zop at hk
   simp only[Bool.or_eq_true,decide_eq_true_eq]at hk
   omega
  have hQ0:=Q.refl W0
  replace m0:=BM.cell
  replace lBM:=BM.lt
  rcases hk2 with h1 | ⟨h1,h2⟩
  all_goals
   go_enter Tryz.func15,Tryz.ntmps15
   go_wp2
   go_ret
   exact⟨rfl,hq0⟩
 rw[if_neg hk]at hc
 have hk1:=zfv hk
 have k1:¬ k<1:=by omega
 have k2:¬ 12<k:=by omega
 by_cases hf:fc<0∨ot < -1
 ·rw[if_pos hf]at hc
  subst hc
  have hf2:fc<0∨(¬ fc<0∧ot < -1):=by omega
  have hQ0:=Q.refl W0
  replace m0:=BM.cell
  replace lBM:=BM.lt
  rcases hf2 with h1 | ⟨h1,h2⟩
  all_goals
   go_enter Tryz.func15,Tryz.ntmps15
   go_wp2
   go_ret
   exact⟨rfl,hq0⟩
 rw[if_neg hf]at hc
 have f1:¬ fc<0:=fun h=>hf (.inl h)
 have f2:¬ ot < -1:=fun h=>hf (.inr h)
 generalize zop W 1 1000=b2 at *
 generalize zop D 1 1000=b3 at *
 cases b2 with
 | true =>
  rw[if_pos (.inl rfl)]at hc
  subst hc
  have hQ0:=Q.refl W0
  replace m0:=BM.cell
  replace lBM:=BM.lt
  go_enter Tryz.func15,Tryz.ntmps15
  go_wp2_with fail
  refine(HO2.out _).mono ?_
  rintro e w1⟨rfl,rfl⟩
  go_wp2
  go_ret
  exact⟨rfl,hq0⟩
 | false =>
  cases b3 with
  | true =>
   rw[if_pos (.inr rfl)]at hc
   subst hc
   have hQ0:=Q.refl W0
   replace m0:=BM.cell
   replace lBM:=BM.lt
   go_enter Tryz.func15,Tryz.ntmps15
   go_wp2_with fail
   refine(HO2.out _).mono ?_
   rintro e w1⟨rfl,rfl⟩
   go_wp2_with fail
   refine(HO3.out _).mono ?_
   rintro e w1⟨rfl,rfl⟩
   go_wp2
   go_ret
   exact⟨rfl,hq0⟩
  | false =>
   rw[if_neg (by simp)]at hc
   have HC:=LH hc
   clear hc hf hk hk1
   have hQ0:=Q.refl W0
   replace m0:=BM.cell
   replace lBM:=BM.lt
   go_enter Tryz.func15,Tryz.ntmps15
   go_wp2_with fail
   refine(HO2.out _).mono ?_
   rintro e w1⟨rfl,rfl⟩
   go_wp2_with fail
   refine(HO3.out _).mono ?_
   rintro e w1⟨rfl,rfl⟩
   go_wp2_with fail
   refine cx (HF.out _ hE0) fun G1 hq1=>?_
   have hs1:Q W0 G1:=Q.trans bt hq1
   have hQ1:Q W0 G1:=Q.trans hQ0 hs1
   replace BM:=BM.keep hs1 BM.lt
   replace m0:=BM.cell
   replace lBM:=BM.lt
   clear hW0 HF HO2 HO3
   have hQ1':=Q.trans hq0 hQ1
   by_cases h1:c1=0
   ·have z1:(c1 == 0)=true:=by rw[h1];rfl
    have z2:(c1 != 0)=false:=by rw[h1];rfl
    go_wp2_with fail
    refine cx (HT.out _ (hE0.ofQ hQ1)) fun G2 hq2=>?_
    have hs2:Q G1 G2:=Q.trans bt hq2
    have hQ2:Q W0 G2:=Q.trans hQ1 hs2
    replace BM:=BM.keep hs2 BM.lt
    replace m0:=BM.cell
    replace lBM:=BM.lt
    have hQ2':=Q.trans hq0 hQ2
    by_cases h2:c2=0
    ·have z3:(c2 == 0)=true:=by rw[h2];rfl
     have z4:(c2 != 0)=false:=by rw[h2];rfl
     have HL1:=LH (HLF.out h1)
     have HL2:=LH (HLT.out h2)
     go_wp2_with fail
     refine cx (HL1.out _ (hE0.ofQ hQ2)) fun G3 hq3=>?_
     have hs3:Q G2 G3:=Q.trans bt hq3
     have hQ3:Q W0 G3:=Q.trans hQ2 hs3
     replace BM:=BM.keep hs3 BM.lt
     replace m0:=BM.cell
     replace lBM:=BM.lt
     go_wp2_with fail
     refine cx (HL2.out _ (hE0.ofQ hQ3)) fun G4 hq4=>?_
     have hs4:Q G3 G4:=Q.trans bt hq4
     have hQ4:Q W0 G4:=Q.trans hQ3 hs4
     replace BM:=BM.keep hs4 BM.lt
     replace m0:=BM.cell
     replace lBM:=BM.lt
     have hQ4':=Q.trans hq0 hQ4
     have hq:=HQ.out
     by_cases he:X=X'∧Y=Y'∧Z=Z'
     ·have hc:c=12:=by rw[← HC.out,if_neg (by simpa using h1),if_neg (by simpa using h2),if_pos he]
      rw[decide_eq_true he]at hq
      clear HLF HLT HL1 HL2 HC he HQ
      go_wp2
      go_ret
      exact⟨by rw[hc];rfl,hQ4'⟩
     ·have hc:c=0:=by rw[← HC.out,if_neg (by simpa using h1),if_neg (by simpa using h2),if_neg he]
      rw[decide_eq_false he]at hq
      clear HLF HLT HL1 HL2 HC he HQ
      go_wp2
      go_ret
      exact⟨by rw[hc];rfl,hQ4'⟩
    ·have z3:(c2 == 0)=false:=by simpa using h2
     have z4:(c2 != 0)=true:=by simpa using h2
     have hc:c=c2:=by rw[← HC.out,if_neg (by simpa using h1),if_pos h2]
     go_wp2
     go_ret
     exact⟨by rw[hc];rfl,hQ2'⟩
   ·have z1:(c1 == 0)=false:=by simpa using h1
    have z2:(c1 != 0)=true:=by simpa using h1
    have hc:c=c1:=by rw[← HC.out,if_pos h1]
    go_wp2
    go_ret
    exact⟨by rw[hc];rfl,hQ1'⟩
def zg6(m:Mb):Bool:=decide (m.fx.length≤6) && (decide (m.fy.length≤6) && (decide (m.fz.length≤6) && (decide (m.tx.length≤6) && (decide (m.ty.length≤6) && decide (m.tz.length≤6))))) && (ztb m == 0)
theorem ztN{m:Mb}(h:zg6 m=true):MbOk m∧m.six:=by
 unfold zg6 at h
 simp only[Bool.and_eq_true,decide_eq_true_eq,beq_iff_eq]at h
 obtain⟨⟨h1,h2,h3,h4,h5,h6⟩,h7⟩:=h
 exact⟨ztI h7,⟨h1,h2,h3,h4,h5,h6⟩⟩
theorem zrX(a b c d e f:Int)(w:World):(Builtin.max_ #[3,3,3,3,3,3] 3 #[.int .i64 a,.int .i64 b,.int .i64 c,.int .i64 d,.int .i64 e,.int .i64 f]).run Tryz.prog w=.ok (.int .i64 (max (max (max (max (max a b) c) d) e) f)) w:=by
 have h:∀ x y:Int,(if y > x then y else x)=max x y:=fun x y=>by
  rw[Int.max_def]
  split <;> split <;> omega
 simp only[Builtin.max_,Builtin.max2,List.foldlM_cons,List.foldlM_nil,Sem.run_bind,Sem.run_pure,Result.andThen_ok,h]
theorem zvc(a b c d e f:Nat):∃ M:Int,(∀ w,(Builtin.max_ #[3,3,3,3,3,3] 3 #[.int .i64 a,.int .i64 b,.int .i64 c,.int .i64 d,.int .i64 e,.int .i64 f]).run Tryz.prog w=.ok (.int .i64 M) w)∧(M≤6 ↔ (a≤6∧b≤6∧c≤6)∧d≤6∧e≤6∧f≤6) :=
 ⟨_,fun w=>zrX a b c d e f w,by omega⟩
theorem zsp(m:Mb)(w:World)(hE:Env w) :
  CR 14 #[.agg (mbC m).toArray] w (.bool (!zg6 m)):=by
 have hmx:∀ a b c d e f:Nat,(decide (a≤6) && (decide (b≤6) && (decide (c≤6) && (decide (d≤6) && (decide (e≤6) && decide (f≤6))))))=decide ((a≤6∧b≤6∧c≤6)∧d≤6∧e≤6∧f≤6):=fun a b c d e f=>by
  rw[Bool.eq_iff_iff]
  simp[and_assoc]
 obtain⟨M,hM,hM6⟩:=zvc m.fx.length m.fy.length m.fz.length m.tx.length m.ty.length m.tz.length
 by_cases hl:(m.fx.length≤6∧m.fy.length≤6∧m.fz.length≤6)∧m.tx.length≤6∧m.ty.length≤6∧m.tz.length≤6
 ·have hs:m.six:=⟨hl.1.1,hl.1.2.1,hl.1.2.2,hl.2.1,hl.2.2.1,hl.2.2.2⟩
  have HC:=LH (fun w hw=>znA m hs w hw)
  have e:zg6 m=(ztb m == 0):=by unfold zg6;rw[hmx,decide_eq_true hl,Bool.true_and]
  rw[e]
  generalize ztb m=E at *
  have hg:decide ((6:Int)<M)=false:=decide_eq_false (by have:=hM6.2 hl;omega)
  clear e hmx hs hl hM6
  obtain⟨k,fc,ot,X,Y,Z,X',Y',Z',W,D⟩:=m
  unfold mbC at *
  simp only at *
  obtain⟨W0,hW0⟩:∃ W0,w.alloc (.cells #[.int .i64 k,.int .i64 fc,.int .i64 ot,.string ⟨X.toArray⟩,.string ⟨Y.toArray⟩,.string ⟨Z.toArray⟩,.string ⟨X'.toArray⟩,.string ⟨Y'.toArray⟩,.string ⟨Z'.toArray⟩,.int .i64 W,.int .i64 D] 26)=W0:=⟨_,rfl⟩
  have hq0:Q w W0:=by rw[← hW0];exact bt
  have BM:Blk W0 w.heap.size [.int .i64 k,.int .i64 fc,.int .i64 ot,.string ⟨X.toArray⟩,.string ⟨Y.toArray⟩,.string ⟨Z.toArray⟩,.string ⟨X'.toArray⟩,.string ⟨Y'.toArray⟩,.string ⟨Z'.toArray⟩,.int .i64 W,.int .i64 D] 26:=by rw[← hW0];exact Blk.new w _ _
  have hQ0:=Q.refl W0
  replace m0:=BM.cell
  replace lBM:=BM.lt
  go_enter Tryz.func14,Tryz.ntmps14
  go_wp2_with fail
  refine cx (HC.out _ (hE.ofQ hq0)) fun G1 hg1=>?_
  have hQ:=Q.trans hq0 hg1
  cases hE0:(E == 0)
  ·have hn:=zax hE0
   go_wp2
   go_ret
   exact⟨by rw[hE0];rfl,hQ⟩
  ·have hn:=zby hE0
   go_wp2
   go_ret
   exact⟨by rw[hE0];rfl,hQ⟩
 ·have e:zg6 m=false:=by unfold zg6;rw[hmx,decide_eq_false hl,Bool.false_and]
  rw[e]
  have hg:decide ((6:Int)<M)=true:=decide_eq_true (by
   by_cases h:M≤6
   ·exact absurd (hM6.1 h) hl
   ·omega)
  clear e hmx hl hM6
  obtain⟨k,fc,ot,X,Y,Z,X',Y',Z',W,D⟩:=m
  unfold mbC at *
  simp only at *
  obtain⟨W0,hW0⟩:∃ W0,w.alloc (.cells #[.int .i64 k,.int .i64 fc,.int .i64 ot,.string ⟨X.toArray⟩,.string ⟨Y.toArray⟩,.string ⟨Z.toArray⟩,.string ⟨X'.toArray⟩,.string ⟨Y'.toArray⟩,.string ⟨Z'.toArray⟩,.int .i64 W,.int .i64 D] 26)=W0:=⟨_,rfl⟩
  have hq0:Q w W0:=by rw[← hW0];exact bt
  have BM:Blk W0 w.heap.size [.int .i64 k,.int .i64 fc,.int .i64 ot,.string ⟨X.toArray⟩,.string ⟨Y.toArray⟩,.string ⟨Z.toArray⟩,.string ⟨X'.toArray⟩,.string ⟨Y'.toArray⟩,.string ⟨Z'.toArray⟩,.int .i64 W,.int .i64 D] 26:=by rw[← hW0];exact Blk.new w _ _
  have hQ0:=Q.refl W0
  replace m0:=BM.cell
  replace lBM:=BM.lt
  go_enter Tryz.func14,Tryz.ntmps14
  go_wp2
  go_ret
  exact⟨rfl,hq0⟩
theorem zpI(m:Mb)(b c:Nat)(t:TypeId)(w:World)(hE:Env w)(hb:Blk w b (mbC m) t) :
  CR 38 #[.slice (some ⟨b,0,none⟩) 1 c,.func (.func 14) #[] #[]] w (.int .i64 (if zg6 m=true then -1 else 0)):=by
 have HC:=LH (fun w hw=>zsp m w hw)
 obtain⟨k,fc,ot,X,Y,Z,X',Y',Z',W,D⟩:=m
 unfold mbC at *
 simp only at *
 generalize zg6 _=fb at *
 go_enter Tryz.func38,Tryz.ntmps38
 have hQ0:=Q.refl w
 replace m0:=hb.cell
 replace lhb:=hb.lt
 go_wp2
 refine wp_loop_rounds 2 ?_
 rw[rounds_succ]
 go_wp2_with fail
 refine cx (HC.out _ (hE.ofQ bt)) fun w1 hq1=>?_
 have hQ:Q w w1:=Q.trans bt hq1
 cases fb
 ·go_wp2
  go_ret
  exact⟨rfl,hQ⟩
 ·go_wp2
  rw[rounds_succ]
  go_wp2
  go_ret
  exact⟨rfl,hQ⟩
theorem zlV(m:Mb)(b c:Nat)(t:TypeId)(w:World)(hE:Env w)(hb:Blk w b (mbC m) t) :
  CR 13 #[.slice (some ⟨b,0,none⟩) 1 c,.func (.func 14) #[] #[]] w (.bool (!zg6 m)):=by
 have HI:=LH (zpI m b c t w hE hb)
 clear hb
 generalize zg6 m=fb at *
 go_enter Tryz.func13,Tryz.ntmps13
 go_wp2_with fail
 refine HI.out.mono ?_
 rintro e w1⟨rfl,hq1⟩
 cases fb
 ·go_wp2
  go_ret
  exact⟨rfl,hq1⟩
 ·go_wp2
  go_ret
  exact⟨rfl,hq1⟩
theorem zpF(m:Mb)(b c:Nat)(t:TypeId)(w:World)(hE:Env w)(hb:Blk w b (mbC m) t) :
  CR 4 #[.slice (some ⟨b,0,none⟩) 1 c] w (.bool (zg6 m)):=by
 have HI:=LH (zlV m b c t w hE hb)
 clear hb
 generalize zg6 m=fb at *
 go_enter Tryz.func4,Tryz.ntmps4
 go_wp2_with fail
 refine HI.out.mono ?_
 rintro e w1⟨rfl,hq1⟩
 cases fb
 ·go_wp2
  go_ret
  exact⟨rfl,hq1⟩
 ·go_wp2
  go_ret
  exact⟨rfl,hq1⟩
theorem zid{n:Nat}(k F O W D:Int)(hm:MOk k W D)(ho:FOk F O)(f t:P3)(hf:B3 n f)(ht:B3 n t)(hn:n≤149)(hlf:lg3 f=false)(hlt:lg3 t=false)(hne:f≠t)(w:World)(hE:Env w) :
  CR 29 #[VN k F O W D f t] w (.tuple #[V3 (t.sub f),.int .i64 0]):=by
 have hc:=fun w hw=>zgh k F O W D hm ho f t hf ht (by omega) hlf hne w hw
 rw[hlt,if_neg (by decide)]at hc
 have HC:=LH hc
 have HS:=LH (fun w hw=>zjG k F O W D hm ho f t hf ht hn hlf hlt hne w hw)
 unfold VN V3 at *
 clear hm ho hf ht hne hlf hlt hc
 generalize ze (t.sub f).x=U at *
 generalize ze (t.sub f).y=V at *
 generalize ze (t.sub f).z=T at *
 generalize ze f.x=X at *
 generalize ze f.y=Y at *
 generalize ze f.z=Z at *
 generalize ze t.x=X' at *
 generalize ze t.y=Y' at *
 generalize ze t.z=Z' at *
 go_enter Tryz.func29,Tryz.ntmps29
 have hQ0:=Q.refl w
 go_wp2_with fail
 refine cx (HC.out _ (hE.ofQ bt)) fun w1 hq1=>?_
 have hs1:Q w w1:=Q.trans bt hq1
 have hQ1:Q w w1:=Q.trans hQ0 hs1
 have M:=((Blk.new w [.int .i64 k,.int .i64 F,.int .i64 O,.string ⟨X.toArray⟩,.string ⟨Y.toArray⟩,.string ⟨Z.toArray⟩,.string ⟨X'.toArray⟩,.string ⟨Y'.toArray⟩,.string ⟨Z'.toArray⟩,.int .i64 W,.int .i64 D] 26).alloc (.cells #[.string ⟨#[]⟩,.string ⟨#[]⟩,.string ⟨#[]⟩] 24)).keep hq1 (by first | (simp;done)|(simp;omega))
 have R:=(Blk.new1 w (.cells #[.int .i64 k,.int .i64 F,.int .i64 O,.string ⟨X.toArray⟩,.string ⟨Y.toArray⟩,.string ⟨Z.toArray⟩,.string ⟨X'.toArray⟩,.string ⟨Y'.toArray⟩,.string ⟨Z'.toArray⟩,.int .i64 W,.int .i64 D] 26) [.string ⟨#[]⟩,.string ⟨#[]⟩,.string ⟨#[]⟩] 24).keep hq1 (by first | (simp;done)|(simp;omega))
 replace m0:=M.cell
 replace lM:=M.lt
 replace r0:=R.cell
 replace lR:=R.lt
 go_wp2_with fail
 refine cx (HS.out _ (hE.ofQ bt)) fun w2 hq2=>?_
 have hs2:Q w1 w2:=Q.trans bt hq2
 have hQ2:Q w w2:=Q.trans hQ1 hs2
 replace M:=M.keep hs2 M.lt
 replace m0:=M.cell
 replace lM:=M.lt
 replace R:=R.keep hs2 R.lt
 replace r0:=R.cell
 replace lR:=R.lt
 clear M lM m0
 have f0:=R.frozen 0
 have f1:=R.frozen 1
 have f2:=R.frozen 2
 go_wp2
 refine bodyPost_ret (v:=.tuple #[.agg #[.string ⟨U.toArray⟩,.string ⟨V.toArray⟩,.string ⟨T.toArray⟩],.int .i64 0]) (zeo Tryz.results29 (.inl rfl) _ _ (w.heap.size+1) _ _ _ _ rfl rfl (R.set3.cell 0) (R.set3.cell 1) (R.set3.cell 2)) rfl ⟨rfl,bt⟩
theorem zmd{n m:Nat}(k F O W D:Int)(hm:MOk k W D)(ho:FOk F O)(f t:P3)(hf:B3 n f)(ht:B3 n t)(hn:n≤149)(hlf:lg3 f=false)(hlt:lg3 t=false)(hne:f≠t)(hd:B3 m (t.sub f))(s:Rat)(bs:zR s)(s0:0≤s.num)(s1:s.num≤s.den)(hnm:n+(m+8)+1≤300)(w:World)(hE:Env w) :
  CR 11 #[VN k F O W D f t,.string ⟨(ze s).toArray⟩] w (.tuple #[V3 (f.add ((t.sub f).scale s)),.int .i64 0]):=by
 have bd8:Bd 8 s:=bs
 have HS:=LH (fun w hw=>zid k F O W D hm ho f t hf ht hn hlf hlt hne w hw)
 have HC:=LH (fun w hw=>zI s (bd8.zah (by decide)) w hw)
 have HP:=LH (fun w hw=>zbi s (bd8.zah (by decide)) w hw)
 obtain⟨l1,l2⟩:=zjW bd8
 have hcm:=fun w=>zcx s 1 bs zqr w
 have hc0:=zqw s1
 rw[zci]at hcm
 have HCM:=LH hcm
 have HV:=LH (fun w hw=>zmc (t.sub f) s hd bd8 (by omega) w hw)
 have hb:B3 (m+8) ((t.sub f).scale s):=⟨hd.1.mul bd8,hd.2.1.mul bd8,hd.2.2.mul bd8⟩
 have HA:=LH (fun w hw=>zoZ f ((t.sub f).scale s) hf hb hnm w hw)
 have hmin:decide ((ze s).head? = some 45)=false:=by rw[decide_eq_false_iff_not,zeZ];omega
 have HM:=LH (fun w=>zX (ze s) w)
 rw[hmin]at HM
 have hu:zo (Lib.itoa s.num)=zo (Lib.itoa s.num):=rfl
 generalize Lib.itoa (s.den:Int)=Dn at *
 have HT:=LH (fun w=>zM (Lib.itoa s.num) w)
 generalize zo (Lib.itoa s.num)=Un at *
 generalize Lib.itoa s.num=Nn at *
 have hmx:decide ((36:Int)<max (Un.length:Int) (Dn.length:Int))=false:=by rw[decide_eq_false_iff_not];omega
 generalize Lib.compareInt (s.num*((1:Rat).den:Int)) ((1:Rat).num*(s.den:Int))=c at *
 have hc1:decide (0<c)=false:=by rw[decide_eq_false_iff_not];omega
 unfold VN V3 at *
 clear hm ho hf ht hne hlf hlt hd bs bd8 s0 s1 hcm hmin hu hb
 generalize ze (f.add ((t.sub f).scale s)).x=R1 at *
 generalize ze (f.add ((t.sub f).scale s)).y=R2 at *
 generalize ze (f.add ((t.sub f).scale s)).z=R3 at *
 generalize ze ((t.sub f).scale s).x=S1 at *
 generalize ze ((t.sub f).scale s).y=S2 at *
 generalize ze ((t.sub f).scale s).z=S3 at *
 generalize ze s=S at *
 generalize ze (t.sub f).x=U at *
 generalize ze (t.sub f).y=V at *
 generalize ze (t.sub f).z=T at *
 generalize ze f.x=X at *
 generalize ze f.y=Y at *
 generalize ze f.z=Z at *
 generalize ze t.x=X' at *
 generalize ze t.y=Y' at *
 generalize ze t.z=Z' at *
 go_enter Tryz.func11,Tryz.ntmps11
 have hQ0:=Q.refl w
 go_wp2_with fail
 refine cx (HS.out _ (hE.ofQ bt)) fun w1 hq1=>?_
 have hs1:Q w w1:=Q.trans bt hq1
 have hQ1:Q w w1:=Q.trans hQ0 hs1
 have M:=((Blk.new w [.int .i64 k,.int .i64 F,.int .i64 O,.string ⟨X.toArray⟩,.string ⟨Y.toArray⟩,.string ⟨Z.toArray⟩,.string ⟨X'.toArray⟩,.string ⟨Y'.toArray⟩,.string ⟨Z'.toArray⟩,.int .i64 W,.int .i64 D] 26).alloc (.cells #[.string ⟨#[]⟩,.string ⟨#[]⟩,.string ⟨#[]⟩] 24)).keep hq1 (by first | (simp;done)|(simp;omega))
 have R:=(Blk.new1 w (.cells #[.int .i64 k,.int .i64 F,.int .i64 O,.string ⟨X.toArray⟩,.string ⟨Y.toArray⟩,.string ⟨Z.toArray⟩,.string ⟨X'.toArray⟩,.string ⟨Y'.toArray⟩,.string ⟨Z'.toArray⟩,.int .i64 W,.int .i64 D] 26) [.string ⟨#[]⟩,.string ⟨#[]⟩,.string ⟨#[]⟩] 24).keep hq1 (by first | (simp;done)|(simp;omega))
 have hz1:=hQ1.size
 have hlr:=R.lt
 have G:=Blk.new w1 [.string ⟨U.toArray⟩,.string ⟨V.toArray⟩,.string ⟨T.toArray⟩] 24
 go_wp2_with fail
 refine cx (HC.out _ (hE.ofQ bt)) fun w2 hq2=>?_
 have hs2:Q w1 w2:=Q.trans bt hq2
 have hQ2:Q w w2:=Q.trans hQ1 hs2
 replace G:=G.keep hq2 G.lt
 replace M:=M.keep hs2 M.lt
 replace R:=R.keep hs2 R.lt
 go_wp2_with fail
 refine cx (HP.out _ (hE.ofQ bt)) fun w3 hq3=>?_
 have hs3:Q w2 w3:=Q.trans bt hq3
 have hQ3:Q w w3:=Q.trans hQ2 hs3
 replace G:=G.keep hs3 G.lt
 replace M:=M.keep hs3 M.lt
 replace R:=R.keep hs3 R.lt
 go_wp2_with fail
 refine(HT.out _).mono ?_
 rintro e w4⟨rfl,rfl⟩
 go_wp2_with fail
 refine cx (HCM.out _) fun w4 hq4=>?_
 have hs4:Q w3 w4:=Q.trans bt hq4
 have hQ4:Q w w4:=Q.trans hQ3 hs4
 replace G:=G.keep hs4 G.lt
 replace M:=M.keep hs4 M.lt
 replace R:=R.keep hs4 R.lt
 go_wp2_with fail
 refine(HM.out _).mono ?_
 rintro e w5⟨rfl,rfl⟩
 have g0:=G.cell
 go_wp2_with fail
 refine cx (HV.out _ (hE.ofQ bt)) fun w6 hq6=>?_
 have hs6:Q w4 w6:=Q.trans bt hq6
 have hQ6:Q w w6:=Q.trans hQ4 hs6
 replace G:=G.keep hs6 G.lt
 replace M:=M.keep hs6 M.lt
 replace R:=R.keep hs6 R.lt
 replace g0:=G.cell
 have f0:=G.frozen 0
 have f1:=G.frozen 1
 have f2:=G.frozen 2
 have m3:=M.cell 3
 have m4:=M.cell 4
 have m5:=M.cell 5
 have lM:=M.lt
 have lG:=G.lt
 have lR:=R.lt
 have hMG:w1.heap.size≠w.heap.size:=by omega
 have hRG:w1.heap.size≠w.heap.size+1:=by omega
 try simp only[zs4,zs5]at m3 m4 m5
 go_wp2_with fail
 refine cx (HA.out _ (hE.ofQ bt)) fun w7 hq7=>?_
 have hQ7:Q w w7:=Below.trans bt (hq7.mono (by simp;omega))
 replace R:=(R.setOther3 (x:=.string ⟨S1.toArray⟩) (y:=.string ⟨S2.toArray⟩) (z:=.string ⟨S3.toArray⟩) hRG).keep hq7 (by simp;omega)
 clear g0 f0 f1 f2 m3 m4 m5
 have r0:=R.cell
 have f0:=R.frozen 0
 have f1:=R.frozen 1
 have f2:=R.frozen 2
 go_wp2
 refine bodyPost_ret (v:=.tuple #[.agg #[.string ⟨R1.toArray⟩,.string ⟨R2.toArray⟩,.string ⟨R3.toArray⟩],.int .i64 0]) (zeo Tryz.results11 (.inl rfl) _ _ (w.heap.size+1) _ _ _ _ rfl rfl (R.set3.cell 0) (R.set3.cell 1) (R.set3.cell 2)) rfl ⟨rfl,bt⟩
theorem zky{W:World}{b:Nat}{c0 c1 c2 c3 c4 c5 c6 c7 c8 c9 c10:Value}(h:Blk W b [c0,c1,c2,c3,c4,c5,c6,c7,c8,c9,c10] 26)(fn:Func)(m:Nat)(hf:fn.results=#[.cell m 26])(tmps:Array Value)(hp:tmps.getD m undef=.pointer (some ⟨b,0,none⟩)) :
  (results fn tmps).run Tryz.prog W=.ok (.agg #[c0,c1,c2,c3,c4,c5,c6,c7,c8,c9,c10]) W :=
 results_cell_row hf tmps W b _ #[c0,c1,c2,c3,c4,c5,c6,c7,c8,c9,c10] (0,0) _ hp h Tryz.underlying26 rfl (by kernel_rfl)
theorem zh0(k F O:Int)(X1 X2 X3 X4 X5 X6:Str)(w:World) :
  CR 16 #[.int .i64 k,.int .i64 F,.int .i64 O,.agg #[.string ⟨X1.toArray⟩,.string ⟨X2.toArray⟩,.string ⟨X3.toArray⟩],.agg #[.string ⟨X4.toArray⟩,.string ⟨X5.toArray⟩,.string ⟨X6.toArray⟩]] w (.agg #[.int .i64 k,.int .i64 F,.int .i64 O,.string ⟨X1.toArray⟩,.string ⟨X2.toArray⟩,.string ⟨X3.toArray⟩,.string ⟨X4.toArray⟩,.string ⟨X5.toArray⟩,.string ⟨X6.toArray⟩,.int .i64 50,.int .i64 100]):=by
 go_enter Tryz.func16,Tryz.ntmps16
 go_wp2
 refine bodyPost_ret (v:=.agg #[.int .i64 k,.int .i64 F,.int .i64 O,.string ⟨X1.toArray⟩,.string ⟨X2.toArray⟩,.string ⟨X3.toArray⟩,.string ⟨X4.toArray⟩,.string ⟨X5.toArray⟩,.string ⟨X6.toArray⟩,.int .i64 50,.int .i64 100]) (zky (Blk.new2 w _ _ [.int .i64 k,.int .i64 F,.int .i64 O,.string ⟨X1.toArray⟩,.string ⟨X2.toArray⟩,.string ⟨X3.toArray⟩,.string ⟨X4.toArray⟩,.string ⟨X5.toArray⟩,.string ⟨X6.toArray⟩,.int .i64 50,.int .i64 100] 26) Tryz.f16 10 rfl _ rfl) rfl ⟨rfl,bt⟩
theorem zhZ(k F O W D:Int)(X1 X2 X3 X4 X5 X6:Str)(w:World) :
  CR 8 #[.agg #[.int .i64 k,.int .i64 F,.int .i64 O,.string ⟨X1.toArray⟩,.string ⟨X2.toArray⟩,.string ⟨X3.toArray⟩,.string ⟨X4.toArray⟩,.string ⟨X5.toArray⟩,.string ⟨X6.toArray⟩,.int .i64 W,.int .i64 D]] w (.agg #[.int .i64 k,.int .i64 F,.int .i64 O,.string ⟨X4.toArray⟩,.string ⟨X5.toArray⟩,.string ⟨X6.toArray⟩,.string ⟨X1.toArray⟩,.string ⟨X2.toArray⟩,.string ⟨X3.toArray⟩,.int .i64 W,.int .i64 D]):=by
 go_enter Tryz.func8,Tryz.ntmps8
 go_wp2_with fail
 refine bodyPost_ret (v:=.agg #[.int .i64 k,.int .i64 F,.int .i64 O,.string ⟨X4.toArray⟩,.string ⟨X5.toArray⟩,.string ⟨X6.toArray⟩,.string ⟨X1.toArray⟩,.string ⟨X2.toArray⟩,.string ⟨X3.toArray⟩,.int .i64 W,.int .i64 D]) (zky (Blk.new1 w _ [.int .i64 k,.int .i64 F,.int .i64 O,.string ⟨X4.toArray⟩,.string ⟨X5.toArray⟩,.string ⟨X6.toArray⟩,.string ⟨X1.toArray⟩,.string ⟨X2.toArray⟩,.string ⟨X3.toArray⟩,.int .i64 W,.int .i64 D] 26) Tryz.f8 2 rfl _ rfl) rfl ⟨rfl,bt⟩
theorem zju(v1 v2:Value)(h:Int)(hh:h=4∨h=0)(w:World)(HC:CR 37 #[v1,v2] w (.tuple #[.int .i64 0,.int .i64 h])) :
  CR 12 #[v1,v2] w (.bool true):=by
 have HC':=LH HC
 clear HC
 rcases hh with rfl | rfl
 ·go_enter Tryz.func12,Tryz.ntmps12
  go_wp2_with fail
  refine HC'.out.mono ?_
  rintro e w1⟨rfl,hq1⟩
  go_wp2
  go_ret
  exact⟨rfl,hq1⟩
 ·go_enter Tryz.func12,Tryz.ntmps12
  go_wp2_with fail
  refine HC'.out.mono ?_
  rintro e w1⟨rfl,hq1⟩
  go_wp2
  go_ret
  exact⟨rfl,hq1⟩
end
section
open Go.RowKit Go.Shelf Kp
def zrJ(W:World)(L:List (Rat × Nat))(e:Ending)(w':World):Prop:=∃ v,e=.returned (.tuple #[v,.int .i64 0])∧Q W w'∧zK w' W.heap.size v L
theorem zK.lit(w:World):zK (w.alloc (.cells #[.string ⟨#[49]⟩,.string ⟨#[49]⟩] 37)) w.heap.size (.slice (some ⟨w.heap.size,0,none⟩) 1 1) [((1:Rat),1)]:=by
 have e:[((1:Rat),1)].map ofC=[([49],[49])]:=by
  rw[List.map_cons,List.map_nil]
  unfold ofC
  rw[zci,show Lib.itoa ((1:Nat):Int)=[49]from by kernel_rfl]
 unfold zK
 rw[e]
 have er:zcg [([49],[49])]=[.string ⟨#[49]⟩,.string ⟨#[49]⟩]:=rfl
 rw[er]
 exact⟨rfl,.inr ⟨w.heap.size,1,_,rfl,Nat.le_refl _,Blk.new w [.string ⟨#[49]⟩,.string ⟨#[49]⟩] 37,by simp,by unfold maxLen;simp⟩⟩
theorem zhI{L:List (Rat × Nat)}(hF:FA L)(hs:∀ c∈L,zbU c=true)(B1 B2:Nat)(v1 v2:Value)(w:World)(hE:Env w)(h1:zK w B1 v1 L)(h2:zK w B2 v2 L) :
  CR 12 #[v1,v2] w (.bool true):=by
 have sL:=hF.slist hs
 obtain⟨hv,hc⟩:=hF.cmpA
 have hl:=hF.up.2.2
 have h:=zij L L sL sL (by omega) hv B1 B2 v1 v2 w hE hE.places h1 h2
 rcases hc with hc | hc
 ·rw[hc]at h
  exact zju v1 v2 4 (.inl rfl) w h
 ·rw[hc]at h
  exact zju v1 v2 0 (.inr rfl) w h
theorem zuG:FA [((1:Rat),1)]:=.inl ⟨1,1,rfl,by decide,zoq⟩
theorem zqv:∀ c∈[((1:Rat),1)],zbU c=true:=fun c hc=>by
 rw[List.mem_singleton]at hc
 subst hc
 kernel_rfl
end
end Go.Proofs.YtjnhmfcklodfdaaGreatDoor
