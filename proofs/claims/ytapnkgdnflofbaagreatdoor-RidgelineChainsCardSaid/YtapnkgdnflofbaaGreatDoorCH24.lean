/-
  Whether two lines meet.; Which lines of a chain are reached: the law's closure, and slices of integers.; Walks of package rational: the sums of a list, Sum.
-/
import Derived.Test.YtapnkgdnflofbaaGreatDoorCHNF
import Derived.Test.YtapnkgdnflofbaaGreatDoorCH06
import Derived.Test.YtapnkgdnflofbaaGreatDoorCH18
set_option maxRecDepth 100000
set_option maxHeartbeats 4000000
namespace Go.Proofs.YtapnkgdnflofbaaGreatDoor
section
open Go.RowKit Go.Shelf Kp
attribute [local go_sem] Oper.semAt_some
theorem znb(A B C A1 B1 C1 A2 B2 C2:Str)(b:Nat)(w:World)(hb:Blk w b [.string ⟨A1.toArray⟩,.string ⟨B1.toArray⟩,.string ⟨C1.toArray⟩,.string ⟨A2.toArray⟩,.string ⟨B2.toArray⟩,.string ⟨C2.toArray⟩] 32) :
  Calls Tryz.prog 54 #[.slice (some ⟨b,0,none⟩) 2 2,.agg #[.string ⟨A.toArray⟩,.string ⟨B.toArray⟩,.string ⟨C.toArray⟩]] w fun e w'=>∃ i:Int,e=.returned (.int .i64 i)∧Q w w'∧(0≤i ↔ (A=A1∧B=B1∧C=C1)∨(A=A2∧B=B2∧C=C2)):=by
 have h1:=fun w=>zi0 A B C A1 B1 C1 w
 have h2:=fun w=>zi0 A B C A2 B2 C2 w
 obtain⟨W0,hW0⟩:∃ W0,w.alloc (.cells #[.string ⟨A.toArray⟩,.string ⟨B.toArray⟩,.string ⟨C.toArray⟩] 32)=W0:=⟨_,rfl⟩
 have hq0:Q w W0:=by rw[← hW0];exact bt
 have BS:Blk W0 w.heap.size [.string ⟨A.toArray⟩,.string ⟨B.toArray⟩,.string ⟨C.toArray⟩] 32:=by rw[← hW0];exact Blk.new w _ _
 have BA:=hb.keep hq0 hb.lt
 have e1:((A=A1∧B=B1∧C=C1) ↔ decide (A=A1∧B=B1∧C=C1)=true):=by simp
 have e2:((A=A2∧B=B2∧C=C2) ↔ decide (A=A2∧B=B2∧C=C2)=true):=by simp
 rw[e1,e2]
 clear e1 e2 hb
 generalize decide (A=A1∧B=B1∧C=C1)=d1 at *
 generalize decide (A=A2∧B=B2∧C=C2)=d2 at *
 have hQ0:=Q.refl W0
 replace s0:=BS.cell 0
 replace s1:=BS.cell 1
 replace s2:=BS.cell 2
 simp only[zs4,zs5]at s0 s1 s2
 replace lBS:=BS.lt
 replace a0:=BA.cell 0
 replace a1:=BA.cell 1
 replace a2:=BA.cell 2
 replace a3:=BA.cell 3
 replace a4:=BA.cell 4
 replace a5:=BA.cell 5
 simp only[zs4,zs5]at a0 a1 a2 a3 a4 a5
 replace lBA:=BA.lt
 go_enter Tryz.func54,Tryz.ntmps54
 go_wp2
 refine wp_loop_rounds 3 ?_
 rw[rounds_succ]
 go_wp2_with fail
 clear hW0
 refine zn 6 rfl (by kernel_rfl) rfl ?_
 refine svq 0 rfl (by intro w' hq;have hc0:=za hq s0;have hc1:=za hq s1;have hc2:=za hq s2;go_simp;try with_reducible rfl) ?_
 refine svp 1 ?_
 refine svp 2 ?_
 refine svp 3 ?_
 refine svq 4 rfl (by intro w' hq;have hc0:=za hq a0;have hc1:=za hq a1;have hc2:=za hq a2;go_simp;try with_reducible rfl) ?_
 refine svp 5 ?_
 refine zh (by kernel_rfl) (fun w3 hq3=>?_)
 simp only[List.drop_succ_cons,List.drop_nil]
 have hQ3:Q w w3:=Q.trans hq0 (Q.trans (Below.drew (Q.refl W0)) hq3)
 cases d1
 ·replace BS:=BS.keep (Q.trans (Below.drew (Q.refl W0)) hq3) BS.lt
  replace BA:=BA.keep (Q.trans (Below.drew (Q.refl W0)) hq3) BA.lt
  clear hq3 s0 s1 s2 a0 a1 a2 a3 a4 a5 lBS lBA hQ0
  have hQ0:=Q.refl w3
  replace s0:=BS.cell 0
  replace s1:=BS.cell 1
  replace s2:=BS.cell 2
  simp only[zs4,zs5]at s0 s1 s2
  replace lBS:=BS.lt
  replace a0:=BA.cell 0
  replace a1:=BA.cell 1
  replace a2:=BA.cell 2
  replace a3:=BA.cell 3
  replace a4:=BA.cell 4
  replace a5:=BA.cell 5
  simp only[zs4,zs5]at a0 a1 a2 a3 a4 a5
  replace lBA:=BA.lt
  go_wp2
  rw[rounds_succ]
  go_wp2_with fail
  refine zn 6 rfl (by kernel_rfl) rfl ?_
  refine svq 0 rfl (by intro w' hq;have hc0:=za hq s0;have hc1:=za hq s1;have hc2:=za hq s2;go_simp;try with_reducible rfl) ?_
  refine svp 1 ?_
  refine svp 2 ?_
  refine svp 3 ?_
  refine svq 4 rfl (by intro w' hq;have hc0:=za hq a3;have hc1:=za hq a4;have hc2:=za hq a5;go_simp;try with_reducible rfl) ?_
  refine svp 5 ?_
  refine zh (by kernel_rfl) (fun w4 hq4=>?_)
  simp only[List.drop_succ_cons,List.drop_nil]
  have hQ4:Q w w4:=Q.trans hQ3 (Q.trans (Below.drew (Q.refl w3)) hq4)
  cases d2
  ·go_wp2
   rw[rounds_succ]
   go_wp2
   go_ret
   exact⟨_,rfl,hQ4,by simp⟩
  ·go_wp2
   go_ret
   exact⟨_,rfl,hQ4,by simp⟩
 ·go_wp2
  go_ret
  exact⟨_,rfl,hQ3,by simp⟩
theorem zfj(A B C A1 B1 C1 A2 B2 C2:Str)(b:Nat)(w:World)(hb:Blk w b [.string ⟨A1.toArray⟩,.string ⟨B1.toArray⟩,.string ⟨C1.toArray⟩,.string ⟨A2.toArray⟩,.string ⟨B2.toArray⟩,.string ⟨C2.toArray⟩] 32) :
  CR 28 #[.slice (some ⟨b,0,none⟩) 2 2,.agg #[.string ⟨A.toArray⟩,.string ⟨B.toArray⟩,.string ⟨C.toArray⟩]] w (.bool (decide ((A=A1∧B=B1∧C=C1)∨(A=A2∧B=B2∧C=C2)))):=by
 obtain⟨W0,hW0⟩:∃ W0,w.alloc (.cells #[.string ⟨A.toArray⟩,.string ⟨B.toArray⟩,.string ⟨C.toArray⟩] 32)=W0:=⟨_,rfl⟩
 have hq0:Q w W0:=by rw[← hW0];exact bt
 have BS:Blk W0 w.heap.size [.string ⟨A.toArray⟩,.string ⟨B.toArray⟩,.string ⟨C.toArray⟩] 32:=by rw[← hW0];exact Blk.new w _ _
 have HI:=LH (znb A B C A1 B1 C1 A2 B2 C2 b W0 (hb.keep hq0 hb.lt))
 clear hb
 have hQ0:=Q.refl W0
 replace s0:=BS.cell
 replace lBS:=BS.lt
 go_enter Tryz.func28,Tryz.ntmps28
 go_wp2_with fail
 refine HI.out.mono ?_
 rintro e w1⟨i,rfl,hq1,hi⟩
 have H:=LH hi
 have hQ:Q w w1:=Q.trans hq0 hq1
 clear hi hW0
 by_cases h0:0≤i
 ·have hP:=LH (show decide ((A=A1∧B=B1∧C=C1)∨(A=A2∧B=B2∧C=C2))=true from decide_eq_true (H.out.1 h0))
  have hd:decide (0≤i)=true:=decide_eq_true h0
  go_wp2
  go_ret
  exact⟨by rw[hP.out];first | rfl | rw[hd] | simp[h0],hQ⟩
 ·have hP:=LH (show decide ((A=A1∧B=B1∧C=C1)∨(A=A2∧B=B2∧C=C2))=false from decide_eq_false (fun h=>h0 (H.out.2 h)))
  have hd:decide (0≤i)=false:=decide_eq_false h0
  go_wp2
  go_ret
  exact⟨by rw[hP.out];first | rfl | rw[hd] | simp;omega,hQ⟩
theorem zhp(x y:Ln)(w:World) :
  Calls Tryz.prog 10 #[.agg (lnC x).toArray,.agg (lnC y).toArray] w fun e w'=>∃ d,e=.returned (.bool d)∧Q w w'∧(d=true ↔ ziL x y):=by
 obtain⟨k,X,Y,Z,X',Y',Z',l,r⟩:=x
 obtain⟨k2,U,V,T,U',V',T',l2,r2⟩:=y
 have H1:=LH (fun b w hb=>zfj X Y Z U V T U' V' T' b w hb)
 have H2:=LH (fun b w hb=>zfj X' Y' Z' U V T U' V' T' b w hb)
 unfold ziL Ln.f Ln.t lnC
 simp only[Prod.mk.injEq]
 have e1:((X=U∧Y=V∧Z=T)∨(X=U'∧Y=V'∧Z=T')) ↔ decide ((X=U∧Y=V∧Z=T)∨(X=U'∧Y=V'∧Z=T'))=true:=by simp
 have e2:((X'=U∧Y'=V∧Z'=T)∨(X'=U'∧Y'=V'∧Z'=T')) ↔ decide ((X'=U∧Y'=V∧Z'=T)∨(X'=U'∧Y'=V'∧Z'=T'))=true:=by simp
 rw[e1,e2]
 clear e1 e2
 generalize decide ((X=U∧Y=V∧Z=T)∨(X=U'∧Y=V'∧Z=T'))=d1 at *
 generalize decide ((X'=U∧Y'=V∧Z'=T)∨(X'=U'∧Y'=V'∧Z'=T'))=d2 at *
 obtain⟨W0,hW0⟩:∃ W0,(w.alloc (.cells #[.int .i64 k,.string ⟨X.toArray⟩,.string ⟨Y.toArray⟩,.string ⟨Z.toArray⟩,.string ⟨X'.toArray⟩,.string ⟨Y'.toArray⟩,.string ⟨Z'.toArray⟩,.int .i64 l,.int .i64 r] 34)).alloc (.cells #[.int .i64 k2,.string ⟨U.toArray⟩,.string ⟨V.toArray⟩,.string ⟨T.toArray⟩,.string ⟨U'.toArray⟩,.string ⟨V'.toArray⟩,.string ⟨T'.toArray⟩,.int .i64 l2,.int .i64 r2] 34)=W0:=⟨_,rfl⟩
 have hq0:Q w W0:=by rw[← hW0];exact bt
 have BL:Blk W0 w.heap.size [.int .i64 k,.string ⟨X.toArray⟩,.string ⟨Y.toArray⟩,.string ⟨Z.toArray⟩,.string ⟨X'.toArray⟩,.string ⟨Y'.toArray⟩,.string ⟨Z'.toArray⟩,.int .i64 l,.int .i64 r] 34:=by rw[← hW0];exact(Blk.new w _ _).alloc _
 have BM:Blk W0 (w.heap.size+1) [.int .i64 k2,.string ⟨U.toArray⟩,.string ⟨V.toArray⟩,.string ⟨T.toArray⟩,.string ⟨U'.toArray⟩,.string ⟨V'.toArray⟩,.string ⟨T'.toArray⟩,.int .i64 l2,.int .i64 r2] 34:=by rw[← hW0];exact Blk.new1 w _ _ _
 have hQ0:=Q.refl W0
 replace n0:=BL.cell
 replace lBL:=BL.lt
 replace m0:=BM.cell
 replace lBM:=BM.lt
 go_enter Tryz.func10,Tryz.ntmps10
 have B1:=Blk.new W0 [.string ⟨U.toArray⟩,.string ⟨V.toArray⟩,.string ⟨T.toArray⟩,.string ⟨U'.toArray⟩,.string ⟨V'.toArray⟩,.string ⟨T'.toArray⟩] 32
 go_wp2_with fail
 refine cx (H1.out _ _ B1) fun G1 hq1=>?_
 have hs1:Q W0 G1:=Q.trans bt hq1
 have hQ1:Q W0 G1:=Q.trans hQ0 hs1
 replace BL:=BL.keep hs1 BL.lt
 replace n0:=BL.cell
 replace lBL:=BL.lt
 replace BM:=BM.keep hs1 BM.lt
 replace m0:=BM.cell
 replace lBM:=BM.lt
 clear hW0 B1
 cases d1
 ·have B2:=Blk.new G1 [.string ⟨U.toArray⟩,.string ⟨V.toArray⟩,.string ⟨T.toArray⟩,.string ⟨U'.toArray⟩,.string ⟨V'.toArray⟩,.string ⟨T'.toArray⟩] 32
  go_wp2_with fail
  refine cx (H2.out _ _ B2) fun G2 hq2=>?_
  have hs2:Q G1 G2:=Q.trans bt hq2
  have hQ2:Q W0 G2:=Q.trans hQ1 hs2
  replace BL:=BL.keep hs2 BL.lt
  replace n0:=BL.cell
  replace lBL:=BL.lt
  replace BM:=BM.keep hs2 BM.lt
  replace m0:=BM.cell
  replace lBM:=BM.lt
  have hQe:=Q.trans hq0 hQ2
  go_wp2
  go_ret
  exact⟨_,rfl,hQe,by simp⟩
 ·have hQe:=Q.trans hq0 hQ1
  go_wp2
  go_ret
  first
  | exact⟨_,rfl,hQe,by simp⟩
  | exact⟨rfl,hQe⟩
  | exact⟨by simp,hQe⟩
  | simp[hQe]
theorem zqQ(L:List Ln)(i k:Nat)(x y:Ln)(hx:L[i]? = some x)(hy:L[k]? = some y)(v:Value)(bl bi:Nat)(t1 t2:TypeId)(w:World)(hv:zba 9 lnC w v L)(BL:Blk w bl [v] t1)(BI:Blk w bi [.int .i64 (i:Int)] t2) :
  Calls Tryz.prog 9 #[.int .i64 (k:Int),.pointer (some ⟨bl,0,none⟩),.pointer (some ⟨bi,0,none⟩)] w fun e w'=>∃ d,e=.returned (.bool d)∧Q w w'∧(d=true ↔ ziL x y):=by
 have HJ:=LH (fun w=>zhp x y w)
 obtain⟨a,cap,rfl,hc⟩:=hv
 obtain⟨hi,ei⟩:=List.getElem?_eq_some_iff.1 hx
 obtain⟨hk,ek⟩:=List.getElem?_eq_some_iff.1 hy
 obtain⟨b,o,rfl,hb,hcx⟩:=hc i hi
 obtain⟨b2,o2,e2,-,hcy⟩:=hc k hk
 cases e2
 rw[ei]at hcx
 rw[ek]at hcy
 clear hc ei ek hx hy
 generalize hJP:ziL x y=JP at *
 clear hJP
 obtain⟨kk,X,Y,Z,X',Y',Z',l,r⟩:=x
 obtain⟨k2,U,V,T,U',V',T',l2,r2⟩:=y
 unfold lnC at *
 simp only at *
 have c0:=hcx 0 _ rfl
 have c1:=hcx 1 _ rfl
 have c2:=hcx 2 _ rfl
 have c3:=hcx 3 _ rfl
 have c4:=hcx 4 _ rfl
 have c5:=hcx 5 _ rfl
 have c6:=hcx 6 _ rfl
 have c7:=hcx 7 _ rfl
 have c8:=hcx 8 _ rfl
 have d0:=hcy 0 _ rfl
 have d1:=hcy 1 _ rfl
 have d2:=hcy 2 _ rfl
 have d3:=hcy 3 _ rfl
 have d4:=hcy 4 _ rfl
 have d5:=hcy 5 _ rfl
 have d6:=hcy 6 _ rfl
 have d7:=hcy 7 _ rfl
 have d8:=hcy 8 _ rfl
 rw[Nat.add_zero]at c0 d0
 clear hcx hcy
 have l0:=BL.cell 0
 have i0:=BI.cell 0
 simp only[List.getElem?_cons_zero]at l0 i0
 clear BL BI
 have hi0:(0:Int)≤i:=by omega
 have hk0:(0:Int)≤k:=by omega
 have hil:(i:Int)<L.length:=by omega
 have hkl:(k:Int)<L.length:=by omega
 go_enter Tryz.func9,Tryz.ntmps9
 go_wp2_with fail
 refine zn 10 rfl (by kernel_rfl) rfl ?_
 refine svq 0 rfl (by intro w' hq;have hc0:=za hq l0;go_simp;try with_reducible rfl) ?_
 refine svq 1 rfl (by intro w' hq;have hc0:=za hq i0;go_simp;try with_reducible rfl) ?_
 refine svp 2 ?_
 refine svq 3 rfl (by intro w' hq;have hc0:=za hq c0;have hc1:=za hq c1;have hc2:=za hq c2;have hc3:=za hq c3;have hc4:=za hq c4;have hc5:=za hq c5;have hc6:=za hq c6;have hc7:=za hq c7;have hc8:=za hq c8;go_simp;try with_reducible rfl) ?_
 refine svq 4 rfl (by intro w' hq;have hc0:=za hq l0;go_simp;try with_reducible rfl) ?_
 refine svp 5 ?_
 refine svp 6 ?_
 refine svq 7 rfl (by intro w' hq;have hc0:=za hq d0;have hc1:=za hq d1;have hc2:=za hq d2;have hc3:=za hq d3;have hc4:=za hq d4;have hc5:=za hq d5;have hc6:=za hq d6;have hc7:=za hq d7;have hc8:=za hq d8;go_simp;try with_reducible rfl) ?_
 clear l0 i0 c0 c1 c2 c3 c4 c5 c6 c7 c8 d0 d1 d2 d3 d4 d5 d6 d7 d8
 refine zaa (i:=8) rfl rfl (by kernel_rfl) (by rfl) (fun w' hq=>by go_simp;try with_reducible rfl) (fun w6 hq6=>(HJ.out w6).mono ?_)
 intro e yy h
 obtain⟨d,rfl,hq7,hd⟩:=h
 have HD:=LH hd
 clear hd
 refine⟨_,rfl,hq7,?_⟩
 simp only[Act.put,zs1,zs2,zs3]
 refine svp 9 ?_
 refine zh (by kernel_rfl) (fun w9 hq9=>?_)
 simp only[List.drop_succ_cons,List.drop_nil]
 have hQ:Q w w9:=Q.trans (Below.drew (Q.refl w)) (Q.trans hq6 (Q.trans hq7 hq9))
 clear hq6 hq7 hq9
 go_wp2
 go_ret
 exact⟨d,rfl,hQ,HD.out⟩
def inC(c:Nat):List Value:=[.int .i64 (c:Int)]
theorem zpQ(r:List Nat):rowOf inC r=ivs r:=by
 unfold rowOf ivs inC
 induction r with
 | nil=>rfl
 | cons a r ih=>rw[List.flatMap_cons,ih];rfl
theorem ztA{w:World}{B:Nat}{v:Value}{r:List Nat}(h:w.ownsRow B 3 1 v r.length (ivs r)):zba 1 inC w v r:=zba.of_row (B:=B) (fun _=>rfl) (by rw[zpQ];exact h)
theorem zrD(J:Nat→Bool)(bl bi:Nat)(r:List Nat)(hn:r.length≤1000)(v:Value)(w:World)(hv:zba 1 inC w v r)
  (HC:Hid (∀ c∈r,∀ W,Q w W→Calls Tryz.prog 9 #[.int .i64 (c:Int),.pointer (some ⟨bl,0,none⟩),.pointer (some ⟨bi,0,none⟩)] W fun e w'=>∃ d,e=.returned (.bool d)∧Q W w'∧(d=true ↔ J c=true))) :
  Calls Tryz.prog 27 #[v,.func (.func 9) #[] #[.pointer (some ⟨bl,0,none⟩),.pointer (some ⟨bi,0,none⟩)]] w fun e w'=>∃ i:Int,e=.returned (.int .i64 i)∧Q w w'∧((i = -1∧∀ c∈r,J c=false)∨(0≤i∧∃ c∈r,J c=true)):=by
 obtain⟨a,cap,rfl,hc⟩:=hv
 go_enter Tryz.func27,Tryz.ntmps27
 go_wp2
 go_loopw [8] (fun i wr=>∃ k:Nat,k≤r.length∧i=.int .i64 k∧Q w wr∧∀ x∈r.take k,J x=false) (fun i _=>r.length - (intOf i).toNat)
 case atStart=>exact⟨0,by omega,rfl,Below.refl _ _,fun x hx=>by simp at hx⟩
 case round =>
  obtain⟨k,hk,rfl,hQ,hP⟩:=hrel
  have HP:=LH hP
  clear hP
  by_cases hlt:k<r.length
  ·obtain⟨b,o,rfl,hb,hcell⟩:=hc k hlt
   have hx:r[k]∈r:=List.getElem_mem hlt
   have HG:=LH (fun W hq=>HC.out r[k] hx W hq)
   have HPx:=LH (fun(h:J r[k]=false) x (hx:x∈r.take (k+1))=>(show J x=false from by
    rw[List.take_add_one,List.getElem?_eq_getElem hlt]at hx
    simp only[Option.toList_some,List.mem_append,List.mem_singleton]at hx
    rcases hx with hx | rfl
    ·exact HP.out x hx
    ·exact h))
   have HNx:=LH (fun(h:J r[k]=true)=>(show ∃ x∈r,J x=true from⟨_,hx,h⟩))
   have c0:wr.cell? ⟨b,o+k,none⟩=some (.int .i64 (r[k]:Nat)):=by
    rw[hQ.cell (p:=⟨b,o+k,none⟩) hb]
    have:=hcell 0 _ rfl
    rwa[Nat.mul_one,Nat.add_zero]at this
   clear hcell hc hx HC
   generalize J r[k]=Jk at *
   generalize r[k]=x at *
   go_wp2_with fail
   refine(HG.out _ hQ).mono ?_
   rintro e w2⟨bb,rfl,hq2,hp⟩
   have HPP:=LH hp
   have hQ2:Q w w2:=Q.trans hQ hq2
   clear hp
   cases bb
   ·have hj:Jk=false:=by
     cases Jk
     ·rfl
     ·exact absurd (HPP.out.2 rfl) (by decide)
    go_wp2
    go_roundw
    case rel=>exact⟨k+1,by omega,by go_num,hQ2,HPx.out hj⟩
    case measure=>simp[intOf];omega
   ·have hj:=LH (HNx.out (HPP.out.1 rfl))
    go_wp2
    go_ret
    exact⟨_,rfl,hQ2,.inr ⟨by omega,hj.out⟩⟩
  ·obtain rfl:k=r.length:=by omega
   have hall:=HP.out
   rw[List.take_length]at hall
   have HA:=LH hall
   clear hall
   go_wp2
   go_ret
   exact⟨_,rfl,hQ,.inl ⟨rfl,HA.out⟩⟩
theorem znm(J:Nat→Bool)(bl bi:Nat)(r:List Nat)(hn:r.length≤1000)(v:Value)(w:World)(hv:zba 1 inC w v r)
  (HC:Hid (∀ c∈r,∀ W,Q w W→Calls Tryz.prog 9 #[.int .i64 (c:Int),.pointer (some ⟨bl,0,none⟩),.pointer (some ⟨bi,0,none⟩)] W fun e w'=>∃ d,e=.returned (.bool d)∧Q W w'∧(d=true ↔ J c=true))) :
  CR 8 #[v,.func (.func 9) #[] #[.pointer (some ⟨bl,0,none⟩),.pointer (some ⟨bi,0,none⟩)]] w (.bool (r.any J)):=by
 have HI:=LH (zrD J bl bi r hn v w hv HC)
 clear hv HC
 have HR0:=LH (fun(h:∀ c∈r,J c=false)=>(show r.any J=false from by
  rw[List.any_eq_false]
  intro x hx
  rw[h x hx]
  decide))
 have HR1:=LH (fun(h:∃ c∈r,J c=true)=>(show r.any J=true from by
  rw[List.any_eq_true]
  exact h))
 generalize r.any J=A at *
 go_enter Tryz.func8,Tryz.ntmps8
 go_wp2_with fail
 refine HI.out.mono ?_
 rintro e w1⟨i,rfl,hq1,h⟩
 rcases h with⟨rfl,h⟩|⟨h0,h⟩
 ·have hr:=LH (HR0.out h)
  clear h
  go_wp2
  go_ret
  exact⟨by rw[hr.out];rfl,hq1⟩
 ·have hr:=LH (HR1.out h)
  clear h
  have hd:decide (0≤i)=true:=decide_eq_true h0
  go_wp2
  go_ret
  exact⟨by rw[hr.out];first | rfl | simpa using h0,hq1⟩
theorem znU{w:World}{v:Value}{r:List Nat}(h:zba 1 inC w v r)(hr:0<r.length):∃ b o cap,v=.slice (some ⟨b,o,none⟩) r.length cap∧b<w.heap.size∧∀ j,j<(r.map fun(i:Nat)=>(i:Int)).length→w.cell? ⟨b,o+j,none⟩=some (.int .i64 ((r.map fun(i:Nat)=>(i:Int)).getD j 0)):=by
 obtain⟨a,cap,rfl,hc⟩:=h
 obtain⟨b,o,rfl,hb,-⟩:=hc 0 hr
 refine⟨b,o,cap,rfl,hb,fun j hj=>?_⟩
 rw[List.length_map]at hj
 obtain⟨b2,o2,e2,-,h2⟩:=hc j hj
 cases e2
 have:=h2 0 _ rfl
 rw[Nat.mul_one,Nat.add_zero]at this
 rw[this,List.getD_eq_getElem?_getD,List.getElem?_map,List.getElem?_eq_getElem hj]
 rfl
theorem znl(r:List Nat)(h0:0<r.length)(hn:r.length≤1000)(c:Nat)(v:Value)(w:World)(hv:zba 1 inC w v r) :
  Calls Tryz.prog 7 #[v,.int .i64 (c:Int)] w fun e w'=>e=.returned (.bool (r.contains c))∧w'=w:=by
 obtain⟨b,o,cap,rfl,-,hc⟩:=znU hv h0
 have H:=Tryz.slices_Contains_int b o r.length cap (r.map fun(i:Nat)=>(i:Int)) (c:Int) w (by rw[List.length_map];exact Nat.le_refl _) (by omega) hc
 have e:((r.map fun(i:Nat)=>(i:Int)).take r.length).contains (c:Int)=r.contains c:=by
  rw[List.take_of_length_le (by rw[List.length_map];exact Nat.le_refl _),Bool.eq_iff_iff]
  simp only[List.contains_iff_mem,List.mem_map]
  constructor
  ·rintro⟨a,h1,h2⟩
   have:a=c:=by omega
   rw[← this]
   exact h1
  ·exact fun h=>⟨c,h,rfl⟩
 rw[e]at H
 exact H
theorem zrT(r:List Nat)(h0:0<r.length)(hn:r.length≤1000)(v:Value)(w:World)(hv:zba 1 inC w v r) :
  Calls Tryz.prog 11 #[v] w fun e w'=>∃ v',e=.returned v'∧Q w w'∧w'.ownsRow w.heap.size 3 1 v' r.length (ivs r):=by
 obtain⟨b,o,cap,rfl,-,hc⟩:=znU hv h0
 refine(Tryz.slices_Clone_int b o r.length cap (r.map fun(i:Nat)=>(i:Int)) w (by rw[List.length_map];exact Nat.le_refl _) (by omega) hc).mono ?_
 rintro e w'⟨v',rfl,h1,-,h2⟩
 refine⟨v',rfl,h2,?_⟩
 rw[List.take_of_length_le (by rw[List.length_map];exact Nat.le_refl _),List.map_map]at h1
 exact h1
def zfR(qs:List Rat):Nat→Rat
 | 0=>0
 | k+1=>zfR qs k+qs.getD k 0
theorem zsj{n:Nat}(h:0<n):Bd n (0:Rat):=⟨Nat.pow_pos (by decide),Nat.one_lt_pow (by omega) (by decide)⟩
theorem zng{qs:List Rat}(h:∀ q∈qs,Bd 10 q)(k:Nat):Bd 10 (qs.getD k 0):=by
 rw[List.getD_eq_getElem?_getD]
 cases hk:qs[k]? with
 | none=>exact zsj (by decide)
 | some q=>exact h q (List.mem_of_getElem? hk)
theorem zpv{qs:List Rat}(h:∀ q∈qs,Bd 10 q):∀ k,Bd (1+11*k) (zfR qs k)
 | 0=>zsj (by decide)
 | k+1=>((zpv h k).add (zng h k)).mono (by omega)
def zmq(w:World)(b o:Nat)(qs:List Rat):Prop:=∀ i,i<qs.length→w.cell? ⟨b,o+i,none⟩=some (.string ⟨(ze (qs.getD i 0)).toArray⟩)
def znw(qs:List Rat)(x:PlN qs.length):Array Value:=#[.string ⟨(ze (zfR qs (x.1+1))).toArray⟩,.int .i64 0]
theorem zq7(m:Nat)(hm:1≤m)(l Bs b o cap:Nat)(qs:List Rat)(hq:∀ q∈qs,Bd 10 q)(hn:qs.length≤20)(J Jx:List (PlN qs.length)→World→Prop)(hPc:∀ pre W,J pre W→Env W)
  (hY:∀ pre x W,J pre W→zr8 pre x→YieldAt Fence.wide (m - 1) Tryz.prog l (znw qs x) W fun e W' =>
   (e=.returned (.bool true)∧J (pre++[x]) W'∧zI [Bs,b] W W')∨(e=.returned (.bool false)∧Jx (pre++[x]) W'))
  (hJ:∀ pre W W',J pre W→Q W W'→J pre W')
  (W:World) (hBs:W.cell? ⟨Bs,0,none⟩=some (.slice (some ⟨b,o,none⟩) qs.length cap)) (hN:zmq W b o qs) (h0:J [] W) :
  CallsIn Fence.wide m Tryz.prog 314 #[.func (.yield l) #[] #[],.pointer (some ⟨Bs,0,none⟩)] W fun e W'=>(∃ v,e=.returned v) ∧
   ((∃ ys,UpN qs.length ys∧J ys W')∨(∃ pre,(∃ k,k≤qs.length∧UpN k pre)∧Jx pre W')):=by
 refine callsIn_of_wp Tryz.func314 rfl trivial ?_ rfl
 simp only[Tryz.ntmps314,List.size_toArray,List.length_cons,List.length_nil,Nat.reduceAdd,Nat.reduceSub,Array.replicate_succ,Array.replicate_zero,List.push_toArray,List.append_toArray,List.nil_append,List.cons_append]
 have HA:Hid (∀ k,k<qs.length→∀ w,Env w→CR 212 #[.string ⟨(ze (zfR qs k)).toArray⟩,.string ⟨(ze (qs.getD k 0)).toArray⟩] w (.tuple #[.string ⟨(ze (zfR qs (k+1))).toArray⟩,.int .i64 0])):=LH (fun k hk w hw=>by
  have:=zc2 (zfR qs k) (qs.getD k 0) (zpv hq k) (zng hq k) (by omega) w hw
  exact this)
 have HN:=LH hN
 clear hq hN
 have hz:ze (zfR qs 0)=[48]:=zaY
 gi_wp2
 gi_loopw [9,3] (fun i s wr=>∃ k:Nat,k≤qs.length∧i=.int .i64 k∧s=.string ⟨(ze (zfR qs k)).toArray⟩∧(∃ pre,UpN k pre∧J pre wr)∧zI [Bs,b] W wr) (fun i _ _=>qs.length - (intOf i).toNat)
 case atStart=>exact⟨0,Nat.zero_le _,by simp,by rw[hz],⟨[],rfl,h0⟩,zI.refl _ _⟩
 case round =>
  obtain⟨k,hk,rfl,rfl,⟨pre,hpre,hJs⟩,hnx⟩:=hrel
  have hBs2:=hnx.cell (by simp) hBs
  by_cases hlt:k<qs.length
  ·have hYk:=hY pre ⟨k,hlt⟩
   have hnext:=hpre.next ⟨k,hlt⟩ rfl
   have hpl:=hpre.len
   have hc:wr.cell? ⟨b,o+k,none⟩=some (.string ⟨(ze (qs.getD k 0)).toArray⟩):=hnx.cell (by simp) (HN.out k hlt)
   have HAk:=LH (HA.out k hlt)
   unfold znw at hYk
   simp only at hYk
   generalize ze (zfR qs k)=S at *
   obtain⟨S',hS⟩:∃ S',ze (zfR qs (k+1))=S':=⟨_,rfl⟩
   rw[hS]at HAk hYk
   have HS:=LH hS
   clear hS
   generalize ze (qs.getD k 0)=T at *
   have HYK:=LH hYk
   have hk0:(0:Int)≤k:=by omega
   have hkl:(k:Int)<qs.length:=by omega
   have hEr:=hPc _ _ hJs
   clear hYk HA HN hz
   gi_wp2
   refine⟨trivial,?_⟩
   refine(callsIn_wide.2 (HAk.out wr hEr)).mono ?_
   rintro e w3⟨rfl,hq3⟩
   have hJ3:=hJ _ _ _ hJs hq3
   have hnx3:zI [Bs,b] W w3:=hnx.trans (zI.q hq3)
   have hYK:=HYK.out w3 hJ3 hpl.symm
   obtain⟨fn,tmps,assign,body,hy,hR⟩:=hYK
   clear HAk HYK
   gi_wp2
   refine hR.mono ?_
   rintro e W3 (⟨rfl,hJ4,hk4⟩|⟨rfl,hJx4⟩)
   ·gi_wp2
    go_roundw
    case rel=>exact⟨k+1,by omega,by go_num,by rw[HS.out],⟨_,hnext,hJ4⟩,hnx3.trans hk4⟩
    case measure=>simp[intOf];omega
   ·gi_wp2
    refine bodyPost_ret (results_none rfl _ _ _) rfl ?_
    exact⟨⟨_,rfl⟩,.inr ⟨_,⟨k+1,by omega,hnext⟩,hJx4⟩⟩
  ·obtain rfl:k=qs.length:=by omega
   gi_wp2
   go_end0
   exact⟨⟨_,rfl⟩,.inl ⟨_,hpre,hJs⟩⟩
theorem zpu(Bs b o cap:Nat)(qs:List Rat)(hq:∀ q∈qs,Bd 10 q)(hn:qs.length≤20)(w:World)(m:Nat)(hm:1≤m)(hBs:w.cell? ⟨Bs,0,none⟩=some (.slice (some ⟨b,o,none⟩) qs.length cap))(hN:zmq w b o qs) :
  zgD m Tryz.prog 314 #[.pointer (some ⟨Bs,0,none⟩)] (znw qs) [Bs,b] (fun _ W=>Env W) zr8 (fun ys=>UpN qs.length ys) (fun pre=>∃ k,k≤qs.length∧UpN k pre) w:=fun l J Jx W hW hPc hst hY h0=>by
 refine(zq7 m hm l Bs b o cap qs hq hn J Jx hPc hY hst W (za hW hBs) (fun i hi=>za hW (hN i hi)) h0).mono ?_
 rintro e W'⟨hv,⟨ys,hys,hJ⟩|⟨pre,hp,hJx⟩⟩
 ·exact⟨hv,.inl ⟨_,hys,hJ⟩⟩
 ·exact⟨hv,.inr ⟨pre,hp,hJx⟩⟩
theorem zkt(a:Option Addr)(n c:Nat)(w:World):Calls Tryz.prog 284 #[.slice a n c] w fun e w'=>e=.returned (.func (.func 314) #[] #[.pointer (some ⟨w.heap.size,0,none⟩)])∧w'=w.alloc (.cells #[.slice a n c] 146):=by
 go_enter Tryz.func284,Tryz.ntmps284
 go_wp2
 go_ret
 exact⟨rfl,rfl⟩
section
variable {P:Program} {g:Operand} {ps:Array Tmp} {assign body:Code} {R:Exit→Act→World→Prop} {a:Act} {w:World} {m gf N:Nat} {lb:Array Value} {bs:List Nat}
theorem zfP(Pc:World→Prop)(hm:1≤m)(hg:a.eval g=.func (.func gf) #[] lb)(eg:∀ args w,(callFunc gf args).run P w=.ok (.enter gf args) w)
  {encs:PlN N→Array Value}(hseq:zgD (m - 1) P gf lb encs bs (fun _ W=>Pc W) zr8 (fun ys=>UpN N ys) (fun pre=>∃ k,k≤N∧UpN k pre) w)(hbs:∀ k∈bs,k<w.heap.size)(hps:∀ x,(encs x).size=ps.size)
  (I:Nat→World→Prop)(Ix:Code→World→Prop)(hPc:∀ k W,I k W→Pc W)(hI:∀ k W W',I k W→KC W W'→Below w.heap.size W W'→I k W')(hIx:∀ c W W',Ix c W→KC W W'→Below w.heap.size W W'→Ix c W')(h0:I 0 w)(AS:PlN N→Act→World→Prop)(hAS:∀ x a1 W W',AS x a1 W→KC W W'→AS x a1 W')
  (hassign:∀ (l:Nat) (x:PlN N) (W:World) (K:Act→World→Prop),w.heap.size≤W.heap.size→(∀ a1 W',Q W W'→AS x a1 W'→K a1 W') →
   assign.wpIn (Fence.wide.inRound l) (m - 1 - 1) P (Exit.then K (fun _ _ _=>False)) { tmps:=(ps.zip (encs x)).foldl (fun t (p,v)=>t.setIfInBounds p v) a.tmps,defers:=[] } W)
  (hbody:∀ (l k:Nat) (hk:k<N) (a1:Act) (W:World),I k W→AS ⟨k,hk⟩ a1 W→body.wpIn (Fence.wide.inRound l) (m - 1 - 1) P (roundUp w.heap.size bs I Ix (k+1) W) a1 W)
  (hdone:∀ (D:Nat) (W:World),w.heap.size≤D→I N W→W.heap[D]? = some (.deferred (some []))→R .normal { a with defers:={ target:=.collected D,args:=#[] }::a.defers } W)
  (hstop:∀ (D:Nat) (c:Code) (W:World),w.heap.size≤D→Ix c W→W.heap[D]? = some (.deferred (some []))→c.wpIn Fence.wide m P R { a with defers:={ target:=.collected D,args:=#[] }::a.defers } W) :
  (Code.rangeFunc g ps assign body).wpIn Fence.wide m P R a w:=by
 refine zcK hm hg eg hseq hbs hps (fun pre W=>I pre.length W) (fun c _ W=>Ix c W) (fun _ W h=>hPc _ W h) (fun pre W W' h k hb=>hI _ W W' h k hb) (fun c _ W W' h k hb=>hIx c W W' h k hb) h0 AS hAS hassign ?_ ?_ ?_
 ·intro l pre x a1 W hi hx hs
  obtain⟨k,hk⟩:=x
  have e:pre.length=k:=hx.symm
  subst e
  refine wpIn_mono (hbody l pre.length hk a1 W hi hs) ?_
  intro e a3 W3 hp
  cases e with
  | normal=>exact⟨hp.1,hp.2.1,by
   show I (pre++[_]).length W3
   rw[List.length_append,List.length_singleton];exact hp.2.2⟩
  | ret=>exact hp
  | exit id=>exact hp
  | goto t=>exact hp
  | panic ch=>exact hp
  | outgrown=>exact hp
 ·intro D xs W hD hS hi hk
  exact hdone D W hD (by rw[hS.len]at hi;exact hi) hk
 ·intro D c pre W hD hSp hi hk
  exact hstop D c W hD hi hk
end
theorem zmG{W:World}{b c:Nat}{x y:Value}(h1:W.cell? ⟨b,0,none⟩=some x)(h2:W.cell? ⟨c,0,none⟩=some y)(fn:Func)(hf:fn.results=#[.cell 2 30,.cell 3 26])(tmps:Array Value)
  (hp:tmps.getD 2 undef=.pointer (some ⟨b,0,none⟩))(hp3:tmps.getD 3 undef=.pointer (some ⟨c,0,none⟩)):(results fn tmps).run Tryz.prog W=.ok (.tuple #[x,y]) W:=by
 simp only[Array.getD_eq_getD_getElem?]at hp hp3
 simp[results,hf,hp,hp3,go_sem,h1,h2]
theorem ztp(b o cap:Nat)(qs:List Rat)(hq:∀ q∈qs,Bd 10 q)(hn:qs.length≤20)(w:World)(hE:Env w)(hN:zmq w b o qs)(hb:b<w.heap.size) :
  CallsIn Fence.wide 9 Tryz.prog 224 #[.slice (some ⟨b,o,none⟩) qs.length cap] w fun e w'=>e=.returned (.tuple #[.string ⟨(ze (zfR qs qs.length)).toArray⟩,.int .i64 0])∧Q w w':=by
 refine callsIn_of_wp_marks Tryz.func224 rfl trivial ?_ rfl
 simp only[Tryz.ntmps224,List.size_toArray,List.length_cons,List.length_nil,Nat.reduceAdd,Nat.reduceSub,Array.replicate_succ,Array.replicate_zero,List.push_toArray,List.append_toArray,List.nil_append,List.cons_append]
 refine wpIn_wide.2 ?_
 have hlz:(qs.length:Int)≤20:=by omega
 have HC:Hid (∀ k,k<qs.length→∀ w,Env w→CR 95 #[.string ⟨(ze (qs.getD k 0)).toArray⟩] w (.int .i64 0)):=LH (fun k hk w hw=>zA _ ((zng hq k).zam (by decide)) w hw)
 have HN:=LH (fun W (hW:Q w W) i hi=>za hW (hN i hi))
 have hz:decide ((4096:Int)<qs.length)=false:=by rw[decide_eq_false_iff_not];omega
 have A2:Boxed ((w.alloc (.cells #[.string ⟨#[]⟩] 30)).alloc (.cells #[.int .i64 0] 26)) w.heap.size 30 (.string ⟨#[]⟩):=(Boxed.new w 30 (.string ⟨#[]⟩)).alloc _
 have A3:Boxed ((w.alloc (.cells #[.string ⟨#[]⟩] 30)).alloc (.cells #[.int .i64 0] 26)) (w.heap.size+1) 26 (.int .i64 0):=by
  have:=Boxed.new (w.alloc (.cells #[.string ⟨#[]⟩] 30)) 26 (.int .i64 0)
  rw[World.size_alloc]at this;exact this
 obtain⟨W0,hW0⟩:∃ W0,(w.alloc (.cells #[.string ⟨#[]⟩] 30)).alloc (.cells #[.int .i64 0] 26)=W0:=⟨_,rfl⟩
 have hq0:Q w W0:=by rw[← hW0];exact bt
 have hs0:W0.heap.size=w.heap.size+2:=by rw[← hW0];simp
 rw[hW0]at A2 A3
 go_wp2
 clear hW0
 go_loopw [15] (fun i wr=>∃ k:Nat,k≤qs.length∧i=.int .i64 k∧Q W0 wr) (fun i _=>qs.length - (intOf i).toNat)
 case atStart=>exact⟨0,by omega,rfl,Q.refl _⟩
 case round =>
  obtain⟨k,hk,rfl,hQ⟩:=hrel
  by_cases hlt:k<qs.length
  ·have c0:=HN.out wr (Q.trans hq0 hQ) k hlt
   have HCk:=LH (HC.out k hlt wr (hE.ofQ (Q.trans hq0 hQ)))
   generalize ze (qs.getD k 0)=T at *
   have hk0:(0:Int)≤k:=by omega
   have hkl:(k:Int)<qs.length:=by omega
   go_wp2_with fail
   refine HCk.out.mono ?_
   rintro e w2⟨rfl,hq2⟩
   have hQ2:=Q.trans hQ hq2
   clear HCk c0
   go_wp2
   go_roundw
   case rel=>exact⟨k+1,by omega,by go_num,hQ2⟩
   case measure=>simp[intOf];omega
  ·obtain rfl:k=qs.length:=by omega
   clear hlt hz
   have hqw:Q w wr:=Q.trans hq0 hQ
   have A2r:=zu A2 (KC.q hQ)
   have A3r:=zu A3 (KC.q hQ)
   have hsr:=hQ.size
   go_wp2_with fail
   refine(zkt _ _ _ _).mono ?_
   rintro e w2⟨rfl,rfl⟩
   obtain⟨W2,hW2⟩:∃ W2,(wr.alloc (.cells #[.string ⟨#[48]⟩] 30)).alloc (.cells #[.slice (some ⟨b,o,none⟩) qs.length cap] 146)=W2:=⟨_,rfl⟩
   have hq2:Q wr W2:=by rw[← hW2];exact bt
   have hs2:W2.heap.size=wr.heap.size+2:=by rw[← hW2];simp
   have bO:Boxed W2 wr.heap.size 30 (.string ⟨(ze (zfR qs 0)).toArray⟩):=by
    have:=(Boxed.new wr 30 (.string ⟨#[48]⟩)).alloc (.cells #[.slice (some ⟨b,o,none⟩) qs.length cap] 146)
    rw[hW2]at this
    rw[show ze (zfR qs 0)=[48]from zaY];exact this
   have bS:Boxed W2 (wr.heap.size+1) 146 (.slice (some ⟨b,o,none⟩) qs.length cap):=by
    have:=Boxed.new (wr.alloc (.cells #[.string ⟨#[48]⟩] 30)) 146 (.slice (some ⟨b,o,none⟩) qs.length cap)
    rw[World.size_alloc,hW2]at this;exact this
   have b2:=zu A2r (KC.q hq2)
   have b3:=zu A3r (KC.q hq2)
   rw[World.size_alloc,hW2]
   clear hW2
   have hqW:Q w W2:=Q.trans hqw hq2
   go_wp2_with fail
   refine(wpIn_wide (n:=9)).1 ?_
   refine zfP (m:=9) Env (gf:=314) (lb:=#[.pointer (some ⟨wr.heap.size+1,0,none⟩)]) (by omega) rfl (enters_of Tryz.func314 (by kernel_rfl) rfl)
    (zpu (wr.heap.size+1) b o cap qs hq hn W2 8 (by omega) bS.cell (fun i hi=>HN.out W2 hqW i hi)) (fun k hk=>by
     simp only[List.mem_cons,List.not_mem_nil,or_false]at hk
     rcases hk with rfl | rfl <;> omega) (fun _=>rfl)
    (fun k W=>Boxed W wr.heap.size 30 (.string ⟨(ze (zfR qs k)).toArray⟩)∧Boxed W w.heap.size 30 (.string ⟨#[]⟩)∧Boxed W (w.heap.size+1) 26 (.int .i64 0)∧Q w W)
    (fun _ _=>False) (fun k W h=>hE.ofQ h.2.2.2)
    (fun k W W' h kc hb=>⟨zu h.1 kc,zu h.2.1 kc,zu h.2.2.1 kc,Below.trans h.2.2.2 (hb.mono hqW.size)⟩) (fun _ _ _ h _ _=>h) ⟨bO,b2,b3,hqW⟩
    (fun x a1 W=>a1={ tmps:=#[.slice (some ⟨b,o,none⟩) qs.length cap,undef,.pointer (some ⟨w.heap.size,0,none⟩),.pointer (some ⟨w.heap.size+1,0,none⟩),undef,u5,u6,.pointer (some ⟨wr.heap.size,0,none⟩),.string ⟨(ze (zfR qs (x.1+1))).toArray⟩,.int .i64 0,.slice (some ⟨b,o,none⟩) qs.length cap,.int .i64 (qs.length:Nat),.bool false,.slice (some ⟨b,o,none⟩) qs.length cap,.int .i64 (qs.length:Nat),.int .i64 (qs.length:Nat),.bool false,u17,u18,u19,u20,u21,u22,u23,u24,.slice (some ⟨b,o,none⟩) qs.length cap,.func (.func 314) #[] #[.pointer (some ⟨wr.heap.size+1,0,none⟩)],.string ⟨(ze (zfR qs (x.1+1))).toArray⟩,.int .i64 0,undef,undef,undef,undef,undef],defers:=[] })
    (fun x a1 W W' h kc=>h)
    ?assign ?body ?done ?stop
   case assign =>
    intro l x W K hW hK
    have hk:=hK _ W (Q.refl W) rfl
    clear hK
    unfold znw
    gi_wp2
    exact hk
   case stop =>
    rintro D c W _ h _
    exact h.elim
   case body =>
    rintro l k hk a1 W⟨hO,h2,h3,hQk⟩ rfl
    simp only
    have c0:=hO.cell
    have f0:=hO.frozen
    have bO5:=hO.set (.string ⟨(ze (zfR qs (k+1))).toArray⟩)
    have h25:=zbq h2 (g:=wr.heap.size) (by omega) 0 (.string ⟨(ze (zfR qs (k+1))).toArray⟩)
    have h35:=zbq h3 (g:=wr.heap.size) (by omega) 0 (.string ⟨(ze (zfR qs (k+1))).toArray⟩)
    have hQ5:=hQk.setCell (p:=⟨wr.heap.size,0,none⟩) (by have:=hqw.size;omega) (.string ⟨(ze (zfR qs (k+1))).toArray⟩)
    have kf:KeepsFrom W2.heap.size W (W.setCell ⟨wr.heap.size,0,none⟩ (.string ⟨(ze (zfR qs (k+1))).toArray⟩)):=(KeepsOthers.setCell _ _ _).from _
    have kb:zI [wr.heap.size+1,b] W (W.setCell ⟨wr.heap.size,0,none⟩ (.string ⟨(ze (zfR qs (k+1))).toArray⟩)):=zI.set _ (fun k hk=>by
     simp only[List.mem_cons,List.not_mem_nil,or_false]at hk
     rcases hk with rfl | rfl <;> omega) _ _
    gi_wp2
    exact⟨kf,kb,bO5,h25,h35,hQ5⟩
   case done =>
    rintro D W hD⟨hO,h2,h3,hQk⟩ hK
    have c0:=hO.cell
    have c2:=h2.cell
    have c3:=h3.cell
    have f2:=h2.frozen
    have f3:=h3.frozen
    have r2:=zbq (h2.set (.string ⟨(ze (zfR qs qs.length)).toArray⟩)) (g:=w.heap.size+1) (by omega) 0 (.int .i64 0)
    have r3:=(zbq h3 (g:=w.heap.size) (by omega) 0 (.string ⟨(ze (zfR qs qs.length)).toArray⟩)).set (.int .i64 0)
    have hQe:=(hQk.setCell (p:=⟨w.heap.size,0,none⟩) (by simp) (.string ⟨(ze (zfR qs qs.length)).toArray⟩)).setCell (p:=⟨w.heap.size+1,0,none⟩) (by simp) (.int .i64 0)
    have hK2:=(KeepsOthers.setCell (W.setCell ⟨w.heap.size,0,none⟩ (.string ⟨(ze (zfR qs qs.length)).toArray⟩)) ⟨w.heap.size+1,0,none⟩ (.int .i64 0)).same D _ ((KeepsOthers.setCell W ⟨w.heap.size,0,none⟩ (.string ⟨(ze (zfR qs qs.length)).toArray⟩)).same D _ hK rfl) rfl
    have kc:=KC.put (.deferred none) hK2 rfl
    have hDw:w.heap.size≤D:=by have:=hqw.size;omega
    go_wp2
    refine⟨by simp,.inl ⟨_,_,rfl,run_takeDeferred hK2,?_⟩⟩
    exact⟨_,zmG (zu r2 kc).cell (zu r3 kc).cell _ rfl _ rfl rfl,rfl,Below.trans hQe (zaQ hDw hK2 _)⟩
theorem zlA(b o cap:Nat)(qs:List Rat)(hq:∀ q∈qs,Bd 10 q)(hn:qs.length≤20)(w:World)(hE:Env w)(hN:zmq w b o qs)(hb:b<w.heap.size) :
  CR 224 #[.slice (some ⟨b,o,none⟩) qs.length cap] w (.tuple #[.string ⟨(ze (zfR qs qs.length)).toArray⟩,.int .i64 0]) :=
 callsIn_wide.1 (ztp b o cap qs hq hn w hE hN hb)
end
end Go.Proofs.YtapnkgdnflofbaaGreatDoor
