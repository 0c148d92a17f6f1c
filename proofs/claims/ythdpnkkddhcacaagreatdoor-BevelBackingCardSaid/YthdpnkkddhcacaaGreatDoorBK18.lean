/-
  The law TruelengthSquares: its walk. Compare by the values; the law TruelengthRounds: its walk.; Sums of roots by their values: what a list of terms is worth along one class of roots. Mathematics.; surd.Check at a list of terms; its walk.; surd.Sub and surd.Compare at valid lists of any numbers.; Comparing a sum of two roots with a number: mathematics.
-/
import Derived.Test.YthdpnkkddhcacaaGreatDoorBK17
import Derived.BigRegion
set_option maxRecDepth 100000
set_option maxHeartbeats 4000000
namespace Go.Proofs.YthdpnkkddhcacaaGreatDoor
open Go.RowKit Kp
open Go.Lib (decDigits)
end Go.Proofs.YthdpnkkddhcacaaGreatDoor
namespace Kp
theorem zky(n:Nat):zq (n*n)=n:=zem ⟨Nat.le_refl _,Nat.mul_lt_mul'' (Nat.lt_succ_self n) (Nat.lt_succ_self n)⟩
end Kp
namespace Go.Proofs.YthdpnkkddhcacaaGreatDoor
section
open Go.RowKit Kp
theorem zfD(t:Rat):(t*t).num=t.num*t.num∧(t*t).den=t.den*t.den:=by
 have h1:t*(t.den:Rat)=(t.num:Rat):=zjk t
 have h2:(t*t)*((t*t).den:Rat)=((t*t).num:Rat):=zjk (t*t)
 have hc1:=t.reduced
 have hc2:=(t*t).reduced
 have hd:=t.den_nz
 have h3:(((t*t).num*((t.den:Int)*t.den):Int):Rat)=((t.num*t.num*((t*t).den:Int):Int):Rat):=by
  rw[Rat.intCast_mul,Rat.intCast_mul,Rat.intCast_mul,Rat.intCast_mul,Rat.intCast_natCast,Rat.intCast_natCast,← h2,← h1]
  grind
 have h4:(t*t).num*((t.den:Int)*t.den)=t.num*t.num*((t*t).den:Int):=by exact_mod_cast h3
 generalize (t*t).num=N at *
 generalize (t*t).den=D at *
 have h5:N.natAbs*(t.den*t.den)=t.num.natAbs*t.num.natAbs*D:=by
  have:=congrArg Int.natAbs h4
  simpa[Int.natAbs_mul]using this
 have c3:Nat.Coprime (t.num.natAbs*t.num.natAbs) (t.den*t.den):=Nat.Coprime.mul_left (Nat.Coprime.mul_right hc1 hc1) (Nat.Coprime.mul_right hc1 hc1)
 have e1:D ∣ t.den*t.den:=by
  have:D ∣ N.natAbs*(t.den*t.den):=⟨t.num.natAbs*t.num.natAbs,by rw[h5,Nat.mul_comm]⟩
  exact Nat.Coprime.dvd_of_dvd_mul_left (Nat.Coprime.symm hc2) this
 have e2:t.den*t.den ∣ D:=by
  have:t.den*t.den ∣ t.num.natAbs*t.num.natAbs*D:=⟨N.natAbs,by rw[← h5,Nat.mul_comm]⟩
  exact Nat.Coprime.dvd_of_dvd_mul_left (Nat.Coprime.symm c3) this
 have e3:D=t.den*t.den:=Nat.dvd_antisymm e1 e2
 refine⟨?_,e3⟩
 rw[e3,Int.natCast_mul]at h4
 have:((t.den:Int)*t.den)≠0:=Int.mul_ne_zero (by omega) (by omega)
 exact Int.eq_of_mul_eq_mul_right this h4
theorem zqO{t:Rat}(ht:0≤t.num):zc5 (t*t)=true∧sqR (t*t)=t:=by
 obtain⟨h1,h2⟩:=zfD t
 obtain⟨n,hn⟩:=Int.eq_ofNat_of_zero_le ht
 have e1:(t*t).num.toNat=n*n:=by rw[h1,hn,← Int.natCast_mul,Int.toNat_natCast]
 unfold zc5 sqR
 rw[e1,h2,zky,zky]
 refine⟨by simp,?_⟩
 rw[← hn]
 exact Rat.num_divInt_den t
def Sim(a b:Nat):Prop:=zc5 ((a:Rat) / (b:Rat))=true
theorem zuB{a b:Nat}{t:Rat}(hb:0<b)(ht:0≤t.num)(h:(a:Rat)=(b:Rat)*(t*t)):zc5 ((a:Rat) / (b:Rat))=true∧sqR ((a:Rat) / (b:Rat))=t:=by
 have hb0:=nat_ne hb
 rw[show (a:Rat) / (b:Rat)=t*t by grind]
 exact zqO ht
theorem zrG{a b:Nat}(ha:0<a)(hb:0<b)(h:Sim a b):Sim b a:=zoz hb ha h
theorem zrH{a:Nat}(ha:0<a):Sim a a∧sqR ((a:Rat) / (a:Rat))=1:=zuB ha (by decide) (by grind)
def cf(m:Nat)(c:Rat × Nat):Rat:=if zc5 ((c.2:Rat) / (m:Rat))then c.1*sqR ((c.2:Rat) / (m:Rat))else 0
def Apart(L:List (Rat × Nat)):Prop:=L.Pairwise fun a b=>¬ Sim b.2 a.2
theorem zox{p q:Rat}(hq:0≤q)(h:p*p≤q*q):p≤q:=by
 rcases(Rat.le_total:p≤q∨q≤p)with h1 | h1
 ·exact h1
 ·have h2:=Rat.mul_le_mul_of_nonneg_left h1 hq
  have h3:=Rat.mul_le_mul_of_nonneg_right h1 (Rat.le_trans hq h1)
  have h4:q*q=p*p:=Rat.le_antisymm (Rat.le_trans h2 h3) h
  have h5:(p - q)*(p+q)=0:=by grind
  rcases Rat.mul_eq_zero.1 h5 with h6 | h6
  ·have:p=q:=by grind
   rw[this];exact Rat.le_refl
  ·have:p=0:=by
    have h7:p≤0:=by grind
    exact Rat.le_antisymm h7 (Rat.le_trans hq h1)
   rw[this];exact hq
def zm2(cs L:List (Rat × Nat)):List (Rat × Nat):=L.foldl zd6 cs
theorem zne(X Y:Str)(l m:Nat)(hl:0<l)(hl1:l<10 ^ 80)(hm:0<m)(hm1:m<10 ^ 80)(b:Nat)(t:TypeId)(w:World)(hE:Env w)(hb:Blk w b [.string ⟨X.toArray⟩,.string ⟨(Lib.itoa (m:Int)).toArray⟩] t) :
  CR 137 #[.agg #[.string ⟨Y.toArray⟩,.string ⟨(Lib.itoa (l:Int)).toArray⟩],.pointer (some ⟨b,0,none⟩)] w (.bool (zc5 ((m:Rat) / (l:Rat)))):=by
 have HR:=LH (fun w hw=>zj1 l m hl hl1 hm hm1 w hw)
 generalize Lib.itoa (l:Int)=L at *
 generalize Lib.itoa (m:Int)=M at *
 generalize (if zc5 ((m:Rat) / (l:Rat))then ze (sqR ((m:Rat) / (l:Rat)))else [])=S at *
 generalize zc5 ((m:Rat) / (l:Rat))=B at *
 clear hl hl1 hm hm1
 have hlt:=hb.lt
 have c1:=hb.cell 1
 simp only[zs4,zs5]at c1
 go_enter Tryz.func137,Tryz.ntmps137
 have hQ0:=Q.refl w
 go_wp2_with fail
 refine cx (HR.out _ (hE.ofQ bt)) fun w1 hq1=>?_
 have hs1:Q w w1:=Q.trans bt hq1
 have hQ1:Q w w1:=Q.trans hQ0 hs1
 go_wp2
 go_ret
 exact⟨rfl,bt⟩
theorem zqX(L:List (Rat × Nat))(j:Nat)(h:j<L.length):(L.map ofC).getD j ([],[])=(ze L[j].1,Lib.itoa (L[j].2:Int)):=by
 rw[List.getD_eq_getElem?_getD,List.getElem?_map,List.getElem?_eq_getElem h];rfl
theorem zqT(L:List (Rat × Nat))(hL:∀ c∈L,0<c.2∧c.2<10 ^ 80)(hn:L.length≤1000)(X:Str)(m:Nat)(hm:0<m)(hm1:m<10 ^ 80)(hs:∀ c∈L,¬ Sim m c.2)(g:Nat)(t:TypeId)(v:Value)(w:World)(hE:Env w)(hb:Blk w g [.string ⟨X.toArray⟩,.string ⟨(Lib.itoa (m:Int)).toArray⟩] t)(hv:TSl w w.heap.size v (L.map ofC)) :
  CR 204 #[v,.func (.func 137) #[] #[.pointer (some ⟨g,0,none⟩)]] w (.int .i64 (-1)):=by
 obtain⟨a,cap,rfl,-,hc⟩:=hv
 rw[List.length_map]at hc
 rw[List.length_map]
 have HG:=LH (fun j h=>zqX L j h)
 have HN:=LH (fun j (hj:j<L.length) w' (hw:Env w') (hq:Q w w')=>zne X (ze L[j].1) L[j].2 m (hL _ (List.getElem_mem hj)).1 (hL _ (List.getElem_mem hj)).2 hm hm1 g t w' hw (hb.keep hq hb.lt))
 have HF:=LH (fun j (hj:j<L.length)=>(Bool.eq_false_iff.2 (hs L[j] (List.getElem_mem hj)):zc5 ((m:Rat) / (L[j].2:Rat))=false))
 have HC:=LH hc
 clear hL hs hb hc
 go_enter Tryz.func204,Tryz.ntmps204
 go_wp2
 go_loopw [8] (fun i wr=>∃ j:Nat,j≤L.length∧i=.int .i64 j∧Q w wr) (fun i _=>L.length - (intOf i).toNat)
 case atStart=>exact⟨0,by omega,rfl,Below.refl _ _⟩
 case round =>
  obtain⟨j,hj,rfl,hQ⟩:=hrel
  by_cases hlt:j<L.length
  ·obtain⟨b,o,ha,hbb,d0,d1⟩:=HC.out j hlt
   subst ha
   have c0:=(hQ.cell (p:=⟨b,o+j*2,none⟩) hbb).trans d0
   have c1:=(hQ.cell (p:=⟨b,o+j*2+1,none⟩) hbb).trans d1
   rw[HG.out j hlt]at c0 c1
   simp only at c0 c1
   have HNJ:=LH (HN.out j hlt)
   have HFJ:=LH (HF.out j hlt)
   have hlt2:(j:Int)<L.length:=by omega
   have hj0:(0:Int)≤j:=by omega
   have hj1:(j:Int)≤1000:=by omega
   have HJ:Hid (j+1≤L.length):=LH hlt
   have lbr:=Nat.lt_of_lt_of_le hbb hQ.size
   clear d0 d1 HN HF HC HG
   rw[HFJ.out]at HNJ
   clear HFJ
   generalize ze L[j].1=P at *
   generalize Lib.itoa (L[j].2:Int)=R at *
   go_wp2_with fail
   refine cx (HNJ.out _ (hE.ofQ bt) bt) fun w2 hq2=>?_
   have hQ2:Q w w2:=Q.trans hQ hq2
   go_wp2
   go_roundw
   case rel=>exact⟨j+1,HJ.out,by go_num,hQ2⟩
   case measure=>simp[intOf];omega
  ·have hje:j=L.length:=by omega
   subst hje
   go_wp2
   go_ret
   exact⟨rfl,hQ⟩
theorem zmT(L:List (Rat × Nat))(hL:∀ c∈L,0<c.2∧c.2<10 ^ 80)(hn:L.length≤1000)(X:Str)(m:Nat)(hm:0<m)(hm1:m<10 ^ 80)(hs:∀ c∈L,¬ Sim m c.2)(g:Nat)(t:TypeId)(v:Value)(w:World)(hE:Env w)(hb:Blk w g [.string ⟨X.toArray⟩,.string ⟨(Lib.itoa (m:Int)).toArray⟩] t)(hv:TSl w w.heap.size v (L.map ofC)) :
  CR 136 #[v,.func (.func 137) #[] #[.pointer (some ⟨g,0,none⟩)]] w (.bool false):=by
 have HI:=LH (zqT L hL hn X m hm hm1 hs g t v w hE hb hv)
 obtain⟨a,cap,rfl,-,-⟩:=hv
 rw[List.length_map]at HI ⊢
 clear hL hs hb
 go_enter Tryz.func136,Tryz.ntmps136
 go_wp2_with fail
 refine HI.out.mono ?_
 rintro e w1⟨rfl,hq1⟩
 go_wp2
 go_ret
 exact⟨rfl,hq1⟩
structure SList (L:List (Rat × Nat)):Prop where
 term:∀ c∈L,Term1 c.1 c.2
 up:∀ i (h:i+1<L.length),L[i].2<L[i+1].2
 apart:Apart L
 len:L.length≤16
theorem Term1.root80{x:Rat}{l:Nat}(h:Term1 x l):0<l∧l<10 ^ 80:=by
 have h1:=h.c40.1
 rw[Rat.num_natCast,Int.natAbs_natCast]at h1
 exact⟨h.norm.1,Nat.lt_of_lt_of_le h1 (by decide)⟩
theorem SList.far{L:List (Rat × Nat)}(h:SList L)(i:Nat)(hi:i<L.length):∀ c∈L.take i,¬ Sim L[i].2 c.2:=by
 intro c hc
 obtain⟨j,hj,rfl⟩:=List.mem_iff_getElem.1 hc
 rw[List.length_take]at hj
 rw[List.getElem_take]
 exact(List.pairwise_iff_getElem.1 h.apart) j i (by omega) hi (by omega)
theorem TSl.take{w:World}{B:Nat}{a:Option Addr}{n cap:Nat}{L:List (Rat × Nat)}(h:TSl w B (.slice a n cap) (L.map ofC))(i:Nat)(hi:i≤L.length):∀ cap',TSl w B (.slice a i cap') ((L.take i).map ofC):=by
 intro cap'
 obtain⟨a',c',he,hB,hc⟩:=h
 injection he with e1 e2 e3
 subst e1
 refine⟨a,cap',by rw[List.length_map,List.length_take,Nat.min_eq_left hi],hB,fun j hj=>?_⟩
 rw[List.length_map,List.length_take]at hj
 obtain⟨b,o,ha,hb,c0,c1⟩:=hc j (by rw[List.length_map];omega)
 have e:((L.take i).map ofC).getD j ([],[])=(L.map ofC).getD j ([],[]):=by
  rw[List.map_take,List.getD_eq_getElem?_getD,List.getD_eq_getElem?_getD,List.getElem?_take,if_pos (by omega)]
 rw[e]
 exact⟨b,o,ha,hb,c0,c1⟩
theorem ziN(L:List (Rat × Nat))(hL:SList L)(a:Option Addr)(cap:Nat)(hcap:L.length≤cap)(w:World)(hE:Env w)(hv:TSl w w.heap.size (.slice a L.length cap) (L.map ofC)) :
  CR 71 #[.slice a L.length cap] w (.int .i64 0):=by
 have HV:=LH hv
 have hc:∀ i,i<L.length→∃ b o,a=some ⟨b,o,none⟩∧b<w.heap.size∧w.cell? ⟨b,o+i*2,none⟩=some (.string ⟨((L.map ofC).getD i ([],[])).1.toArray⟩)∧w.cell? ⟨b,o+i*2+1,none⟩=some (.string ⟨((L.map ofC).getD i ([],[])).2.toArray⟩):=by
  obtain⟨a',cap',he,-,h⟩:=hv
  injection he with e1 e2 e3
  subst e1
  rw[List.length_map]at h
  exact h
 clear hv
 have hlen:=hL.len
 have HG:=LH (fun j h=>zqX L j h)
 have HR:=LH (fun j (hj:j<L.length) w hw=>zlU L[j].1 L[j].2 (hL.term _ (List.getElem_mem hj)).lim (hL.term _ (List.getElem_mem hj)).ne (hL.term _ (List.getElem_mem hj)).c60 (hL.term _ (List.getElem_mem hj)).norm (hL.term _ (List.getElem_mem hj)).c40 w hw)
 have HCM:=LH (fun j (hj:j+1<L.length) w hw=>zbY L[j].2 L[j+1].2 (zgO (hL.term _ (List.getElem_mem (show j<L.length by omega))).root80.2) (zgO (hL.term _ (List.getElem_mem hj)).root80.2) w hw)
 have HUP:=LH (fun j (hj:j+1<L.length)=>(by
  have h:=hL.up j hj
  unfold Lib.compareInt
  rw[if_pos (by omega)]:Lib.compareInt (L[j].2:Int) (L[j+1].2:Int) = -1))
 have h1000:∀ j,(L.take j).length≤1000:=fun j=>by rw[List.length_take];omega
 have HCT:=LH (fun j (hj:j<L.length) cap' g t w' (hw:Env w') (hq:Q w w') (hb:Blk w' g [.string ⟨(ze L[j].1).toArray⟩,.string ⟨(Lib.itoa (L[j].2:Int)).toArray⟩] t)=>zmT (L.take j) (fun c hc=>(hL.term c (List.mem_of_mem_take hc)).root80) (h1000 j) (ze L[j].1) L[j].2 (hL.term _ (List.getElem_mem hj)).root80.1 (hL.term _ (List.getElem_mem hj)).root80.2 (hL.far j hj) g t (.slice a j cap') w' hw hb (((HV.out.take j (by omega) cap').keep hq (Nat.le_refl _)).raise hq.size (Nat.le_refl _)))
 have HC:=LH hc
 clear hc hL h1000
 go_enter Tryz.func71,Tryz.ntmps71
 go_wp2
 go_loopw [13] (fun i wr=>∃ k:Nat,k≤L.length∧i=.int .i64 k∧Q w wr) (fun i _=>L.length - (intOf i).toNat)
 case atStart=>exact⟨0,by omega,rfl,Q.refl _⟩
 case round =>
  obtain⟨k,hk,rfl,hQ⟩:=hrel
  by_cases hlt:k<L.length
  ·obtain⟨b,o,ha,hbb,d0,d1⟩:=HC.out k hlt
   subst ha
   have c0:=(hQ.cell (p:=⟨b,o+k*2,none⟩) hbb).trans d0
   have c1:=(hQ.cell (p:=⟨b,o+k*2+1,none⟩) hbb).trans d1
   rw[HG.out k hlt]at c0 c1
   simp only at c0 c1
   have HRK:=LH (HR.out k hlt)
   have HCK:=LH (fun cap'=>HCT.out k hlt cap')
   have HJ:Hid (k+1≤L.length):=LH hlt
   have lbr:=Nat.lt_of_lt_of_le hbb hQ.size
   clear d0 d1 HR HCT
   rcases Nat.eq_zero_or_pos k with h0 | h0
   ·subst h0
    clear HCM HUP HCK HC HG
    rw[Nat.zero_mul,Nat.add_zero]at c0 c1
    generalize ze L[0].1=P at *
    generalize Lib.itoa (L[0].2:Int)=R at *
    go_wp2_with fail
    refine cx (HRK.out _ (hE.ofQ bt)) fun w2 hq2=>?_
    have hQ2:Q w w2:=Q.trans (hQ.alloc hQ.size _) hq2
    clear c0 c1
    go_wp2
    go_roundw
    case rel=>exact⟨1,HJ.out,by go_num,hQ2⟩
    case measure=>simp[intOf];omega
   ·obtain⟨j,rfl⟩:∃ j,k=j+1:=⟨k - 1,by omega⟩
    obtain⟨b',o',ha',hbb',d0,d1⟩:=HC.out j (by omega)
    injection ha' with ha'
    injection ha' with e1 e2
    subst e1 e2
    have p1:=(hQ.cell (p:=⟨b,o+j*2+1,none⟩) hbb).trans d1
    rw[HG.out j (by omega)]at p1
    simp only at p1
    have HCMJ:=LH (fun w hw=>HCM.out j hlt w hw)
    rw[HUP.out j hlt]at HCMJ
    clear HCM HUP d0 d1 HC HG
    generalize ze L[j+1].1=P at *
    generalize Lib.itoa (L[j+1].2:Int)=R at *
    generalize Lib.itoa (L[j].2:Int)=R0 at *
    go_wp2_with fail
    refine cx (HRK.out _ (hE.ofQ bt)) fun w2 hq2=>?_
    have T:=(Blk.new wr [.string ⟨P.toArray⟩,.string ⟨R.toArray⟩] 47).keep hq2 (by simp)
    have hQa:Q w (wr.alloc (Obj.cells [.string ⟨P.toArray⟩,.string ⟨R.toArray⟩].toArray 47)):=hQ.alloc hQ.size _
    have hQ2:Q w w2:=Q.trans hQa hq2
    have hs2:Q wr w2:=Q.trans ((Below.refl _ wr).alloc (Nat.le_refl _) _) hq2
    have t0:=T.cell 0
    have t1:=T.cell 1
    simp only[zs4,zs5]at t0 t1
    replace p1:=za hs2 p1
    have lT:=T.lt
    have lb2:=Nat.lt_of_lt_of_le lbr hs2.size
    have hj0:(0:Int)≤(j:Int):=by omega
    have hj1:(j:Int)≤16:=by omega
    have hjl:(j:Int)<L.length:=by omega
    have wj:=Go.IntWalk.i64_in (j:Int) (by omega)
    have hsub:(j:Int)+1 - 1=j:=by omega
    clear c0 c1 hq2 hQa
    have hjc:(j:Int)+1≤cap:=by omega
    go_wp2_with fail
    have dp1:w2.drew.cell? ⟨b,o+j*2+1,none⟩=some (.string ⟨R0.toArray⟩):=p1
    have dt1:w2.drew.cell? ⟨wr.heap.size,1,none⟩=some (.string ⟨R.toArray⟩):=t1
    have hqd:Q w2 w2.drew:=Below.drew (Q.refl w2)
    refine zm 14 (by kernel_rfl) (by kernel_rfl) rfl ?_
    refine svp 0 ?_
    refine svp 1 ?_
    refine svp 2 ?_
    refine svp 3 ?_
    refine svp 4 ?_
    refine svq 5 rfl (by intro w' hq;have hc0:=za hq dp1;go_simp;try with_reducible rfl) ?_
    refine svp 6 ?_
    refine svq 7 rfl (by intro w' hq;have hc0:=za hq dt1;go_simp;try with_reducible rfl) ?_
    refine zh (i:=8) (v:=_) rfl rfl (by kernel_rfl) (by kernel_rfl) (fun _ _ _ h=>h) (by rfl) ?_ (fun w' hq=>HCMJ.out w' (hE.q (Q.trans hQ2 (Q.trans hqd hq)))) ?_
    ·(intro w' hq;go_simp;try with_reducible rfl)
    simp only[Act.put,zs1,zs2,zs3]
    refine svp 9 ?_
    refine svp 10 ?_
    refine svp 11 ?_
    refine svp 12 ?_
    refine svp 13 ?_
    refine zi (by kernel_rfl) (fun w3 hq3=>?_)
    simp only[List.drop_succ_cons,List.drop_nil]
    have hs3:Q w2 w3:=Q.trans hqd hq3
    have hQ3:Q w w3:=Q.trans hQ2 hs3
    replace T:=T.keep hs3 T.lt
    clear dp1 dt1 hqd hq3 p1 t0 t1
    go_wp2_with fail
    refine cx (HCK.out cap wr.heap.size _ w3 (hE.q hQ3) hQ3 T) fun w4 hq4=>?_
    have hQ4:Q w w4:=Q.trans hQ3 hq4
    clear T
    go_wp2
    go_roundw
    case rel=>exact⟨j+2,HJ.out,by go_num,hQ4⟩
    case measure=>simp[intOf];omega
  ·have hje:k=L.length:=by omega
   subst hje
   go_wp2
   go_ret
   exact⟨rfl,hQ⟩
def zH(w:World)(B:Nat)(v:Value)(L:List (Rat × Nat)):Prop:=w.ownsRow B 47 2 v L.length (zca (L.map ofC))
theorem zH.keep{w w':World}{B:Nat}{v:Value}{L:List (Rat × Nat)}(h:zH w B v L)(hq:Q w w'):zH w' B v L:=zn h hq
theorem zH.tsl{w:World}{B:Nat}{v:Value}{L:List (Rat × Nat)}(h:zH w B v L):TSl w w.heap.size v (L.map ofC):=by
 unfold zH at h
 rw[show L.length=(L.map ofC).length by rw[List.length_map]]at h
 exact TSl.of_row h
theorem zH.form{w:World}{B:Nat}{v:Value}{L:List (Rat × Nat)}(h:zH w B v L):∃ a cap,v=.slice a L.length cap∧L.length≤cap:=by
 rcases h.2 with⟨hv,h0⟩|⟨g,cap,cur,hv,-,-,hc,-⟩
 ·exact⟨none,0,by rw[hv,h0],by omega⟩
 ·exact⟨some ⟨g,0,none⟩,cap,hv,hc⟩
theorem zgg(L:List (Rat × Nat))(hL:SList L)(B:Nat)(v:Value)(w:World)(hE:Env w)(hv:zH w B v L) :
  CR 71 #[v] w (.int .i64 0):=by
 have ht:=hv.tsl
 obtain⟨a,cap,rfl,hc⟩:=hv.form
 exact ziN L hL a cap hc w hE ht
theorem zhL(L K:List (Rat × Nat))(hL:SList L)(hK:SList K)(B1 B2:Nat)(v1 v2:Value)(w:World)(hE:Env w)(h1:zH w B1 v1 L)(h2:zH w B2 v2 K) :
  CR 37 #[v1,v2] w (.bool true):=by
 have HA:=LH (zgg L hL B1 v1 w hE h1)
 have HB:=LH (fun w' (hw:Env w') (hq:Q w w')=>zgg K hK B2 v2 w' hw (h2.keep hq))
 obtain⟨a1,c1,rfl,-⟩:=h1.form
 obtain⟨a2,c2,rfl,-⟩:=h2.form
 clear h1 h2 hL hK
 go_enter Tryz.func37,Tryz.ntmps37
 go_wp2_with fail
 refine HA.out.mono ?_
 rintro e w1⟨rfl,hq1⟩
 go_wp2_with fail
 refine cx (HB.out _ (hE.q hq1) hq1) fun w2 hq2=>?_
 go_wp2
 go_ret
 exact⟨rfl,Q.trans hq1 hq2⟩
theorem zic(l2:List (Str × Str))(h2:0<l2.length)(n2:l2.length≤1000)(a1:Option Addr)(cap1:Nat)(ha:(a1=none∧cap1=0)∨∃ g,a1=some ⟨g,0,none⟩)(v2:Value)(b:Nat)(t:TypeId)(w:World)(hb:Blk w b [.slice a1 0 cap1,v2] t)(s2:TSl w w.heap.size v2 l2) :
  Calls Tryz.prog 157 #[.slice (some ⟨b,0,none⟩) 2 2] w fun e w'=>∃ v,e=.returned v∧Q w w'∧w'.ownsRow w.heap.size 47 2 v l2.length (zca l2):=by
 have S2:=LH s2
 obtain⟨b2,o2,cap2,rfl,-,-,-⟩:=s2.open h2
 have hg:=fun w=>zjD l2.length (by omega) (by omega) w
 have HG:=LH hg
 clear s2 hg
 have HN2:=LH (fun(W:World) (hq:Q w W) (j:Nat) (u:Value) (hu:(zca l2)[j]? = some u)=>by
  obtain⟨b',o',cap',hv,_,_,hc⟩:=(S2.out.keep hq (Nat.le_refl _)).open h2
  cases hv
  exact hc j u hu)
 have HL2:=LH (zgq l2)
 have HO2:=LH (zgp l2)
 generalize zca l2=r2 at *
 generalize l2.length=m2 at *
 have lb:=hb.lt
 obtain⟨i0,hi,hz0,hz1,hz2⟩:=zco zeo
 have HI:=LH hi
 have HZ:=LH hz0
 have HS:=LH hz1
 have HBy:=LH hz2
 clear hi hz0 hz1 hz2
 have c0:=hb.cell 0
 have c1:=hb.cell 1
 simp only[zs4,zs5]at c0 c1
 have w1i:=Go.IntWalk.i64_in ((0:Int)+(m2:Int)) (by omega)
 go_enter Tryz.func157,Tryz.ntmps157
 go_wp2
 go_loop [3,11] (fun sz i=>(i=.int .i64 0∧sz=.int .i64 0)∨(i=.int .i64 1∧sz=.int .i64 0)∨(i=.int .i64 2∧sz=.int .i64 (m2:Int))) (fun _ i=>2 - (intOf i).toNat)
 case atStart=>exact .inl ⟨rfl,rfl⟩
 case round =>
  rcases hrel with⟨rfl,rfl⟩|⟨rfl,rfl⟩|⟨rfl,rfl⟩
  ·go_wp2
   go_round
   case rel=>exact .inr (.inl ⟨rfl,by first | rfl | go_num⟩)
   case measure=>simp[intOf]
  ·go_wp2
   go_round
   case rel=>exact .inr (.inr ⟨rfl,by go_num⟩)
   case measure=>simp[intOf]
  ·go_wp2_with fail
   refine(HG.out _).mono ?_
   rintro e w1⟨v,rfl,hq1,hr1,g1,gc1,rfl⟩
   clear c0 c1
   have hb1:=hb.keep hq1 lb
   go_wp2
   go_loopw [6,27] (fun o i wr=>Q w wr∧((i=.int .i64 0∧o=.slice (some ⟨g1,0,none⟩) 0 gc1∧wr.ownsRow w.heap.size 47 2 o 0 [])∨(i=.int .i64 1∧o=.slice (some ⟨g1,0,none⟩) 0 gc1∧wr.ownsRow w.heap.size 47 2 o 0 [])∨(i=.int .i64 2∧wr.ownsRow w.heap.size 47 2 o m2 r2))) (fun _ i _=>2 - (intOf i).toNat)
   case atStart=>exact⟨hq1,.inl ⟨rfl,rfl,hr1⟩⟩
   case round =>
    obtain⟨hQ,⟨rfl,rfl,hrow⟩|⟨rfl,rfl,hrow⟩|⟨rfl,hrow⟩⟩:=hrel
    ·have hbr:=hb.keep hQ lb
     have c0:=hbr.cell 0
     simp only[List.getElem?_cons_zero]at c0
     have lbr:=hbr.lt
     rcases ha with⟨rfl,rfl⟩|⟨g2,rfl⟩
     ·go_wp2
      try (go_quiet (fail);go_wp2)
      go_roundw
      case rel=>exact⟨hQ,.inr (.inl ⟨rfl,rfl,hrow⟩)⟩
      case measure=>simp[intOf]
     ·go_wp2
      try (go_quiet (fail);go_wp2)
      go_roundw
      case rel=>exact⟨hQ,.inr (.inl ⟨rfl,rfl,hrow⟩)⟩
      case measure=>simp[intOf]
    ·have hbr:=hb.keep hQ lb
     have c1:=hbr.cell 1
     simp only[zs4,zs5]at c1
     have lbr:=hbr.lt
     go_wp2_with (at_builtin;refine wpList_append_lies _ (by rfl) (.tmp 31) (.tmp 32) 40 (by rfl) w.heap.size 47 i0 _ 2 32 Tryz.underlying40 HI.out HZ.out HS.out HBy.out rfl (by decide) (.slice (some ⟨g1,0,none⟩) 0 gc1) 0 [] (by rfl) hrow ⟨b2,o2,none⟩ m2 cap2 r2 (by rfl) HL2.out (HN2.out _ hQ) HO2.out h2 (by unfold maxLen;omega) (by omega) hQ.size _ (by rfl) ?_;intro g4 cap4 w4 hown4 hgrow4 hat4 hlt4)
     go_roundw
     case rel=>exact⟨hQ.grown hgrow4 hQ.size (fun k hk=>(hrow.lt k hk).1),.inr (.inr ⟨rfl,by rw[Nat.zero_add,List.nil_append]at hown4;simpa using hown4⟩)⟩
     case measure=>simp[intOf]
    ·go_wp2
     go_ret
     exact⟨_,rfl,hQ,hrow⟩
theorem zqV(w:World):CR 234 #[.slice none 0 0,.int .i64 0] w (.slice none 0 0):=by
 go_enter Tryz.func234,Tryz.ntmps234
 go_wp2
 go_ret
 exact⟨rfl,Q.refl _⟩
theorem zib(a1 a2:Option Addr)(cap1 cap2:Nat)(ha1:(a1=none∧cap1=0)∨∃ g,a1=some ⟨g,0,none⟩)(ha2:(a2=none∧cap2=0)∨∃ g,a2=some ⟨g,0,none⟩)(b:Nat)(t:TypeId)(w:World)(hb:Blk w b [.slice a1 0 cap1,.slice a2 0 cap2] t) :
  CR 157 #[.slice (some ⟨b,0,none⟩) 2 2] w (.slice none 0 0):=by
 have HG:=LH zqV
 have lb:=hb.lt
 have c0:=hb.cell 0
 have c1:=hb.cell 1
 simp only[zs4,zs5]at c0 c1
 go_enter Tryz.func157,Tryz.ntmps157
 go_wp2
 go_loop [3,11] (fun sz i=>(i=.int .i64 0∧sz=.int .i64 0)∨(i=.int .i64 1∧sz=.int .i64 0)∨(i=.int .i64 2∧sz=.int .i64 0)) (fun _ i=>2 - (intOf i).toNat)
 case atStart=>exact .inl ⟨rfl,rfl⟩
 case round =>
  rcases hrel with⟨rfl,rfl⟩|⟨rfl,rfl⟩|⟨rfl,rfl⟩
  ·go_wp2
   go_round
   case rel=>exact .inr (.inl ⟨rfl,by first | rfl | go_num⟩)
   case measure=>simp[intOf]
  ·go_wp2
   go_round
   case rel=>exact .inr (.inr ⟨rfl,by first | rfl | go_num⟩)
   case measure=>simp[intOf]
  ·go_wp2_with fail
   refine cx (HG.out _) fun w1 hq1=>?_
   clear c0 c1
   go_wp2
   go_loopw [6,27] (fun o i wr=>Q w wr∧o=.slice none 0 0∧(i=.int .i64 0∨i=.int .i64 1∨i=.int .i64 2)) (fun _ i _=>2 - (intOf i).toNat)
   case atStart=>exact⟨hq1,rfl,.inl rfl⟩
   case round =>
    obtain⟨hQ,rfl,rfl | rfl | rfl⟩:=hrel
    ·have hbr:=hb.keep hQ lb
     have c0:=hbr.cell 0
     simp only[List.getElem?_cons_zero]at c0
     have lbr:=hbr.lt
     rcases ha1 with⟨rfl,rfl⟩|⟨g2,rfl⟩
     ·go_wp2
      try (go_quiet (fail);go_wp2)
      go_roundw
      case rel=>exact⟨hQ,rfl,.inr (.inl rfl)⟩
      case measure=>simp[intOf]
     ·go_wp2
      try (go_quiet (fail);go_wp2)
      go_roundw
      case rel=>exact⟨hQ,rfl,.inr (.inl rfl)⟩
      case measure=>simp[intOf]
    ·have hbr:=hb.keep hQ lb
     have c1:=hbr.cell 1
     simp only[zs4,zs5]at c1
     have lbr:=hbr.lt
     rcases ha2 with⟨rfl,rfl⟩|⟨g2,rfl⟩
     ·go_wp2
      try (go_quiet (fail);go_wp2)
      go_roundw
      case rel=>exact⟨hQ,rfl,.inr (.inr rfl)⟩
      case measure=>simp[intOf]
     ·go_wp2
      try (go_quiet (fail);go_wp2)
      go_roundw
      case rel=>exact⟨hQ,rfl,.inr (.inr rfl)⟩
      case measure=>simp[intOf]
    ·go_wp2
     go_ret
     exact⟨rfl,hQ⟩
theorem zH.empty{w:World}{B:Nat}{v:Value}(h:zH w B v []):∃ a cap,v=.slice a 0 cap∧((a=none∧cap=0)∨∃ g,a=some ⟨g,0,none⟩):=by
 rcases h.2 with⟨hv,_⟩|⟨g,cap,cur,hv,-⟩
 ·exact⟨none,0,hv,.inl ⟨rfl,rfl⟩⟩
 ·exact⟨some ⟨g,0,none⟩,cap,hv,.inr ⟨g,rfl⟩⟩
theorem zH.nil(w:World)(B:Nat):zH w B (.slice none 0 0) []:=⟨rfl,.inl ⟨rfl,rfl⟩⟩
theorem zjZ(L K:List (Rat × Nat))(nL:L.length≤1000)(nK:K.length≤1000)(B1 B2:Nat)(v1 v2:Value)(b:Nat)(t:TypeId)(w:World)(hb:Blk w b [v1,v2] t)(h1:zH w B1 v1 L)(h2:zH w B2 v2 K) :
  Calls Tryz.prog 157 #[.slice (some ⟨b,0,none⟩) 2 2] w fun e w'=>∃ v,e=.returned v∧Q w w'∧zH w' w.heap.size v (L++K):=by
 have mk:∀ {w':World} {v:Value} {M:List (Rat × Nat)},w'.ownsRow w.heap.size 47 2 v (M.map ofC).length (zca (M.map ofC))→zH w' w.heap.size v M:=fun h=>by
  rw[List.length_map]at h;exact h
 rcases Nat.eq_zero_or_pos L.length with e1 | e1
 ·obtain rfl:=List.length_eq_zero_iff.1 e1
  obtain⟨a1,cap1,rfl,ha1⟩:=h1.empty
  rcases Nat.eq_zero_or_pos K.length with e2 | e2
  ·obtain rfl:=List.length_eq_zero_iff.1 e2
   obtain⟨a2,cap2,rfl,ha2⟩:=h2.empty
   exact(zib a1 a2 cap1 cap2 ha1 ha2 b t w hb).mono fun e w' ⟨he,hq⟩=>⟨_,he,hq,zH.nil w' _⟩
  ·refine(zic (K.map ofC) (by rw[List.length_map];exact e2) (by rw[List.length_map];exact nK) a1 cap1 ha1 v2 b t w hb h2.tsl).mono fun e w' ⟨v,he,hq,hr⟩=>⟨v,he,hq,?_⟩
   rw[List.nil_append];exact mk hr
 ·rcases Nat.eq_zero_or_pos K.length with e2 | e2
  ·obtain rfl:=List.length_eq_zero_iff.1 e2
   obtain⟨a2,cap2,rfl,ha2⟩:=h2.empty
   refine(zhd (L.map ofC) (by rw[List.length_map];exact e1) (by rw[List.length_map];exact nL) v1 a2 cap2 ha2 b t w hb h1.tsl).mono fun e w' ⟨v,he,hq,hr⟩=>⟨v,he,hq,?_⟩
   rw[List.append_nil];exact mk hr
  ·refine(znd (L.map ofC) (K.map ofC) (by rw[List.length_map];exact e1) (by rw[List.length_map];exact e2) (by rw[List.length_map];exact nL) (by rw[List.length_map];exact nK) v1 v2 b t w hb h1.tsl h2.tsl).mono fun e w' ⟨v,he,hq,hr⟩=>⟨v,he,hq,?_⟩
   rw[← List.map_append]at hr
   exact mk hr
def negL(K:List (Rat × Nat)):List (Rat × Nat):=K.map fun c=>(-c.1,c.2)
theorem zqr(K:List (Rat × Nat)):zeN (-1) K=negL K:=by
 unfold zeN negL
 exact List.map_congr_left fun c _=>by rw[zlp]
theorem zoq(K:List (Rat × Nat)):(negL K).length=K.length:=by unfold negL;rw[List.length_map]
end
section
open Go.RowKit Kp
attribute [local go_sem] Oper.semAt_some
def zhU(M:List (Rat × Nat)):List (Rat × Rat):=M.map fun c=>(c.1,(c.2:Rat))
theorem ztd(M:List (Rat × Nat)):(zhU M).map ofT=M.map ofC:=by
 unfold zhU
 rw[List.map_map]
 refine List.map_congr_left fun c _=>?_
 show (ze c.1,ze (c.2:Rat))=(ze c.1,Lib.itoa (c.2:Int))
 rw[zba]
theorem ztc{M:List (Rat × Nat)}(h:∀ c∈M,zah c.1=false∧c.2<10 ^ 40):∀ t∈zhU M,TW t:=fun t ht=>by
 unfold zhU at ht
 obtain⟨c,hc,rfl⟩:=List.mem_map.1 ht
 refine⟨(h c hc).1,?_,by show 0≤((c.2:Nat):Rat).num;rw[Rat.num_natCast];omega⟩
 exact(show Bd 40 (c.2:Rat)from⟨by rw[Rat.num_natCast,Int.natAbs_natCast];exact(h c hc).2,by rw[Rat.den_natCast];exact by decide⟩).zah (by decide)
theorem zrM{q:Rat}(h:zah q=false):zah (-q)=false:=by
 obtain⟨a,b⟩:=zx h
 unfold zah
 rw[ziu,zk2,zfY a,b]
 rfl
theorem zn8{x:Rat}{l:Nat}(h:Term1 x l):l<10 ^ 40:=by
 have:=h.c40.1
 rwa[Rat.num_natCast,Int.natAbs_natCast]at this
theorem zfg{q:Rat}{n:Nat}(hn:0<n)(h:za8 q≤n):Bd n q:=by
 unfold za8 at h
 rw[zal,zal,Int.natAbs_natCast]at h
 exact⟨(zl _ n hn).1 (by omega),(zl _ n hn).1 (by omega)⟩
theorem zl2{c:Rat × Nat}(h:zbq c=true):VS c:=by
 unfold zbq at h
 simp only[Bool.and_eq_true,decide_eq_true_eq]at h
 refine⟨zfg (by decide) h.1,?_⟩
 have:=(zfg (n:=40) (by decide) h.2).1
 rwa[Rat.num_natCast,Int.natAbs_natCast]at this
theorem zjl{ts:List (Rat × Rat)}{C:List (Rat × Nat)}(h:zaX ts=some C):∀ c∈C,zbq c=true:=by
 unfold zaX at h
 cases hv:zd5 ts with
 | none=>rw[hv]at h;cases h
 | some cs =>
  rw[hv]at h
  simp only[Option.bind_some]at h
  by_cases ha:(zex cs).all zbq=true
  ·rw[if_pos ha]at h
   cases h
   exact List.all_eq_true.1 ha
  ·rw[if_neg ha]at h;cases h
theorem zlV(L K:List (Rat × Nat))(sL:SList L)(sK:SList K)(hlen:L.length+K.length≤16)(hv2:∀ cs,zd5 (zhU (L++negL K))=some cs→cs.length≤2)
  (B1 B2:Nat)(v1 v2:Value)(w:World)(hE:Env w)(h1:zH w B1 v1 L)(h2:zH w B2 v2 K) :
  Calls Tryz.prog 85 #[v1,v2] w fun e w'=>Q w w'∧(zaX (zhU (L++negL K))=none→e=.returned (.tuple #[.slice none 0 0,.int .i64 4]))∧∀ C,zaX (zhU (L++negL K))=some C→∃ v',e=.returned (.tuple #[v',.int .i64 0])∧zH w' w.heap.size v' (zgj C):=by
 have HB:=LH (zhL L K sL sK B1 B2 v1 v2 w hE h1 h2)
 have bK:∀ c∈K,Bd 60 c.1:=fun c hc=>zfg (by decide) (sK.term c hc).c60
 have hsc:∀ w' (_:Env w') (_:Q w w'),Calls Tryz.prog 156 #[v2,.string ⟨#[45,49]⟩] w' fun e w''=>∃ v',e=.returned (.tuple #[v',.int .i64 0])∧Q w' w''∧zH w'' w'.heap.size v' (negL K):=fun w' hw hq=>by
  have h:=znb K (-1) zmV bK (by have:=sK.len;omega) v2 w' hw ((h2.keep hq).tsl)
  rw[zj0,zqr]at h
  refine h.mono fun e w'' he=>?_
  obtain⟨v',h1,h2,h3⟩:=he
  refine⟨v',h1,h2,?_⟩
  rw[List.length_map]at h3
  exact h3
 have HSC:=LH hsc
 have HCC:=LH (fun w' (hq:Q w w') B v b t hb hv=>zjZ L (negL K) (by have:=sL.len;omega) (by have:=sK.len;rw[zoq];omega) B1 B v1 v b t w' hb (h1.keep hq) hv)
 have htw:∀ t∈zhU (L++negL K),TW t:=ztc (fun c hc=>by
  rw[List.mem_append]at hc
  rcases hc with hc | hc
  ·exact⟨(sL.term c hc).lim,zn8 (sL.term c hc)⟩
  ·unfold negL at hc
   obtain⟨d,hd,rfl⟩:=List.mem_map.1 hc
   exact⟨zrM (sK.term d hd).lim,zn8 (sK.term d hd)⟩)
 have HMK:=LH (fun v w hw hv=>zdl (zhU (L++negL K)) htw (by unfold zhU;rw[List.length_map,List.length_append,zoq];exact hlen) hv2 v w hw hv)
 rw[ztd]at HMK
 obtain⟨mk,hmk⟩:∃ mk,zaX (zhU (L++negL K))=mk:=⟨_,rfl⟩
 rw[hmk]at HMK ⊢
 clear hmk
 obtain⟨a1,c1,rfl,-⟩:=h1.form
 obtain⟨a2,c2,rfl,-⟩:=h2.form
 clear htw h1 h2 sL sK bK hsc hlen hv2
 generalize L.length=n1 at *
 generalize K.length=n2 at *
 go_enter Tryz.func85,Tryz.ntmps85
 go_wp2_with fail
 refine HB.out.mono ?_
 rintro e w1⟨rfl,hq1⟩
 go_wp2_with fail
 refine(HSC.out _ (hE.q hq1) hq1).mono ?_
 rintro e w2⟨v3,rfl,hq2,hr3⟩
 have hQ2:=Q.trans hq1 hq2
 have R3:=LH hr3
 obtain⟨a3,c3,rfl,-⟩:=hr3.form
 clear hr3
 generalize (negL K).length=n3 at *
 go_wp2_with fail
 have hb:=Blk.new w2 [.slice a1 n1 c1,.slice a3 n3 c3] 40
 have hqa:=hQ2.alloc hQ2.size (Obj.cells [.slice a1 n1 c1,.slice a3 n3 c3].toArray 40)
 refine(HCC.out _ hqa _ _ _ _ hb (R3.out.keep ((Below.refl _ w2).alloc (Nat.le_refl _) _))).mono ?_
 rintro e w3⟨v4,rfl,hq3,hr4⟩
 have hQ3:=Q.trans hqa hq3
 have R4:=LH hr4.tsl
 obtain⟨a4,c4,rfl,-⟩:=hr4.form
 clear hr4
 generalize (L++negL K).length=n4 at *
 go_wp2_with fail
 refine(HMK.out _ _ (hE.q hQ3) R4.out).mono ?_
 rintro e w4⟨hq4,hn,hs⟩
 have hQ4:=Q.trans hQ3 hq4
 by_cases hm:mk=none
 ·obtain rfl:=hn hm
  have HM:=LH hm
  clear hm hn hs
  go_wp2
  go_ret2
  exact⟨hQ4,fun _=>rfl,fun C h=>by rw[HM.out]at h;cases h⟩
 ·obtain⟨C,hm⟩:=Option.ne_none_iff_exists'.1 hm
  obtain⟨v5,rfl,hr5⟩:=hs C hm
  have HR5:=LH hr5
  have HM:=LH hm
  clear hm hn hs hr5
  go_wp2
  go_ret2
  refine⟨hQ4,fun h=>(by rw[HM.out]at h;cases h),fun C' h=>?_⟩
  rw[HM.out]at h
  cases h
  exact⟨_,rfl,by have:=Joins.ownsRow_le HR5.out hQ3.size;rw[List.length_map]at this;exact this⟩
def ztC(M:List (Rat × Nat)):Value:=match zaX (zhU M)with
 | none=>.tuple #[.int .i64 0,.int .i64 4]
 | some C=>zeM (zgj C)
theorem zid(L K:List (Rat × Nat))(sL:SList L)(sK:SList K)(hlen:L.length+K.length≤16)(hv2:∀ cs,zd5 (zhU (L++negL K))=some cs→cs.length≤2)
  (B1 B2:Nat)(v1 v2:Value)(w:World)(hE:Env w)(hP:zc3 w)(h1:zH w B1 v1 L)(h2:zH w B2 v2 K) :
  CR 40 #[v1,v2] w (ztC (L++negL K)):=by
 have HSUB:=LH (zlV L K sL sK hlen hv2 B1 B2 v1 v2 w hE h1 h2)
 obtain⟨a1,c1,rfl,-⟩:=h1.form
 obtain⟨a2,c2,rfl,-⟩:=h2.form
 have HPQ:Hid (∀ w',Q w w'→zc3 w'):=LH (fun w' hq=>hP.q hE hq)
 have hv2':∀ C,zaX (zhU (L++negL K))=some C→C.length≤2:=fun C h=>by
  unfold zaX at h
  cases hv:zd5 (zhU (L++negL K))with
  | none=>rw[hv]at h;cases h
  | some cs =>
   rw[hv]at h
   simp only[Option.bind_some]at h
   by_cases ha:(zex cs).all zbq=true
   ·rw[if_pos ha]at h
    cases h
    have:=ziw cs
    have:=hv2 cs hv
    omega
   ·rw[if_neg ha]at h;cases h
 clear h1 h2 sL sK hlen hv2 hP
 generalize L.length=n1 at *
 generalize K.length=n2 at *
 unfold ztC
 cases hm:zaX (zhU (L++negL K))with
 | none =>
  simp only
  have HS:Hid (CR 85 #[.slice a1 n1 c1,.slice a2 n2 c2] w (.tuple #[.slice none 0 0,.int .i64 4])):=LH (HSUB.out.mono (fun e w' h=>⟨h.2.1 hm,h.1⟩))
  clear HSUB hm
  go_enter Tryz.func40,Tryz.ntmps40
  go_wp2_with fail
  refine HS.out.mono ?_
  rintro e w1⟨rfl,hq1⟩
  go_wp2
  go_ret2
  exact⟨rfl,hq1⟩
 | some C =>
  simp only
  have HS:Hid (Calls Tryz.prog 85 #[.slice a1 n1 c1,.slice a2 n2 c2] w fun e w'=>∃ v',e=.returned (.tuple #[v',.int .i64 0])∧Q w w'∧zH w' w.heap.size v' (zgj C)):=LH (HSUB.out.mono (fun e w' h=>by
   obtain⟨v',h1,h2⟩:=h.2.2 C hm
   exact⟨v',h1,h.1,h2⟩))
  have hvs:∀ t∈zgj C,VS t:=fun t ht=>zl2 (zjl hm t (zot ht))
  have hl:(zgj C).length≤1000:=by
   have h4:=hv2' C hm
   rw[zoe];omega
  have hsg:=fun v w' (hw:Env w') hp hs=>zqb (zgj C) hvs hl v w' hw hp hs
  clear hvs HSUB hm hv2'
  unfold zeM at hsg ⊢
  cases hs:zqm (zgj C)with
  | none =>
   rw[hs]at hsg
   simp only at hsg
   have HSG:=LH hsg
   clear hsg hs
   simp only
   go_enter Tryz.func40,Tryz.ntmps40
   go_wp2_with fail
   refine HS.out.mono ?_
   rintro e w1⟨v5,rfl,hq1,hr5⟩
   have R5:=LH hr5.tsl
   obtain⟨a5,c5,rfl,-⟩:=hr5.form
   clear hr5
   generalize (zgj C).length=n5 at *
   go_wp2_with fail
   refine cx (HSG.out _ _ (hE.q hq1) (HPQ.out _ hq1) R5.out) fun w2 hq2=>?_
   have hQ2:=Q.trans hq1 hq2
   go_wp2
   go_ret2
   exact⟨rfl,hQ2⟩
  | some σ =>
   rw[hs]at hsg
   simp only at hsg
   have HSG:=LH hsg
   clear hsg hs
   simp only
   go_enter Tryz.func40,Tryz.ntmps40
   go_wp2_with fail
   refine HS.out.mono ?_
   rintro e w1⟨v5,rfl,hq1,hr5⟩
   have R5:=LH hr5.tsl
   obtain⟨a5,c5,rfl,-⟩:=hr5.form
   clear hr5
   generalize (zgj C).length=n5 at *
   go_wp2_with fail
   refine cx (HSG.out _ _ (hE.q hq1) (HPQ.out _ hq1) R5.out) fun w2 hq2=>?_
   have hQ2:=Q.trans hq1 hq2
   go_wp2
   go_ret2
   exact⟨rfl,hQ2⟩
end
section
open Go.RowKit Kp
theorem zlS{cs cs':List (Rat × Nat)}{c r:Rat}(hc:c≠0)(hr:r≠0)(h:zkR cs (c,r)=some cs'):cs'=zd6 cs (c*aOf r,leftOf r):=by
 unfold zkR at h
 rw[if_neg (by rintro(h | h);exact hc h;exact hr h)]at h
 split at h
 ·cases h
 ·split at h
  ·cases h
  ·split at h
   ·cases h
   ·exact(Option.some.inj h).symm
theorem ziH:∀ (n:Nat) (M:List (Rat × Nat)),M.length=n→(∀ c∈M,c.1≠0∧zeG c.2)→∀ cs,zd5 (zhU M)=some cs→cs=zm2 [] M
 | 0,M,hn,_,cs,h=>by
  obtain rfl:=List.length_eq_zero_iff.1 hn
  cases h
  rfl
 | n+1,M,hn,hM,cs,h=>by
  obtain⟨l,t,rfl⟩:∃ l t,M=l++[t]:=⟨M.dropLast,M.getLast (fun e=>by rw[e]at hn;cases hn),(List.dropLast_concat_getLast _).symm⟩
  have e:zhU (l++[t])=zhU l++[(t.1,(t.2:Rat))]:=by unfold zhU;rw[List.map_append];rfl
  rw[e,zeH]at h
  cases hv:zd5 (zhU l)with
  | none=>rw[hv]at h;cases h
  | some c0 =>
   rw[hv]at h
   have ih:=ziH n l (by simpa using hn) (fun x hx=>hM x (List.mem_append_left _ hx)) c0 hv
   obtain⟨h1,h2⟩:=hM t (by simp)
   have hs:=zlS h1 (nat_ne h2.1) h
   obtain⟨e1,e2⟩:=zpv h2
   rw[e1,e2,show t.1*1=t.1 by grind]at hs
   subst ih
   rw[hs]
   unfold zm2
   rw[List.foldl_append]
   rfl
theorem zsA{c t:Rat × Nat}{r:List (Rat × Nat)}(hp:0<c.2)(h:t.2=c.2):zd6 (c::r) t=(c.1+t.1,c.2)::r:=by
 have hs:=zrH hp
 have e:zc5 ((t.2:Rat) / (c.2:Rat))=true:=by rw[h];exact hs.1
 unfold zd6
 rw[if_pos e,if_neg (by omega)]
 unfold zgH
 rw[h,hs.2,show t.1*1=t.1 by grind]
theorem zmZ{c t:Rat × Nat}{r:List (Rat × Nat)}(h:¬ Sim t.2 c.2):zd6 (c::r) t=c::zd6 r t:=by
 exact if_neg (show ¬ zc5 ((t.2:Rat) / (c.2:Rat))=true from h)
theorem zjf{n:Nat}(h:zeG n)(hs:Sim n 1):n=1:=by
 unfold Sim zc5 at hs
 rw[show ((n:Rat) / ((1:Nat):Rat))=(n:Rat) by rw[show ((1:Nat):Rat)=1 from rfl];grind,Rat.num_natCast,Int.toNat_natCast]at hs
 simp only[Bool.and_eq_true,decide_eq_true_eq]at hs
 have h2:=h.2
 have h0:=h.1
 have hr:0<zq n:=by
  rcases Nat.eq_zero_or_pos (zq n)with e | e
  ·rw[e]at hs;omega
  ·exact e
 rw[← hs.1,zoo hr]at h2
 have:=congrArg Prod.snd h2
 simp only at this
 omega
theorem znN{n:Nat}(h:zeG n)(h1:n≠1):¬ Sim n 1∧¬ Sim 1 n:=⟨fun e=>h1 (zjf h e),fun e=>h1 (zjf h (zrG (by decide) h.1 e))⟩
theorem zri{M:List (Rat × Nat)}(h:∀ C,zaX (zhU M)=some C→C=[]):ztC M=.tuple #[.int .i64 0,.int .i64 4]∨ztC M=.tuple #[.int .i64 0,.int .i64 0]:=by
 unfold ztC
 cases hm:zaX (zhU M)with
 | none=>exact .inl rfl
 | some C =>
  rw[h C hm]
  exact .inr rfl
theorem zpA{M:List (Rat × Nat)}(hM:∀ c∈M,c.1≠0∧zeG c.2){C:List (Rat × Nat)}(h:zaX (zhU M)=some C):C=zex (zm2 [] M):=by
 unfold zaX at h
 cases hv:zd5 (zhU M)with
 | none=>rw[hv]at h;cases h
 | some cs =>
  rw[hv]at h
  simp only[Option.bind_some]at h
  by_cases ha:(zex cs).all zbq=true
  ·rw[if_pos ha]at h
   cases h
   rw[ziH _ M rfl hM cs hv]
  ·rw[if_neg ha]at h;cases h
end
end Go.Proofs.YthdpnkkddhcacaaGreatDoor
