/-
  surd.Make at terms of any numbers: what is too long.; surd's gatherer at terms of any numbers.
-/
import Derived.Test.YtapnkgdnflofbaaGreatDoorCH18
import Derived.Test.YtapnkgdnflofbaaGreatDoorCHSU2
set_option maxRecDepth 100000
set_option maxHeartbeats 4000000
namespace Go.Proofs.YtapnkgdnflofbaaGreatDoor
section
open Go.RowKit Kp
open Go.Lib (decDigits)
attribute [local go_sem] Oper.semAt_some
def r90(q:Rat):Bool:=decide ((decDigits q.num.natAbs).length≤90) && decide ((decDigits q.den).length≤90)
theorem zfA{q:Rat}(h:r90 q=true):zdo q:=by
 unfold r90 at h
 simp only[Bool.and_eq_true,decide_eq_true_eq]at h
 exact h
theorem ztv{q:Rat}(h:r90 q=false):(90:Int)<max ((zo (Lib.itoa q.num)).length:Int) ((Lib.itoa (q.den:Int)).length:Int):=by
 rw[zav,← zB]
 unfold r90 at h
 simp only[Bool.and_eq_false_iff,decide_eq_false_iff_not]at h
 omega
theorem zih(q:Rat)(h:zam q=false)(h9:r90 q=false)(v1 v2:Value)(w:World)(hE:Env w)(h1:zb2 w v1 [ze q]) :
  CR 213 #[v1,v2] w (.int .i64 4):=by
 obtain⟨b1,o1,cap1,rfl,hb1,hc1⟩:=h1
 have hcell:=hc1 0 (by simp)
 simp only[List.getD_cons_zero,Nat.add_zero]at hcell
 have lq1:=zU q.num (zx h).1
 have hlr:=zaA h
 have hck:=fun w hw=>zdu (ze q) (by omega) w hw
 rw[show zcg (ze q)=0 by rw[zb5,h];rfl]at hck
 have HCK:=LH hck
 have HO:=LH (fun w hw=>zgN q h w hw)
 have hx:=ztv h9
 have l1:([ze q].length:Int)=1:=rfl
 have HT:=LH (fun w=>zP (Lib.itoa q.num) w)
 have lu:(zo (Lib.itoa q.num)).length≤1000:=by rw[zav];have:=lq1;have:=zdk q.num;omega
 have ld:(Lib.itoa (q.den:Int)).length≤1000:=by have:=zU (q.den:Int) (zx h).2;omega
 clear hck h9 h hc1 hlr lq1
 generalize zo (Lib.itoa q.num)=U at *
 generalize Lib.itoa q.num=N at *
 generalize Lib.itoa (q.den:Int)=D at *
 generalize ze q=S at *
 have hm:decide ((90:Int)<max (U.length:Int) (D.length:Int))=true:=decide_eq_true hx
 rw[show [S].length=1 from rfl]
 go_enter Tryz.func213,Tryz.ntmps213
 go_wp2
 refine wp_loop_rounds 2 ?_
 simp only[rounds_succ]
 go_wp2_with fail
 refine cx (HCK.out _ hE) fun w1 hq1=>?_
 go_wp2_with fail
 refine cx (HO.out _ (hE.q hq1)) fun w2 hq2=>?_
 have hQ2:Q w w2:=Q.trans hq1 hq2
 go_wp2_with fail
 go_quiet ((go_at_call 155;exact zjH (HT.out _)))
 go_wp2
 go_ret
 exact⟨rfl,Below.drewN (hQ2.alloc hQ2.size _) _⟩
theorem zls(p q:Rat)(hp:Bd 90 p)(hq:Bd 90 q)(pp:0≤p.num)(pq:0<q.num)(w:World)(hE:Env w) :
  CR 165 #[.string ⟨(ze p).toArray⟩,.string ⟨(ze q).toArray⟩] w (.tuple #[.string ⟨(if ze9 (p / q)then ze (sqR (p / q))else []).toArray⟩,.bool (ze9 (p / q)),.int .i64 0]):=by
 have hz:(ze q == [48])=false:=by
  rw[beq_eq_false_iff_ne,← zaY];exact fun h=>by have:=zbt h;subst this;exact absurd pq (by decide)
 have bq:=hp.quot hq pq
 have hlq:zam (p / q)=false:=bq.zam (by decide)
 have HC:=fun v1 v2 w hw h1 h2=>ze2 [p,q] [p,q] (by intro x hx;rw[List.mem_cons,List.mem_singleton]at hx;rcases hx with rfl | rfl;exact hp.root90 (by decide);exact hq.root90 (by decide)) v1 v2 w hw h1 h2 (by simp) (by simp)
 rw[if_pos (by intro x hx;rw[List.mem_cons,List.mem_singleton]at hx;rcases hx with rfl | rfl <;> omega)]at HC
 have HC:=LH HC
 have HD:=LH (fun w hw=>zc1 p q hp hq (by omega) (by decide) w hw)
 have HO:=LH (fun w hw=>zgN (p / q) hlq w hw)
 have HR:=LH (fun w hw=>zmC (p / q) hlq (zmP pp pq) w hw)
 generalize (⟨(if ze9 (p / q)then ze (sqR (p / q))else []).toArray⟩:ByteArray)=A at *
 generalize ze9 (p / q)=b at *
 generalize ze (p / q)=PQ at *
 generalize Lib.itoa (p / q).num=N at *
 generalize Lib.itoa ((p / q).den:Int)=D at *
 clear hp hq pp pq bq hlq
 generalize hsp:ze p=P at *
 generalize hsq:ze q=S at *
 go_enter Tryz.func165,Tryz.ntmps165
 go_wp2_with fail
 have B1:=((Blk.new w [.string ⟨P.toArray⟩,.string ⟨S.toArray⟩] 30).alloc (.cells #[.string ⟨P.toArray⟩,.string ⟨S.toArray⟩] 30))
 have B2:=Blk.new (w.alloc (.cells #[.string ⟨P.toArray⟩,.string ⟨S.toArray⟩] 30)) [.string ⟨P.toArray⟩,.string ⟨S.toArray⟩] 30
 have S1:=zb2.two B1
 have S2:=zb2.two B2
 have e2:(w.alloc (.cells #[.string ⟨P.toArray⟩,.string ⟨S.toArray⟩] 30)).heap.size=w.heap.size+1:=by simp
 rw[e2]at S2
 clear e2 B2 B1
 simp only[List.map_cons,List.map_nil,hsp,hsq]at HC
 refine(HC.out _ _ _ (hE.q bt) S1 S2).mono ?_
 clear S1 S2
 rintro e w1⟨rfl,hq1⟩
 have hQ1:Q w w1:=Q.trans (show Below w.heap.size w _ from bt) hq1
 clear hq1
 go_wp2_with fail
 refine cx (HD.out _ (hE.q hQ1)) fun w2 hq2=>?_
 have hQ2:=Q.trans hQ1 hq2
 go_wp2_with fail
 refine cx (HO.out _ (hE.q hQ2)) fun w3 hq3=>?_
 have hQ3:=Q.trans hQ2 hq3
 go_wp2_with fail
 refine cx (HR.out _ (hE.q hQ3)) fun w4 hq4=>?_
 have hQ4:=Q.trans hQ3 hq4
 go_wp2
 go_ret3
 exact⟨rfl,hQ4⟩
theorem zf1(l m:Nat)(hl:0<l)(hl1:l<10 ^ 90)(hm:0<m)(hm1:m<10 ^ 90)(w:World)(hE:Env w) :
  CR 165 #[.string ⟨(Lib.itoa (m:Int)).toArray⟩,.string ⟨(Lib.itoa (l:Int)).toArray⟩] w (.tuple #[.string ⟨(if ze9 ((m:Rat) / (l:Rat))then ze (sqR ((m:Rat) / (l:Rat)))else []).toArray⟩,.bool (ze9 ((m:Rat) / (l:Rat))),.int .i64 0]):=by
 have hb:∀ n:Nat,n<10 ^ 90→Bd 90 (n:Rat):=fun n hn=>⟨by rw[Rat.num_natCast,Int.natAbs_natCast];exact hn,by rw[Rat.den_natCast];exact by decide⟩
 have h:=zls (m:Rat) (l:Rat) (hb m hm1) (hb l hl1) (by rw[Rat.num_natCast];omega) (by rw[Rat.num_natCast];omega) w hE
 rw[zbN,zbN]at h
 exact h
theorem zol{l m:Nat}(hl:0<l)(hl1:l<10 ^ 90)(hm1:m<10 ^ 90):Bd 45 (sqR ((m:Rat) / (l:Rat))):=ztr (n:=45) (zsz hl hl1 hm1)
def zit(lo hi:Rat × Nat):Bool:=mulL hi.1 (sqR ((hi.2:Rat) / (lo.2:Rat))) || zk7 lo.1 (hi.1*sqR ((hi.2:Rat) / (lo.2:Rat)))
def zj5:List (Rat × Nat)→Rat × Nat→Bool
 | [],_=>false
 | c::r,t=>if ze9 ((t.2:Rat) / (c.2:Rat))then(if t.2<c.2 then zit t c else zit c t)else zj5 r t
theorem zqW:∀ (cs:List (Rat × Nat)) (t:Rat × Nat) (k:Nat) (hk:k<cs.length),(∀ j (hj:j<k),ze9 ((t.2:Rat) / ((cs[j]'(by omega)).2:Rat))=false)→ze9 ((t.2:Rat) / ((cs[k]).2:Rat))=true →
  zj5 cs t=(if t.2<(cs[k]).2 then zit t cs[k]else zit cs[k] t)
 | [],_,_,hk,_,_=>absurd hk (by simp)
 | c::r,t,0,_,_,h=>by
  unfold zj5
  exact if_pos (show ze9 ((t.2:Rat) / (c.2:Rat))=true from h)
 | c::r,t,k+1,hk,h1,h=>by
  have h0:=h1 0 (by omega)
  simp only[List.getElem_cons_zero]at h0
  unfold zj5
  rw[if_neg (by rw[h0];decide),zqW r t k (by simpa using hk) (fun j hj=>by have:=h1 (j+1) (by omega);simpa using this) (by simpa using h)]
  rfl
theorem zn6:∀ (cs:List (Rat × Nat)) (t:Rat × Nat),(∀ j (hj:j<cs.length),ze9 ((t.2:Rat) / ((cs[j]).2:Rat))=false)→zj5 cs t=false
 | [],_,_=>rfl
 | c::r,t,h1=>by
  have h0:=h1 0 (by simp)
  simp only[List.getElem_cons_zero]at h0
  unfold zj5
  rw[if_neg (by rw[h0];decide),zn6 r t (fun j hj=>by have:=h1 (j+1) (by simp;omega);simpa using this)]
def CW(c:Rat × Nat):Prop:=zam c.1=false∧0<c.2∧c.2<10 ^ 90
theorem zrc{l m:Nat}(hl:0<l)(hl1:l<10 ^ 90)(hm1:m<10 ^ 90):zam (sqR ((m:Rat) / (l:Rat)))=false:=(zol hl hl1 hm1).zam (by decide)
theorem CW.plus{c h:Rat × Nat}(hc:CW c)(_hh:CW h)(he:zit c h=false):CW (zgU c h):=by
 unfold zit at he
 rw[Bool.or_eq_false_iff]at he
 exact⟨zpk he.2,hc.2.1,hc.2.2⟩
theorem CW.adds{t:Rat × Nat}(ht:CW t):∀ {cs:List (Rat × Nat)},(∀ c∈cs,CW c)→zj5 cs t=false→∀ d∈zgG cs t,CW d
 | [],_,_,d,hd=>by
  unfold zgG at hd
  rw[List.mem_singleton]at hd
  exact hd ▸ ht
 | c::r,h,he,d,hd=>by
  have hc:=h c (List.mem_cons_self ..)
  unfold zj5 at he
  unfold zgG at hd
  by_cases hs:ze9 ((t.2:Rat) / (c.2:Rat))=true
  ·rw[if_pos hs]at he hd
   rcases List.mem_cons.1 hd with rfl | hd
   ·by_cases hlt:t.2<c.2
    ·rw[if_pos hlt]at he ⊢;exact ht.plus hc he
    ·rw[if_neg hlt]at he ⊢;exact hc.plus ht he
   ·exact h d (List.mem_cons_of_mem _ hd)
  ·rw[if_neg hs]at he hd
   rcases List.mem_cons.1 hd with rfl | hd
   ·exact hc
   ·exact CW.adds ht (fun x hx=>h x (List.mem_cons_of_mem _ hx)) he d hd
def zfB(c h:Rat × Nat):Str × Str:=if zit c h=true then([],[])else ofC (zgU c h)
def zlE(c h:Rat × Nat):Int:=if zit c h=true then 4 else 0
theorem zfk(c h:Rat × Nat)(hc:CW c)(hh:CW h)(hq:ze9 ((h.2:Rat) / (c.2:Rat))=true)(w:World)(hE:Env w) :
  CR 166 #[.agg #[.string ⟨(ze c.1).toArray⟩,.string ⟨(Lib.itoa (c.2:Int)).toArray⟩],.agg #[.string ⟨(ze h.1).toArray⟩,.string ⟨(Lib.itoa (h.2:Int)).toArray⟩]] w (.tuple #[.agg #[.string ⟨(zfB c h).1.toArray⟩,.string ⟨(zfB c h).2.toArray⟩],.int .i64 (zlE c h)]):=by
 obtain⟨y,m⟩:=h
 obtain⟨x,l⟩:=c
 obtain⟨bx,hl,hl1⟩:=hc
 obtain⟨bY,hm,hm1⟩:=hh
 simp only at *
 have bk:=zrc hl hl1 hm1
 have hr:=fun w hw=>zf1 l m hl hl1 hm hm1 w hw
 rw[hq]at hr
 have HR:=LH hr
 unfold zfB zlE zit zgU ofC
 simp only
 generalize sqR ((m:Rat) / (l:Rat))=k at *
 clear hr hq
 simp only[if_true]at HR
 have hmv:=fun w hw=>zcI y k bY bk w hw
 unfold ztx at hmv
 cases hml:mulL y k with
 | true =>
  rw[hml,if_pos rfl]at hmv
  have HM:=LH hmv
  simp only[Bool.true_or,if_true]
  clear hmv hml bx bY bk hl hl1 hm hm1
  generalize hsk:ze k=K at *
  generalize ze x=X at *
  generalize ze y=Y at *
  generalize Lib.itoa (l:Int)=L at *
  generalize Lib.itoa (m:Int)=M at *
  obtain⟨W0,hW0⟩:∃ W0,((w.alloc (.cells [.string ⟨X.toArray⟩,.string ⟨L.toArray⟩].toArray 160)).alloc (.cells [.string ⟨Y.toArray⟩,.string ⟨M.toArray⟩].toArray 160)).alloc (.cells [.string ⟨#[]⟩,.string ⟨#[]⟩].toArray 160)=W0:=⟨_,rfl⟩
  have hQ0:Q w W0:=by rw[← hW0];exact(((Below.refl _ w).alloc (Nat.le_refl _) _).alloc (by simp) _).alloc (by simp;omega) _
  have C1:Blk W0 w.heap.size [.string ⟨X.toArray⟩,.string ⟨L.toArray⟩] 160:=by rw[← hW0];exact((Blk.new w _ _).alloc _).alloc _
  have C2:Blk W0 (w.heap.size+1) [.string ⟨Y.toArray⟩,.string ⟨M.toArray⟩] 160:=by
   have:=(Blk.new (w.alloc (.cells [.string ⟨X.toArray⟩,.string ⟨L.toArray⟩].toArray 160)) [.string ⟨Y.toArray⟩,.string ⟨M.toArray⟩] 160).alloc (.cells [.string ⟨#[]⟩,.string ⟨#[]⟩].toArray 160)
   rw[World.size_alloc,hW0]at this;exact this
  have C3:Blk W0 (w.heap.size+2) [.string ⟨#[]⟩,.string ⟨#[]⟩] 160:=by
   have:=Blk.new ((w.alloc (.cells [.string ⟨X.toArray⟩,.string ⟨L.toArray⟩].toArray 160)).alloc (.cells [.string ⟨Y.toArray⟩,.string ⟨M.toArray⟩].toArray 160)) [.string ⟨#[]⟩,.string ⟨#[]⟩] 160
   rw[World.size_alloc,World.size_alloc,hW0]at this;exact this
  have a1:=C1.cell 1
  have b1:=C2.cell 1
  simp only[zs4,zs5]at a1 b1
  go_enter Tryz.func166,Tryz.ntmps166
  go_wp2_with fail
  refine(HR.out _ (hE.q hQ0)).mono ?_
  clear a1 b1 hW0
  rintro e w1⟨rfl,hq1⟩
  have hQ1:=Q.trans hQ0 hq1
  have D1:=C1.keep hq1 C1.lt
  have D2:=C2.keep hq1 C2.lt
  have D3:=C3.keep hq1 C3.lt
  have b0:=D2.cell 0
  simp only[List.getElem?_cons_zero]at b0
  go_wp2_with fail
  refine(HM.out _ (hE.q hQ1)).mono ?_
  clear b0 C1 C2 C3
  rintro e w2⟨rfl,hq2⟩
  have hQ2:=Q.trans hQ1 hq2
  have C3:=D3.keep hq2 D3.lt
  have c0:=C3.cell
  have f0:=C3.frozen 0
  have f1:=C3.frozen 1
  have l3:=C3.lt
  go_wp2
  refine bodyPost_ret (v:=.tuple #[.agg #[.string ⟨#[]⟩,.string ⟨#[]⟩],.int .i64 4])
   (zkm _ _ (w.heap.size+2) _ _ _ rfl rfl (((C3.set 0 _).set 1 _).cell 0) (((C3.set 0 _).set 1 _).cell 1)) rfl ⟨rfl,?_⟩
  exact(hQ2.setCell (p:=⟨w.heap.size+2,0,none⟩) (by simp) _).setCell (p:=⟨w.heap.size+2,1,none⟩) (by simp) _
 | false =>
  rw[hml,if_neg (by decide)]at hmv
  have HM:=LH hmv
  have hav:=fun w hw=>zhH x (y*k) bx (zgi hml) w hw
  unfold zt3 at hav
  rw[Bool.false_or]
  cases hal:zk7 x (y*k)with
  | true =>
   rw[hal,if_pos rfl]at hav
   have HA:=LH hav
   simp only[if_true]
   clear hmv hml hal hav bx bY bk hl hl1 hm hm1
   generalize ze (y*k)=YK at *
   generalize hsk:ze k=K at *
   generalize ze x=X at *
   generalize ze y=Y at *
   generalize Lib.itoa (l:Int)=L at *
   generalize Lib.itoa (m:Int)=M at *
   obtain⟨W0,hW0⟩:∃ W0,((w.alloc (.cells [.string ⟨X.toArray⟩,.string ⟨L.toArray⟩].toArray 160)).alloc (.cells [.string ⟨Y.toArray⟩,.string ⟨M.toArray⟩].toArray 160)).alloc (.cells [.string ⟨#[]⟩,.string ⟨#[]⟩].toArray 160)=W0:=⟨_,rfl⟩
   have hQ0:Q w W0:=by rw[← hW0];exact(((Below.refl _ w).alloc (Nat.le_refl _) _).alloc (by simp) _).alloc (by simp;omega) _
   have C1:Blk W0 w.heap.size [.string ⟨X.toArray⟩,.string ⟨L.toArray⟩] 160:=by rw[← hW0];exact((Blk.new w _ _).alloc _).alloc _
   have C2:Blk W0 (w.heap.size+1) [.string ⟨Y.toArray⟩,.string ⟨M.toArray⟩] 160:=by
    have:=(Blk.new (w.alloc (.cells [.string ⟨X.toArray⟩,.string ⟨L.toArray⟩].toArray 160)) [.string ⟨Y.toArray⟩,.string ⟨M.toArray⟩] 160).alloc (.cells [.string ⟨#[]⟩,.string ⟨#[]⟩].toArray 160)
    rw[World.size_alloc,hW0]at this;exact this
   have C3:Blk W0 (w.heap.size+2) [.string ⟨#[]⟩,.string ⟨#[]⟩] 160:=by
    have:=Blk.new ((w.alloc (.cells [.string ⟨X.toArray⟩,.string ⟨L.toArray⟩].toArray 160)).alloc (.cells [.string ⟨Y.toArray⟩,.string ⟨M.toArray⟩].toArray 160)) [.string ⟨#[]⟩,.string ⟨#[]⟩] 160
    rw[World.size_alloc,World.size_alloc,hW0]at this;exact this
   have a1:=C1.cell 1
   have b1:=C2.cell 1
   simp only[zs4,zs5]at a1 b1
   go_enter Tryz.func166,Tryz.ntmps166
   go_wp2_with fail
   refine(HR.out _ (hE.q hQ0)).mono ?_
   clear a1 b1 hW0
   rintro e w1⟨rfl,hq1⟩
   have hQ1:=Q.trans hQ0 hq1
   have D1:=C1.keep hq1 C1.lt
   have D2:=C2.keep hq1 C2.lt
   have D3:=C3.keep hq1 C3.lt
   have b0:=D2.cell 0
   simp only[List.getElem?_cons_zero]at b0
   go_wp2_with fail
   refine(HM.out _ (hE.q hQ1)).mono ?_
   clear b0 C1 C2 C3
   rintro e w2⟨rfl,hq2⟩
   have hQ2:=Q.trans hQ1 hq2
   have C1:=D1.keep hq2 D1.lt
   have C3:=D3.keep hq2 D3.lt
   have a0:=C1.cell 0
   simp only[List.getElem?_cons_zero]at a0
   go_wp2_with fail
   refine(HA.out _ (hE.q hQ2)).mono ?_
   clear a0 D1 D2 D3
   rintro e w3⟨rfl,hq3⟩
   have hQ3:=Q.trans hQ2 hq3
   have D1:=C1.keep hq3 C1.lt
   have D3:=C3.keep hq3 C3.lt
   have a1:=D1.cell 1
   have c0:=D3.cell
   have f0:=D3.frozen 0
   have f1:=D3.frozen 1
   have l3:=D3.lt
   try simp only[zs4,zs5]at a1
   go_wp2
   refine bodyPost_ret (v:=.tuple #[.agg #[.string ⟨#[]⟩,.string ⟨#[]⟩],.int .i64 4])
    (zkm _ _ (w.heap.size+2) _ _ _ rfl rfl (((D3.set 0 _).set 1 _).cell 0) (((D3.set 0 _).set 1 _).cell 1)) rfl ⟨rfl,?_⟩
   exact(hQ3.setCell (p:=⟨w.heap.size+2,0,none⟩) (by simp) _).setCell (p:=⟨w.heap.size+2,1,none⟩) (by simp) _
  | false =>
   rw[hal,if_neg (by decide)]at hav
   have HA:=LH hav
   rw[if_neg (by decide),if_neg (by decide)]
   clear hmv hml hal hav bx bY bk hl hl1 hm hm1
   generalize ze (x+y*k)=R at *
   generalize ze (y*k)=YK at *
   generalize hsk:ze k=K at *
   generalize ze x=X at *
   generalize ze y=Y at *
   generalize Lib.itoa (l:Int)=L at *
   generalize Lib.itoa (m:Int)=M at *
   obtain⟨W0,hW0⟩:∃ W0,((w.alloc (.cells [.string ⟨X.toArray⟩,.string ⟨L.toArray⟩].toArray 160)).alloc (.cells [.string ⟨Y.toArray⟩,.string ⟨M.toArray⟩].toArray 160)).alloc (.cells [.string ⟨#[]⟩,.string ⟨#[]⟩].toArray 160)=W0:=⟨_,rfl⟩
   have hQ0:Q w W0:=by rw[← hW0];exact(((Below.refl _ w).alloc (Nat.le_refl _) _).alloc (by simp) _).alloc (by simp;omega) _
   have C1:Blk W0 w.heap.size [.string ⟨X.toArray⟩,.string ⟨L.toArray⟩] 160:=by rw[← hW0];exact((Blk.new w _ _).alloc _).alloc _
   have C2:Blk W0 (w.heap.size+1) [.string ⟨Y.toArray⟩,.string ⟨M.toArray⟩] 160:=by
    have:=(Blk.new (w.alloc (.cells [.string ⟨X.toArray⟩,.string ⟨L.toArray⟩].toArray 160)) [.string ⟨Y.toArray⟩,.string ⟨M.toArray⟩] 160).alloc (.cells [.string ⟨#[]⟩,.string ⟨#[]⟩].toArray 160)
    rw[World.size_alloc,hW0]at this;exact this
   have C3:Blk W0 (w.heap.size+2) [.string ⟨#[]⟩,.string ⟨#[]⟩] 160:=by
    have:=Blk.new ((w.alloc (.cells [.string ⟨X.toArray⟩,.string ⟨L.toArray⟩].toArray 160)).alloc (.cells [.string ⟨Y.toArray⟩,.string ⟨M.toArray⟩].toArray 160)) [.string ⟨#[]⟩,.string ⟨#[]⟩] 160
    rw[World.size_alloc,World.size_alloc,hW0]at this;exact this
   have a1:=C1.cell 1
   have b1:=C2.cell 1
   simp only[zs4,zs5]at a1 b1
   go_enter Tryz.func166,Tryz.ntmps166
   go_wp2_with fail
   refine(HR.out _ (hE.q hQ0)).mono ?_
   clear a1 b1 hW0
   rintro e w1⟨rfl,hq1⟩
   have hQ1:=Q.trans hQ0 hq1
   have D1:=C1.keep hq1 C1.lt
   have D2:=C2.keep hq1 C2.lt
   have D3:=C3.keep hq1 C3.lt
   have b0:=D2.cell 0
   simp only[List.getElem?_cons_zero]at b0
   go_wp2_with fail
   refine(HM.out _ (hE.q hQ1)).mono ?_
   clear b0 C1 C2 C3
   rintro e w2⟨rfl,hq2⟩
   have hQ2:=Q.trans hQ1 hq2
   have C1:=D1.keep hq2 D1.lt
   have C3:=D3.keep hq2 D3.lt
   have a0:=C1.cell 0
   simp only[List.getElem?_cons_zero]at a0
   go_wp2_with fail
   refine(HA.out _ (hE.q hQ2)).mono ?_
   clear a0 D1 D2 D3
   rintro e w3⟨rfl,hq3⟩
   have hQ3:=Q.trans hQ2 hq3
   have D1:=C1.keep hq3 C1.lt
   have D3:=C3.keep hq3 C3.lt
   have a1:=D1.cell 1
   have c0:=D3.cell
   have f0:=D3.frozen 0
   have f1:=D3.frozen 1
   have l3:=D3.lt
   try simp only[zs4,zs5]at a1
   go_wp2
   refine bodyPost_ret (v:=.tuple #[.agg #[.string ⟨R.toArray⟩,.string ⟨L.toArray⟩],.int .i64 0])
    (zkm _ _ (w.heap.size+2) _ _ _ rfl rfl (((D3.set 0 _).set 1 _).cell 0) (((D3.set 0 _).set 1 _).cell 1)) rfl ⟨rfl,?_⟩
   exact(hQ3.setCell (p:=⟨w.heap.size+2,0,none⟩) (by simp) _).setCell (p:=⟨w.heap.size+2,1,none⟩) (by simp) _
end
section
open Go.RowKit Kp
attribute [local go_sem] Oper.semAt_some
theorem zlX{n:Nat}(h:n<10 ^ 90):lim (n:Int)=false:=zbw (n:=90) (by rw[Int.natAbs_natCast];exact h) (by decide)
def zq3(cs:List (Rat × Nat))(t:Rat × Nat):Int:=if zj5 cs t=true then 4 else 0
theorem zeT(cs:List (Rat × Nat))(t:Rat × Nat)(hcs:∀ c∈cs,CW c)(ht:CW t)(hne:cs≠[])(hlen:cs.length≤1000)(G:Nat)(w:World)(hE:Env w)(_hng:ng≤G)(hg:znq w G cs) :
  Calls Tryz.prog 98 #[.pointer (some ⟨G,0,none⟩),.agg #[.string ⟨(ze t.1).toArray⟩,.string ⟨(Lib.itoa (t.2:Int)).toArray⟩]] w fun e w'=>e=.returned (.int .i64 (zq3 cs t))∧Below G w w'∧(zj5 cs t=false→znq w' G (zgG cs t)):=by
 obtain⟨v,hG,-,hrow⟩:=hg
 have hl:(cs.map ofC).length=cs.length:=List.length_map _
 have hpos:0<cs.length:=List.length_pos_iff.2 hne
 obtain⟨g,cap,rfl,hg1,hg2⟩:=hrow.form (by omega)
 have HROW:=LH hrow
 have lG:=hG.lt
 rw[hl]at hrow hG
 obtain⟨x,l⟩:=t
 obtain⟨W1,hW1⟩:∃ W1,w.alloc (.cells [.string ⟨(ze x).toArray⟩,.string ⟨(Lib.itoa (l:Int)).toArray⟩].toArray 60)=W1:=⟨_,rfl⟩
 have T1:Blk W1 w.heap.size [.string ⟨(ze x).toArray⟩,.string ⟨(Lib.itoa (l:Int)).toArray⟩] 60:=by rw[← hW1];exact Blk.new w _ _
 have hQ1:Q w W1:=by rw[← hW1];exact(Below.refl _ w).alloc (Nat.le_refl _) _
 have hG1:=hG.keep hQ1 lG
 have g0:=hG1.cell 0
 have lG1:=hG1.lt
 simp only[List.getElem?_cons_zero]at g0
 simp only at ht ⊢
 have hn:(cs.length:Int)≤1000:=by omega
 have HCS:=LH hcs
 clear hcs hne HROW hl
 go_enter Tryz.func98,Tryz.ntmps98
 go_wp2
 clear hW1
 go_loopw [19] (fun i wr=>∃ k:Nat,k≤cs.length∧i=.int .i64 k∧Q W1 wr∧Hid (∀ j (hj:j<cs.length),j<k→ze9 ((l:Rat) / ((cs[j]).2:Rat))=false)) (fun i _=>cs.length - (intOf i).toNat)
 case atStart=>exact⟨0,by omega,rfl,Q.refl _,LH (fun j _ h=>absurd h (by omega))⟩
 case round =>
  obtain⟨k,hk,rfl,hQ,HNO⟩:=hrel
  by_cases hlt:k<cs.length
  ·have hrr:=zi (zi hrow hQ1) hQ
   have hQw:=Q.trans hQ1 hQ
   have e0:=hrr.cellAt (k*2) (by omega)
   have e1:=hrr.cellAt (k*2+1) (by omega)
   have hk2:k<(cs.map ofC).length:=by rw[List.length_map];exact hlt
   have GET:=LH (zfY (cs.map ofC) k hk2)
   rw[(GET.out).1]at e0
   rw[(GET.out).2]at e1
   have hget:(cs.map ofC).getD k ([],[])=ofC cs[k]:=by rw[List.getD_eq_getElem?_getD,List.getElem?_map,List.getElem?_eq_getElem hlt];rfl
   rw[hget]at e0 e1 GET
   have hcb:=HCS.out cs[k] (List.getElem_mem hlt)
   have HAT:Hid (ze9 ((l:Rat) / ((cs[k]).2:Rat))=true→zgG cs (x,l)=cs.set k (if l<(cs[k]).2 then zgU (x,l) cs[k]else zgU cs[k] (x,l))):=LH (fun h=>zqX cs (x,l) k hlt (fun j hj=>HNO.out j (by omega) hj) h)
   have HAE:Hid (ze9 ((l:Rat) / ((cs[k]).2:Rat))=true→zj5 cs (x,l)=(if l<(cs[k]).2 then zit (x,l) cs[k]else zit cs[k] (x,l))):=LH (fun h=>zqW cs (x,l) k hlt (fun j hj=>HNO.out j (by omega) hj) h)
   have HNO2:Hid (ze9 ((l:Rat) / ((cs[k]).2:Rat))=false→∀ j (hj:j<cs.length),j<k+1→ze9 ((l:Rat) / ((cs[j]).2:Rat))=false):=LH (fun h j hj hjk=>by
    rcases Nat.lt_or_ge j k with h1 | h1
    ·exact HNO.out j hj h1
    ·obtain rfl:j=k:=by omega
     exact h)
   have HRW:Hid (w.ownsRow (G+1) 160 2 (.slice (some ⟨g,0,none⟩) cs.length cap) cs.length (zeo (cs.map ofC))):=LH hrow
   have HK:Hid (k+1≤cs.length):=LH hlt
   clear hget hrr HNO hk2
   generalize cs[k]=c at *
   obtain⟨y,m⟩:=c
   simp only[ofC]at e0 e1 GET HAT HNO2 HAE
   have hcbm:=hcb
   have htl:=ht
   obtain⟨-,hm0,hm1⟩:=hcb
   obtain⟨-,hl0,hl1⟩:=ht
   simp only at hm0 hm1 hl0 hl1
   have hra:=fun w hw=>zf1 m l hm0 hm1 hl0 hl1 w hw
   have HCMP:=LH (fun w hw=>zcL l m (zlX hl1) (zlX hm1) w hw)
   have L0:=Blk.new wr [.string ⟨(ze y).toArray⟩,.string ⟨(Lib.itoa (m:Int)).toArray⟩] 160
   have hqa:=hQ.alloc hQ.size (Obj.cells [.string ⟨(ze y).toArray⟩,.string ⟨(Lib.itoa (m:Int)).toArray⟩].toArray 160)
   have hqb:=Q.trans hQ1 hqa
   have t1:=(T1.keep hQ T1.lt).cell 1
   have lTr:=(T1.keep hQ T1.lt).lt
   simp only[zs4,zs5]at t1
   cases hsq:ze9 ((l:Rat) / (m:Rat))with
   | false =>
    have HX:=LH (HNO2.out hsq)
    rw[hsq]at hra
    have HRA:=LH hra
    clear hra hsq HNO2 HAT HCMP HAE
    go_wp2_with fail
    refine cx (HRA.out _ (hE.q hqb)) fun w2 hq2=>?_
    have hQ2:=Q.trans hqa hq2
    clear e0 e1 t1
    go_wp2
    go_roundw
    case rel=>exact⟨k+1,HK.out,by go_num,hQ2,LH HX.out⟩
    case measure=>simp[intOf];omega
   | true =>
    have HADD:=LH (HAT.out hsq)
    have HADE:=LH (HAE.out hsq)
    have hinv:=znS hm0 hl0 hsq
    rw[hsq]at hra
    have HRA:=LH hra
    have HPL1:=LH (fun w hw=>zfk (x,l) (y,m) htl hcbm hinv w hw)
    have HPL2:=LH (fun w hw=>zfk (y,m) (x,l) hcbm htl hsq w hw)
    clear hra hsq HNO2 HAT hinv hcbm htl HAE
    by_cases hlm:l<m
    ·have hc1:Lib.compareInt (l:Int) (m:Int) = -1:=by unfold Lib.compareInt;rw[if_pos (by omega)]
     rw[hc1]at HCMP
     have SETS:Hid (zj5 cs (x,l)=false→zeo ((zgG cs (x,l)).map ofC)=((zeo (cs.map ofC)).set (k*2) (.string ⟨(zfB (x,l) (y,m)).1.toArray⟩)).set (k*2+1) (.string ⟨(zfB (x,l) (y,m)).2.toArray⟩)∧(zgG cs (x,l)).length=cs.length):=LH (fun hne=>by
      rw[HADE.out,if_pos hlm]at hne
      have hs:zfB (x,l) (y,m)=ofC (zgU (x,l) (y,m)):=by unfold zfB;rw[if_neg (by rw[hne];decide)]
      rw[hs]
      rw[HADD.out,if_pos hlm,List.map_set,← zkj _ k (ofC (zgU (x,l) (y,m))),List.length_set];exact⟨rfl,rfl⟩)
     clear hc1 HPL2 HADD hl0 hl1 hm0 hm1
     have HERR:Hid (zq3 cs (x,l)=zlE (x,l) (y,m)):=LH (by unfold zq3 zlE;rw[HADE.out,if_pos hlm])
     generalize zlE (x,l) (y,m)=PI at *
     clear hlm HADE
     generalize (zfB (x,l) (y,m)).1=PR at *
     generalize (zfB (x,l) (y,m)).2=PM at *
     generalize Lib.itoa (l:Int)=L at *
     generalize Lib.itoa (m:Int)=M at *
     generalize ze x=X at *
     generalize ze y=Y at *
     go_wp2_with fail
     refine cx (HRA.out _ (hE.q hqb)) fun w2 hq2=>?_
     have hQ2:=Q.trans hqa hq2
     have T2:=(T1.keep hQ2 T1.lt)
     have L2:=L0.keep hq2 L0.lt
     clear e0 e1 t1
     have t0:=T2.cell 0
     have t1:=T2.cell 1
     have lT2:=T2.lt
     have lL2:=L2.lt
     have d1:=L2.cell 1
     simp only[zs4,zs5]at t0 t1 d1
     have H0:=Blk.new w2 [.string ⟨X.toArray⟩,.string ⟨L.toArray⟩] 160
     have hqh:=hQ2.alloc hQ2.size (Obj.cells [.string ⟨X.toArray⟩,.string ⟨L.toArray⟩].toArray 160)
     go_wp2_with fail
     refine cx (HCMP.out _ (hE.q (Q.trans hQ1 hqh))) fun w3 hq3=>?_
     have hQ3:Q w w3:=Q.trans hQ1 (Q.trans hqh hq3)
     have L3:=(L2.alloc (Obj.cells [.string ⟨X.toArray⟩,.string ⟨L.toArray⟩].toArray 160)).keep hq3 (by simp;omega)
     have H3:=H0.keep hq3 H0.lt
     clear t0 t1 d1 T2 L2
     have a0:=L3.cell
     have b0:=H3.cell
     have fa0:=L3.frozen 0
     have fa1:=L3.frozen 1
     have fb0:=H3.frozen 0
     have fb1:=H3.frozen 1
     have lL3:=L3.lt
     have lH3:=H3.lt
     have hne1:wr.heap.size≠w2.heap.size:=by omega
     have hsw:w.heap.size≤wr.heap.size:=hQw.size
     have hsw2:w.heap.size≤w2.heap.size:=by omega
     have hQ3':Q w ((((w3.setCell ⟨wr.heap.size,0,none⟩ (.string ⟨X.toArray⟩)).setCell ⟨wr.heap.size,1,none⟩ (.string ⟨L.toArray⟩)).setCell ⟨w2.heap.size,0,none⟩ (.string ⟨Y.toArray⟩)).setCell ⟨w2.heap.size,1,none⟩ (.string ⟨M.toArray⟩)) :=
      (((hQ3.setCell (p:=⟨wr.heap.size,0,none⟩) hsw _).setCell (p:=⟨wr.heap.size,1,none⟩) hsw _).setCell (p:=⟨w2.heap.size,0,none⟩) hsw2 _).setCell (p:=⟨w2.heap.size,1,none⟩) hsw2 _
     go_wp2_with fail
     refine cx (HPL1.out _ (hE.q hQ3')) fun w4 hq4=>?_
     have hQ4:=Q.trans hQ3' hq4
     have S0:=Blk.new w4 [.string ⟨PR.toArray⟩,.string ⟨PM.toArray⟩] 160
     have hQ5:Q w (w4.alloc (.cells [.string ⟨PR.toArray⟩,.string ⟨PM.toArray⟩].toArray 160)):=hQ4.alloc hQ4.size _
     have s0:=S0.drew.cell 0
     have s1:=S0.drew.cell 1
     have G5:=(hG.keep hQ5 lG).drew
     have g5:=G5.cell 0
     have lS:=S0.lt
     have lG5:=G5.lt
     simp only[zs4,zs5]at s0 s1 g5
     go_wp2_with fail
     refine zn 7 rfl (by kernel_rfl) rfl ?_
     refine svp 0 ?_
     refine svp 1 ?_
     refine svp 2 ?_
     refine svq 3 rfl (by intro w' hq;have hc0:=za hq g5;go_simp;try with_reducible rfl) ?_
     refine svp 4 ?_
     refine svq 5 rfl (by intro w' hq;have hc0:=za hq s0;have hc1:=za hq s1;go_simp;try with_reducible rfl) ?_
     refine svp 6 ?_
     refine zh (by kernel_rfl) (fun w6 hq6=>?_)
     simp only[List.drop_succ_cons,List.drop_zero]
     have hQ6:Q w w6:=Below.trans (Below.drew hQ5) (hq6.mono hQ5.size)
     have hr6:=zi HRW.out hQ6
     have f0:=hr6.frozenAt (k*2)
     have f1:=hr6.frozenAt (k*2+1)
     have q0:=hr6.cellAt (k*2) (by omega)
     have q1:=hr6.cellAt (k*2+1) (by omega)
     rw[(GET.out).1]at q0
     rw[(GET.out).2]at q1
     have hG6:=hG.keep hQ6 lG
     have HDONE:=LH (fun hne=>zn5 (p:=(PR,PM)) (k:=k) hG6 hr6 (SETS.out hne) (fun e=>by have:=(SETS.out hne).2;rw[e]at this;simp at this;omega) (by omega))
     have hB6:Below G w w6:=hQ6.mono (Nat.le_of_lt lG)
     have HB7:Hid (Below G w ((w6.setCell ⟨g,k*2,none⟩ (.string ⟨PR.toArray⟩)).setCell ⟨g,k*2+1,none⟩ (.string ⟨PM.toArray⟩))):=LH ((hB6.setCell (p:=⟨g,k*2,none⟩) (show G≤g by omega) _).setCell (p:=⟨g,k*2+1,none⟩) (show G≤g by omega) _)
     clear hr6 hG6 hB6 hQ6 hQ5 S0 G5 g5 s0 s1
     go_wp2
     go_ret
     exact⟨by have h:=HERR.out;subst h;rfl,HB7.out,HDONE.out⟩
    ·have hc1:¬ Lib.compareInt (l:Int) (m:Int)<0:=by unfold Lib.compareInt;rw[if_neg (by omega)];split <;> decide
     have SETS:Hid (zj5 cs (x,l)=false→zeo ((zgG cs (x,l)).map ofC)=((zeo (cs.map ofC)).set (k*2) (.string ⟨(zfB (y,m) (x,l)).1.toArray⟩)).set (k*2+1) (.string ⟨(zfB (y,m) (x,l)).2.toArray⟩)∧(zgG cs (x,l)).length=cs.length):=LH (fun hne=>by
      rw[HADE.out,if_neg hlm]at hne
      have hs:zfB (y,m) (x,l)=ofC (zgU (y,m) (x,l)):=by unfold zfB;rw[if_neg (by rw[hne];decide)]
      rw[hs]
      rw[HADD.out,if_neg hlm,List.map_set,← zkj _ k (ofC (zgU (y,m) (x,l))),List.length_set];exact⟨rfl,rfl⟩)
     clear HPL1 HADD hl0 hl1 hm0 hm1
     have HERR:Hid (zq3 cs (x,l)=zlE (y,m) (x,l)):=LH (by unfold zq3 zlE;rw[HADE.out,if_neg hlm])
     generalize zlE (y,m) (x,l)=PI at *
     clear hlm HADE
     generalize (zfB (y,m) (x,l)).1=PR at *
     generalize (zfB (y,m) (x,l)).2=PM at *
     generalize Lib.compareInt (l:Int) (m:Int)=cc at *
     generalize Lib.itoa (l:Int)=L at *
     generalize Lib.itoa (m:Int)=M at *
     generalize ze x=X at *
     generalize ze y=Y at *
     go_wp2_with fail
     refine cx (HRA.out _ (hE.q hqb)) fun w2 hq2=>?_
     have hQ2:=Q.trans hqa hq2
     have T2:=(T1.keep hQ2 T1.lt)
     have L2:=L0.keep hq2 L0.lt
     clear e0 e1 t1
     have t0:=T2.cell 0
     have t1:=T2.cell 1
     have lT2:=T2.lt
     have lL2:=L2.lt
     have d1:=L2.cell 1
     simp only[zs4,zs5]at t0 t1 d1
     have H0:=Blk.new w2 [.string ⟨X.toArray⟩,.string ⟨L.toArray⟩] 160
     have hqh:=hQ2.alloc hQ2.size (Obj.cells [.string ⟨X.toArray⟩,.string ⟨L.toArray⟩].toArray 160)
     go_wp2_with fail
     refine cx (HCMP.out _ (hE.q (Q.trans hQ1 hqh))) fun w3 hq3=>?_
     have hQ3':Q w w3:=Q.trans hQ1 (Q.trans hqh hq3)
     have L3:=(L2.alloc (Obj.cells [.string ⟨X.toArray⟩,.string ⟨L.toArray⟩].toArray 160)).keep hq3 (by simp;omega)
     have H3:=H0.keep hq3 H0.lt
     clear t0 t1 d1 T2 L2
     have a0:=L3.cell
     have b0:=H3.cell
     have lL3:=L3.lt
     have lH3:=H3.lt
     go_wp2_with fail
     refine cx (HPL2.out _ (hE.q hQ3')) fun w4 hq4=>?_
     have hQ4:=Q.trans hQ3' hq4
     have S0:=Blk.new w4 [.string ⟨PR.toArray⟩,.string ⟨PM.toArray⟩] 160
     have hQ5:Q w (w4.alloc (.cells [.string ⟨PR.toArray⟩,.string ⟨PM.toArray⟩].toArray 160)):=hQ4.alloc hQ4.size _
     have s0:=S0.drew.cell 0
     have s1:=S0.drew.cell 1
     have G5:=(hG.keep hQ5 lG).drew
     have g5:=G5.cell 0
     have lS:=S0.lt
     have lG5:=G5.lt
     simp only[zs4,zs5]at s0 s1 g5
     go_wp2_with fail
     refine zn 7 rfl (by kernel_rfl) rfl ?_
     refine svp 0 ?_
     refine svp 1 ?_
     refine svp 2 ?_
     refine svq 3 rfl (by intro w' hq;have hc0:=za hq g5;go_simp;try with_reducible rfl) ?_
     refine svp 4 ?_
     refine svq 5 rfl (by intro w' hq;have hc0:=za hq s0;have hc1:=za hq s1;go_simp;try with_reducible rfl) ?_
     refine svp 6 ?_
     refine zh (by kernel_rfl) (fun w6 hq6=>?_)
     simp only[List.drop_succ_cons,List.drop_zero]
     have hQ6:Q w w6:=Below.trans (Below.drew hQ5) (hq6.mono hQ5.size)
     have hr6:=zi HRW.out hQ6
     have f0:=hr6.frozenAt (k*2)
     have f1:=hr6.frozenAt (k*2+1)
     have q0:=hr6.cellAt (k*2) (by omega)
     have q1:=hr6.cellAt (k*2+1) (by omega)
     rw[(GET.out).1]at q0
     rw[(GET.out).2]at q1
     have hG6:=hG.keep hQ6 lG
     have HDONE:=LH (fun hne=>zn5 (p:=(PR,PM)) (k:=k) hG6 hr6 (SETS.out hne) (fun e=>by have:=(SETS.out hne).2;rw[e]at this;simp at this;omega) (by omega))
     have hB6:Below G w w6:=hQ6.mono (Nat.le_of_lt lG)
     have HB7:Hid (Below G w ((w6.setCell ⟨g,k*2,none⟩ (.string ⟨PR.toArray⟩)).setCell ⟨g,k*2+1,none⟩ (.string ⟨PM.toArray⟩))):=LH ((hB6.setCell (p:=⟨g,k*2,none⟩) (show G≤g by omega) _).setCell (p:=⟨g,k*2+1,none⟩) (show G≤g by omega) _)
     clear hr6 hG6 hB6 hQ6 hQ5 S0 G5 g5 s0 s1
     go_wp2
     go_ret
     exact⟨by have h:=HERR.out;subst h;rfl,HB7.out,HDONE.out⟩
  ·obtain rfl:k=cs.length:=by omega
   have HNEW:Hid (zgG cs (x,l)=cs++[(x,l)]):=LH (zn7 cs (x,l) (fun j hj=>HNO.out j hj hj))
   have HA0:Hid (zq3 cs (x,l)=0):=LH (by unfold zq3;rw[zn6 cs (x,l) (fun j hj=>HNO.out j hj hj)];rfl)
   have hQw:=Q.trans hQ1 hQ
   have T2:=T1.keep hQ T1.lt
   have G2:=hG1.keep hQ hG1.lt
   have hrr:=zi (zi hrow hQ1) hQ
   have HRX:Hid (zeo ((zgG cs (x,l)).map ofC)=zeo (cs.map ofC)++[.string ⟨(ze x).toArray⟩,.string ⟨(Lib.itoa (l:Int)).toArray⟩]∧(zgG cs (x,l)).length=cs.length+1):=LH (by
    rw[HNEW.out,List.map_append,znG,List.length_append];exact⟨rfl,rfl⟩)
   have HNE:Hid (zgG cs (x,l)≠[]):=LH (by rw[HNEW.out];simp)
   obtain⟨i0,hi,hz0,hz1,hz2⟩:=zbU zma
   have HI:=LH hi
   have HZ:=LH hz0
   have HS:=LH hz1
   have HB:=LH hz2
   clear hi hz0 hz1 hz2 HNO HNEW ht HCS
   generalize zeo (cs.map ofC)=xs at *
   generalize Lib.itoa (l:Int)=L at *
   generalize ze x=X at *
   have g0r:=G2.cell 0
   have t0r:=T2.cell 0
   have t1r:=T2.cell 1
   have kf:=G2.frozen 0
   have lG2:=G2.lt
   have lT2:=T2.lt
   have hGT:G≠w.heap.size:=by omega
   have hGg:G≠g:=by omega
   have hTg:w.heap.size≠g:=by omega
   have hnew:=Blk.new wr [.string ⟨X.toArray⟩,.string ⟨L.toArray⟩] 160
   have G3:=G2.alloc (Obj.cells #[.string ⟨X.toArray⟩,.string ⟨L.toArray⟩] 160)
   have T3:=T2.alloc (Obj.cells #[.string ⟨X.toArray⟩,.string ⟨L.toArray⟩] 160)
   have k02:=G3.cell 0
   have d02:=T3.cell 0
   have d12:=T3.cell 1
   have kf2:=G3.frozen 0
   have hlG:G<(wr.alloc (Obj.cells #[.string ⟨X.toArray⟩,.string ⟨L.toArray⟩] 160)).drew.heap.size:=by simp;omega
   have hlT:w.heap.size<(wr.alloc (Obj.cells #[.string ⟨X.toArray⟩,.string ⟨L.toArray⟩] 160)).drew.heap.size:=by simp;omega
   have hown0:=(hrr.alloc (Obj.cells #[.string ⟨X.toArray⟩,.string ⟨L.toArray⟩] 160)).drew
   simp only[zs4,zs5]at g0r t0r t1r k02 d02 d12
   have hB2:Below G w (wr.alloc (Obj.cells #[.string ⟨X.toArray⟩,.string ⟨L.toArray⟩] 160)).drew:=((hQw.mono (Nat.le_of_lt lG)).alloc (by omega) _).drew
   have HG3:=LH G3
   have HGW:Hid (G+1≤wr.heap.size):=LH lG2
   clear G3 T3 G2 T2 hG hG1 hrow hrr hQ hQ1 T1 hE
   go_wp2_with fail
   go_region_law
    (first | (refine step_append_lies _ (by rfl) (.tmp 73) (.tmp 79) 154 (by rfl) (G+1) 160 i0 _ 2 32 Tryz.underlying154 HI.out HZ.out HS.out HB.out rfl (by decide) (.slice (some ⟨g,0,none⟩) cs.length cap) cs.length xs (by rfl) hown0 ⟨wr.heap.size,0,none⟩ 1 1 [.string ⟨X.toArray⟩,.string ⟨L.toArray⟩] (by rfl) (by rfl) (World.news_of_block (cs:=#[.string ⟨X.toArray⟩,.string ⟨L.toArray⟩]) (t:=160) (fr:=(0,0)) hnew) (by simp[Value.oneCell']) (by decide) (by unfold maxLen;omega) (by omega) (by simp;have:=HGW.out;omega) (wr.heap.size+1) (by simp) ?_;intro g4 cap4 w1 hown hgrow hat hlt4;have hh:=znf (w1:=w1) (T:=w.heap.size) (x:=.string ⟨X.toArray⟩) (y:=.string ⟨L.toArray⟩) hgrow hlG hlT hGT hGg hTg k02 d02 d12 kf2;have c1:=hh.1;have fz:=zqt hh.2))
   all_goals go_wp2
   all_goals go_ret
   all_goals
    have haw:=zpj HG3.out hgrow hown hB2 hlG (by omega) HRX.out HNE.out
    exact⟨by rw[HA0.out];all_goals rfl,haw.1,fun _=>haw.2⟩
theorem zem(cs:List (Rat × Nat))(t:Rat × Nat)(hcs:∀ c∈cs,CW c)(ht:CW t)(hlen:cs.length≤1000)(G:Nat)(w:World)(hE:Env w)(hng:ng≤G)(hg:znq w G cs) :
  Calls Tryz.prog 98 #[.pointer (some ⟨G,0,none⟩),.agg #[.string ⟨(ze t.1).toArray⟩,.string ⟨(Lib.itoa (t.2:Int)).toArray⟩]] w fun e w'=>e=.returned (.int .i64 (zq3 cs t))∧Below G w w'∧(zj5 cs t=false→znq w' G (zgG cs t)):=by
 by_cases h:cs=[]
 ·subst h
  obtain⟨v,hG,hv,-⟩:=hg
  obtain rfl:=hv rfl
  refine(zgv G _ _ w hG).mono ?_
  rintro e w'⟨he,hb,v,h1,h2⟩
  exact⟨he,hb,fun _=>⟨v,h1,(fun e=>by simp[zgG]at e),h2⟩⟩
 ·exact zeT cs t hcs ht h hlen G w hE hng hg
theorem zii(q:Rat)(h:zam q=false)(h9:r90 q=false)(w:World)(hE:Env w) :
  CR 159 #[.string ⟨(ze q).toArray⟩] w (.tuple #[.string ⟨#[]⟩,.string ⟨#[]⟩,.int .i64 4]):=by
 have HC:=LH (fun v1 v2 w hw h1=>zih q h h9 v1 v2 w hw h1)
 clear h h9
 generalize ze q=S at *
 go_enter Tryz.func159,Tryz.ntmps159
 go_wp2_with fail
 have B1:=((Blk.new w [.string ⟨S.toArray⟩] 30).alloc (.cells #[.string ⟨S.toArray⟩] 30))
 refine cx (HC.out _ _ _ (hE.q bt) (zb2.one B1)) fun w1 hq1=>?_
 have hQ1:Q w w1:=Q.trans (show Below w.heap.size w _ from bt) hq1
 go_wp2
 go_ret3
 exact⟨rfl,hQ1⟩
def zmu(cs:List (Rat × Nat))(t:Rat × Rat):Option (List (Rat × Nat)) :=
 if t.1=0∨t.2=0 then some cs
 else if (r90 t.2 && decide (za6 (leftOf t.2:Rat)≤90))=false then none
 else if mulL t.1 (aOf t.2)=true then none
 else if zj5 cs (t.1*aOf t.2,leftOf t.2)=true then none
 else some (zgG cs (t.1*aOf t.2,leftOf t.2))
def zhz(ts:List (Rat × Rat)):Option (List (Rat × Nat)):=ts.foldl (fun o t=>o.bind fun cs=>zmu cs t) (some [])
theorem zhY(ts:List (Rat × Rat))(t:Rat × Rat):zhz (ts++[t])=(zhz ts).bind fun cs=>zmu cs t:=by unfold zhz;rw[List.foldl_append];rfl
theorem zpo(a b:List (Rat × Rat))(h:zhz a=none):zhz (a++b)=none:=by
 have key:∀ b:List (Rat × Rat),b.foldl (fun(o:Option (List (Rat × Nat))) t=>o.bind fun cs=>zmu cs t) none=none:=by
  intro b
  induction b with
  | nil=>rfl
  | cons t r ih=>exact ih
 unfold zhz at h ⊢
 rw[List.foldl_append,h,key]
theorem zpn{ts:List (Rat × Rat)}{k:Nat}(hk:k<ts.length){cs:List (Rat × Nat)}(h:zhz (ts.take k)=some cs)(hs:zmu cs ts[k]=none):zhz ts=none:=by
 have h1:zhz (ts.take (k+1))=none:=by rw[List.take_succ_eq_append_getElem hk,zhY,h];exact hs
 have:=zpo _ (ts.drop (k+1)) h1
 rwa[List.take_append_drop]at this
theorem zsp{ts:List (Rat × Rat)}{k:Nat}(hk:k<ts.length){cs cs':List (Rat × Nat)}(h:zhz (ts.take k)=some cs)(hs:zmu cs ts[k]=some cs'):zhz (ts.take (k+1))=some cs':=by
 rw[List.take_succ_eq_append_getElem hk,zhY,h];exact hs
structure TW (t:Rat × Rat):Prop where
 c:zam t.1=false
 r:zam t.2=false
 p:0≤t.2.num
theorem zfs{q:Rat}(_h:zdo q)(hp:0<q.num):0<leftOf q:=(znP hp).1
theorem zn9{q:Rat}(h:zdo q)(hp:0<q.num):zam (aOf q)=false:=by
 have h1:q.num.natAbs<10 ^ 90:=(zm _ 90 (by decide)).1 h.1
 have h2:q.den<10 ^ 90:=(zm _ 90 (by decide)).1 h.2
 exact(zsl (n:=90) ⟨h1,h2⟩ hp).zam (by decide)
theorem ziH{l:Nat}(h:za6 (l:Rat)≤90):l<10 ^ 90:=by
 unfold za6 at h
 rw[Rat.num_natCast,zav,Int.natAbs_natCast]at h
 exact(zm _ 90 (by decide)).1 (by omega)
theorem zso{cs cs':List (Rat × Nat)}{t:Rat × Rat}(hc:∀ c∈cs,CW c)(ht:TW t)(h:zmu cs t=some cs'):(∀ c∈cs',CW c)∧cs'.length≤cs.length+1:=by
 unfold zmu at h
 by_cases h0:t.1=0∨t.2=0
 ·rw[if_pos h0]at h
  cases h
  exact⟨hc,by omega⟩
 rw[if_neg h0]at h
 cases h1:(r90 t.2 && decide (za6 (leftOf t.2:Rat)≤90))with
 | false=>rw[h1,if_pos rfl]at h;cases h
 | true =>
  rw[h1,if_neg (by decide)]at h
  cases h2:mulL t.1 (aOf t.2)with
  | true=>rw[h2,if_pos rfl]at h;cases h
  | false =>
   rw[h2,if_neg (by decide)]at h
   cases h3:zj5 cs (t.1*aOf t.2,leftOf t.2)with
   | true=>rw[h3,if_pos rfl]at h;cases h
   | false =>
    rw[h3,if_neg (by decide)]at h
    cases h
    simp only[Bool.and_eq_true,decide_eq_true_eq]at h1
    have hp:0<t.2.num:=by
     have:=ht.p
     have h5:t.2.num≠0:=fun e=>h0 (.inr (Rat.num_eq_zero.1 e))
     omega
    have hw:CW (t.1*aOf t.2,leftOf t.2):=⟨zgi h2,zfs (zfA h1.1) hp,ziH h1.2⟩
    exact⟨hw.adds hc h3,zn8 _ _⟩
theorem zmv:∀ (n:Nat) {ts:List (Rat × Rat)} {cs:List (Rat × Nat)},ts.length=n→(∀ t∈ts,TW t)→zhz ts=some cs→(∀ c∈cs,CW c)∧cs.length≤ts.length
 | 0,ts,cs,hn,_,h=>by
  obtain rfl:=List.length_eq_zero_iff.1 hn
  cases h
  exact⟨fun c hc=>absurd hc List.not_mem_nil,Nat.le_refl _⟩
 | n+1,ts,cs,hn,ht,h=>by
  obtain⟨l,t,rfl⟩:∃ l t,ts=l++[t]:=⟨ts.dropLast,ts.getLast (fun e=>by rw[e]at hn;cases hn),(List.dropLast_concat_getLast _).symm⟩
  rw[zhY]at h
  cases hv:zhz l with
  | none=>rw[hv]at h;cases h
  | some c0 =>
   rw[hv]at h
   have ih:=zmv n (by simpa using hn) (fun x hx=>ht x (List.mem_append_left _ hx)) hv
   have hs:=zso ih.1 (ht t (by simp)) h
   exact⟨hs.1,by rw[List.length_append];have:=ih.2;have:=hs.2;simp;omega⟩
def ztm(ts:List (Rat × Rat)):Int:=if (zhz ts).isSome=true then 0 else 4
theorem zfm{ts:List (Rat × Rat)}(h:zhz ts=none):ztm ts=4:=by unfold ztm;rw[h];rfl
theorem znt{ts:List (Rat × Rat)}{cs:List (Rat × Nat)}(h:zhz ts=some cs):ztm ts=0:=by unfold ztm;rw[h];rfl
end
end Go.Proofs.YtapnkgdnflofbaaGreatDoor
