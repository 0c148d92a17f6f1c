/-
  surd.Make at terms of any numbers: what is too long.; surd's gatherer at terms of any numbers.
-/
import Derived.Test.YtdecodpgdainiaaGreatDoorH16
import Derived.Test.YtdecodpgdainiaaGreatDoorHSU2
set_option maxRecDepth 100000
set_option maxHeartbeats 4000000
namespace Go.Proofs.YtdecodpgdainiaaGreatDoor
section
open Go.RowKit Kp
open Go.Lib (decDigits)
attribute [local go_sem] Oper.semAt_some
def r90(q:Rat):Bool:=decide ((decDigits q.num.natAbs).length≤90) && decide ((decDigits q.den).length≤90)
theorem zfZ{q:Rat}(h:r90 q=true):zej q:=by
 unfold r90 at h
 simp only[Bool.and_eq_true,decide_eq_true_eq]at h
 exact h
theorem zt9{q:Rat}(h:r90 q=false):(90:Int)<max ((zo (Lib.itoa q.num)).length:Int) ((Lib.itoa (q.den:Int)).length:Int):=by
 rw[zaa,← zL]
 unfold r90 at h
 simp only[Bool.and_eq_false_iff,decide_eq_false_iff_not]at h
 omega
theorem ziY(q:Rat)(h:zak q=false)(h9:r90 q=false)(v1 v2:Value)(w:World)(hE:Env w)(h1:zca w v1 [za q]) :
  CR 99 #[v1,v2] w (.int .i64 4):=by
 obtain⟨b1,o1,cap1,rfl,hb1,hc1⟩:=h1
 have hcell:=hc1 0 (by simp)
 simp only[List.getD_cons_zero,Nat.add_zero]at hcell
 have lq1:=zV q.num (zw h).1
 have hlr:=zaQ h
 have hck:=fun w hw=>zbz (za q) (by omega) w hw
 rw[show zcL (za q)=0 by rw[zeZ,h];rfl]at hck
 have HCK:=LH hck
 have HO:=LH (fun w hw=>zhq q h w hw)
 have hx:=zt9 h9
 have l1:([za q].length:Int)=1:=rfl
 have HT:=LH (fun w=>zH (Lib.itoa q.num) w)
 have lu:(zo (Lib.itoa q.num)).length≤1000:=by rw[zaa];have:=lq1;have:=zfe q.num;omega
 have ld:(Lib.itoa (q.den:Int)).length≤1000:=by have:=zV (q.den:Int) (zw h).2;omega
 clear hck h9 h hc1 hlr lq1
 generalize zo (Lib.itoa q.num)=U at *
 generalize Lib.itoa q.num=N at *
 generalize Lib.itoa (q.den:Int)=D at *
 generalize za q=S at *
 have hm:decide ((90:Int)<max (U.length:Int) (D.length:Int))=true:=decide_eq_true hx
 rw[show [S].length=1 from rfl]
 go_enter Tryz.func99,Tryz.ntmps99
 go_wp2
 refine wp_loop_rounds 2 ?_
 simp only[rounds_succ]
 go_wp2_with fail
 refine cx (HCK.out _ hE) fun w1 hq1=>?_
 go_wp2_with fail
 refine cx (HO.out _ (hE.q hq1)) fun w2 hq2=>?_
 have hQ2:Q w w2:=Q.trans hq1 hq2
 go_wp2_with fail
 go_quiet ((go_at_call 50;exact zhx (HT.out _)))
 go_wp2
 go_ret
 exact⟨rfl,Below.drewN (hQ2.alloc hQ2.size _) _⟩
theorem zml(p q:Rat)(hp:Bd 90 p)(hq:Bd 90 q)(pp:0≤p.num)(pq:0<q.num)(w:World)(hE:Env w) :
  CR 67 #[.string ⟨(za p).toArray⟩,.string ⟨(za q).toArray⟩] w (.tuple #[.string ⟨(if zc1 (p / q)then za (sqR (p / q))else []).toArray⟩,.bool (zc1 (p / q)),.int .i64 0]):=by
 have hz:(za q == [48])=false:=by
  rw[beq_eq_false_iff_ne,← zav];exact fun h=>by have:=zaR h;subst this;exact absurd pq (by decide)
 have bq:=hp.quot hq pq
 have hlq:zak (p / q)=false:=bq.zak (by decide)
 have HC:=fun v1 v2 w hw h1 h2=>zfu [p,q] [p,q] (by intro x hx;rw[List.mem_cons,List.mem_singleton]at hx;rcases hx with rfl | rfl;exact hp.root90 (by decide);exact hq.root90 (by decide)) v1 v2 w hw h1 h2 (by simp) (by simp)
 rw[if_pos (by intro x hx;rw[List.mem_cons,List.mem_singleton]at hx;rcases hx with rfl | rfl <;> omega)]at HC
 have HC:=LH HC
 have HD:=LH (fun w hw=>zbi p q hp hq (by omega) (by decide) w hw)
 have HO:=LH (fun w hw=>zhq (p / q) hlq w hw)
 have HR:=LH (fun w hw=>ziX (p / q) hlq (zi8 pp pq) w hw)
 generalize (⟨(if zc1 (p / q)then za (sqR (p / q))else []).toArray⟩:ByteArray)=A at *
 generalize zc1 (p / q)=b at *
 generalize za (p / q)=PQ at *
 generalize Lib.itoa (p / q).num=N at *
 generalize Lib.itoa ((p / q).den:Int)=D at *
 clear hp hq pp pq bq hlq
 generalize hsp:za p=P at *
 generalize hsq:za q=S at *
 go_enter Tryz.func67,Tryz.ntmps67
 go_wp2_with fail
 have B1:=((Blk.new w [.string ⟨P.toArray⟩,.string ⟨S.toArray⟩] 22).alloc (.cells #[.string ⟨P.toArray⟩,.string ⟨S.toArray⟩] 22))
 have B2:=Blk.new (w.alloc (.cells #[.string ⟨P.toArray⟩,.string ⟨S.toArray⟩] 22)) [.string ⟨P.toArray⟩,.string ⟨S.toArray⟩] 22
 have S1:=zca.two B1
 have S2:=zca.two B2
 have e2:(w.alloc (.cells #[.string ⟨P.toArray⟩,.string ⟨S.toArray⟩] 22)).heap.size=w.heap.size+1:=by simp
 rw[e2]at S2
 clear e2 B2 B1
 simp only[List.map_cons,List.map_nil,hsp,hsq]at HC
 refine(HC.out _ _ _ (hE.q bt) S1 S2).mono ?_
 clear S1 S2
 rintro e w1⟨rfl,hq1⟩
 have hQ1:Q w w1:=Q.trans (show Below w.heap.size w _ from bt) hq1
 clear hq1
 go_wp2_with fail
 refine cx (HD.out _ (hE.q hQ1)) fun w2 hq2=>?_
 have hQ2:=Q.trans hQ1 hq2
 go_wp2_with fail
 refine cx (HO.out _ (hE.q hQ2)) fun w3 hq3=>?_
 have hQ3:=Q.trans hQ2 hq3
 go_wp2_with fail
 refine cx (HR.out _ (hE.q hQ3)) fun w4 hq4=>?_
 have hQ4:=Q.trans hQ3 hq4
 go_wp2
 go_ret3
 exact⟨rfl,hQ4⟩
theorem zgE(l m:Nat)(hl:0<l)(hl1:l<10 ^ 90)(hm:0<m)(hm1:m<10 ^ 90)(w:World)(hE:Env w) :
  CR 67 #[.string ⟨(Lib.itoa (m:Int)).toArray⟩,.string ⟨(Lib.itoa (l:Int)).toArray⟩] w (.tuple #[.string ⟨(if zc1 ((m:Rat) / (l:Rat))then za (sqR ((m:Rat) / (l:Rat)))else []).toArray⟩,.bool (zc1 ((m:Rat) / (l:Rat))),.int .i64 0]):=by
 have hb:∀ n:Nat,n<10 ^ 90→Bd 90 (n:Rat):=fun n hn=>⟨by rw[Rat.num_natCast,Int.natAbs_natCast];exact hn,by rw[Rat.den_natCast];exact by decide⟩
 have h:=zml (m:Rat) (l:Rat) (hb m hm1) (hb l hl1) (by rw[Rat.num_natCast];omega) (by rw[Rat.num_natCast];omega) w hE
 rw[zbf,zbf]at h
 exact h
theorem zoR{l m:Nat}(hl:0<l)(hl1:l<10 ^ 90)(hm1:m<10 ^ 90):Bd 45 (sqR ((m:Rat) / (l:Rat))):=zt4 (n:=45) (zti hl hl1 hm1)
def zja(lo hi:Rat × Nat):Bool:=mulL hi.1 (sqR ((hi.2:Rat) / (lo.2:Rat))) || zlY lo.1 (hi.1*sqR ((hi.2:Rat) / (lo.2:Rat)))
def zkQ:List (Rat × Nat)→Rat × Nat→Bool
 | [],_=>false
 | c::r,t=>if zc1 ((t.2:Rat) / (c.2:Rat))then(if t.2<c.2 then zja t c else zja c t)else zkQ r t
theorem zrp:∀ (cs:List (Rat × Nat)) (t:Rat × Nat) (k:Nat) (hk:k<cs.length),(∀ j (hj:j<k),zc1 ((t.2:Rat) / ((cs[j]'(by omega)).2:Rat))=false)→zc1 ((t.2:Rat) / ((cs[k]).2:Rat))=true →
  zkQ cs t=(if t.2<(cs[k]).2 then zja t cs[k]else zja cs[k] t)
 | [],_,_,hk,_,_=>absurd hk (by simp)
 | c::r,t,0,_,_,h=>by
  unfold zkQ
  exact if_pos (show zc1 ((t.2:Rat) / (c.2:Rat))=true from h)
 | c::r,t,k+1,hk,h1,h=>by
  have h0:=h1 0 (by omega)
  simp only[List.getElem_cons_zero]at h0
  unfold zkQ
  rw[if_neg (by rw[h0];decide),zrp r t k (by simpa using hk) (fun j hj=>by have:=h1 (j+1) (by omega);simpa using this) (by simpa using h)]
  rfl
theorem zoy:∀ (cs:List (Rat × Nat)) (t:Rat × Nat),(∀ j (hj:j<cs.length),zc1 ((t.2:Rat) / ((cs[j]).2:Rat))=false)→zkQ cs t=false
 | [],_,_=>rfl
 | c::r,t,h1=>by
  have h0:=h1 0 (by simp)
  simp only[List.getElem_cons_zero]at h0
  unfold zkQ
  rw[if_neg (by rw[h0];decide),zoy r t (fun j hj=>by have:=h1 (j+1) (by simp;omega);simpa using this)]
def CW(c:Rat × Nat):Prop:=zak c.1=false∧0<c.2∧c.2<10 ^ 90
theorem zrC{l m:Nat}(hl:0<l)(hl1:l<10 ^ 90)(hm1:m<10 ^ 90):zak (sqR ((m:Rat) / (l:Rat)))=false:=(zoR hl hl1 hm1).zak (by decide)
theorem CW.plus{c h:Rat × Nat}(hc:CW c)(_hh:CW h)(he:zja c h=false):CW (zf1 c h):=by
 unfold zja at he
 rw[Bool.or_eq_false_iff]at he
 exact⟨zpR he.2,hc.2.1,hc.2.2⟩
theorem CW.adds{t:Rat × Nat}(ht:CW t):∀ {cs:List (Rat × Nat)},(∀ c∈cs,CW c)→zkQ cs t=false→∀ d∈zdb cs t,CW d
 | [],_,_,d,hd=>by
  unfold zdb at hd
  rw[List.mem_singleton]at hd
  exact hd ▸ ht
 | c::r,h,he,d,hd=>by
  have hc:=h c (List.mem_cons_self ..)
  unfold zkQ at he
  unfold zdb at hd
  by_cases hs:zc1 ((t.2:Rat) / (c.2:Rat))=true
  ·rw[if_pos hs]at he hd
   rcases List.mem_cons.1 hd with rfl | hd
   ·by_cases hlt:t.2<c.2
    ·rw[if_pos hlt]at he ⊢;exact ht.plus hc he
    ·rw[if_neg hlt]at he ⊢;exact hc.plus ht he
   ·exact h d (List.mem_cons_of_mem _ hd)
  ·rw[if_neg hs]at he hd
   rcases List.mem_cons.1 hd with rfl | hd
   ·exact hc
   ·exact CW.adds ht (fun x hx=>h x (List.mem_cons_of_mem _ hx)) he d hd
def zf0(c h:Rat × Nat):Str × Str:=if zja c h=true then([],[])else ofC (zf1 c h)
def zmq(c h:Rat × Nat):Int:=if zja c h=true then 4 else 0
theorem zfK(c h:Rat × Nat)(hc:CW c)(hh:CW h)(hq:zc1 ((h.2:Rat) / (c.2:Rat))=true)(w:World)(hE:Env w) :
  CR 68 #[.agg #[.string ⟨(za c.1).toArray⟩,.string ⟨(Lib.itoa (c.2:Int)).toArray⟩],.agg #[.string ⟨(za h.1).toArray⟩,.string ⟨(Lib.itoa (h.2:Int)).toArray⟩]] w (.tuple #[.agg #[.string ⟨(zf0 c h).1.toArray⟩,.string ⟨(zf0 c h).2.toArray⟩],.int .i64 (zmq c h)]):=by
 obtain⟨y,m⟩:=h
 obtain⟨x,l⟩:=c
 obtain⟨bx,hl,hl1⟩:=hc
 obtain⟨bY,hm,hm1⟩:=hh
 simp only at *
 have bk:=zrC hl hl1 hm1
 have hr:=fun w hw=>zgE l m hl hl1 hm hm1 w hw
 rw[hq]at hr
 have HR:=LH hr
 unfold zf0 zmq zja zf1 ofC
 simp only
 generalize sqR ((m:Rat) / (l:Rat))=k at *
 clear hr hq
 simp only[if_true]at HR
 have hmv:=fun w hw=>zcX y k bY bk w hw
 unfold zue at hmv
 cases hml:mulL y k with
 | true =>
  rw[hml,if_pos rfl]at hmv
  have HM:=LH hmv
  simp only[Bool.true_or,if_true]
  clear hmv hml bx bY bk hl hl1 hm hm1
  generalize hsk:za k=K at *
  generalize za x=X at *
  generalize za y=Y at *
  generalize Lib.itoa (l:Int)=L at *
  generalize Lib.itoa (m:Int)=M at *
  obtain⟨W0,hW0⟩:∃ W0,((w.alloc (.cells [.string ⟨X.toArray⟩,.string ⟨L.toArray⟩].toArray 79)).alloc (.cells [.string ⟨Y.toArray⟩,.string ⟨M.toArray⟩].toArray 79)).alloc (.cells [.string ⟨#[]⟩,.string ⟨#[]⟩].toArray 79)=W0:=⟨_,rfl⟩
  have hQ0:Q w W0:=by rw[← hW0];exact(((Below.refl _ w).alloc (Nat.le_refl _) _).alloc (by simp) _).alloc (by simp;omega) _
  have C1:Blk W0 w.heap.size [.string ⟨X.toArray⟩,.string ⟨L.toArray⟩] 79:=by rw[← hW0];exact((Blk.new w _ _).alloc _).alloc _
  have C2:Blk W0 (w.heap.size+1) [.string ⟨Y.toArray⟩,.string ⟨M.toArray⟩] 79:=by
   have:=(Blk.new (w.alloc (.cells [.string ⟨X.toArray⟩,.string ⟨L.toArray⟩].toArray 79)) [.string ⟨Y.toArray⟩,.string ⟨M.toArray⟩] 79).alloc (.cells [.string ⟨#[]⟩,.string ⟨#[]⟩].toArray 79)
   rw[World.size_alloc,hW0]at this;exact this
  have C3:Blk W0 (w.heap.size+2) [.string ⟨#[]⟩,.string ⟨#[]⟩] 79:=by
   have:=Blk.new ((w.alloc (.cells [.string ⟨X.toArray⟩,.string ⟨L.toArray⟩].toArray 79)).alloc (.cells [.string ⟨Y.toArray⟩,.string ⟨M.toArray⟩].toArray 79)) [.string ⟨#[]⟩,.string ⟨#[]⟩] 79
   rw[World.size_alloc,World.size_alloc,hW0]at this;exact this
  have a1:=C1.cell 1
  have b1:=C2.cell 1
  simp only[zs4,zs5]at a1 b1
  go_enter Tryz.func68,Tryz.ntmps68
  go_wp2_with fail
  refine(HR.out _ (hE.q hQ0)).mono ?_
  clear a1 b1 hW0
  rintro e w1⟨rfl,hq1⟩
  have hQ1:=Q.trans hQ0 hq1
  have D1:=C1.keep hq1 C1.lt
  have D2:=C2.keep hq1 C2.lt
  have D3:=C3.keep hq1 C3.lt
  have b0:=D2.cell 0
  simp only[List.getElem?_cons_zero]at b0
  go_wp2_with fail
  refine(HM.out _ (hE.q hQ1)).mono ?_
  clear b0 C1 C2 C3
  rintro e w2⟨rfl,hq2⟩
  have hQ2:=Q.trans hQ1 hq2
  have C3:=D3.keep hq2 D3.lt
  have c0:=C3.cell
  have f0:=C3.frozen 0
  have f1:=C3.frozen 1
  have l3:=C3.lt
  go_wp2
  refine bodyPost_ret (v:=.tuple #[.agg #[.string ⟨#[]⟩,.string ⟨#[]⟩],.int .i64 4])
   (zk9 _ _ (w.heap.size+2) _ _ _ rfl rfl (((C3.set 0 _).set 1 _).cell 0) (((C3.set 0 _).set 1 _).cell 1)) rfl ⟨rfl,?_⟩
  exact(hQ2.setCell (p:=⟨w.heap.size+2,0,none⟩) (by simp) _).setCell (p:=⟨w.heap.size+2,1,none⟩) (by simp) _
 | false =>
  rw[hml,if_neg (by decide)]at hmv
  have HM:=LH hmv
  have hav:=fun w hw=>zio x (y*k) bx (zgU hml) w hw
  unfold zuF at hav
  rw[Bool.false_or]
  cases hal:zlY x (y*k)with
  | true =>
   rw[hal,if_pos rfl]at hav
   have HA:=LH hav
   simp only[if_true]
   clear hmv hml hal hav bx bY bk hl hl1 hm hm1
   generalize za (y*k)=YK at *
   generalize hsk:za k=K at *
   generalize za x=X at *
   generalize za y=Y at *
   generalize Lib.itoa (l:Int)=L at *
   generalize Lib.itoa (m:Int)=M at *
   obtain⟨W0,hW0⟩:∃ W0,((w.alloc (.cells [.string ⟨X.toArray⟩,.string ⟨L.toArray⟩].toArray 79)).alloc (.cells [.string ⟨Y.toArray⟩,.string ⟨M.toArray⟩].toArray 79)).alloc (.cells [.string ⟨#[]⟩,.string ⟨#[]⟩].toArray 79)=W0:=⟨_,rfl⟩
   have hQ0:Q w W0:=by rw[← hW0];exact(((Below.refl _ w).alloc (Nat.le_refl _) _).alloc (by simp) _).alloc (by simp;omega) _
   have C1:Blk W0 w.heap.size [.string ⟨X.toArray⟩,.string ⟨L.toArray⟩] 79:=by rw[← hW0];exact((Blk.new w _ _).alloc _).alloc _
   have C2:Blk W0 (w.heap.size+1) [.string ⟨Y.toArray⟩,.string ⟨M.toArray⟩] 79:=by
    have:=(Blk.new (w.alloc (.cells [.string ⟨X.toArray⟩,.string ⟨L.toArray⟩].toArray 79)) [.string ⟨Y.toArray⟩,.string ⟨M.toArray⟩] 79).alloc (.cells [.string ⟨#[]⟩,.string ⟨#[]⟩].toArray 79)
    rw[World.size_alloc,hW0]at this;exact this
   have C3:Blk W0 (w.heap.size+2) [.string ⟨#[]⟩,.string ⟨#[]⟩] 79:=by
    have:=Blk.new ((w.alloc (.cells [.string ⟨X.toArray⟩,.string ⟨L.toArray⟩].toArray 79)).alloc (.cells [.string ⟨Y.toArray⟩,.string ⟨M.toArray⟩].toArray 79)) [.string ⟨#[]⟩,.string ⟨#[]⟩] 79
    rw[World.size_alloc,World.size_alloc,hW0]at this;exact this
   have a1:=C1.cell 1
   have b1:=C2.cell 1
   simp only[zs4,zs5]at a1 b1
   go_enter Tryz.func68,Tryz.ntmps68
   go_wp2_with fail
   refine(HR.out _ (hE.q hQ0)).mono ?_
   clear a1 b1 hW0
   rintro e w1⟨rfl,hq1⟩
   have hQ1:=Q.trans hQ0 hq1
   have D1:=C1.keep hq1 C1.lt
   have D2:=C2.keep hq1 C2.lt
   have D3:=C3.keep hq1 C3.lt
   have b0:=D2.cell 0
   simp only[List.getElem?_cons_zero]at b0
   go_wp2_with fail
   refine(HM.out _ (hE.q hQ1)).mono ?_
   clear b0 C1 C2 C3
   rintro e w2⟨rfl,hq2⟩
   have hQ2:=Q.trans hQ1 hq2
   have C1:=D1.keep hq2 D1.lt
   have C3:=D3.keep hq2 D3.lt
   have a0:=C1.cell 0
   simp only[List.getElem?_cons_zero]at a0
   go_wp2_with fail
   refine(HA.out _ (hE.q hQ2)).mono ?_
   clear a0 D1 D2 D3
   rintro e w3⟨rfl,hq3⟩
   have hQ3:=Q.trans hQ2 hq3
   have D1:=C1.keep hq3 C1.lt
   have D3:=C3.keep hq3 C3.lt
   have a1:=D1.cell 1
   have c0:=D3.cell
   have f0:=D3.frozen 0
   have f1:=D3.frozen 1
   have l3:=D3.lt
   try simp only[zs4,zs5]at a1
   go_wp2
   refine bodyPost_ret (v:=.tuple #[.agg #[.string ⟨#[]⟩,.string ⟨#[]⟩],.int .i64 4])
    (zk9 _ _ (w.heap.size+2) _ _ _ rfl rfl (((D3.set 0 _).set 1 _).cell 0) (((D3.set 0 _).set 1 _).cell 1)) rfl ⟨rfl,?_⟩
   exact(hQ3.setCell (p:=⟨w.heap.size+2,0,none⟩) (by simp) _).setCell (p:=⟨w.heap.size+2,1,none⟩) (by simp) _
  | false =>
   rw[hal,if_neg (by decide)]at hav
   have HA:=LH hav
   rw[if_neg (by decide),if_neg (by decide)]
   clear hmv hml hal hav bx bY bk hl hl1 hm hm1
   generalize za (x+y*k)=R at *
   generalize za (y*k)=YK at *
   generalize hsk:za k=K at *
   generalize za x=X at *
   generalize za y=Y at *
   generalize Lib.itoa (l:Int)=L at *
   generalize Lib.itoa (m:Int)=M at *
   obtain⟨W0,hW0⟩:∃ W0,((w.alloc (.cells [.string ⟨X.toArray⟩,.string ⟨L.toArray⟩].toArray 79)).alloc (.cells [.string ⟨Y.toArray⟩,.string ⟨M.toArray⟩].toArray 79)).alloc (.cells [.string ⟨#[]⟩,.string ⟨#[]⟩].toArray 79)=W0:=⟨_,rfl⟩
   have hQ0:Q w W0:=by rw[← hW0];exact(((Below.refl _ w).alloc (Nat.le_refl _) _).alloc (by simp) _).alloc (by simp;omega) _
   have C1:Blk W0 w.heap.size [.string ⟨X.toArray⟩,.string ⟨L.toArray⟩] 79:=by rw[← hW0];exact((Blk.new w _ _).alloc _).alloc _
   have C2:Blk W0 (w.heap.size+1) [.string ⟨Y.toArray⟩,.string ⟨M.toArray⟩] 79:=by
    have:=(Blk.new (w.alloc (.cells [.string ⟨X.toArray⟩,.string ⟨L.toArray⟩].toArray 79)) [.string ⟨Y.toArray⟩,.string ⟨M.toArray⟩] 79).alloc (.cells [.string ⟨#[]⟩,.string ⟨#[]⟩].toArray 79)
    rw[World.size_alloc,hW0]at this;exact this
   have C3:Blk W0 (w.heap.size+2) [.string ⟨#[]⟩,.string ⟨#[]⟩] 79:=by
    have:=Blk.new ((w.alloc (.cells [.string ⟨X.toArray⟩,.string ⟨L.toArray⟩].toArray 79)).alloc (.cells [.string ⟨Y.toArray⟩,.string ⟨M.toArray⟩].toArray 79)) [.string ⟨#[]⟩,.string ⟨#[]⟩] 79
    rw[World.size_alloc,World.size_alloc,hW0]at this;exact this
   have a1:=C1.cell 1
   have b1:=C2.cell 1
   simp only[zs4,zs5]at a1 b1
   go_enter Tryz.func68,Tryz.ntmps68
   go_wp2_with fail
   refine(HR.out _ (hE.q hQ0)).mono ?_
   clear a1 b1 hW0
   rintro e w1⟨rfl,hq1⟩
   have hQ1:=Q.trans hQ0 hq1
   have D1:=C1.keep hq1 C1.lt
   have D2:=C2.keep hq1 C2.lt
   have D3:=C3.keep hq1 C3.lt
   have b0:=D2.cell 0
   simp only[List.getElem?_cons_zero]at b0
   go_wp2_with fail
   refine(HM.out _ (hE.q hQ1)).mono ?_
   clear b0 C1 C2 C3
   rintro e w2⟨rfl,hq2⟩
   have hQ2:=Q.trans hQ1 hq2
   have C1:=D1.keep hq2 D1.lt
   have C3:=D3.keep hq2 D3.lt
   have a0:=C1.cell 0
   simp only[List.getElem?_cons_zero]at a0
   go_wp2_with fail
   refine(HA.out _ (hE.q hQ2)).mono ?_
   clear a0 D1 D2 D3
   rintro e w3⟨rfl,hq3⟩
   have hQ3:=Q.trans hQ2 hq3
   have D1:=C1.keep hq3 C1.lt
   have D3:=C3.keep hq3 C3.lt
   have a1:=D1.cell 1
   have c0:=D3.cell
   have f0:=D3.frozen 0
   have f1:=D3.frozen 1
   have l3:=D3.lt
   try simp only[zs4,zs5]at a1
   go_wp2
   refine bodyPost_ret (v:=.tuple #[.agg #[.string ⟨R.toArray⟩,.string ⟨L.toArray⟩],.int .i64 0])
    (zk9 _ _ (w.heap.size+2) _ _ _ rfl rfl (((D3.set 0 _).set 1 _).cell 0) (((D3.set 0 _).set 1 _).cell 1)) rfl ⟨rfl,?_⟩
   exact(hQ3.setCell (p:=⟨w.heap.size+2,0,none⟩) (by simp) _).setCell (p:=⟨w.heap.size+2,1,none⟩) (by simp) _
end
section
open Go.RowKit Kp
open Go.Lib (decDigits)
attribute [local go_sem] Oper.semAt_some
theorem zmJ{n:Nat}(h:n<10 ^ 90):lim (n:Int)=false:=zaO (n:=90) (by rw[Int.natAbs_natCast];exact h) (by decide)
def zru(cs:List (Rat × Nat))(t:Rat × Nat):Int:=if zkQ cs t=true then 4 else 0
theorem zfl(cs:List (Rat × Nat))(t:Rat × Nat)(hcs:∀ c∈cs,CW c)(ht:CW t)(hne:cs≠[])(hlen:cs.length≤1000)(G:Nat)(w:World)(hE:Env w)(_hng:ng≤G)(hg:zn2 w G cs) :
  Calls Tryz.prog 31 #[.pointer (some ⟨G,0,none⟩),.agg #[.string ⟨(za t.1).toArray⟩,.string ⟨(Lib.itoa (t.2:Int)).toArray⟩]] w fun e w'=>e=.returned (.int .i64 (zru cs t))∧Below G w w'∧(zkQ cs t=false→zn2 w' G (zdb cs t)):=by
 obtain⟨v,hG,-,hrow⟩:=hg
 have hl:(cs.map ofC).length=cs.length:=List.length_map _
 have hpos:0<cs.length:=List.length_pos_iff.2 hne
 obtain⟨g,cap,rfl,hg1,hg2⟩:=hrow.form (by omega)
 have HROW:=LH hrow
 have lG:=hG.lt
 rw[hl]at hrow hG
 obtain⟨x,l⟩:=t
 obtain⟨W1,hW1⟩:∃ W1,w.alloc (.cells [.string ⟨(za x).toArray⟩,.string ⟨(Lib.itoa (l:Int)).toArray⟩].toArray 40)=W1:=⟨_,rfl⟩
 have T1:Blk W1 w.heap.size [.string ⟨(za x).toArray⟩,.string ⟨(Lib.itoa (l:Int)).toArray⟩] 40:=by rw[← hW1];exact Blk.new w _ _
 have hQ1:Q w W1:=by rw[← hW1];exact(Below.refl _ w).alloc (Nat.le_refl _) _
 have hG1:=hG.keep hQ1 lG
 have g0:=hG1.cell 0
 have lG1:=hG1.lt
 simp only[List.getElem?_cons_zero]at g0
 simp only at ht ⊢
 have hn:(cs.length:Int)≤1000:=by omega
 have HCS:=LH hcs
 clear hcs hne HROW hl
 go_enter Tryz.func31,Tryz.ntmps31
 go_wp2
 clear hW1
 go_loopw [19] (fun i wr=>∃ k:Nat,k≤cs.length∧i=.int .i64 k∧Q W1 wr∧Hid (∀ j (hj:j<cs.length),j<k→zc1 ((l:Rat) / ((cs[j]).2:Rat))=false)) (fun i _=>cs.length - (intOf i).toNat)
 case atStart=>exact⟨0,by omega,rfl,Q.refl _,LH (fun j _ h=>absurd h (by omega))⟩
 case round =>
  obtain⟨k,hk,rfl,hQ,HNO⟩:=hrel
  by_cases hlt:k<cs.length
  ·have hrr:=zl (zl hrow hQ1) hQ
   have hQw:=Q.trans hQ1 hQ
   have e0:=hrr.cellAt (k*2) (by omega)
   have e1:=hrr.cellAt (k*2+1) (by omega)
   have hk2:k<(cs.map ofC).length:=by rw[List.length_map];exact hlt
   have GET:=LH (zgB (cs.map ofC) k hk2)
   rw[(GET.out).1]at e0
   rw[(GET.out).2]at e1
   have hget:(cs.map ofC).getD k ([],[])=ofC cs[k]:=by rw[List.getD_eq_getElem?_getD,List.getElem?_map,List.getElem?_eq_getElem hlt];rfl
   rw[hget]at e0 e1 GET
   have hcb:=HCS.out cs[k] (List.getElem_mem hlt)
   have HAT:Hid (zc1 ((l:Rat) / ((cs[k]).2:Rat))=true→zdb cs (x,l)=cs.set k (if l<(cs[k]).2 then zf1 (x,l) cs[k]else zf1 cs[k] (x,l))):=LH (fun h=>zrq cs (x,l) k hlt (fun j hj=>HNO.out j (by omega) hj) h)
   have HAE:Hid (zc1 ((l:Rat) / ((cs[k]).2:Rat))=true→zkQ cs (x,l)=(if l<(cs[k]).2 then zja (x,l) cs[k]else zja cs[k] (x,l))):=LH (fun h=>zrp cs (x,l) k hlt (fun j hj=>HNO.out j (by omega) hj) h)
   have HNO2:Hid (zc1 ((l:Rat) / ((cs[k]).2:Rat))=false→∀ j (hj:j<cs.length),j<k+1→zc1 ((l:Rat) / ((cs[j]).2:Rat))=false):=LH (fun h j hj hjk=>by
    rcases Nat.lt_or_ge j k with h1 | h1
    ·exact HNO.out j hj h1
    ·obtain rfl:j=k:=by omega
     exact h)
   have HRW:Hid (w.ownsRow (G+1) 79 2 (.slice (some ⟨g,0,none⟩) cs.length cap) cs.length (zcx (cs.map ofC))):=LH hrow
   have HK:Hid (k+1≤cs.length):=LH hlt
   clear hget hrr HNO hk2
   generalize cs[k]=c at *
   obtain⟨y,m⟩:=c
   simp only[ofC]at e0 e1 GET HAT HNO2 HAE
   have hcbm:=hcb
   have htl:=ht
   obtain⟨-,hm0,hm1⟩:=hcb
   obtain⟨-,hl0,hl1⟩:=ht
   simp only at hm0 hm1 hl0 hl1
   have hra:=fun w hw=>zgE m l hm0 hm1 hl0 hl1 w hw
   have HCMP:=LH (fun w hw=>zbW l m (zmJ hl1) (zmJ hm1) w hw)
   have L0:=Blk.new wr [.string ⟨(za y).toArray⟩,.string ⟨(Lib.itoa (m:Int)).toArray⟩] 79
   have hqa:=hQ.alloc hQ.size (Obj.cells [.string ⟨(za y).toArray⟩,.string ⟨(Lib.itoa (m:Int)).toArray⟩].toArray 79)
   have hqb:=Q.trans hQ1 hqa
   have t1:=(T1.keep hQ T1.lt).cell 1
   have lTr:=(T1.keep hQ T1.lt).lt
   simp only[zs4,zs5]at t1
   cases hsq:zc1 ((l:Rat) / (m:Rat))with
   | false =>
    have HX:=LH (HNO2.out hsq)
    rw[hsq]at hra
    have HRA:=LH hra
    clear hra hsq HNO2 HAT HCMP HAE
    go_wp2_with fail
    refine cx (HRA.out _ (hE.q hqb)) fun w2 hq2=>?_
    have hQ2:=Q.trans hqa hq2
    clear e0 e1 t1
    go_wp2
    go_roundw
    case rel=>exact⟨k+1,HK.out,by go_num,hQ2,LH HX.out⟩
    case measure=>simp[intOf];omega
   | true =>
    have HADD:=LH (HAT.out hsq)
    have HADE:=LH (HAE.out hsq)
    have hinv:=zoi hm0 hl0 hsq
    rw[hsq]at hra
    have HRA:=LH hra
    have HPL1:=LH (fun w hw=>zfK (x,l) (y,m) htl hcbm hinv w hw)
    have HPL2:=LH (fun w hw=>zfK (y,m) (x,l) hcbm htl hsq w hw)
    clear hra hsq HNO2 HAT hinv hcbm htl HAE
    by_cases hlm:l<m
    ·have hc1:Lib.compareInt (l:Int) (m:Int) = -1:=by unfold Lib.compareInt;rw[if_pos (by omega)]
     rw[hc1]at HCMP
     have SETS:Hid (zkQ cs (x,l)=false→zcx ((zdb cs (x,l)).map ofC)=((zcx (cs.map ofC)).set (k*2) (.string ⟨(zf0 (x,l) (y,m)).1.toArray⟩)).set (k*2+1) (.string ⟨(zf0 (x,l) (y,m)).2.toArray⟩)∧(zdb cs (x,l)).length=cs.length):=LH (fun hne=>by
      rw[HADE.out,if_pos hlm]at hne
      have hs:zf0 (x,l) (y,m)=ofC (zf1 (x,l) (y,m)):=by unfold zf0;rw[if_neg (by rw[hne];decide)]
      rw[hs]
      rw[HADD.out,if_pos hlm,List.map_set,← zk6 _ k (ofC (zf1 (x,l) (y,m))),List.length_set];exact⟨rfl,rfl⟩)
     clear hc1 HPL2 HADD hl0 hl1 hm0 hm1
     have HERR:Hid (zru cs (x,l)=zmq (x,l) (y,m)):=LH (by unfold zru zmq;rw[HADE.out,if_pos hlm])
     generalize zmq (x,l) (y,m)=PI at *
     clear hlm HADE
     generalize (zf0 (x,l) (y,m)).1=PR at *
     generalize (zf0 (x,l) (y,m)).2=PM at *
     generalize Lib.itoa (l:Int)=L at *
     generalize Lib.itoa (m:Int)=M at *
     generalize za x=X at *
     generalize za y=Y at *
     go_wp2_with fail
     refine cx (HRA.out _ (hE.q hqb)) fun w2 hq2=>?_
     have hQ2:=Q.trans hqa hq2
     have T2:=(T1.keep hQ2 T1.lt)
     have L2:=L0.keep hq2 L0.lt
     clear e0 e1 t1
     have t0:=T2.cell 0
     have t1:=T2.cell 1
     have lT2:=T2.lt
     have lL2:=L2.lt
     have d1:=L2.cell 1
     simp only[zs4,zs5]at t0 t1 d1
     have H0:=Blk.new w2 [.string ⟨X.toArray⟩,.string ⟨L.toArray⟩] 79
     have hqh:=hQ2.alloc hQ2.size (Obj.cells [.string ⟨X.toArray⟩,.string ⟨L.toArray⟩].toArray 79)
     go_wp2_with fail
     refine cx (HCMP.out _ (hE.q (Q.trans hQ1 hqh))) fun w3 hq3=>?_
     have hQ3:Q w w3:=Q.trans hQ1 (Q.trans hqh hq3)
     have L3:=(L2.alloc (Obj.cells [.string ⟨X.toArray⟩,.string ⟨L.toArray⟩].toArray 79)).keep hq3 (by simp;omega)
     have H3:=H0.keep hq3 H0.lt
     clear t0 t1 d1 T2 L2
     have a0:=L3.cell
     have b0:=H3.cell
     have fa0:=L3.frozen 0
     have fa1:=L3.frozen 1
     have fb0:=H3.frozen 0
     have fb1:=H3.frozen 1
     have lL3:=L3.lt
     have lH3:=H3.lt
     have hne1:wr.heap.size≠w2.heap.size:=by omega
     have hsw:w.heap.size≤wr.heap.size:=hQw.size
     have hsw2:w.heap.size≤w2.heap.size:=by omega
     have hQ3':Q w ((((w3.setCell ⟨wr.heap.size,0,none⟩ (.string ⟨X.toArray⟩)).setCell ⟨wr.heap.size,1,none⟩ (.string ⟨L.toArray⟩)).setCell ⟨w2.heap.size,0,none⟩ (.string ⟨Y.toArray⟩)).setCell ⟨w2.heap.size,1,none⟩ (.string ⟨M.toArray⟩)) :=
      (((hQ3.setCell (p:=⟨wr.heap.size,0,none⟩) hsw _).setCell (p:=⟨wr.heap.size,1,none⟩) hsw _).setCell (p:=⟨w2.heap.size,0,none⟩) hsw2 _).setCell (p:=⟨w2.heap.size,1,none⟩) hsw2 _
     go_wp2_with fail
     refine cx (HPL1.out _ (hE.q hQ3')) fun w4 hq4=>?_
     have hQ4:=Q.trans hQ3' hq4
     have S0:=Blk.new w4 [.string ⟨PR.toArray⟩,.string ⟨PM.toArray⟩] 79
     have hQ5:Q w (w4.alloc (.cells [.string ⟨PR.toArray⟩,.string ⟨PM.toArray⟩].toArray 79)):=hQ4.alloc hQ4.size _
     have s0:=S0.drew.cell 0
     have s1:=S0.drew.cell 1
     have G5:=(hG.keep hQ5 lG).drew
     have g5:=G5.cell 0
     have lS:=S0.lt
     have lG5:=G5.lt
     simp only[zs4,zs5]at s0 s1 g5
     go_wp2_with fail
     refine zn 7 rfl (by kernel_rfl) rfl ?_
     refine svp 0 ?_
     refine svp 1 ?_
     refine svp 2 ?_
     refine svq 3 rfl (by intro w' hq;have hc0:=ze hq g5;go_simp;try with_reducible rfl) ?_
     refine svp 4 ?_
     refine svq 5 rfl (by intro w' hq;have hc0:=ze hq s0;have hc1:=ze hq s1;go_simp;try with_reducible rfl) ?_
     refine svp 6 ?_
     refine zh (by kernel_rfl) (fun w6 hq6=>?_)
     simp only[List.drop_succ_cons,List.drop_zero]
     have hQ6:Q w w6:=Below.trans (Below.drew hQ5) (hq6.mono hQ5.size)
     have hr6:=zl HRW.out hQ6
     have f0:=hr6.frozenAt (k*2)
     have f1:=hr6.frozenAt (k*2+1)
     have q0:=hr6.cellAt (k*2) (by omega)
     have q1:=hr6.cellAt (k*2+1) (by omega)
     rw[(GET.out).1]at q0
     rw[(GET.out).2]at q1
     have hG6:=hG.keep hQ6 lG
     have HDONE:=LH (fun hne=>zox (p:=(PR,PM)) (k:=k) hG6 hr6 (SETS.out hne) (fun e=>by have:=(SETS.out hne).2;rw[e]at this;simp at this;omega) (by omega))
     have hB6:Below G w w6:=hQ6.mono (Nat.le_of_lt lG)
     have HB7:Hid (Below G w ((w6.setCell ⟨g,k*2,none⟩ (.string ⟨PR.toArray⟩)).setCell ⟨g,k*2+1,none⟩ (.string ⟨PM.toArray⟩))):=LH ((hB6.setCell (p:=⟨g,k*2,none⟩) (show G≤g by omega) _).setCell (p:=⟨g,k*2+1,none⟩) (show G≤g by omega) _)
     clear hr6 hG6 hB6 hQ6 hQ5 S0 G5 g5 s0 s1
     go_wp2
     go_ret
     exact⟨by have h:=HERR.out;subst h;rfl,HB7.out,HDONE.out⟩
    ·have hc1:¬ Lib.compareInt (l:Int) (m:Int)<0:=by unfold Lib.compareInt;rw[if_neg (by omega)];split <;> decide
     have SETS:Hid (zkQ cs (x,l)=false→zcx ((zdb cs (x,l)).map ofC)=((zcx (cs.map ofC)).set (k*2) (.string ⟨(zf0 (y,m) (x,l)).1.toArray⟩)).set (k*2+1) (.string ⟨(zf0 (y,m) (x,l)).2.toArray⟩)∧(zdb cs (x,l)).length=cs.length):=LH (fun hne=>by
      rw[HADE.out,if_neg hlm]at hne
      have hs:zf0 (y,m) (x,l)=ofC (zf1 (y,m) (x,l)):=by unfold zf0;rw[if_neg (by rw[hne];decide)]
      rw[hs]
      rw[HADD.out,if_neg hlm,List.map_set,← zk6 _ k (ofC (zf1 (y,m) (x,l))),List.length_set];exact⟨rfl,rfl⟩)
     clear HPL1 HADD hl0 hl1 hm0 hm1
     have HERR:Hid (zru cs (x,l)=zmq (y,m) (x,l)):=LH (by unfold zru zmq;rw[HADE.out,if_neg hlm])
     generalize zmq (y,m) (x,l)=PI at *
     clear hlm HADE
     generalize (zf0 (y,m) (x,l)).1=PR at *
     generalize (zf0 (y,m) (x,l)).2=PM at *
     generalize Lib.compareInt (l:Int) (m:Int)=cc at *
     generalize Lib.itoa (l:Int)=L at *
     generalize Lib.itoa (m:Int)=M at *
     generalize za x=X at *
     generalize za y=Y at *
     go_wp2_with fail
     refine cx (HRA.out _ (hE.q hqb)) fun w2 hq2=>?_
     have hQ2:=Q.trans hqa hq2
     have T2:=(T1.keep hQ2 T1.lt)
     have L2:=L0.keep hq2 L0.lt
     clear e0 e1 t1
     have t0:=T2.cell 0
     have t1:=T2.cell 1
     have lT2:=T2.lt
     have lL2:=L2.lt
     have d1:=L2.cell 1
     simp only[zs4,zs5]at t0 t1 d1
     have H0:=Blk.new w2 [.string ⟨X.toArray⟩,.string ⟨L.toArray⟩] 79
     have hqh:=hQ2.alloc hQ2.size (Obj.cells [.string ⟨X.toArray⟩,.string ⟨L.toArray⟩].toArray 79)
     go_wp2_with fail
     refine cx (HCMP.out _ (hE.q (Q.trans hQ1 hqh))) fun w3 hq3=>?_
     have hQ3':Q w w3:=Q.trans hQ1 (Q.trans hqh hq3)
     have L3:=(L2.alloc (Obj.cells [.string ⟨X.toArray⟩,.string ⟨L.toArray⟩].toArray 79)).keep hq3 (by simp;omega)
     have H3:=H0.keep hq3 H0.lt
     clear t0 t1 d1 T2 L2
     have a0:=L3.cell
     have b0:=H3.cell
     have lL3:=L3.lt
     have lH3:=H3.lt
     go_wp2_with fail
     refine cx (HPL2.out _ (hE.q hQ3')) fun w4 hq4=>?_
     have hQ4:=Q.trans hQ3' hq4
     have S0:=Blk.new w4 [.string ⟨PR.toArray⟩,.string ⟨PM.toArray⟩] 79
     have hQ5:Q w (w4.alloc (.cells [.string ⟨PR.toArray⟩,.string ⟨PM.toArray⟩].toArray 79)):=hQ4.alloc hQ4.size _
     have s0:=S0.drew.cell 0
     have s1:=S0.drew.cell 1
     have G5:=(hG.keep hQ5 lG).drew
     have g5:=G5.cell 0
     have lS:=S0.lt
     have lG5:=G5.lt
     simp only[zs4,zs5]at s0 s1 g5
     go_wp2_with fail
     refine zn 7 rfl (by kernel_rfl) rfl ?_
     refine svp 0 ?_
     refine svp 1 ?_
     refine svp 2 ?_
     refine svq 3 rfl (by intro w' hq;have hc0:=ze hq g5;go_simp;try with_reducible rfl) ?_
     refine svp 4 ?_
     refine svq 5 rfl (by intro w' hq;have hc0:=ze hq s0;have hc1:=ze hq s1;go_simp;try with_reducible rfl) ?_
     refine svp 6 ?_
     refine zh (by kernel_rfl) (fun w6 hq6=>?_)
     simp only[List.drop_succ_cons,List.drop_zero]
     have hQ6:Q w w6:=Below.trans (Below.drew hQ5) (hq6.mono hQ5.size)
     have hr6:=zl HRW.out hQ6
     have f0:=hr6.frozenAt (k*2)
     have f1:=hr6.frozenAt (k*2+1)
     have q0:=hr6.cellAt (k*2) (by omega)
     have q1:=hr6.cellAt (k*2+1) (by omega)
     rw[(GET.out).1]at q0
     rw[(GET.out).2]at q1
     have hG6:=hG.keep hQ6 lG
     have HDONE:=LH (fun hne=>zox (p:=(PR,PM)) (k:=k) hG6 hr6 (SETS.out hne) (fun e=>by have:=(SETS.out hne).2;rw[e]at this;simp at this;omega) (by omega))
     have hB6:Below G w w6:=hQ6.mono (Nat.le_of_lt lG)
     have HB7:Hid (Below G w ((w6.setCell ⟨g,k*2,none⟩ (.string ⟨PR.toArray⟩)).setCell ⟨g,k*2+1,none⟩ (.string ⟨PM.toArray⟩))):=LH ((hB6.setCell (p:=⟨g,k*2,none⟩) (show G≤g by omega) _).setCell (p:=⟨g,k*2+1,none⟩) (show G≤g by omega) _)
     clear hr6 hG6 hB6 hQ6 hQ5 S0 G5 g5 s0 s1
     go_wp2
     go_ret
     exact⟨by have h:=HERR.out;subst h;rfl,HB7.out,HDONE.out⟩
  ·obtain rfl:k=cs.length:=by omega
   have HNEW:Hid (zdb cs (x,l)=cs++[(x,l)]):=LH (zoz cs (x,l) (fun j hj=>HNO.out j hj hj))
   have HA0:Hid (zru cs (x,l)=0):=LH (by unfold zru;rw[zoy cs (x,l) (fun j hj=>HNO.out j hj hj)];rfl)
   have hQw:=Q.trans hQ1 hQ
   have T2:=T1.keep hQ T1.lt
   have G2:=hG1.keep hQ hG1.lt
   have hrr:=zl (zl hrow hQ1) hQ
   have HRX:Hid (zcx ((zdb cs (x,l)).map ofC)=zcx (cs.map ofC)++[.string ⟨(za x).toArray⟩,.string ⟨(Lib.itoa (l:Int)).toArray⟩]∧(zdb cs (x,l)).length=cs.length+1):=LH (by
    rw[HNEW.out,List.map_append,ziz,List.length_append];exact⟨rfl,rfl⟩)
   have HNE:Hid (zdb cs (x,l)≠[]):=LH (by rw[HNEW.out];simp)
   obtain⟨i0,hi,hz0,hz1,hz2⟩:=zb8 zmQ
   have HI:=LH hi
   have HZ:=LH hz0
   have HS:=LH hz1
   have HB:=LH hz2
   clear hi hz0 hz1 hz2 HNO HNEW ht HCS
   generalize zcx (cs.map ofC)=xs at *
   generalize Lib.itoa (l:Int)=L at *
   generalize za x=X at *
   have g0r:=G2.cell 0
   have t0r:=T2.cell 0
   have t1r:=T2.cell 1
   have kf:=G2.frozen 0
   have lG2:=G2.lt
   have lT2:=T2.lt
   have hGT:G≠w.heap.size:=by omega
   have hGg:G≠g:=by omega
   have hTg:w.heap.size≠g:=by omega
   have hnew:=Blk.new wr [.string ⟨X.toArray⟩,.string ⟨L.toArray⟩] 79
   have G3:=G2.alloc (Obj.cells #[.string ⟨X.toArray⟩,.string ⟨L.toArray⟩] 79)
   have T3:=T2.alloc (Obj.cells #[.string ⟨X.toArray⟩,.string ⟨L.toArray⟩] 79)
   have k02:=G3.cell 0
   have d02:=T3.cell 0
   have d12:=T3.cell 1
   have kf2:=G3.frozen 0
   have hlG:G<(wr.alloc (Obj.cells #[.string ⟨X.toArray⟩,.string ⟨L.toArray⟩] 79)).drew.heap.size:=by simp;omega
   have hlT:w.heap.size<(wr.alloc (Obj.cells #[.string ⟨X.toArray⟩,.string ⟨L.toArray⟩] 79)).drew.heap.size:=by simp;omega
   have hown0:=(hrr.alloc (Obj.cells #[.string ⟨X.toArray⟩,.string ⟨L.toArray⟩] 79)).drew
   simp only[zs4,zs5]at g0r t0r t1r k02 d02 d12
   have hB2:Below G w (wr.alloc (Obj.cells #[.string ⟨X.toArray⟩,.string ⟨L.toArray⟩] 79)).drew:=((hQw.mono (Nat.le_of_lt lG)).alloc (by omega) _).drew
   have HG3:=LH G3
   have HGW:Hid (G+1≤wr.heap.size):=LH lG2
   clear G3 T3 G2 T2 hG hG1 hrow hrr hQ hQ1 T1 hE
   go_wp2_with fail
   go_region_law
    (first | (refine step_append_lies _ (by rfl) (.tmp 73) (.tmp 79) 73 (by rfl) (G+1) 79 i0 _ 2 32 Tryz.underlying73 HI.out HZ.out HS.out HB.out rfl (by decide) (.slice (some ⟨g,0,none⟩) cs.length cap) cs.length xs (by rfl) hown0 ⟨wr.heap.size,0,none⟩ 1 1 [.string ⟨X.toArray⟩,.string ⟨L.toArray⟩] (by rfl) (by rfl) (World.news_of_block (cs:=#[.string ⟨X.toArray⟩,.string ⟨L.toArray⟩]) (t:=79) (fr:=(0,0)) hnew) (by simp[Value.oneCell']) (by decide) (by unfold maxLen;omega) (by omega) (by simp;have:=HGW.out;omega) (wr.heap.size+1) (by simp) ?_;intro g4 cap4 w1 hown hgrow hat hlt4;have hh:=znP (w1:=w1) (T:=w.heap.size) (x:=.string ⟨X.toArray⟩) (y:=.string ⟨L.toArray⟩) hgrow hlG hlT hGT hGg hTg k02 d02 d12 kf2;have c1:=hh.1;have fz:=zqY hh.2))
   all_goals go_wp2
   all_goals go_ret
   all_goals
    have haw:=zpP HG3.out hgrow hown hB2 hlG (by omega) HRX.out HNE.out
    exact⟨by rw[HA0.out];all_goals rfl,haw.1,fun _=>haw.2⟩
theorem zeI(cs:List (Rat × Nat))(t:Rat × Nat)(hcs:∀ c∈cs,CW c)(ht:CW t)(hlen:cs.length≤1000)(G:Nat)(w:World)(hE:Env w)(hng:ng≤G)(hg:zn2 w G cs) :
  Calls Tryz.prog 31 #[.pointer (some ⟨G,0,none⟩),.agg #[.string ⟨(za t.1).toArray⟩,.string ⟨(Lib.itoa (t.2:Int)).toArray⟩]] w fun e w'=>e=.returned (.int .i64 (zru cs t))∧Below G w w'∧(zkQ cs t=false→zn2 w' G (zdb cs t)):=by
 by_cases h:cs=[]
 ·subst h
  obtain⟨v,hG,hv,-⟩:=hg
  obtain rfl:=hv rfl
  refine(zdL G _ _ w hG).mono ?_
  rintro e w'⟨he,hb,v,h1,h2⟩
  exact⟨he,hb,fun _=>⟨v,h1,(fun e=>by simp[zdb]at e),h2⟩⟩
 ·exact zfl cs t hcs ht h hlen G w hE hng hg
theorem ziZ(q:Rat)(h:zak q=false)(h9:r90 q=false)(w:World)(hE:Env w) :
  CR 66 #[.string ⟨(za q).toArray⟩] w (.tuple #[.string ⟨#[]⟩,.string ⟨#[]⟩,.int .i64 4]):=by
 have HC:=LH (fun v1 v2 w hw h1=>ziY q h h9 v1 v2 w hw h1)
 clear h h9
 generalize za q=S at *
 go_enter Tryz.func66,Tryz.ntmps66
 go_wp2_with fail
 have B1:=((Blk.new w [.string ⟨S.toArray⟩] 22).alloc (.cells #[.string ⟨S.toArray⟩] 22))
 refine cx (HC.out _ _ _ (hE.q bt) (zca.one B1)) fun w1 hq1=>?_
 have hQ1:Q w w1:=Q.trans (show Below w.heap.size w _ from bt) hq1
 go_wp2
 go_ret3
 exact⟨rfl,hQ1⟩
def zhh(cs:List (Rat × Nat))(t:Rat × Rat):Option (List (Rat × Nat)) :=
 if t.1=0∨t.2=0 then some cs
 else if (r90 t.2 && decide (zaL (leftOf t.2:Rat)≤90))=false then none
 else if mulL t.1 (aOf t.2)=true then none
 else if zkQ cs (t.1*aOf t.2,leftOf t.2)=true then none
 else some (zdb cs (t.1*aOf t.2,leftOf t.2))
def zeQ(ts:List (Rat × Rat)):Option (List (Rat × Nat)):=ts.foldl (fun o t=>o.bind fun cs=>zhh cs t) (some [])
theorem zgo(ts:List (Rat × Rat))(t:Rat × Rat):zeQ (ts++[t])=(zeQ ts).bind fun cs=>zhh cs t:=by unfold zeQ;rw[List.foldl_append];rfl
theorem zpZ(a b:List (Rat × Rat))(h:zeQ a=none):zeQ (a++b)=none:=by
 have key:∀ b:List (Rat × Rat),b.foldl (fun(o:Option (List (Rat × Nat))) t=>o.bind fun cs=>zhh cs t) none=none:=by
  intro b
  induction b with
  | nil=>rfl
  | cons t r ih=>exact ih
 unfold zeQ at h ⊢
 rw[List.foldl_append,h,key]
theorem zpY{ts:List (Rat × Rat)}{k:Nat}(hk:k<ts.length){cs:List (Rat × Nat)}(h:zeQ (ts.take k)=some cs)(hs:zhh cs ts[k]=none):zeQ ts=none:=by
 have h1:zeQ (ts.take (k+1))=none:=by rw[List.take_succ_eq_append_getElem hk,zgo,h];exact hs
 have:=zpZ _ (ts.drop (k+1)) h1
 rwa[List.take_append_drop]at this
theorem zsU{ts:List (Rat × Rat)}{k:Nat}(hk:k<ts.length){cs cs':List (Rat × Nat)}(h:zeQ (ts.take k)=some cs)(hs:zhh cs ts[k]=some cs'):zeQ (ts.take (k+1))=some cs':=by
 rw[List.take_succ_eq_append_getElem hk,zgo,h];exact hs
structure TW (t:Rat × Rat):Prop where
 c:zak t.1=false
 r:zak t.2=false
 p:0≤t.2.num
theorem zfR{q:Rat}(_h:zej q)(hp:0<q.num):0<leftOf q:=(zlE hp).1
theorem zoD{q:Rat}(h:zej q)(hp:0<q.num):zak (aOf q)=false:=by
 have h1:q.num.natAbs<10 ^ 90:=(zi _ 90 (by decide)).1 h.1
 have h2:q.den<10 ^ 90:=(zi _ 90 (by decide)).1 h.2
 exact(zsP (n:=90) ⟨h1,h2⟩ hp).zak (by decide)
theorem zjq{l:Nat}(h:zaL (l:Rat)≤90):l<10 ^ 90:=by
 unfold zaL at h
 rw[Rat.num_natCast,zaa,Int.natAbs_natCast]at h
 exact(zi _ 90 (by decide)).1 (by omega)
theorem zsS{cs cs':List (Rat × Nat)}{t:Rat × Rat}(hc:∀ c∈cs,CW c)(ht:TW t)(h:zhh cs t=some cs'):(∀ c∈cs',CW c)∧cs'.length≤cs.length+1:=by
 unfold zhh at h
 by_cases h0:t.1=0∨t.2=0
 ·rw[if_pos h0]at h
  cases h
  exact⟨hc,by omega⟩
 rw[if_neg h0]at h
 cases h1:(r90 t.2 && decide (zaL (leftOf t.2:Rat)≤90))with
 | false=>rw[h1,if_pos rfl]at h;cases h
 | true =>
  rw[h1,if_neg (by decide)]at h
  cases h2:mulL t.1 (aOf t.2)with
  | true=>rw[h2,if_pos rfl]at h;cases h
  | false =>
   rw[h2,if_neg (by decide)]at h
   cases h3:zkQ cs (t.1*aOf t.2,leftOf t.2)with
   | true=>rw[h3,if_pos rfl]at h;cases h
   | false =>
    rw[h3,if_neg (by decide)]at h
    cases h
    simp only[Bool.and_eq_true,decide_eq_true_eq]at h1
    have hp:0<t.2.num:=by
     have:=ht.p
     have h5:t.2.num≠0:=fun e=>h0 (.inr (Rat.num_eq_zero.1 e))
     omega
    have hw:CW (t.1*aOf t.2,leftOf t.2):=⟨zgU h2,zfR (zfZ h1.1) hp,zjq h1.2⟩
    exact⟨hw.adds hc h3,zoA _ _⟩
theorem ziK:∀ (n:Nat) {ts:List (Rat × Rat)} {cs:List (Rat × Nat)},ts.length=n→(∀ t∈ts,TW t)→zeQ ts=some cs→(∀ c∈cs,CW c)∧cs.length≤ts.length
 | 0,ts,cs,hn,_,h=>by
  obtain rfl:=List.length_eq_zero_iff.1 hn
  cases h
  exact⟨fun c hc=>absurd hc List.not_mem_nil,Nat.le_refl _⟩
 | n+1,ts,cs,hn,ht,h=>by
  obtain⟨l,t,rfl⟩:∃ l t,ts=l++[t]:=⟨ts.dropLast,ts.getLast (fun e=>by rw[e]at hn;cases hn),(List.dropLast_concat_getLast _).symm⟩
  rw[zgo]at h
  cases hv:zeQ l with
  | none=>rw[hv]at h;cases h
  | some c0 =>
   rw[hv]at h
   have ih:=ziK n (by simpa using hn) (fun x hx=>ht x (List.mem_append_left _ hx)) hv
   have hs:=zsS ih.1 (ht t (by simp)) h
   exact⟨hs.1,by rw[List.length_append];have:=ih.2;have:=hs.2;simp;omega⟩
def ztX(ts:List (Rat × Rat)):Int:=if (zeQ ts).isSome=true then 0 else 4
theorem zfO{ts:List (Rat × Rat)}(h:zeQ ts=none):ztX ts=4:=by unfold ztX;rw[h];rfl
theorem zn4{ts:List (Rat × Rat)}{cs:List (Rat × Nat)}(h:zeQ ts=some cs):ztX ts=0:=by unfold ztX;rw[h];rfl
end
end Go.Proofs.YtdecodpgdainiaaGreatDoor
