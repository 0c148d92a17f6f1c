/-
  surd.Mul at valid lists of any numbers.; The mathematics of mitres.; The mathematics of seat and plumb bevels.; The bounds of two members.; The law's member: coordinates of at most six bytes; it turned round, and its half.; Seat and plumb bevels with their errors; the member turned round, and its half.; RefM QA QB QC QD QE QF QG QH QI QJ QK QL QM, one behind the other.
-/
import Derived.Test.YtjnhmfcklodfdaaGreatDoorIV18
import Derived.Test.YtjnhmfcklodfdaaGreatDoorIV20
import Derived.Test.YtjnhmfcklodfdaaGreatDoorIVMA
import Derived.Test.YtjnhmfcklodfdaaGreatDoorIVSD
import Derived.Laws.IdiomStrings
set_option maxRecDepth 100000
set_option maxHeartbeats 4000000
namespace Go.Proofs.YtjnhmfcklodfdaaGreatDoor
section
open Go.RowKit Kp
attribute [local go_sem] Oper.semAt_some
def zpA(a b:Rat × Nat):Rat × Rat:=(a.1*b.1,(a.2:Rat)*(b.2:Rat))
def zgQ(L K:List (Rat × Nat)):List (Rat × Rat):=L.flatMap fun a=>K.map (zpA a)
theorem zqY(L K:List (Rat × Nat))(a:Rat × Nat):zgQ (L++[a]) K=zgQ L K++K.map (zpA a):=by
 unfold zgQ
 rw[List.flatMap_append,List.flatMap_cons,List.flatMap_nil,List.append_nil]
theorem zov(L K:List (Rat × Nat)):(zgQ L K).length=L.length*K.length:=by
 induction L with
 | nil=>simp[zgQ]
 | cons a r ih =>
  show ((K.map (zpA a))++zgQ r K).length=_
  rw[List.length_append,List.length_map,ih,List.length_cons,Nat.add_mul,Nat.one_mul,Nat.add_comm]
theorem ztB{L K:List (Rat × Nat)}(sL:SList L)(sK:SList K):∀ t∈zgQ L K,TW t:=fun t ht=>by
 unfold zgQ at ht
 obtain⟨a,ha,ht⟩:=List.mem_flatMap.1 ht
 obtain⟨b,hb,rfl⟩:=List.mem_map.1 ht
 have b1:=zfr (n:=60) (by decide) (sL.term a ha).c60
 have b2:=zfr (n:=60) (by decide) (sK.term b hb).c60
 refine⟨(b1.mul b2).zah (by decide),((sL.term a ha).c40.mul (sK.term b hb).c40).zah (by decide),?_⟩
 show 0≤((a.2:Rat)*(b.2:Rat)).num
 rw[← Rat.natCast_mul,Rat.num_natCast]
 omega
theorem Blk.grownM{w w':World}{b:Nat}{cs:List Value}{t:TypeId}{row:Option Nat}(h:Blk w b cs t)(hg:w.grownBy w' row)(hne:row≠some b):Blk w' b cs t:=by
 have:=h.lt
 unfold Blk at *
 rw[hg.block b this (fun e=>hne e.symm)]
 exact h
theorem znr(L K:List (Rat × Nat))(sL:SList L)(sK:SList K)(hlen:L.length*K.length≤16)(hv2:∀ cs,zdx (zgQ L K)=some cs→cs.length≤2)
  (B1 B2:Nat)(v1 v2:Value)(w:World)(hE:Env w)(h1:zK w B1 v1 L)(h2:zK w B2 v2 K) :
  Calls Tryz.prog 10 #[v1,v2] w fun e w'=>Q w w'∧(zaR (zgQ L K)=none→e=.returned (.tuple #[.slice none 0 0,.int .i64 4]))∧∀ C,zaR (zgQ L K)=some C→∃ v',e=.returned (.tuple #[v',.int .i64 0])∧zK w' w.heap.size v' (zgj C):=by
 have HB:=LH (zhN L K sL sK B1 B2 v1 v2 w hE h1 h2)
 have HTL:=LH (fun a ha=>sL.term a ha)
 have HTK:=LH (fun a ha=>sK.term a ha)
 have HMK:=LH (fun v w hw hv=>zeU (zgQ L K) (ztB sL sK) (by rw[zov];exact hlen) hv2 v w hw hv)
 obtain⟨mk,hmk⟩:∃ mk,zaR (zgQ L K)=mk:=⟨_,rfl⟩
 rw[hmk]at HMK ⊢
 have t1:=h1.tsl
 have t2:=h2.tsl
 obtain⟨a1,c1,e1,-⟩:=h1.form
 obtain⟨a2,c2,e2,-⟩:=h2.form
 have nL:L.length≤16:=sL.len
 have nK:K.length≤16:=sK.len
 clear h1 h2 sL sK hlen hv2 hmk
 subst e1
 subst e2
 obtain⟨a1',cap1,f1,-,hc1⟩:=t1
 obtain⟨a2',cap2,f2,-,hc2⟩:=t2
 rw[List.length_map]at f1 f2 hc1 hc2
 simp only[Value.slice.injEq]at f1 f2
 obtain⟨rfl,-,rfl⟩:=f1
 obtain⟨rfl,-,rfl⟩:=f2
 obtain⟨i0,hi,hz0,hz1,hz2⟩:=zcr zey
 have HI:=LH hi
 have HZ:=LH hz0
 have HS:=LH hz1
 have HBy:=LH hz2
 clear hi hz0 hz1 hz2
 go_enter Tryz.func10,Tryz.ntmps10
 go_wp2_with fail
 refine HB.out.mono ?_
 rintro e w1⟨rfl,hq1⟩
 clear HB
 go_wp2
 go_loopw [6,20] (fun o i wr=>∃ k:Nat,k≤L.length∧i=.int .i64 k∧Q w wr∧wr.ownsRow w.heap.size 37 2 o (zgQ (L.take k) K).length (zcg ((zgQ (L.take k) K).map ofT))) (fun _ i _=>L.length - (intOf i).toNat)
 case atStart=>exact⟨0,by omega,rfl,hq1,World.ownsRow_nil _ _ _ _⟩
 case round =>
  obtain⟨k,hk,rfl,hQ,hrow⟩:=hrel
  by_cases hlt:k<L.length
  ·obtain⟨b,o1,ha,hb,d0,d1⟩:=hc1 k hlt
   subst ha
   have c0:=(hQ.cell (p:=⟨b,o1+k*2,none⟩) hb).trans d0
   have c1:=(hQ.cell (p:=⟨b,o1+k*2+1,none⟩) hb).trans d1
   have hget:(L.map ofC).getD k ([],[])=ofC L[k]:=by rw[List.getD_eq_getElem?_getD,List.getElem?_map,List.getElem?_eq_getElem hlt];rfl
   rw[hget]at c0 c1
   simp only[ofC]at c0 c1
   have hTS:Hid (zgQ (L.take (k+1)) K=zgQ (L.take k) K++K.map (zpA L[k])):=LH (by rw[List.take_succ_eq_append_getElem hlt,zqY])
   have HTa:=LH (HTL.out L[k] (List.getElem_mem hlt))
   have HK:Hid (k+1≤L.length):=LH hlt
   have HR:=LH hrow
   have hml:(zgQ (L.take k) K).length≤256:=by
    rw[zov]
    have h3:(L.take k).length≤L.length:=by rw[List.length_take];omega
    exact Nat.le_trans (Nat.mul_le_mul (by omega) (by omega)) (show 16*16≤256 by decide)
   have lbr:b<wr.heap.size:=Nat.lt_of_lt_of_le hb hQ.size
   clear hget d0 d1 hrow
   generalize zgQ (L.take k) K=M0 at *
   generalize L[k]=A at *
   obtain⟨x,l⟩:=A
   simp only at c0 c1
   have T8:=Blk.new wr [.string ⟨(ze x).toArray⟩,.string ⟨(Lib.itoa (l:Int)).toArray⟩] 37
   have hQa:Q wr (wr.alloc (.cells [.string ⟨(ze x).toArray⟩,.string ⟨(Lib.itoa (l:Int)).toArray⟩].toArray 37)):=(Below.refl _ wr).alloc (Nat.le_refl _) _
   have HR0:=LH (HR.out.alloc (.cells [.string ⟨(ze x).toArray⟩,.string ⟨(Lib.itoa (l:Int)).toArray⟩].toArray 37))
   go_wp2
   generalize hg8:wr.heap.size=g8 at *
   go_loopw [6,26] (fun o i wr2=>∃ j:Nat,j≤K.length∧i=.int .i64 j∧Q w wr2∧Blk wr2 g8 [.string ⟨(ze x).toArray⟩,.string ⟨(Lib.itoa (l:Int)).toArray⟩] 37∧o.ownBlock≠some g8∧wr2.ownsRow w.heap.size 37 2 o (M0++(K.take j).map (zpA (x,l))).length (zcg ((M0++(K.take j).map (zpA (x,l))).map ofT))) (fun _ i _=>K.length - (intOf i).toNat)
   case atStart=>exact⟨0,by omega,rfl,Q.trans hQ hQa,T8,fun h=>by have:=(HR.out.lt _ h).2;omega,by rw[List.take_zero,List.map_nil,List.append_nil];exact HR0.out⟩
   case round =>
    clear c0 c1
    obtain⟨j,hj,rfl,hQ3,t8,hne8,hrow⟩:=hrel
    by_cases hlj:j<K.length
    ·obtain⟨b2,o2,ha,hb2,d0,d1⟩:=hc2 j hlj
     subst ha
     have f0:=(hQ3.cell (p:=⟨b2,o2+j*2,none⟩) hb2).trans d0
     have f1:=(hQ3.cell (p:=⟨b2,o2+j*2+1,none⟩) hb2).trans d1
     have hget:(K.map ofC).getD j ([],[])=ofC K[j]:=by rw[List.getD_eq_getElem?_getD,List.getElem?_map,List.getElem?_eq_getElem hlj];rfl
     rw[hget]at f0 f1
     simp only[ofC]at f0 f1
     have hTM:Hid (M0++(K.take (j+1)).map (zpA (x,l))=(M0++(K.take j).map (zpA (x,l)))++[zpA (x,l) K[j]]):=LH (by rw[List.take_succ_eq_append_getElem hlj,List.map_append,List.append_assoc];rfl)
     have HTb:=LH (HTK.out K[j] (List.getElem_mem hlj))
     have HJ:Hid (j+1≤K.length):=LH hlj
     have hml2:(M0++(K.take j).map (zpA (x,l))).length≤300:=by rw[List.length_append,List.length_map,List.length_take];omega
     have lb2:b2<wr.heap.size:=Nat.lt_of_lt_of_le hb2 hQ3.size
     have HR:=LH hrow
     clear hget d0 d1 hrow
     generalize M0++(K.take j).map (zpA (x,l))=M1 at *
     generalize K[j]=A2 at *
     obtain⟨y,m⟩:=A2
     simp only at f0 f1
     have hTR:Hid (zcg ((M0++(K.take (j+1)).map (zpA (x,l))).map ofT)=zcg (M1.map ofT)++[.string ⟨(ze (x*y)).toArray⟩,.string ⟨(ze ((l:Rat)*(m:Rat))).toArray⟩]∧(M0++(K.take (j+1)).map (zpA (x,l))).length=M1.length+1):=LH (by
      rw[hTM.out,List.map_append,zgx,List.length_append];exact⟨rfl,rfl⟩)
     have HM1:=LH (fun w hw=>zaT x y (zfr (n:=60) (by decide) HTa.out.c60) (zfr (n:=60) (by decide) HTb.out.c60) (by decide) w hw)
     have hm2:=fun w hw=>zaT (l:Rat) (m:Rat) HTa.out.c40 HTb.out.c40 (by decide) w hw
     rw[zbf,zbf]at hm2
     have HM2:=LH hm2
     have b0:=t8.cell 0
     have b1:=t8.cell 1
     have lt8:=t8.lt
     simp only[zs4,zs5]at b0 b1
     clear hm2 hTM
     generalize M1.length=n1 at *
     generalize zcg (M1.map ofT)=rk at *
     generalize ze (x*y)=P at *
     generalize ze ((l:Rat)*(m:Rat))=R at *
     generalize ze x=sx at *
     generalize ze y=sy at *
     generalize Lib.itoa (l:Int)=sl at *
     generalize Lib.itoa (m:Int)=sm at *
     rcases ziY HR.out with⟨hv0,-⟩|⟨g9,gc9,hv9⟩
     ·subst hv0
      have hq0:=hQ3.alloc hQ3.size (Obj.cells [.string ⟨sy.toArray⟩,.string ⟨sm.toArray⟩].toArray 37)
      have T10:=Blk.new wr [.string ⟨sy.toArray⟩,.string ⟨sm.toArray⟩] 37
      go_wp2_with fail
      refine cx (HM1.out _ (hE.q hq0)) fun w3 hq3=>?_
      have hQ4:=Q.trans hq0 hq3
      have u8:=(t8.alloc (Obj.cells [.string ⟨sy.toArray⟩,.string ⟨sm.toArray⟩].toArray 37)).keep hq3 (by simp;omega)
      have u10:=T10.keep hq3 (by simp)
      have p0:=u8.cell 1
      have p1:=u10.cell 1
      simp only[zs4,zs5]at p0 p1
      have lu8:=u8.lt
      have lu10:=u10.lt
      clear f0 f1 b0 b1 T10
      go_wp2_with fail
      refine cx (HM2.out _ (hE.q hQ4)) fun w4 hq4=>?_
      have hQ5:=Q.trans hQ4 hq4
      have hown:=zn (zn (HR.out.alloc (Obj.cells [.string ⟨sy.toArray⟩,.string ⟨sm.toArray⟩].toArray 37)) hq3) hq4
      have hown2:=hown.alloc (Obj.cells [.string ⟨P.toArray⟩,.string ⟨R.toArray⟩].toArray 37)
      have hnew:=Blk.new w4 [.string ⟨P.toArray⟩,.string ⟨R.toArray⟩] 37
      have hsz3:w.heap.size≤w4.heap.size:=hQ5.size
      have U8:=(u8.keep hq4 u8.lt).alloc (Obj.cells [.string ⟨P.toArray⟩,.string ⟨R.toArray⟩].toArray 37)
      have hs84:g8<w4.heap.size:=(u8.keep hq4 u8.lt).lt
      clear p0 p1 HM1 HM2 hown u8 u10 hq0 hq3 hq4 t8
      go_wp2_with (at_builtin;refine wpList_append_lies _ (by rfl) (.tmp 52) (.tmp 56) 29 (by rfl) w.heap.size 37 i0 _ 2 32 Tryz.underlying29 HI.out HZ.out HS.out HBy.out rfl (by decide) (.slice none 0 0) n1 rk (by rfl) hown2 ⟨w4.heap.size,0,none⟩ 1 1 [.string ⟨P.toArray⟩,.string ⟨R.toArray⟩] (by rfl) (by rfl) (World.news_of_block (cs:=#[.string ⟨P.toArray⟩,.string ⟨R.toArray⟩]) (t:=37) (fr:=(0,0)) hnew) (by simp[Value.oneCell']) (by decide) (by unfold maxLen;omega) (by omega) (by simp;omega) (w4.heap.size+1) (by simp) ?_;intro g4 cap4 w5 hown4 hgrow4 hat4 hlt4)
      go_roundw
      case rel =>
       exact⟨j+1,HJ.out,by go_num,(hQ5.alloc hQ5.size _).grown hgrow4 (by have:=hQ5.size;simp at this ⊢;omega) (fun q hq=>(hown2.lt q hq).1),U8.grownM hgrow4 (by intro h;cases h),fun h=>by(have h0:g4=g8:=by simpa[Value.ownBlock]using h);rcases hat4 with h1 | h1;(· cases h1);(· omega),by rw[hTR.out.1,hTR.out.2];exact hown4⟩
      case measure=>simp[intOf];omega
     ·subst hv9
      have hq0:=hQ3.alloc hQ3.size (Obj.cells [.string ⟨sy.toArray⟩,.string ⟨sm.toArray⟩].toArray 37)
      have T10:=Blk.new wr [.string ⟨sy.toArray⟩,.string ⟨sm.toArray⟩] 37
      go_wp2_with fail
      refine cx (HM1.out _ (hE.q hq0)) fun w3 hq3=>?_
      have hQ4:=Q.trans hq0 hq3
      have u8:=(t8.alloc (Obj.cells [.string ⟨sy.toArray⟩,.string ⟨sm.toArray⟩].toArray 37)).keep hq3 (by simp;omega)
      have u10:=T10.keep hq3 (by simp)
      have p0:=u8.cell 1
      have p1:=u10.cell 1
      simp only[zs4,zs5]at p0 p1
      have lu8:=u8.lt
      have lu10:=u10.lt
      clear f0 f1 b0 b1 T10
      go_wp2_with fail
      refine cx (HM2.out _ (hE.q hQ4)) fun w4 hq4=>?_
      have hQ5:=Q.trans hQ4 hq4
      have hown:=zn (zn (HR.out.alloc (Obj.cells [.string ⟨sy.toArray⟩,.string ⟨sm.toArray⟩].toArray 37)) hq3) hq4
      have hown2:=hown.alloc (Obj.cells [.string ⟨P.toArray⟩,.string ⟨R.toArray⟩].toArray 37)
      have hnew:=Blk.new w4 [.string ⟨P.toArray⟩,.string ⟨R.toArray⟩] 37
      have hsz3:w.heap.size≤w4.heap.size:=hQ5.size
      have U8:=(u8.keep hq4 u8.lt).alloc (Obj.cells [.string ⟨P.toArray⟩,.string ⟨R.toArray⟩].toArray 37)
      have hs84:g8<w4.heap.size:=(u8.keep hq4 u8.lt).lt
      clear p0 p1 HM1 HM2 hown u8 u10 hq0 hq3 hq4 t8
      go_wp2_with (at_builtin;refine wpList_append_lies _ (by rfl) (.tmp 52) (.tmp 56) 29 (by rfl) w.heap.size 37 i0 _ 2 32 Tryz.underlying29 HI.out HZ.out HS.out HBy.out rfl (by decide) (.slice (some ⟨g9,0,none⟩) n1 gc9) n1 rk (by rfl) hown2 ⟨w4.heap.size,0,none⟩ 1 1 [.string ⟨P.toArray⟩,.string ⟨R.toArray⟩] (by rfl) (by rfl) (World.news_of_block (cs:=#[.string ⟨P.toArray⟩,.string ⟨R.toArray⟩]) (t:=37) (fr:=(0,0)) hnew) (by simp[Value.oneCell']) (by decide) (by unfold maxLen;omega) (by omega) (by simp;omega) (w4.heap.size+1) (by simp) ?_;intro g4 cap4 w5 hown4 hgrow4 hat4 hlt4)
      go_roundw
      case rel =>
       exact⟨j+1,HJ.out,by go_num,(hQ5.alloc hQ5.size _).grown hgrow4 (by have:=hQ5.size;simp at this ⊢;omega) (fun q hq=>(hown2.lt q hq).1),U8.grownM hgrow4 hne8,fun h=>by(have h0:g4=g8:=by simpa[Value.ownBlock]using h);rcases hat4 with h1 | h1;(· exact hne8 (by rw[h1,h0]));(· omega),by rw[hTR.out.1,hTR.out.2];exact hown4⟩
      case measure=>simp[intOf];omega
    ·obtain rfl:j=K.length:=by omega
     rw[List.take_length]at hrow
     have HRW:=LH hrow
     clear hrow
     go_wp2
     go_roundw
     case rel=>exact⟨k+1,HK.out,by go_num,hQ3,by rw[hTS.out];exact HRW.out⟩
     case measure=>simp[intOf];omega
  ·obtain rfl:k=L.length:=by omega
   rw[List.take_length]at hrow
   obtain⟨oa,oc,ho⟩:=zgt hrow
   have hts:TSl wr wr.heap.size _ ((zgQ L K).map ofT):=TSl.of_row (by rw[List.length_map];exact hrow)
   subst ho
   have HTS:=LH hts
   clear hts hrow
   generalize (zgQ L K).length=n0 at *
   go_wp2_with fail
   refine(HMK.out _ _ (hE.q hQ) HTS.out).mono ?_
   rintro e w4⟨hq4,hn,hs⟩
   have hQ4:=Q.trans hQ hq4
   by_cases hm:mk=none
   ·obtain rfl:=hn hm
    have HM:=LH hm
    clear hm hn hs
    go_wp2
    go_ret2
    exact⟨hQ4,fun _=>rfl,fun C h=>by rw[HM.out]at h;cases h⟩
   ·obtain⟨C,hm⟩:=Option.ne_none_iff_exists'.1 hm
    obtain⟨v5,rfl,hr5⟩:=hs C hm
    have HR5:=LH hr5
    have HM:=LH hm
    clear hm hn hs hr5
    go_wp2
    go_ret2
    refine⟨hQ4,fun h=>(by rw[HM.out]at h;cases h),fun C' h=>?_⟩
    rw[HM.out]at h
    cases h
    exact⟨_,rfl,by have:=Joins.ownsRow_le HR5.out hQ.size;rw[List.length_map]at this;exact this⟩
end
section
open Go.RowKit Kp
theorem zfP:∀ (n:Nat) (M:List (Rat × Rat)),M.length=n→(∀ t∈M,t.1≠0∧t.2≠0)→∀ cs,zdx M=some cs→cs=znk [] (M.map fun t=>(t.1*aOf t.2,leftOf t.2))
 | 0,M,hn,_,cs,h=>by
  obtain rfl:=List.length_eq_zero_iff.1 hn
  cases h
  rfl
 | n+1,M,hn,hM,cs,h=>by
  obtain⟨l,t,rfl⟩:∃ l t,M=l++[t]:=⟨M.dropLast,M.getLast (fun e=>by rw[e]at hn;cases hn),(List.dropLast_concat_getLast _).symm⟩
  rw[zeQ]at h
  cases hv:zdx l with
  | none=>rw[hv]at h;cases h
  | some c0 =>
   rw[hv]at h
   have ih:=zfP n l (by simpa using hn) (fun x hx=>hM x (List.mem_append_left _ hx)) c0 hv
   obtain⟨h1,h2⟩:=hM t (by simp)
   obtain⟨c,r⟩:=t
   have hs:=zmb h1 h2 h
   subst ih
   rw[hs,List.map_append]
   unfold znk
   rw[List.foldl_append]
   rfl
theorem zhY{M:List (Rat × Rat)}(hM:∀ t∈M,t.1≠0∧t.2≠0){C:List (Rat × Nat)}(h:zaR M=some C):C=zeH (znk [] (M.map fun t=>(t.1*aOf t.2,leftOf t.2))):=by
 unfold zaR at h
 cases hv:zdx M with
 | none=>rw[hv]at h;cases h
 | some cs =>
  rw[hv]at h
  simp only[Option.bind_some]at h
  split at h
  ·rw[← Option.some.inj h,zfP _ M rfl hM cs hv]
  ·cases h
theorem zmh(p:Nat):∀ (m c k:Nat),zaN p (k*c) m=(k*(zaN p c m).1,(zaN p c m).2):=by
 intro m
 induction m using Nat.strongRecOn with
 | _ m ih =>
  intro c k
  by_cases h:2≤p∧0<m∧m % (p*p)=0
  ·rw[zcy h.1 h.2.1 h.2.2,zcy h.1 h.2.1 h.2.2,Nat.mul_assoc]
   exact ih _ (Nat.div_lt_self h.2.1 (by have:2*2≤p*p:=Nat.mul_le_mul h.1 h.1;omega)) _ _
  ·rw[zaN,dif_neg h,zaN,dif_neg h]
theorem zfG:∀ (l:List Nat) (x:Nat × Nat) (k:Nat),zA l (k*x.1,x.2)=(k*(zA l x).1,(zA l x).2)
 | [],_,_=>rfl
 | p::r,x,k=>by
  show zA r (zaN p (k*x.1) x.2)=_
  rw[zmh]
  exact zfG r (zaN p x.1 x.2) k
theorem zkC{m:Nat}(hm:0<m):za1 (4*m)=(2*(za1 m).1,(za1 m).2):=by
 have e:zA zC (1,4*m)=(2*(zA zC (1,m)).1,(zA zC (1,m)).2):=by
  have h1:zC=2::zC.tail:=rfl
  have h2:zA zC (1,4*m)=zA zC (2*1,m):=by
   rw[h1]
   show zA _ (zaN 2 1 (4*m))=zA _ (zaN 2 (2*1) m)
   rw[zcy (by decide) (by omega) (by omega),show 4*m / (2*2)=m by omega]
  rw[h2]
  exact zfG zC (1,m) 2
 unfold za1
 rw[e]
 simp only
 split
 ·rw[Nat.mul_assoc]
 ·rfl
theorem zlU(s:Rat):(s.den:Rat)≠0:=fun e=>s.den_nz (by exact_mod_cast e)
theorem zkO{s:Rat}(hs:0<s.num):aOf (4*s)=2*aOf s∧leftOf (4*s)=leftOf s:=by
 have hq:0<(4*s).num:=npos (Rat.mul_pos (by decide) (zr2 hs))
 have hD:=s.den_pos
 have hD':=(4*s).den_pos
 obtain⟨N,hN⟩:=Int.eq_ofNat_of_zero_le (Int.le_of_lt hs)
 obtain⟨N',hN'⟩:=Int.eq_ofNat_of_zero_le (Int.le_of_lt hq)
 have hx:N'*s.den=4*N*(4*s).den:=by
  have e1:s=(N:Rat) / (s.den:Rat):=by
   have:=Rat.num_divInt_den s
   rw[hN,Rat.divInt_eq_div]at this
   exact this.symm
  have e2:4*s=(N':Rat) / ((4*s).den:Rat):=by
   have:=Rat.num_divInt_den (4*s)
   rw[hN',Rat.divInt_eq_div]at this
   exact this.symm
  have d1:=zlU s
  have d2:=zlU (4*s)
  generalize (4*s).den=D' at *
  have e3:(N':Rat)*(s.den:Rat)=4*(N:Rat)*(D':Rat):=by
   generalize hd:(s.den:Rat)=D at *
   generalize (D':Rat)=E at *
   have e4:(N':Rat)=4*s*E:=by rw[e2];grind
   have e5:(N:Rat)=s*D:=by rw[e1];grind
   rw[e4,e5]
   grind
  exact_mod_cast e3
 have c1:Nat.Coprime N s.den:=by have:=s.reduced;rw[hN]at this;exact this
 have c2:Nat.Coprime N' (4*s).den:=by have:=(4*s).reduced;rw[hN']at this;exact this
 obtain⟨g,hg⟩:(4*s).den ∣ s.den:=c2.symm.dvd_of_dvd_mul_left ⟨4*N,by rw[hx,Nat.mul_comm]⟩
 have hgN:N'*g=4*N:=by
  rw[hg]at hx
  have:(4*s).den*(N'*g)=(4*s).den*(4*N):=by rw[Nat.mul_comm _ (4*N),← hx];ac_rfl
  exact Nat.eq_of_mul_eq_mul_left hD' this
 have hg4:g ∣ 4:=by
  have h1:Nat.Coprime g N:=(c1.symm.coprime_dvd_left ⟨(4*s).den,by rw[hg,Nat.mul_comm]⟩)
  exact h1.dvd_of_dvd_mul_right ⟨N',by rw[← hgN,Nat.mul_comm]⟩
 have hN0:0<N:=by omega
 have hN0':0<N':=by omega
 have ha:∀ r:Rat,aOf r=((za1 (r.num.toNat*r.den)).1:Rat) / (r.den:Rat):=fun r=>by
  unfold aOf
  rw[Rat.divInt_eq_div]
  rfl
 have d1:=zlU s
 have d2:=zlU (4*s)
 have hgc:g=1∨g=2∨g=4:=by
  have:=Nat.le_of_dvd (by decide) hg4
  rcases(show g=0∨g=1∨g=2∨g=3∨g=4 by omega)with rfl | rfl | rfl | rfl | rfl
  ·exact absurd hg4 (by decide)
  ·exact .inl rfl
  ·exact .inr (.inl rfl)
  ·exact absurd hg4 (by decide)
  ·exact .inr (.inr rfl)
 rw[ha,ha]
 unfold leftOf
 rw[hN,hN',Int.toNat_natCast,Int.toNat_natCast]
 have hgr:(s.den:Rat)=((4*s).den:Rat)*(g:Rat):=by rw[← Rat.natCast_mul,← hg]
 generalize (4*s).den=D' at *
 rcases hgc with rfl | rfl | rfl
 ·have e:N'*D'=4*(N*s.den):=by rw[hg];rw[Nat.mul_one]at hgN ⊢;rw[hgN,Nat.mul_assoc]
  rw[e,zkC (Nat.mul_pos hN0 hD)]
  refine⟨?_,rfl⟩
  rw[Rat.natCast_mul,hgr]
  show (2:Rat)*_ / _=_
  grind
 ·have e:N'*D'=N*s.den:=by
   rw[hg]
   have:N'=2*N:=by omega
   rw[this];ac_rfl
  rw[e]
  refine⟨?_,rfl⟩
  rw[hgr,show ((2:Nat):Rat)=2 from rfl]
  grind
 ·have e:N*s.den=4*(N'*D'):=by
   rw[hg]
   have:N'=N:=by omega
   rw[this];ac_rfl
  rw[e,zkC (Nat.mul_pos hN0' hD')]
  refine⟨?_,rfl⟩
  rw[Rat.natCast_mul,hgr,show ((4:Nat):Rat)=4 from rfl,show ((2:Nat):Rat)=2 from rfl]
  grind
theorem ziB{c s:Rat}(hc:c≠0)(hs:0<s){C:List (Rat × Nat)}(h:zaR [(c,s)]=some C):zgj C=[(c*aOf s,leftOf s)]∧FA (zgj C)∧∀ c'∈zgj C,zbU c'=true:=by
 have hp:=npos hs
 have hX:c*aOf s≠0:=fun e=>by
  rcases Rat.mul_eq_zero.1 e with e | e
  ·exact hc e
  ·exact zaU (zoT hp) e
 have hC:=zhY (M:=[(c,s)]) (fun t ht=>by rw[List.mem_singleton]at ht;subst ht;exact⟨hc,zaU hs⟩) h
 have hg:znk [] ([(c,s)].map fun t=>(t.1*aOf t.2,leftOf t.2))=[(c*aOf s,leftOf s)]:=rfl
 rw[hg,zqT hX]at hC
 refine⟨by rw[hC];rfl,?_,fun c' hc'=>zjq h c' (zow hc')⟩
 rw[hC]
 exact .inl ⟨_,_,rfl,hX,ziD hp⟩
theorem zp8(s:Rat):zaR [(0,s)]=some []:=by
 unfold zaR
 have e:zdx [(0,s)]=(zdx []).bind fun cs=>ziL cs (0,s):=rfl
 rw[e,show zdx []=some []from rfl]
 simp only[Option.bind_some]
 rw[zp9]
 rfl
theorem zur{c1 c2 s1 s2 t:Rat}(h1:0<c1)(h2:0<c2)(p1:0<s1)(p2:0<s2)(ht:0<t)(h:s1*s2=t*t):(∀ cs,zdx (zgQ [(c1*aOf s1,leftOf s1)] [(c2*aOf s2,leftOf s2)])=some cs→cs.length≤2)∧∀ C,zaR (zgQ [(c1*aOf s1,leftOf s1)] [(c2*aOf s2,leftOf s2)])=some C→zgj C=[(c1*c2*t,1)]:=by
 have a1:=zoT (npos p1)
 have a2:=zoT (npos p2)
 have e1:=zl6 (npos p1)
 have e2:=zl6 (npos p2)
 have n1:(0:Rat)<(leftOf s1:Rat):=Rat.natCast_pos.2 (ziD (npos p1)).1
 have n2:(0:Rat)<(leftOf s2:Rat):=Rat.natCast_pos.2 (ziD (npos p2)).1
 have e:zgQ [(c1*aOf s1,leftOf s1)] [(c2*aOf s2,leftOf s2)]=[(c1*aOf s1*(c2*aOf s2),(leftOf s1:Rat)*(leftOf s2:Rat))]:=rfl
 rw[e]
 generalize aOf s1=x at *
 generalize aOf s2=y at *
 generalize (leftOf s1:Rat)=m at *
 generalize (leftOf s2:Rat)=n at *
 have hx:=zaU a1
 have hy:=zaU a2
 have hr:0<t / (x*y):=zdb ht (Rat.mul_pos a1 a2)
 have hs:m*n=t / (x*y)*(t / (x*y)):=by
  have h3:x*x*m*(y*y*n)=t*t:=by rw[e1,e2,h]
  grind
 obtain⟨q1,q2⟩:=zp5 hr
 have hM:∀ u∈[(c1*x*(c2*y),m*n)],u.1≠0∧u.2≠0:=fun u hu=>by
  rw[List.mem_singleton]at hu
  subst hu
  exact⟨zaU (Rat.mul_pos (Rat.mul_pos h1 a1) (Rat.mul_pos h2 a2)),zaU (Rat.mul_pos n1 n2)⟩
 have hg:znk [] ([(c1*x*(c2*y),m*n)].map fun u=>(u.1*aOf u.2,leftOf u.2))=[(c1*c2*t,1)]:=by
  show [(c1*x*(c2*y)*aOf (m*n),leftOf (m*n))]=_
  rw[hs,q1,q2]
  congr 2
  grind
 refine⟨fun cs hc=>?_,fun C hC=>?_⟩
 ·rw[zfP _ _ rfl hM cs hc,hg];simp
 ·rw[zhY hM hC,hg,zqT (zaU (Rat.mul_pos (Rat.mul_pos h1 h2) ht))];rfl
theorem inv_mul{z F:Rat}(hz:0<z)(hF:0<F):(∀ cs,zdx (zgQ [(z*aOf (1 / F),leftOf (1 / F))] [(1 / z*aOf F,leftOf F)])=some cs→cs.length≤2)∧∀ C,zaR (zgQ [(z*aOf (1 / F),leftOf (1 / F))] [(1 / z*aOf F,leftOf F)])=some C→zgj C=[((1:Rat),1)]:=by
 have hz0:=zaU hz
 have hF0:=zaU hF
 have h:=zur (t:=1) hz (zdb (show (0:Rat)<1 by decide) hz) (zdb (show (0:Rat)<1 by decide) hF) hF (show (0:Rat)<1 by decide) (show 1 / F*F=1*1 by grind)
 rw[show z*(1 / z)*1=1 by grind]at h
 exact h
theorem zre(f d:P3):(f.add (d.scale (1 / 2))).sub f=d.scale (1 / 2):=by
 unfold P3.sub P3.add P3.scale
 congr 1 <;> (dsimp only;grind)
theorem zlQ(d:P3):flR (d.scale (1 / 2)) (d.scale (1 / 2))=flR d d / 4:=by unfold flR P3.scale;grind
theorem ztc(d:P3):zc4 (d.scale (1 / 2)).z=zc4 d.z / 2:=by
 show zc4 (d.z*(1 / 2))=_
 unfold zc4
 by_cases h:0≤d.z
 ·have h1:=Rat.num_nonneg.2 h
  have h2:=Rat.num_nonneg.2 (Rat.mul_nonneg h (show (0:Rat)≤1 / 2 by grind))
  rw[if_neg (by omega),if_neg (by omega)];grind
 ·have h1:d.z.num<0:=by
   by_cases h':d.z.num<0
   ·exact h'
   ·exact absurd (Rat.num_nonneg.1 (by omega)) h
  have h2:(d.z*(1 / 2)).num<0:=by
   by_cases h':(d.z*(1 / 2)).num<0
   ·exact h'
   ·have:=Rat.num_nonneg.1 (show 0≤(d.z*(1 / 2)).num by omega)
    exact absurd (show 0≤d.z by grind) h
  rw[if_pos h1,if_pos h2];grind
theorem zrc{F:Rat}(hF:0<F)(z:Rat):z / 2*aOf (1 / (F / 4))=z*aOf (1 / F)∧leftOf (1 / (F / 4))=leftOf (1 / F):=by
 have h:=zkO (s:=1 / F) (npos (zdb (by decide) hF))
 have e:1 / (F / 4)=4*(1 / F):=by have:=zaU hF;grind
 rw[e,h.1,h.2]
 exact⟨by grind,rfl⟩
theorem zpL{F z:Rat}(hF:0<F)(hz:0<z):1 / (z / 2)*aOf (F / 4)=1 / z*aOf F∧leftOf (F / 4)=leftOf F:=by
 have h:=zkO (s:=F / 4) (npos (zdb hF (by decide)))
 have e:4*(F / 4)=F:=by grind
 rw[e]at h
 have:=zaU hz
 rw[h.1,h.2]
 exact⟨by grind,rfl⟩
theorem neg_sub(f t:P3):flR (f.sub t) (f.sub t)=flR (t.sub f) (t.sub f)∧zc4 (f.sub t).z=zc4 (t.sub f).z:=by
 refine⟨by unfold flR P3.sub;grind,?_⟩
 show zc4 (f.z - t.z)=zc4 (t.z - f.z)
 rw[show f.z - t.z = -(t.z - f.z) by grind,zsS]
theorem zr8(f t:P3):zd4 (f.sub t)=zd4 (t.sub f):=by
 unfold zd4
 rw[(neg_sub f t).1,(neg_sub f t).2]
def zkT(T:List (Rat × Rat)):Int:=if zaR T=none then 4 else 0
def MkE(W:World)(E:Int)(L:List (Rat × Nat))(e:Ending)(w':World):Prop:=∃ v,e=.returned (.tuple #[v,.int .i64 E])∧Q W w'∧(E≠0→v=.slice none 0 0)∧(E=0→zK w' W.heap.size v L)
theorem MkP.e{W:World}{T:List (Rat × Rat)}{L:List (Rat × Nat)}(hL:∀ C,zaR T=some C→zgj C=L){e:Ending}{w':World}(h:MkP W T e w'):MkE W (zkT T) L e w':=by
 obtain⟨v,E,rfl,hq,h | ⟨rfl,C,h1,h2⟩⟩:=h
 ·obtain⟨h1,rfl,rfl⟩:=h
  have e:zkT T=4:=by unfold zkT;rw[if_pos h1]
  rw[e]
  exact⟨_,rfl,hq,fun _=>rfl,fun h=>absurd h (by decide)⟩
 ·have e:zkT T=0:=by unfold zkT;rw[if_neg (by rw[h1];simp)]
  rw[e]
  refine⟨v,rfl,hq,fun h=>absurd rfl h,fun _=>?_⟩
  rw[hL C h1]at h2
  exact h2
theorem zlT(T:List (Rat × Rat)):zkT T=0∨zkT T=4:=by
 unfold zkT
 split
 ·exact .inr rfl
 ·exact .inl rfl
def zeL(d:P3):List (Rat × Nat):=if d.z=0 then []else [(zc4 d.z*aOf (1 / flR d d),leftOf (1 / flR d d))]
def zdn(d:P3):List (Rat × Nat):=if flR d d=0 then []else [(1 / zc4 d.z*aOf (flR d d),leftOf (flR d d))]
theorem zjL{d:P3}(h:flR d d≠0):0<flR d d:=zr2 (zn2 h)
theorem zsX{d:P3}(hF:flR d d≠0){C:List (Rat × Nat)}(h:zaR (zd4 d)=some C):zgj C=zeL d:=by
 unfold zeL
 by_cases hz:d.z=0
 ·rw[if_pos hz]
  unfold zd4 at h
  rw[hz,show zc4 0=0 from rfl,zp8]at h
  cases h
  rfl
 ·rw[if_neg hz]
  exact(ziB (zaU (zcK hz)) (zdb (by decide) (zjL hF)) h).1
theorem zqG(c:Rat):zaR [(c,0)]=some []:=by
 unfold zaR
 have e:zdx [(c,0)]=(zdx []).bind fun cs=>ziL cs (c,0):=rfl
 rw[e,show zdx []=some []from rfl]
 simp only[Option.bind_some]
 have e2:ziL [] (c,0)=some []:=by unfold ziL;rw[if_pos (.inr rfl)]
 rw[e2]
 rfl
theorem zqQ{d:P3}(hz:d.z≠0){C:List (Rat × Nat)}(h:zaR (zc2 d)=some C):zgj C=zdn d:=by
 unfold zdn
 by_cases hF:flR d d=0
 ·rw[if_pos hF]
  unfold zc2 at h
  rw[hF,zqG]at h
  cases h
  rfl
 ·rw[if_neg hF]
  exact(ziB (zaU (zdb (by decide) (zcK hz))) (zjL hF) h).1
end
section
open Go.RowKit Go.Shelf Kp
attribute [local go_sem] Oper.semAt_some
theorem zsa{m:Mb}(h:MbOk m):m.pf≠m.pt:=fun e=>by
 obtain⟨e1,e2,e3⟩:=h.strf
 obtain⟨e4,e5,e6⟩:=h.strt
 exact h.ne ⟨by rw[← e1,← e4,e],by rw[← e2,← e5,e],by rw[← e3,← e6,e]⟩
theorem ztC{m:Mb}(h:MbOk m):MOk m.kind m.wid m.dep∧FOk m.face m.other:=⟨⟨h.k1,h.k2,h.w1,h.w2,h.d1,h.d2⟩,⟨h.f0,h.o0⟩⟩
end
section
open Go.RowKit Kp
open Go.Lib (decDigits)
structure Mb.six (m:Mb):Prop where
 fx:m.fx.length≤6
 fy:m.fy.length≤6
 fz:m.fz.length≤6
 tx:m.tx.length≤6
 ty:m.ty.length≤6
 tz:m.tz.length≤6
theorem Mb.six.short{m:Mb}(h:m.six):m.short:=⟨Nat.le_trans h.fx (by decide),Nat.le_trans h.fy (by decide),Nat.le_trans h.fz (by decide),Nat.le_trans h.tx (by decide),Nat.le_trans h.ty (by decide),Nat.le_trans h.tz (by decide)⟩
theorem zeh{a:Str}(h:zb4 a=0)(hl:a.length≤6):(rval a).den<10 ^ 5:=by
 have h1:=(zay h).1
 by_cases hd:(rval a).den=1
 ·rw[hd];decide
 ·unfold ze at h1
  rw[if_neg hd]at h1
  have h2:(Go.Lib.itoa (rval a).num++47::decDigits (rval a).den).length≤6:=by rw[h1];exact hl
  rw[List.length_append,List.length_cons]at h2
  exact(zl _ 5 (by decide)).1 (by omega)
theorem zqZ{p q:Rat}(hp:Bd 6 p)(hq:Bd 6 q)(dp:p.den<10 ^ 5)(dq:q.den<10 ^ 5):Bd 12 (p+(q - p)*(1 / 2)):=by
 have e:p+(q - p)*(1 / 2)=Rat.divInt (p.num*q.den+q.num*p.den) ((p.den*q.den*2:Nat):Int):=by
  have h:=Rat.add_is p q
  have h2:Rat.divInt (p.num*q.den+q.num*p.den) ((p.den*q.den*2:Nat):Int)=Rat.divInt (p.num*q.den+q.num*p.den) ((p.den:Int)*q.den)*(1 / 2):=by
   rw[Rat.divInt_eq_div,Rat.divInt_eq_div,show (((p.den*q.den*2:Nat):Int):Rat)=(((p.den:Int)*q.den:Int):Rat)*2 by rw[Int.natCast_mul,Int.natCast_mul,Rat.intCast_mul];rfl]
   grind
  rw[h2,h]
  grind
 rw[e]
 refine zcX (Nat.mul_pos (Nat.mul_pos p.den_pos q.den_pos) (by decide)) ?_ ?_
 ·have h1:(p.num*(q.den:Int)).natAbs≤10 ^ 6*10 ^ 5:=by
   rw[Int.natAbs_mul,Int.natAbs_natCast]
   exact Nat.mul_le_mul (Nat.le_of_lt hp.1) (Nat.le_of_lt dq)
  have h2:(q.num*(p.den:Int)).natAbs≤10 ^ 6*10 ^ 5:=by
   rw[Int.natAbs_mul,Int.natAbs_natCast]
   exact Nat.mul_le_mul (Nat.le_of_lt hq.1) (Nat.le_of_lt dp)
  have h3:=Int.natAbs_add_le (p.num*(q.den:Int)) (q.num*(p.den:Int))
  have e1:(10:Nat) ^ 6*10 ^ 5+10 ^ 6*10 ^ 5<10 ^ 12:=by decide
  omega
 ·have h1:p.den*q.den≤10 ^ 5*10 ^ 5:=Nat.mul_le_mul (Nat.le_of_lt dp) (Nat.le_of_lt dq)
  have e1:(10:Nat) ^ 5*10 ^ 5*2<10 ^ 12:=by decide
  omega
def Mb.vm(m:Mb):Vm:=⟨m.kind,m.face,m.other,m.pf,m.pt,m.wid,m.dep⟩
def Mb.vt(m:Mb):Vm:=⟨m.kind,m.face,m.other,m.pt,m.pf,m.wid,m.dep⟩
def Mb.vh(m:Mb):Vm:=⟨m.kind,m.face,m.other,m.pf,m.pf.add ((m.pt.sub m.pf).scale (1 / 2)),m.wid,m.dep⟩
theorem zkw{m:Mb}(h:MbOk m)(hl:m.six):B3 6 m.pf∧B3 6 m.pt :=
 ⟨⟨zb3 h.cf.1 hl.fx (by decide),zb3 h.cf.2.1 hl.fy (by decide),zb3 h.cf.2.2 hl.fz (by decide)⟩,⟨zb3 h.ct.1 hl.tx (by decide),zb3 h.ct.2.1 hl.ty (by decide),zb3 h.ct.2.2 hl.tz (by decide)⟩⟩
theorem zrB{n:Nat}{p:P3}(h:B3 n p){k:Nat}(hk:n≤k):B3 k p:=⟨h.1.mono hk,h.2.1.mono hk,h.2.2.mono hk⟩
theorem zuT{m:Mb}(h:MbOk m)(hl:m.six):VmOk m.vm:=⟨(ztC h).1,(ztC h).2,zrB (zkw h hl).1 (by decide),zrB (zkw h hl).2 (by decide),zsa h⟩
theorem zuS{m:Mb}(h:MbOk m)(hl:m.six):VmOk m.vt:=⟨(ztC h).1,(ztC h).2,zrB (zkw h hl).2 (by decide),zrB (zkw h hl).1 (by decide),fun e=>zsa h e.symm⟩
theorem zuU{m:Mb}(h:MbOk m)(hl:m.six):VmOk m.vh:=by
 obtain⟨bf,bt⟩:=zkw h hl
 refine⟨(ztC h).1,(ztC h).2,zrB bf (by decide),⟨zqZ bf.1 bt.1 (zeh h.cf.1 hl.fx) (zeh h.ct.1 hl.tx),zqZ bf.2.1 bt.2.1 (zeh h.cf.2.1 hl.fy) (zeh h.ct.2.1 hl.ty),zqZ bf.2.2 bt.2.2 (zeh h.cf.2.2 hl.fz) (zeh h.ct.2.2 hl.tz)⟩,fun e=>zsa h ?_⟩
 have e2:m.pf=m.pf.add ((m.pt.sub m.pf).scale (1 / 2)):=e
 have e3:∀ a b:Rat,a=a+(b - a)*(1 / 2)→a=b:=fun a b h=>by grind
 have x1:=e3 m.pf.x m.pt.x (congrArg P3.x e2)
 have x2:=e3 m.pf.y m.pt.y (congrArg P3.y e2)
 have x3:=e3 m.pf.z m.pt.z (congrArg P3.z e2)
 generalize m.pf=p at *
 generalize m.pt=q at *
 cases p
 cases q
 simp only at x1 x2 x3
 rw[x1,x2,x3]
end
section
open Go.RowKit Go.Shelf Kp
theorem zqA(m:Vm)(hm:VmOk m)(hr:flR (m.t.sub m.f) (m.t.sub m.f)≠0)(w:World)(hE:Env w) :
  Calls Tryz.prog 6 #[.agg m.c.toArray] w (MkE w (zkT (zd4 (m.t.sub m.f))) (zeL (m.t.sub m.f))) :=
 (zhL m hm hr w hE).mono fun _ _ h=>h.e (fun _ h=>zsX hr h)
theorem zqP(m:Vm)(hm:VmOk m)(hr:(m.t.sub m.f).z≠0)(w:World)(hE:Env w) :
  Calls Tryz.prog 7 #[.agg m.c.toArray] w (MkE w (zkT (zc2 (m.t.sub m.f))) (zdn (m.t.sub m.f))) :=
 (zjV m hm hr w hE).mono fun _ _ h=>h.e (fun _ h=>zqQ hr h)
theorem znj{q:Rat}(h:zc4 q=0):q=0:=by
 by_cases e:q=0
 ·exact e
 ·exact absurd h (zaU (zcK e))
theorem zqX(f t:P3):zeL (f.sub t)=zeL (t.sub f):=by
 obtain⟨h1,h2⟩:=neg_sub f t
 have h3:(f.sub t).z=0 ↔ (t.sub f).z=0:=by
  constructor
  ·intro e
   rw[e,show zc4 0=0 from rfl]at h2
   exact znj h2.symm
  ·intro e
   rw[e,show zc4 0=0 from rfl]at h2
   exact znj h2
 unfold zeL
 rw[h1,h2]
 simp only[h3]
theorem zrb{d:P3}(h:d.z≠0):(d.scale (1 / 2)).z≠0:=fun e=>h (by
 have:d.z*(1 / 2)=0:=e
 grind)
theorem zrd{d:P3}(h:flR d d≠0):flR (d.scale (1 / 2)) (d.scale (1 / 2))≠0:=fun e=>h (by
 rw[zlQ]at e
 grind)
theorem zpK{d:P3}(hF:flR d d≠0)(hz:d.z≠0):zeL (d.scale (1 / 2))=zeL d:=by
 obtain⟨h1,h2⟩:=zrc (zjL hF) (zc4 d.z)
 unfold zeL
 rw[if_neg (zrb hz),if_neg hz,zlQ,ztc,h1,h2]
theorem znY{d:P3}(hF:flR d d≠0)(hz:d.z≠0):zdn (d.scale (1 / 2))=zdn d:=by
 obtain⟨h1,h2⟩:=zpL (zjL hF) (zcK hz)
 unfold zdn
 rw[if_neg (zrd hF),if_neg hF,zlQ,ztc,h1,h2]
theorem zm3{T:List (Rat × Rat)}(h:zkT T=0):∃ C,zaR T=some C:=by
 unfold zkT at h
 cases hm:zaR T with
 | none=>rw[hm,if_pos rfl]at h;cases h
 | some C=>exact⟨C,rfl⟩
theorem ztq{d:P3}(hF:flR d d≠0)(hz:d.z≠0)(h:zkT (zd4 d)=0):FA (zeL d)∧∀ c∈zeL d,zbU c=true:=by
 obtain⟨C,hC⟩:=zm3 h
 rw[← zsX hF hC]
 exact(ziB (zaU (zcK hz)) (zdb (by decide) (zjL hF)) hC).2
theorem zr3{d:P3}(hF:flR d d≠0)(hz:d.z≠0)(h:zkT (zc2 d)=0):FA (zdn d)∧∀ c∈zdn d,zbU c=true:=by
 obtain⟨C,hC⟩:=zm3 h
 rw[← zqQ hz hC]
 exact(ziB (zaU (zdb (by decide) (zcK hz))) (zjL hF) hC).2
theorem zuY{d:P3}(hF:flR d d≠0)(hz:d.z≠0):(∀ cs,zdx (zgQ (zeL d) (zdn d))=some cs→cs.length≤2)∧∀ C,zaR (zgQ (zeL d) (zdn d))=some C→zgj C=[((1:Rat),1)]:=by
 unfold zeL zdn
 rw[if_neg hz,if_neg hF]
 exact inv_mul (zcK hz) (zjL hF)
theorem zqB(d:P3):(zeL d).length≤1:=by
 unfold zeL
 split <;> simp
theorem zpj(d:P3):(zdn d).length≤1:=by
 unfold zdn
 split <;> simp
theorem ztM(f t:P3):flR (t.sub f) (t.sub f)=0 ↔ (ze f.x == ze t.x && ze f.y == ze t.y)=true:=by
 have hs:∀ a b:Rat,(ze a == ze b)=true ↔ a=b:=fun a b=>by
  rw[beq_iff_eq]
  exact⟨fun h=>zaB h,fun h=>by rw[h]⟩
 rw[Bool.and_eq_true,hs,hs]
 have e:flR (t.sub f) (t.sub f)=(t.x - f.x)*(t.x - f.x)+(t.y - f.y)*(t.y - f.y):=rfl
 rw[e]
 constructor
 ·intro h
  have h1:=sq_nonneg (t.x - f.x)
  have h2:=sq_nonneg (t.y - f.y)
  have h3:(t.x - f.x)*(t.x - f.x)=0:=by grind
  have h4:(t.y - f.y)*(t.y - f.y)=0:=by grind
  have h5:t.x - f.x=0:=by rcases Rat.mul_eq_zero.1 h3 with e | e <;> exact e
  have h6:t.y - f.y=0:=by rcases Rat.mul_eq_zero.1 h4 with e | e <;> exact e
  exact⟨by grind,by grind⟩
 ·rintro⟨h1,h2⟩
  rw[h1,h2]
  grind
theorem zuk(f t:P3):(t.sub f).z=0 ↔ (ze f.z == ze t.z)=true:=by
 rw[beq_iff_eq]
 have e:(t.sub f).z=t.z - f.z:=rfl
 rw[e]
 constructor
 ·intro h
  rw[show f.z=t.z by grind]
 ·intro h
  have:=zaB h
  grind
theorem zvb{m:Mb}(h:MbOk m):mbC m=m.vm.c:=by
 obtain⟨e1,e2,e3⟩:=h.strf
 obtain⟨e4,e5,e6⟩:=h.strt
 unfold mbC Vm.c Mb.vm
 simp only
 rw[e1,e2,e3,e4,e5,e6]
end
end Go.Proofs.YtjnhmfcklodfdaaGreatDoor
namespace Kp
end Kp
namespace Go.Proofs.YtjnhmfcklodfdaaGreatDoor
section
open Go.RowKit Kp
theorem zva{c:UInt8}(h:c≠48):((c.toNat:Int) == 48)=false:=by
 have h2:c.toNat≠48:=fun e=>h (UInt8.toNat_inj.1 e)
 rw[beq_eq_false_iff_ne];omega
theorem zp4(x:Int):x.natAbs<10 ^ (Lib.itoa x).length:=Nat.lt_of_lt_of_le (zde x.natAbs) (Nat.pow_le_pow_right (by decide) (zdF x))
end
end Go.Proofs.YtjnhmfcklodfdaaGreatDoor
