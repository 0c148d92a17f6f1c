/-
  surd.Mul at valid lists of any numbers.; The mathematics of mitres.; RefM QA QB QC QD QE QF QG QH QI QJ QK QL QM, one behind the other.
-/
import Derived.Test.YtagkadlaeeoblaaGreatDoorBM18
import Derived.Test.YtagkadlaeeoblaaGreatDoorBM19
import Derived.Test.YtagkadlaeeoblaaGreatDoorBMEC
import Derived.Test.YtagkadlaeeoblaaGreatDoorBMMA
import Derived.Test.YtagkadlaeeoblaaGreatDoorBMSD
import Derived.Laws.IdiomStrings
set_option maxRecDepth 100000
set_option maxHeartbeats 4000000
namespace Go.Proofs.YtagkadlaeeoblaaGreatDoor
section
open Go.RowKit Kp
open Go.Lib (decDigits)
attribute [local go_sem] Oper.semAt_some
def zo6(a b:Rat × Nat):Rat × Rat:=(a.1*b.1,(a.2:Rat)*(b.2:Rat))
def zfP(L K:List (Rat × Nat)):List (Rat × Rat):=L.flatMap fun a=>K.map (zo6 a)
theorem zqi(L K:List (Rat × Nat))(a:Rat × Nat):zfP (L++[a]) K=zfP L K++K.map (zo6 a):=by
 unfold zfP
 rw[List.flatMap_append,List.flatMap_cons,List.flatMap_nil,List.append_nil]
theorem zn3(L K:List (Rat × Nat)):(zfP L K).length=L.length*K.length:=by
 induction L with
 | nil=>simp[zfP]
 | cons a r ih =>
  show ((K.map (zo6 a))++zfP r K).length=_
  rw[List.length_append,List.length_map,ih,List.length_cons,Nat.add_mul,Nat.one_mul,Nat.add_comm]
theorem zsP{L K:List (Rat × Nat)}(sL:SList L)(sK:SList K):∀ t∈zfP L K,TW t:=fun t ht=>by
 unfold zfP at ht
 obtain⟨a,ha,ht⟩:=List.mem_flatMap.1 ht
 obtain⟨b,hb,rfl⟩:=List.mem_map.1 ht
 have b1:=ze6 (n:=60) (by decide) (sL.term a ha).c60
 have b2:=ze6 (n:=60) (by decide) (sK.term b hb).c60
 refine⟨(b1.mul b2).zaj (by decide),((sL.term a ha).c40.mul (sK.term b hb).c40).zaj (by decide),?_⟩
 show 0≤((a.2:Rat)*(b.2:Rat)).num
 rw[← Rat.natCast_mul,Rat.num_natCast]
 omega
theorem Blk.grownM{w w':World}{b:Nat}{cs:List Value}{t:TypeId}{row:Option Nat}(h:Blk w b cs t)(hg:w.grownBy w' row)(hne:row≠some b):Blk w' b cs t:=by
 have:=h.lt
 unfold Blk at *
 rw[hg.block b this (fun e=>hne e.symm)]
 exact h
theorem zm1(L K:List (Rat × Nat))(sL:SList L)(sK:SList K)(hlen:L.length*K.length≤16)(hv2:∀ cs,zd2 (zfP L K)=some cs→cs.length≤2)
  (B1 B2:Nat)(v1 v2:Value)(w:World)(hE:Env w)(h1:zM w B1 v1 L)(h2:zM w B2 v2 K) :
  Calls Tryz.prog 13 #[v1,v2] w fun e w'=>Q w w'∧(zaU (zfP L K)=none→e=.returned (.tuple #[.slice none 0 0,.int .i64 4]))∧∀ C,zaU (zfP L K)=some C→∃ v',e=.returned (.tuple #[v',.int .i64 0])∧zM w' w.heap.size v' (zf8 C):=by
 have HB:=LH (zhz L K sL sK B1 B2 v1 v2 w hE h1 h2)
 have HTL:=LH (fun a ha=>sL.term a ha)
 have HTK:=LH (fun a ha=>sK.term a ha)
 have HMK:=LH (fun v w hw hv=>zey (zfP L K) (zsP sL sK) (by rw[zn3];exact hlen) hv2 v w hw hv)
 obtain⟨mk,hmk⟩:∃ mk,zaU (zfP L K)=mk:=⟨_,rfl⟩
 rw[hmk]at HMK ⊢
 have t1:=h1.tsl
 have t2:=h2.tsl
 obtain⟨a1,c1,e1,-⟩:=h1.form
 obtain⟨a2,c2,e2,-⟩:=h2.form
 have nL:L.length≤16:=sL.len
 have nK:K.length≤16:=sK.len
 clear h1 h2 sL sK hlen hv2 hmk
 subst e1
 subst e2
 obtain⟨a1',cap1,f1,-,hc1⟩:=t1
 obtain⟨a2',cap2,f2,-,hc2⟩:=t2
 rw[List.length_map]at f1 f2 hc1 hc2
 simp only[Value.slice.injEq]at f1 f2
 obtain⟨rfl,-,rfl⟩:=f1
 obtain⟨rfl,-,rfl⟩:=f2
 obtain⟨i0,hi,hz0,hz1,hz2⟩:=zck zeh
 have HI:=LH hi
 have HZ:=LH hz0
 have HS:=LH hz1
 have HBy:=LH hz2
 clear hi hz0 hz1 hz2
 go_enter Tryz.func13,Tryz.ntmps13
 go_wp2_with fail
 refine HB.out.mono ?_
 rintro e w1⟨rfl,hq1⟩
 clear HB
 go_wp2
 go_loopw [6,20] (fun o i wr=>∃ k:Nat,k≤L.length∧i=.int .i64 k∧Q w wr∧wr.ownsRow w.heap.size 42 2 o (zfP (L.take k) K).length (zcb ((zfP (L.take k) K).map ofT))) (fun _ i _=>L.length - (intOf i).toNat)
 case atStart=>exact⟨0,by omega,rfl,hq1,World.ownsRow_nil _ _ _ _⟩
 case round =>
  obtain⟨k,hk,rfl,hQ,hrow⟩:=hrel
  by_cases hlt:k<L.length
  ·obtain⟨b,o1,ha,hb,d0,d1⟩:=hc1 k hlt
   subst ha
   have c0:=(hQ.cell (p:=⟨b,o1+k*2,none⟩) hb).trans d0
   have c1:=(hQ.cell (p:=⟨b,o1+k*2+1,none⟩) hb).trans d1
   have hget:(L.map ofC).getD k ([],[])=ofC L[k]:=by rw[List.getD_eq_getElem?_getD,List.getElem?_map,List.getElem?_eq_getElem hlt];rfl
   rw[hget]at c0 c1
   simp only[ofC]at c0 c1
   have hTS:Hid (zfP (L.take (k+1)) K=zfP (L.take k) K++K.map (zo6 L[k])):=LH (by rw[List.take_succ_eq_append_getElem hlt,zqi])
   have HTa:=LH (HTL.out L[k] (List.getElem_mem hlt))
   have HK:Hid (k+1≤L.length):=LH hlt
   have HR:=LH hrow
   have hml:(zfP (L.take k) K).length≤256:=by
    rw[zn3]
    have h3:(L.take k).length≤L.length:=by rw[List.length_take];omega
    exact Nat.le_trans (Nat.mul_le_mul (by omega) (by omega)) (show 16*16≤256 by decide)
   have lbr:b<wr.heap.size:=Nat.lt_of_lt_of_le hb hQ.size
   clear hget d0 d1 hrow
   generalize zfP (L.take k) K=M0 at *
   generalize L[k]=A at *
   obtain⟨x,l⟩:=A
   simp only at c0 c1
   have T8:=Blk.new wr [.string ⟨(zh x).toArray⟩,.string ⟨(Lib.itoa (l:Int)).toArray⟩] 42
   have hQa:Q wr (wr.alloc (.cells [.string ⟨(zh x).toArray⟩,.string ⟨(Lib.itoa (l:Int)).toArray⟩].toArray 42)):=(Below.refl _ wr).alloc (Nat.le_refl _) _
   have HR0:=LH (HR.out.alloc (.cells [.string ⟨(zh x).toArray⟩,.string ⟨(Lib.itoa (l:Int)).toArray⟩].toArray 42))
   go_wp2
   generalize hg8:wr.heap.size=g8 at *
   go_loopw [6,26] (fun o i wr2=>∃ j:Nat,j≤K.length∧i=.int .i64 j∧Q w wr2∧Blk wr2 g8 [.string ⟨(zh x).toArray⟩,.string ⟨(Lib.itoa (l:Int)).toArray⟩] 42∧o.ownBlock≠some g8∧wr2.ownsRow w.heap.size 42 2 o (M0++(K.take j).map (zo6 (x,l))).length (zcb ((M0++(K.take j).map (zo6 (x,l))).map ofT))) (fun _ i _=>K.length - (intOf i).toNat)
   case atStart=>exact⟨0,by omega,rfl,Q.trans hQ hQa,T8,fun h=>by have:=(HR.out.lt _ h).2;omega,by rw[List.take_zero,List.map_nil,List.append_nil];exact HR0.out⟩
   case round =>
    clear c0 c1
    obtain⟨j,hj,rfl,hQ3,t8,hne8,hrow⟩:=hrel
    by_cases hlj:j<K.length
    ·obtain⟨b2,o2,ha,hb2,d0,d1⟩:=hc2 j hlj
     subst ha
     have f0:=(hQ3.cell (p:=⟨b2,o2+j*2,none⟩) hb2).trans d0
     have f1:=(hQ3.cell (p:=⟨b2,o2+j*2+1,none⟩) hb2).trans d1
     have hget:(K.map ofC).getD j ([],[])=ofC K[j]:=by rw[List.getD_eq_getElem?_getD,List.getElem?_map,List.getElem?_eq_getElem hlj];rfl
     rw[hget]at f0 f1
     simp only[ofC]at f0 f1
     have hTM:Hid (M0++(K.take (j+1)).map (zo6 (x,l))=(M0++(K.take j).map (zo6 (x,l)))++[zo6 (x,l) K[j]]):=LH (by rw[List.take_succ_eq_append_getElem hlj,List.map_append,List.append_assoc];rfl)
     have HTb:=LH (HTK.out K[j] (List.getElem_mem hlj))
     have HJ:Hid (j+1≤K.length):=LH hlj
     have hml2:(M0++(K.take j).map (zo6 (x,l))).length≤300:=by rw[List.length_append,List.length_map,List.length_take];omega
     have lb2:b2<wr.heap.size:=Nat.lt_of_lt_of_le hb2 hQ3.size
     have HR:=LH hrow
     clear hget d0 d1 hrow
     generalize M0++(K.take j).map (zo6 (x,l))=M1 at *
     generalize K[j]=A2 at *
     obtain⟨y,m⟩:=A2
     simp only at f0 f1
     have hTR:Hid (zcb ((M0++(K.take (j+1)).map (zo6 (x,l))).map ofT)=zcb (M1.map ofT)++[.string ⟨(zh (x*y)).toArray⟩,.string ⟨(zh ((l:Rat)*(m:Rat))).toArray⟩]∧(M0++(K.take (j+1)).map (zo6 (x,l))).length=M1.length+1):=LH (by
      rw[hTM.out,List.map_append,zgh,List.length_append];exact⟨rfl,rfl⟩)
     have HM1:=LH (fun w hw=>zbH x y (ze6 (n:=60) (by decide) HTa.out.c60) (ze6 (n:=60) (by decide) HTb.out.c60) (by decide) w hw)
     have hm2:=fun w hw=>zbH (l:Rat) (m:Rat) HTa.out.c40 HTb.out.c40 (by decide) w hw
     rw[zba,zba]at hm2
     have HM2:=LH hm2
     have b0:=t8.cell 0
     have b1:=t8.cell 1
     have lt8:=t8.lt
     simp only[zs4,zs5]at b0 b1
     clear hm2 hTM
     generalize M1.length=n1 at *
     generalize zcb (M1.map ofT)=rk at *
     generalize zh (x*y)=P at *
     generalize zh ((l:Rat)*(m:Rat))=R at *
     generalize zh x=sx at *
     generalize zh y=sy at *
     generalize Lib.itoa (l:Int)=sl at *
     generalize Lib.itoa (m:Int)=sm at *
     rcases ziJ HR.out with⟨hv0,-⟩|⟨g9,gc9,hv9⟩
     ·subst hv0
      have hq0:=hQ3.alloc hQ3.size (Obj.cells [.string ⟨sy.toArray⟩,.string ⟨sm.toArray⟩].toArray 42)
      have T10:=Blk.new wr [.string ⟨sy.toArray⟩,.string ⟨sm.toArray⟩] 42
      go_wp2_with fail
      refine cx (HM1.out _ (hE.q hq0)) fun w3 hq3=>?_
      have hQ4:=Q.trans hq0 hq3
      have u8:=(t8.alloc (Obj.cells [.string ⟨sy.toArray⟩,.string ⟨sm.toArray⟩].toArray 42)).keep hq3 (by simp;omega)
      have u10:=T10.keep hq3 (by simp)
      have p0:=u8.cell 1
      have p1:=u10.cell 1
      simp only[zs4,zs5]at p0 p1
      have lu8:=u8.lt
      have lu10:=u10.lt
      clear f0 f1 b0 b1 T10
      go_wp2_with fail
      refine cx (HM2.out _ (hE.q hQ4)) fun w4 hq4=>?_
      have hQ5:=Q.trans hQ4 hq4
      have hown:=zn (zn (HR.out.alloc (Obj.cells [.string ⟨sy.toArray⟩,.string ⟨sm.toArray⟩].toArray 42)) hq3) hq4
      have hown2:=hown.alloc (Obj.cells [.string ⟨P.toArray⟩,.string ⟨R.toArray⟩].toArray 42)
      have hnew:=Blk.new w4 [.string ⟨P.toArray⟩,.string ⟨R.toArray⟩] 42
      have hsz3:w.heap.size≤w4.heap.size:=hQ5.size
      have U8:=(u8.keep hq4 u8.lt).alloc (Obj.cells [.string ⟨P.toArray⟩,.string ⟨R.toArray⟩].toArray 42)
      have hs84:g8<w4.heap.size:=(u8.keep hq4 u8.lt).lt
      clear p0 p1 HM1 HM2 hown u8 u10 hq0 hq3 hq4 t8
      go_wp2_with (at_builtin;refine wpList_append_lies _ (by rfl) (.tmp 52) (.tmp 56) 36 (by rfl) w.heap.size 42 i0 _ 2 32 Tryz.underlying36 HI.out HZ.out HS.out HBy.out rfl (by decide) (.slice none 0 0) n1 rk (by rfl) hown2 ⟨w4.heap.size,0,none⟩ 1 1 [.string ⟨P.toArray⟩,.string ⟨R.toArray⟩] (by rfl) (by rfl) (World.news_of_block (cs:=#[.string ⟨P.toArray⟩,.string ⟨R.toArray⟩]) (t:=42) (fr:=(0,0)) hnew) (by simp[Value.oneCell']) (by decide) (by unfold maxLen;omega) (by omega) (by simp;omega) (w4.heap.size+1) (by simp) ?_;intro g4 cap4 w5 hown4 hgrow4 hat4 hlt4)
      go_roundw
      case rel =>
       exact⟨j+1,HJ.out,by go_num,(hQ5.alloc hQ5.size _).grown hgrow4 (by have:=hQ5.size;simp at this ⊢;omega) (fun q hq=>(hown2.lt q hq).1),U8.grownM hgrow4 (by intro h;cases h),fun h=>by(have h0:g4=g8:=by simpa[Value.ownBlock]using h);rcases hat4 with h1 | h1;(· cases h1);(· omega),by rw[hTR.out.1,hTR.out.2];exact hown4⟩
      case measure=>simp[intOf];omega
     ·subst hv9
      have hq0:=hQ3.alloc hQ3.size (Obj.cells [.string ⟨sy.toArray⟩,.string ⟨sm.toArray⟩].toArray 42)
      have T10:=Blk.new wr [.string ⟨sy.toArray⟩,.string ⟨sm.toArray⟩] 42
      go_wp2_with fail
      refine cx (HM1.out _ (hE.q hq0)) fun w3 hq3=>?_
      have hQ4:=Q.trans hq0 hq3
      have u8:=(t8.alloc (Obj.cells [.string ⟨sy.toArray⟩,.string ⟨sm.toArray⟩].toArray 42)).keep hq3 (by simp;omega)
      have u10:=T10.keep hq3 (by simp)
      have p0:=u8.cell 1
      have p1:=u10.cell 1
      simp only[zs4,zs5]at p0 p1
      have lu8:=u8.lt
      have lu10:=u10.lt
      clear f0 f1 b0 b1 T10
      go_wp2_with fail
      refine cx (HM2.out _ (hE.q hQ4)) fun w4 hq4=>?_
      have hQ5:=Q.trans hQ4 hq4
      have hown:=zn (zn (HR.out.alloc (Obj.cells [.string ⟨sy.toArray⟩,.string ⟨sm.toArray⟩].toArray 42)) hq3) hq4
      have hown2:=hown.alloc (Obj.cells [.string ⟨P.toArray⟩,.string ⟨R.toArray⟩].toArray 42)
      have hnew:=Blk.new w4 [.string ⟨P.toArray⟩,.string ⟨R.toArray⟩] 42
      have hsz3:w.heap.size≤w4.heap.size:=hQ5.size
      have U8:=(u8.keep hq4 u8.lt).alloc (Obj.cells [.string ⟨P.toArray⟩,.string ⟨R.toArray⟩].toArray 42)
      have hs84:g8<w4.heap.size:=(u8.keep hq4 u8.lt).lt
      clear p0 p1 HM1 HM2 hown u8 u10 hq0 hq3 hq4 t8
      go_wp2_with (at_builtin;refine wpList_append_lies _ (by rfl) (.tmp 52) (.tmp 56) 36 (by rfl) w.heap.size 42 i0 _ 2 32 Tryz.underlying36 HI.out HZ.out HS.out HBy.out rfl (by decide) (.slice (some ⟨g9,0,none⟩) n1 gc9) n1 rk (by rfl) hown2 ⟨w4.heap.size,0,none⟩ 1 1 [.string ⟨P.toArray⟩,.string ⟨R.toArray⟩] (by rfl) (by rfl) (World.news_of_block (cs:=#[.string ⟨P.toArray⟩,.string ⟨R.toArray⟩]) (t:=42) (fr:=(0,0)) hnew) (by simp[Value.oneCell']) (by decide) (by unfold maxLen;omega) (by omega) (by simp;omega) (w4.heap.size+1) (by simp) ?_;intro g4 cap4 w5 hown4 hgrow4 hat4 hlt4)
      go_roundw
      case rel =>
       exact⟨j+1,HJ.out,by go_num,(hQ5.alloc hQ5.size _).grown hgrow4 (by have:=hQ5.size;simp at this ⊢;omega) (fun q hq=>(hown2.lt q hq).1),U8.grownM hgrow4 hne8,fun h=>by(have h0:g4=g8:=by simpa[Value.ownBlock]using h);rcases hat4 with h1 | h1;(· exact hne8 (by rw[h1,h0]));(· omega),by rw[hTR.out.1,hTR.out.2];exact hown4⟩
      case measure=>simp[intOf];omega
    ·obtain rfl:j=K.length:=by omega
     rw[List.take_length]at hrow
     have HRW:=LH hrow
     clear hrow
     go_wp2
     go_roundw
     case rel=>exact⟨k+1,HK.out,by go_num,hQ3,by rw[hTS.out];exact HRW.out⟩
     case measure=>simp[intOf];omega
  ·obtain rfl:k=L.length:=by omega
   rw[List.take_length]at hrow
   obtain⟨oa,oc,ho⟩:=zgd hrow
   have hts:TSl wr wr.heap.size _ ((zfP L K).map ofT):=TSl.of_row (by rw[List.length_map];exact hrow)
   subst ho
   have HTS:=LH hts
   clear hts hrow
   generalize (zfP L K).length=n0 at *
   go_wp2_with fail
   refine(HMK.out _ _ (hE.q hQ) HTS.out).mono ?_
   rintro e w4⟨hq4,hn,hs⟩
   have hQ4:=Q.trans hQ hq4
   by_cases hm:mk=none
   ·obtain rfl:=hn hm
    have HM:=LH hm
    clear hm hn hs
    go_wp2
    go_ret2
    exact⟨hQ4,fun _=>rfl,fun C h=>by rw[HM.out]at h;cases h⟩
   ·obtain⟨C,hm⟩:=Option.ne_none_iff_exists'.1 hm
    obtain⟨v5,rfl,hr5⟩:=hs C hm
    have HR5:=LH hr5
    have HM:=LH hm
    clear hm hn hs hr5
    go_wp2
    go_ret2
    refine⟨hQ4,fun h=>(by rw[HM.out]at h;cases h),fun C' h=>?_⟩
    rw[HM.out]at h
    cases h
    exact⟨_,rfl,by have:=Joins.ownsRow_le HR5.out hQ.size;rw[List.length_map]at this;exact this⟩
end
section
open Go.RowKit Kp
open Go.Lib (decDigits)
theorem zc5:∀ (n:Nat) (M:List (Rat × Rat)),M.length=n→(∀ t∈M,t.1≠0∧t.2≠0)→∀ cs,zd2 M=some cs→cs=zlJ [] (M.map fun t=>(t.1*aOf t.2,leftOf t.2))
 | 0,M,hn,_,cs,h=>by
  obtain rfl:=List.length_eq_zero_iff.1 hn
  cases h
  rfl
 | n+1,M,hn,hM,cs,h=>by
  obtain⟨l,t,rfl⟩:∃ l t,M=l++[t]:=⟨M.dropLast,M.getLast (fun e=>by rw[e]at hn;cases hn),(List.dropLast_concat_getLast _).symm⟩
  rw[zew]at h
  cases hv:zd2 l with
  | none=>rw[hv]at h;cases h
  | some c0 =>
   rw[hv]at h
   have ih:=zc5 n l (by simpa using hn) (fun x hx=>hM x (List.mem_append_left _ hx)) c0 hv
   obtain⟨h1,h2⟩:=hM t (by simp)
   obtain⟨c,r⟩:=t
   have hs:=zf3 h1 h2 h
   subst ih
   rw[hs,List.map_append]
   unfold zlJ
   rw[List.foldl_append]
   rfl
theorem zeN{M:List (Rat × Rat)}(hM:∀ t∈M,t.1≠0∧t.2≠0){C:List (Rat × Nat)}(h:zaU M=some C):C=zc9 (zlJ [] (M.map fun t=>(t.1*aOf t.2,leftOf t.2))):=by
 unfold zaU at h
 cases hv:zd2 M with
 | none=>rw[hv]at h;cases h
 | some cs =>
  rw[hv]at h
  simp only[Option.bind_some]at h
  split at h
  ·rw[← Option.some.inj h,zc5 _ M rfl hM cs hv]
  ·cases h
def zlg(X y:Rat)(n:Nat):List (Rat × Nat):=if y=0 then [(X,n)]else if n=1 then [(X+y,1)]else [(y,1),(X,n)]
theorem zqZ(u v:P3):flR u u*flR v v=coR u v*coR u v+flR u v*flR u v:=by unfold flR coR;grind
theorem zhh{u v:P3}(hc:coR u v≠0):0<flR u u*flR v v:=by
 rw[zqZ]
 have h2:=sq_pos hc
 have hd:=sq_nonneg (flR u v)
 grind
def zjK(u v:P3):Rat:=1 / zbE (coR u v)*aOf (flR u u*flR v v)
def zpa(u v:P3):Rat:=-1*(1 / zbE (coR u v)*flR u v)
def zpb(u v:P3):Nat:=leftOf (flR u u*flR v v)
theorem zsl{u v:P3}(hc:coR u v≠0):zjK u v*zjK u v*(zpb u v:Rat)=1+zpa u v*zpa u v:=by
 have hv:=zor (npos (zhh hc))
 have pc:=zaw (zb3 hc)
 have e:zbE (coR u v)*zbE (coR u v)=coR u v*coR u v:=zq9 _
 unfold zjK zpa zpb
 have e1:1 / zbE (coR u v)*aOf (flR u u*flR v v)*(1 / zbE (coR u v)*aOf (flR u u*flR v v))*(leftOf (flR u u*flR v v):Rat)=(flR u u*flR v v) / (zbE (coR u v)*zbE (coR u v)):=by
  have e0:aOf (flR u u*flR v v)*aOf (flR u u*flR v v)*(leftOf (flR u u*flR v v):Rat)=flR u u*flR v v:=hv
  generalize aOf (flR u u*flR v v)=a at *
  generalize (leftOf (flR u u*flR v v):Rat)=l at *
  rw[← e0]
  grind
 rw[e1,zqZ,e]
 have:=sq_pos hc
 have h3:=zaw this
 rw[← e]at h3 ⊢
 grind
theorem zn4{u v:P3}(hc:coR u v≠0):0<zjK u v:=Rat.mul_pos (zlu (by decide) (zb3 hc)) (zos (npos (zhh hc)))
theorem zfe{X y:Rat}(h:X*X=1+y*y):X+y≠0:=fun e=>by
 have:y = -X:=by grind
 rw[this]at h
 grind
theorem zil{u v:P3}(hc:coR u v≠0){C:List (Rat × Nat)}(h:zaU (zn5 u v)=some C):zf8 C=zlg (zjK u v) (zpa u v) (zpb u v)∧FA (zf8 C)∧∀ c∈zf8 C,zbp c=true:=by
 have hs:∀ c∈zf8 C,zbp c=true:=fun c hc=>zjb h c (zn6 hc)
 have hn:zdh (zpb u v):=zgE (npos (zhh hc))
 have hX:=zn4 hc
 have hq:=zsl hc
 have hf:=zrf (zlu (by decide) (zb3 hc)) (zhh hc) h
 rw[show 1 / zbE (coR u v)*aOf (flR u u*flR v v)=zjK u v from rfl,show -1*(1 / zbE (coR u v)*flR u v)=zpa u v from rfl,show leftOf (flR u u*flR v v)=zpb u v from rfl]at hf
 refine⟨?_,?_,hs⟩
 ·unfold zlg
  rcases hf with⟨h0,rfl⟩|⟨h0,h1,rfl⟩|⟨h0,h1,rfl⟩
  ·rw[if_pos h0];rfl
  ·rw[h1,show ((1:Nat):Rat)=1 from rfl,show zjK u v*zjK u v*1=zjK u v*zjK u v by grind]at hq
   rw[if_neg h0,if_pos h1,zhd (zfe hq)];rfl
  ·rw[if_neg h0,if_neg h1,zpO hn h1]
 ·rcases hf with⟨h0,rfl⟩|⟨h0,h1,rfl⟩|⟨h0,h1,rfl⟩
  ·exact .inl ⟨_,_,rfl,zaw hX,hn⟩
  ·rw[h1,show ((1:Nat):Rat)=1 from rfl,show zjK u v*zjK u v*1=zjK u v*zjK u v by grind]at hq
   have hne:=zfe hq
   rw[zhd hne]
   exact .inl ⟨_,_,rfl,hne,zk8⟩
  ·rw[zpO hn h1]
   exact .inr ⟨_,_,_,rfl,h0,zaw hX,hn,h1⟩
theorem zqm(u v:P3):zn5 v u=zn5 u v:=by
 have e1:coR v u = -coR u v:=by unfold coR;grind
 have e2:flR v u=flR u v:=by unfold flR;grind
 unfold zn5
 rw[e1,zlG,e2,Rat.mul_comm (flR v v) (flR u u)]
theorem zo9{u v b:P3}(hx:b.x = -v.x)(hy:b.y = -v.y):coR u b = -coR u v∧zjK u b=zjK u v∧zpa u b = -zpa u v∧zpb u b=zpb u v:=by
 have e1:coR u b = -coR u v:=by unfold coR;rw[hx,hy];grind
 have e2:flR u b = -flR u v:=by unfold flR;rw[hx,hy];grind
 have e3:flR b b=flR v v:=by unfold flR;rw[hx,hy];grind
 refine⟨e1,?_,?_,?_⟩
 ·unfold zjK;rw[e1,zlG,e3]
 ·unfold zpa;rw[e1,zlG,e2];grind
 ·unfold zpb;rw[e3]
theorem zsQ{X y:Rat}{n:Nat}(hX:0<X)(hn:zdh n)(h:X*X*(n:Rat)=1+y*y) :
  (∀ cs,zd2 (zfP (zlg X y n) (zlg X (-y) n))=some cs→cs.length≤2)∧∀ C,zaU (zfP (zlg X y n) (zlg X (-y) n))=some C→zf8 C=[((1:Rat),1)]:=by
 have hX0:=zaw hX
 have hn0:(0:Rat)<(n:Rat):=by
  have:=hn.1
  exact Rat.natCast_pos.2 this
 obtain⟨s1,s2⟩:=zkE hn0
 obtain⟨p1,p2⟩:=zkg hn
 by_cases hy:y=0
 ·subst hy
  have e:zfP (zlg X 0 n) (zlg X (-0) n)=[(X*X,(n:Rat)*(n:Rat))]:=by
   unfold zlg
   rw[if_pos rfl,if_pos (by grind)]
   rfl
  rw[e]
  have hM:∀ t∈[(X*X,(n:Rat)*(n:Rat))],t.1≠0∧t.2≠0:=fun t ht=>by
   rw[List.mem_singleton]at ht
   subst ht
   exact⟨zaw (Rat.mul_pos hX hX),zaw (Rat.mul_pos hn0 hn0)⟩
  have hg:zlJ [] ([(X*X,(n:Rat)*(n:Rat))].map fun t=>(t.1*aOf t.2,leftOf t.2))=[(1,1)]:=by
   show [(X*X*aOf ((n:Rat)*(n:Rat)),leftOf ((n:Rat)*(n:Rat)))]=_
   rw[s1,s2,h]
   congr 2
   grind
  refine⟨fun cs hc=>?_,fun C hC=>?_⟩
  ·rw[zc5 _ _ rfl hM cs hc,hg];simp
  ·rw[zeN hM hC,hg,zhd (by decide)];rfl
 ·have hy':-y≠0:=zsj hy
  by_cases h1:n=1
  ·subst h1
   rw[show ((1:Nat):Rat)=1 from rfl,show X*X*1=X*X by grind]at h
   have a1:=zfe h
   have a2:X + -y≠0:=zfe (by grind)
   have e:zfP (zlg X y 1) (zlg X (-y) 1)=[((X+y)*(X + -y),1)]:=by
    unfold zlg
    rw[if_neg hy,if_pos rfl,if_neg hy',if_pos rfl]
    show [((X+y)*(X + -y),((1:Nat):Rat)*((1:Nat):Rat))]=_
    rw[show ((1:Nat):Rat)=1 from rfl,show (1:Rat)*1=1 by grind]
   rw[e]
   have hM:∀ t∈[((X+y)*(X + -y),(1:Rat))],t.1≠0∧t.2≠0:=fun t ht=>by
    rw[List.mem_singleton]at ht
    subst ht
    exact⟨fun e=>by rcases Rat.mul_eq_zero.1 e with e | e;exact a1 e;exact a2 e,(show (1:Rat)≠0 by decide)⟩
   have hg:zlJ [] ([((X+y)*(X + -y),(1:Rat))].map fun t=>(t.1*aOf t.2,leftOf t.2))=[(1,1)]:=by
    show [((X+y)*(X + -y)*aOf 1,leftOf 1)]=_
    rw[zf0,zbQ]
    congr 2
    grind
   refine⟨fun cs hc=>?_,fun C hC=>?_⟩
   ·rw[zc5 _ _ rfl hM cs hc,hg];simp
   ·rw[zeN hM hC,hg,zhd (by decide)];rfl
  ·have e:zfP (zlg X y n) (zlg X (-y) n)=[(y*-y,1),(y*X,(n:Rat)),(X*-y,(n:Rat)),(X*X,(n:Rat)*(n:Rat))]:=by
    unfold zlg
    rw[if_neg hy,if_neg h1,if_neg hy',if_neg h1]
    show [(y*-y,((1:Nat):Rat)*((1:Nat):Rat)),(y*X,((1:Nat):Rat)*(n:Rat)),(X*-y,(n:Rat)*((1:Nat):Rat)),(X*X,(n:Rat)*(n:Rat))]=_
    rw[show ((1:Nat):Rat)=1 from rfl,show (1:Rat)*1=1 by grind,show (1:Rat)*(n:Rat)=(n:Rat) by grind,show (n:Rat)*1=(n:Rat) by grind]
   rw[e]
   have hM:∀ t∈[(y*-y,(1:Rat)),(y*X,(n:Rat)),(X*-y,(n:Rat)),(X*X,(n:Rat)*(n:Rat))],t.1≠0∧t.2≠0:=fun t ht=>by
    simp only[List.mem_cons,List.not_mem_nil,or_false]at ht
    rcases ht with rfl | rfl | rfl | rfl
    ·exact⟨fun e=>by rcases Rat.mul_eq_zero.1 e with e | e;exact hy e;exact hy' e,(show (1:Rat)≠0 by decide)⟩
    ·exact⟨fun e=>by rcases Rat.mul_eq_zero.1 e with e | e;exact hy e;exact hX0 e,zaw hn0⟩
    ·exact⟨fun e=>by rcases Rat.mul_eq_zero.1 e with e | e;exact hX0 e;exact hy' e,zaw hn0⟩
    ·exact⟨zaw (Rat.mul_pos hX hX),zaw (Rat.mul_pos hn0 hn0)⟩
   have hg:zlJ [] ([(y*-y,(1:Rat)),(y*X,(n:Rat)),(X*-y,(n:Rat)),(X*X,(n:Rat)*(n:Rat))].map fun t=>(t.1*aOf t.2,leftOf t.2))=[(1,1),(0,n)]:=by
    show zlJ [] [(y*-y*aOf 1,leftOf 1),(y*X*aOf (n:Rat),leftOf (n:Rat)),(X*-y*aOf (n:Rat),leftOf (n:Rat)),(X*X*aOf ((n:Rat)*(n:Rat)),leftOf ((n:Rat)*(n:Rat)))]=_
    rw[zf0,zbQ,p1,p2,s1,s2,zmT,zdZ (ze1 hn h1).1,ziu,zdZ (ze1 hn h1).1,ze7 _ _ _ hn.1,ze7 _ _ _ (by decide),h]
    congr 2
    ·grind
    ·congr 1
     grind
   have ho:zc9 [((1:Rat),1),((0:Rat),n)]=[((1:Rat),1)]:=by
    unfold zc9
    rw[List.filter_cons,if_pos (by simp),List.filter_cons,if_neg (by simp)]
    rfl
   refine⟨fun cs hc=>?_,fun C hC=>?_⟩
   ·rw[zc5 _ _ rfl hM cs hc,hg];simp
   ·rw[zeN hM hC,hg,ho];rfl
theorem ztw{x s y:Rat}(bx:Bd 10 x)(bs:Bd 15 s)(bY:Bd 19 y)(hx:0<x)(hs:0<s):zaU [(x,s),(y,1)]≠none:=by
 have hp:=npos hs
 have hn:zdh (leftOf s):=zgE hp
 have ba:Bd 30 (aOf s):=zsw bs hp
 have bl:Bd 30 ((leftOf s:Nat):Rat):=zso bs hp (by decide)
 have bX:Bd 40 (x*aOf s):=bx.mul ba
 have mulf:∀ {a b:Rat} {k l:Nat},Bd k a→Bd l b→k+l≤300→mulL a b=false:=fun {a b k l} ha hb h=>by
  unfold mulL
  rw[zay (n:=k+l) (zar ha.1 hb.1) h,zay (n:=k+l) (by rw[← Int.natCast_mul,Int.natAbs_natCast];exact zbS ha hb) h]
  rfl
 have r9:∀ {q:Rat} {k:Nat},Bd k q→k≤90→r90 q=true:=fun {q k} h hk=>by
  have hr:=h.root90 hk
  unfold r90
  rw[decide_eq_true hr.1,decide_eq_true hr.2]
  rfl
 have h1:zgX [] (x,s)=some [(x*aOf s,leftOf s)]:=by
  rw[zkG (zaw hx) (zaw hs) (r9 bs (by decide)) (by have:=zed bl (by decide);omega) (mulf bx ba (by decide)) rfl]
  rfl
 have hl1:za5 ((leftOf 1:Nat):Rat)≤90:=by rw[zbQ];have:=zed (q:=((1:Nat):Rat)) (n:=1) zco (by decide);omega
 have e:zd2 [(x,s),(y,1)]=(zgX [] (x,s)).bind fun cs=>zgX cs (y,1):=rfl
 have short1:∀ {z:Rat} {n:Nat},Bd 60 z→Bd 40 (n:Rat)→zbp (z,n)=true:=fun {z n} h k=>by
  unfold zbp
  have l1:=zed h (by decide)
  have l2:=zed k (by decide)
  simp only[Bool.and_eq_true,decide_eq_true_eq]
  exact⟨by omega,by omega⟩
 have sX:=short1 (bX.mono (by decide)) (bl.mono (by decide))
 have hX:=zaw (Rat.mul_pos hx (zos hp))
 by_cases hy:y=0
 ·subst hy
  unfold zaU
  rw[e,h1]
  simp only[Option.bind_some]
  rw[zlM]
  simp only[Option.bind_some]
  rw[zhd hX,if_pos (by simp only[List.all_cons,List.all_nil,Bool.and_true];exact sX)]
  simp
 ·have bXy:Bd 60 (x*aOf s+y):=(bX.add bY).mono (by decide)
  have sy:=short1 (n:=1) (bY.mono (by decide)) (show Bd 40 ((1:Nat):Rat)from zco.mono (by decide))
  have ha:zka [(x*aOf s,leftOf s)] (y*aOf 1,leftOf 1)=false:=by
   rw[zf0,zbQ,show y*1=y by grind]
   show (if zcQ (((1:Nat):Rat) / (leftOf s:Rat))=true then _ else _)=false
   by_cases hn1:leftOf s=1
   ·rw[hn1]
    have hr:=znT (a:=1) (by decide)
    rw[if_pos (show zcQ (((1:Nat):Rat) / ((1:Nat):Rat))=true from hr.1),if_neg (show ¬ (1:Nat)<1 by decide)]
    unfold zh8
    simp only
    rw[hr.2,mulf bY zco (by decide),show y*1=y by grind]
    unfold zj9
    have k1:=zay (n:=40+19) (zar bX.1 (show ((y.den:Int)).natAbs<10 ^ 19 by rw[Int.natAbs_natCast];exact bY.2)) (by decide)
    have k2:=zay (n:=19+40) (zar bY.1 (show (((x*aOf s).den:Int)).natAbs<10 ^ 40 by rw[Int.natAbs_natCast];exact bX.2)) (by decide)
    have k3:lim ((x*aOf s).num*(y.den:Int)+y.num*((x*aOf s).den:Int))=false:=zay (n:=60) (by
     have h1:=zar bX.1 (show ((y.den:Int)).natAbs<10 ^ 19 by rw[Int.natAbs_natCast];exact bY.2)
     have h2:=zar bY.1 (show (((x*aOf s).den:Int)).natAbs<10 ^ 40 by rw[Int.natAbs_natCast];exact bX.2)
     have:=Int.natAbs_add_le ((x*aOf s).num*(y.den:Int)) (y.num*((x*aOf s).den:Int))
     have e1:(10:Nat) ^ (40+19)+10 ^ (19+40)≤10 ^ 60:=by decide
     omega) (by decide)
    have k4:=zay (n:=40+19) (z:=((x*aOf s).den:Int)*(y.den:Int)) (by rw[← Int.natCast_mul,Int.natAbs_natCast];exact zbS bX bY) (by decide)
    rw[k1,k2,k3,k4]
    rfl
   ·rw[if_neg (show ¬ zcQ (((1:Nat):Rat) / (leftOf s:Rat))=true from(ze1 hn hn1).2)]
    rfl
  have h2:zgX [(x*aOf s,leftOf s)] (y,1)=some (zd0 [(x*aOf s,leftOf s)] (y,1)):=by
   rw[zkG hy (by decide) zqa hl1 (by rw[zf0];exact mulf bY zco (by decide)) ha,zf0,zbQ,show y*1=y by grind]
  unfold zaU
  rw[e,h1]
  simp only[Option.bind_some]
  rw[h2]
  simp only[Option.bind_some]
  by_cases hn1:leftOf s=1
  ·rw[zlE hn.1 hn1.symm,hn1]
   by_cases h0:x*aOf s+y=0
   ·have ho:zc9 [(x*aOf s+y,1)]=[]:=by
     unfold zc9
     rw[List.filter_cons,if_neg (by simp[h0])]
     rfl
    rw[ho]
    simp
   ·rw[zhd h0,if_pos (by simp only[List.all_cons,List.all_nil,Bool.and_true];exact short1 bXy (show Bd 40 ((1:Nat):Rat)from zco.mono (by decide)))]
    simp
  ·rw[zdZ (ze1 hn hn1).2,ziu]
   have ho:zc9 [(x*aOf s,leftOf s),(y,1)]=[(x*aOf s,leftOf s),(y,1)]:=by
    unfold zc9
    rw[List.filter_cons,if_pos (by simp[hX]),List.filter_cons,if_pos (by simp[hy])]
    rfl
   rw[ho,if_pos (by simp only[List.all_cons,List.all_nil,Bool.and_true,Bool.and_eq_true];exact⟨sX,sy⟩)]
   simp
theorem zqk{u v:P3}(hc:coR u v≠0)(hf:flR u v=0):zlg (zjK u v) (zpa u v) (zpb u v)=[((1:Rat),1)]:=by
 have hp:=zb3 hc
 obtain⟨s1,s2⟩:=zkE hp
 have e:flR u u*flR v v=zbE (coR u v)*zbE (coR u v):=by rw[zqZ,hf,zq9];grind
 have hY:zpa u v=0:=by unfold zpa;rw[hf];grind
 have hX:zjK u v=1:=by
  unfold zjK
  rw[e,s1]
  have:=zaw hp
  grind
 have hN:zpb u v=1:=by unfold zpb;rw[e,s2]
 unfold zlg
 rw[hY,if_pos rfl,hX,hN]
def iV(a b:Int)(z:Rat):P3:=⟨(a:Rat),(b:Rat),z⟩
theorem zrH(a b c d:Int)(z z':Rat):flR (iV a b z) (iV c d z')=((a*c+b*d:Int):Rat):=by
 unfold flR iV
 rw[Rat.intCast_add,Rat.intCast_mul,Rat.intCast_mul]
theorem ztN(a b c d:Int)(z z':Rat):coR (iV a b z) (iV c d z')=((a*d - b*c:Int):Rat):=by
 unfold coR iV
 rw[Rat.intCast_sub,Rat.intCast_mul,Rat.intCast_mul]
theorem zdD{a b:Int}(ha:-512≤a∧a≤512)(hb:-512≤b∧b≤512):-262144≤a*b∧a*b≤262144:=by
 have h1:(a*b).natAbs≤512*512:=by rw[Int.natAbs_mul];exact Nat.mul_le_mul (by omega) (by omega)
 omega
theorem zql(a b c d:Int)(z z':Rat)(ha:-512≤a∧a≤512)(hb:-512≤b∧b≤512)(hc:-512≤c∧c≤512)(hd:-512≤d∧d≤512)(h:coR (iV a b z) (iV c d z')≠0):∃ C,zaU (zn5 (iV a b z) (iV c d z'))=some C:=by
 have bco:Bd 6 (coR (iV a b z) (iV c d z')):=by
  rw[ztN]
  exact zft (by have:=zdD ha hd;have:=zdD hb hc;omega) (by decide)
 have bfl:Bd 6 (flR (iV a b z) (iV c d z')):=by
  rw[zrH]
  exact zft (by have:=zdD ha hc;have:=zdD hb hd;omega) (by decide)
 have bR:Bd 15 (flR (iV a b z) (iV a b z)*flR (iV c d z') (iV c d z')):=by
  rw[zrH,zrH,← Rat.intCast_mul]
  refine zft ?_ (by decide)
  rw[Int.natAbs_mul]
  have h1:(a*a+b*b).natAbs≤524288:=by have:=zdD ha ha;have:=zdD hb hb;omega
  have h2:(c*c+d*d).natAbs≤524288:=by have:=zdD hc hc;have:=zdD hd hd;omega
  exact Nat.lt_of_le_of_lt (Nat.mul_le_mul h1 h2) (by decide)
 have bx:Bd 7 (1 / zbE (coR (iV a b z) (iV c d z'))):=zco.quot (ze8 bco) (npos (zb3 h))
 cases hm:zaU (zn5 (iV a b z) (iV c d z'))with
 | some C=>exact⟨C,rfl⟩
 | none=>exact absurd hm (ztw (bx.mono (by decide)) bR (by rw[show ∀ q:Rat,-1*q = -q from fun q=>by grind];exact(zsk (bx.mul bfl)).mono (by decide)) (zlu (by decide) (zb3 h)) (zhh h))
end
end Go.Proofs.YtagkadlaeeoblaaGreatDoor
namespace Kp
end Kp
namespace Go.Proofs.YtagkadlaeeoblaaGreatDoor
section
open Go.RowKit Kp
open Go.Lib (decDigits)
end
section
open Go.RowKit Kp
open Go.Lib (decDigits)
end
section
open Go.RowKit Kp
open Go.Lib (decDigits)
end
section
open Go.RowKit Kp
open Go.Lib (decDigits)
end
section
open Go.RowKit Kp
open Go.Lib (decDigits)
end
section
open Go.RowKit Kp
open Go.Lib (decDigits)
end
section
open Go.RowKit Kp
open Go.Lib (decDigits)
end
section
open Go.RowKit Kp
open Go.Lib (decDigits)
def zlz(l:Str):List Value:=l.map fun c=>.int .u8 (c.toNat:Int)
theorem zok(l:Str)(j:Nat)(hj:j<l.length):(zlz l)[j]? = some (.int .u8 ((at0 l j).toNat:Int)):=by
 unfold zlz;rw[List.getElem?_map,List.getElem?_eq_getElem hj,zel l j hj];rfl
theorem zq2(l:Str)(j:Nat)(c:UInt8):(zlz l).set j (.int .u8 (c.toNat:Int))=zlz (l.set j c):=by simp[zlz,List.map_set]
theorem znH(n:Nat):List.replicate n (Value.int .u8 0)=zlz (List.replicate n 0):=by simp[zlz]
theorem zpw{w:World}{B g n cap:Nat}{l:Str}(h:w.ownsRow B 5 1 (.slice (some ⟨g,0,none⟩) n cap) n (zlz l))(hn:l.length=n)(k:Nat)(hk:k≤n)(c:Nat) :
  (convert 134 9 (.slice (some ⟨g,k,none⟩) (n - k) c)).run Tryz.prog w=.ok (.string ⟨(l.drop k).toArray⟩) w:=by
 have e:n - k=(l.drop k).length:=by rw[List.length_drop,hn]
 rw[e]
 refine run_convert_bytes_back w 134 9 5 ⟨g,k,none⟩ c (l.drop k) Tryz.underlying134 Tryz.underlying5 Tryz.underlying9 (fun j hj=>?_)
 have hadd:(⟨g,k,none⟩:Addr).add j=⟨g,k+j,none⟩:=by unfold Addr.add;split <;> simp_all
 rw[List.length_drop]at hj
 rw[hadd,h.cellAt (k+j) (by omega),zok l (k+j) (by omega),List.getElem_drop,zel]
theorem znO{n:Int}(h0:0≤n)(h1:n<256):((UInt8.ofNat n.toNat).toNat:Int)=n:=by
 rw[UInt8.toNat_ofNat_of_lt' (by show n.toNat<256;omega)];omega
end
section
open Go.RowKit Kp
open Go.Lib (decDigits)
end
section
open Go.RowKit Kp
open Go.Lib (decDigits)
end
section
open Go.RowKit Kp
open Go.Lib (decDigits)
end
section
open Go.RowKit Kp
open Go.Lib (decDigits)
end
section
open Go.RowKit Kp
open Go.Lib (decDigits)
end
end Go.Proofs.YtagkadlaeeoblaaGreatDoor
