/-
  Walks of package integer: write, result.; Walks of package integer at numbers of any length: result, Add, Sub, Mul.
-/
import Derived.Test.YtapnkgdnflofbaaGreatDoorCH07
import Derived.Test.YtapnkgdnflofbaaGreatDoorCH02
set_option maxRecDepth 100000
set_option maxHeartbeats 1000000
namespace Go.Proofs.YtapnkgdnflofbaaGreatDoor
section
open Go.RowKit Go.Shelf Kp
open Go.Lib (decDigits)
attribute [local go_sem] Oper.semAt_some
theorem zhx{T e:TypeId}{B b:Nat}{p:Value}{bs:List Value}{w w':World}(h:Lib.BuilderAt T e B b p bs w)(k:KC w w'):Lib.BuilderAt T e B b p bs w':=by
 obtain⟨hB,v,hc,hown,hne⟩:=h
 exact⟨hB,v,k.2 _ _ _ _ hc,zJ hown k,hne⟩
theorem zbk{T e:TypeId}{B b:Nat}{bs:List Value}{w w':World}(h:Lib.IsBuilder T e B b bs w)(k:KC w w'):Lib.IsBuilder T e B b bs w' :=
 h.elim (fun x=>.inl (zhx x k)) (fun x=>.inr (zhx x k))
theorem zbi{T e:TypeId}{B b:Nat}{bs:List Value}{w:World}(h:Lib.IsBuilder T e B b bs w):∃ cs,w.heap[b]? = some (.cells cs T (0,0)):=by
 rcases h with⟨_,v,hc,_⟩|⟨_,v,hc,_⟩
 ·exact⟨_,hc⟩
 ·exact⟨_,hc⟩
theorem zbG(a b:Str):Lib.byteCells (a++b)=Lib.byteCells a++Lib.strCells ⟨b.toArray⟩:=by rw[Lib.byteCells_append];rfl
theorem zdR{w w':World}{S b B:Nat}{t:TypeId}{v:Value}(h:Boxed w S t v)(h':Boxed w' S t v)(hb:Below B w w')(hB:b<B):zI [S,b] w w':=fun k hk hlt=>by
 rcases List.mem_cons.1 hk with rfl | hk
 ·exact h'.trans h.symm
 ·obtain rfl:k=b:=by simpa using hk
  exact hb.block k hB
theorem zq5(z:Int)(hz:0<z)(mi:Bool)(lz:(limbs LB z).length≤50000)(v1:Value)(w:World)(hE:Env w)(i1:zO w v1 (limbs LB z)) :
  CallsIn Fence.wide 9 Tryz.prog 202 #[.agg #[.bool mi,v1]] w fun e w'=>e=.returned (.string ⟨((if mi then [45]else [])++decDigits z.toNat).toArray⟩)∧Q w w':=by
 have dz:=zQ (B:=LB) (by decide) z
 have hlast:=LH (zjQ (B:=LB) (by decide) z)
 have hdone:=LH (zob hz)
 have hn0:0<(limbs LB z).length:=by rw[zbz (by decide) hz];simp
 generalize limbs LB z=l at *
 obtain⟨n,hn⟩:∃ n,l.length=n:=⟨_,rfl⟩
 obtain⟨bA,oA,cA,rfl,hA⟩:∃ b o cap,v1=.slice (some ⟨b,o,none⟩) n cap∧zjb w b o l:=by
  obtain⟨a,cap,rfl,hcap,hc⟩:=i1
  obtain⟨b,o,rfl,hA⟩:=hc hn0
  exact⟨b,o,cap,by rw[hn],hA⟩
 rw[hn]at hn0 lz
 have HN:=LH hn
 clear i1 hn
 refine callsIn_of_wp_marks Tryz.func202 rfl trivial ?_ rfl
 simp only[Tryz.ntmps202,List.size_toArray,List.length_cons,List.length_nil,Nat.reduceAdd,Nat.reduceSub,Array.replicate_succ,Array.replicate_zero,List.push_toArray,List.append_toArray,List.nil_append,List.cons_append]
 obtain⟨w0,hw0⟩:∃ w0,w.alloc (.cells [.bool mi,.slice (some ⟨bA,oA,none⟩) n cA].toArray 204)=w0:=⟨_,rfl⟩
 have X0:Blk w0 w.heap.size [.bool mi,.slice (some ⟨bA,oA,none⟩) n cA] 204:=by rw[← hw0];exact Blk.new w _ _
 have hs0:w0.heap.size=w.heap.size+1:=by rw[← hw0];simp
 have hq0:Q w w0:=by rw[← hw0];exact(Below.refl _ w).alloc (Nat.le_refl _) _
 have hF:=Lib.fresh_isBuilder 325 5 w0
 have x0:=X0.cell
 have hn0b:((n:Int) == 0)=false:=by rw[beq_eq_false_iff_ne];omega
 refine wpIn_wide.2 ?_
 cases mi with
 | true =>
  have HWB:=LH (zgA (w.heap.size+1) (w.heap.size+1) [] 45 (w0.alloc (.cells #[.pointer none,.slice none 0 0] 325)) (by rw[hs0]at hF;exact hF) (by decide) (by simp;omega))
  go_wp2_with fail
  refine HWB.out.mono ?_
  rintro e W1⟨rfl,hA1,hb1,hF1⟩
  have X1:Blk W1 w.heap.size [.bool true,.slice (some ⟨bA,oA,none⟩) n cA] 204:=(X0.alloc _).keep hb1 (by omega)
  have hB1:Lib.IsBuilder 325 5 (w.heap.size+1) (w.heap.size+1) (Lib.byteCells ([45]++[])) W1:=.inr hA1
  have hq1:Q w W1:=Below.trans (hq0.alloc hq0.size _) (hb1.mono (by omega))
  have hsB:w.heap.size+1<W1.heap.size:=by have:=hF1.1;rw[World.size_alloc]at this;omega
  clear HWB hA1 hb1 hF1 x0 hw0
  have x0:=X1.cell
  obtain⟨Sb,hSb⟩:∃ Sb,W1.heap.size=Sb:=⟨_,rfl⟩
  rw[hSb]at hsB
  go_wp2_with fail
  refine(callsIn_wide.1 (zc9 Fence.wide 8 trivial rfl _ _ ⟨_,_,_,rfl⟩)).mono ?_
  rintro e w9⟨rfl,rfl⟩
  obtain⟨W2,hW2⟩:∃ W2,W1.alloc (.cells #[.slice (some ⟨bA,oA,none⟩) n cA] 29)=W2:=⟨_,rfl⟩
  have kc2:KC W1 W2:=by rw[← hW2];exact KC.alloc _ _
  have hq2:Q w W2:=by rw[← hW2];exact hq1.alloc hq1.size _
  have hs2:W2.heap.size=Sb+1:=by rw[← hW2];simp[hSb]
  have X2:=X1.kc kc2
  have hB2:=zbk hB1 kc2
  have bS2:Boxed W2 Sb 29 (.slice (some ⟨bA,oA,none⟩) n cA):=by
   have:=Boxed.new W1 29 (.slice (some ⟨bA,oA,none⟩) n cA)
   rw[hSb,hW2]at this;exact this
  have hbA:=hA.1
  have hc2:=LH (fun j hj=>za hq2 (hA.2 j hj))
  rw[hSb,hW2]
  clear hW2 kc2 X1 hB1 hSb hq1 x0 hF
  go_wp2_with fail
  refine(wpIn_wide (n:=9)).1 ?_
  refine zaX (m:=9) (gf:=307) (lb:=#[.pointer (some ⟨Sb,0,none⟩)]) (by omega) rfl (enters_of Tryz.func307 (by kernel_rfl) rfl)
   (zfl Sb bA oA cA (some ⟨bA,oA,none⟩) l (by have:=HN.out;omega) W2 (fun _=>rfl) 8 (by omega) (by rw[HN.out];exact bS2.cell) hc2.out) (by simp;omega) (fun _=>rfl)
   (fun pre W=>Blk W w.heap.size [.bool true,.slice (some ⟨bA,oA,none⟩) n cA] 204∧Boxed W Sb 29 (.slice (some ⟨bA,oA,none⟩) n cA) ∧
    Lib.IsBuilder 325 5 (w.heap.size+1) (w.heap.size+1) (Lib.byteCells ([45]++zcM l (n - pre.length))) W∧Q w W)
   (fun _ _ _=>False) (fun _ _ _=>trivial)
   (fun pre W W' h k hb=>⟨h.1.kc k,zu h.2.1 k,zbk h.2.2.1 k,Below.trans h.2.2.2 (hb.mono hq2.size)⟩)
   (fun _ _ _ _ h _ _=>h)
   ⟨X2,bS2,by rw[show n - ([]:List (Plc l)).length=l.length by rw[HN.out];rfl,zfO];exact hB2,hq2⟩
   ?a1 ?assign ?body ?done ?stop
  case assign =>
   intro l x W K hK
   unfold zsC
   gi_wp2
   exact hK
  case stop =>
   rintro D c pre W _ _ h _
   exact h.elim
  case body =>
   rintro lp pre xx W⟨hX,hS,hB,hQ⟩ ⟨hdn,hxi,hpl⟩
   obtain⟨i,hi⟩:=xx
   simp only at hxi
   rw[HN.out]at hxi hpl
   have hil:i<n:=by omega
   have HLI:Hid (n - (pre.length+1)=i):=LH (by omega)
   rw[show n - pre.length=i+1 by omega]at hB
   have hg:0≤nth l i∧nth l i<LB:=dz.get (by decide) i
   have hwl:=LH (zla (l:=l) dz (i+1))
   have hwn:i+1<n→Hid (zcM l i=zcM l (i+1)++(zbs (9 - (decDigits (nth l i).toNat).length)++decDigits (nth l i).toNat)):=fun h=>LH (zjB dz hlast.out (by rw[HN.out];exact h))
   have hwf:i+1=n→Hid (zcM l i=decDigits (nth l i).toNat∧zcM l (i+1)=[]):=fun h=>LH ⟨zhX (by rw[HN.out];exact h),by rw[h,← HN.out];exact zfO l⟩
   have hLB:LB=1000000000:=rfl
   rw[hLB]at hg
   rw[hs2]
   clear hdn hxi hpl hLB
   generalize nth l i=d at *
   obtain⟨dn,rfl⟩:∃ dn:Nat,d=dn:=⟨d.toNat,by omega⟩
   rw[Int.toNat_natCast]at hwn hwf
   have hdl:(decDigits dn).length≤9:=(zm dn 9 (by decide)).2 (by have:=hg.2;omega)
   have HI:=LH (fun W (hW:Q w W)=>zaq (dn:Int) (by omega) (by omega) W (hE.q hW))
   simp only[← zB]at HI
   generalize hds:decDigits dn=ds at *
   clear hds
   gi_wp2_with fail
   refine⟨trivial,?_⟩
   with_reducible refine CallsIn.mono (CallsIn.inRound lp (callsIn_wide.2 (HI.out W hQ))) ?_
   rintro e w3⟨rfl,hq3⟩
   have kc3:=KC.q hq3
   have X3:=hX.kc kc3
   have S3:=zu hS kc3
   have B3:=zbk hB kc3
   have hQ3:=Q.trans hQ hq3
   have kf3:KeepsFrom (Sb+1) W w3:=(KeepsOthers.of_grownBy (zas hq3 none) (fun j o e=>by cases e)).from _
   have kb3:zI [Sb,bA] W w3:=zI.q hq3
   have xc:=X3.cell 1
   simp only[zs4,zs5]at xc
   have hsz3:w.heap.size+1≤w3.heap.size:=by have:=S3.lt;omega
   clear HI kc3 hX hS hB
   by_cases hlt:i+1<n
   ·have hcmp:(i:Int)<(n:Int) - 1:=by omega
    obtain⟨k0,hk0⟩:∃ k0,9 - ds.length=k0:=⟨_,rfl⟩
    have hk1:(9:Int) - (ds.length:Int)=(k0:Int):=by omega
    have hW:=hwn hlt
    rw[hk0]at hW
    have hk9:k0≤9:=by omega
    have HR:=LH (fun W=>zfI k0 (by omega) W)
    clear hk0 hwn hwf
    gi_wp2_with fail
    refine⟨trivial,?_⟩
    with_reducible refine CallsIn.mono (CallsIn.inRound lp (callsIn_wide.2 (HR.out w3))) ?_
    rintro e w4⟨rfl,hq4⟩
    have kc4:=KC.q hq4
    have X4:=X3.kc kc4
    have S4:=zu S3 kc4
    have B4:=zbk B3 kc4
    have hQ4:=Q.trans hQ3 hq4
    have kf4:KeepsFrom (Sb+1) W w4:=kf3.trans ((KeepsOthers.of_grownBy (zas hq4 none) (fun j o e=>by cases e)).from _)
    have kb4:zI [Sb,bA] W w4:=kb3.trans (zI.q hq4)
    have hsz4:w.heap.size+1≤w4.heap.size:=by have:=S4.lt;omega
    have HS1:=LH (zaw (w.heap.size+1) (w.heap.size+1) _ ⟨(zbs k0).toArray⟩ w4 B4 (by rw[Lib.byteCells_length];have h1:=hwl.out;have:=HN.out;have h3:(⟨(zbs k0).toArray⟩:ByteArray).size=k0:=zbW k0;simp only[List.length_append,List.length_cons,List.length_nil]at h1 ⊢;omega) hsz4)
    clear xc HR X3 S3 B3 kf3 kb3 hQ3 hq4 kc4 hk1
    gi_wp2_with fail
    refine⟨trivial,?_⟩
    with_reducible refine CallsIn.mono (CallsIn.inRound lp (callsIn_wide.2 HS1.out)) ?_
    rintro e w5⟨rfl,hA5,hb5,hF5⟩
    obtain⟨cs4,hcs4⟩:=zbi B4
    have X5:=X4.keep hb5 (by omega)
    have S5:=hF5.boxed S4 (by omega) (by decide)
    have hQ5:Q w w5:=Below.trans hQ4 (hb5.mono (by omega))
    have kf5:KeepsFrom (Sb+1) W w5:=kf4.trans (hF5.keeps hcs4)
    have kb5:zI [Sb,bA] W w5:=kb4.trans (zdR S4 S5 hb5 (by omega))
    have B5:Lib.IsBuilder 325 5 (w.heap.size+1) (w.heap.size+1) (Lib.byteCells ([45]++zcM l (i+1)++zbs k0)) w5:=.inr (by rw[zbG];exact hA5)
    have hsz5:w.heap.size+1≤w5.heap.size:=by have:=S5.lt;omega
    have HS2:=LH (zaw (w.heap.size+1) (w.heap.size+1) _ ⟨ds.toArray⟩ w5 B5 (by rw[Lib.byteCells_length];have h1:=hwl.out;have:=HN.out;have h3:(⟨ds.toArray⟩:ByteArray).size=ds.length:=rfl;have h4:=zbW k0;simp only[List.length_append,List.length_cons,List.length_nil]at h1 ⊢;omega) hsz5)
    clear HS1 X4 S4 B4 kf4 kb4 hQ4 hA5 hb5 hF5 hcs4
    gi_wp2_with fail
    refine⟨trivial,?_⟩
    with_reducible refine CallsIn.mono (CallsIn.inRound lp (callsIn_wide.2 HS2.out)) ?_
    rintro e w6⟨rfl,hA6,hb6,hF6⟩
    obtain⟨cs5,hcs5⟩:=zbi B5
    have X6:=X5.keep hb6 (by omega)
    have S6:=hF6.boxed S5 (by omega) (by decide)
    have hQ6:Q w w6:=Below.trans hQ5 (hb6.mono (by omega))
    have kf6:KeepsFrom (Sb+1) W w6:=kf5.trans (hF6.keeps hcs5)
    have kb6:zI [Sb,bA] W w6:=kb5.trans (zdR S5 S6 hb6 (by omega))
    have HB6:=LH hA6
    clear HS2 X5 S5 B5 kf5 kb5 hQ5 hA6 hb6 hF6 hcs5
    gi_wp2
    refine⟨kf6,kb6,X6,S6,.inr ?_,hQ6⟩
    rw[List.length_append,List.length_singleton,HLI.out,hW.out]
    have h:=HB6.out
    rw[← zbG]at h
    simpa[List.append_assoc]using h
   ·have hcmp:(n:Int) - 1≤(i:Int):=by omega
    have hW:=hwf (by omega)
    rw[hW.out.2]at B3
    have HS2:=LH (zaw (w.heap.size+1) (w.heap.size+1) _ ⟨ds.toArray⟩ w3 B3 (by rw[Lib.byteCells_length];have h3:(⟨ds.toArray⟩:ByteArray).size=ds.length:=rfl;simp only[List.length_append,List.length_cons,List.length_nil];omega) hsz3)
    clear hwn hwf
    gi_wp2_with fail
    refine⟨trivial,?_⟩
    with_reducible refine CallsIn.mono (CallsIn.inRound lp (callsIn_wide.2 HS2.out)) ?_
    rintro e w6⟨rfl,hA6,hb6,hF6⟩
    obtain⟨cs5,hcs5⟩:=zbi B3
    have X6:=X3.keep hb6 (by omega)
    have S6:=hF6.boxed S3 (by omega) (by decide)
    have hQ6:Q w w6:=Below.trans hQ3 (hb6.mono (by omega))
    have kf6:KeepsFrom (Sb+1) W w6:=kf3.trans (hF6.keeps hcs5)
    have kb6:zI [Sb,bA] W w6:=kb3.trans (zdR S3 S6 hb6 (by omega))
    have HB6:=LH hA6
    clear HS2 X3 S3 B3 kf3 kb3 hQ3 hA6 hb6 hF6 hcs5 xc
    gi_wp2
    refine⟨kf6,kb6,X6,S6,.inr ?_,hQ6⟩
    rw[List.length_append,List.length_singleton,HLI.out,hW.out.1]
    have h:=HB6.out
    rw[← zbG]at h
    simpa[List.append_assoc]using h
  case done =>
   rintro D ys W hD hys⟨hX,hS,hB,hQ⟩ hK
   rw[hys.len,HN.out,Nat.sub_self,hdone.out]at hB
   have hsz:w.heap.size+1≤W.heap.size:=by have:=hS.lt;omega
   have HSt:=LH (Tryz.Builder_String_any_k (w.heap.size+1) (w.heap.size+1) _ W (Lib.IsBuilderF.of hB) hsz)
   go_wp2_with fail
   refine HSt.out.mono ?_
   rintro e w3⟨rfl,-,hb3,hO3⟩
   have hK3:w3.heap[D]? = some (.deferred (some [])):=hO3 D _ hK (fun e=>by have:=Option.some.inj e;omega) (fun cs fr e=>by cases e)
   have hQ3:Q w w3:=Below.trans hQ (hb3.mono (by omega))
   clear HSt
   go_wp2
   refine⟨by simp,.inl ⟨_,_,rfl,run_takeDeferred hK3,?_⟩⟩
   exact⟨_,results_tmp rfl _ _ _,rfl,Below.trans hQ3 (zaQ (by omega) hK3 _)⟩
 | false =>
  obtain⟨W1,hW1⟩:∃ W1,w0.alloc (.cells #[.pointer none,.slice none 0 0] 325)=W1:=⟨_,rfl⟩
  have X1:Blk W1 w.heap.size [.bool false,.slice (some ⟨bA,oA,none⟩) n cA] 204:=by rw[← hW1];exact X0.alloc _
  have hB1:Lib.IsBuilder 325 5 (w.heap.size+1) (w.heap.size+1) (Lib.byteCells ([]++[])) W1:=by rw[← hW1,← hs0];exact hF
  have hq1:Q w W1:=by rw[← hW1];exact hq0.alloc hq0.size _
  have hsB:w.heap.size+1<W1.heap.size:=by rw[← hW1];simp;omega
  have y0:=X1.cell
  go_wp2_with fail
  clear x0 y0 hw0
  obtain⟨Sb,hSb⟩:∃ Sb,W1.heap.size=Sb:=⟨_,rfl⟩
  rw[hSb]at hsB
  clear hW1
  refine(callsIn_wide.1 (zc9 Fence.wide 8 trivial rfl _ _ ⟨_,_,_,rfl⟩)).mono ?_
  rintro e w9⟨rfl,rfl⟩
  obtain⟨W2,hW2⟩:∃ W2,W1.alloc (.cells #[.slice (some ⟨bA,oA,none⟩) n cA] 29)=W2:=⟨_,rfl⟩
  have kc2:KC W1 W2:=by rw[← hW2];exact KC.alloc _ _
  have hq2:Q w W2:=by rw[← hW2];exact hq1.alloc hq1.size _
  have hs2:W2.heap.size=Sb+1:=by rw[← hW2];simp[hSb]
  have X2:=X1.kc kc2
  have hB2:=zbk hB1 kc2
  have bS2:Boxed W2 Sb 29 (.slice (some ⟨bA,oA,none⟩) n cA):=by
   have:=Boxed.new W1 29 (.slice (some ⟨bA,oA,none⟩) n cA)
   rw[hSb,hW2]at this;exact this
  have hbA:=hA.1
  have hc2:=LH (fun j hj=>za hq2 (hA.2 j hj))
  rw[hSb,hW2]
  clear hW2 kc2 X1 hB1 hSb hq1 hF
  go_wp2_with fail
  refine(wpIn_wide (n:=9)).1 ?_
  refine zaX (m:=9) (gf:=307) (lb:=#[.pointer (some ⟨Sb,0,none⟩)]) (by omega) rfl (enters_of Tryz.func307 (by kernel_rfl) rfl)
   (zfl Sb bA oA cA (some ⟨bA,oA,none⟩) l (by have:=HN.out;omega) W2 (fun _=>rfl) 8 (by omega) (by rw[HN.out];exact bS2.cell) hc2.out) (by simp;omega) (fun _=>rfl)
   (fun pre W=>Blk W w.heap.size [.bool false,.slice (some ⟨bA,oA,none⟩) n cA] 204∧Boxed W Sb 29 (.slice (some ⟨bA,oA,none⟩) n cA) ∧
    Lib.IsBuilder 325 5 (w.heap.size+1) (w.heap.size+1) (Lib.byteCells (([]:Str)++zcM l (n - pre.length))) W∧Q w W)
   (fun _ _ _=>False) (fun _ _ _=>trivial)
   (fun pre W W' h k hb=>⟨h.1.kc k,zu h.2.1 k,zbk h.2.2.1 k,Below.trans h.2.2.2 (hb.mono hq2.size)⟩)
   (fun _ _ _ _ h _ _=>h)
   ⟨X2,bS2,by rw[show n - ([]:List (Plc l)).length=l.length by rw[HN.out];rfl,zfO];exact hB2,hq2⟩
   ?a12 ?assign2 ?body2 ?done2 ?stop2
  case assign2 =>
   intro l x W K hK
   unfold zsC
   gi_wp2
   exact hK
  case stop2 =>
   rintro D c pre W _ _ h _
   exact h.elim
  case body2 =>
   rintro lp pre xx W⟨hX,hS,hB,hQ⟩ ⟨hdn,hxi,hpl⟩
   obtain⟨i,hi⟩:=xx
   simp only at hxi
   rw[HN.out]at hxi hpl
   have hil:i<n:=by omega
   have HLI:Hid (n - (pre.length+1)=i):=LH (by omega)
   rw[show n - pre.length=i+1 by omega]at hB
   have hg:0≤nth l i∧nth l i<LB:=dz.get (by decide) i
   have hwl:=LH (zla (l:=l) dz (i+1))
   have hwn:i+1<n→Hid (zcM l i=zcM l (i+1)++(zbs (9 - (decDigits (nth l i).toNat).length)++decDigits (nth l i).toNat)):=fun h=>LH (zjB dz hlast.out (by rw[HN.out];exact h))
   have hwf:i+1=n→Hid (zcM l i=decDigits (nth l i).toNat∧zcM l (i+1)=[]):=fun h=>LH ⟨zhX (by rw[HN.out];exact h),by rw[h,← HN.out];exact zfO l⟩
   have hLB:LB=1000000000:=rfl
   rw[hLB]at hg
   rw[hs2]
   clear hdn hxi hpl hLB
   generalize nth l i=d at *
   obtain⟨dn,rfl⟩:∃ dn:Nat,d=dn:=⟨d.toNat,by omega⟩
   rw[Int.toNat_natCast]at hwn hwf
   have hdl:(decDigits dn).length≤9:=(zm dn 9 (by decide)).2 (by have:=hg.2;omega)
   have HI:=LH (fun W (hW:Q w W)=>zaq (dn:Int) (by omega) (by omega) W (hE.q hW))
   simp only[← zB]at HI
   generalize hds:decDigits dn=ds at *
   clear hds
   gi_wp2_with fail
   refine⟨trivial,?_⟩
   with_reducible refine CallsIn.mono (CallsIn.inRound lp (callsIn_wide.2 (HI.out W hQ))) ?_
   rintro e w3⟨rfl,hq3⟩
   have kc3:=KC.q hq3
   have X3:=hX.kc kc3
   have S3:=zu hS kc3
   have B3:=zbk hB kc3
   have hQ3:=Q.trans hQ hq3
   have kf3:KeepsFrom (Sb+1) W w3:=(KeepsOthers.of_grownBy (zas hq3 none) (fun j o e=>by cases e)).from _
   have kb3:zI [Sb,bA] W w3:=zI.q hq3
   have xc:=X3.cell 1
   simp only[zs4,zs5]at xc
   have hsz3:w.heap.size+1≤w3.heap.size:=by have:=S3.lt;omega
   clear HI kc3 hX hS hB
   by_cases hlt:i+1<n
   ·have hcmp:(i:Int)<(n:Int) - 1:=by omega
    obtain⟨k0,hk0⟩:∃ k0,9 - ds.length=k0:=⟨_,rfl⟩
    have hk1:(9:Int) - (ds.length:Int)=(k0:Int):=by omega
    have hW:=hwn hlt
    rw[hk0]at hW
    have hk9:k0≤9:=by omega
    have HR:=LH (fun W=>zfI k0 (by omega) W)
    clear hk0 hwn hwf
    gi_wp2_with fail
    refine⟨trivial,?_⟩
    with_reducible refine CallsIn.mono (CallsIn.inRound lp (callsIn_wide.2 (HR.out w3))) ?_
    rintro e w4⟨rfl,hq4⟩
    have kc4:=KC.q hq4
    have X4:=X3.kc kc4
    have S4:=zu S3 kc4
    have B4:=zbk B3 kc4
    have hQ4:=Q.trans hQ3 hq4
    have kf4:KeepsFrom (Sb+1) W w4:=kf3.trans ((KeepsOthers.of_grownBy (zas hq4 none) (fun j o e=>by cases e)).from _)
    have kb4:zI [Sb,bA] W w4:=kb3.trans (zI.q hq4)
    have hsz4:w.heap.size+1≤w4.heap.size:=by have:=S4.lt;omega
    have HS1:=LH (zaw (w.heap.size+1) (w.heap.size+1) _ ⟨(zbs k0).toArray⟩ w4 B4 (by rw[Lib.byteCells_length];have h1:=hwl.out;have:=HN.out;have h3:(⟨(zbs k0).toArray⟩:ByteArray).size=k0:=zbW k0;simp only[List.length_append,List.length_nil]at h1 ⊢;omega) hsz4)
    clear xc HR X3 S3 B3 kf3 kb3 hQ3 hq4 kc4 hk1
    gi_wp2_with fail
    refine⟨trivial,?_⟩
    with_reducible refine CallsIn.mono (CallsIn.inRound lp (callsIn_wide.2 HS1.out)) ?_
    rintro e w5⟨rfl,hA5,hb5,hF5⟩
    obtain⟨cs4,hcs4⟩:=zbi B4
    have X5:=X4.keep hb5 (by omega)
    have S5:=hF5.boxed S4 (by omega) (by decide)
    have hQ5:Q w w5:=Below.trans hQ4 (hb5.mono (by omega))
    have kf5:KeepsFrom (Sb+1) W w5:=kf4.trans (hF5.keeps hcs4)
    have kb5:zI [Sb,bA] W w5:=kb4.trans (zdR S4 S5 hb5 (by omega))
    have B5:Lib.IsBuilder 325 5 (w.heap.size+1) (w.heap.size+1) (Lib.byteCells (([]:Str)++zcM l (i+1)++zbs k0)) w5:=.inr (by rw[zbG];exact hA5)
    have hsz5:w.heap.size+1≤w5.heap.size:=by have:=S5.lt;omega
    have HS2:=LH (zaw (w.heap.size+1) (w.heap.size+1) _ ⟨ds.toArray⟩ w5 B5 (by rw[Lib.byteCells_length];have h1:=hwl.out;have:=HN.out;have h3:(⟨ds.toArray⟩:ByteArray).size=ds.length:=rfl;have h4:=zbW k0;simp only[List.length_append,List.length_nil]at h1 ⊢;omega) hsz5)
    clear HS1 X4 S4 B4 kf4 kb4 hQ4 hA5 hb5 hF5 hcs4
    gi_wp2_with fail
    refine⟨trivial,?_⟩
    with_reducible refine CallsIn.mono (CallsIn.inRound lp (callsIn_wide.2 HS2.out)) ?_
    rintro e w6⟨rfl,hA6,hb6,hF6⟩
    obtain⟨cs5,hcs5⟩:=zbi B5
    have X6:=X5.keep hb6 (by omega)
    have S6:=hF6.boxed S5 (by omega) (by decide)
    have hQ6:Q w w6:=Below.trans hQ5 (hb6.mono (by omega))
    have kf6:KeepsFrom (Sb+1) W w6:=kf5.trans (hF6.keeps hcs5)
    have kb6:zI [Sb,bA] W w6:=kb5.trans (zdR S5 S6 hb6 (by omega))
    have HB6:=LH hA6
    clear HS2 X5 S5 B5 kf5 kb5 hQ5 hA6 hb6 hF6 hcs5
    gi_wp2
    refine⟨kf6,kb6,X6,S6,.inr ?_,hQ6⟩
    rw[List.length_append,List.length_singleton,HLI.out,hW.out]
    have h:=HB6.out
    rw[← zbG]at h
    simpa[List.append_assoc]using h
   ·have hcmp:(n:Int) - 1≤(i:Int):=by omega
    have hW:=hwf (by omega)
    rw[hW.out.2]at B3
    have HS2:=LH (zaw (w.heap.size+1) (w.heap.size+1) _ ⟨ds.toArray⟩ w3 B3 (by rw[Lib.byteCells_length];have h3:(⟨ds.toArray⟩:ByteArray).size=ds.length:=rfl;simp only[List.length_append,List.length_nil];omega) hsz3)
    clear hwn hwf
    gi_wp2_with fail
    refine⟨trivial,?_⟩
    with_reducible refine CallsIn.mono (CallsIn.inRound lp (callsIn_wide.2 HS2.out)) ?_
    rintro e w6⟨rfl,hA6,hb6,hF6⟩
    obtain⟨cs5,hcs5⟩:=zbi B3
    have X6:=X3.keep hb6 (by omega)
    have S6:=hF6.boxed S3 (by omega) (by decide)
    have hQ6:Q w w6:=Below.trans hQ3 (hb6.mono (by omega))
    have kf6:KeepsFrom (Sb+1) W w6:=kf3.trans (hF6.keeps hcs5)
    have kb6:zI [Sb,bA] W w6:=kb3.trans (zdR S3 S6 hb6 (by omega))
    have HB6:=LH hA6
    clear HS2 X3 S3 B3 kf3 kb3 hQ3 hA6 hb6 hF6 hcs5 xc
    gi_wp2
    refine⟨kf6,kb6,X6,S6,.inr ?_,hQ6⟩
    rw[List.length_append,List.length_singleton,HLI.out,hW.out.1]
    have h:=HB6.out
    rw[← zbG]at h
    simpa[List.append_assoc]using h
  case done2 =>
   rintro D ys W hD hys⟨hX,hS,hB,hQ⟩ hK
   rw[hys.len,HN.out,Nat.sub_self,hdone.out]at hB
   have hsz:w.heap.size+1≤W.heap.size:=by have:=hS.lt;omega
   have HSt:=LH (Tryz.Builder_String_any_k (w.heap.size+1) (w.heap.size+1) _ W (Lib.IsBuilderF.of hB) hsz)
   go_wp2_with fail
   refine HSt.out.mono ?_
   rintro e w3⟨rfl,-,hb3,hO3⟩
   have hK3:w3.heap[D]? = some (.deferred (some [])):=hO3 D _ hK (fun e=>by have:=Option.some.inj e;omega) (fun cs fr e=>by cases e)
   have hQ3:Q w w3:=Below.trans hQ (hb3.mono (by omega))
   clear HSt
   go_wp2
   refine⟨by simp,.inl ⟨_,_,rfl,run_takeDeferred hK3,?_⟩⟩
   exact⟨_,results_tmp rfl _ _ _,rfl,Below.trans hQ3 (zaQ (by omega) hK3 _)⟩
theorem zoc(mi:Bool)(v1:Value)(w:World)(i1:zO w v1 []) :
  CR 202 #[.agg #[.bool mi,v1]] w (.string ⟨#[48]⟩):=by
 obtain⟨a,c,rfl,-,-⟩:=i1
 obtain⟨w0,hw0⟩:∃ w0,w.alloc (.cells [.bool mi,.slice a ([]:List Int).length c].toArray 204)=w0:=⟨_,rfl⟩
 have X0:Blk w0 w.heap.size [.bool mi,.slice a ([]:List Int).length c] 204:=by rw[← hw0];exact Blk.new w _ _
 have hq0:Q w w0:=by rw[← hw0];exact(Below.refl _ w).alloc (Nat.le_refl _) _
 have x1:=X0.cell 1
 simp only[zs4,zs5,List.length_nil]at x1 hw0
 go_enter Tryz.func202,Tryz.ntmps202
 go_wp2
 go_ret
 exact⟨rfl,hq0⟩
theorem zkU(mi:Bool)(z:Int)(v1:Value)(w:World)(hE:Env w)(h1:zdC w z v1) :
  CR 202 #[.agg #[.bool mi,v1]] w (.string ⟨(Lib.itoa (sgn mi z)).toArray⟩):=by
 obtain⟨hz,lz,i1⟩:=h1
 by_cases h0:z=0
 ·subst h0
  rw[zaL (Int.le_refl _)]at i1
  have e:Lib.itoa (sgn mi 0)=[48]:=by
   have:sgn mi 0=0:=by cases mi <;> rfl
   rw[this,zae]
  rw[e]
  exact zoc mi v1 w i1
 ·have h:=callsIn_wide.1 (zq5 z (by omega) mi lz v1 w hE i1)
  have e:(if mi then [45]else [])++decDigits z.toNat=Lib.itoa (sgn mi z):=by
   cases mi
   ·show decDigits z.toNat=Lib.itoa z
    rw[itoa_nonneg hz]
   ·show 45::decDigits z.toNat=Lib.itoa (-z)
    rw[itoa_neg (by omega)]
    congr 2;omega
  rw[e]at h
  exact h
end
section
open Go.RowKit Kp
open Go.Lib (decDigits)
theorem ztJ:(big:Int)≤LB ^ 34:=by
 obtain⟨m,hm⟩:∃ m:Nat,m=9:=⟨_,rfl⟩
 obtain⟨n,hn⟩:∃ n:Nat,n=34:=⟨_,rfl⟩
 have h:(LB:Int) ^ n=((10 ^ (m*n):Nat):Int):=by
  rw[Nat.pow_mul,Int.natCast_pow,show (LB:Int)=((10 ^ m:Nat):Int) by rw[hm];decide]
 rw[← hn,h]
 unfold big
 exact Int.ofNat_le.2 (Nat.pow_le_pow_right (by decide) (by rw[maxD_eq,hm,hn];decide))
theorem ziI{x:Int}(h:lim x=false):(x.natAbs:Int)<LB ^ 34:=by
 have h1:=(za1 x).1 h
 have h2:=ztJ
 omega
theorem zkw(k:Nat):LB ^ (k+1)=LB ^ k*LB∧0<LB ^ k:=⟨Int.pow_succ ..,Int.pow_pos (by decide)⟩
theorem zp9{z:Int}{k:Nat}(h:z<LB ^ k):(limbs LB z).length≤k:=zbZ (by decide) k z h
theorem zdC.keep{w w':World}{z:Int}{v:Value}(h:zdC w z v)(hq:Q w w'):zdC w' z v:=⟨h.1,h.2.1,h.2.2.keep hq⟩
theorem zdP{z:Int}(h:z.natAbs<10 ^ 40):lim z=false:=by
 rw[za1]
 unfold big
 exact Nat.lt_of_lt_of_le h (Nat.pow_le_pow_right (by decide) (by rw[maxD_eq];decide))
theorem za5(x:Int)(hx:lim x=false)(w:World) :
  Calls Tryz.prog 144 #[.string ⟨(Lib.itoa x).toArray⟩] w fun e w'=>∃ v,e=.returned (.agg #[.bool (decide (x<0)),v])∧zdC w' x.natAbs v∧Q w w':=by
 refine(zhs (Lib.itoa x) (decDigits x.natAbs) (zav x) (zY _) (by have:=zU x hx;omega) w).mono ?_
 rintro e w'⟨v,rfl,hi,hq⟩
 have hd:decide ((Lib.itoa x).head? = some 45)=decide (x<0):=by
  rw[decide_eq_decide]
  by_cases h:x<0
  ·rw[itoa_neg h];simp[h]
  ·rw[itoa_nonneg (by omega)]
   exact⟨fun e=>absurd e (zF _),fun e=>absurd e h⟩
 rw[z8]at hi
 exact⟨v,by rw[hd],⟨by omega,by have:=zp9 (ziI hx);omega,hi⟩,hq⟩
def rsV(z:Int):Value:=if lim z then .tuple #[.string ⟨#[]⟩,.int .i64 4]else .tuple #[.string ⟨(Lib.itoa z).toArray⟩,.int .i64 0]
theorem zao(mi:Bool)(z:Int)(v:Value)(w:World)(hE:Env w)(h1:zdC w z v) :
  CR 145 #[.agg #[.bool mi,v]] w (rsV (sgn mi z)):=by
 obtain⟨w0,hw0⟩:∃ w0,w.alloc (.cells [.bool mi,v].toArray 204)=w0:=⟨_,rfl⟩
 have X0:Blk w0 w.heap.size [.bool mi,v] 204:=by rw[← hw0];exact Blk.new w _ _
 have hq0:Q w w0:=by rw[← hw0];exact(Below.refl _ w).alloc (Nat.le_refl _) _
 have HW:=LH (zkU mi z v w0 (hE.q hq0) (h1.keep hq0))
 have hl1:(zo (Lib.itoa (sgn mi z))).length≤300 ↔ lim (sgn mi z)=false:=by
  rw[zav,za1];unfold big;rw[maxD_eq];exact zm _ 300 (by decide)
 obtain⟨a,c,rfl,-,-⟩:=h1.2.2
 generalize (limbs LB z).length=ln at *
 have x0:=X0.cell
 try simp only[zs4,zs5]at hw0
 by_cases hl:lim (sgn mi z)=true
 ·have hr:rsV (sgn mi z)=.tuple #[.string ⟨#[]⟩,.int .i64 4]:=by unfold rsV;rw[if_pos hl]
  rw[hr]
  have h3:300<(zo (Lib.itoa (sgn mi z))).length:=by
   rw[hl]at hl1;simp at hl1;exact hl1
  clear hl hr hl1 h1
  go_enter Tryz.func145,Tryz.ntmps145
  go_wp2_with fail
  refine HW.out.mono ?_
  rintro e w1⟨rfl,hq1⟩
  go_wp2_with fail
  refine(zP _ _).mono ?_
  rintro e w2⟨rfl,rfl⟩
  generalize zo (Lib.itoa (sgn mi z))=t at *
  have h3i:(300:Int)<(t.length:Int):=by omega
  go_wp2
  go_ret2
  exact⟨rfl,Q.trans hq0 hq1⟩
 ·have hl':lim (sgn mi z)=false:=by simpa using hl
  have hr:rsV (sgn mi z)=.tuple #[.string ⟨(Lib.itoa (sgn mi z)).toArray⟩,.int .i64 0]:=by unfold rsV;rw[if_neg hl]
  rw[hr]
  have h3:(zo (Lib.itoa (sgn mi z))).length≤300:=hl1.2 hl'
  clear hl hr hl1 h1 hl'
  go_enter Tryz.func145,Tryz.ntmps145
  go_wp2_with fail
  refine HW.out.mono ?_
  rintro e w1⟨rfl,hq1⟩
  go_wp2_with fail
  refine(zP _ _).mono ?_
  rintro e w2⟨rfl,rfl⟩
  generalize zo (Lib.itoa (sgn mi z))=t at *
  have h3i:(t.length:Int)≤300:=by omega
  go_wp2
  go_ret2
  exact⟨rfl,Q.trans hq0 hq1⟩
theorem za7(a b:Str)(h:18<a.length∨18<b.length)(w:World) :
  Calls Tryz.prog 142 #[.string ⟨a.toArray⟩,.string ⟨b.toArray⟩,.int .i64 18] w fun e w'=>e=.returned (.tuple #[.int .i64 0,.int .i64 0,.bool false])∧w=w':=by
 by_cases h1:18<a.length
 ·have h1i:(18:Int)<(a.length:Int):=by omega
  go_enter Tryz.func142,Tryz.ntmps142
  go_wp2
  go_ret3
  exact⟨rfl,rfl⟩
 ·have h1i:(a.length:Int)≤18:=by omega
  have h2i:(18:Int)<(b.length:Int):=by omega
  have hd:decide ((18:Int)<(a.length:Int))=false:=by simp;omega
  go_enter Tryz.func142,Tryz.ntmps142
  go_wp2
  go_ret3
  exact⟨rfl,rfl⟩
theorem zdr(x:Int):sgn (decide (x<0)) x.natAbs=x:=by
 unfold sgn
 by_cases h:x<0 <;> simp[h] <;> omega
theorem zkG{w:World}{m:Bool}{z s:Int}{v:Value}(h:sgn m z=s)(h0:0≤z)(hi:zO w v (limbs LB z))(k:Nat)(hk:k≤50000)(hs:(s.natAbs:Int)<LB ^ k):zdC w z v:=by
 have:z=s.natAbs:=by unfold sgn at h;split at h <;> omega
 exact⟨h0,by rw[this];have:=zp9 hs;omega,hi⟩
theorem zhN(x y:Int)(hx:lim x=false)(hy:lim y=false)(hl:18<(Lib.itoa x).length∨18<(Lib.itoa y).length)(w:World)(hE:Env w) :
  CR 276 #[.string ⟨(Lib.itoa x).toArray⟩,.string ⟨(Lib.itoa y).toArray⟩] w (rsV (x+y)):=by
 have hx1:=ziI hx
 have hy1:=ziI hy
 have hs:((x+y).natAbs:Int)<LB ^ 35:=by
  have h:=zkw 34
  have h1:LB ^ 35=LB ^ 34*LB:=h.1
  have h2:=Int.mul_le_mul_of_nonneg_left (show (2:Int)≤LB by decide) (Int.le_of_lt h.2)
  omega
 have HB:=LH (fun w=>zZ x y hx hy w)
 have HS:=LH (fun w=>za7 _ _ hl w)
 have HX:=LH (fun w=>za5 x hx w)
 have HY:=LH (fun w=>za5 y hy w)
 have HH:=LH hs
 clear hs hx1 hy1 hl
 have HM:=LH (show sgn (decide (x<0)) x.natAbs+sgn (decide (y<0)) y.natAbs=x+y by rw[zdr,zdr])
 generalize decide (x<0)=m1 at *
 generalize decide (y<0)=m2 at *
 go_enter Tryz.func276,Tryz.ntmps276
 go_wp2_with fail
 refine cx (HB.out _) fun w1 hq1=>?_
 go_wp2_with fail
 refine(HS.out _).mono ?_
 rintro e w2⟨rfl,rfl⟩
 go_wp2_with fail
 refine(HX.out _).mono ?_
 rintro e w3⟨v1,rfl,hv1,hq3⟩
 go_wp2_with fail
 refine(HY.out _).mono ?_
 rintro e w4⟨v2,rfl,hv2,hq4⟩
 go_wp2_with fail
 refine(zfJ m1 m2 _ _ _ _ _ (hv1.keep hq4) hv2).mono ?_
 rintro e w5⟨m,z,v,rfl,hm,hz,hi,hq5⟩
 rw[HM.out]at hm
 have hQ5:=Q.trans (Q.trans (Q.trans hq1 hq3) hq4) hq5
 have hR:=zao m z v w5 (hE.q hQ5) (zkG hm hz hi 35 (by decide) HH.out)
 rw[hm]at hR
 have HR:=LH hR
 clear hR hm hi hv1 hv2
 go_wp2_with fail
 refine HR.out.mono ?_
 rintro e w6⟨rfl,hq6⟩
 have hQ6:=Q.trans hQ5 hq6
 unfold rsV
 by_cases hlz:lim (x+y)=true
 ·rw[if_pos hlz]
  have HZ:=LH hlz
  clear hlz
  go_wp2
  go_ret2
  exact⟨by unfold rsV;rw[if_pos HZ.out];rfl,hQ6⟩
 ·rw[if_neg hlz]
  have HZ:=LH hlz
  clear hlz
  go_wp2
  go_ret2
  exact⟨by unfold rsV;rw[if_neg HZ.out];rfl,hQ6⟩
theorem ziS(x y:Int)(hx:lim x=false)(hy:lim y=false)(w:World)(hE:Env w) :
  CR 276 #[.string ⟨(Lib.itoa x).toArray⟩,.string ⟨(Lib.itoa y).toArray⟩] w (rsV (x+y)):=by
 by_cases hl:18<(Lib.itoa x).length∨18<(Lib.itoa y).length
 ·exact zhN x y hx hy hl w hE
 ·have hx2:=zaC (x:=x) (by omega)
  have hy2:=zaC (x:=y) (by omega)
  have:rsV (x+y)=.tuple #[.string ⟨(Lib.itoa (x+y)).toArray⟩,.int .i64 0]:=by
   unfold rsV;rw[zdP (by omega)];rfl
  rw[this]
  exact zha x y (by omega) (by omega) w hE
end
end Go.Proofs.YtapnkgdnflofbaaGreatDoor
