/-
  RE RF RG RH RJ RK RI RL LSlopes, one behind the other.
-/
import Derived.Test.YtapnkgdnflofbaaGreatDoorCH10
import Derived.Test.YtapnkgdnflofbaaGreatDoorCH04
import Derived.Shelf.Spec.SlicesGrow
set_option maxRecDepth 100000
set_option maxHeartbeats 4000000
namespace Go.Proofs.YtapnkgdnflofbaaGreatDoor
section
open Go.RowKit Kp
end
end Go.Proofs.YtapnkgdnflofbaaGreatDoor
namespace Go.Proofs
open Go.Shelf
end Go.Proofs
namespace Go.Proofs.YtapnkgdnflofbaaGreatDoor
section
open Go.RowKit Kp
theorem TSl.open{w:World}{B:Nat}{v:Value}{l:List (Str × Str)}(h:TSl w B v l)(hl:0<l.length):∃ b o cap,v=.slice (some ⟨b,o,none⟩) l.length cap∧b<B∧B≤w.heap.size∧∀ j u,(zeo l)[j]? = some u→w.cell? ((⟨b,o,none⟩:Addr).add j)=some u:=by
 obtain⟨a,cap,rfl,hB,hc⟩:=h
 obtain⟨b,o,rfl,hb,-,-⟩:=hc 0 hl
 refine⟨b,o,cap,rfl,hb,hB,fun j u hu=>?_⟩
 have hj:j<l.length*2:=by
  rw[← zri]
  exact(List.getElem?_eq_some_iff.1 hu).1
 have hadd:(⟨b,o,none⟩:Addr).add j=⟨b,o+j,none⟩:=by unfold Addr.add;split <;> simp_all
 rw[hadd]
 obtain⟨b',o',he,-,c0,c1⟩:=hc (j / 2) (by omega)
 cases he
 obtain⟨g0,g1⟩:=zfY l (j / 2) (by omega)
 rcases Nat.mod_two_eq_zero_or_one j with hm | hm
 ·have e:j / 2*2=j:=by omega
  rw[e]at c0 g0
  rw[hu]at g0
  rw[c0,← g0]
 ·have e:j / 2*2+1=j:=by omega
  have e2:o+j / 2*2+1=o+j:=by omega
  rw[e2]at c1
  rw[e,hu]at g1
  rw[c1,← g1]
theorem zpP{w:World}{base n:Nat}{t:TypeId}{v:Value}{xs:List Value}(h:w.ownsRow base t 2 v n xs):(v=.slice none 0 0∧n=0)∨∃ g cap,v=.slice (some ⟨g,0,none⟩) n cap:=by
 rcases h.2 with⟨hv,h0⟩|⟨g,cap,cur,hv,_⟩
 ·exact .inl ⟨hv,h0⟩
 ·exact .inr ⟨g,cap,hv⟩
theorem TSl.raise{w:World}{B B':Nat}{v:Value}{l:List (Str × Str)}(h:TSl w B v l)(h1:B≤B')(h2:B'≤w.heap.size):TSl w B' v l:=by
 obtain⟨a,cap,rfl,-,hc⟩:=h
 refine⟨a,cap,rfl,h2,fun i hi=>?_⟩
 obtain⟨b,o,ha,hb,c0,c1⟩:=hc i hi
 exact⟨b,o,ha,by omega,c0,c1⟩
theorem zhP{w:World}{base n:Nat}{t:TypeId}{v:Value}{xs:List Value}(h:w.ownsRow base t 2 v n xs):∃ a cap,v=.slice a n cap:=by
 rcases h.2 with⟨hv,h0⟩|⟨g,cap,cur,hv,_⟩
 ·exact⟨none,0,by rw[hv,h0]⟩
 ·exact⟨some ⟨g,0,none⟩,cap,hv⟩
theorem zp3(cs:List (Rat × Nat))(c:Rat × Nat):zgF (cs++[c])=if c.1=0 then zgF cs else zgF cs++[c]:=by
 unfold zgF
 rw[List.filter_append]
 by_cases h:c.1=0
 ·rw[if_pos h];simp[h]
 ·rw[if_neg h];simp[h]
theorem zkE(cs:List (Rat × Nat)):(zgF cs).length≤cs.length:=List.length_filter_le ..
def Sorts(l r:List (Rat × Nat)):Prop:=∀ (base:Nat) (W:World) (o:Value),Env W→ng≤base→W.ownsRow base 60 2 o (l.map ofC).length (zeo (l.map ofC)) →
 Calls Tryz.prog 100 #[o,.func (.func 101) #[] #[]] W fun e W'=>(∃ u,e=.returned u)∧Below base W W'∧W'.ownsRow base 60 2 o (l.map ofC).length (zeo (r.map ofC))
theorem zrv(s1 s2:Str)(l m:Nat)(hl:lim (l:Int)=false)(hm:lim (m:Int)=false)(w:World)(hE:Env w) :
  CR 101 #[.agg #[.string ⟨s1.toArray⟩,.string ⟨(Lib.itoa (l:Int)).toArray⟩],.agg #[.string ⟨s2.toArray⟩,.string ⟨(Lib.itoa (m:Int)).toArray⟩]] w (.int .i64 (Lib.compareInt l m)):=by
 have HC:=LH (fun w hw=>zcL l m hl hm w hw)
 generalize Lib.itoa (l:Int)=L at *
 generalize Lib.itoa (m:Int)=M at *
 generalize Lib.compareInt (l:Int) (m:Int)=c at *
 go_enter Tryz.func101,Tryz.ntmps101
 go_wp2_with fail
 have C1:=(Blk.new w [.string ⟨s1.toArray⟩,.string ⟨L.toArray⟩] 60).alloc (.cells #[.string ⟨s2.toArray⟩,.string ⟨M.toArray⟩] 60)
 refine cx (HC.out _ (hE.q bt)) fun w1 hq1=>?_
 have hQ1:Q w w1:=Q.trans (show Below w.heap.size w _ from bt) hq1
 go_wp2
 go_ret
 exact⟨rfl,hQ1⟩
theorem zkW(s1 s2:Str)(l m:Nat)(hl:lim (l:Int)=false)(hm:lim (m:Int)=false)(base g cap:Nat)(w:World)(hE:Env w)(_hng:ng≤base)
  (hr:w.ownsRow base 60 2 (.slice (some ⟨g,0,none⟩) 2 cap) 2 [.string ⟨s1.toArray⟩,.string ⟨(Lib.itoa (l:Int)).toArray⟩,.string ⟨s2.toArray⟩,.string ⟨(Lib.itoa (m:Int)).toArray⟩]) :
  Calls Tryz.prog 226 #[.slice (some ⟨g,0,none⟩) 2 cap,.int .i64 0,.int .i64 2,.func (.func 101) #[] #[]] w fun e w'=>(∃ v,e=.returned v)∧Below base w w' ∧
   w'.ownsRow base 60 2 (.slice (some ⟨g,0,none⟩) 2 cap) 2 (if m<l then [.string ⟨s2.toArray⟩,.string ⟨(Lib.itoa (m:Int)).toArray⟩,.string ⟨s1.toArray⟩,.string ⟨(Lib.itoa (l:Int)).toArray⟩]else [.string ⟨s1.toArray⟩,.string ⟨(Lib.itoa (l:Int)).toArray⟩,.string ⟨s2.toArray⟩,.string ⟨(Lib.itoa (m:Int)).toArray⟩]):=by
 obtain⟨g',cap',hv,hbg,hgw⟩:=hr.form (by decide)
 cases hv
 have HCMP:=LH (fun w hw=>zrv s2 s1 m l hm hl w hw)
 have hcmp:(m<l∧Lib.compareInt (m:Int) (l:Int) = -1)∨(¬ m<l∧0≤Lib.compareInt (m:Int) (l:Int)):=by
  unfold Lib.compareInt
  by_cases h:m<l
  ·exact .inl ⟨h,by rw[if_pos (by omega)]⟩
  ·exact .inr ⟨h,by rw[if_neg (by omega)];split <;> decide⟩
 generalize Lib.compareInt (m:Int) (l:Int)=c at *
 have hro:=hr
 generalize Lib.itoa (l:Int)=L at *
 generalize Lib.itoa (m:Int)=M at *
 have c0:w.drew.cell? ⟨g,0,none⟩=some (.string ⟨s1.toArray⟩):=hr.cellAt 0 (by decide)
 have c1:w.drew.cell? ⟨g,1,none⟩=some (.string ⟨L.toArray⟩):=hr.cellAt 1 (by decide)
 have c2:w.drew.cell? ⟨g,2,none⟩=some (.string ⟨s2.toArray⟩):=hr.cellAt 2 (by decide)
 have c3:w.drew.cell? ⟨g,3,none⟩=some (.string ⟨M.toArray⟩):=hr.cellAt 3 (by decide)
 obtain⟨R,hR⟩:∃ R:List Value,(if m<l then [.string ⟨s2.toArray⟩,.string ⟨M.toArray⟩,.string ⟨s1.toArray⟩,.string ⟨L.toArray⟩]else [.string ⟨s1.toArray⟩,.string ⟨L.toArray⟩,.string ⟨s2.toArray⟩,.string ⟨M.toArray⟩])=R:=⟨_,rfl⟩
 rw[hR]
 have HRR:=LH hR
 have hw0:IntKind.i64.wrap 0=0:=by decide
 have hw1:IntKind.i64.wrap 1=1:=by decide
 clear hR hl hm
 go_enter Tryz.func226,Tryz.ntmps226
 go_wp2
 go_loopw [8] (fun i wr=>(i=.int .i64 1∧wr=w)∨(i=.int .i64 2∧Below base w wr∧wr.ownsRow base 60 2 (.slice (some ⟨g,0,none⟩) 2 cap) 2 R)) (fun i _=>2 - (intOf i).toNat)
 case atStart=>exact .inl ⟨rfl,rfl⟩
 case round =>
  rcases hrel with⟨rfl,rfl⟩|⟨rfl,hB,hrow⟩
  ·go_wp2
   go_loopw [9] (fun j wr2=>(j=.int .i64 1∧wr2=wr)∨(j=.int .i64 0∧Below base wr wr2∧wr2.ownsRow base 60 2 (.slice (some ⟨g,0,none⟩) 2 cap) 2 R)) (fun j _=>(intOf j).toNat)
   case atStart=>exact .inl ⟨rfl,rfl⟩
   case round =>
    rcases hrel with⟨rfl,rfl⟩|⟨rfl,hB,hrow⟩
    ·rcases hcmp with⟨hlt,rfl⟩|⟨hlt,hc0⟩
     ·go_wp2_with fail
      refine zn 17 rfl (by kernel_rfl) rfl ?_
      refine svp 0 ?_
      refine svp 1 ?_
      refine svp 2 ?_
      refine svp 3 ?_
      refine svp 4 ?_
      refine svp 5 ?_
      refine svp 6 ?_
      refine svp 7 ?_
      refine svq 8 rfl (by intro w' hq;have hc0:=za hq c2;have hc1:=za hq c3;go_simp;try with_reducible rfl) ?_
      refine svp 9 ?_
      refine svp 10 ?_
      refine svp 11 ?_
      refine svp 12 ?_
      refine svq 13 rfl (by intro w' hq;have hc0:=za hq c0;have hc1:=za hq c1;go_simp;try with_reducible rfl) ?_
      refine zk (i:=14) (v:=_) rfl rfl (by kernel_rfl) (by kernel_rfl) (fun _ _ _ h=>h) (by rfl) ?_ (fun w' hq=>HCMP.out w' (hE.q (Below.trans (Below.drew (Q.refl _)) hq))) ?_
      ·(intro w' hq;go_simp;try with_reducible rfl)
      simp only[Act.put,zs1,zs2,zs3]
      refine svp 15 ?_
      refine svp 16 ?_
      refine zh (by kernel_rfl) (fun w3 hq3=>?_)
      simp only[List.drop_succ_cons,List.drop_nil]
      have hQ3:Q wr w3:=Below.trans (Below.drew (Q.refl _)) hq3
      have hr3:=(zi hro hQ3).drew
      have k0:=hr3.cellAt 0 (by decide)
      have k1:=hr3.cellAt 1 (by decide)
      have k2:=hr3.cellAt 2 (by decide)
      have k3:=hr3.cellAt 3 (by decide)
      have f0:=hr3.frozenAt 0
      have f1:=hr3.frozenAt 1
      have f2:=hr3.frozenAt 2
      have f3:=hr3.frozenAt 3
      simp only[zs4,zs5]at k0 k1 k2 k3
      have hr3':=zi hro hQ3
      have k0':=hr3'.cellAt 0 (by decide)
      have k1':=hr3'.cellAt 1 (by decide)
      have k2':=hr3'.cellAt 2 (by decide)
      have k3':=hr3'.cellAt 3 (by decide)
      have f0':=hr3'.frozenAt 0
      have f1':=hr3'.frozenAt 1
      have f2':=hr3'.frozenAt 2
      have f3':=hr3'.frozenAt 3
      simp only[zs4,zs5]at k0' k1' k2' k3'
      have hr4:=((((hr3.stored 2 (.string ⟨s1.toArray⟩)).1.stored 3 (.string ⟨L.toArray⟩)).1.stored 0 (.string ⟨s2.toArray⟩)).1.stored 1 (.string ⟨M.toArray⟩)).1
      have HR4:Hid ((((w3.drew.setCell ⟨g,2,none⟩ (.string ⟨s1.toArray⟩)).setCell ⟨g,3,none⟩ (.string ⟨L.toArray⟩)).setCell ⟨g,0,none⟩ (.string ⟨s2.toArray⟩)).setCell ⟨g,1,none⟩ (.string ⟨M.toArray⟩) |>.ownsRow base 60 2 (.slice (some ⟨g,0,none⟩) 2 cap) 2 R):=LH (by
       rw[← HRR.out,if_pos hlt];exact hr4)
      have hB3:Below base wr w3.drew:=(hQ3.mono (Nat.le_of_lt (Nat.lt_of_le_of_lt hbg hgw))).drew
      have HB4:Hid (Below base wr ((((w3.drew.setCell ⟨g,2,none⟩ (.string ⟨s1.toArray⟩)).setCell ⟨g,3,none⟩ (.string ⟨L.toArray⟩)).setCell ⟨g,0,none⟩ (.string ⟨s2.toArray⟩)).setCell ⟨g,1,none⟩ (.string ⟨M.toArray⟩))) :=
       LH ((((hB3.setCell (p:=⟨g,2,none⟩) hbg _).setCell (p:=⟨g,3,none⟩) hbg _).setCell (p:=⟨g,0,none⟩) hbg _).setCell (p:=⟨g,1,none⟩) hbg _)
      clear hr3 hr3' hr4 hB3 hQ3 hq3 c0 c1 c2 c3 HCMP hlt
      go_wp2_with fail
      go_big_region
      all_goals go_wp2
      go_roundw
      case rel=>exact .inr ⟨rfl,HB4.out,HR4.out⟩
      case measure=>simp[intOf]
     ·have hRe:Hid (R=[.string ⟨s1.toArray⟩,.string ⟨L.toArray⟩,.string ⟨s2.toArray⟩,.string ⟨M.toArray⟩]):=LH (by rw[← HRR.out,if_neg hlt])
      have hcn:¬ c<0:=by omega
      clear hlt
      go_wp2_with fail
      refine zn 17 rfl (by kernel_rfl) rfl ?_
      refine svp 0 ?_
      refine svp 1 ?_
      refine svp 2 ?_
      refine svp 3 ?_
      refine svp 4 ?_
      refine svp 5 ?_
      refine svp 6 ?_
      refine svp 7 ?_
      refine svq 8 rfl (by intro w' hq;have hc0:=za hq c2;have hc1:=za hq c3;go_simp;try with_reducible rfl) ?_
      refine svp 9 ?_
      refine svp 10 ?_
      refine svp 11 ?_
      refine svp 12 ?_
      refine svq 13 rfl (by intro w' hq;have hc0:=za hq c0;have hc1:=za hq c1;go_simp;try with_reducible rfl) ?_
      refine zk (i:=14) (v:=_) rfl rfl (by kernel_rfl) (by kernel_rfl) (fun _ _ _ h=>h) (by rfl) ?_ (fun w' hq=>HCMP.out w' (hE.q (Below.trans (Below.drew (Q.refl _)) hq))) ?_
      ·(intro w' hq;go_simp;try with_reducible rfl)
      simp only[Act.put,zs1,zs2,zs3]
      refine svp 15 ?_
      refine svp 16 ?_
      refine zh (by kernel_rfl) (fun w3 hq3=>?_)
      simp only[List.drop_succ_cons,List.drop_nil]
      have hQ3:Q wr w3:=Below.trans (Below.drew (Q.refl _)) hq3
      have hr3:=zi hro hQ3
      have hB3:Below base wr w3:=hQ3.mono (Nat.le_of_lt (Nat.lt_of_le_of_lt hbg hgw))
      clear c0 c1 c2 c3 HCMP
      go_wp2
      go_roundw
      case rel=>exact .inr ⟨rfl,hB3,by rw[hRe.out];exact hr3⟩
      case measure=>simp[intOf]
    ·clear c0 c1 c2 c3 HCMP
     go_wp2_with fail
     refine zn 17 rfl (by kernel_rfl) rfl ?_
     refine svp 0 ?_
     refine svp 1 ?_
     refine svp 2 ?_
     refine svp 3 ?_
     refine svi 4 ?_
     refine svi 5 ?_
     refine svi 6 ?_
     refine svi 7 ?_
     refine svi 8 ?_
     refine svi 9 ?_
     refine svi 10 ?_
     refine svi 11 ?_
     refine svi 12 ?_
     refine svi 13 ?_
     refine svi 14 ?_
     refine svi 15 ?_
     refine svp 16 ?_
     refine zh (by kernel_rfl) (fun w3 hq3=>?_)
     simp only[List.drop_succ_cons,List.drop_nil]
     have hQ3:Q wr w3:=Below.trans (Below.drew (Q.refl _)) hq3
     have hr3:=zi hrow hQ3
     have hB3:=hB.trans (hQ3.mono (by have h2:=hB.size;omega))
     go_wp2
     go_roundw
     case rel=>exact .inr ⟨rfl,hB3,hr3⟩
     case measure=>simp[intOf]
  ·go_wp2
   go_end0
   exact⟨⟨_,rfl⟩,hB,hrow⟩
theorem zm0(s1 s2:Str)(l m:Nat)(hl:lim (l:Int)=false)(hm:lim (m:Int)=false)(base g cap:Nat)(k:Int)(w:World)(hE:Env w)(hng:ng≤base)
  (hr:w.ownsRow base 60 2 (.slice (some ⟨g,0,none⟩) 2 cap) 2 [.string ⟨s1.toArray⟩,.string ⟨(Lib.itoa (l:Int)).toArray⟩,.string ⟨s2.toArray⟩,.string ⟨(Lib.itoa (m:Int)).toArray⟩]) :
  Calls Tryz.prog 168 #[.slice (some ⟨g,0,none⟩) 2 cap,.int .i64 0,.int .i64 2,.int .i64 k,.func (.func 101) #[] #[]] w fun e w'=>(∃ v,e=.returned v)∧Below base w w' ∧
   w'.ownsRow base 60 2 (.slice (some ⟨g,0,none⟩) 2 cap) 2 (if m<l then [.string ⟨s2.toArray⟩,.string ⟨(Lib.itoa (m:Int)).toArray⟩,.string ⟨s1.toArray⟩,.string ⟨(Lib.itoa (l:Int)).toArray⟩]else [.string ⟨s1.toArray⟩,.string ⟨(Lib.itoa (l:Int)).toArray⟩,.string ⟨s2.toArray⟩,.string ⟨(Lib.itoa (m:Int)).toArray⟩]):=by
 have HI:=LH (zkW s1 s2 l m hl hm base g cap w hE hng hr)
 generalize (if m<l then [Value.string ⟨s2.toArray⟩,.string ⟨(Lib.itoa (m:Int)).toArray⟩,.string ⟨s1.toArray⟩,.string ⟨(Lib.itoa (l:Int)).toArray⟩]else [.string ⟨s1.toArray⟩,.string ⟨(Lib.itoa (l:Int)).toArray⟩,.string ⟨s2.toArray⟩,.string ⟨(Lib.itoa (m:Int)).toArray⟩])=R at *
 clear hr hl hm
 go_enter Tryz.func168,Tryz.ntmps168
 go_wp2
 go_loop [1,2,3] (fun x y _=>x=.int .i64 0∧y=.int .i64 2) (fun _ _ _=>0)
 case atStart=>exact⟨rfl,rfl⟩
 case round =>
  obtain⟨rfl,rfl⟩:=hrel
  go_wp2_with fail
  refine HI.out.mono ?_
  rintro e w1⟨⟨v,rfl⟩,hb,hr⟩
  go_wp2
  (try simp only[Exit.inBlock,Exit.then])
  refine bodyPost_ret (results_none rfl _ _ _) rfl ?_
  exact⟨⟨_,rfl⟩,hb,hr⟩
theorem zlj(s1 s2:Str)(l m:Nat)(hl:lim (l:Int)=false)(hm:lim (m:Int)=false)(base g cap:Nat)(w:World)(hE:Env w)(hng:ng≤base)
  (hr:w.ownsRow base 60 2 (.slice (some ⟨g,0,none⟩) 2 cap) 2 [.string ⟨s1.toArray⟩,.string ⟨(Lib.itoa (l:Int)).toArray⟩,.string ⟨s2.toArray⟩,.string ⟨(Lib.itoa (m:Int)).toArray⟩]) :
  Calls Tryz.prog 100 #[.slice (some ⟨g,0,none⟩) 2 cap,.func (.func 101) #[] #[]] w fun e w'=>(∃ v,e=.returned v)∧Below base w w' ∧
   w'.ownsRow base 60 2 (.slice (some ⟨g,0,none⟩) 2 cap) 2 (if m<l then [.string ⟨s2.toArray⟩,.string ⟨(Lib.itoa (m:Int)).toArray⟩,.string ⟨s1.toArray⟩,.string ⟨(Lib.itoa (l:Int)).toArray⟩]else [.string ⟨s1.toArray⟩,.string ⟨(Lib.itoa (l:Int)).toArray⟩,.string ⟨s2.toArray⟩,.string ⟨(Lib.itoa (m:Int)).toArray⟩]):=by
 have HI:=LH (fun k=>zm0 s1 s2 l m hl hm base g cap k w hE hng hr)
 generalize (if m<l then [Value.string ⟨s2.toArray⟩,.string ⟨(Lib.itoa (m:Int)).toArray⟩,.string ⟨s1.toArray⟩,.string ⟨(Lib.itoa (l:Int)).toArray⟩]else [.string ⟨s1.toArray⟩,.string ⟨(Lib.itoa (l:Int)).toArray⟩,.string ⟨s2.toArray⟩,.string ⟨(Lib.itoa (m:Int)).toArray⟩])=R at *
 clear hr hl hm
 go_enter Tryz.func100,Tryz.ntmps100
 go_wp2_with fail
 refine(Tryz.bits_Len _ _ (by omega) (by omega)).mono ?_
 rintro e w1⟨rfl,rfl⟩
 go_wp2_with fail
 refine(HI.out _).mono ?_
 rintro e w1⟨⟨v,rfl⟩,hb,hr⟩
 go_wp2
 go_end0
 exact⟨⟨_,rfl⟩,hb,hr⟩
theorem zgr(ad:Option Addr)(cap:Nat)(f:Value)(w:World) :
  Calls Tryz.prog 226 #[.slice ad 0 cap,.int .i64 0,.int .i64 0,f] w fun e w'=>(∃ v,e=.returned v)∧w=w':=by
 go_enter Tryz.func226,Tryz.ntmps226
 go_wp2
 go_loop [8] (fun i=>i=.int .i64 1) (fun _=>0)
 case atStart=>rfl
 case round =>
  subst hrel
  go_wp2
  go_end0
  exact⟨⟨_,rfl⟩,rfl⟩
theorem zlF(ad:Option Addr)(cap:Nat)(k:Int)(f:Value)(w:World) :
  Calls Tryz.prog 168 #[.slice ad 0 cap,.int .i64 0,.int .i64 0,.int .i64 k,f] w fun e w'=>(∃ v,e=.returned v)∧w=w':=by
 go_enter Tryz.func168,Tryz.ntmps168
 go_wp2
 go_loop [1,2,3] (fun x y _=>x=.int .i64 0∧y=.int .i64 0) (fun _ _ _=>0)
 case atStart=>exact⟨rfl,rfl⟩
 case round =>
  obtain⟨rfl,rfl⟩:=hrel
  go_wp2_with fail
  refine(zgr ad cap f _).mono ?_
  rintro e w1⟨⟨v,rfl⟩,rfl⟩
  go_wp2
  (try simp only[Exit.inBlock,Exit.then])
  refine bodyPost_ret (results_none rfl _ _ _) rfl ?_
  exact⟨⟨_,rfl⟩,rfl⟩
theorem zkf(ad:Option Addr)(cap:Nat)(f:Value)(w:World) :
  Calls Tryz.prog 100 #[.slice ad 0 cap,f] w fun e w'=>(∃ v,e=.returned v)∧w=w':=by
 go_enter Tryz.func100,Tryz.ntmps100
 go_wp2_with fail
 refine(Tryz.bits_Len _ _ (by omega) (by omega)).mono ?_
 rintro e w1⟨rfl,rfl⟩
 go_wp2_with fail
 refine(zlF ad cap _ f _).mono ?_
 rintro e w1⟨⟨v,rfl⟩,rfl⟩
 go_wp2
 go_end0
 exact⟨⟨_,rfl⟩,rfl⟩
theorem zpC(l:List (Rat × Nat))(hl:∀ c∈l,c.2<10 ^ 80)(h2:l.length≤2):Sorts l (znx l):=by
 intro base W o hE hng hr
 match l,hl,h2,hr with
 | [],_,_,hr =>
  obtain⟨a,cap,rfl⟩:=zhP hr
  refine(zkf a cap _ W).mono ?_
  rintro e W'⟨hu,rfl⟩
  exact⟨hu,Below.refl _ _,hr⟩
 | [c],_,_,hr =>
  obtain⟨a,cap,rfl⟩:=zhP hr
  refine(zlk a cap _ W).mono ?_
  rintro e W'⟨hu,rfl⟩
  exact⟨hu,Below.refl _ _,hr⟩
 | [c,d],hl,_,hr =>
  obtain⟨g,cap,rfl,-,-⟩:=hr.form (show 0<2 by decide)
  refine(zlj (ze c.1) (ze d.1) c.2 d.2 (zlY (hl c (by simp))) (zlY (hl d (by simp))) base g cap W hE hng hr).mono ?_
  rintro e W'⟨hu,hb,hr'⟩
  refine⟨hu,hb,?_⟩
  have e2:znx [c,d]=if d.2<c.2 then [d,c]else [c,d]:=rfl
  rw[e2]
  by_cases h:d.2<c.2
  ·rw[if_pos h]at hr' ⊢;exact hr'
  ·rw[if_neg h]at hr' ⊢;exact hr'
 | _::_::_::_,_,h2,_=>exact absurd h2 (by simp)
theorem zra(l:List (Rat × Nat)):(znx l).length=l.length:=by
 unfold znx
 split
 ·split <;> rfl
 ·rfl
end
end Go.Proofs.YtapnkgdnflofbaaGreatDoor
