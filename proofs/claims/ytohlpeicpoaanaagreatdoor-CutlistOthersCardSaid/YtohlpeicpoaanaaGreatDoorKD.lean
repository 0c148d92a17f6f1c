/-
  Walks of packages cutlist and kingpostref42 at lists that are not right.; Walks of package kingpostref42: Total, Covers.; Walks of package kingpostref42: decimal, text, Print.; Walks of package kingpostref42: read, Parse.
-/
import Derived.Test.YtohlpeicpoaanaaGreatDoorCY
import Derived.Test.YtohlpeicpoaanaaGreatDoorCU
import Derived.Laws.IdiomStrings
namespace Go.Proofs.YtohlpeicpoaanaaGreatDoor
set_option maxHeartbeats 4000000
section
open Go.RowKit Kp Go.Sort
theorem svr (i:Nat) {P:Program} {l:List Oper} {R:Exit→Act→World→Prop} {md:Region.Mode} {n:Nat} {oi:Oper} {v:Value} {f:Nat} {ls:Array Bool} {a a':Act} {w:World} {p:Addr} {u:Value} (e:w.cell? p=some u)
 (h:Steadily P md l R n f (ls.setIfInBounds i true) a' w) (hi:l[i]? = some oi:=by exact rfl) (hin:decide (i<n)=true:=by exact rfl)
 (hf:Region.free md l.toArray ls i=true:=by kernel_rfl) (hr:(Region.ready md l.toArray ls).contains i=true:=by kernel_rfl)
 (hw:Region.wanted oi (yielded l.toArray a.tmps)=true:=by rfl)
 (hx:∀ w',Q w w'→w'.cell? p=some u→(execOp a.eval oi).run P w'=.ok (.value v) w':=by intro w' hq hc0; go_simp; try with_reducible rfl)
 (hR:∀ c a w,R (.panic c) (a.put oi.dst v) w→R (.panic c) a w:=by exact fun _ _ _ h=>h)
 (ha:a.put oi.dst v=a':=by simp only [Act.put,zs1,zs2,zs3]; exact rfl):Steadily P md l R n (f+1) ls a w :=
 svq i hi (fun w' hq=>hx w' hq (qcell hq e)) h hin hf hr hw hR ha
theorem cut_Total_bad (l:List Ct) (hn:l.length≤1000000) (hm:∀ x∈l,x.ms.length≤1000000) (hc:chkF l≠0) (v:Value) (w:World) (hv:CtSl w v l) :
  Calls Tryz.prog 10 #[v] w fun e w'=>e=.returned (.tuple #[.int .i64 0,.int .i64 1])∧Q w w':=by
 have HC:=LH (cut_Check l hn hm v w hv)
 have hb:(chkF l != 0)=true:=by rw [bne_iff_ne]; exact hc
 obtain ⟨a,cap,rfl,-⟩:=hv
 clear hc hm
 generalize chkF l=c at *
 go_enter Tryz.func10,Tryz.ntmps10
 go_wp2_with fail
 refine HC.out.mono ?_
 rintro e w1 ⟨rfl,hq1⟩
 go_wp2
 go_ret2
 exact ⟨rfl,bt⟩
theorem cut_Sections_bad (l:List Ct) (hn:l.length≤1000000) (hm:∀ x∈l,x.ms.length≤1000000) (hc:chkF l≠0) (v:Value) (w:World) (hv:CtSl w v l) :
  Calls Tryz.prog 11 #[v] w fun e w'=>e=.returned (.tuple #[.slice none 0 0,.int .i64 1])∧Q w w':=by
 have HC:=LH (cut_Check l hn hm v w hv)
 have hb:(chkF l != 0)=true:=by rw [bne_iff_ne]; exact hc
 obtain ⟨a,cap,rfl,-⟩:=hv
 clear hc hm
 generalize chkF l=c at *
 go_enter Tryz.func11,Tryz.ntmps11
 go_wp2_with fail
 refine HC.out.mono ?_
 rintro e w1 ⟨rfl,hq1⟩
 go_wp2
 go_ret2
 exact ⟨rfl,bt⟩
theorem cut_Split_bad (l:List Ct) (hn:l.length≤1000000) (hm:∀ x∈l,x.ms.length≤1000000) (hc:chkF l≠0) (v:Value) (w:World) (hv:CtSl w v l) :
  Calls Tryz.prog 9 #[v] w fun e w'=>e=.returned (.tuple #[.slice none 0 0,.int .i64 1])∧Q w w':=by
 have HC:=LH (cut_Check l hn hm v w hv)
 have hb:(chkF l != 0)=true:=by rw [bne_iff_ne]; exact hc
 obtain ⟨a,cap,rfl,-⟩:=hv
 clear hc hm
 generalize chkF l=c at *
 go_enter Tryz.func9,Tryz.ntmps9
 go_wp2_with fail
 refine HC.out.mono ?_
 rintro e w1 ⟨rfl,hq1⟩
 go_wp2
 go_ret2
 exact ⟨rfl,bt⟩
theorem cut_Covers_bad (l:List Ct) (hn:l.length≤1000000) (hm:∀ x∈l,x.ms.length≤1000000) (hc:chkF l≠0) (n:Int) (v:Value) (w:World) (hv:CtSl w v l) :
  Calls Tryz.prog 12 #[v,.int .i64 n] w fun e w'=>e=.returned (.tuple #[.bool false,.int .i64 1])∧Q w w':=by
 have HC:=LH (cut_Check l hn hm v w hv)
 have hb:(chkF l != 0)=true:=by rw [bne_iff_ne]; exact hc
 obtain ⟨a,cap,rfl,-⟩:=hv
 clear hc hm
 generalize chkF l=c at *
 go_enter Tryz.func12,Tryz.ntmps12
 go_wp2_with fail
 refine HC.out.mono ?_
 rintro e w1 ⟨rfl,hq1⟩
 go_wp2
 go_ret2
 exact ⟨rfl,bt⟩
theorem cut_Print_bad (l:List Ct) (hn:l.length≤1000000) (hm:∀ x∈l,x.ms.length≤1000000) (hc:chkF l≠0) (v:Value) (w:World) (hv:CtSl w v l) :
  Calls Tryz.prog 18 #[v] w fun e w'=>e=.returned (.tuple #[.string ⟨#[]⟩,.int .i64 1])∧Q w w':=by
 have HC:=LH (cut_Check l hn hm v w hv)
 have hb:(chkF l != 0)=true:=by rw [bne_iff_ne]; exact hc
 obtain ⟨a,cap,rfl,-⟩:=hv
 clear hc hm
 generalize chkF l=c at *
 go_enter Tryz.func18,Tryz.ntmps18
 go_wp2_with fail
 refine HC.out.mono ?_
 rintro e w1 ⟨rfl,hq1⟩
 go_wp2
 go_ret2
 exact ⟨rfl,bt⟩
theorem ref_Total_bad (l:List Ct) (hn:l.length≤1000000) (hm:∀ x∈l,x.ms.length≤1000000) (hc:chkF l≠0) (v:Value) (w:World) (hv:CtSl w v l) :
  Calls Tryz.prog 20 #[v] w fun e w'=>e=.returned (.tuple #[.int .i64 0,.int .i64 1])∧Q w w':=by
 have HC:=LH (ref_Check l hn hm v w hv)
 have hb:(chkF l != 0)=true:=by rw [bne_iff_ne]; exact hc
 obtain ⟨a,cap,rfl,-⟩:=hv
 clear hc hm
 generalize chkF l=c at *
 go_enter Tryz.func20,Tryz.ntmps20
 go_wp2_with fail
 refine HC.out.mono ?_
 rintro e w1 ⟨rfl,hq1⟩
 go_wp2
 go_ret2
 exact ⟨rfl,bt⟩
theorem ref_Sections_bad (l:List Ct) (hn:l.length≤1000000) (hm:∀ x∈l,x.ms.length≤1000000) (hc:chkF l≠0) (v:Value) (w:World) (hv:CtSl w v l) :
  Calls Tryz.prog 21 #[v] w fun e w'=>∃ a c,e=.returned (.tuple #[.slice a 0 c,.int .i64 1])∧Q w w':=by
 have HC:=LH (ref_Check l hn hm v w hv)
 have hb:(chkF l != 0)=true:=by rw [bne_iff_ne]; exact hc
 obtain ⟨a,cap,rfl,-⟩:=hv
 clear hc hm
 generalize chkF l=c at *
 go_enter Tryz.func21,Tryz.ntmps21
 go_wp2_with fail
 refine HC.out.mono ?_
 rintro e w1 ⟨rfl,hq1⟩
 go_wp2
 go_ret2
 exact ⟨_,_,rfl,bt⟩
theorem ref_Split_bad (l:List Ct) (hn:l.length≤1000000) (hm:∀ x∈l,x.ms.length≤1000000) (hc:chkF l≠0) (v:Value) (w:World) (hv:CtSl w v l) :
  Calls Tryz.prog 22 #[v] w fun e w'=>∃ a c,e=.returned (.tuple #[.slice a 0 c,.int .i64 1])∧Q w w':=by
 have HC:=LH (ref_Check l hn hm v w hv)
 have hb:(chkF l != 0)=true:=by rw [bne_iff_ne]; exact hc
 obtain ⟨a,cap,rfl,-⟩:=hv
 clear hc hm
 generalize chkF l=c at *
 go_enter Tryz.func22,Tryz.ntmps22
 go_wp2_with fail
 refine HC.out.mono ?_
 rintro e w1 ⟨rfl,hq1⟩
 go_wp2
 go_ret2
 exact ⟨_,_,rfl,bt⟩
theorem ref_Covers_bad (l:List Ct) (hn:l.length≤1000000) (hm:∀ x∈l,x.ms.length≤1000000) (hc:chkF l≠0) (n:Int) (v:Value) (w:World) (hv:CtSl w v l) :
  Calls Tryz.prog 23 #[v,.int .i64 n] w fun e w'=>e=.returned (.tuple #[.bool false,.int .i64 1])∧Q w w':=by
 have HC:=LH (ref_Check l hn hm v w hv)
 have hb:(chkF l != 0)=true:=by rw [bne_iff_ne]; exact hc
 obtain ⟨a,cap,rfl,-⟩:=hv
 clear hc hm
 generalize chkF l=c at *
 go_enter Tryz.func23,Tryz.ntmps23
 go_wp2_with fail
 refine HC.out.mono ?_
 rintro e w1 ⟨rfl,hq1⟩
 go_wp2
 go_ret2
 exact ⟨rfl,bt⟩
theorem ref_Print_bad (l:List Ct) (hn:l.length≤1000000) (hm:∀ x∈l,x.ms.length≤1000000) (hc:chkF l≠0) (v:Value) (w:World) (hv:CtSl w v l) :
  Calls Tryz.prog 24 #[v] w fun e w'=>e=.returned (.tuple #[.string ⟨#[]⟩,.int .i64 1])∧Q w w':=by
 have HC:=LH (ref_Check l hn hm v w hv)
 have hb:(chkF l != 0)=true:=by rw [bne_iff_ne]; exact hc
 obtain ⟨a,cap,rfl,-⟩:=hv
 clear hc hm
 generalize chkF l=c at *
 go_enter Tryz.func24,Tryz.ntmps24
 go_wp2_with fail
 refine HC.out.mono ?_
 rintro e w1 ⟨rfl,hq1⟩
 go_wp2
 go_ret2
 exact ⟨rfl,bt⟩
set_option maxRecDepth 100000 in
theorem ref_Total (l:List Ct) (hg:Good l) (hm:∀ x∈l,x.ms.length≤512) (v:Value) (w:World) (hv:CtSl w v l) :
  Calls Tryz.prog 20 #[v] w fun e w'=>e=.returned (.tuple #[.int .i64 (totF l),.int .i64 0])∧Q w w':=by
 have hC:=ref_Check l (by have:=hg.len; omega) (fun x hx=>by have:=hm x hx; omega) v w hv
 rw [(good_iff l).2 hg] at hC
 have HC:=LH hC
 have HV:Hid (∀ W,Q w W→CtSl W v l):=LH (fun W hq=>hv.keep hq)
 have HT:Hid (∀ k,k<l.length→totF (l.take (k+1))=totF (l.take k)+(ctAt l k).n*((ctAt l k).ms.length:Int)):=LH (fun k hk=>totF_take hk)
 have HB:Hid (∀ k,0≤totF (l.take k)∧totF (l.take k)≤549755813888):=LH (fun k=>by
  have h:=totF_bound (l.take k) (fun x hx=>(hg.ok (List.mem_of_mem_take hx)).mul (hm x (List.mem_of_mem_take hx)))
  have h2:=hg.len
  rw [List.length_take] at h
  omega)
 have HM:Hid (∀ k,k<l.length→0≤(ctAt l k).n*((ctAt l k).ms.length:Int)∧(ctAt l k).n*((ctAt l k).ms.length:Int)≤1073741824):=LH (fun k hk=>by
  have hx:ctAt l k∈l:=by rw [ctAt_get hk]; exact List.getElem_mem hk
  exact (hg.ok hx).mul (hm _ hx))
 have HL:=LH (List.take_length (l:=l))
 have H0:Hid (totF (l.take 0)=0):=LH rfl
 have hln:(l.length:Int)≤512:=by have:=hg.len; omega
 clear hC hg hm
 obtain ⟨a,cap,rfl,-⟩:=hv
 go_enter Tryz.func20,Tryz.ntmps20
 go_wp2_with fail
 refine HC.out.mono ?_
 rintro e w1 ⟨rfl,hq1⟩
 clear HC
 go_wp2
 go_loopw [5,4] (fun i s wr=>∃ k:Nat,k≤l.length∧i=.int .i64 k∧s=.int .i64 (totF (l.take k))∧Q w wr) (fun i _ _=>l.length - (intOf i).toNat)
 case atStart=>exact ⟨0,by omega,rfl,by rw [H0.out],hq1⟩
 case round =>
  clear hq1
  obtain ⟨k,hk,rfl,rfl,hQ⟩:=hrel
  by_cases hlt:k<l.length
  ·obtain ⟨b,o,a2,c2,rfl,hb,hn,e0,e1,e2,e3⟩:=(HV.out _ hQ).at hlt
   have hT:=HT.out k hlt
   have hB:=HB.out k
   have hM:=HM.out k hlt
   clear HV HT HB HM HL H0 hn
   generalize hP:(ctAt l k).n*((ctAt l k).ms.length:Int)=P at *
   generalize (ctAt l k).ms.length=m at *
   generalize (ctAt l k).w=x1 at *
   generalize (ctAt l k).d=x2 at *
   generalize (ctAt l k).n=x3 at *
   generalize totF (l.take k)=s at *
   have HTk:=LH hT
   have hkz:(k:Int)<l.length:=by omega
   have hk0:(0:Int)≤k:=by omega
   have w1:IntKind.i64.wrap (x3*(m:Int))=P:=by rw [hP]; exact Go.IntWalk.i64_in _ (by omega)
   have w2:IntKind.i64.wrap (s+P)=s+P:=Go.IntWalk.i64_in _ (by omega)
   clear hT hP
   go_wp2_with fail
   refine wp_steadily 15 rfl (by kernel_rfl) rfl ?_
   refine svp 0 ?_
   refine svp 1 ?_
   refine svp 2 ?_
   refine svp 3 ?_
   refine svp 4 ?_
   refine svr 5 e2 ?_
   refine svp 6 ?_
   refine svp 7 ?_
   refine svp 8 ?_
   refine svp 9 ?_
   refine svr 10 e3 ?_
   refine svp 11 ?_
   refine svp 12 ?_
   refine svp 13 ?_
   refine svp 14 ?_
   refine steadily_done (by kernel_rfl) (fun w3 hq3=>?_)
   have hQ3:=Q.trans hQ (Below.trans (Below.drew (Q.refl _)) hq3)
   clear e0 e1 e2 e3 hq3
   simp only [List.drop_succ_cons,List.drop_nil]
   go_wp2
   go_roundw
   case rel=>exact ⟨k+1,by omega,by go_num,by rw [HTk.out],hQ3⟩
   case measure=>simp [intOf]; omega
  ·obtain rfl:k=l.length:=by omega
   have hL:=HL.out
   rw [hL]
   clear HV HT HB HM HL H0 hL
   go_wp2
   go_ret2
   exact ⟨rfl,hQ⟩
set_option maxRecDepth 100000 in
theorem ref_Covers (l:List Ct) (hg:Good l) (hm:∀ x∈l,x.ms.length≤512) (n:Int) (hn0:0≤n) (hn5:n≤512) (v:Value) (w:World) (hv:CtSl w v l) :
  Calls Tryz.prog 23 #[v,.int .i64 n] w fun e w'=>e=.returned (.tuple #[.bool (covF l n),.int .i64 0])∧Q w w':=by
 have hC:=ref_Check l (by have:=hg.len; omega) (fun x hx=>by have:=hm x hx; omega) v w hv
 rw [(good_iff l).2 hg] at hC
 have HC:=LH hC
 have HV:Hid (∀ W,Q w W→CtSl W v l):=LH (fun W hq=>hv.keep hq)
 have HT:Hid (∀ k,k<l.length→(memb l (k+1)).length=(memb l k).length+(ctAt l k).ms.length):=LH (fun k hk=>by rw [memb_step hk,List.length_append])
 have HM:Hid (∀ k,k<l.length→0<(ctAt l k).ms.length∧(ctAt l k).ms.length≤512):=LH (fun k hk=>by
  have hx:ctAt l k∈l:=by rw [ctAt_get hk]; exact List.getElem_mem hk
  exact ⟨(hg.ok hx).some,hm _ hx⟩)
 have HX:Hid (∀ k,k<l.length→n≤lastI (ctAt l k).ms→covF l n=false):=LH (fun k hk h=>by
  unfold covF
  rw [Bool.and_eq_false_iff]
  left
  rw [← Bool.not_eq_true,List.all_eq_true]
  intro ha
  have hx:ctAt l k∈l:=by rw [ctAt_get hk]; exact List.getElem_mem hk
  have:=of_decide_eq_true (ha _ hx)
  omega)
 have HY:Hid ((∀ k,k<l.length→lastI (ctAt l k).ms<n)→covF l n=decide (((memb l l.length).length:Int)=n)):=LH (fun h=>by
  unfold covF
  rw [List.all_eq_true.2 (fun x hx=>by
   obtain ⟨k,hk,rfl⟩:=List.mem_iff_getElem.1 hx
   have:=h k hk
   rw [ctAt_get hk] at this
   exact decide_eq_true this),Bool.true_and,memb_all]
  rfl)
 have HL:Hid (∀ k,k≤l.length→(memb l k).length≤512*k):=LH (fun k=>by
  induction k with
  | zero=>intro _; simp [memb]
  | succ k ih =>
   intro hk
   have h1:=ih (by omega)
   have h2:=HT.out k (by omega)
   have h3:=HM.out k (by omega)
   omega)
 have H0:Hid ((memb l 0).length=0):=LH rfl
 generalize covF l n=r at *
 have hln:(l.length:Int)≤512:=by have:=hg.len; omega
 have hd0:decide (n<0)=false:=decide_eq_false (by omega)
 have hd5:decide (512<n)=false:=decide_eq_false (by omega)
 clear hC hg hm
 obtain ⟨a,cap,rfl,-⟩:=hv
 go_enter Tryz.func23,Tryz.ntmps23
 go_wp2_with fail
 refine HC.out.mono ?_
 rintro e w1 ⟨rfl,hq1⟩
 clear HC
 go_wp2
 go_loopw [7,6] (fun i s wr=>∃ k:Nat,k≤l.length∧i=.int .i64 k∧s=.int .i64 ((memb l k).length:Int)∧Hid (∀ j,j<k→lastI (ctAt l j).ms<n)∧Q w wr) (fun i _ _=>l.length - (intOf i).toNat)
 case atStart=>exact ⟨0,by omega,rfl,by rw [H0.out]; rfl,LH (fun j hj=>absurd hj (Nat.not_lt_zero _)),hq1⟩
 case round =>
  clear hq1
  obtain ⟨k,hk,rfl,rfl,HA,hQ⟩:=hrel
  by_cases hlt:k<l.length
  ·obtain ⟨b,o,a2,c2,rfl,hb,hn,e0,e1,e2,e3⟩:=(HV.out _ hQ).at hlt
   have HTk:=LH (HT.out k hlt)
   have hB:=HL.out k hk
   obtain ⟨hm0,hm5⟩:=HM.out k hlt
   obtain ⟨b2,o2,rfl,hb2,c0⟩:=hn.cell.2 ((ctAt l k).ms.length - 1) (by omega)
   have HXk:=LH (HX.out k hlt)
   have HAk:Hid (lastI (ctAt l k).ms<n→∀ j,j<k+1→lastI (ctAt l j).ms<n):=LH (fun h j hj=>by
    rcases Nat.lt_or_ge j k with h1 | h1
    ·exact HA.out j h1
    ·obtain rfl:j=k:=by omega
     exact h)
   have c1:wr.cell? ⟨b2,o2+((ctAt l k).ms.length - 1),none⟩=some (.int .i64 (lastI (ctAt l k).ms)):=c0
   clear HV HT HM HL H0 hn HX HY HA c0
   generalize lastI (ctAt l k).ms=z at *
   generalize (ctAt l k).ms.length=m at *
   generalize (ctAt l k).w=x1 at *
   generalize (ctAt l k).d=x2 at *
   generalize (ctAt l k).n=x3 at *
   generalize (memb l k).length=s at *
   obtain ⟨m,rfl⟩:∃ j,m=j+1:=⟨m - 1,by omega⟩
   rw [Nat.add_sub_cancel] at c1
   have hkz:(k:Int)<l.length:=by omega
   have hk0:(0:Int)≤k:=by omega
   have hm0':(0:Int)≤m:=by omega
   have hmw:IntKind.i64.wrap (m:Int)=m:=Go.IntWalk.i64_in _ (by omega)
   have hmz:(m:Int)<(m:Int)+1:=by omega
   have hmn:m<m+1:=by omega
   have w2:IntKind.i64.wrap ((s:Int)+((m:Int)+1))=(s:Int)+((m:Int)+1):=Go.IntWalk.i64_in _ (by omega)
   by_cases hz:n≤z
   ·have hd:decide (n≤z)=true:=decide_eq_true hz
    have hr:=HXk.out hz
    clear HXk HAk HTk hz
    subst hr
    go_wp2_with fail
    refine wp_steadily 16 rfl (by kernel_rfl) rfl ?_
    refine svp 0 ?_
    refine svp 1 ?_
    refine svp 2 ?_
    refine svp 3 ?_
    refine svr 4 e3 ?_
    refine svp 5 ?_
    refine svp 6 ?_
    refine svp 7 ?_
    refine svp 8 ?_
    refine svr 9 e3 ?_
    refine svp 10 ?_
    refine svp 11 ?_
    refine svp 12 ?_
    refine svr 13 c1 ?_
    refine svp 14 ?_
    refine svp 15 ?_
    refine steadily_done (by kernel_rfl) (fun w3 hq3=>?_)
    have hQ3:=Q.trans hQ (Below.trans (Below.drew (Q.refl _)) hq3)
    clear e0 e1 e2 e3 c1 hq3
    simp only [List.drop_succ_cons,List.drop_nil]
    go_wp2
    go_ret2
    exact ⟨rfl,hQ3⟩
   ·have hd:decide (n≤z)=false:=decide_eq_false hz
    have HK:=LH (HAk.out (by omega))
    clear HXk HAk hz
    go_wp2_with fail
    refine wp_steadily 16 rfl (by kernel_rfl) rfl ?_
    refine svp 0 ?_
    refine svp 1 ?_
    refine svp 2 ?_
    refine svp 3 ?_
    refine svr 4 e3 ?_
    refine svp 5 ?_
    refine svp 6 ?_
    refine svp 7 ?_
    refine svp 8 ?_
    refine svr 9 e3 ?_
    refine svp 10 ?_
    refine svp 11 ?_
    refine svp 12 ?_
    refine svr 13 c1 ?_
    refine svp 14 ?_
    refine svp 15 ?_
    refine steadily_done (by kernel_rfl) (fun w3 hq3=>?_)
    have hQ3:=Q.trans hQ (Below.trans (Below.drew (Q.refl _)) hq3)
    clear e0 e1 e2 e3 c1 hq3
    simp only [List.drop_succ_cons,List.drop_nil]
    go_wp2
    go_roundw
    case rel=>exact ⟨k+1,by omega,by go_num,by rw [HTk.out]; push_cast; rfl,HK,hQ3⟩
    case measure=>simp [intOf]; omega
  ·obtain rfl:k=l.length:=by omega
   have hr:=HY.out HA.out
   clear HV HT HM HL H0 HA HX HY
   subst hr
   go_wp2
   go_ret2
   exact ⟨rfl,hQ⟩
theorem cut_Covers_range (l:List Ct) (hg:Good l) (n:Int) (hn:n<0∨512<n) (v:Value) (w:World) (hv:CtSl w v l) :
  Calls Tryz.prog 12 #[v,.int .i64 n] w fun e w'=>e=.returned (.tuple #[.bool false,.int .i64 2])∧Q w w':=by
 have hC:=cut_Check l (by have:=hg.len; omega) (fun x hx=>by have:=(hg.txt x hx).2; omega) v w hv
 rw [(good_iff l).2 hg] at hC
 have HC:=LH hC
 clear hC
 obtain ⟨a,cap,rfl,-⟩:=hv
 generalize h1:decide (n<0)=b1
 generalize h2:decide (512<n)=b2
 have hb:(b1 || b2)=true:=by
  rw [← h1,← h2]
  simpa using hn
 clear hn
 go_enter Tryz.func12,Tryz.ntmps12
 go_wp2_with fail
 refine HC.out.mono ?_
 rintro e w1 ⟨rfl,hq1⟩
 cases b1 <;> cases b2
 ·cases hb
 all_goals
  clear HC
  go_wp2
  go_ret2
  exact ⟨rfl,bt⟩
theorem ref_Covers_range (l:List Ct) (hg:Good l) (n:Int) (hn:n<0∨512<n) (v:Value) (w:World) (hv:CtSl w v l) :
  Calls Tryz.prog 23 #[v,.int .i64 n] w fun e w'=>e=.returned (.tuple #[.bool false,.int .i64 2])∧Q w w':=by
 have hC:=ref_Check l (by have:=hg.len; omega) (fun x hx=>by have:=(hg.txt x hx).2; omega) v w hv
 rw [(good_iff l).2 hg] at hC
 have HC:=LH hC
 clear hC
 obtain ⟨a,cap,rfl,-⟩:=hv
 generalize h1:decide (n<0)=b1
 generalize h2:decide (512<n)=b2
 have hb:(b1 || b2)=true:=by
  rw [← h1,← h2]
  simpa using hn
 clear hn
 go_enter Tryz.func23,Tryz.ntmps23
 go_wp2_with fail
 refine HC.out.mono ?_
 rintro e w1 ⟨rfl,hq1⟩
 cases b1 <;> cases b2
 ·cases hb
 all_goals
  clear HC
  go_wp2
  go_ret2
  exact ⟨rfl,bt⟩
theorem dec_dig {n:Nat} (h:n<10):Lib.decDigits n=[UInt8.ofNat (48+n)]:=by
 unfold Lib.decDigits
 rw [dif_pos h]
theorem dec_next {n:Nat} (h:10≤n):Lib.decDigits n=Lib.decDigits (n / 10)++[UInt8.ofNat (48+n % 10)]:=by
 conv=>lhs; unfold Lib.decDigits
 rw [dif_neg (by omega)]
theorem conv_byte (c:UInt8) (w:World) (z:Int) (hz:z=(c.toNat:Int)):(convert 96 9 (.slice (some ⟨w.heap.size,0,none⟩) 1 1)).run Tryz.prog (w.alloc (.cells #[.int .u8 z] 5))=.ok (.string ⟨#[c]⟩) (w.alloc (.cells #[.int .u8 z] 5)):=by
 subst hz
 refine run_convert_bytes_back _ 96 9 5 ⟨w.heap.size,0,none⟩ 1 [c] Tryz.underlying96 Tryz.underlying5 Tryz.underlying9 (fun j hj=>?_)
 obtain rfl:j=0:=by simpa using hj
 exact (Blk.new w [.int .u8 (c.toNat:Int)] 5).cell 0
theorem dec_one_of {n k:Nat} {A:Prop} (ih:n<10 ^ (k+1)→n<10000000→A) (hn:n<10):A:=ih (Nat.lt_of_lt_of_le hn (by rw [Nat.pow_succ]; have:=Nat.pow_pos (n:=k) (show 0<10 by decide); omega)) (by omega)
theorem add_rule0 (P:Program) (a b:Str) (h:a.length+b.length≤10000000) (w:World):(Op.stringOp .add ⟨a.toArray⟩ ⟨b.toArray⟩).run P w=.ok (.string ⟨(a++b).toArray⟩) w:=by
 rw [run_string_add_sum w _ _ (by show a.length+b.length≤_; omega),ByteArray.mk_append_mk]
set_option maxRecDepth 100000 in
theorem ref42_dec:∀ (k n:Nat),n<10 ^ (k+1)→n<10000000→∀ (w:World),
  Calls Tryz.prog 62 #[.int .i64 n] w fun e w'=>e=.returned (.string ⟨(Lib.decDigits n).toArray⟩)∧Q w w':=by
 intro k
 induction k with
 | zero =>
  intro n hk _ w
  have hn:n<10:=by simpa using hk
  have hz:(n:Int)<10:=by omega
  have hw:IntKind.i64.wrap (48+(n:Int))=48+(n:Int):=Go.IntWalk.i64_in _ (by omega)
  have hw8:IntKind.u8.wrap (48+(n:Int))=48+(n:Int):=Go.IntWalk.u8_in _ (by omega)
  have hcv:=fun w=>conv_byte (UInt8.ofNat (48+n)) w (48+(n:Int)) (by rw [digit_toNat hn]; omega)
  rw [dec_dig hn]
  generalize UInt8.ofNat (48+n)=c at *
  go_enter Tryz.func62,Tryz.ntmps62
  go_wp2
  go_ret
  exact ⟨rfl,bt⟩
 | succ k ih =>
  intro n hk h7 w
  by_cases hn:n<10
  ·exact dec_one_of (ih n) hn w
  ·have hz:¬ (n:Int)<10:=by omega
   have HI:=LH (ih (n / 10) (by rw [Nat.pow_succ] at hk; omega) (by omega))
   have hd:n % 10<10:=Nat.mod_lt _ (by decide)
   have hq1:Int.tdiv (n:Int) 10=((n / 10:Nat):Int):=by rw [Int.tdiv_eq_ediv_of_nonneg (by omega)]; simp
   have hr1:Int.tmod (n:Int) 10=((n % 10:Nat):Int):=by rw [Int.tmod_eq_emod_of_nonneg (by omega)]; simp
   have hw:IntKind.i64.wrap (48+((n % 10:Nat):Int))=48+((n % 10:Nat):Int):=Go.IntWalk.i64_in _ (by omega)
   have hw8:IntKind.u8.wrap (48+((n % 10:Nat):Int))=48+((n % 10:Nat):Int):=Go.IntWalk.u8_in _ (by omega)
   have HT:=LH (digit_toNat hd)
   have hl:(Lib.decDigits (n / 10)).length≤7:=(decDigits_len_le _ 7 (by decide)).2 (by omega)
   have HD:=LH (dec_next (n:=n) (by omega))
   generalize Lib.decDigits n=X at *
   generalize Lib.decDigits (n / 10)=Y at *
   generalize UInt8.ofNat (48+n % 10)=c at *
   have hm:n / 10<10000000:=by omega
   generalize n % 10=d at *
   generalize n / 10=m at *
   have hwm:IntKind.i64.wrap (m:Int)=m:=Go.IntWalk.i64_in _ (by omega)
   have hadd:=add_rule0 Tryz.prog Y [c] (by simp; omega)
   go_enter Tryz.func62,Tryz.ntmps62
   go_wp2_with fail
   refine wp_steadily 10 rfl (by kernel_rfl) rfl ?_
   refine svp 0 ?_
   refine svp 1 ?_
   refine steadily_call (i:=2) (v:=_) rfl rfl (by kernel_rfl) (by kernel_rfl) (fun _ _ _ h=>h) (by rfl) ?_ (fun w' hq=>HI.out w') ?_
   ·(intro w' hq; go_simp; try with_reducible rfl)
   simp only [Act.put,zs1,zs2,zs3]
   refine svp 3 ?_
   refine svp 4 ?_
   refine svp 5 ?_
   refine svp 6 ?_
   refine steadily_make (i:=7) (fun w'=>.slice (some ⟨w'.heap.size,0,none⟩) 1 1) (.cells #[.int .u8 (48+(d:Int))] 5) rfl rfl (by kernel_rfl) (by rfl) (fun w' hq=>?_) (fun w6 hq6=>?_)
   ·go_simp
   simp only [Act.put,zs1,zs2,zs3]
   have B6:=Blk.new w6 [.int .u8 (48+(d:Int))] 5
   refine steadily_value (i:=8) (v:=.string ⟨#[c]⟩) rfl rfl (by kernel_rfl) (by kernel_rfl) (fun _ _ _ h=>h) (by rfl) (fun w' hq=>?_) ?_
   ·have hcv:(convert 96 9 (.slice (some ⟨w6.heap.size,0,none⟩) 1 1)).run Tryz.prog w'=.ok (.string ⟨#[c]⟩) w':=by
     refine run_convert_bytes_back _ 96 9 5 ⟨w6.heap.size,0,none⟩ 1 [c] Tryz.underlying96 Tryz.underlying5 Tryz.underlying9 (fun j hj=>?_)
     obtain rfl:j=0:=by simpa using hj
     have h:=(B6.keep hq B6.lt).cell 0
     simp only [List.getElem?_cons_zero] at h
     rw [show (([c]:Str)[0].toNat:Int)=48+(d:Int) by have:=HT.out; simp; omega]
     exact h
    go_simp
   simp only [Act.put,zs1,zs2,zs3]
   refine svp 9 ?_
   refine steadily_done (by kernel_rfl) (fun w9 hq9=>?_)
   have hQ9:Q w w9:=Q.trans (Below.drew (Q.refl w)) (Q.trans hq6 (Q.trans ((Below.refl _ w6).alloc (Nat.le_refl _) _) hq9))
   clear HT HI B6 hq6 hq9 hadd
   simp only [List.drop_succ_cons,List.drop_zero]
   go_wp2
   go_ret
   exact ⟨by rw [HD.out]; rfl,hQ9⟩
theorem ref42_num (z:Int) (h0:0≤z) (h1:z<10000000) (w:World) :
  Calls Tryz.prog 62 #[.int .i64 z] w fun e w'=>e=.returned (.string ⟨(Lib.itoa z).toArray⟩)∧Q w w':=by
 obtain ⟨n,rfl⟩:∃ n:Nat,z=n:=⟨z.toNat,by omega⟩
 rw [← dec_eq_itoa]
 exact ref42_dec 6 n (by omega) (by omega) w
set_option maxRecDepth 100000 in
theorem ref_text (l:List Ct) (hln:l.length≤512) (hok:∀ x∈l,PcOk x∧x.ms.length≤512) (v:Value) (w:World) (hv:CtSl w v l) :
  Calls Tryz.prog 42 #[v] w fun e w'=>e=.returned (.string ⟨(textF l).toArray⟩)∧Q w w':=by
 have HV:Hid (∀ W,Q w W→CtSl W v l):=LH (fun W hq=>hv.keep hq)
 have HO:Hid (∀ k,k<l.length→PcOk (ctAt l k)∧(ctAt l k).ms.length≤512):=LH (fun k hk=>hok _ (by rw [ctAt_get hk]; exact List.getElem_mem hk))
 have HT:Hid (∀ k,k<l.length→textF (l.take (k+1))=textF (l.take k)++(joinF (numF (ctAt l k))++[10])):=LH (fun k hk=>textF_take hk)
 have HB:Hid (∀ k,(textF (l.take k)).length≤2200000):=LH (fun k=>by
  have h:=textF_len (l.take k) (fun x hx=>hok x (List.mem_of_mem_take hx))
  rw [List.length_take] at h
  omega)
 have HL:=LH (List.take_length (l:=l))
 have hcv:=fun w=>conv_byte 10 w 10 rfl
 obtain ⟨a,cap,rfl,-⟩:=hv
 clear hok
 go_enter Tryz.func42,Tryz.ntmps42
 go_wp2
 go_loopw [4,3] (fun i s wr=>∃ k:Nat,k≤l.length∧i=.int .i64 k∧s=.string ⟨(textF (l.take k)).toArray⟩∧Q w wr) (fun i _ _=>l.length - (intOf i).toNat)
 case atStart=>exact ⟨0,by omega,rfl,rfl,Q.refl _⟩
 case round =>
  obtain ⟨k,hk,rfl,rfl,hQ⟩:=hrel
  by_cases hlt:k<l.length
  ·obtain ⟨b,o,a2,c2,rfl,hb,hn,e0,e1,e2,e3⟩:=(HV.out _ hQ).cellsAt hlt
   obtain ⟨hpk,hm5⟩:=HO.out k hlt
   have HTk:=LH (HT.out k hlt)
   have hB:=HB.out k
   have hkz:(k:Int)<l.length:=by omega
   have hk0:(0:Int)≤k:=by omega
   clear HV HO HT HB HL
   generalize ctAt l k=x at *
   have HN2:Hid (∀ j,j<x.ms.length→∃ b2 o2,a2=some ⟨b2,o2,none⟩∧wr.cell? ⟨b2,o2+j,none⟩=some (.int .i64 (atI x.ms j))):=LH (fun j hj=>by
    obtain ⟨b3,o3,he,-,hc⟩:=hn.cell.2 j hj
    exact ⟨b3,o3,he,hc⟩)
   have HNu:Hid (∀ j,j<x.ms.length→0≤atI x.ms j∧atI x.ms j<10000000):=LH (fun j hj=>by
    rw [atI_get hj]
    exact hpk.nums _ (by unfold numF; simp))
   have HTK:Hid (∀ j,j<x.ms.length→joinF ((numF x).take (3+(j+1)))=joinF ((numF x).take (3+j))++[32]++Lib.itoa (atI x.ms j)):=LH (fun j hj=>by
    have h3:(numF x).length=x.ms.length+3:=rfl
    have e:(numF x).take (3+(j+1))=(numF x).take (3+j)++[atI x.ms j]:=by
     rw [show 3+(j+1)=(3+j)+1 by omega,take_at (by omega)]
     congr 2
     rw [show 3+j=j+1+1+1 by omega]; rfl
    have hne:(numF x).take (3+j)≠[]:=fun e=>by
     have h1:=congrArg List.length e
     rw [List.length_take,List.length_nil] at h1
     omega
    rw [e,joinF_snoc,if_neg hne]; simp)
   have HJL:Hid (∀ j,(joinF ((numF x).take j)).length≤4200):=LH (fun j=>by
    have h:=joinF_len ((numF x).take j) (fun z hz=>hpk.nums z (List.mem_of_mem_take hz))
    rw [List.length_take] at h
    have h3:(numF x).length=x.ms.length+3:=rfl
    omega)
   have HJ3:Hid (joinF ((numF x).take 3)=Lib.itoa x.w++[32]++Lib.itoa x.d++[32]++Lib.itoa x.n):=LH (by
    show joinF [x.w,x.d,x.n]=_
    simp [joinF])
   have HJe:Hid (joinF ((numF x).take (3+x.ms.length))=joinF (numF x)):=LH (by rw [List.take_of_length_le (by show x.ms.length+3≤_; omega)])
   have hw:=hpk.nums x.w (by unfold numF; simp)
   have hd:=hpk.nums x.d (by unfold numF; simp)
   have hn3:=hpk.nums x.n (by unfold numF; simp)
   have l1:=itoa_six hw.1 hw.2
   have l2:=itoa_six hd.1 hd.2
   have l3:=itoa_six hn3.1 hn3.2
   have H1:=LH (ref42_num x.w hw.1 hw.2)
   have H2:=LH (ref42_num x.d hd.1 hd.2)
   have H3:=LH (ref42_num x.n hn3.1 hn3.2)
   obtain ⟨x1,x2,x3,xm⟩:=x
   simp only at e0 e1 e2 e3 hm5 HN2 HNu HTK HJL HJ3 HJe HTk H1 H2 H3 l1 l2 l3
   clear hn hpk hw hd hn3
   generalize numF ⟨x1,x2,x3,xm⟩=L at *
   generalize Lib.itoa x1=X1 at *
   generalize Lib.itoa x2=X2 at *
   generalize Lib.itoa x3=X3 at *
   generalize textF (l.take k)=T0 at *
   have hxm5:(xm.length:Int)≤512:=by omega
   have a1:=add_rule0 Tryz.prog T0 X1 (by omega)
   have a2':=add_rule0 Tryz.prog (T0++X1) [32] (by simp; omega)
   have a3:=add_rule0 Tryz.prog (T0++X1++[32]) X2 (by simp; omega)
   have a4:=add_rule0 Tryz.prog (T0++X1++[32]++X2) [32] (by simp; omega)
   have a5:=add_rule0 Tryz.prog (T0++X1++[32]++X2++[32]) X3 (by simp; omega)
   have HS:Hid (T0++joinF (L.take (3+0))=T0++X1++[32]++X2++[32]++X3):=LH (by rw [HJ3.out]; simp)
   clear HJ3
   generalize T0++X1++[32]++X2++[32]++X3=S5 at *
   generalize T0++X1++[32]++X2++[32]=S4 at *
   generalize T0++X1++[32]++X2=S3 at *
   generalize T0++X1++[32]=S2 at *
   generalize T0++X1=S1 at *
   go_wp2_with fail
   refine wp_steadily 24 rfl (by kernel_rfl) rfl ?_
   refine svp 0 ?_
   refine svp 1 ?_
   refine svp 2 ?_
   refine svp 3 ?_
   refine svp 4 ?_
   refine svr 5 e0 ?_
   refine steadily_call (i:=6) (v:=_) rfl rfl (by kernel_rfl) (by kernel_rfl) (fun _ _ _ h=>h) (by rfl) ?_ (fun w' hq=>H1.out w') ?_
   ·(intro w' hq; go_simp; try with_reducible rfl)
   simp only [Act.put,zs1,zs2,zs3]
   refine svp 7 ?_
   refine svp 8 ?_
   refine svp 9 ?_
   refine svp 10 ?_
   refine svp 11 ?_
   refine svp 12 ?_
   refine svr 13 e1 ?_
   refine steadily_call (i:=14) (v:=_) rfl rfl (by kernel_rfl) (by kernel_rfl) (fun _ _ _ h=>h) (by rfl) ?_ (fun w' hq=>H2.out w') ?_
   ·(intro w' hq; go_simp; try with_reducible rfl)
   simp only [Act.put,zs1,zs2,zs3]
   refine svp 15 ?_
   refine svp 16 ?_
   refine svp 17 ?_
   refine svp 18 ?_
   refine svp 19 ?_
   refine svp 20 ?_
   refine svr 21 e2 ?_
   refine steadily_call (i:=22) (v:=_) rfl rfl (by kernel_rfl) (by kernel_rfl) (fun _ _ _ h=>h) (by rfl) ?_ (fun w' hq=>H3.out w') ?_
   ·(intro w' hq; go_simp; try with_reducible rfl)
   simp only [Act.put,zs1,zs2,zs3]
   refine svp 23 ?_
   refine steadily_done (by kernel_rfl) (fun w3 hq3=>?_)
   have hq13:Q wr w3:=Below.trans (Below.drew (Q.refl _)) hq3
   have hQ3:=Q.trans hQ hq13
   replace e3:=qcell hq13 e3
   clear e0 e1 e2 H1 H2 H3 a1 a2' a3 a4 a5 l1 l2 l3 hq3 hQ
   simp only [List.drop_succ_cons,List.drop_zero]
   have HN3:Hid (∀ W,Q w3 W→∀ j,j<xm.length→∃ b2 o2,a2=some ⟨b2,o2,none⟩∧W.cell? ⟨b2,o2+j,none⟩=some (.int .i64 (atI xm j))):=LH (fun W hq j hj=>by
    obtain ⟨b2,o2,h1,h2⟩:=HN2.out j hj
    exact ⟨b2,o2,h1,qcell (Q.trans hq13 hq) h2⟩)
   clear HN2 hq13
   go_wp2_with fail
   go_loopw [5,3] (fun i s wl=>∃ m:Nat,m≤xm.length∧i=.int .i64 m∧s=.string ⟨(T0++joinF (L.take (3+m))).toArray⟩∧Q w3 wl) (fun i _ _=>xm.length - (intOf i).toNat)
   case atStart=>exact ⟨0,by omega,rfl,by rw [HS.out],Q.refl _⟩
   case round =>
    clear HS
    obtain ⟨m,hm,rfl,rfl,hQl⟩:=hrel
    replace e3:=qcell hQl e3
    have hQw:=Q.trans hQ3 hQl
    by_cases hlm:m<xm.length
    ·obtain ⟨b2,o2,rfl,c0⟩:=HN3.out _ hQl m hlm
     obtain ⟨hz0,hz1⟩:=HNu.out m hlm
     have HK:=LH (HTK.out m hlm)
     have hJ:=HJL.out (3+m)
     have hmz:(m:Int)<xm.length:=by omega
     have hm0:(0:Int)≤m:=by omega
     clear HN3 HNu HTK HJL
     generalize atI xm m=z at *
     have hil:=itoa_six hz0 hz1
     have HI:=LH (ref42_num z hz0 hz1)
     generalize Lib.itoa z=Z at *
     have HK2:Hid (T0++joinF (L.take (3+(m+1)))=T0++joinF (L.take (3+m))++[32]++Z):=LH (by rw [HK.out]; simp)
     clear HK
     generalize joinF (L.take (3+m))=J at *
     have a1:=add_rule0 Tryz.prog (T0++J) [32] (by simp; omega)
     have a2:=add_rule0 Tryz.prog (T0++J++[32]) Z (by simp; omega)
     generalize T0++J++[32]++Z=S2 at *
     generalize T0++J++[32]=S1 at *
     generalize T0++J=S0 at *
     go_wp2_with fail
     refine (HI.out _).mono ?_
     rintro e w4 ⟨rfl,hq4⟩
     have hQ4:=Q.trans hQl hq4
     clear HI e3 c0 hq4 hQw
     go_wp2
     go_roundw
     case rel=>exact ⟨m+1,by omega,by go_num,by rw [HK2.out],hQ4⟩
     case measure=>simp [intOf]; omega
    ·obtain rfl:m=xm.length:=by omega
     have HK2:Hid (textF (l.take (k+1))=T0++joinF (L.take (3+xm.length))++[10]):=LH (by rw [HTk.out,HJe.out]; simp)
     have hJ:=HJL.out (3+xm.length)
     clear HN3 HNu HTK HJL HJe HTk
     generalize joinF (L.take (3+xm.length))=J at *
     have a1:=add_rule0 Tryz.prog (T0++J) [10] (by simp; omega)
     generalize T0++J++[10]=S1 at *
     generalize T0++J=S0 at *
     go_wp2
     go_roundw
     case rel=>exact ⟨k+1,by omega,by go_num,by rw [HK2.out],bt⟩
     case measure=>simp [intOf]; omega
  ·obtain rfl:k=l.length:=by omega
   have hL:=HL.out
   rw [hL]
   clear HV HT HB HL HO hL
   go_wp2
   go_ret
   exact ⟨rfl,hQ⟩
theorem ref_Print (l:List Ct) (hg:Good l) (v:Value) (w:World) (hv:CtSl w v l) :
  Calls Tryz.prog 24 #[v] w fun e w'=>e=.returned (.tuple #[.string ⟨(textF l).toArray⟩,.int .i64 0])∧Q w w':=by
 have hC:=ref_Check l (by have:=hg.len; omega) (fun _ hx=>by have:=(hg.txt _ hx).2; omega) v w hv
 rw [(good_iff l).2 hg] at hC
 have HC:=LH hC
 have HT:=LH (fun W (hq:Q w W)=>ref_text l hg.len hg.txt v W (hv.keep hq))
 obtain ⟨a,cap,rfl,-⟩:=hv
 clear hC
 go_enter Tryz.func24,Tryz.ntmps24
 go_wp2_with fail
 refine HC.out.mono ?_
 rintro e w1 ⟨rfl,hq1⟩
 go_wp2_with fail
 refine (HT.out _ hq1).mono ?_
 rintro e w2 ⟨rfl,hq2⟩
 have hQ2:=Q.trans hq1 hq2
 go_wp2
 go_ret2
 exact ⟨rfl,hQ2⟩
open Go.Lib (decDigits itoa)
def readG:Str→List Int→Nat→Bool→List Int
 | [],out,n,b=>if b=true then out++[(n:Int)] else out
 | c::r,out,n,b=>if isDig c=true then readG r out (min (10*n+(c.toNat - 48)) 1073741824) true else readG r (if b=true then out++[(n:Int)] else out) 0 false
theorem readG_dig:∀ (d r:Str) (out:List Int) (n:Nat) (b:Bool),AllDig d→nvalF d n<10000000→readG (d++r) out n b=readG r out (nvalF d n) (b || decide (d≠[]))
 | [],r,out,n,b,_,_=>by simp [nvalF]
 | c::d,r,out,n,b,h,hv=>by
  have h1:nvalF (c::d) n=nvalF d (10*n+(c.toNat - 48)):=rfl
  have h2:=nvalF_eq d (10*n+(c.toNat - 48))
  have h3:10*n+(c.toNat - 48)≤(10*n+(c.toNat - 48))*10 ^ d.length:=Nat.le_mul_of_pos_right _ (Nat.pow_pos (by decide))
  rw [List.cons_append,readG,if_pos (h c (by simp)),Nat.min_eq_left (by rw [h1] at hv; omega),readG_dig d r out _ true (fun z hz=>h z (by simp [hz])) (by rw [← h1]; exact hv),← h1]
  simp
theorem read_join:∀ (z:Int) (l:List Int) (out:List Int),(∀ y∈z::l,0≤y∧y<10000000)→readG (joinF (z::l)) out 0 false=out++(z::l)
 | z,[],out,h=>by
  have hz:=h z (by simp)
  have hv:nvalF (decDigits z.toNat) 0=z.toNat:=nval_decDigits _
  rw [show joinF [z]=itoa z++[] by simp [joinF],itoa_nonneg hz.1,readG_dig _ _ _ _ _ (decDigits_dig _) (by rw [hv]; omega),hv]
  rw [readG,show (false || decide (decDigits z.toNat≠[]))=true by simp [decDigits_ne],if_pos rfl]
  rw [show ((z.toNat:Nat):Int)=z by omega]
 | z,b::r,out,h=>by
  have hz:=h z (by simp)
  have hv:nvalF (decDigits z.toNat) 0=z.toNat:=nval_decDigits _
  rw [joinF_two,itoa_nonneg hz.1,readG_dig _ _ _ _ _ (decDigits_dig _) (by rw [hv]; omega),hv]
  rw [readG,if_neg (by decide),show (false || decide (decDigits z.toNat≠[]))=true by simp [decDigits_ne],if_pos rfl,read_join b r _ (fun y hy=>h y (by simp at hy ⊢; exact .inr hy))]
  rw [show ((z.toNat:Nat):Int)=z by omega]; simp
def rlines (s:Str):Option (List Ct) :=
 if _h:has 10 s=true then match pieceV (readG (bef 10 s) [] 0 false) with | none=>none | some x=>(rlines (aft 10 s)).map (x::·) else some []
termination_by s.length
decreasing_by exact aft_lt s _h
theorem rlines_no {s:Str} (h:has 10 s=false):rlines s=some []:=by rw [rlines,dif_neg (by rw [h]; decide)]
theorem rlines_yes {s:Str} (h:has 10 s=true) {x:Ct} (hx:pieceV (readG (bef 10 s) [] 0 false)=some x):rlines s=(rlines (aft 10 s)).map (x::·):=by rw [rlines,dif_pos h,hx]
theorem rlines_bad {s:Str} (h:has 10 s=true) (hx:pieceV (readG (bef 10 s) [] 0 false)=none):rlines s=none:=by rw [rlines,dif_pos h,hx]
theorem rlines_text:∀ l:List Ct,(∀ x∈l,PcOk x)→rlines (textF l)=some l
 | [],_=>rlines_no (by simp [has,textF])
 | x::l,h=>by
  have hx:=h x (by simp)
  have hn:=hx.nums
  have hp:¬ (10:UInt8)∈joinF (numF x):=joinF_plain (by decide) (by decide) _ (fun z hz=>(hn z hz).1)
  rw [textF_cons,rlines_yes has_app (x:=x) (by
   rw [bef_app hp]
   have:=read_join x.w (x.d::x.n::x.ms) [] hn
   rw [show joinF (numF x)=joinF (x.w::x.d::x.n::x.ms) from rfl,this]
   exact pieceV_num hx.some),aft_app hp,rlines_text l (fun y hy=>h y (by simp [hy]))]; rfl
theorem readG_len:∀ (s:Str) (out:List Int) (n:Nat) (b:Bool),(readG s out n b).length≤out.length+s.length+1
 | [],out,n,b=>by rw [readG]; split <;> simp
 | c::r,out,n,b=>by
  rw [readG]
  split
  ·have:=readG_len r out (min (10*n+(c.toNat - 48)) 1073741824) true
   simp only [List.length_cons]; omega
  ·have:=readG_len r (if b=true then out++[(n:Int)] else out) 0 false
   have h2:(if b=true then out++[(n:Int)] else out).length≤out.length+1:=by split <;> simp
   simp only [List.length_cons]; omega
theorem readG_at {s:Str} {k:Nat} (h:k<s.length) (out:List Int) (n:Nat) (b:Bool):readG (s.drop k) out n b =
  if isDig (at0 s k)=true then readG (s.drop (k+1)) out (min (10*n+((at0 s k).toNat - 48)) 1073741824) true else readG (s.drop (k+1)) (if b=true then out++[(n:Int)] else out) 0 false:=by
 rw [List.drop_eq_getElem_cons h,readG,at0_get s k h]
set_option maxRecDepth 100000 in
theorem ref_read (s:Str) (hs:s.length≤60000) (w:World) :
  Calls Tryz.prog 43 #[.string ⟨s.toArray⟩] w fun e w'=>∃ v,e=.returned v∧w'.ownsRow w.heap.size 3 1 v (readG s [] 0 false).length (numC (readG s [] 0 false))∧Q w w':=by
 obtain ⟨i0,ci,cz0,cz1,cz2⟩:=info_parts infoInt
 have HL:=LH (readG_len s [] 0 false)
 have hsz:(s.length:Int)≤60000:=by omega
 obtain ⟨R,hR⟩:∃ R,readG s [] 0 false=R:=⟨_,rfl⟩
 have HR:=LH hR
 rw [hR] at HL ⊢
 clear hR
 go_enter Tryz.func43,Tryz.ntmps43
 go_wp2
 go_loopw [6,3,4,5] (fun i o n b wr=>∃ (k:Nat) (out:List Int) (m:Nat) (c:Bool),k≤s.length+1∧i=.int .i64 k∧n=.int .i64 m∧b=.bool c∧m≤1073741824∧Hid (out.length≤k)∧Hid (k≤s.length→readG (s.drop k) out m c=R)∧Hid (k=s.length+1→out=R)∧wr.ownsRow w.heap.size 3 1 o out.length (numC out)∧Q w wr) (fun i _ _ _ _=>s.length+1 - (intOf i).toNat)
 case atStart=>exact ⟨0,[],0,false,by omega,rfl,rfl,rfl,by omega,LH (Nat.zero_le _),LH (fun _=>by rw [List.drop_zero]; exact HR.out),LH (fun h=>by omega),⟨rfl,.inr ⟨w.heap.size,0,#[],rfl,Nat.le_refl _,Blk.new w [] 3,Nat.le_refl _,by unfold maxLen; omega,rfl,rfl⟩⟩,bt⟩
 case round =>
  obtain ⟨k,out,m,c,hk,rfl,rfl,rfl,hm,HO,HG,HE,hown,hQ⟩:=hrel
  by_cases hk1:k≤s.length
  ·have hout:out.length≤60001:=by have:=HO.out; omega
   have hkz:(k:Int)≤s.length:=by omega
   have hk0:(0:Int)≤k:=by omega
   by_cases hlt:k<s.length
   ·have hlz:(k:Int)<s.length:=by omega
    have hG:=HG.out hk1
    rw [readG_at hlt] at hG
    cases hd:isDig (at0 s k)
    ·rw [hd,if_neg (by decide)] at hG
     have HG2:Hid (k+1≤s.length→readG (s.drop (k+1)) (if c=true then out++[(m:Int)] else out) 0 false=R):=LH (fun _=>hG)
     have HG3:Hid (k+1=s.length+1→(if c=true then out++[(m:Int)] else out)=R):=LH (fun h=>by omega)
     have hno:=(isDig_false_iff _).1 hd
     clear hG HG HE HR HL hd
     have hni:(48≤((at0 s k).toNat:Int)∧¬ ((at0 s k).toNat:Int)≤57)∨¬ 48≤((at0 s k).toNat:Int):=by omega
     clear hno
     have hsw:=hQ.size
     cases c
     ·simp only [Bool.false_eq_true,if_false] at HG2 HG3
      have HO2:Hid (out.length≤k+1):=LH (by have:=HO.out; omega)
      clear HO
      rcases hni with ⟨g1,g2⟩ | g1
      all_goals
       go_wp2
       go_roundw
       case rel=>exact ⟨k+1,out,0,false,by omega,by go_num,rfl,rfl,by omega,HO2,HG2,HG3,hown,hQ⟩
       case measure=>simp [intOf]; omega
     ·simp only [if_true] at HG2 HG3
      have HO2:Hid ((out++[(m:Int)]).length≤k+1):=LH (by rw [List.length_append]; have:=HO.out; simp; omega)
      clear HO
      rcases hni with ⟨g1,g2⟩ | g1
      all_goals
       go_wp2_with (at_builtin; refine wpList_append_own _ rfl (.tmp 40) (.tmp 42) 40 rfl w.heap.size 3 i0 _ 1 8 Tryz.underlying40 ci cz0 cz1 cz2 rfl (by decide) _ out.length (numC out) rfl (hown.alloc _) ⟨wr.heap.size,0,none⟩ 1 1 [.int .i64 m] rfl rfl (cell_one_new _ _ _) (by simp [Value.oneCell']) (by unfold maxLen; omega) (by omega) (by simp; omega) ?_)
       intro v' w1 hown' hgrow _
       have hlt1:=fun j hj=>(hown.lt j hj).1
       have hQ1:Q w w1:=Below.trans hQ (((Below.refl w.heap.size wr).alloc hsw _).grown hgrow (by simp; omega) hlt1)
       have HO1:Hid (w1.ownsRow w.heap.size 3 1 v' (out++[(m:Int)]).length (numC (out++[(m:Int)]))):=LH (by
        have e:numC (out++[(m:Int)])=numC out++[.int .i64 m]:=by unfold numC; rw [List.map_append]; rfl
        rw [e,List.length_append]; exact hown')
       clear hown' hgrow hlt1 hown hQ
       go_wp2
       go_roundw
       case rel=>exact ⟨k+1,out++[(m:Int)],0,false,by omega,by go_num,rfl,rfl,by omega,HO2,HG2,HG3,HO1.out,hQ1⟩
       case measure=>simp [intOf]; omega
    ·rw [hd,if_pos rfl] at hG
     have HG2:Hid (k+1≤s.length→readG (s.drop (k+1)) out (min (10*m+((at0 s k).toNat - 48)) 1073741824) true=R):=LH (fun _=>hG)
     have HG3:Hid (k+1=s.length+1→out=R):=LH (fun h=>by omega)
     have HO2:Hid (out.length≤k+1):=LH (by have:=HO.out; omega)
     obtain ⟨d1,d2⟩:=(isDig_iff _).1 hd
     clear hG HG HE HR HL hd HO
     obtain ⟨dg,hdg0⟩:∃ dg,(at0 s k).toNat=48+dg:=⟨(at0 s k).toNat - 48,by omega⟩
     have hci:(((at0 s k).toNat:Nat):Int)=48+(dg:Int):=by omega
     rw [hdg0,show 48+dg - 48=dg by omega] at HG2
     have hd9:(dg:Int)≤9:=by omega
     have hd57:48+(dg:Int)≤57:=by omega
     clear d1 d2
     have hdg:dg<10:=by omega
     have hw1:IntKind.i64.wrap (10*(m:Int))=10*(m:Int):=Go.IntWalk.i64_in _ (by omega)
     have hw2:IntKind.u8.wrap (dg:Int)=dg:=Go.IntWalk.u8_in _ (by omega)
     have hw3:IntKind.i64.wrap (dg:Int)=dg:=Go.IntWalk.i64_in _ (by omega)
     have hw4:IntKind.i64.wrap (10*(m:Int)+dg)=10*(m:Int)+dg:=Go.IntWalk.i64_in _ (by omega)
     have hmn:min (10*(m:Int)+dg) 1073741824=((min (10*m+dg) 1073741824:Nat):Int):=by omega
     have hm2:min (10*m+dg) 1073741824≤1073741824:=Nat.min_le_right _ _
     generalize min (10*m+dg) 1073741824=m2 at *
     clear hdg0
     go_wp2
     go_roundw
     case rel=>exact ⟨k+1,out,m2,true,by omega,by go_num,by congr 1; omega,rfl,hm2,HO2,HG2,HG3,hown,hQ⟩
     case measure=>simp [intOf]; omega
   ·obtain rfl:k=s.length:=by omega
    have hG:=HG.out (Nat.le_refl _)
    rw [List.drop_length,readG] at hG
    have HG3:Hid ((if c=true then out++[(m:Int)] else out)=R):=LH hG
    have HG4:Hid (s.length+1≤s.length→readG (s.drop (s.length+1)) (if c=true then out++[(m:Int)] else out) 0 false=R):=LH (fun h=>by omega)
    clear hG HG HE HR HL
    have hsw:=hQ.size
    cases c
    ·simp only [Bool.false_eq_true,if_false] at HG4 HG3
     have HO2:Hid (out.length≤s.length+1):=LH (by have:=HO.out; omega)
     clear HO
     go_wp2
     go_roundw
     case rel=>exact ⟨s.length+1,out,0,false,by omega,by go_num,rfl,rfl,by omega,HO2,HG4,LH (fun _=>HG3.out),hown,hQ⟩
     case measure=>simp [intOf]
    ·simp only [if_true] at HG4 HG3
     have HO2:Hid ((out++[(m:Int)]).length≤s.length+1):=LH (by rw [List.length_append]; have:=HO.out; simp; omega)
     clear HO
     go_wp2_with (at_builtin; refine wpList_append_own _ rfl (.tmp 40) (.tmp 42) 40 rfl w.heap.size 3 i0 _ 1 8 Tryz.underlying40 ci cz0 cz1 cz2 rfl (by decide) _ out.length (numC out) rfl (hown.alloc _) ⟨wr.heap.size,0,none⟩ 1 1 [.int .i64 m] rfl rfl (cell_one_new _ _ _) (by simp [Value.oneCell']) (by unfold maxLen; omega) (by omega) (by simp; omega) ?_)
     intro v' w1 hown' hgrow _
     have hlt1:=fun j hj=>(hown.lt j hj).1
     have hQ1:Q w w1:=Below.trans hQ (((Below.refl w.heap.size wr).alloc hsw _).grown hgrow (by simp; omega) hlt1)
     have HO1:Hid (w1.ownsRow w.heap.size 3 1 v' (out++[(m:Int)]).length (numC (out++[(m:Int)]))):=LH (by
      have e:numC (out++[(m:Int)])=numC out++[.int .i64 m]:=by unfold numC; rw [List.map_append]; rfl
      rw [e,List.length_append]; exact hown')
     clear hown' hgrow hlt1 hown hQ
     go_wp2
     go_roundw
     case rel=>exact ⟨s.length+1,out++[(m:Int)],0,false,by omega,by go_num,rfl,rfl,by omega,HO2,HG4,LH (fun _=>HG3.out),HO1.out,hQ1⟩
     case measure=>simp [intOf]
  ·obtain rfl:k=s.length+1:=by omega
   obtain rfl:=HE.out rfl
   have hz:¬ ((s.length:Int)+1≤s.length):=by omega
   clear HO HG HE HR HL
   go_wp2
   go_ret
   exact ⟨_,rfl,hown,hQ⟩
theorem seg_step {s:Str} {f k:Nat} (hf:f≤k) (hk:k<s.length):(s.drop f).take (k+1 - f)=(s.drop f).take (k - f)++[at0 s k]:=by
 rw [show k+1 - f=(k - f)+1 by omega,List.take_succ_eq_append_getElem (by rw [List.length_drop]; omega),List.getElem_drop,at0_get s k hk]
 simp only [show f+(k - f)=k by omega]
theorem seg_cut {s:Str} {f k:Nat} (hf:f≤k) (hk:k<s.length):s.drop f=(s.drop f).take (k - f)++at0 s k::s.drop (k+1):=by
 conv=>lhs; rw [← List.take_append_drop (k - f) (s.drop f)]
 rw [List.drop_drop,show f+(k - f)=k by omega,List.drop_eq_getElem_cons hk,at0_get s k hk]
theorem seg_ext (s:Str) (f k:Nat):(⟨s.toArray⟩:ByteArray).extract f k=⟨((s.drop f).take (k - f)).toArray⟩:=by
 apply ba_ext
 simp [List.take_drop]
def ParseR (s:Str) (v:Value) (er:Int) (W:World):Prop:=(er=3∧(∃ a c,v=.slice a 0 c)∧∀ L,¬ Shows s L)∨(er=0∧∃ L,Shows s L∧CtSl W v L)
theorem Shows.read {s:Str} {L:List Ct} (h:Shows s L):rlines s=some L:=by
 rw [← h.2.2]; exact rlines_text L (fun _ hx=>h.2.1.ok hx)
set_option maxRecDepth 100000 in
theorem ref_Parse (s:Str) (hs:s.length≤60000) (w:World) :
  Calls Tryz.prog 25 #[.string ⟨s.toArray⟩] w fun e w'=>∃ v er,e=.returned (.tuple #[v,.int .i64 er])∧Hid (ParseR s v er w')∧Q w w':=by
 obtain ⟨c0,ci,cz0,cz1,cz2⟩:=info_parts infoCutY
 have hl0:decide ((65536:Int)<(s.length:Int))=false:=by simp; omega
 have hsz:(s.length:Int)≤60000:=by omega
 go_enter Tryz.func25,Tryz.ntmps25
 go_wp2
 go_loopw [6,4,5] (fun i o f wr=>∃ (k fr:Nat) (L:List CV),k≤s.length∧i=.int .i64 k∧f=.int .i64 fr∧fr≤k∧L.length≤fr∧Hid (¬ (10:UInt8)∈(s.drop fr).take (k - fr))∧Hid (rlines s=(rlines (s.drop fr)).map (L.map (·.1)++·))∧Hid (∀ p∈L,NumO wr p∧p.1.ms.length≤100000)∧wr.ownsRow w.heap.size 42 4 o L.length (rowOf cvC L)∧Q w wr) (fun i _ _ _=>s.length - (intOf i).toNat)
 case atStart=>exact ⟨0,0,[],by omega,rfl,rfl,by omega,by simp,LH (by simp),LH (by rw [List.drop_zero]; cases rlines s <;> rfl),LH (fun p hp=>by cases hp),⟨rfl,.inr ⟨w.heap.size,0,#[],rfl,Nat.le_refl _,Blk.new w [] 42,Nat.le_refl _,by unfold maxLen; omega,rfl,rfl⟩⟩,bt⟩
 case round =>
  obtain ⟨k,fr,L,hk,rfl,rfl,hfr,hLf,HN,HP,HM,hown,hQ⟩:=hrel
  by_cases hlt:k<s.length
  ·have hkz:(k:Int)<s.length:=by omega
   have hk0:(0:Int)≤k:=by omega
   by_cases h10:at0 s k=10
   ·have hci:((at0 s k).toNat:Int)=10:=by rw [h10]; rfl
    have HH:Hid (has 10 (s.drop fr)=true∧bef 10 (s.drop fr)=(s.drop fr).take (k - fr)∧aft 10 (s.drop fr)=s.drop (k+1)):=LH (by
     have e:=seg_cut hfr hlt
     rw [h10] at e
     generalize (s.drop fr).take (k - fr)=g at *
     rw [e]
     exact ⟨has_app,bef_app HN.out,aft_app HN.out⟩)
    have hex:=seg_ext s fr k
    have hgl:((s.drop fr).take (k - fr)).length≤60000:=by rw [List.length_take,List.length_drop]; omega
    have hfz:(fr:Int)≤k:=by omega
    have hf0:(0:Int)≤fr:=by omega
    have hkl:(k:Int)≤s.length:=by omega
    have HRd:=LH (ref_read ((s.drop fr).take (k - fr)) hgl wr)
    have HRl:=LH (readG_len ((s.drop fr).take (k - fr)) [] 0 false)
    have HPc:Hid (∀ x,pieceV (readG ((s.drop fr).take (k - fr)) [] 0 false)=some x→rlines s=(rlines (s.drop (k+1))).map ((L.map (·.1)++[x])++·)):=LH (fun x hx=>by
     obtain ⟨h1,h2,h3⟩:=HH.out
     rw [HP.out,rlines_yes h1 (by rw [h2]; exact hx),h3]
     cases rlines (s.drop (k+1)) with
     | none=>rfl
     | some r=>simp)
    have HPn:Hid (pieceV (readG ((s.drop fr).take (k - fr)) [] 0 false)=none→∀ K,¬ Shows s K):=LH (fun hx K hK=>by
     obtain ⟨h1,h2,h3⟩:=HH.out
     have e:=hK.read
     rw [HP.out,rlines_bad h1 (by rw [h2]; exact hx)] at e; cases e)
    clear HH HP HN h10
    generalize (s.drop fr).take (k - fr)=g at *
    go_wp2_with fail
    refine HRd.out.mono ?_
    rintro e w1 ⟨v1,rfl,hv1,hq1⟩
    have hQ1:=Q.trans hQ hq1
    have how1:=ownsRow_keep hown hq1
    have HM1:Hid (∀ p∈L,NumO w1 p∧p.1.ms.length≤100000):=LH (fun p hp=>⟨(HM.out p hp).1.q hq1,(HM.out p hp).2⟩)
    have hRl:=HRl.out
    simp only [List.length_nil] at hRl
    clear HRd HRl HM hown hq1 hQ
    generalize readG g [] 0 false=R at *
    by_cases h4:R.length<4
    ·have HX:Hid (∀ a c W,ParseR s (.slice a 0 c) 3 W):=LH (fun a c W=>.inl ⟨rfl,⟨a,c,rfl⟩,HPn.out (by unfold pieceV; rw [if_pos h4])⟩)
     obtain ⟨va,vc,rfl⟩:∃ a cp,v1=.slice a R.length cp:=by
      rcases hv1.2 with ⟨rfl,h0⟩ | ⟨g,cap,cur,rfl,_⟩
      ·exact ⟨_,_,by rw [h0]⟩
      ·exact ⟨_,_,rfl⟩
     have hz4:(R.length:Int)<4:=by omega
     clear HPc HPn HM1 how1 hv1 h4
     go_wp2
     go_ret2
     exact ⟨_,_,rfl,LH (HX.out _ _ _),bt⟩
    ·have HP2:=LH (HPc.out ⟨atI R 0,atI R 1,atI R 2,R.drop 3⟩ (by unfold pieceV; rw [if_neg h4]))
     rcases id hv1.2 with ⟨-,h0⟩ | ⟨g1,gc,cur,rfl,hg,-,hle,-⟩
     ·omega
     have hcell:=num_cells rfl hv1
     have r0:=hcell 0 (by omega)
     have r1:=hcell 1 (by omega)
     have r2:=hcell 2 (by omega)
     have hnum:=num_dropO rfl hv1 ⟨atI R 0,atI R 1,atI R 2,R.drop 3⟩ rfl
     have hdl:(R.drop 3).length=R.length - 3:=List.length_drop
     clear hcell hv1 HPc HPn
     generalize atI R 0=x1 at *
     generalize atI R 1=x2 at *
     generalize atI R 2=x3 at *
     generalize R.drop 3=xm at *
     generalize hnn:R.length=n at *
     have hz4:¬ (n:Int)<4:=by omega
     have hz1:(1:Int)<n:=by omega
     have hz2:(2:Int)<n:=by omega
     have hz3:(3:Int)≤n:=by omega
     have hz0:0<n:=by omega
     have hgc:¬ gc=3:=by omega
     clear hnn h4
     go_wp2_with fail
     have s0:w1.drew.cell? ⟨g1,0,none⟩=some (.int .i64 x1):=r0
     have s1:w1.drew.cell? ⟨g1,1,none⟩=some (.int .i64 x2):=r1
     have s2:w1.drew.cell? ⟨g1,2,none⟩=some (.int .i64 x3):=r2
     refine wp_steadily 14 rfl (by kernel_rfl) rfl ?_
     refine svp 0 ?_
     refine svp 1 ?_
     refine svp 2 ?_
     refine svr 3 s0 ?_
     refine svp 4 ?_
     refine svp 5 ?_
     refine svr 6 s1 ?_
     refine svp 7 ?_
     refine svp 8 ?_
     refine svr 9 s2 ?_
     refine svp 10 ?_
     refine svp 11 ?_
     refine svp 12 ?_
     refine steadily_make (i:=13) (fun w'=>.slice (some ⟨w'.heap.size,0,none⟩) 1 1) (.cells #[.int .i64 x1,.int .i64 x2,.int .i64 x3,.slice (some ⟨g1,3,none⟩) (n - 3) (gc - 3)] 42) rfl rfl (by kernel_rfl) (by rfl) (fun w' hq=>?_) (fun w2 hq2=>?_)
     ·go_simp
     simp only [Act.put,zs1,zs2,zs3]
     have B2:=Blk.new w2 [.int .i64 x1,.int .i64 x2,.int .i64 x3,.slice (some ⟨g1,3,none⟩) (n - 3) (gc - 3)] 42
     have hq12a:Q w1 (w2.alloc (.cells [.int .i64 x1,.int .i64 x2,.int .i64 x3,.slice (some ⟨g1,3,none⟩) (n - 3) (gc - 3)].toArray 42)):=Q.trans (Below.drew (Q.refl w1)) (Q.trans hq2 ((Below.refl _ w2).alloc (Nat.le_refl _) _))
     refine steadily_done (by kernel_rfl) (fun w3 hq3=>?_)
     have hq13:Q w1 w3:=Q.trans hq12a hq3
     have B3:=B2.keep hq3 B2.lt
     have hb3:=B3.lt
     generalize w2.heap.size=g2 at *
     have hQ3:=Q.trans hQ1 hq13
     have how3:=ownsRow_keep how1 hq13
     have hnum3:=hnum.q hq13
     have HM3:Hid (∀ p∈L,NumO w3 p∧p.1.ms.length≤100000):=LH (fun p hp=>⟨(HM1.out p hp).1.q hq13,(HM1.out p hp).2⟩)
     have hw3:=hQ3.size
     clear s0 s1 s2 r0 r1 r2 hq2 hq3 hq12a hq13 HM1 hnum how1 hQ1 B2
     simp only [List.drop_succ_cons,List.drop_zero]
     have hL6:L.length≤60000:=by omega
     have hRw:Hid (rowOf cvC (L++[(⟨x1,x2,x3,xm⟩,.slice (some ⟨g1,3,none⟩) (n - 3) (gc - 3))])=rowOf cvC L++[.int .i64 x1,.int .i64 x2,.int .i64 x3,.slice (some ⟨g1,3,none⟩) (n - 3) (gc - 3)]):=LH (rowOf_snoc _ _)
     have hLe:Hid ((L++[((⟨x1,x2,x3,xm⟩:Ct),Value.slice (some ⟨g1,3,none⟩) (n - 3) (gc - 3))]).length=L.length+1):=LH (by simp)
     go_wp2_with (at_builtin; refine wpList_append_own_at _ rfl (.tmp 32) (.tmp 45) 22 rfl w.heap.size 42 c0 _ 4 48 Tryz.underlying22 ci cz0 cz1 cz2 rfl (by decide) _ L.length (rowOf cvC L) rfl how3 ⟨g2,0,none⟩ 1 1 [.int .i64 x1,.int .i64 x2,.int .i64 x3,.slice (some ⟨g1,3,none⟩) (n - 3) (gc - 3)] rfl rfl (fun j z hj=>by rw [Addr.add_lit,Nat.zero_add]; exact (B3.cell j).trans hj) (by intro z hz; simp only [List.mem_cons,List.not_mem_nil,or_false] at hz; rcases hz with rfl | rfl | rfl | rfl <;> rfl) (by unfold maxLen; omega) (by omega) hw3 ?_)
     intro o' w6 hown6 hgrow6 _ _
     have hlt6:=fun k hk=>(how3.lt k hk).1
     have hQ6:Q w w6:=Below.trans hQ3 ((Below.refl _ _).grown hgrow6 hw3 hlt6)
     have HM6:Hid (∀ p∈L++[((⟨x1,x2,x3,xm⟩:Ct),Value.slice (some ⟨g1,3,none⟩) (n - 3) (gc - 3))],NumO w6 p∧p.1.ms.length≤100000):=LH (fun p hp=>by
      rcases List.mem_append.1 hp with h | h
      ·exact ⟨((HM3.out p h).1).grown how3 hgrow6,(HM3.out p h).2⟩
      ·rw [List.mem_singleton] at h
       subst h
       exact ⟨hnum3.grown how3 hgrow6,by show xm.length≤100000; omega⟩)
     have HO6:Hid (w6.ownsRow w.heap.size 42 4 o' (L++[((⟨x1,x2,x3,xm⟩:Ct),Value.slice (some ⟨g1,3,none⟩) (n - 3) (gc - 3))]).length (rowOf cvC (L++[(⟨x1,x2,x3,xm⟩,.slice (some ⟨g1,3,none⟩) (n - 3) (gc - 3))]))):=LH (by rw [hRw.out,hLe.out]; exact hown6)
     have HP6:Hid (rlines s=(rlines (s.drop (k+1))).map ((L++[((⟨x1,x2,x3,xm⟩:Ct),Value.slice (some ⟨g1,3,none⟩) (n - 3) (gc - 3))]).map (·.1)++·)):=LH (by rw [HP2.out,List.map_append]; rfl)
     have hw9:IntKind.i64.wrap ((k:Int)+1)=(k:Int)+1:=Go.IntWalk.i64_in _ (by omega)
     clear hown6 hgrow6 how3 hlt6 HM3 HP2 hRw B3 hnum3
     go_wp2
     go_roundw
     case rel=>exact ⟨k+1,k+1,_,by omega,by go_num,by go_num,Nat.le_refl _,by rw [hLe.out]; omega,LH (by simp),HP6,HM6,HO6.out,hQ6⟩
     case measure=>simp [intOf]; omega
   ·have hne:(((at0 s k).toNat:Int) == 10)=false:=by
     rw [beq_eq_false_iff_ne]; intro e
     exact h10 (UInt8.toNat_inj.1 (by show (at0 s k).toNat=10; omega))
    have HN2:Hid (¬ (10:UInt8)∈(s.drop fr).take (k+1 - fr)):=LH (by
     rw [seg_step hfr hlt,List.mem_append,List.mem_singleton,not_or]
     exact ⟨HN.out,fun e=>h10 e.symm⟩)
    have hne2:¬ ((at0 s k).toNat:Int)=10:=by simpa using hne
    clear h10 HN
    go_wp2
    go_roundw
    case rel=>exact ⟨k+1,fr,L,by omega,by go_num,rfl,by omega,hLf,HN2,HP,HM,hown,hQ⟩
    case measure=>simp [intOf]; omega
  ·obtain rfl:k=s.length:=by omega
   have HL:Hid (rlines s=some (L.map (·.1))):=LH (by
    have hh:has 10 (s.drop fr)=false:=by
     have h:=HN.out
     rw [← List.length_drop,List.take_length] at h
     simpa [has] using h
    rw [HP.out,rlines_no hh]; simp)
   have HCt:Hid (CtSl wr u4 (L.map (·.1))):=LH (CtSl.of (RowSl.of_row cvC_len hown) (fun p hp=>(HM.out p hp).1.num))
   have hLl:(L.map (·.1)).length≤60000:=by rw [List.length_map]; omega
   have HC:=LH (ref_Check (L.map (·.1)) (by omega) (fun x hx=>by
    obtain ⟨p,hp,rfl⟩:=List.mem_map.1 hx
    have:=(HM.out p hp).2; omega) u4 wr HCt.out)
   obtain ⟨oa,oc,rfl⟩:∃ a cp,u4=.slice a (L.map (·.1)).length cp:=by
    rcases hown.2 with ⟨rfl,h0⟩ | ⟨g,cap,cur,rfl,_⟩
    ·exact ⟨_,_,by rw [List.length_map,h0]⟩
    ·exact ⟨_,_,by rw [List.length_map]⟩
   clear HP HM HN hown hLf
   generalize L.map (·.1)=K at *
   by_cases hc:chkF K=0
   ·have hG:=(good_iff K).1 hc
    have HT:=LH (fun W (hq:Q wr W)=>ref_text K hG.len hG.txt (.slice oa K.length oc) W (HCt.out.keep hq))
    rw [hc] at HC
    clear hc
    by_cases ht:textF K=s
    ·have HX:Hid (∀ W,Q wr W→ParseR s (.slice oa K.length oc) 0 W):=LH (fun W hq=>.inr ⟨rfl,K,by rw [← ht]; exact shows_text hG,HCt.out.keep hq⟩)
     rw [ht] at HT
     clear hG HL HCt ht
     go_wp2_with fail
     refine HC.out.mono ?_
     rintro e w1 ⟨rfl,hq1⟩
     go_wp2_with fail
     refine (HT.out _ hq1).mono ?_
     rintro e w2 ⟨rfl,hq2⟩
     have hq12:=Q.trans hq1 hq2
     have HX2:=LH (HX.out _ hq12)
     have hQ2:=Q.trans hQ hq12
     clear HX hq1 hq2 hq12 HC HT
     go_wp2
     go_ret2
     exact ⟨_,_,rfl,HX2,hQ2⟩
    ·have HX:Hid (∀ a c W,ParseR s (.slice a 0 c) 3 W):=LH (fun a c W=>.inl ⟨rfl,⟨a,c,rfl⟩,fun L h=>ht (by
      have e:=HL.out.symm.trans h.read
      injection e with e
      rw [e]; exact h.2.2)⟩)
     have hne:(textF K == s)=false:=by rw [beq_eq_false_iff_ne]; exact ht
     clear hG HL HCt ht
     generalize textF K=T at *
     go_wp2_with fail
     refine HC.out.mono ?_
     rintro e w1 ⟨rfl,hq1⟩
     go_wp2_with fail
     refine (HT.out _ hq1).mono ?_
     rintro e w2 ⟨rfl,hq2⟩
     have hQ2:=Q.trans hQ (Q.trans hq1 hq2)
     clear hq1 hq2 HC HT
     go_wp2
     go_ret2
     exact ⟨_,_,rfl,LH (HX.out _ _ _),bt⟩
   ·have HX:Hid (∀ a c W,ParseR s (.slice a 0 c) 3 W):=LH (fun a c W=>.inl ⟨rfl,⟨a,c,rfl⟩,fun L h=>hc (by
     have e:=HL.out.symm.trans h.read
     injection e with e
     rw [e]; exact (good_iff L).2 h.2.1)⟩)
    have hb:(chkF K != 0)=true:=by rw [bne_iff_ne]; exact hc
    clear HL HCt hc
    generalize chkF K=x at *
    go_wp2_with fail
    refine HC.out.mono ?_
    rintro e w1 ⟨rfl,hq1⟩
    have hQ1:=Q.trans hQ hq1
    clear hq1 HC
    go_wp2
    go_ret2
    exact ⟨_,_,rfl,LH (HX.out _ _ _),bt⟩
end
end Go.Proofs.YtohlpeicpoaanaaGreatDoor
