/-
  The law CutlistSplits: its walk.
-/
import Derived.Test.YtohlpeicpoaanaaGreatDoorCQ
import Derived.Test.YtohlpeicpoaanaaGreatDoorCR
import Derived.Test.YtohlpeicpoaanaaGreatDoorCM
import Derived.Test.YtohlpeicpoaanaaGreatDoorCF
namespace Go.Proofs.YtohlpeicpoaanaaGreatDoor
open Go.RowKit Kp Go.Sort
theorem splF_len12:∀ l:List Ct,(∀ x∈l,x.ms.length≤12)→(splF l).length≤12*l.length
 | [],_=>by simp [splF]
 | x::l,h=>by
  have ih:=splF_len12 l (fun y hy=>h y (by simp [hy]))
  have hx:=h x (by simp)
  unfold splF spl at *
  rw [List.flatMap_cons,List.length_append,List.length_map,List.length_cons]
  omega
set_option maxRecDepth 100000 in
set_option maxHeartbeats 8000000 in
theorem splits_law (l:List Ct) (hn:l.length<4611686018427387904) (n:Int) (hn0:0≤n) (hn1:n≤255) (v:Value) (w:World) (hE:Env w) (hv:CtSl w v l) :
  Calls Tryz.prog 3 #[v,.int .u8 n] w fun e w'=>e=.returned (.bool true)∧Q w w':=by
 have HV:Hid (∀ W,Q w W→CtSl W v l):=Lib.hid (fun W hq=>hv.keep hq)
 have HA:=Lib.hid (fun w hw=>awake42 w hw)
 have HG:=Lib.hid (ref_Great l hn v w hv)
 obtain ⟨a,cap,rfl,-⟩:=hv
 go_enter Tryz.func3,Tryz.ntmps3
 go_wp2_with fail
 refine HG.out.mono ?_
 rintro e w1 ⟨g,rfl,hg,rfl⟩
 clear HG
 cases g
 ·obtain ⟨hl12,hm12⟩:=hg.out rfl
  have HCk:=Lib.hid (ref_Check l (by omega) (fun x hx=>by have:=hm12 x hx; omega) (.slice a l.length cap) w (HV.out w (Q.refl w)))
  clear hg
  by_cases hc:chkF l=0
  ·have hG:=(good_iff l).1 hc
   rw [hc] at HCk
   have hm5:∀ x∈l,x.ms.length≤512:=fun x hx=>by have:=hm12 x hx; omega
   have HSp:=Lib.hid (fun w h=>cut_Split l hG hm5 (.slice a l.length cap) w h)
   have HTo:=Lib.hid (fun w h=>cut_Total l hG hm5 (.slice a l.length cap) w h)
   have HSe:=Lib.hid (fun w h=>cut_Sections l hG hm5 (.slice a l.length cap) w h)
   have HCo:=Lib.hid (fun w h=>cut_Covers l hG hm5 n hn0 (by omega) (.slice a l.length cap) w h)
   have hu:IntKind.i64.wrap n=n:=Go.IntWalk.i64_in _ (by omega)
   go_wp2_with fail
   refine HCk.out.mono ?_
   rintro e w1 ⟨rfl,hq1⟩
   clear HCk
   go_wp2_with fail
   refine (HSp.out _ (HV.out _ hq1)).mono ?_
   rintro e w2 ⟨v1,S,rfl,hq2,hS,hv1⟩
   have hQ2:=Q.trans hq1 hq2
   have hSl:S.length≤144:=by
    have h:=splF_len12 l hm12
    rw [hS.perm.length_eq]
    omega
   have hGS:=hS.good hG (by omega)
   have hone:=hS.one
   have hmS:∀ x∈S,x.ms.length≤512:=fun x hx=>by
    obtain ⟨m,hm⟩:=hone x hx
    rw [hm,List.length_singleton]; omega
   have hsec:=hS.sec hG
   have hsecl:=secF_len l []
   rw [List.length_nil] at hsecl
   have HNL:Hid (S.length=(memb l l.length).length):=Lib.hid (by rw [memb_all]; exact hS.len)
   have HSpS:=Lib.hid (fun v w h=>cut_Split S hGS hmS v w h)
   have HToS:=Lib.hid (fun v w h=>cut_Total S hGS hmS v w h)
   have HSeS:=Lib.hid (fun v w h=>cut_Sections S hGS hmS v w h)
   have HCoS:=Lib.hid (fun v w h=>cut_Covers S hGS hmS n hn0 (by omega) v w h)
   rw [hS.tot] at HToS
   rw [hS.cov hG (by omega)] at HCoS
   rw [hsec] at HSeS
   have HCkS:=Lib.hid (fun v w h=>cut_Check S (by omega) (fun x hx=>by have:=hmS x hx; omega) v w h)
   rw [(good_iff S).2 hGS] at HCkS
   have HCon:=Lib.hid (fun v w h=>contains_one S (by omega) hone v w h)
   have HSm:=Lib.hid (fun v1 v2 w h1 h2=>ref_Same S (by omega) (fun x hx=>by have:=hmS x hx; omega) v1 v2 w h1 h2)
   have HEq:=Lib.hid (fun v1 v2 w h1 h2=>equal_sq (secF [] l) (by omega) v1 v2 w h1 h2)
   have HAg:Hid (∀ T,SplOk S T→T=S):=Lib.hid (fun T k=>hS.again hG (by omega) k)
   have HT:Hid (∀ k,k<l.length→(memb l (k+1)).length=(memb l k).length+(ctAt l k).ms.length):=Lib.hid (fun k hk=>by rw [memb_step hk,List.length_append])
   have HM:Hid (∀ k,k<l.length→(ctAt l k).ms.length≤12):=Lib.hid (fun k hk=>hm12 _ (by rw [ctAt_get hk]; exact List.getElem_mem hk))
   have HL:Hid (∀ k,k≤l.length→(memb l k).length≤12*k):=Lib.hid (fun k=>by
    induction k with
    | zero=>intro _; simp [memb]
    | succ k ih =>
     intro hk
     have h1:=ih (by omega)
     have h2:=HT.out k (by omega)
     have h3:=HM.out k (by omega)
     omega)
   have H0:Hid ((memb l 0).length=0):=Lib.hid rfl
   clear hS hGS hone hmS hsec hsecl hG hm5 hm12
   obtain ⟨a1,c1,rfl,-⟩:=id hv1
   generalize covF l n=cv at *
   generalize totF l=tt at *
   generalize secF [] l=sl at *
   go_wp2_with fail
   refine (HSpS.out _ _ hv1).mono ?_
   rintro e w3 ⟨v2,T,rfl,hq3,hT,hv2⟩
   obtain rfl:=HAg.out T hT
   have hQ3:=Q.trans hQ2 hq3
   replace hv1:=hv1.keep hq3
   obtain ⟨a2,c2,rfl,-⟩:=id hv2
   clear hT HAg HSp HSpS
   go_wp2_with fail
   refine (HTo.out _ (HV.out _ hQ3)).mono ?_
   rintro e w4 ⟨rfl,hq4⟩
   have hQ4:=Q.trans hQ3 hq4
   replace hv1:=hv1.keep hq4
   replace hv2:=hv2.keep hq4
   clear HTo
   go_wp2_with fail
   refine (HToS.out _ _ hv1).mono ?_
   rintro e w5 ⟨rfl,hq5⟩
   have hQ5:=Q.trans hQ4 hq5
   replace hv1:=hv1.keep hq5
   replace hv2:=hv2.keep hq5
   clear HToS
   go_wp2_with fail
   refine (HSe.out _ (HV.out _ hQ5)).mono ?_
   rintro e w6 ⟨v3,rfl,hq6,hv3⟩
   have hQ6:=Q.trans hQ5 hq6
   replace hv1:=hv1.keep hq6
   replace hv2:=hv2.keep hq6
   clear HSe
   go_wp2_with fail
   refine (HSeS.out _ _ hv1).mono ?_
   rintro e w7 ⟨v4,rfl,hq7,hv4⟩
   have hQ7:=Q.trans hQ6 hq7
   replace hv1:=hv1.keep hq7
   replace hv2:=hv2.keep hq7
   replace hv3:=hv3.keep hq7
   clear HSeS
   go_wp2_with fail
   refine (HCo.out _ (HV.out _ hQ7)).mono ?_
   rintro e w8 ⟨rfl,hq8⟩
   have hQ8:=Q.trans hQ7 hq8
   replace hv1:=hv1.keep hq8
   replace hv2:=hv2.keep hq8
   replace hv3:=hv3.keep hq8
   replace hv4:=hv4.keep hq8
   clear HCo
   go_wp2_with fail
   refine (HCoS.out _ _ hv1).mono ?_
   rintro e w9 ⟨rfl,hq9⟩
   have hQ9:=Q.trans hQ8 hq9
   replace hv1:=hv1.keep hq9
   replace hv2:=hv2.keep hq9
   replace hv3:=hv3.keep hq9
   replace hv4:=hv4.keep hq9
   clear HCoS
   go_wp2_with fail
   refine (HSm.out _ _ _ hv1 hv2).mono ?_
   rintro e w10 ⟨rfl,hq10⟩
   have hQ10:=Q.trans hQ9 hq10
   replace hv1:=hv1.keep hq10
   replace hv2:=hv2.keep hq10
   replace hv3:=hv3.keep hq10
   replace hv4:=hv4.keep hq10
   clear HSm
   go_wp2_with fail
   refine (HEq.out _ _ _ hv3 hv4).mono ?_
   rintro e w11 ⟨rfl,hq11⟩
   have hQ11:=Q.trans hQ10 hq11
   replace hv1:=hv1.keep hq11
   clear HEq hv2 hv3 hv4 hq1 hq2 hq3 hq4 hq5 hq6 hq7 hq8 hq9 hq10 hq11 hQ2 hQ3 hQ4 hQ5 hQ6 hQ7 hQ8 hQ9 hQ10
   go_wp2
   go_loopw [130,21] (fun i s wr=>∃ k:Nat,k≤l.length∧i=.int .i64 k∧s=.int .i64 ((memb l k).length:Int)∧Q w11 wr) (fun i _ _=>l.length - (intOf i).toNat)
   case atStart=>exact ⟨0,by omega,rfl,by rw [H0.out]; rfl,Q.refl _⟩
   case round =>
    obtain ⟨k,hk,rfl,rfl,hQ⟩:=hrel
    by_cases hlt:k<l.length
    ·obtain ⟨b,o,a2,c2,rfl,hb,hn,e0,e1,e2,e3⟩:=(HV.out _ (Q.trans hQ11 hQ)).at hlt
     have HTk:=Lib.hid (HT.out k hlt)
     have hB:=HL.out k hk
     have hm5:=HM.out k hlt
     clear HV HT HM HL H0 hn HA HCkS HCon HNL
     generalize (ctAt l k).ms.length=m at *
     generalize (ctAt l k).w=x1 at *
     generalize (ctAt l k).d=x2 at *
     generalize (ctAt l k).n=x3 at *
     generalize (memb l k).length=s at *
     have hkz:(k:Int)<l.length:=by omega
     have hk0:(0:Int)≤k:=by omega
     have w2:IntKind.i64.wrap ((s:Int)+(m:Int))=(s:Int)+(m:Int):=Go.IntWalk.i64_in _ (by omega)
     go_wp2
     go_roundw
     case rel=>exact ⟨k+1,by omega,by go_num,by rw [HTk.out]; push_cast; rfl,bt⟩
     case measure=>simp [intOf]; omega
    ·obtain rfl:k=l.length:=by omega
     have hr:=HNL.out
     have hQ12:=Q.trans hQ11 hQ
     replace hv1:=hv1.keep hQ
     clear HV HT HM HL H0 HNL hQ hQ11
     rw [← hr]
     clear hr
     go_wp2_with fail
     refine (HCon.out _ _ hv1).mono ?_
     rintro e w13 ⟨rfl,hq13⟩
     have hQ13:=Q.trans hQ12 hq13
     replace hv1:=hv1.keep hq13
     go_wp2_with fail
     refine (HCkS.out _ _ hv1).mono ?_
     rintro e w14 ⟨rfl,hq14⟩
     have hQ14:=Q.trans hQ13 hq14
     go_wp2_with fail
     refine (HA.out _ (hE.q hQ14)).mono ?_
     rintro e w15 ⟨rfl,hq15⟩
     have hQ15:=Q.trans hQ14 hq15
     go_wp2
     go_ret
     exact ⟨rfl,hQ15⟩
  ·have hb:(chkF l != 0)=true:=by rw [bne_iff_ne]; exact hc
   clear hm12
   generalize chkF l=c at *
   go_wp2_with fail
   refine HCk.out.mono ?_
   rintro e w1 ⟨rfl,hq1⟩
   go_wp2_with fail
   refine (HA.out _ (hE.q hq1)).mono ?_
   rintro e w2 ⟨rfl,hq2⟩
   have hQ2:=Q.trans hq1 hq2
   go_wp2
   go_ret
   exact ⟨rfl,hQ2⟩
 ·clear hg
  go_wp2_with fail
  refine (HA.out _ hE).mono ?_
  rintro e w2 ⟨rfl,hq2⟩
  go_wp2
  go_ret
  exact ⟨rfl,hq2⟩
end Go.Proofs.YtohlpeicpoaanaaGreatDoor
